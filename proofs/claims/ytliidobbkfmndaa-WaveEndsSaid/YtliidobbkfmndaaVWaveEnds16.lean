/- WaveEnds: what the claim's theorem reaches of this seat's texts, part 16, put together by this project's own program (bale.py); conditions: those of each theorem. -/
import Derived.Test.YtliidobbkfmndaaVWaveEnds5
import Derived.Test.YtliidobbkfmndaaVWaveEnds6
import Derived.Test.YtliidobbkfmndaaVWaveEnds7
import Derived.Test.YtliidobbkfmndaaVWaveEnds10
import Derived.Test.YtliidobbkfmndaaVWaveEnds13
import Derived.Test.YtliidobbkfmndaaVWaveEnds15
namespace Go.Proofs.Ytliidobbkfmndaa.HW2
open Go.RowKit Go.Proofs.YtliidobbkfmndaaW.PrintWords Go.Proofs.YtliidobbkfmndaaW.PrintLast Go.Proofs.YtliidobbkfmndaaW.PrintMore
attribute [local go_sem] max2_int min2_int max_two min_two max_three min_three max_four min_four   -- for this text's walks alone
set_option linter.unusedVariables false
set_option linter.unusedSimpArgs false

/-! ### wave_Read: function 9 -/
mutual
def wave_Read.j0 : Nat → List Int → Int → Bool → Int → Int → Bool → Int → Int → Int → Int → Option (Int × Int × Bool × Int × Int × Int × Int × (List (List Int)) × Int)
  | 0, _, _, _, _, _, _, _, _, _, _ => none
  | k + 1, x0, x5, x53, x250000, x250001, x250002, x250003, x250004, x250005, x250006 => if x53 = true then (some (0, 0, false, 0, 0, 0, 0, ([] : List (List Int)), 6)) else ((head_Good.f x250000 x250001 x250002 x250003 x250004 x250005 x250006).bind fun t257 => (if t257 = true then ((wave_Row.f x250000 x250001 x250002 x250003 x250004 x250005 x250006).bind fun t258 => (if t258 = 0 then (none) else (wave_Read.j1 k x0 x5 (decide ((wrap64 (Int.tdiv x5 t258)) > 1048576)) x250000 x250001 x250002 x250003 x250004 x250005 x250006))) else (wave_Read.j1 k x0 x5 true x250000 x250001 x250002 x250003 x250004 x250005 x250006)))
def wave_Read.j1 : Nat → List Int → Int → Bool → Int → Int → Bool → Int → Int → Int → Int → Option (Int × Int × Bool × Int × Int × Int × Int × (List (List Int)) × Int)
  | 0, _, _, _, _, _, _, _, _, _, _ => none
  | k + 1, x0, x5, x64, x250000, x250001, x250002, x250003, x250004, x250005, x250006 => if x64 = true then (some (0, 0, false, 0, 0, 0, 0, ([] : List (List Int)), 7)) else ((wave_Row.f x250000 x250001 x250002 x250003 x250004 x250005 x250006).bind fun t259 => (if t259 = 0 then (none) else (if 44 ≤ (x0.length : Int) then ((wave_first.f k x250000 x250001 x250002 x250003 x250004 x250005 (wrap64 (Int.tdiv x5 t259)) x5).bind fun t261 => ((slices_Equal_byte_byte.f k (x0.take 44) t261).bind fun t264 => (if t264 = true then ((wave_Row.f x250000 x250001 x250002 x250003 x250004 x250005 (wrap64 (Int.tdiv x5 t259))).bind fun t265 => (if t265 = 0 then (none) else (wave_Read.j2 k x0 x5 ((Int.tmod x5 t265) != 0) x250000 x250001 x250002 x250003 x250004 x250005 (wrap64 (Int.tdiv x5 t259))))) else (wave_Read.j2 k x0 x5 true x250000 x250001 x250002 x250003 x250004 x250005 (wrap64 (Int.tdiv x5 t259)))))) else (none))))
def wave_Read.j2 : Nat → List Int → Int → Bool → Int → Int → Bool → Int → Int → Int → Int → Option (Int × Int × Bool × Int × Int × Int × Int × (List (List Int)) × Int)
  | 0, _, _, _, _, _, _, _, _, _, _ => none
  | k + 1, x0, x5, x71, x250000, x250001, x250002, x250003, x250004, x250005, x250006 => if x71 = true then (some (0, 0, false, 0, 0, 0, 0, ([] : List (List Int)), 2)) else (if (x0.length : Int) < (wrap64 (44 + x5)) then (some (0, 0, false, 0, 0, 0, 0, ([] : List (List Int)), 3)) else (if (x0.length : Int) > (wrap64 (44 + x5)) then (some (0, 0, false, 0, 0, 0, 0, ([] : List (List Int)), 4)) else ((wave_form.f x250000 x250001 x250002 x250003 x250004 x250005 x250006).bind fun bt266 => (if 44 ≤ (x0.length : Int) then ((wave_turn.f x250000 x250001 x250002 x250003 x250004 x250005 x250006 (x0.drop 44)).bind fun t269 => ((pack_Unpack.f k bt266.1 bt266.2 x250000 t269).bind fun bt272 => (some (x250000, x250001, x250002, x250003, x250004, x250005, x250006, bt272.1, bt272.2)))) else (none)))))
end
def wave_Read.f (k : Nat) (l0 : List Int) : Option (Int × Int × Bool × Int × Int × Int × Int × (List (List Int)) × Int) := if (l0.length : Int) < 44 then (some (0, 0, false, 0, 0, 0, 0, ([] : List (List Int)), 3)) else (if 40 ≤ 44 then (if 44 ≤ (l0.length : Int) then ((wave_number.f ((l0.take 44).drop 40)).bind fun t242 => (if 22 ≤ 24 then (if 24 ≤ (l0.length : Int) then ((wave_number.f ((l0.take 24).drop 22)).bind fun t244 => (if 24 ≤ 28 then (if 28 ≤ (l0.length : Int) then ((wave_number.f ((l0.take 28).drop 24)).bind fun t246 => (if 34 ≤ 36 then (if 36 ≤ (l0.length : Int) then ((wave_number.f ((l0.take 36).drop 34)).bind fun t248 => (if 4 ≤ (l0.length : Int) then (if (strOfNums (l0.take 4)).toList = ([82, 73, 70, 70] : List UInt8) then (if 8 ≤ 16 then (if 16 ≤ (l0.length : Int) then (if (strOfNums ((l0.take 16).drop 8)).toList = ([87, 65, 86, 69, 102, 109, 116, 32] : List UInt8) then (if 16 ≤ 20 then (if 20 ≤ (l0.length : Int) then ((wave_number.f ((l0.take 20).drop 16)).bind fun t253 => (if t253 = 16 then (if 20 ≤ 22 then (if 22 ≤ (l0.length : Int) then ((wave_number.f ((l0.take 22).drop 20)).bind fun t255 => (if t255 = 1 then (if 36 ≤ 40 then (if 40 ≤ (l0.length : Int) then (wave_Read.j0 k l0 t242 ((strOfNums ((l0.take 40).drop 36)).toList != ([100, 97, 116, 97] : List UInt8)) t244 t248 false t246 16 0 0) else (none)) else (none)) else (wave_Read.j0 k l0 t242 true t244 t248 false t246 16 0 0))) else (none)) else (none)) else (wave_Read.j0 k l0 t242 true t244 t248 false t246 16 0 0))) else (none)) else (none)) else (wave_Read.j0 k l0 t242 true t244 t248 false t246 16 0 0)) else (none)) else (none)) else (wave_Read.j0 k l0 t242 true t244 t248 false t246 16 0 0)) else (none))) else (none)) else (none))) else (none)) else (none))) else (none)) else (none))) else (none)) else (none))
def wave_Read.T4 : Bool × List (List Nat × List Nat) := (true, [([], []), ([0], [0]), ([1], [1]), ([], []), ([3], [3]), ([4, 2], [4]), ([], []), ([6], [6]), ([7, 5], [7]), ([2, 5, 8], [2, 5, 8]), ([], []), ([10, 9, 8, 0, 1, 2, 3, 4, 5, 6, 7, 8, 9, 10], [9, 10])])
def wave_Read.B4 : List Nat := [0, 1, 3, 0, 8, 31, 0, 64, 255, 511, 0, 2047]
theorem wave_Read.tab4 : rtab .any (opsOf Try.f9 4) = wave_Read.T4 := by kernel_rfl
theorem wave_Read.bits4 : waitsOk wave_Read.T4.2 wave_Read.B4 = true := by kernel_rfl
def wave_Read.T10 : Bool × List (List Nat × List Nat) := (true, [([], []), ([0], [0]), ([], []), ([], []), ([2, 3], [2, 3]), ([1, 4, 4], [1, 4]), ([5], [5]), ([6, 5], [6]), ([7], [7]), ([7], [7]), ([9, 7, 7], [7, 9]), ([8, 10, 7], [7, 8, 10]), ([11, 7], [7, 11]), ([7, 12], [7, 12]), ([13, 10], [13])])
def wave_Read.B10 : List Nat := [0, 1, 0, 0, 12, 31, 63, 127, 255, 255, 767, 2047, 4095, 8191, 16383]
theorem wave_Read.tab10 : rtab .any (opsOf Try.f9 10) = wave_Read.T10 := by kernel_rfl
theorem wave_Read.bits10 : waitsOk wave_Read.T10.2 wave_Read.B10 = true := by kernel_rfl
def wave_Read.T16 : Bool × List (List Nat × List Nat) := (true, [([], []), ([0], [0]), ([], []), ([2], [2]), ([], []), ([], []), ([5], [5]), ([4, 6, 1], [4, 6]), ([1, 3, 7, 7], [1, 3, 7]), ([8], [8]), ([9], [9]), ([9], [9]), ([10, 8, 0, 1, 2, 3, 4, 5, 6, 7, 8, 9, 10], [10]), ([11, 12, 0, 1, 2, 3, 4, 5, 6, 7, 8, 9, 10, 11, 12], [11])])
def wave_Read.B16 : List Nat := [0, 1, 0, 4, 0, 0, 32, 115, 255, 511, 1023, 1023, 2047, 8191]
theorem wave_Read.tab16 : rtab .any (opsOf Try.f9 16) = wave_Read.T16 := by kernel_rfl
theorem wave_Read.bits16 : waitsOk wave_Read.T16.2 wave_Read.B16 = true := by kernel_rfl
set_option maxHeartbeats 8000000 in
set_option maxRecDepth 100000 in
theorem wave_Read.calls (k : Nat) (A0 : Option Addr) (c0 : Nat) (l0 : List Int) (r1 : Int) (r2 : Int) (r3 : Bool) (r4 : Int) (r5 : Int) (r6 : Int) (r7 : Int) (r8 : List (List Int)) (r9 : Int) (w : World) (hr0 : Kd.C (Kd.int .u8) w A0 l0.length l0) (hc0 : l0.length ≤ c0) (h : wave_Read.f k l0 = some (r1, r2, r3, r4, r5, r6, r7, r8, r9)) :
    Calls Try.prog 9 #[.slice A0 l0.length c0] w fun e w' => ∃ v7_ : Value, e = .returned (.tuple #[.agg #[.int .i64 r1, .int .i64 r2, .bool r3, .int .i64 r4, .int .i64 r5, .int .i64 r6, .int .i64 r7], v7_, .int .i64 r9]) ∧ Kd.S (Kd.slice 3 (Kd.int .i64)) 40 w' w.heap.size (fun _ => True) v7_ r8 ∧ Below w.heap.size w w' := by
  have hu23 := Try.underlying23
  have HR0 := Aside0.mk hr0
  have HC0 := Aside0.mk hc0
  clear hr0 hc0
  have HB := Aside0.mk (Below.refl w.heap.size w)
  have H : (if (l0.length : Int) < 44 then (some (0, 0, false, 0, 0, 0, 0, ([] : List (List Int)), 3)) else (if 40 ≤ 44 then (if 44 ≤ (l0.length : Int) then ((wave_number.f ((l0.take 44).drop 40)).bind fun t242 => (if 22 ≤ 24 then (if 24 ≤ (l0.length : Int) then ((wave_number.f ((l0.take 24).drop 22)).bind fun t244 => (if 24 ≤ 28 then (if 28 ≤ (l0.length : Int) then ((wave_number.f ((l0.take 28).drop 24)).bind fun t246 => (if 34 ≤ 36 then (if 36 ≤ (l0.length : Int) then ((wave_number.f ((l0.take 36).drop 34)).bind fun t248 => (if 4 ≤ (l0.length : Int) then (if (strOfNums (l0.take 4)).toList = ([82, 73, 70, 70] : List UInt8) then (if 8 ≤ 16 then (if 16 ≤ (l0.length : Int) then (if (strOfNums ((l0.take 16).drop 8)).toList = ([87, 65, 86, 69, 102, 109, 116, 32] : List UInt8) then (if 16 ≤ 20 then (if 20 ≤ (l0.length : Int) then ((wave_number.f ((l0.take 20).drop 16)).bind fun t253 => (if t253 = 16 then (if 20 ≤ 22 then (if 22 ≤ (l0.length : Int) then ((wave_number.f ((l0.take 22).drop 20)).bind fun t255 => (if t255 = 1 then (if 36 ≤ 40 then (if 40 ≤ (l0.length : Int) then (wave_Read.j0 k l0 t242 ((strOfNums ((l0.take 40).drop 36)).toList != ([100, 97, 116, 97] : List UInt8)) t244 t248 false t246 16 0 0) else (none)) else (none)) else (wave_Read.j0 k l0 t242 true t244 t248 false t246 16 0 0))) else (none)) else (none)) else (wave_Read.j0 k l0 t242 true t244 t248 false t246 16 0 0))) else (none)) else (none)) else (wave_Read.j0 k l0 t242 true t244 t248 false t246 16 0 0)) else (none)) else (none)) else (wave_Read.j0 k l0 t242 true t244 t248 false t246 16 0 0)) else (none))) else (none)) else (none))) else (none)) else (none))) else (none)) else (none))) else (none)) else (none))) = some (r1, r2, r3, r4, r5, r6, r7, r8, r9) := h
  clear h
  by_cases c2 : (l0.length : Int) < 44
  · rw [if_pos c2] at H
    have c2b0 : decide ((l0.length : Int) < 44) = true := decide_eq_true c2
    have c2b1 : decide (l0.length < 44) = true := decide_eq_true (by omega)
    clear c2
    simp only [Option.some.injEq, Prod.mk.injEq] at H
    obtain ⟨rfl, rfl, rfl, rfl, rfl, rfl, rfl, rfl, rfl⟩ := H
    go_enter Try.func9, Try.ntmps9
    go_wp2_with (first | ((with_reducible refine gate_dst (N := 2) rfl ?_); refine box_event ?hg (N := 2) ?hd (cs := #[.int .i64 0, .int .i64 0, .bool false, .int .i64 0, .int .i64 0, .int .i64 0, .int .i64 0]) (t := 23) ?hr ?_; (case hd => rfl); (case hg => rfl); (case hr => first | (go_simp; done) | (go_simp; rfl)); intro gb240 hg w3 hbox hb; have n0_ := Aside0.mk (below_step (by repeat (first | (with_reducible first | exact HB.out | apply below_alloc | apply pw_below_drewN | apply below_drew1) | exact HB.out)) hb); have n1_ := Aside0.mk (hbox); have n2_ := Aside0.mk ((by rw [hg]; exact (below_size (by repeat (first | (with_reducible first | exact HB.out | apply below_alloc | apply pw_below_drewN | apply below_drew1) | exact HB.out))) : w.heap.size ≤ gb240)); have n3_ := Aside0.mk ((by rw [hg]; exact (below_size (by repeat (first | (with_reducible first | exact HB.out | apply below_alloc | apply pw_below_drewN | apply below_drew1) | exact HB.out))) : w.heap.size ≤ gb240)); clear HB; have HB := n0_; have BK240 := n1_; have GW240 := n2_; have GE240 := n3_; clear n0_ n1_ n2_ n3_; clear hb hbox hg; have hcz4_0 : w3.cell? ⟨gb240, 0, none⟩ = some (.int .i64 0) := (blk_cell BK240.out 0).trans rfl; have hcz4_1 : w3.cell? ⟨gb240, 1, none⟩ = some (.int .i64 0) := (blk_cell BK240.out 1).trans rfl; have hcz4_2 : w3.cell? ⟨gb240, 2, none⟩ = some (.bool false) := (blk_cell BK240.out 2).trans rfl; have hcz4_3 : w3.cell? ⟨gb240, 3, none⟩ = some (.int .i64 0) := (blk_cell BK240.out 3).trans rfl; have hcz4_4 : w3.cell? ⟨gb240, 4, none⟩ = some (.int .i64 0) := (blk_cell BK240.out 4).trans rfl; have hcz4_5 : w3.cell? ⟨gb240, 5, none⟩ = some (.int .i64 0) := (blk_cell BK240.out 5).trans rfl; have hcz4_6 : w3.cell? ⟨gb240, 6, none⟩ = some (.int .i64 0) := (blk_cell BK240.out 6).trans rfl; have hfz4_0 := blk_frozen BK240.out 0; have hfz4_1 := blk_frozen BK240.out 1; have hfz4_2 := blk_frozen BK240.out 2; have hfz4_3 := blk_frozen BK240.out 3; have hfz4_4 := blk_frozen BK240.out 4; have hfz4_5 := blk_frozen BK240.out 5; have hfz4_6 := blk_frozen BK240.out 6))
    refine bodyPost_ret (results_ctt rfl _ _ gb240 23 #[.int .i64 0, .int .i64 0, .bool false, .int .i64 0, .int .i64 0, .int .i64 0, .int .i64 0] (0, 0) _ rfl (by (with_reducible repeat (first | refine blk_drewN ?_ _ | refine blk_drew ?_ | refine blk_alloc ?_ _)); refine blk_put (cs := #[.int .i64 0, .int .i64 0, .bool false, .int .i64 0, .int .i64 0, .int .i64 0, .int .i64 0]) ?_ 6 _ rfl; (with_reducible repeat (first | refine blk_drewN ?_ _ | refine blk_drew ?_ | refine blk_alloc ?_ _)); refine blk_put (cs := #[.int .i64 0, .int .i64 0, .bool false, .int .i64 0, .int .i64 0, .int .i64 0, .int .i64 0]) ?_ 5 _ rfl; (with_reducible repeat (first | refine blk_drewN ?_ _ | refine blk_drew ?_ | refine blk_alloc ?_ _)); refine blk_put (cs := #[.int .i64 0, .int .i64 0, .bool false, .int .i64 0, .int .i64 0, .int .i64 0, .int .i64 0]) ?_ 4 _ rfl; (with_reducible repeat (first | refine blk_drewN ?_ _ | refine blk_drew ?_ | refine blk_alloc ?_ _)); refine blk_put (cs := #[.int .i64 0, .int .i64 0, .bool false, .int .i64 0, .int .i64 0, .int .i64 0, .int .i64 0]) ?_ 3 _ rfl; (with_reducible repeat (first | refine blk_drewN ?_ _ | refine blk_drew ?_ | refine blk_alloc ?_ _)); refine blk_put (cs := #[.int .i64 0, .int .i64 0, .bool false, .int .i64 0, .int .i64 0, .int .i64 0, .int .i64 0]) ?_ 2 _ rfl; (with_reducible repeat (first | refine blk_drewN ?_ _ | refine blk_drew ?_ | refine blk_alloc ?_ _)); refine blk_put (cs := #[.int .i64 0, .int .i64 0, .bool false, .int .i64 0, .int .i64 0, .int .i64 0, .int .i64 0]) ?_ 1 _ rfl; (with_reducible repeat (first | refine blk_drewN ?_ _ | refine blk_drew ?_ | refine blk_alloc ?_ _)); refine blk_put (cs := #[.int .i64 0, .int .i64 0, .bool false, .int .i64 0, .int .i64 0, .int .i64 0, .int .i64 0]) ?_ 0 _ rfl; (with_reducible repeat (first | refine blk_drewN ?_ _ | refine blk_drew ?_ | refine blk_alloc ?_ _)); exact BK240.out) Try.underlying23 rfl (by kernel_rfl)) rfl ?_
    exact ⟨_, by first | rfl | (simp [errW_none, errW_some] <;> rfl) | (simp [*, errW_none, errW_some] <;> rfl), by first | exact Kd.S_nil _ _ _ _ _ | exact Kd.N_nil _ _ _ _ _ | exact Kd.V_nil _ _ _ _ _ | exact Kd.Q_nil _ _ _ _ _ | exact Kd.R_nil _ _ _ _ _, by repeat (first | (with_reducible first | exact HB.out | apply below_alloc | apply pw_below_drewN | apply below_drew1 | refine below_set ?_ GE240.out) | exact HB.out)⟩
  · rw [if_neg c2] at H
    have c2b0 : decide ((l0.length : Int) < 44) = false := decide_eq_false c2
    have c2b1 : decide (l0.length < 44) = false := decide_eq_false (by omega)
    clear c2
    by_cases c5 : 40 ≤ 44
    · rw [if_pos c5] at H
      have c5b0 := eq_true c5
      have c5b1 : decide (40 ≤ 44) = true := decide_eq_true c5
      clear c5
      by_cases c6 : 44 ≤ (l0.length : Int)
      · rw [if_pos c6] at H
        have c6b0 := eq_true c6
        have c6b1 : decide (44 ≤ (l0.length : Int)) = true := decide_eq_true c6
        clear c6
        replace H := Option.bind_eq_some_iff.mp H
        obtain ⟨t242, A70, H⟩ := H
        replace H : (if 22 ≤ 24 then (if 24 ≤ (l0.length : Int) then ((wave_number.f ((l0.take 24).drop 22)).bind fun t244 => (if 24 ≤ 28 then (if 28 ≤ (l0.length : Int) then ((wave_number.f ((l0.take 28).drop 24)).bind fun t246 => (if 34 ≤ 36 then (if 36 ≤ (l0.length : Int) then ((wave_number.f ((l0.take 36).drop 34)).bind fun t248 => (if 4 ≤ (l0.length : Int) then (if (strOfNums (l0.take 4)).toList = ([82, 73, 70, 70] : List UInt8) then (if 8 ≤ 16 then (if 16 ≤ (l0.length : Int) then (if (strOfNums ((l0.take 16).drop 8)).toList = ([87, 65, 86, 69, 102, 109, 116, 32] : List UInt8) then (if 16 ≤ 20 then (if 20 ≤ (l0.length : Int) then ((wave_number.f ((l0.take 20).drop 16)).bind fun t253 => (if t253 = 16 then (if 20 ≤ 22 then (if 22 ≤ (l0.length : Int) then ((wave_number.f ((l0.take 22).drop 20)).bind fun t255 => (if t255 = 1 then (if 36 ≤ 40 then (if 40 ≤ (l0.length : Int) then (wave_Read.j0 k l0 t242 ((strOfNums ((l0.take 40).drop 36)).toList != ([100, 97, 116, 97] : List UInt8)) t244 t248 false t246 16 0 0) else (none)) else (none)) else (wave_Read.j0 k l0 t242 true t244 t248 false t246 16 0 0))) else (none)) else (none)) else (wave_Read.j0 k l0 t242 true t244 t248 false t246 16 0 0))) else (none)) else (none)) else (wave_Read.j0 k l0 t242 true t244 t248 false t246 16 0 0)) else (none)) else (none)) else (wave_Read.j0 k l0 t242 true t244 t248 false t246 16 0 0)) else (none))) else (none)) else (none))) else (none)) else (none))) else (none)) else (none)) = some (r1, r2, r3, r4, r5, r6, r7, r8, r9) := H
        have A7 := Aside0.mk A70
        clear A70
        by_cases c8 : 22 ≤ 24
        · rw [if_pos c8] at H
          have c8b0 := eq_true c8
          have c8b1 : decide (22 ≤ 24) = true := decide_eq_true c8
          clear c8
          by_cases c9 : 24 ≤ (l0.length : Int)
          · rw [if_pos c9] at H
            have c9b0 := eq_true c9
            have c9b1 : decide (24 ≤ (l0.length : Int)) = true := decide_eq_true c9
            clear c9
            replace H := Option.bind_eq_some_iff.mp H
            obtain ⟨t244, A100, H⟩ := H
            replace H : (if 24 ≤ 28 then (if 28 ≤ (l0.length : Int) then ((wave_number.f ((l0.take 28).drop 24)).bind fun t246 => (if 34 ≤ 36 then (if 36 ≤ (l0.length : Int) then ((wave_number.f ((l0.take 36).drop 34)).bind fun t248 => (if 4 ≤ (l0.length : Int) then (if (strOfNums (l0.take 4)).toList = ([82, 73, 70, 70] : List UInt8) then (if 8 ≤ 16 then (if 16 ≤ (l0.length : Int) then (if (strOfNums ((l0.take 16).drop 8)).toList = ([87, 65, 86, 69, 102, 109, 116, 32] : List UInt8) then (if 16 ≤ 20 then (if 20 ≤ (l0.length : Int) then ((wave_number.f ((l0.take 20).drop 16)).bind fun t253 => (if t253 = 16 then (if 20 ≤ 22 then (if 22 ≤ (l0.length : Int) then ((wave_number.f ((l0.take 22).drop 20)).bind fun t255 => (if t255 = 1 then (if 36 ≤ 40 then (if 40 ≤ (l0.length : Int) then (wave_Read.j0 k l0 t242 ((strOfNums ((l0.take 40).drop 36)).toList != ([100, 97, 116, 97] : List UInt8)) t244 t248 false t246 16 0 0) else (none)) else (none)) else (wave_Read.j0 k l0 t242 true t244 t248 false t246 16 0 0))) else (none)) else (none)) else (wave_Read.j0 k l0 t242 true t244 t248 false t246 16 0 0))) else (none)) else (none)) else (wave_Read.j0 k l0 t242 true t244 t248 false t246 16 0 0)) else (none)) else (none)) else (wave_Read.j0 k l0 t242 true t244 t248 false t246 16 0 0)) else (none))) else (none)) else (none))) else (none)) else (none)) = some (r1, r2, r3, r4, r5, r6, r7, r8, r9) := H
            have A10 := Aside0.mk A100
            clear A100
            by_cases c11 : 24 ≤ 28
            · rw [if_pos c11] at H
              have c11b0 := eq_true c11
              have c11b1 : decide (24 ≤ 28) = true := decide_eq_true c11
              clear c11
              by_cases c12 : 28 ≤ (l0.length : Int)
              · rw [if_pos c12] at H
                have c12b0 := eq_true c12
                have c12b1 : decide (28 ≤ (l0.length : Int)) = true := decide_eq_true c12
                clear c12
                replace H := Option.bind_eq_some_iff.mp H
                obtain ⟨t246, A130, H⟩ := H
                replace H : (if 34 ≤ 36 then (if 36 ≤ (l0.length : Int) then ((wave_number.f ((l0.take 36).drop 34)).bind fun t248 => (if 4 ≤ (l0.length : Int) then (if (strOfNums (l0.take 4)).toList = ([82, 73, 70, 70] : List UInt8) then (if 8 ≤ 16 then (if 16 ≤ (l0.length : Int) then (if (strOfNums ((l0.take 16).drop 8)).toList = ([87, 65, 86, 69, 102, 109, 116, 32] : List UInt8) then (if 16 ≤ 20 then (if 20 ≤ (l0.length : Int) then ((wave_number.f ((l0.take 20).drop 16)).bind fun t253 => (if t253 = 16 then (if 20 ≤ 22 then (if 22 ≤ (l0.length : Int) then ((wave_number.f ((l0.take 22).drop 20)).bind fun t255 => (if t255 = 1 then (if 36 ≤ 40 then (if 40 ≤ (l0.length : Int) then (wave_Read.j0 k l0 t242 ((strOfNums ((l0.take 40).drop 36)).toList != ([100, 97, 116, 97] : List UInt8)) t244 t248 false t246 16 0 0) else (none)) else (none)) else (wave_Read.j0 k l0 t242 true t244 t248 false t246 16 0 0))) else (none)) else (none)) else (wave_Read.j0 k l0 t242 true t244 t248 false t246 16 0 0))) else (none)) else (none)) else (wave_Read.j0 k l0 t242 true t244 t248 false t246 16 0 0)) else (none)) else (none)) else (wave_Read.j0 k l0 t242 true t244 t248 false t246 16 0 0)) else (none))) else (none)) else (none)) = some (r1, r2, r3, r4, r5, r6, r7, r8, r9) := H
                have A13 := Aside0.mk A130
                clear A130
                by_cases c14 : 34 ≤ 36
                · rw [if_pos c14] at H
                  have c14b0 := eq_true c14
                  have c14b1 : decide (34 ≤ 36) = true := decide_eq_true c14
                  clear c14
                  by_cases c15 : 36 ≤ (l0.length : Int)
                  · rw [if_pos c15] at H
                    have c15b0 := eq_true c15
                    have c15b1 : decide (36 ≤ (l0.length : Int)) = true := decide_eq_true c15
                    clear c15
                    replace H := Option.bind_eq_some_iff.mp H
                    obtain ⟨t248, A160, H⟩ := H
                    replace H : (if 4 ≤ (l0.length : Int) then (if (strOfNums (l0.take 4)).toList = ([82, 73, 70, 70] : List UInt8) then (if 8 ≤ 16 then (if 16 ≤ (l0.length : Int) then (if (strOfNums ((l0.take 16).drop 8)).toList = ([87, 65, 86, 69, 102, 109, 116, 32] : List UInt8) then (if 16 ≤ 20 then (if 20 ≤ (l0.length : Int) then ((wave_number.f ((l0.take 20).drop 16)).bind fun t253 => (if t253 = 16 then (if 20 ≤ 22 then (if 22 ≤ (l0.length : Int) then ((wave_number.f ((l0.take 22).drop 20)).bind fun t255 => (if t255 = 1 then (if 36 ≤ 40 then (if 40 ≤ (l0.length : Int) then (wave_Read.j0 k l0 t242 ((strOfNums ((l0.take 40).drop 36)).toList != ([100, 97, 116, 97] : List UInt8)) t244 t248 false t246 16 0 0) else (none)) else (none)) else (wave_Read.j0 k l0 t242 true t244 t248 false t246 16 0 0))) else (none)) else (none)) else (wave_Read.j0 k l0 t242 true t244 t248 false t246 16 0 0))) else (none)) else (none)) else (wave_Read.j0 k l0 t242 true t244 t248 false t246 16 0 0)) else (none)) else (none)) else (wave_Read.j0 k l0 t242 true t244 t248 false t246 16 0 0)) else (none)) = some (r1, r2, r3, r4, r5, r6, r7, r8, r9) := H
                    have A16 := Aside0.mk A160
                    clear A160
                    have HC17 := Aside0.mk H
                    clear H
                    go_enter Try.func9, Try.ntmps9
                    try go_wp2_with (first | ((with_reducible refine gate_dst (N := 2) rfl ?_); refine box_event ?hg (N := 2) ?hd (cs := #[.int .i64 0, .int .i64 0, .bool false, .int .i64 0, .int .i64 0, .int .i64 0, .int .i64 0]) (t := 23) ?hr ?_; (case hd => rfl); (case hg => rfl); (case hr => first | (go_simp; done) | (go_simp; rfl)); intro gb240 hg w18 hbox hb; have n0_ := Aside0.mk (below_step (by repeat (first | (with_reducible first | exact HB.out | apply below_alloc | apply pw_below_drewN | apply below_drew1) | exact HB.out)) hb); have n1_ := Aside0.mk (hbox); have n2_ := Aside0.mk ((by rw [hg]; exact (below_size (by repeat (first | (with_reducible first | exact HB.out | apply below_alloc | apply pw_below_drewN | apply below_drew1) | exact HB.out))) : w.heap.size ≤ gb240)); have n3_ := Aside0.mk ((by rw [hg]; exact (below_size (by repeat (first | (with_reducible first | exact HB.out | apply below_alloc | apply pw_below_drewN | apply below_drew1) | exact HB.out))) : w.heap.size ≤ gb240)); clear HB; have HB := n0_; have BK240 := n1_; have GW240 := n2_; have GE240 := n3_; clear n0_ n1_ n2_ n3_; clear hb hbox hg; obtain ⟨i019, hi019, _, hsz19, _⟩ := info_parts info5; obtain ⟨A19, hcut19, hA19, hC19⟩ := print_mid_of (P := Try.prog) (Value.int .u8) 0 27 5 .i64 .i64 Try.underlying27 hi019 hsz19 A0 c0 l0 40 44 (by omega) (by first | omega | exact of_decide_eq_true (by first | (with_reducible assumption) | assumption)) (of_decide_eq_true (by first | (with_reducible assumption) | assumption)) HC0.out; have HR241 := Aside0.mk (Kd.C_of_reads (h1 := fun _ => rfl) (hA19 _ (Kd.reads_of_C HR0.out))); have HC241 := Aside0.mk hC19; clear hA19 hC19 hi019 hsz19) | ((with_reducible refine gate_callee (f := 23) rfl ?_); refine goesL_ (some 15) rfl rfl Try.func23 (by kernel_rfl) rfl #[.slice A19 ((l0.take 44).drop 40).length (c0 - 40)] rfl (by (try simp only [List.map_toArray, List.map_cons, List.map_nil]); first | done | (rw [show ((l0.take 44).drop 40).length = (44 - 40) from (by rw [List.length_drop, List.length_take]; have h_ : (44 : Int) ≤ (l0.length : Int) := of_decide_eq_true (by first | (with_reducible assumption) | assumption); omega)] <;> rfl) | rfl | (simp only [List.length_drop, List.length_take]; rfl)) ?_; (with_reducible refine (wave_number.calls _ _ ((l0.take 44).drop 40) t242 _ ?side1 ?side2 A7.out).mono ?_); (case side1 => repeat (first | exact (Kd.C_below HR241.out HB.out) | (with_reducible refine Kd.C_alloc ?_ _) | (with_reducible refine Kd.C_drewN ?_ _) | (with_reducible refine Kd.C_drew ?_))); (case side2 => exact HC241.out); rintro e w20 ⟨rfl, hb⟩; refine ⟨_, rfl, ?_⟩; have n0_ := Aside0.mk (blk_below (g := gb240) (o := .cells #[.int .i64 0, .int .i64 0, .bool false, .int .i64 0, .int .i64 0, .int .i64 0, .int .i64 0] 23 (0, 0)) (by (with_reducible repeat (first | refine blk_drewN ?_ _ | refine blk_drew ?_ | refine blk_alloc ?_ _)); exact BK240.out) hb); have n1_ := Aside0.mk (below_step (by repeat (first | (with_reducible first | exact HB.out | apply below_alloc | apply pw_below_drewN | apply below_drew1 | refine below_set ?_ GE240.out) | exact HB.out)) hb); clear BK240; clear HB; have BK240 := n0_; have HB := n1_; clear n0_ n1_; (try clear hb); (try clear hb2); (try clear hk); (try clear hi)))
                    have n0_ := Aside0.mk (blk_drew BK240.out)
                    have n1_ := Aside0.mk (below_drew1 HB.out)
                    clear BK240
                    clear HB
                    have BK240 := n0_
                    have HB := n1_
                    clear n0_ n1_
                    obtain ⟨i022, hi022, _, hsz22, _⟩ := info_parts info5
                    obtain ⟨A22, hcut22, hA22, hC22⟩ := print_mid_of (P := Try.prog) (Value.int .u8) 0 27 5 .i64 .i64 Try.underlying27 hi022 hsz22 A0 c0 l0 22 24 (by omega) (by first | omega | exact of_decide_eq_true (by first | (with_reducible assumption) | assumption)) (of_decide_eq_true (by first | (with_reducible assumption) | assumption)) HC0.out
                    have HR243 := Aside0.mk (Kd.C_of_reads (h1 := fun _ => rfl) (hA22 _ (Kd.reads_of_C HR0.out)))
                    have HC243 := Aside0.mk hC22
                    clear hA22 hC22 hi022 hsz22
                    obtain ⟨i023, hi023, _, hsz23, _⟩ := info_parts info5
                    obtain ⟨A23, hcut23, hA23, hC23⟩ := print_mid_of (P := Try.prog) (Value.int .u8) 0 27 5 .i64 .i64 Try.underlying27 hi023 hsz23 A0 c0 l0 24 28 (by omega) (by first | omega | exact of_decide_eq_true (by first | (with_reducible assumption) | assumption)) (of_decide_eq_true (by first | (with_reducible assumption) | assumption)) HC0.out
                    have HR245 := Aside0.mk (Kd.C_of_reads (h1 := fun _ => rfl) (hA23 _ (Kd.reads_of_C HR0.out)))
                    have HC245 := Aside0.mk hC23
                    clear hA23 hC23 hi023 hsz23
                    obtain ⟨i024, hi024, _, hsz24, _⟩ := info_parts info5
                    obtain ⟨A24, hcut24, hA24, hC24⟩ := print_mid_of (P := Try.prog) (Value.int .u8) 0 27 5 .i64 .i64 Try.underlying27 hi024 hsz24 A0 c0 l0 34 36 (by omega) (by first | omega | exact of_decide_eq_true (by first | (with_reducible assumption) | assumption)) (of_decide_eq_true (by first | (with_reducible assumption) | assumption)) HC0.out
                    have HR247 := Aside0.mk (Kd.C_of_reads (h1 := fun _ => rfl) (hA24 _ (Kd.reads_of_C HR0.out)))
                    have HC247 := Aside0.mk hC24
                    clear hA24 hC24 hi024 hsz24
                    refine start_ (n := 12) (S := fun w' => True) (ds := []) #[false, false, false, false, false, false, false, false, false, false, false, false] (by kernel_rfl) rfl rfl trivial (fun hHeld => ?_); refine with_tabW wave_Read.tab4 wave_Read.bits4 (fun HT_ HW_ => ?_)
                    generalize w20.drew = w21 at BK240 HB HR243 HR245 HR247 hHeld ⊢
                    refine pure_ (i := 0) (N := some 16) (v := ?_) (a' := ?_) #[true, false, false, false, false, false, false, false, false, false, false, false] rfl rfl (any_of HT_.out (by kernel_rfl)) (fun _ _ _ h => h) (Or.inl ⟨by rfl, ?_⟩) ?_ ?_
                    rotate_left
                    · intro w'
                      go_simp
                      with_reducible rfl
                    rotate_left
                    · simp only [Act.put, List.setIfInBounds_toArray, List.set_cons_zero, List.set_cons_succ, i64_w, i32_w]
                      rfl
                    refine pure_ (i := 1) (N := some 17) (v := ?_) (a' := ?_) #[true, true, false, false, false, false, false, false, false, false, false, false] rfl rfl (any_of HT_.out (by kernel_rfl)) (fun _ _ _ h => h) (Or.inl ⟨by rfl, ?_⟩) ?_ ?_
                    rotate_left
                    · intro w'
                      go_simp
                      with_reducible rfl
                    rotate_left
                    · simp only [Act.put, List.setIfInBounds_toArray, List.set_cons_zero, List.set_cons_succ, i64_w, i32_w]
                      rfl
                    refine pure_ (i := 3) (N := some 19) (v := ?_) (a' := ?_) #[true, true, false, true, false, false, false, false, false, false, false, false] rfl rfl (any_of HT_.out (by kernel_rfl)) (fun _ _ _ h => h) (Or.inl ⟨by rfl, ?_⟩) ?_ ?_
                    rotate_left
                    · intro w'
                      go_simp
                      with_reducible rfl
                    rotate_left
                    · simp only [Act.put, List.setIfInBounds_toArray, List.set_cons_zero, List.set_cons_succ, i64_w, i32_w]
                      rfl
                    refine pure_ (i := 4) (N := some 20) (v := ?_) (a' := ?_) #[true, true, false, true, true, false, false, false, false, false, false, false] rfl rfl (any_of HT_.out (by kernel_rfl)) (fun _ _ _ h => h) (Or.inl ⟨by rfl, ?_⟩) ?_ ?_
                    rotate_left
                    · intro w'
                      go_simp
                      with_reducible rfl
                    rotate_left
                    · simp only [Act.put, List.setIfInBounds_toArray, List.set_cons_zero, List.set_cons_succ, i64_w, i32_w]
                      rfl
                    refine pure_ (i := 6) (N := some 22) (v := ?_) (a' := ?_) #[true, true, false, true, true, false, true, false, false, false, false, false] rfl rfl (any_of HT_.out (by kernel_rfl)) (fun _ _ _ h => h) (Or.inl ⟨by rfl, ?_⟩) ?_ ?_
                    rotate_left
                    · intro w'
                      go_simp
                      with_reducible rfl
                    rotate_left
                    · simp only [Act.put, List.setIfInBounds_toArray, List.set_cons_zero, List.set_cons_succ, i64_w, i32_w]
                      rfl
                    refine pure_ (i := 7) (N := some 23) (v := ?_) (a' := ?_) #[true, true, false, true, true, false, true, true, false, false, false, false] rfl rfl (any_of HT_.out (by kernel_rfl)) (fun _ _ _ h => h) (Or.inl ⟨by rfl, ?_⟩) ?_ ?_
                    rotate_left
                    · intro w'
                      go_simp
                      with_reducible rfl
                    rotate_left
                    · simp only [Act.put, List.setIfInBounds_toArray, List.set_cons_zero, List.set_cons_succ, i64_w, i32_w]
                      rfl
                    refine join_ (σ := Nat) 1 #[true, true, true, true, true, true, true, true, true, true, true, false] (fun s_ => [(18, .int .i64 t244), (21, .int .i64 t246), (24, .int .i64 t248), (6, .pointer (some ⟨s_, 0, none⟩)), (25, .agg #[.int .i64 t244, .int .i64 t248, .bool false, .int .i64 t246, .int .i64 16, .int .i64 0, .int .i64 0])]) (fun s_ w' => (w'.heap[gb240]? = some (.cells #[.int .i64 0, .int .i64 0, .bool false, .int .i64 0, .int .i64 0, .int .i64 0, .int .i64 0] 23 (0, 0))) ∧ (w'.heap[s_]? = some (.cells #[.int .i64 0, .int .i64 0, .bool false, .int .i64 0, .int .i64 0, .int .i64 0, .int .i64 0] 23 (0, 0))) ∧ (w.heap.size ≤ s_) ∧ (w.heap.size ≤ s_) ∧ (gb240 ≠ s_) ∧ (s_ ≠ gb240) ∧ (Below w.heap.size w w')) ?_ ?_
                    rotate_left
                    · intro hCont
                      refine two_ (i := 2) (j := 10) (Ni := some 18) (Nj := some 6) #[true, true, true, true, true, false, true, true, false, false, false, false] #[true, true, false, true, true, false, true, true, false, false, true, false] rfl rfl rfl rfl (two_of HT_.out (by kernel_rfl)) (by decide) (by decide) (fun K hK => ?_) (fun K hK => ?_)
                      · skip
                        refine goes_ Try.func23 (by kernel_rfl) rfl #[.slice A22 ((l0.take 24).drop 22).length (c0 - 22)] (by rfl) rfl rfl (by (try simp only [List.map_toArray, List.map_cons, List.map_nil]); first | done | (rw [show ((l0.take 24).drop 22).length = (24 - 22) from (by rw [List.length_drop, List.length_take]; have h_ : (24 : Int) ≤ (l0.length : Int) := of_decide_eq_true (by first | (with_reducible assumption) | assumption); omega)] <;> rfl) | rfl | (simp only [List.length_drop, List.length_take]; rfl)) ?_
                        with_reducible refine (wave_number.calls _ _ ((l0.take 24).drop 22) t244 _ ?side1 ?side2 A10.out).mono ?_
                        (case side1 => repeat (first | exact (Kd.C_below HR243.out HB.out) | (with_reducible refine Kd.C_alloc ?_ _) | (with_reducible refine Kd.C_drewN ?_ _) | (with_reducible refine Kd.C_drew ?_)))
                        (case side2 => exact HC243.out)
                        rintro e w25 ⟨rfl, hb⟩
                        refine ⟨_, rfl, ?_⟩
                        have n0_ := Aside0.mk (blk_below (g := gb240) (o := .cells #[.int .i64 0, .int .i64 0, .bool false, .int .i64 0, .int .i64 0, .int .i64 0, .int .i64 0] 23 (0, 0)) (by (with_reducible repeat (first | refine blk_drewN ?_ _ | refine blk_drew ?_ | refine blk_alloc ?_ _)); exact BK240.out) hb)
                        have n1_ := Aside0.mk (below_step (by repeat (first | (with_reducible first | exact HB.out | apply below_alloc | apply pw_below_drewN | apply below_drew1 | refine below_set ?_ GE240.out) | exact HB.out)) hb)
                        clear BK240
                        clear HB
                        have BK240 := n0_
                        have HB := n1_
                        clear n0_ n1_
                        (try clear hb)
                        (try clear hb2)
                        (try clear hk)
                        (try clear hi)
                        refine hK.out _ _ trivial (fun hHeld => ?_)
                        clear hK K
                        refine norm_ (a' := ?_) ?_ ?_
                        rotate_left
                        · show Act.put _ (some 18) _ = _
                          simp only [Act.put, List.setIfInBounds_toArray, List.set_cons_zero, List.set_cons_succ, i64_w, i32_w]
                          rfl
                        refine two_ (i := 5) (j := 10) (Ni := some 21) (Nj := some 6) #[true, true, true, true, true, true, true, true, false, false, false, false] #[true, true, true, true, true, false, true, true, false, false, true, false] rfl rfl rfl rfl (two_of HT_.out (by kernel_rfl)) (by decide) (by decide) (fun K hK => ?_) (fun K hK => ?_)
                        · skip
                          refine goes_ Try.func23 (by kernel_rfl) rfl #[.slice A23 ((l0.take 28).drop 24).length (c0 - 24)] (by rfl) rfl rfl (by (try simp only [List.map_toArray, List.map_cons, List.map_nil]); first | done | (rw [show ((l0.take 28).drop 24).length = (28 - 24) from (by rw [List.length_drop, List.length_take]; have h_ : (28 : Int) ≤ (l0.length : Int) := of_decide_eq_true (by first | (with_reducible assumption) | assumption); omega)] <;> rfl) | rfl | (simp only [List.length_drop, List.length_take]; rfl)) ?_
                          with_reducible refine (wave_number.calls _ _ ((l0.take 28).drop 24) t246 _ ?side1 ?side2 A13.out).mono ?_
                          (case side1 => repeat (first | exact (Kd.C_below HR245.out HB.out) | (with_reducible refine Kd.C_alloc ?_ _) | (with_reducible refine Kd.C_drewN ?_ _) | (with_reducible refine Kd.C_drew ?_)))
                          (case side2 => exact HC245.out)
                          rintro e w26 ⟨rfl, hb⟩
                          refine ⟨_, rfl, ?_⟩
                          have n0_ := Aside0.mk (blk_below (g := gb240) (o := .cells #[.int .i64 0, .int .i64 0, .bool false, .int .i64 0, .int .i64 0, .int .i64 0, .int .i64 0] 23 (0, 0)) (by (with_reducible repeat (first | refine blk_drewN ?_ _ | refine blk_drew ?_ | refine blk_alloc ?_ _)); exact BK240.out) hb)
                          have n1_ := Aside0.mk (below_step (by repeat (first | (with_reducible first | exact HB.out | apply below_alloc | apply pw_below_drewN | apply below_drew1 | refine below_set ?_ GE240.out) | exact HB.out)) hb)
                          clear BK240
                          clear HB
                          have BK240 := n0_
                          have HB := n1_
                          clear n0_ n1_
                          (try clear hb)
                          (try clear hb2)
                          (try clear hk)
                          (try clear hi)
                          refine hK.out _ _ trivial (fun hHeld => ?_)
                          clear hK K
                          refine norm_ (a' := ?_) ?_ ?_
                          rotate_left
                          · show Act.put _ (some 21) _ = _
                            simp only [Act.put, List.setIfInBounds_toArray, List.set_cons_zero, List.set_cons_succ, i64_w, i32_w]
                            rfl
                          refine two_ (i := 8) (j := 10) (Ni := some 24) (Nj := some 6) #[true, true, true, true, true, true, true, true, true, false, false, false] #[true, true, true, true, true, true, true, true, false, false, true, false] rfl rfl rfl rfl (two_of HT_.out (by kernel_rfl)) (by decide) (by decide) (fun K hK => ?_) (fun K hK => ?_)
                          · skip
                            refine goes_ Try.func23 (by kernel_rfl) rfl #[.slice A24 ((l0.take 36).drop 34).length (c0 - 34)] (by rfl) rfl rfl (by (try simp only [List.map_toArray, List.map_cons, List.map_nil]); first | done | (rw [show ((l0.take 36).drop 34).length = (36 - 34) from (by rw [List.length_drop, List.length_take]; have h_ : (36 : Int) ≤ (l0.length : Int) := of_decide_eq_true (by first | (with_reducible assumption) | assumption); omega)] <;> rfl) | rfl | (simp only [List.length_drop, List.length_take]; rfl)) ?_
                            with_reducible refine (wave_number.calls _ _ ((l0.take 36).drop 34) t248 _ ?side1 ?side2 A16.out).mono ?_
                            (case side1 => repeat (first | exact (Kd.C_below HR247.out HB.out) | (with_reducible refine Kd.C_alloc ?_ _) | (with_reducible refine Kd.C_drewN ?_ _) | (with_reducible refine Kd.C_drew ?_)))
                            (case side2 => exact HC247.out)
                            rintro e w27 ⟨rfl, hb⟩
                            refine ⟨_, rfl, ?_⟩
                            have n0_ := Aside0.mk (blk_below (g := gb240) (o := .cells #[.int .i64 0, .int .i64 0, .bool false, .int .i64 0, .int .i64 0, .int .i64 0, .int .i64 0] 23 (0, 0)) (by (with_reducible repeat (first | refine blk_drewN ?_ _ | refine blk_drew ?_ | refine blk_alloc ?_ _)); exact BK240.out) hb)
                            have n1_ := Aside0.mk (below_step (by repeat (first | (with_reducible first | exact HB.out | apply below_alloc | apply pw_below_drewN | apply below_drew1 | refine below_set ?_ GE240.out) | exact HB.out)) hb)
                            clear BK240
                            clear HB
                            have BK240 := n0_
                            have HB := n1_
                            clear n0_ n1_
                            (try clear hb)
                            (try clear hb2)
                            (try clear hk)
                            (try clear hi)
                            refine hK.out _ _ trivial (fun hHeld => ?_)
                            clear hK K
                            refine norm_ (a' := ?_) ?_ ?_
                            rotate_left
                            · show Act.put _ (some 24) _ = _
                              simp only [Act.put, List.setIfInBounds_toArray, List.set_cons_zero, List.set_cons_succ, i64_w, i32_w]
                              rfl
                            refine pure_ (i := 9) (N := some 25) (v := ?_) (a' := ?_) #[true, true, true, true, true, true, true, true, true, true, false, false] rfl rfl (any_of HT_.out (by kernel_rfl)) (fun _ _ _ h => h) (Or.inl ⟨by rfl, ?_⟩) ?_ ?_
                            rotate_left
                            · intro w'
                              go_simp
                              with_reducible rfl
                            rotate_left
                            · simp only [Act.put, List.setIfInBounds_toArray, List.set_cons_zero, List.set_cons_succ, i64_w, i32_w]
                              rfl
                            refine one_ (i := 10) (N := some 6) #[true, true, true, true, true, true, true, true, true, true, true, false] rfl rfl (one_of HT_.out (by kernel_rfl)) (by decide) (fun K hK => ?_)
                            refine box_step ?hg (N := 6) ?hd (cs := #[.int .i64 0, .int .i64 0, .bool false, .int .i64 0, .int .i64 0, .int .i64 0, .int .i64 0]) (t := 23) ?hr ?_; (case hd => rfl); (case hg => rfl); (case hr => first | (go_simp; done) | (go_simp; rfl))
                            intro gb249 hg w28 hbox hb
                            have n0_ := Aside0.mk (blk_below (g := gb240) (o := .cells #[.int .i64 0, .int .i64 0, .bool false, .int .i64 0, .int .i64 0, .int .i64 0, .int .i64 0] 23 (0, 0)) (by (with_reducible repeat (first | refine blk_drewN ?_ _ | refine blk_drew ?_ | refine blk_alloc ?_ _)); exact BK240.out) hb)
                            have n1_ := Aside0.mk (below_step (by repeat (first | (with_reducible first | exact HB.out | apply below_alloc | apply pw_below_drewN | apply below_drew1 | refine below_set ?_ GE240.out) | exact HB.out)) hb)
                            have n2_ := Aside0.mk (hbox)
                            have n3_ := Aside0.mk ((by rw [hg]; exact (below_size (by repeat (first | (with_reducible first | exact HB.out | apply below_alloc | apply pw_below_drewN | apply below_drew1 | refine below_set ?_ GE240.out) | exact HB.out))) : w.heap.size ≤ gb249))
                            have n4_ := Aside0.mk ((by rw [hg]; exact (below_size (by repeat (first | (with_reducible first | exact HB.out | apply below_alloc | apply pw_below_drewN | apply below_drew1 | refine below_set ?_ GE240.out) | exact HB.out))) : w.heap.size ≤ gb249))
                            have n5_ := Aside0.mk ((by rw [hg]; exact Nat.ne_of_lt (blk_lt (g := gb240) (o := .cells #[.int .i64 0, .int .i64 0, .bool false, .int .i64 0, .int .i64 0, .int .i64 0, .int .i64 0] 23 (0, 0)) (by (with_reducible repeat (first | refine blk_drewN ?_ _ | refine blk_drew ?_ | refine blk_alloc ?_ _)); exact BK240.out)) : gb240 ≠ gb249))
                            have n6_ := Aside0.mk ((by rw [hg]; exact Nat.ne_of_gt (blk_lt (g := gb240) (o := .cells #[.int .i64 0, .int .i64 0, .bool false, .int .i64 0, .int .i64 0, .int .i64 0, .int .i64 0] 23 (0, 0)) (by (with_reducible repeat (first | refine blk_drewN ?_ _ | refine blk_drew ?_ | refine blk_alloc ?_ _)); exact BK240.out)) : gb249 ≠ gb240))
                            clear BK240
                            clear HB
                            have BK240 := n0_
                            have HB := n1_
                            have BK249 := n2_
                            have GW249 := n3_
                            have GE249 := n4_
                            have NB240_249 := n5_
                            have NB249_240 := n6_
                            clear n0_ n1_ n2_ n3_ n4_ n5_ n6_
                            clear hb hbox hg
                            refine hK.out _ _ trivial (fun hHeld => ?_)
                            clear hK K
                            refine norm_ (a' := ?_) ?_ ?_
                            rotate_left
                            · show Act.put _ (some 6) _ = _
                              simp only [Act.put, List.setIfInBounds_toArray, List.set_cons_zero, List.set_cons_succ, i64_w, i32_w]
                              rfl
                            exact norm_ (by simp only [putAll, Act.put, List.setIfInBounds_toArray, List.set_cons_zero, List.set_cons_succ]) (hCont (gb249) _ ⟨(by (with_reducible repeat (first | refine blk_drewN ?_ _ | refine blk_drew ?_ | refine blk_alloc ?_ _)); exact BK240.out), (by (with_reducible repeat (first | refine blk_drewN ?_ _ | refine blk_drew ?_ | refine blk_alloc ?_ _)); exact BK249.out), GW249.out, GE249.out, NB240_249.out, NB249_240.out, (by repeat (first | (with_reducible first | exact HB.out | apply below_alloc | apply pw_below_drewN | apply below_drew1 | refine below_set ?_ GE240.out | refine below_set ?_ GE249.out) | exact HB.out))⟩)
                          · skip
                            refine box_step ?hg (N := 6) ?hd (cs := #[.int .i64 0, .int .i64 0, .bool false, .int .i64 0, .int .i64 0, .int .i64 0, .int .i64 0]) (t := 23) ?hr ?_; (case hd => rfl); (case hg => rfl); (case hr => first | (go_simp; done) | (go_simp; rfl))
                            intro gb249 hg w27 hbox hb
                            have n0_ := Aside0.mk (blk_below (g := gb240) (o := .cells #[.int .i64 0, .int .i64 0, .bool false, .int .i64 0, .int .i64 0, .int .i64 0, .int .i64 0] 23 (0, 0)) (by (with_reducible repeat (first | refine blk_drewN ?_ _ | refine blk_drew ?_ | refine blk_alloc ?_ _)); exact BK240.out) hb)
                            have n1_ := Aside0.mk (below_step (by repeat (first | (with_reducible first | exact HB.out | apply below_alloc | apply pw_below_drewN | apply below_drew1 | refine below_set ?_ GE240.out) | exact HB.out)) hb)
                            have n2_ := Aside0.mk (hbox)
                            have n3_ := Aside0.mk ((by rw [hg]; exact (below_size (by repeat (first | (with_reducible first | exact HB.out | apply below_alloc | apply pw_below_drewN | apply below_drew1 | refine below_set ?_ GE240.out) | exact HB.out))) : w.heap.size ≤ gb249))
                            have n4_ := Aside0.mk ((by rw [hg]; exact (below_size (by repeat (first | (with_reducible first | exact HB.out | apply below_alloc | apply pw_below_drewN | apply below_drew1 | refine below_set ?_ GE240.out) | exact HB.out))) : w.heap.size ≤ gb249))
                            have n5_ := Aside0.mk ((by rw [hg]; exact Nat.ne_of_lt (blk_lt (g := gb240) (o := .cells #[.int .i64 0, .int .i64 0, .bool false, .int .i64 0, .int .i64 0, .int .i64 0, .int .i64 0] 23 (0, 0)) (by (with_reducible repeat (first | refine blk_drewN ?_ _ | refine blk_drew ?_ | refine blk_alloc ?_ _)); exact BK240.out)) : gb240 ≠ gb249))
                            have n6_ := Aside0.mk ((by rw [hg]; exact Nat.ne_of_gt (blk_lt (g := gb240) (o := .cells #[.int .i64 0, .int .i64 0, .bool false, .int .i64 0, .int .i64 0, .int .i64 0, .int .i64 0] 23 (0, 0)) (by (with_reducible repeat (first | refine blk_drewN ?_ _ | refine blk_drew ?_ | refine blk_alloc ?_ _)); exact BK240.out)) : gb249 ≠ gb240))
                            clear BK240
                            clear HB
                            have BK240 := n0_
                            have HB := n1_
                            have BK249 := n2_
                            have GW249 := n3_
                            have GE249 := n4_
                            have NB240_249 := n5_
                            have NB249_240 := n6_
                            clear n0_ n1_ n2_ n3_ n4_ n5_ n6_
                            clear hb hbox hg
                            refine hK.out _ _ trivial (fun hHeld => ?_)
                            clear hK K
                            refine norm_ (a' := ?_) ?_ ?_
                            rotate_left
                            · show Act.put _ (some 6) _ = _
                              simp only [Act.put, List.setIfInBounds_toArray, List.set_cons_zero, List.set_cons_succ, i64_w, i32_w]
                              rfl
                            refine one_ (i := 8) (N := some 24) #[true, true, true, true, true, true, true, true, true, false, true, false] rfl rfl (one_of HT_.out (by kernel_rfl)) (by decide) (fun K hK => ?_)
                            refine goes_ Try.func23 (by kernel_rfl) rfl #[.slice A24 ((l0.take 36).drop 34).length (c0 - 34)] (by rfl) rfl rfl (by (try simp only [List.map_toArray, List.map_cons, List.map_nil]); first | done | (rw [show ((l0.take 36).drop 34).length = (36 - 34) from (by rw [List.length_drop, List.length_take]; have h_ : (36 : Int) ≤ (l0.length : Int) := of_decide_eq_true (by first | (with_reducible assumption) | assumption); omega)] <;> rfl) | rfl | (simp only [List.length_drop, List.length_take]; rfl)) ?_
                            with_reducible refine (wave_number.calls _ _ ((l0.take 36).drop 34) t248 _ ?side1 ?side2 A16.out).mono ?_
                            (case side1 => repeat (first | exact (Kd.C_below HR247.out HB.out) | (with_reducible refine Kd.C_alloc ?_ _) | (with_reducible refine Kd.C_drewN ?_ _) | (with_reducible refine Kd.C_drew ?_)))
                            (case side2 => exact HC247.out)
                            rintro e w28 ⟨rfl, hb⟩
                            refine ⟨_, rfl, ?_⟩
                            have n0_ := Aside0.mk (blk_below (g := gb240) (o := .cells #[.int .i64 0, .int .i64 0, .bool false, .int .i64 0, .int .i64 0, .int .i64 0, .int .i64 0] 23 (0, 0)) (by (with_reducible repeat (first | refine blk_drewN ?_ _ | refine blk_drew ?_ | refine blk_alloc ?_ _)); exact BK240.out) hb)
                            have n1_ := Aside0.mk (blk_below (g := gb249) (o := .cells #[.int .i64 0, .int .i64 0, .bool false, .int .i64 0, .int .i64 0, .int .i64 0, .int .i64 0] 23 (0, 0)) (by (with_reducible repeat (first | refine blk_drewN ?_ _ | refine blk_drew ?_ | refine blk_alloc ?_ _)); exact BK249.out) hb)
                            have n2_ := Aside0.mk (below_step (by repeat (first | (with_reducible first | exact HB.out | apply below_alloc | apply pw_below_drewN | apply below_drew1 | refine below_set ?_ GE240.out | refine below_set ?_ GE249.out) | exact HB.out)) hb)
                            clear BK240
                            clear BK249
                            clear HB
                            have BK240 := n0_
                            have BK249 := n1_
                            have HB := n2_
                            clear n0_ n1_ n2_
                            (try clear hb)
                            (try clear hb2)
                            (try clear hk)
                            (try clear hi)
                            refine hK.out _ _ trivial (fun hHeld => ?_)
                            clear hK K
                            refine norm_ (a' := ?_) ?_ ?_
                            rotate_left
                            · show Act.put _ (some 24) _ = _
                              simp only [Act.put, List.setIfInBounds_toArray, List.set_cons_zero, List.set_cons_succ, i64_w, i32_w]
                              rfl
                            refine pure_ (i := 9) (N := some 25) (v := ?_) (a' := ?_) #[true, true, true, true, true, true, true, true, true, true, true, false] rfl rfl (any_of HT_.out (by kernel_rfl)) (fun _ _ _ h => h) (Or.inl ⟨by rfl, ?_⟩) ?_ ?_
                            rotate_left
                            · intro w'
                              go_simp
                              with_reducible rfl
                            rotate_left
                            · simp only [Act.put, List.setIfInBounds_toArray, List.set_cons_zero, List.set_cons_succ, i64_w, i32_w]
                              rfl
                            exact norm_ (by simp only [putAll, Act.put, List.setIfInBounds_toArray, List.set_cons_zero, List.set_cons_succ]) (hCont (gb249) _ ⟨(by (with_reducible repeat (first | refine blk_drewN ?_ _ | refine blk_drew ?_ | refine blk_alloc ?_ _)); exact BK240.out), (by (with_reducible repeat (first | refine blk_drewN ?_ _ | refine blk_drew ?_ | refine blk_alloc ?_ _)); exact BK249.out), GW249.out, GE249.out, NB240_249.out, NB249_240.out, (by repeat (first | (with_reducible first | exact HB.out | apply below_alloc | apply pw_below_drewN | apply below_drew1 | refine below_set ?_ GE240.out | refine below_set ?_ GE249.out) | exact HB.out))⟩)
                        · skip
                          refine box_step ?hg (N := 6) ?hd (cs := #[.int .i64 0, .int .i64 0, .bool false, .int .i64 0, .int .i64 0, .int .i64 0, .int .i64 0]) (t := 23) ?hr ?_; (case hd => rfl); (case hg => rfl); (case hr => first | (go_simp; done) | (go_simp; rfl))
                          intro gb249 hg w26 hbox hb
                          have n0_ := Aside0.mk (blk_below (g := gb240) (o := .cells #[.int .i64 0, .int .i64 0, .bool false, .int .i64 0, .int .i64 0, .int .i64 0, .int .i64 0] 23 (0, 0)) (by (with_reducible repeat (first | refine blk_drewN ?_ _ | refine blk_drew ?_ | refine blk_alloc ?_ _)); exact BK240.out) hb)
                          have n1_ := Aside0.mk (below_step (by repeat (first | (with_reducible first | exact HB.out | apply below_alloc | apply pw_below_drewN | apply below_drew1 | refine below_set ?_ GE240.out) | exact HB.out)) hb)
                          have n2_ := Aside0.mk (hbox)
                          have n3_ := Aside0.mk ((by rw [hg]; exact (below_size (by repeat (first | (with_reducible first | exact HB.out | apply below_alloc | apply pw_below_drewN | apply below_drew1 | refine below_set ?_ GE240.out) | exact HB.out))) : w.heap.size ≤ gb249))
                          have n4_ := Aside0.mk ((by rw [hg]; exact (below_size (by repeat (first | (with_reducible first | exact HB.out | apply below_alloc | apply pw_below_drewN | apply below_drew1 | refine below_set ?_ GE240.out) | exact HB.out))) : w.heap.size ≤ gb249))
                          have n5_ := Aside0.mk ((by rw [hg]; exact Nat.ne_of_lt (blk_lt (g := gb240) (o := .cells #[.int .i64 0, .int .i64 0, .bool false, .int .i64 0, .int .i64 0, .int .i64 0, .int .i64 0] 23 (0, 0)) (by (with_reducible repeat (first | refine blk_drewN ?_ _ | refine blk_drew ?_ | refine blk_alloc ?_ _)); exact BK240.out)) : gb240 ≠ gb249))
                          have n6_ := Aside0.mk ((by rw [hg]; exact Nat.ne_of_gt (blk_lt (g := gb240) (o := .cells #[.int .i64 0, .int .i64 0, .bool false, .int .i64 0, .int .i64 0, .int .i64 0, .int .i64 0] 23 (0, 0)) (by (with_reducible repeat (first | refine blk_drewN ?_ _ | refine blk_drew ?_ | refine blk_alloc ?_ _)); exact BK240.out)) : gb249 ≠ gb240))
                          clear BK240
                          clear HB
                          have BK240 := n0_
                          have HB := n1_
                          have BK249 := n2_
                          have GW249 := n3_
                          have GE249 := n4_
                          have NB240_249 := n5_
                          have NB249_240 := n6_
                          clear n0_ n1_ n2_ n3_ n4_ n5_ n6_
                          clear hb hbox hg
                          refine hK.out _ _ trivial (fun hHeld => ?_)
                          clear hK K
                          refine norm_ (a' := ?_) ?_ ?_
                          rotate_left
                          · show Act.put _ (some 6) _ = _
                            simp only [Act.put, List.setIfInBounds_toArray, List.set_cons_zero, List.set_cons_succ, i64_w, i32_w]
                            rfl
                          refine one_ (i := 5) (N := some 21) #[true, true, true, true, true, true, true, true, false, false, true, false] rfl rfl (one_of HT_.out (by kernel_rfl)) (by decide) (fun K hK => ?_)
                          refine goes_ Try.func23 (by kernel_rfl) rfl #[.slice A23 ((l0.take 28).drop 24).length (c0 - 24)] (by rfl) rfl rfl (by (try simp only [List.map_toArray, List.map_cons, List.map_nil]); first | done | (rw [show ((l0.take 28).drop 24).length = (28 - 24) from (by rw [List.length_drop, List.length_take]; have h_ : (28 : Int) ≤ (l0.length : Int) := of_decide_eq_true (by first | (with_reducible assumption) | assumption); omega)] <;> rfl) | rfl | (simp only [List.length_drop, List.length_take]; rfl)) ?_
                          with_reducible refine (wave_number.calls _ _ ((l0.take 28).drop 24) t246 _ ?side1 ?side2 A13.out).mono ?_
                          (case side1 => repeat (first | exact (Kd.C_below HR245.out HB.out) | (with_reducible refine Kd.C_alloc ?_ _) | (with_reducible refine Kd.C_drewN ?_ _) | (with_reducible refine Kd.C_drew ?_)))
                          (case side2 => exact HC245.out)
                          rintro e w27 ⟨rfl, hb⟩
                          refine ⟨_, rfl, ?_⟩
                          have n0_ := Aside0.mk (blk_below (g := gb240) (o := .cells #[.int .i64 0, .int .i64 0, .bool false, .int .i64 0, .int .i64 0, .int .i64 0, .int .i64 0] 23 (0, 0)) (by (with_reducible repeat (first | refine blk_drewN ?_ _ | refine blk_drew ?_ | refine blk_alloc ?_ _)); exact BK240.out) hb)
                          have n1_ := Aside0.mk (blk_below (g := gb249) (o := .cells #[.int .i64 0, .int .i64 0, .bool false, .int .i64 0, .int .i64 0, .int .i64 0, .int .i64 0] 23 (0, 0)) (by (with_reducible repeat (first | refine blk_drewN ?_ _ | refine blk_drew ?_ | refine blk_alloc ?_ _)); exact BK249.out) hb)
                          have n2_ := Aside0.mk (below_step (by repeat (first | (with_reducible first | exact HB.out | apply below_alloc | apply pw_below_drewN | apply below_drew1 | refine below_set ?_ GE240.out | refine below_set ?_ GE249.out) | exact HB.out)) hb)
                          clear BK240
                          clear BK249
                          clear HB
                          have BK240 := n0_
                          have BK249 := n1_
                          have HB := n2_
                          clear n0_ n1_ n2_
                          (try clear hb)
                          (try clear hb2)
                          (try clear hk)
                          (try clear hi)
                          refine hK.out _ _ trivial (fun hHeld => ?_)
                          clear hK K
                          refine norm_ (a' := ?_) ?_ ?_
                          rotate_left
                          · show Act.put _ (some 21) _ = _
                            simp only [Act.put, List.setIfInBounds_toArray, List.set_cons_zero, List.set_cons_succ, i64_w, i32_w]
                            rfl
                          refine one_ (i := 8) (N := some 24) #[true, true, true, true, true, true, true, true, true, false, true, false] rfl rfl (one_of HT_.out (by kernel_rfl)) (by decide) (fun K hK => ?_)
                          refine goes_ Try.func23 (by kernel_rfl) rfl #[.slice A24 ((l0.take 36).drop 34).length (c0 - 34)] (by rfl) rfl rfl (by (try simp only [List.map_toArray, List.map_cons, List.map_nil]); first | done | (rw [show ((l0.take 36).drop 34).length = (36 - 34) from (by rw [List.length_drop, List.length_take]; have h_ : (36 : Int) ≤ (l0.length : Int) := of_decide_eq_true (by first | (with_reducible assumption) | assumption); omega)] <;> rfl) | rfl | (simp only [List.length_drop, List.length_take]; rfl)) ?_
                          with_reducible refine (wave_number.calls _ _ ((l0.take 36).drop 34) t248 _ ?side1 ?side2 A16.out).mono ?_
                          (case side1 => repeat (first | exact (Kd.C_below HR247.out HB.out) | (with_reducible refine Kd.C_alloc ?_ _) | (with_reducible refine Kd.C_drewN ?_ _) | (with_reducible refine Kd.C_drew ?_)))
                          (case side2 => exact HC247.out)
                          rintro e w28 ⟨rfl, hb⟩
                          refine ⟨_, rfl, ?_⟩
                          have n0_ := Aside0.mk (blk_below (g := gb240) (o := .cells #[.int .i64 0, .int .i64 0, .bool false, .int .i64 0, .int .i64 0, .int .i64 0, .int .i64 0] 23 (0, 0)) (by (with_reducible repeat (first | refine blk_drewN ?_ _ | refine blk_drew ?_ | refine blk_alloc ?_ _)); exact BK240.out) hb)
                          have n1_ := Aside0.mk (blk_below (g := gb249) (o := .cells #[.int .i64 0, .int .i64 0, .bool false, .int .i64 0, .int .i64 0, .int .i64 0, .int .i64 0] 23 (0, 0)) (by (with_reducible repeat (first | refine blk_drewN ?_ _ | refine blk_drew ?_ | refine blk_alloc ?_ _)); exact BK249.out) hb)
                          have n2_ := Aside0.mk (below_step (by repeat (first | (with_reducible first | exact HB.out | apply below_alloc | apply pw_below_drewN | apply below_drew1 | refine below_set ?_ GE240.out | refine below_set ?_ GE249.out) | exact HB.out)) hb)
                          clear BK240
                          clear BK249
                          clear HB
                          have BK240 := n0_
                          have BK249 := n1_
                          have HB := n2_
                          clear n0_ n1_ n2_
                          (try clear hb)
                          (try clear hb2)
                          (try clear hk)
                          (try clear hi)
                          refine hK.out _ _ trivial (fun hHeld => ?_)
                          clear hK K
                          refine norm_ (a' := ?_) ?_ ?_
                          rotate_left
                          · show Act.put _ (some 24) _ = _
                            simp only [Act.put, List.setIfInBounds_toArray, List.set_cons_zero, List.set_cons_succ, i64_w, i32_w]
                            rfl
                          refine pure_ (i := 9) (N := some 25) (v := ?_) (a' := ?_) #[true, true, true, true, true, true, true, true, true, true, true, false] rfl rfl (any_of HT_.out (by kernel_rfl)) (fun _ _ _ h => h) (Or.inl ⟨by rfl, ?_⟩) ?_ ?_
                          rotate_left
                          · intro w'
                            go_simp
                            with_reducible rfl
                          rotate_left
                          · simp only [Act.put, List.setIfInBounds_toArray, List.set_cons_zero, List.set_cons_succ, i64_w, i32_w]
                            rfl
                          exact norm_ (by simp only [putAll, Act.put, List.setIfInBounds_toArray, List.set_cons_zero, List.set_cons_succ]) (hCont (gb249) _ ⟨(by (with_reducible repeat (first | refine blk_drewN ?_ _ | refine blk_drew ?_ | refine blk_alloc ?_ _)); exact BK240.out), (by (with_reducible repeat (first | refine blk_drewN ?_ _ | refine blk_drew ?_ | refine blk_alloc ?_ _)); exact BK249.out), GW249.out, GE249.out, NB240_249.out, NB249_240.out, (by repeat (first | (with_reducible first | exact HB.out | apply below_alloc | apply pw_below_drewN | apply below_drew1 | refine below_set ?_ GE240.out | refine below_set ?_ GE249.out) | exact HB.out))⟩)
                      · skip
                        refine box_step ?hg (N := 6) ?hd (cs := #[.int .i64 0, .int .i64 0, .bool false, .int .i64 0, .int .i64 0, .int .i64 0, .int .i64 0]) (t := 23) ?hr ?_; (case hd => rfl); (case hg => rfl); (case hr => first | (go_simp; done) | (go_simp; rfl))
                        intro gb249 hg w25 hbox hb
                        have n0_ := Aside0.mk (blk_below (g := gb240) (o := .cells #[.int .i64 0, .int .i64 0, .bool false, .int .i64 0, .int .i64 0, .int .i64 0, .int .i64 0] 23 (0, 0)) (by (with_reducible repeat (first | refine blk_drewN ?_ _ | refine blk_drew ?_ | refine blk_alloc ?_ _)); exact BK240.out) hb)
                        have n1_ := Aside0.mk (below_step (by repeat (first | (with_reducible first | exact HB.out | apply below_alloc | apply pw_below_drewN | apply below_drew1 | refine below_set ?_ GE240.out) | exact HB.out)) hb)
                        have n2_ := Aside0.mk (hbox)
                        have n3_ := Aside0.mk ((by rw [hg]; exact (below_size (by repeat (first | (with_reducible first | exact HB.out | apply below_alloc | apply pw_below_drewN | apply below_drew1 | refine below_set ?_ GE240.out) | exact HB.out))) : w.heap.size ≤ gb249))
                        have n4_ := Aside0.mk ((by rw [hg]; exact (below_size (by repeat (first | (with_reducible first | exact HB.out | apply below_alloc | apply pw_below_drewN | apply below_drew1 | refine below_set ?_ GE240.out) | exact HB.out))) : w.heap.size ≤ gb249))
                        have n5_ := Aside0.mk ((by rw [hg]; exact Nat.ne_of_lt (blk_lt (g := gb240) (o := .cells #[.int .i64 0, .int .i64 0, .bool false, .int .i64 0, .int .i64 0, .int .i64 0, .int .i64 0] 23 (0, 0)) (by (with_reducible repeat (first | refine blk_drewN ?_ _ | refine blk_drew ?_ | refine blk_alloc ?_ _)); exact BK240.out)) : gb240 ≠ gb249))
                        have n6_ := Aside0.mk ((by rw [hg]; exact Nat.ne_of_gt (blk_lt (g := gb240) (o := .cells #[.int .i64 0, .int .i64 0, .bool false, .int .i64 0, .int .i64 0, .int .i64 0, .int .i64 0] 23 (0, 0)) (by (with_reducible repeat (first | refine blk_drewN ?_ _ | refine blk_drew ?_ | refine blk_alloc ?_ _)); exact BK240.out)) : gb249 ≠ gb240))
                        clear BK240
                        clear HB
                        have BK240 := n0_
                        have HB := n1_
                        have BK249 := n2_
                        have GW249 := n3_
                        have GE249 := n4_
                        have NB240_249 := n5_
                        have NB249_240 := n6_
                        clear n0_ n1_ n2_ n3_ n4_ n5_ n6_
                        clear hb hbox hg
                        refine hK.out _ _ trivial (fun hHeld => ?_)
                        clear hK K
                        refine norm_ (a' := ?_) ?_ ?_
                        rotate_left
                        · show Act.put _ (some 6) _ = _
                          simp only [Act.put, List.setIfInBounds_toArray, List.set_cons_zero, List.set_cons_succ, i64_w, i32_w]
                          rfl
                        refine one_ (i := 2) (N := some 18) #[true, true, true, true, true, false, true, true, false, false, true, false] rfl rfl (one_of HT_.out (by kernel_rfl)) (by decide) (fun K hK => ?_)
                        refine goes_ Try.func23 (by kernel_rfl) rfl #[.slice A22 ((l0.take 24).drop 22).length (c0 - 22)] (by rfl) rfl rfl (by (try simp only [List.map_toArray, List.map_cons, List.map_nil]); first | done | (rw [show ((l0.take 24).drop 22).length = (24 - 22) from (by rw [List.length_drop, List.length_take]; have h_ : (24 : Int) ≤ (l0.length : Int) := of_decide_eq_true (by first | (with_reducible assumption) | assumption); omega)] <;> rfl) | rfl | (simp only [List.length_drop, List.length_take]; rfl)) ?_
                        with_reducible refine (wave_number.calls _ _ ((l0.take 24).drop 22) t244 _ ?side1 ?side2 A10.out).mono ?_
                        (case side1 => repeat (first | exact (Kd.C_below HR243.out HB.out) | (with_reducible refine Kd.C_alloc ?_ _) | (with_reducible refine Kd.C_drewN ?_ _) | (with_reducible refine Kd.C_drew ?_)))
                        (case side2 => exact HC243.out)
                        rintro e w26 ⟨rfl, hb⟩
                        refine ⟨_, rfl, ?_⟩
                        have n0_ := Aside0.mk (blk_below (g := gb240) (o := .cells #[.int .i64 0, .int .i64 0, .bool false, .int .i64 0, .int .i64 0, .int .i64 0, .int .i64 0] 23 (0, 0)) (by (with_reducible repeat (first | refine blk_drewN ?_ _ | refine blk_drew ?_ | refine blk_alloc ?_ _)); exact BK240.out) hb)
                        have n1_ := Aside0.mk (blk_below (g := gb249) (o := .cells #[.int .i64 0, .int .i64 0, .bool false, .int .i64 0, .int .i64 0, .int .i64 0, .int .i64 0] 23 (0, 0)) (by (with_reducible repeat (first | refine blk_drewN ?_ _ | refine blk_drew ?_ | refine blk_alloc ?_ _)); exact BK249.out) hb)
                        have n2_ := Aside0.mk (below_step (by repeat (first | (with_reducible first | exact HB.out | apply below_alloc | apply pw_below_drewN | apply below_drew1 | refine below_set ?_ GE240.out | refine below_set ?_ GE249.out) | exact HB.out)) hb)
                        clear BK240
                        clear BK249
                        clear HB
                        have BK240 := n0_
                        have BK249 := n1_
                        have HB := n2_
                        clear n0_ n1_ n2_
                        (try clear hb)
                        (try clear hb2)
                        (try clear hk)
                        (try clear hi)
                        refine hK.out _ _ trivial (fun hHeld => ?_)
                        clear hK K
                        refine norm_ (a' := ?_) ?_ ?_
                        rotate_left
                        · show Act.put _ (some 18) _ = _
                          simp only [Act.put, List.setIfInBounds_toArray, List.set_cons_zero, List.set_cons_succ, i64_w, i32_w]
                          rfl
                        refine one_ (i := 5) (N := some 21) #[true, true, true, true, true, true, true, true, false, false, true, false] rfl rfl (one_of HT_.out (by kernel_rfl)) (by decide) (fun K hK => ?_)
                        refine goes_ Try.func23 (by kernel_rfl) rfl #[.slice A23 ((l0.take 28).drop 24).length (c0 - 24)] (by rfl) rfl rfl (by (try simp only [List.map_toArray, List.map_cons, List.map_nil]); first | done | (rw [show ((l0.take 28).drop 24).length = (28 - 24) from (by rw [List.length_drop, List.length_take]; have h_ : (28 : Int) ≤ (l0.length : Int) := of_decide_eq_true (by first | (with_reducible assumption) | assumption); omega)] <;> rfl) | rfl | (simp only [List.length_drop, List.length_take]; rfl)) ?_
                        with_reducible refine (wave_number.calls _ _ ((l0.take 28).drop 24) t246 _ ?side1 ?side2 A13.out).mono ?_
                        (case side1 => repeat (first | exact (Kd.C_below HR245.out HB.out) | (with_reducible refine Kd.C_alloc ?_ _) | (with_reducible refine Kd.C_drewN ?_ _) | (with_reducible refine Kd.C_drew ?_)))
                        (case side2 => exact HC245.out)
                        rintro e w27 ⟨rfl, hb⟩
                        refine ⟨_, rfl, ?_⟩
                        have n0_ := Aside0.mk (blk_below (g := gb240) (o := .cells #[.int .i64 0, .int .i64 0, .bool false, .int .i64 0, .int .i64 0, .int .i64 0, .int .i64 0] 23 (0, 0)) (by (with_reducible repeat (first | refine blk_drewN ?_ _ | refine blk_drew ?_ | refine blk_alloc ?_ _)); exact BK240.out) hb)
                        have n1_ := Aside0.mk (blk_below (g := gb249) (o := .cells #[.int .i64 0, .int .i64 0, .bool false, .int .i64 0, .int .i64 0, .int .i64 0, .int .i64 0] 23 (0, 0)) (by (with_reducible repeat (first | refine blk_drewN ?_ _ | refine blk_drew ?_ | refine blk_alloc ?_ _)); exact BK249.out) hb)
                        have n2_ := Aside0.mk (below_step (by repeat (first | (with_reducible first | exact HB.out | apply below_alloc | apply pw_below_drewN | apply below_drew1 | refine below_set ?_ GE240.out | refine below_set ?_ GE249.out) | exact HB.out)) hb)
                        clear BK240
                        clear BK249
                        clear HB
                        have BK240 := n0_
                        have BK249 := n1_
                        have HB := n2_
                        clear n0_ n1_ n2_
                        (try clear hb)
                        (try clear hb2)
                        (try clear hk)
                        (try clear hi)
                        refine hK.out _ _ trivial (fun hHeld => ?_)
                        clear hK K
                        refine norm_ (a' := ?_) ?_ ?_
                        rotate_left
                        · show Act.put _ (some 21) _ = _
                          simp only [Act.put, List.setIfInBounds_toArray, List.set_cons_zero, List.set_cons_succ, i64_w, i32_w]
                          rfl
                        refine one_ (i := 8) (N := some 24) #[true, true, true, true, true, true, true, true, true, false, true, false] rfl rfl (one_of HT_.out (by kernel_rfl)) (by decide) (fun K hK => ?_)
                        refine goes_ Try.func23 (by kernel_rfl) rfl #[.slice A24 ((l0.take 36).drop 34).length (c0 - 34)] (by rfl) rfl rfl (by (try simp only [List.map_toArray, List.map_cons, List.map_nil]); first | done | (rw [show ((l0.take 36).drop 34).length = (36 - 34) from (by rw [List.length_drop, List.length_take]; have h_ : (36 : Int) ≤ (l0.length : Int) := of_decide_eq_true (by first | (with_reducible assumption) | assumption); omega)] <;> rfl) | rfl | (simp only [List.length_drop, List.length_take]; rfl)) ?_
                        with_reducible refine (wave_number.calls _ _ ((l0.take 36).drop 34) t248 _ ?side1 ?side2 A16.out).mono ?_
                        (case side1 => repeat (first | exact (Kd.C_below HR247.out HB.out) | (with_reducible refine Kd.C_alloc ?_ _) | (with_reducible refine Kd.C_drewN ?_ _) | (with_reducible refine Kd.C_drew ?_)))
                        (case side2 => exact HC247.out)
                        rintro e w28 ⟨rfl, hb⟩
                        refine ⟨_, rfl, ?_⟩
                        have n0_ := Aside0.mk (blk_below (g := gb240) (o := .cells #[.int .i64 0, .int .i64 0, .bool false, .int .i64 0, .int .i64 0, .int .i64 0, .int .i64 0] 23 (0, 0)) (by (with_reducible repeat (first | refine blk_drewN ?_ _ | refine blk_drew ?_ | refine blk_alloc ?_ _)); exact BK240.out) hb)
                        have n1_ := Aside0.mk (blk_below (g := gb249) (o := .cells #[.int .i64 0, .int .i64 0, .bool false, .int .i64 0, .int .i64 0, .int .i64 0, .int .i64 0] 23 (0, 0)) (by (with_reducible repeat (first | refine blk_drewN ?_ _ | refine blk_drew ?_ | refine blk_alloc ?_ _)); exact BK249.out) hb)
                        have n2_ := Aside0.mk (below_step (by repeat (first | (with_reducible first | exact HB.out | apply below_alloc | apply pw_below_drewN | apply below_drew1 | refine below_set ?_ GE240.out | refine below_set ?_ GE249.out) | exact HB.out)) hb)
                        clear BK240
                        clear BK249
                        clear HB
                        have BK240 := n0_
                        have BK249 := n1_
                        have HB := n2_
                        clear n0_ n1_ n2_
                        (try clear hb)
                        (try clear hb2)
                        (try clear hk)
                        (try clear hi)
                        refine hK.out _ _ trivial (fun hHeld => ?_)
                        clear hK K
                        refine norm_ (a' := ?_) ?_ ?_
                        rotate_left
                        · show Act.put _ (some 24) _ = _
                          simp only [Act.put, List.setIfInBounds_toArray, List.set_cons_zero, List.set_cons_succ, i64_w, i32_w]
                          rfl
                        refine pure_ (i := 9) (N := some 25) (v := ?_) (a' := ?_) #[true, true, true, true, true, true, true, true, true, true, true, false] rfl rfl (any_of HT_.out (by kernel_rfl)) (fun _ _ _ h => h) (Or.inl ⟨by rfl, ?_⟩) ?_ ?_
                        rotate_left
                        · intro w'
                          go_simp
                          with_reducible rfl
                        rotate_left
                        · simp only [Act.put, List.setIfInBounds_toArray, List.set_cons_zero, List.set_cons_succ, i64_w, i32_w]
                          rfl
                        exact norm_ (by simp only [putAll, Act.put, List.setIfInBounds_toArray, List.set_cons_zero, List.set_cons_succ]) (hCont (gb249) _ ⟨(by (with_reducible repeat (first | refine blk_drewN ?_ _ | refine blk_drew ?_ | refine blk_alloc ?_ _)); exact BK240.out), (by (with_reducible repeat (first | refine blk_drewN ?_ _ | refine blk_drew ?_ | refine blk_alloc ?_ _)); exact BK249.out), GW249.out, GE249.out, NB240_249.out, NB249_240.out, (by repeat (first | (with_reducible first | exact HB.out | apply below_alloc | apply pw_below_drewN | apply below_drew1 | refine below_set ?_ GE240.out | refine below_set ?_ GE249.out) | exact HB.out))⟩)
                    rintro gb249 w29 ⟨h0_, h1_, h2_, h3_, h4_, h5_, h6_⟩
                    have n0_ : Aside0 (w29.heap[gb240]? = some (.cells #[.int .i64 0, .int .i64 0, .bool false, .int .i64 0, .int .i64 0, .int .i64 0, .int .i64 0] 23 (0, 0))) := ⟨h0_⟩
                    have n1_ : Aside0 (w29.heap[gb249]? = some (.cells #[.int .i64 0, .int .i64 0, .bool false, .int .i64 0, .int .i64 0, .int .i64 0, .int .i64 0] 23 (0, 0))) := ⟨h1_⟩
                    have n2_ : Aside0 (w.heap.size ≤ gb249) := ⟨h2_⟩
                    have n3_ : Aside0 (w.heap.size ≤ gb249) := ⟨h3_⟩
                    have n4_ : Aside0 (gb240 ≠ gb249) := ⟨h4_⟩
                    have n5_ : Aside0 (gb249 ≠ gb240) := ⟨h5_⟩
                    have n6_ : Aside0 (Below w.heap.size w w29) := ⟨h6_⟩
                    clear BK240
                    clear HB
                    clear h0_ h1_ h2_ h3_ h4_ h5_ h6_
                    have BK240 := n0_
                    have BK249 := n1_
                    have GW249 := n2_
                    have GE249 := n3_
                    have NB240_249 := n4_
                    have NB249_240 := n5_
                    have HB := n6_
                    clear n0_ n1_ n2_ n3_ n4_ n5_ n6_
                    have hHeld := trivial
                    refine norm_ (a' := ?_) ?_ ?_
                    rotate_left
                    · simp only [putAll, Act.put, List.setIfInBounds_toArray, List.set_cons_zero, List.set_cons_succ]
                      rfl
                    refine one_ (i := 11) (N := none) #[true, true, true, true, true, true, true, true, true, true, true, true] rfl rfl (one_of HT_.out (by kernel_rfl)) (by decide) (fun K hK => ?_)
                    have hs30 : w29.cell? ⟨gb249, 0, none⟩ = some (.int .i64 0) := (blk_cell BK249.out 0).trans rfl
                    have hfs30 := blk_frozen BK249.out 0
                    have hns30_0 := NB240_249.out
                    have hms30_0 := NB249_240.out
                    have hs31 : w29.cell? ⟨gb249, 1, none⟩ = some (.int .i64 0) := (blk_cell BK249.out 1).trans rfl
                    have hfs31 := blk_frozen BK249.out 1
                    have hns31_0 := NB240_249.out
                    have hms31_0 := NB249_240.out
                    have hs32 : w29.cell? ⟨gb249, 2, none⟩ = some (.bool false) := (blk_cell BK249.out 2).trans rfl
                    have hfs32 := blk_frozen BK249.out 2
                    have hns32_0 := NB240_249.out
                    have hms32_0 := NB249_240.out
                    have hs33 : w29.cell? ⟨gb249, 3, none⟩ = some (.int .i64 0) := (blk_cell BK249.out 3).trans rfl
                    have hfs33 := blk_frozen BK249.out 3
                    have hns33_0 := NB240_249.out
                    have hms33_0 := NB249_240.out
                    have hs34 : w29.cell? ⟨gb249, 4, none⟩ = some (.int .i64 0) := (blk_cell BK249.out 4).trans rfl
                    have hfs34 := blk_frozen BK249.out 4
                    have hns34_0 := NB240_249.out
                    have hms34_0 := NB249_240.out
                    have hs35 : w29.cell? ⟨gb249, 5, none⟩ = some (.int .i64 0) := (blk_cell BK249.out 5).trans rfl
                    have hfs35 := blk_frozen BK249.out 5
                    have hns35_0 := NB240_249.out
                    have hms35_0 := NB249_240.out
                    have hs36 : w29.cell? ⟨gb249, 6, none⟩ = some (.int .i64 0) := (blk_cell BK249.out 6).trans rfl
                    have hfs36 := blk_frozen BK249.out 6
                    have hns36_0 := NB240_249.out
                    have hms36_0 := NB249_240.out
                    refine skip_ (w1 := ?_) (by rfl) rfl ?_ ?_
                    rotate_left
                    · go_simp
                      rfl
                    refine hK.out _ _ trivial (fun hHeld => ?_)
                    clear hK K
                    refine done_ (done_of HT_.out (by kernel_rfl)) ?_
                    have n0_ : Aside0 ((((((((w29.setCell ⟨gb249, 0, none⟩ (.int .i64 t244)).setCell ⟨gb249, 1, none⟩ (.int .i64 t248)).setCell ⟨gb249, 2, none⟩ (.bool false)).setCell ⟨gb249, 3, none⟩ (.int .i64 t246)).setCell ⟨gb249, 4, none⟩ (.int .i64 16)).setCell ⟨gb249, 5, none⟩ (.int .i64 0)).setCell ⟨gb249, 6, none⟩ (.int .i64 0)).heap[gb240]? = some (.cells #[.int .i64 0, .int .i64 0, .bool false, .int .i64 0, .int .i64 0, .int .i64 0, .int .i64 0] 23 (0, 0))) := ⟨by (with_reducible repeat (first | refine blk_drewN ?_ _ | refine blk_drew ?_ | refine blk_alloc ?_ _)); refine blk_far ?_ NB240_249.out _; (with_reducible repeat (first | refine blk_drewN ?_ _ | refine blk_drew ?_ | refine blk_alloc ?_ _)); refine blk_far ?_ NB240_249.out _; (with_reducible repeat (first | refine blk_drewN ?_ _ | refine blk_drew ?_ | refine blk_alloc ?_ _)); refine blk_far ?_ NB240_249.out _; (with_reducible repeat (first | refine blk_drewN ?_ _ | refine blk_drew ?_ | refine blk_alloc ?_ _)); refine blk_far ?_ NB240_249.out _; (with_reducible repeat (first | refine blk_drewN ?_ _ | refine blk_drew ?_ | refine blk_alloc ?_ _)); refine blk_far ?_ NB240_249.out _; (with_reducible repeat (first | refine blk_drewN ?_ _ | refine blk_drew ?_ | refine blk_alloc ?_ _)); refine blk_far ?_ NB240_249.out _; (with_reducible repeat (first | refine blk_drewN ?_ _ | refine blk_drew ?_ | refine blk_alloc ?_ _)); refine blk_far ?_ NB240_249.out _; (with_reducible repeat (first | refine blk_drewN ?_ _ | refine blk_drew ?_ | refine blk_alloc ?_ _)); exact BK240.out⟩
                    have n1_ : Aside0 ((((((((w29.setCell ⟨gb249, 0, none⟩ (.int .i64 t244)).setCell ⟨gb249, 1, none⟩ (.int .i64 t248)).setCell ⟨gb249, 2, none⟩ (.bool false)).setCell ⟨gb249, 3, none⟩ (.int .i64 t246)).setCell ⟨gb249, 4, none⟩ (.int .i64 16)).setCell ⟨gb249, 5, none⟩ (.int .i64 0)).setCell ⟨gb249, 6, none⟩ (.int .i64 0)).heap[gb249]? = some (.cells #[.int .i64 t244, .int .i64 t248, .bool false, .int .i64 t246, .int .i64 16, .int .i64 0, .int .i64 0] 23 (0, 0))) := ⟨by (with_reducible repeat (first | refine blk_drewN ?_ _ | refine blk_drew ?_ | refine blk_alloc ?_ _)); refine blk_put (cs := #[.int .i64 t244, .int .i64 t248, .bool false, .int .i64 t246, .int .i64 16, .int .i64 0, .int .i64 0]) ?_ 6 _ rfl; (with_reducible repeat (first | refine blk_drewN ?_ _ | refine blk_drew ?_ | refine blk_alloc ?_ _)); refine blk_put (cs := #[.int .i64 t244, .int .i64 t248, .bool false, .int .i64 t246, .int .i64 16, .int .i64 0, .int .i64 0]) ?_ 5 _ rfl; (with_reducible repeat (first | refine blk_drewN ?_ _ | refine blk_drew ?_ | refine blk_alloc ?_ _)); refine blk_put (cs := #[.int .i64 t244, .int .i64 t248, .bool false, .int .i64 t246, .int .i64 0, .int .i64 0, .int .i64 0]) ?_ 4 _ rfl; (with_reducible repeat (first | refine blk_drewN ?_ _ | refine blk_drew ?_ | refine blk_alloc ?_ _)); refine blk_put (cs := #[.int .i64 t244, .int .i64 t248, .bool false, .int .i64 0, .int .i64 0, .int .i64 0, .int .i64 0]) ?_ 3 _ rfl; (with_reducible repeat (first | refine blk_drewN ?_ _ | refine blk_drew ?_ | refine blk_alloc ?_ _)); refine blk_put (cs := #[.int .i64 t244, .int .i64 t248, .bool false, .int .i64 0, .int .i64 0, .int .i64 0, .int .i64 0]) ?_ 2 _ rfl; (with_reducible repeat (first | refine blk_drewN ?_ _ | refine blk_drew ?_ | refine blk_alloc ?_ _)); refine blk_put (cs := #[.int .i64 t244, .int .i64 0, .bool false, .int .i64 0, .int .i64 0, .int .i64 0, .int .i64 0]) ?_ 1 _ rfl; (with_reducible repeat (first | refine blk_drewN ?_ _ | refine blk_drew ?_ | refine blk_alloc ?_ _)); refine blk_put (cs := #[.int .i64 0, .int .i64 0, .bool false, .int .i64 0, .int .i64 0, .int .i64 0, .int .i64 0]) ?_ 0 _ rfl; (with_reducible repeat (first | refine blk_drewN ?_ _ | refine blk_drew ?_ | refine blk_alloc ?_ _)); exact BK249.out⟩
                    have n2_ : Aside0 (Below w.heap.size w (((((((w29.setCell ⟨gb249, 0, none⟩ (.int .i64 t244)).setCell ⟨gb249, 1, none⟩ (.int .i64 t248)).setCell ⟨gb249, 2, none⟩ (.bool false)).setCell ⟨gb249, 3, none⟩ (.int .i64 t246)).setCell ⟨gb249, 4, none⟩ (.int .i64 16)).setCell ⟨gb249, 5, none⟩ (.int .i64 0)).setCell ⟨gb249, 6, none⟩ (.int .i64 0))) := ⟨by repeat (first | (with_reducible first | exact HB.out | apply below_alloc | apply pw_below_drewN | apply below_drew1 | refine below_set ?_ GE240.out | refine below_set ?_ GE249.out) | exact HB.out)⟩
                    (try clear BK240)
                    (try clear BK249)
                    (try clear HB)
                    generalize (((((((w29.setCell ⟨gb249, 0, none⟩ (.int .i64 t244)).setCell ⟨gb249, 1, none⟩ (.int .i64 t248)).setCell ⟨gb249, 2, none⟩ (.bool false)).setCell ⟨gb249, 3, none⟩ (.int .i64 t246)).setCell ⟨gb249, 4, none⟩ (.int .i64 16)).setCell ⟨gb249, 5, none⟩ (.int .i64 0)).setCell ⟨gb249, 6, none⟩ (.int .i64 0)) = w37 at n0_ n1_ n2_ ⊢
                    have BK240 := n0_
                    have BK249 := n1_
                    have HB := n2_
                    clear n0_ n1_ n2_
                    go_upto_region 5 with (fail)
                    go_cut [53] (fun v53 wc => ∃ (kq : Nat) (x53_16 : Bool), v53 = .bool x53_16 ∧ Aside0 (wave_Read.j0 kq l0 t242 x53_16 t244 t248 false t246 16 0 0 = some (r1, r2, r3, r4, r5, r6, r7, r8, r9)) ∧ Aside0 (kq ≤ k) ∧ Aside0 (wc.heap[gb240]? = some (.cells #[.int .i64 0, .int .i64 0, .bool false, .int .i64 0, .int .i64 0, .int .i64 0, .int .i64 0] 23 (0, 0))) ∧ Aside0 (wc.heap[gb249]? = some (.cells #[.int .i64 t244, .int .i64 t248, .bool false, .int .i64 t246, .int .i64 16, .int .i64 0, .int .i64 0] 23 (0, 0))) ∧ Aside0 (Below w.heap.size w wc))
                    case first =>
                      have H := HC17.out
                      clear HC17
                      by_cases c38 : 4 ≤ (l0.length : Int)
                      · rw [if_pos c38] at H
                        have c38b0 := eq_true c38
                        have c38b1 : decide (4 ≤ (l0.length : Int)) = true := decide_eq_true c38
                        clear c38
                        by_cases c39 : (strOfNums (l0.take 4)).toList = ([82, 73, 70, 70] : List UInt8)
                        · rw [if_pos c39] at H
                          have c39b0 : ((strOfNums (l0.take 4)).toList == ([82, 73, 70, 70] : List UInt8)) = true := beq_iff_eq.mpr c39
                          have c39b1 : ((strOfNums (l0.take 4)).toList != ([82, 73, 70, 70] : List UInt8)) = false := bne_eq_false_iff_eq.mpr c39
                          clear c39
                          (first | rw [c39b0] | (simp only [i64_w, i32_w]; rw [c39b0]) | skip)
                          by_cases c40 : 8 ≤ 16
                          · rw [if_pos c40] at H
                            have c40b0 := eq_true c40
                            have c40b1 : decide (8 ≤ 16) = true := decide_eq_true c40
                            clear c40
                            by_cases c41 : 16 ≤ (l0.length : Int)
                            · rw [if_pos c41] at H
                              have c41b0 := eq_true c41
                              have c41b1 : decide (16 ≤ (l0.length : Int)) = true := decide_eq_true c41
                              clear c41
                              by_cases c42 : (strOfNums ((l0.take 16).drop 8)).toList = ([87, 65, 86, 69, 102, 109, 116, 32] : List UInt8)
                              · rw [if_pos c42] at H
                                have c42b0 : ((strOfNums ((l0.take 16).drop 8)).toList == ([87, 65, 86, 69, 102, 109, 116, 32] : List UInt8)) = true := beq_iff_eq.mpr c42
                                have c42b1 : ((strOfNums ((l0.take 16).drop 8)).toList != ([87, 65, 86, 69, 102, 109, 116, 32] : List UInt8)) = false := bne_eq_false_iff_eq.mpr c42
                                clear c42
                                by_cases c43 : 16 ≤ 20
                                · rw [if_pos c43] at H
                                  have c43b0 := eq_true c43
                                  have c43b1 : decide (16 ≤ 20) = true := decide_eq_true c43
                                  clear c43
                                  by_cases c44 : 20 ≤ (l0.length : Int)
                                  · rw [if_pos c44] at H
                                    have c44b0 := eq_true c44
                                    have c44b1 : decide (20 ≤ (l0.length : Int)) = true := decide_eq_true c44
                                    clear c44
                                    replace H := Option.bind_eq_some_iff.mp H
                                    obtain ⟨t253, A450, H⟩ := H
                                    replace H : (if t253 = 16 then (if 20 ≤ 22 then (if 22 ≤ (l0.length : Int) then ((wave_number.f ((l0.take 22).drop 20)).bind fun t255 => (if t255 = 1 then (if 36 ≤ 40 then (if 40 ≤ (l0.length : Int) then (wave_Read.j0 k l0 t242 ((strOfNums ((l0.take 40).drop 36)).toList != ([100, 97, 116, 97] : List UInt8)) t244 t248 false t246 16 0 0) else (none)) else (none)) else (wave_Read.j0 k l0 t242 true t244 t248 false t246 16 0 0))) else (none)) else (none)) else (wave_Read.j0 k l0 t242 true t244 t248 false t246 16 0 0)) = some (r1, r2, r3, r4, r5, r6, r7, r8, r9) := H
                                    have A45 := Aside0.mk A450
                                    clear A450
                                    by_cases c46 : t253 = 16
                                    · rw [if_pos c46] at H
                                      have c46b0 : (t253 == 16) = true := beq_iff_eq.mpr c46
                                      have c46b1 : (t253 != 16) = false := bne_eq_false_iff_eq.mpr c46
                                      clear c46
                                      by_cases c47 : 20 ≤ 22
                                      · rw [if_pos c47] at H
                                        have c47b0 := eq_true c47
                                        have c47b1 : decide (20 ≤ 22) = true := decide_eq_true c47
                                        clear c47
                                        by_cases c48 : 22 ≤ (l0.length : Int)
                                        · rw [if_pos c48] at H
                                          have c48b0 := eq_true c48
                                          have c48b1 : decide (22 ≤ (l0.length : Int)) = true := decide_eq_true c48
                                          clear c48
                                          replace H := Option.bind_eq_some_iff.mp H
                                          obtain ⟨t255, A490, H⟩ := H
                                          replace H : (if t255 = 1 then (if 36 ≤ 40 then (if 40 ≤ (l0.length : Int) then (wave_Read.j0 k l0 t242 ((strOfNums ((l0.take 40).drop 36)).toList != ([100, 97, 116, 97] : List UInt8)) t244 t248 false t246 16 0 0) else (none)) else (none)) else (wave_Read.j0 k l0 t242 true t244 t248 false t246 16 0 0)) = some (r1, r2, r3, r4, r5, r6, r7, r8, r9) := H
                                          have A49 := Aside0.mk A490
                                          clear A490
                                          by_cases c50 : t255 = 1
                                          · rw [if_pos c50] at H
                                            have c50b0 : (t255 == 1) = true := beq_iff_eq.mpr c50
                                            have c50b1 : (t255 != 1) = false := bne_eq_false_iff_eq.mpr c50
                                            clear c50
                                            by_cases c51 : 36 ≤ 40
                                            · rw [if_pos c51] at H
                                              have c51b0 := eq_true c51
                                              have c51b1 : decide (36 ≤ 40) = true := decide_eq_true c51
                                              clear c51
                                              by_cases c52 : 40 ≤ (l0.length : Int)
                                              · rw [if_pos c52] at H
                                                have c52b0 := eq_true c52
                                                have c52b1 : decide (40 ≤ (l0.length : Int)) = true := decide_eq_true c52
                                                clear c52
                                                have H' := Aside0.mk H
                                                clear H
                                                obtain ⟨i053, hi053, _, hsz53, _⟩ := info_parts info5
                                                obtain ⟨hcut53, hA53, hC53⟩ := print_take_of (P := Try.prog) (Value.int .u8) 0 27 5 .i64 Try.underlying27 hi053 hsz53 A0 c0 l0 4 (by omega) (of_decide_eq_true (by first | (with_reducible assumption) | assumption)) HC0.out
                                                have HR250 := Aside0.mk (Kd.C_of_reads (h1 := fun _ => rfl) (hA53 _ (Kd.reads_of_C HR0.out)))
                                                have HC250 := Aside0.mk hC53
                                                clear hA53 hC53 hi053 hsz53
                                                have hcv54 := Kd.C_string (P := Try.prog) (A := A0) (c := c0) Try.underlying27 Try.underlying5 Try.underlying9 (Kd.C_below HR250.out HB.out)
                                                (try simp only [List.length_take, List.length_drop, Int.reduceToNat] at hcv54)
                                                obtain ⟨i055, hi055, _, hsz55, _⟩ := info_parts info5
                                                obtain ⟨A55, hcut55, hA55, hC55⟩ := print_mid_of (P := Try.prog) (Value.int .u8) 0 27 5 .i64 .i64 Try.underlying27 hi055 hsz55 A0 c0 l0 8 16 (by omega) (by first | omega | exact of_decide_eq_true (by first | (with_reducible assumption) | assumption)) (of_decide_eq_true (by first | (with_reducible assumption) | assumption)) HC0.out
                                                have HR251 := Aside0.mk (Kd.C_of_reads (h1 := fun _ => rfl) (hA55 _ (Kd.reads_of_C HR0.out)))
                                                have HC251 := Aside0.mk hC55
                                                clear hA55 hC55 hi055 hsz55
                                                have hcv56 := Kd.C_string (P := Try.prog) (A := A55) (c := (c0 - 8)) Try.underlying27 Try.underlying5 Try.underlying9 (Kd.C_below HR251.out HB.out)
                                                (try simp only [List.length_take, List.length_drop, Int.reduceToNat] at hcv56)
                                                obtain ⟨i057, hi057, _, hsz57, _⟩ := info_parts info5
                                                obtain ⟨A57, hcut57, hA57, hC57⟩ := print_mid_of (P := Try.prog) (Value.int .u8) 0 27 5 .i64 .i64 Try.underlying27 hi057 hsz57 A0 c0 l0 16 20 (by omega) (by first | omega | exact of_decide_eq_true (by first | (with_reducible assumption) | assumption)) (of_decide_eq_true (by first | (with_reducible assumption) | assumption)) HC0.out
                                                have HR252 := Aside0.mk (Kd.C_of_reads (h1 := fun _ => rfl) (hA57 _ (Kd.reads_of_C HR0.out)))
                                                have HC252 := Aside0.mk hC57
                                                clear hA57 hC57 hi057 hsz57
                                                go_wp2_with (first | (go_at_call 23; rw [show min 20 l0.length - 16 = ((l0.take 20).drop 16).length from by simp]; (with_reducible refine (wave_number.calls _ _ ((l0.take 20).drop 16) t253 _ ?side1 ?side2 A45.out).mono ?_); (case side1 => repeat (first | exact (Kd.C_below HR252.out HB.out) | (with_reducible refine Kd.C_alloc ?_ _) | (with_reducible refine Kd.C_drewN ?_ _) | (with_reducible refine Kd.C_drew ?_))); (case side2 => exact HC252.out); rintro e w58 ⟨rfl, hb⟩; have n0_ := Aside0.mk (blk_below (g := gb240) (o := .cells #[.int .i64 0, .int .i64 0, .bool false, .int .i64 0, .int .i64 0, .int .i64 0, .int .i64 0] 23 (0, 0)) (by (with_reducible repeat (first | refine blk_drewN ?_ _ | refine blk_drew ?_ | refine blk_alloc ?_ _)); exact BK240.out) hb); have n1_ := Aside0.mk (blk_below (g := gb249) (o := .cells #[.int .i64 t244, .int .i64 t248, .bool false, .int .i64 t246, .int .i64 16, .int .i64 0, .int .i64 0] 23 (0, 0)) (by (with_reducible repeat (first | refine blk_drewN ?_ _ | refine blk_drew ?_ | refine blk_alloc ?_ _)); exact BK249.out) hb); have n2_ := Aside0.mk (below_step (by repeat (first | (with_reducible first | exact HB.out | apply below_alloc | apply pw_below_drewN | apply below_drew1 | refine below_set ?_ GE240.out | refine below_set ?_ GE249.out) | exact HB.out)) hb); clear BK240; clear BK249; clear HB; have BK240 := n0_; have BK249 := n1_; have HB := n2_; clear n0_ n1_ n2_; (try clear hb); (try clear hb2); (try clear hk); (try clear hi); obtain ⟨i059, hi059, _, hsz59, _⟩ := info_parts info5; obtain ⟨A59, hcut59, hA59, hC59⟩ := print_mid_of (P := Try.prog) (Value.int .u8) 0 27 5 .i64 .i64 Try.underlying27 hi059 hsz59 A0 c0 l0 20 22 (by omega) (by first | omega | exact of_decide_eq_true (by first | (with_reducible assumption) | assumption)) (of_decide_eq_true (by first | (with_reducible assumption) | assumption)) HC0.out; have HR254 := Aside0.mk (Kd.C_of_reads (h1 := fun _ => rfl) (hA59 _ (Kd.reads_of_C HR0.out))); have HC254 := Aside0.mk hC59; clear hA59 hC59 hi059 hsz59) | (go_at_call 23; rw [show min 22 l0.length - 20 = ((l0.take 22).drop 20).length from by simp]; (with_reducible refine (wave_number.calls _ _ ((l0.take 22).drop 20) t255 _ ?side1 ?side2 A49.out).mono ?_); (case side1 => repeat (first | exact (Kd.C_below HR254.out HB.out) | (with_reducible refine Kd.C_alloc ?_ _) | (with_reducible refine Kd.C_drewN ?_ _) | (with_reducible refine Kd.C_drew ?_))); (case side2 => exact HC254.out); rintro e w60 ⟨rfl, hb⟩; have n0_ := Aside0.mk (blk_below (g := gb240) (o := .cells #[.int .i64 0, .int .i64 0, .bool false, .int .i64 0, .int .i64 0, .int .i64 0, .int .i64 0] 23 (0, 0)) (by (with_reducible repeat (first | refine blk_drewN ?_ _ | refine blk_drew ?_ | refine blk_alloc ?_ _)); exact BK240.out) hb); have n1_ := Aside0.mk (blk_below (g := gb249) (o := .cells #[.int .i64 t244, .int .i64 t248, .bool false, .int .i64 t246, .int .i64 16, .int .i64 0, .int .i64 0] 23 (0, 0)) (by (with_reducible repeat (first | refine blk_drewN ?_ _ | refine blk_drew ?_ | refine blk_alloc ?_ _)); exact BK249.out) hb); have n2_ := Aside0.mk (below_step (by repeat (first | (with_reducible first | exact HB.out | apply below_alloc | apply pw_below_drewN | apply below_drew1 | refine below_set ?_ GE240.out | refine below_set ?_ GE249.out) | exact HB.out)) hb); clear BK240; clear BK249; clear HB; have BK240 := n0_; have BK249 := n1_; have HB := n2_; clear n0_ n1_ n2_; (try clear hb); (try clear hb2); (try clear hk); (try clear hi); obtain ⟨i061, hi061, _, hsz61, _⟩ := info_parts info5; obtain ⟨A61, hcut61, hA61, hC61⟩ := print_mid_of (P := Try.prog) (Value.int .u8) 0 27 5 .i64 .i64 Try.underlying27 hi061 hsz61 A0 c0 l0 36 40 (by omega) (by first | omega | exact of_decide_eq_true (by first | (with_reducible assumption) | assumption)) (of_decide_eq_true (by first | (with_reducible assumption) | assumption)) HC0.out; have HR256 := Aside0.mk (Kd.C_of_reads (h1 := fun _ => rfl) (hA61 _ (Kd.reads_of_C HR0.out))); have HC256 := Aside0.mk hC61; clear hA61 hC61 hi061 hsz61; have hcv62 := Kd.C_string (P := Try.prog) (A := A61) (c := (c0 - 36)) Try.underlying27 Try.underlying5 Try.underlying9 (Kd.C_below HR256.out HB.out); (try simp only [List.length_take, List.length_drop, Int.reduceToNat] at hcv62)))
                                                go_meet
                                                case rel => exact ⟨_, (((strOfNums ((l0.take 40).drop 36)).toList != ([100, 97, 116, 97] : List UInt8))), (by first | rfl | (simp; done) | (simp [*]; done)), H', ⟨by first | omega | exact Nat.le_refl _⟩, ⟨by (with_reducible repeat (first | refine blk_drewN ?_ _ | refine blk_drew ?_ | refine blk_alloc ?_ _)); exact BK240.out⟩, ⟨by (with_reducible repeat (first | refine blk_drewN ?_ _ | refine blk_drew ?_ | refine blk_alloc ?_ _)); exact BK249.out⟩, ⟨by repeat (first | (with_reducible first | exact HB.out | apply below_alloc | apply pw_below_drewN | apply below_drew1 | refine below_set ?_ GE240.out | refine below_set ?_ GE249.out) | exact HB.out)⟩⟩
                                              · rw [if_neg c52] at H
                                                exact absurd H (by simp)
                                            · rw [if_neg c51] at H
                                              exact absurd H (by simp)
                                          · rw [if_neg c50] at H
                                            have c50b0 : (t255 == 1) = false := beq_eq_false_iff_ne.mpr c50
                                            have c50b1 : (t255 != 1) = true := bne_iff_ne.mpr c50
                                            have H' := Aside0.mk H
                                            clear H
                                            obtain ⟨i063, hi063, _, hsz63, _⟩ := info_parts info5
                                            obtain ⟨hcut63, hA63, hC63⟩ := print_take_of (P := Try.prog) (Value.int .u8) 0 27 5 .i64 Try.underlying27 hi063 hsz63 A0 c0 l0 4 (by omega) (of_decide_eq_true (by first | (with_reducible assumption) | assumption)) HC0.out
                                            have HR250 := Aside0.mk (Kd.C_of_reads (h1 := fun _ => rfl) (hA63 _ (Kd.reads_of_C HR0.out)))
                                            have HC250 := Aside0.mk hC63
                                            clear hA63 hC63 hi063 hsz63
                                            have hcv64 := Kd.C_string (P := Try.prog) (A := A0) (c := c0) Try.underlying27 Try.underlying5 Try.underlying9 (Kd.C_below HR250.out HB.out)
                                            (try simp only [List.length_take, List.length_drop, Int.reduceToNat] at hcv64)
                                            obtain ⟨i065, hi065, _, hsz65, _⟩ := info_parts info5
                                            obtain ⟨A65, hcut65, hA65, hC65⟩ := print_mid_of (P := Try.prog) (Value.int .u8) 0 27 5 .i64 .i64 Try.underlying27 hi065 hsz65 A0 c0 l0 8 16 (by omega) (by first | omega | exact of_decide_eq_true (by first | (with_reducible assumption) | assumption)) (of_decide_eq_true (by first | (with_reducible assumption) | assumption)) HC0.out
                                            have HR251 := Aside0.mk (Kd.C_of_reads (h1 := fun _ => rfl) (hA65 _ (Kd.reads_of_C HR0.out)))
                                            have HC251 := Aside0.mk hC65
                                            clear hA65 hC65 hi065 hsz65
                                            have hcv66 := Kd.C_string (P := Try.prog) (A := A65) (c := (c0 - 8)) Try.underlying27 Try.underlying5 Try.underlying9 (Kd.C_below HR251.out HB.out)
                                            (try simp only [List.length_take, List.length_drop, Int.reduceToNat] at hcv66)
                                            obtain ⟨i067, hi067, _, hsz67, _⟩ := info_parts info5
                                            obtain ⟨A67, hcut67, hA67, hC67⟩ := print_mid_of (P := Try.prog) (Value.int .u8) 0 27 5 .i64 .i64 Try.underlying27 hi067 hsz67 A0 c0 l0 16 20 (by omega) (by first | omega | exact of_decide_eq_true (by first | (with_reducible assumption) | assumption)) (of_decide_eq_true (by first | (with_reducible assumption) | assumption)) HC0.out
                                            have HR252 := Aside0.mk (Kd.C_of_reads (h1 := fun _ => rfl) (hA67 _ (Kd.reads_of_C HR0.out)))
                                            have HC252 := Aside0.mk hC67
                                            clear hA67 hC67 hi067 hsz67
                                            go_wp2_with (first | (go_at_call 23; rw [show min 20 l0.length - 16 = ((l0.take 20).drop 16).length from by simp]; (with_reducible refine (wave_number.calls _ _ ((l0.take 20).drop 16) t253 _ ?side1 ?side2 A45.out).mono ?_); (case side1 => repeat (first | exact (Kd.C_below HR252.out HB.out) | (with_reducible refine Kd.C_alloc ?_ _) | (with_reducible refine Kd.C_drewN ?_ _) | (with_reducible refine Kd.C_drew ?_))); (case side2 => exact HC252.out); rintro e w68 ⟨rfl, hb⟩; have n0_ := Aside0.mk (blk_below (g := gb240) (o := .cells #[.int .i64 0, .int .i64 0, .bool false, .int .i64 0, .int .i64 0, .int .i64 0, .int .i64 0] 23 (0, 0)) (by (with_reducible repeat (first | refine blk_drewN ?_ _ | refine blk_drew ?_ | refine blk_alloc ?_ _)); exact BK240.out) hb); have n1_ := Aside0.mk (blk_below (g := gb249) (o := .cells #[.int .i64 t244, .int .i64 t248, .bool false, .int .i64 t246, .int .i64 16, .int .i64 0, .int .i64 0] 23 (0, 0)) (by (with_reducible repeat (first | refine blk_drewN ?_ _ | refine blk_drew ?_ | refine blk_alloc ?_ _)); exact BK249.out) hb); have n2_ := Aside0.mk (below_step (by repeat (first | (with_reducible first | exact HB.out | apply below_alloc | apply pw_below_drewN | apply below_drew1 | refine below_set ?_ GE240.out | refine below_set ?_ GE249.out) | exact HB.out)) hb); clear BK240; clear BK249; clear HB; have BK240 := n0_; have BK249 := n1_; have HB := n2_; clear n0_ n1_ n2_; (try clear hb); (try clear hb2); (try clear hk); (try clear hi); obtain ⟨i069, hi069, _, hsz69, _⟩ := info_parts info5; obtain ⟨A69, hcut69, hA69, hC69⟩ := print_mid_of (P := Try.prog) (Value.int .u8) 0 27 5 .i64 .i64 Try.underlying27 hi069 hsz69 A0 c0 l0 20 22 (by omega) (by first | omega | exact of_decide_eq_true (by first | (with_reducible assumption) | assumption)) (of_decide_eq_true (by first | (with_reducible assumption) | assumption)) HC0.out; have HR254 := Aside0.mk (Kd.C_of_reads (h1 := fun _ => rfl) (hA69 _ (Kd.reads_of_C HR0.out))); have HC254 := Aside0.mk hC69; clear hA69 hC69 hi069 hsz69) | (go_at_call 23; rw [show min 22 l0.length - 20 = ((l0.take 22).drop 20).length from by simp]; (with_reducible refine (wave_number.calls _ _ ((l0.take 22).drop 20) t255 _ ?side1 ?side2 A49.out).mono ?_); (case side1 => repeat (first | exact (Kd.C_below HR254.out HB.out) | (with_reducible refine Kd.C_alloc ?_ _) | (with_reducible refine Kd.C_drewN ?_ _) | (with_reducible refine Kd.C_drew ?_))); (case side2 => exact HC254.out); rintro e w70 ⟨rfl, hb⟩; have n0_ := Aside0.mk (blk_below (g := gb240) (o := .cells #[.int .i64 0, .int .i64 0, .bool false, .int .i64 0, .int .i64 0, .int .i64 0, .int .i64 0] 23 (0, 0)) (by (with_reducible repeat (first | refine blk_drewN ?_ _ | refine blk_drew ?_ | refine blk_alloc ?_ _)); exact BK240.out) hb); have n1_ := Aside0.mk (blk_below (g := gb249) (o := .cells #[.int .i64 t244, .int .i64 t248, .bool false, .int .i64 t246, .int .i64 16, .int .i64 0, .int .i64 0] 23 (0, 0)) (by (with_reducible repeat (first | refine blk_drewN ?_ _ | refine blk_drew ?_ | refine blk_alloc ?_ _)); exact BK249.out) hb); have n2_ := Aside0.mk (below_step (by repeat (first | (with_reducible first | exact HB.out | apply below_alloc | apply pw_below_drewN | apply below_drew1 | refine below_set ?_ GE240.out | refine below_set ?_ GE249.out) | exact HB.out)) hb); clear BK240; clear BK249; clear HB; have BK240 := n0_; have BK249 := n1_; have HB := n2_; clear n0_ n1_ n2_; (try clear hb); (try clear hb2); (try clear hk); (try clear hi)))
                                            go_meet
                                            case rel => exact ⟨_, (true), (by first | rfl | (simp; done) | (simp [*]; done)), H', ⟨by first | omega | exact Nat.le_refl _⟩, ⟨by (with_reducible repeat (first | refine blk_drewN ?_ _ | refine blk_drew ?_ | refine blk_alloc ?_ _)); exact BK240.out⟩, ⟨by (with_reducible repeat (first | refine blk_drewN ?_ _ | refine blk_drew ?_ | refine blk_alloc ?_ _)); exact BK249.out⟩, ⟨by repeat (first | (with_reducible first | exact HB.out | apply below_alloc | apply pw_below_drewN | apply below_drew1 | refine below_set ?_ GE240.out | refine below_set ?_ GE249.out) | exact HB.out)⟩⟩
                                        · rw [if_neg c48] at H
                                          exact absurd H (by simp)
                                      · rw [if_neg c47] at H
                                        exact absurd H (by simp)
                                    · rw [if_neg c46] at H
                                      have c46b0 : (t253 == 16) = false := beq_eq_false_iff_ne.mpr c46
                                      have c46b1 : (t253 != 16) = true := bne_iff_ne.mpr c46
                                      have H' := Aside0.mk H
                                      clear H
                                      obtain ⟨i071, hi071, _, hsz71, _⟩ := info_parts info5
                                      obtain ⟨hcut71, hA71, hC71⟩ := print_take_of (P := Try.prog) (Value.int .u8) 0 27 5 .i64 Try.underlying27 hi071 hsz71 A0 c0 l0 4 (by omega) (of_decide_eq_true (by first | (with_reducible assumption) | assumption)) HC0.out
                                      have HR250 := Aside0.mk (Kd.C_of_reads (h1 := fun _ => rfl) (hA71 _ (Kd.reads_of_C HR0.out)))
                                      have HC250 := Aside0.mk hC71
                                      clear hA71 hC71 hi071 hsz71
                                      have hcv72 := Kd.C_string (P := Try.prog) (A := A0) (c := c0) Try.underlying27 Try.underlying5 Try.underlying9 (Kd.C_below HR250.out HB.out)
                                      (try simp only [List.length_take, List.length_drop, Int.reduceToNat] at hcv72)
                                      obtain ⟨i073, hi073, _, hsz73, _⟩ := info_parts info5
                                      obtain ⟨A73, hcut73, hA73, hC73⟩ := print_mid_of (P := Try.prog) (Value.int .u8) 0 27 5 .i64 .i64 Try.underlying27 hi073 hsz73 A0 c0 l0 8 16 (by omega) (by first | omega | exact of_decide_eq_true (by first | (with_reducible assumption) | assumption)) (of_decide_eq_true (by first | (with_reducible assumption) | assumption)) HC0.out
                                      have HR251 := Aside0.mk (Kd.C_of_reads (h1 := fun _ => rfl) (hA73 _ (Kd.reads_of_C HR0.out)))
                                      have HC251 := Aside0.mk hC73
                                      clear hA73 hC73 hi073 hsz73
                                      have hcv74 := Kd.C_string (P := Try.prog) (A := A73) (c := (c0 - 8)) Try.underlying27 Try.underlying5 Try.underlying9 (Kd.C_below HR251.out HB.out)
                                      (try simp only [List.length_take, List.length_drop, Int.reduceToNat] at hcv74)
                                      obtain ⟨i075, hi075, _, hsz75, _⟩ := info_parts info5
                                      obtain ⟨A75, hcut75, hA75, hC75⟩ := print_mid_of (P := Try.prog) (Value.int .u8) 0 27 5 .i64 .i64 Try.underlying27 hi075 hsz75 A0 c0 l0 16 20 (by omega) (by first | omega | exact of_decide_eq_true (by first | (with_reducible assumption) | assumption)) (of_decide_eq_true (by first | (with_reducible assumption) | assumption)) HC0.out
                                      have HR252 := Aside0.mk (Kd.C_of_reads (h1 := fun _ => rfl) (hA75 _ (Kd.reads_of_C HR0.out)))
                                      have HC252 := Aside0.mk hC75
                                      clear hA75 hC75 hi075 hsz75
                                      go_wp2_with (first | (go_at_call 23; rw [show min 20 l0.length - 16 = ((l0.take 20).drop 16).length from by simp]; (with_reducible refine (wave_number.calls _ _ ((l0.take 20).drop 16) t253 _ ?side1 ?side2 A45.out).mono ?_); (case side1 => repeat (first | exact (Kd.C_below HR252.out HB.out) | (with_reducible refine Kd.C_alloc ?_ _) | (with_reducible refine Kd.C_drewN ?_ _) | (with_reducible refine Kd.C_drew ?_))); (case side2 => exact HC252.out); rintro e w76 ⟨rfl, hb⟩; have n0_ := Aside0.mk (blk_below (g := gb240) (o := .cells #[.int .i64 0, .int .i64 0, .bool false, .int .i64 0, .int .i64 0, .int .i64 0, .int .i64 0] 23 (0, 0)) (by (with_reducible repeat (first | refine blk_drewN ?_ _ | refine blk_drew ?_ | refine blk_alloc ?_ _)); exact BK240.out) hb); have n1_ := Aside0.mk (blk_below (g := gb249) (o := .cells #[.int .i64 t244, .int .i64 t248, .bool false, .int .i64 t246, .int .i64 16, .int .i64 0, .int .i64 0] 23 (0, 0)) (by (with_reducible repeat (first | refine blk_drewN ?_ _ | refine blk_drew ?_ | refine blk_alloc ?_ _)); exact BK249.out) hb); have n2_ := Aside0.mk (below_step (by repeat (first | (with_reducible first | exact HB.out | apply below_alloc | apply pw_below_drewN | apply below_drew1 | refine below_set ?_ GE240.out | refine below_set ?_ GE249.out) | exact HB.out)) hb); clear BK240; clear BK249; clear HB; have BK240 := n0_; have BK249 := n1_; have HB := n2_; clear n0_ n1_ n2_; (try clear hb); (try clear hb2); (try clear hk); (try clear hi)))
                                      go_meet
                                      case rel => exact ⟨_, (true), (by first | rfl | (simp; done) | (simp [*]; done)), H', ⟨by first | omega | exact Nat.le_refl _⟩, ⟨by (with_reducible repeat (first | refine blk_drewN ?_ _ | refine blk_drew ?_ | refine blk_alloc ?_ _)); exact BK240.out⟩, ⟨by (with_reducible repeat (first | refine blk_drewN ?_ _ | refine blk_drew ?_ | refine blk_alloc ?_ _)); exact BK249.out⟩, ⟨by repeat (first | (with_reducible first | exact HB.out | apply below_alloc | apply pw_below_drewN | apply below_drew1 | refine below_set ?_ GE240.out | refine below_set ?_ GE249.out) | exact HB.out)⟩⟩
                                  · rw [if_neg c44] at H
                                    exact absurd H (by simp)
                                · rw [if_neg c43] at H
                                  exact absurd H (by simp)
                              · rw [if_neg c42] at H
                                have c42b0 : ((strOfNums ((l0.take 16).drop 8)).toList == ([87, 65, 86, 69, 102, 109, 116, 32] : List UInt8)) = false := beq_eq_false_iff_ne.mpr c42
                                have c42b1 : ((strOfNums ((l0.take 16).drop 8)).toList != ([87, 65, 86, 69, 102, 109, 116, 32] : List UInt8)) = true := bne_iff_ne.mpr c42
                                have H' := Aside0.mk H
                                clear H
                                obtain ⟨i077, hi077, _, hsz77, _⟩ := info_parts info5
                                obtain ⟨hcut77, hA77, hC77⟩ := print_take_of (P := Try.prog) (Value.int .u8) 0 27 5 .i64 Try.underlying27 hi077 hsz77 A0 c0 l0 4 (by omega) (of_decide_eq_true (by first | (with_reducible assumption) | assumption)) HC0.out
                                have HR250 := Aside0.mk (Kd.C_of_reads (h1 := fun _ => rfl) (hA77 _ (Kd.reads_of_C HR0.out)))
                                have HC250 := Aside0.mk hC77
                                clear hA77 hC77 hi077 hsz77
                                have hcv78 := Kd.C_string (P := Try.prog) (A := A0) (c := c0) Try.underlying27 Try.underlying5 Try.underlying9 (Kd.C_below HR250.out HB.out)
                                (try simp only [List.length_take, List.length_drop, Int.reduceToNat] at hcv78)
                                obtain ⟨i079, hi079, _, hsz79, _⟩ := info_parts info5
                                obtain ⟨A79, hcut79, hA79, hC79⟩ := print_mid_of (P := Try.prog) (Value.int .u8) 0 27 5 .i64 .i64 Try.underlying27 hi079 hsz79 A0 c0 l0 8 16 (by omega) (by first | omega | exact of_decide_eq_true (by first | (with_reducible assumption) | assumption)) (of_decide_eq_true (by first | (with_reducible assumption) | assumption)) HC0.out
                                have HR251 := Aside0.mk (Kd.C_of_reads (h1 := fun _ => rfl) (hA79 _ (Kd.reads_of_C HR0.out)))
                                have HC251 := Aside0.mk hC79
                                clear hA79 hC79 hi079 hsz79
                                have hcv80 := Kd.C_string (P := Try.prog) (A := A79) (c := (c0 - 8)) Try.underlying27 Try.underlying5 Try.underlying9 (Kd.C_below HR251.out HB.out)
                                (try simp only [List.length_take, List.length_drop, Int.reduceToNat] at hcv80)
                                go_wp2
                                go_meet
                                case rel => exact ⟨_, (true), (by first | rfl | (simp; done) | (simp [*]; done)), H', ⟨by first | omega | exact Nat.le_refl _⟩, ⟨by (with_reducible repeat (first | refine blk_drewN ?_ _ | refine blk_drew ?_ | refine blk_alloc ?_ _)); exact BK240.out⟩, ⟨by (with_reducible repeat (first | refine blk_drewN ?_ _ | refine blk_drew ?_ | refine blk_alloc ?_ _)); exact BK249.out⟩, ⟨by repeat (first | (with_reducible first | exact HB.out | apply below_alloc | apply pw_below_drewN | apply below_drew1 | refine below_set ?_ GE240.out | refine below_set ?_ GE249.out) | exact HB.out)⟩⟩
                            · rw [if_neg c41] at H
                              exact absurd H (by simp)
                          · rw [if_neg c40] at H
                            exact absurd H (by simp)
                        · rw [if_neg c39] at H
                          have c39b0 : ((strOfNums (l0.take 4)).toList == ([82, 73, 70, 70] : List UInt8)) = false := beq_eq_false_iff_ne.mpr c39
                          have c39b1 : ((strOfNums (l0.take 4)).toList != ([82, 73, 70, 70] : List UInt8)) = true := bne_iff_ne.mpr c39
                          (first | rw [c39b0] | (simp only [i64_w, i32_w]; rw [c39b0]) | skip)
                          have H' := Aside0.mk H
                          clear H
                          obtain ⟨i081, hi081, _, hsz81, _⟩ := info_parts info5
                          obtain ⟨hcut81, hA81, hC81⟩ := print_take_of (P := Try.prog) (Value.int .u8) 0 27 5 .i64 Try.underlying27 hi081 hsz81 A0 c0 l0 4 (by omega) (of_decide_eq_true (by first | (with_reducible assumption) | assumption)) HC0.out
                          have HR250 := Aside0.mk (Kd.C_of_reads (h1 := fun _ => rfl) (hA81 _ (Kd.reads_of_C HR0.out)))
                          have HC250 := Aside0.mk hC81
                          clear hA81 hC81 hi081 hsz81
                          have hcv82 := Kd.C_string (P := Try.prog) (A := A0) (c := c0) Try.underlying27 Try.underlying5 Try.underlying9 (Kd.C_below HR250.out HB.out)
                          (try simp only [List.length_take, List.length_drop, Int.reduceToNat] at hcv82)
                          go_wp2
                          go_meet
                          case rel => exact ⟨_, (true), (by first | rfl | (simp; done) | (simp [*]; done)), H', ⟨by first | omega | exact Nat.le_refl _⟩, ⟨by (with_reducible repeat (first | refine blk_drewN ?_ _ | refine blk_drew ?_ | refine blk_alloc ?_ _)); exact BK240.out⟩, ⟨by (with_reducible repeat (first | refine blk_drewN ?_ _ | refine blk_drew ?_ | refine blk_alloc ?_ _)); exact BK249.out⟩, ⟨by repeat (first | (with_reducible first | exact HB.out | apply below_alloc | apply pw_below_drewN | apply below_drew1 | refine below_set ?_ GE240.out | refine below_set ?_ GE249.out) | exact HB.out)⟩⟩
                      · rw [if_neg c38] at H
                        exact absurd H (by simp)
                    case rest =>
                      clear HC17
                      try clear c2
                      try clear p2
                      try clear c3
                      try clear c4
                      try clear c5
                      try clear hcv5
                      try clear hcv6
                      try clear hcv7
                      try clear hcv8
                      try clear c23
                      try clear c38
                      try clear c38b0
                      try clear c38b1
                      try clear c39
                      try clear c39b0
                      try clear c39b1
                      try clear c40
                      try clear c40b0
                      try clear c40b1
                      try clear c41
                      try clear c41b0
                      try clear c41b1
                      try clear c42
                      try clear c42b0
                      try clear c42b1
                      try clear c43
                      try clear c43b0
                      try clear c43b1
                      try clear c44
                      try clear c44b0
                      try clear c44b1
                      try clear c46
                      try clear c46b0
                      try clear c46b1
                      try clear c47
                      try clear c47b0
                      try clear c47b1
                      try clear c48
                      try clear c48b0
                      try clear c48b1
                      try clear c50
                      try clear c50b0
                      try clear c50b1
                      try clear c51
                      try clear c51b0
                      try clear c51b1
                      try clear c52
                      try clear c52b0
                      try clear c52b1
                      try clear hcv54
                      try clear hcv56
                      try clear hcv62
                      try clear hcv64
                      try clear hcv66
                      try clear hcv72
                      try clear hcv74
                      try clear hcv78
                      try clear hcv80
                      try clear hcv82
                      obtain ⟨kq, x53_16, rfl, HA, HJ16, BK240, BK249, HB⟩ := hcut
                      cases kq with
                      | zero => exact absurd HA.out (by simp [wave_Read.j0])
                      | succ kj16 =>
                        have H := HA.out
                        clear HA
                        simp only [wave_Read.j0] at H
                        by_cases c83 : x53_16 = true
                        · subst c83
                          have H1 : (some (0, 0, false, 0, 0, 0, 0, ([] : List (List Int)), 6)) = some (r1, r2, r3, r4, r5, r6, r7, r8, r9) := by rw [if_pos rfl] at H; exact H
                          clear H
                          have H := H1
                          clear H1
                          simp only [Option.some.injEq, Prod.mk.injEq] at H
                          obtain ⟨rfl, rfl, rfl, rfl, rfl, rfl, rfl, rfl, rfl⟩ := H
                          have hnb84 := NB240_249.out
                          have hnc84 := NB249_240.out
                          have hcz85_0 : wc.cell? ⟨gb240, 0, none⟩ = some (.int .i64 0) := (blk_cell BK240.out 0).trans rfl
                          have hcz85_1 : wc.cell? ⟨gb240, 1, none⟩ = some (.int .i64 0) := (blk_cell BK240.out 1).trans rfl
                          have hcz85_2 : wc.cell? ⟨gb240, 2, none⟩ = some (.bool false) := (blk_cell BK240.out 2).trans rfl
                          have hcz85_3 : wc.cell? ⟨gb240, 3, none⟩ = some (.int .i64 0) := (blk_cell BK240.out 3).trans rfl
                          have hcz85_4 : wc.cell? ⟨gb240, 4, none⟩ = some (.int .i64 0) := (blk_cell BK240.out 4).trans rfl
                          have hcz85_5 : wc.cell? ⟨gb240, 5, none⟩ = some (.int .i64 0) := (blk_cell BK240.out 5).trans rfl
                          have hcz85_6 : wc.cell? ⟨gb240, 6, none⟩ = some (.int .i64 0) := (blk_cell BK240.out 6).trans rfl
                          have hfz85_0 := blk_frozen BK240.out 0
                          have hfz85_1 := blk_frozen BK240.out 1
                          have hfz85_2 := blk_frozen BK240.out 2
                          have hfz85_3 := blk_frozen BK240.out 3
                          have hfz85_4 := blk_frozen BK240.out 4
                          have hfz85_5 := blk_frozen BK240.out 5
                          have hfz85_6 := blk_frozen BK240.out 6
                          go_wp2
                          refine bodyPost_ret (results_ctt rfl _ _ gb240 23 #[.int .i64 0, .int .i64 0, .bool false, .int .i64 0, .int .i64 0, .int .i64 0, .int .i64 0] (0, 0) _ rfl (by (with_reducible repeat (first | refine blk_drewN ?_ _ | refine blk_drew ?_ | refine blk_alloc ?_ _)); refine blk_put (cs := #[.int .i64 0, .int .i64 0, .bool false, .int .i64 0, .int .i64 0, .int .i64 0, .int .i64 0]) ?_ 6 _ rfl; (with_reducible repeat (first | refine blk_drewN ?_ _ | refine blk_drew ?_ | refine blk_alloc ?_ _)); refine blk_put (cs := #[.int .i64 0, .int .i64 0, .bool false, .int .i64 0, .int .i64 0, .int .i64 0, .int .i64 0]) ?_ 5 _ rfl; (with_reducible repeat (first | refine blk_drewN ?_ _ | refine blk_drew ?_ | refine blk_alloc ?_ _)); refine blk_put (cs := #[.int .i64 0, .int .i64 0, .bool false, .int .i64 0, .int .i64 0, .int .i64 0, .int .i64 0]) ?_ 4 _ rfl; (with_reducible repeat (first | refine blk_drewN ?_ _ | refine blk_drew ?_ | refine blk_alloc ?_ _)); refine blk_put (cs := #[.int .i64 0, .int .i64 0, .bool false, .int .i64 0, .int .i64 0, .int .i64 0, .int .i64 0]) ?_ 3 _ rfl; (with_reducible repeat (first | refine blk_drewN ?_ _ | refine blk_drew ?_ | refine blk_alloc ?_ _)); refine blk_put (cs := #[.int .i64 0, .int .i64 0, .bool false, .int .i64 0, .int .i64 0, .int .i64 0, .int .i64 0]) ?_ 2 _ rfl; (with_reducible repeat (first | refine blk_drewN ?_ _ | refine blk_drew ?_ | refine blk_alloc ?_ _)); refine blk_put (cs := #[.int .i64 0, .int .i64 0, .bool false, .int .i64 0, .int .i64 0, .int .i64 0, .int .i64 0]) ?_ 1 _ rfl; (with_reducible repeat (first | refine blk_drewN ?_ _ | refine blk_drew ?_ | refine blk_alloc ?_ _)); refine blk_put (cs := #[.int .i64 0, .int .i64 0, .bool false, .int .i64 0, .int .i64 0, .int .i64 0, .int .i64 0]) ?_ 0 _ rfl; (with_reducible repeat (first | refine blk_drewN ?_ _ | refine blk_drew ?_ | refine blk_alloc ?_ _)); exact BK240.out) Try.underlying23 rfl (by kernel_rfl)) rfl ?_
                          exact ⟨_, by first | rfl | (simp [errW_none, errW_some] <;> rfl) | (simp [*, errW_none, errW_some] <;> rfl), by first | exact Kd.S_nil _ _ _ _ _ | exact Kd.N_nil _ _ _ _ _ | exact Kd.V_nil _ _ _ _ _ | exact Kd.Q_nil _ _ _ _ _ | exact Kd.R_nil _ _ _ _ _, by repeat (first | (with_reducible first | exact HB.out | apply below_alloc | apply pw_below_drewN | apply below_drew1 | refine below_set ?_ GE240.out | refine below_set ?_ GE249.out) | exact HB.out)⟩
                        · replace c83 := Bool.eq_false_iff.mpr c83
                          subst c83
                          have H1 : ((head_Good.f t244 t248 false t246 16 0 0).bind fun t257 => (if t257 = true then ((wave_Row.f t244 t248 false t246 16 0 0).bind fun t258 => (if t258 = 0 then (none) else (wave_Read.j1 kj16 l0 t242 (decide ((wrap64 (Int.tdiv t242 t258)) > 1048576)) t244 t248 false t246 16 0 0))) else (wave_Read.j1 kj16 l0 t242 true t244 t248 false t246 16 0 0))) = some (r1, r2, r3, r4, r5, r6, r7, r8, r9) := by rw [if_neg (show ¬ (false = true) by decide)] at H; exact H
                          clear H
                          have H := H1
                          clear H1
                          have HC86 := Aside0.mk H
                          clear H
                          go_upto_region 7 with (fail)
                          go_cut [64] (fun v64 wc => ∃ (kq : Nat) (x64_85 : Bool), v64 = .bool x64_85 ∧ Aside0 (wave_Read.j1 kq l0 t242 x64_85 t244 t248 false t246 16 0 0 = some (r1, r2, r3, r4, r5, r6, r7, r8, r9)) ∧ Aside0 (kq ≤ kj16) ∧ Aside0 (wc.heap[gb240]? = some (.cells #[.int .i64 0, .int .i64 0, .bool false, .int .i64 0, .int .i64 0, .int .i64 0, .int .i64 0] 23 (0, 0))) ∧ Aside0 (wc.heap[gb249]? = some (.cells #[.int .i64 t244, .int .i64 t248, .bool false, .int .i64 t246, .int .i64 16, .int .i64 0, .int .i64 0] 23 (0, 0))) ∧ Aside0 (Below w.heap.size w wc))
                          case first =>
                            have H := HC86.out
                            clear HC86
                            replace H := Option.bind_eq_some_iff.mp H
                            obtain ⟨t257, A870, H⟩ := H
                            replace H : (if t257 = true then ((wave_Row.f t244 t248 false t246 16 0 0).bind fun t258 => (if t258 = 0 then (none) else (wave_Read.j1 kj16 l0 t242 (decide ((wrap64 (Int.tdiv t242 t258)) > 1048576)) t244 t248 false t246 16 0 0))) else (wave_Read.j1 kj16 l0 t242 true t244 t248 false t246 16 0 0)) = some (r1, r2, r3, r4, r5, r6, r7, r8, r9) := H
                            have A87 := Aside0.mk A870
                            clear A870
                            by_cases c88 : t257 = true
                            · subst c88
                              have H1 : ((wave_Row.f t244 t248 false t246 16 0 0).bind fun t258 => (if t258 = 0 then (none) else (wave_Read.j1 kj16 l0 t242 (decide ((wrap64 (Int.tdiv t242 t258)) > 1048576)) t244 t248 false t246 16 0 0))) = some (r1, r2, r3, r4, r5, r6, r7, r8, r9) := by rw [if_pos rfl] at H; exact H
                              clear H
                              have H := H1
                              clear H1
                              replace H := Option.bind_eq_some_iff.mp H
                              obtain ⟨t258, A890, H⟩ := H
                              replace H : (if t258 = 0 then (none) else (wave_Read.j1 kj16 l0 t242 (decide ((wrap64 (Int.tdiv t242 t258)) > 1048576)) t244 t248 false t246 16 0 0)) = some (r1, r2, r3, r4, r5, r6, r7, r8, r9) := H
                              have A89 := Aside0.mk A890
                              clear A890
                              by_cases c90 : t258 = 0
                              · rw [if_pos c90] at H
                                exact absurd H (by simp)
                              · rw [if_neg c90] at H
                                have c90b0 : (t258 == 0) = false := beq_eq_false_iff_ne.mpr c90
                                have c90b1 : (t258 != 0) = true := bne_iff_ne.mpr c90
                                (first | rw [c90b0] | (simp only [i64_w, i32_w]; rw [c90b0]) | skip)
                                have H' := Aside0.mk H
                                clear H
                                have hnb91 := NB249_240.out
                                have hnc91 := NB240_249.out
                                have hcz92_0 : wc.cell? ⟨gb249, 0, none⟩ = some (.int .i64 t244) := (blk_cell BK249.out 0).trans rfl
                                have hcz92_1 : wc.cell? ⟨gb249, 1, none⟩ = some (.int .i64 t248) := (blk_cell BK249.out 1).trans rfl
                                have hcz92_2 : wc.cell? ⟨gb249, 2, none⟩ = some (.bool false) := (blk_cell BK249.out 2).trans rfl
                                have hcz92_3 : wc.cell? ⟨gb249, 3, none⟩ = some (.int .i64 t246) := (blk_cell BK249.out 3).trans rfl
                                have hcz92_4 : wc.cell? ⟨gb249, 4, none⟩ = some (.int .i64 16) := (blk_cell BK249.out 4).trans rfl
                                have hcz92_5 : wc.cell? ⟨gb249, 5, none⟩ = some (.int .i64 0) := (blk_cell BK249.out 5).trans rfl
                                have hcz92_6 : wc.cell? ⟨gb249, 6, none⟩ = some (.int .i64 0) := (blk_cell BK249.out 6).trans rfl
                                have hfz92_0 := blk_frozen BK249.out 0
                                have hfz92_1 := blk_frozen BK249.out 1
                                have hfz92_2 := blk_frozen BK249.out 2
                                have hfz92_3 := blk_frozen BK249.out 3
                                have hfz92_4 := blk_frozen BK249.out 4
                                have hfz92_5 := blk_frozen BK249.out 5
                                have hfz92_6 := blk_frozen BK249.out 6
                                go_wp2_with (first | ((with_reducible refine gate_callee (f := 12) rfl ?_); refine goesL_ (some 56) rfl rfl Try.func12 (by kernel_rfl) rfl #[.agg #[.int .i64 t244, .int .i64 t248, .bool false, .int .i64 t246, .int .i64 16, .int .i64 0, .int .i64 0]] rfl (by (try simp only [List.map_toArray, List.map_cons, List.map_nil]); first | done | rfl | (simp only [List.length_drop, List.length_take]; rfl)) ?_; (with_reducible refine (head_Good.calls t244 t248 false t246 16 0 0 true _ A87.out).mono ?_); rintro e w93 ⟨rfl, hb⟩; refine ⟨_, rfl, ?_⟩; have n0_ := Aside0.mk (blk_below (g := gb240) (o := .cells #[.int .i64 0, .int .i64 0, .bool false, .int .i64 0, .int .i64 0, .int .i64 0, .int .i64 0] 23 (0, 0)) (by (with_reducible repeat (first | refine blk_drewN ?_ _ | refine blk_drew ?_ | refine blk_alloc ?_ _)); exact BK240.out) hb); have n1_ := Aside0.mk (blk_below (g := gb249) (o := .cells #[.int .i64 t244, .int .i64 t248, .bool false, .int .i64 t246, .int .i64 16, .int .i64 0, .int .i64 0] 23 (0, 0)) (by (with_reducible repeat (first | refine blk_drewN ?_ _ | refine blk_drew ?_ | refine blk_alloc ?_ _)); exact BK249.out) hb); have n2_ := Aside0.mk (below_step (by repeat (first | (with_reducible first | exact HB.out | apply below_alloc | apply pw_below_drewN | apply below_drew1 | refine below_set ?_ GE240.out | refine below_set ?_ GE249.out) | exact HB.out)) hb); clear BK240; clear BK249; clear HB; have BK240 := n0_; have BK249 := n1_; have HB := n2_; clear n0_ n1_ n2_; (try clear hb); (try clear hb2); (try clear hk); (try clear hi); have hcz94_0 : w93.cell? ⟨gb249, 0, none⟩ = some (.int .i64 t244) := (blk_cell BK249.out 0).trans rfl; have hcz94_1 : w93.cell? ⟨gb249, 1, none⟩ = some (.int .i64 t248) := (blk_cell BK249.out 1).trans rfl; have hcz94_2 : w93.cell? ⟨gb249, 2, none⟩ = some (.bool false) := (blk_cell BK249.out 2).trans rfl; have hcz94_3 : w93.cell? ⟨gb249, 3, none⟩ = some (.int .i64 t246) := (blk_cell BK249.out 3).trans rfl; have hcz94_4 : w93.cell? ⟨gb249, 4, none⟩ = some (.int .i64 16) := (blk_cell BK249.out 4).trans rfl; have hcz94_5 : w93.cell? ⟨gb249, 5, none⟩ = some (.int .i64 0) := (blk_cell BK249.out 5).trans rfl; have hcz94_6 : w93.cell? ⟨gb249, 6, none⟩ = some (.int .i64 0) := (blk_cell BK249.out 6).trans rfl; have hfz94_0 := blk_frozen BK249.out 0; have hfz94_1 := blk_frozen BK249.out 1; have hfz94_2 := blk_frozen BK249.out 2; have hfz94_3 := blk_frozen BK249.out 3; have hfz94_4 := blk_frozen BK249.out 4; have hfz94_5 := blk_frozen BK249.out 5; have hfz94_6 := blk_frozen BK249.out 6) | (go_at_call 11; (with_reducible refine (wave_Row.calls t244 t248 false t246 16 0 0 t258 _ A89.out).mono ?_); rintro e w95 ⟨rfl, hb⟩; have n0_ := Aside0.mk (blk_below (g := gb240) (o := .cells #[.int .i64 0, .int .i64 0, .bool false, .int .i64 0, .int .i64 0, .int .i64 0, .int .i64 0] 23 (0, 0)) (by (with_reducible repeat (first | refine blk_drewN ?_ _ | refine blk_drew ?_ | refine blk_alloc ?_ _)); exact BK240.out) hb); have n1_ := Aside0.mk (blk_below (g := gb249) (o := .cells #[.int .i64 t244, .int .i64 t248, .bool false, .int .i64 t246, .int .i64 16, .int .i64 0, .int .i64 0] 23 (0, 0)) (by (with_reducible repeat (first | refine blk_drewN ?_ _ | refine blk_drew ?_ | refine blk_alloc ?_ _)); exact BK249.out) hb); have n2_ := Aside0.mk (below_step (by repeat (first | (with_reducible first | exact HB.out | apply below_alloc | apply pw_below_drewN | apply below_drew1 | refine below_set ?_ GE240.out | refine below_set ?_ GE249.out) | exact HB.out)) hb); clear BK240; clear BK249; clear HB; have BK240 := n0_; have BK249 := n1_; have HB := n2_; clear n0_ n1_ n2_; (try clear hb); (try clear hb2); (try clear hk); (try clear hi)))
                                go_meet
                                case rel => exact ⟨_, (decide ((wrap64 (Int.tdiv t242 t258)) > 1048576)), (by first | rfl | (simp; done) | (simp [*]; done)), H', ⟨by have := HJ16.out; first | omega | exact Nat.le_refl _⟩, ⟨by (with_reducible repeat (first | refine blk_drewN ?_ _ | refine blk_drew ?_ | refine blk_alloc ?_ _)); exact BK240.out⟩, ⟨by (with_reducible repeat (first | refine blk_drewN ?_ _ | refine blk_drew ?_ | refine blk_alloc ?_ _)); exact BK249.out⟩, ⟨by repeat (first | (with_reducible first | exact HB.out | apply below_alloc | apply pw_below_drewN | apply below_drew1 | refine below_set ?_ GE240.out | refine below_set ?_ GE249.out) | exact HB.out)⟩⟩
                            · replace c88 := Bool.eq_false_iff.mpr c88
                              subst c88
                              have H1 : (wave_Read.j1 kj16 l0 t242 true t244 t248 false t246 16 0 0) = some (r1, r2, r3, r4, r5, r6, r7, r8, r9) := by rw [if_neg (show ¬ (false = true) by decide)] at H; exact H
                              clear H
                              have H := H1
                              clear H1
                              have H' := Aside0.mk H
                              clear H
                              have hnb96 := NB249_240.out
                              have hnc96 := NB240_249.out
                              have hcz97_0 : wc.cell? ⟨gb249, 0, none⟩ = some (.int .i64 t244) := (blk_cell BK249.out 0).trans rfl
                              have hcz97_1 : wc.cell? ⟨gb249, 1, none⟩ = some (.int .i64 t248) := (blk_cell BK249.out 1).trans rfl
                              have hcz97_2 : wc.cell? ⟨gb249, 2, none⟩ = some (.bool false) := (blk_cell BK249.out 2).trans rfl
                              have hcz97_3 : wc.cell? ⟨gb249, 3, none⟩ = some (.int .i64 t246) := (blk_cell BK249.out 3).trans rfl
                              have hcz97_4 : wc.cell? ⟨gb249, 4, none⟩ = some (.int .i64 16) := (blk_cell BK249.out 4).trans rfl
                              have hcz97_5 : wc.cell? ⟨gb249, 5, none⟩ = some (.int .i64 0) := (blk_cell BK249.out 5).trans rfl
                              have hcz97_6 : wc.cell? ⟨gb249, 6, none⟩ = some (.int .i64 0) := (blk_cell BK249.out 6).trans rfl
                              have hfz97_0 := blk_frozen BK249.out 0
                              have hfz97_1 := blk_frozen BK249.out 1
                              have hfz97_2 := blk_frozen BK249.out 2
                              have hfz97_3 := blk_frozen BK249.out 3
                              have hfz97_4 := blk_frozen BK249.out 4
                              have hfz97_5 := blk_frozen BK249.out 5
                              have hfz97_6 := blk_frozen BK249.out 6
                              go_wp2_with (first | ((with_reducible refine gate_callee (f := 12) rfl ?_); refine goesL_ (some 56) rfl rfl Try.func12 (by kernel_rfl) rfl #[.agg #[.int .i64 t244, .int .i64 t248, .bool false, .int .i64 t246, .int .i64 16, .int .i64 0, .int .i64 0]] rfl (by (try simp only [List.map_toArray, List.map_cons, List.map_nil]); first | done | rfl | (simp only [List.length_drop, List.length_take]; rfl)) ?_; (with_reducible refine (head_Good.calls t244 t248 false t246 16 0 0 false _ A87.out).mono ?_); rintro e w98 ⟨rfl, hb⟩; refine ⟨_, rfl, ?_⟩; have n0_ := Aside0.mk (blk_below (g := gb240) (o := .cells #[.int .i64 0, .int .i64 0, .bool false, .int .i64 0, .int .i64 0, .int .i64 0, .int .i64 0] 23 (0, 0)) (by (with_reducible repeat (first | refine blk_drewN ?_ _ | refine blk_drew ?_ | refine blk_alloc ?_ _)); exact BK240.out) hb); have n1_ := Aside0.mk (blk_below (g := gb249) (o := .cells #[.int .i64 t244, .int .i64 t248, .bool false, .int .i64 t246, .int .i64 16, .int .i64 0, .int .i64 0] 23 (0, 0)) (by (with_reducible repeat (first | refine blk_drewN ?_ _ | refine blk_drew ?_ | refine blk_alloc ?_ _)); exact BK249.out) hb); have n2_ := Aside0.mk (below_step (by repeat (first | (with_reducible first | exact HB.out | apply below_alloc | apply pw_below_drewN | apply below_drew1 | refine below_set ?_ GE240.out | refine below_set ?_ GE249.out) | exact HB.out)) hb); clear BK240; clear BK249; clear HB; have BK240 := n0_; have BK249 := n1_; have HB := n2_; clear n0_ n1_ n2_; (try clear hb); (try clear hb2); (try clear hk); (try clear hi)))
                              go_meet
                              case rel => exact ⟨_, (true), (by first | rfl | (simp; done) | (simp [*]; done)), H', ⟨by have := HJ16.out; first | omega | exact Nat.le_refl _⟩, ⟨by (with_reducible repeat (first | refine blk_drewN ?_ _ | refine blk_drew ?_ | refine blk_alloc ?_ _)); exact BK240.out⟩, ⟨by (with_reducible repeat (first | refine blk_drewN ?_ _ | refine blk_drew ?_ | refine blk_alloc ?_ _)); exact BK249.out⟩, ⟨by repeat (first | (with_reducible first | exact HB.out | apply below_alloc | apply pw_below_drewN | apply below_drew1 | refine below_set ?_ GE240.out | refine below_set ?_ GE249.out) | exact HB.out)⟩⟩
                          case rest =>
                            clear HC86
                            try clear c1
                            try clear c2
                            try clear p2
                            try clear c3
                            try clear c4
                            try clear c5
                            try clear hcv5
                            try clear p6
                            try clear hcv6
                            try clear hcv7
                            try clear c8
                            try clear hcv8
                            try clear c9
                            try clear c12
                            try clear c23
                            try clear c38
                            try clear c38b0
                            try clear c38b1
                            try clear c39
                            try clear c39b0
                            try clear c39b1
                            try clear c40
                            try clear c40b0
                            try clear c40b1
                            try clear c41
                            try clear c41b0
                            try clear c41b1
                            try clear c42
                            try clear c42b0
                            try clear c42b1
                            try clear c43
                            try clear c43b0
                            try clear c43b1
                            try clear c44
                            try clear c44b0
                            try clear c44b1
                            try clear c46
                            try clear c46b0
                            try clear c46b1
                            try clear c47
                            try clear c47b0
                            try clear c47b1
                            try clear c48
                            try clear c48b0
                            try clear c48b1
                            try clear c50
                            try clear c50b0
                            try clear c50b1
                            try clear c51
                            try clear c51b0
                            try clear c51b1
                            try clear c52
                            try clear c52b0
                            try clear c52b1
                            try clear hcv54
                            try clear hcv56
                            try clear hcv62
                            try clear p64
                            try clear hcv64
                            try clear hcv66
                            try clear hcv72
                            try clear hcv74
                            try clear hcv78
                            try clear hcv80
                            try clear hcv82
                            try clear c83
                            try clear c84
                            try clear c88
                            try clear c90
                            try clear c90b0
                            try clear c90b1
                            try clear c91
                            try clear c96
                            try clear hcz85_0
                            try clear hcz85_1
                            try clear hcz85_2
                            try clear hcz85_3
                            try clear hcz85_4
                            try clear hcz85_5
                            try clear hcz85_6
                            try clear hcz92_0
                            try clear hcz92_1
                            try clear hcz92_2
                            try clear hcz92_3
                            try clear hcz92_4
                            try clear hcz92_5
                            try clear hcz92_6
                            try clear hcz94_0
                            try clear hcz94_1
                            try clear hcz94_2
                            try clear hcz94_3
                            try clear hcz94_4
                            try clear hcz94_5
                            try clear hcz94_6
                            try clear hcz97_0
                            try clear hcz97_1
                            try clear hcz97_2
                            try clear hcz97_3
                            try clear hcz97_4
                            try clear hcz97_5
                            try clear hcz97_6
                            try clear hfz85_0
                            try clear hfz85_1
                            try clear hfz85_2
                            try clear hfz85_3
                            try clear hfz85_4
                            try clear hfz85_5
                            try clear hfz85_6
                            try clear hfz92_0
                            try clear hfz92_1
                            try clear hfz92_2
                            try clear hfz92_3
                            try clear hfz92_4
                            try clear hfz92_5
                            try clear hfz92_6
                            try clear hfz94_0
                            try clear hfz94_1
                            try clear hfz94_2
                            try clear hfz94_3
                            try clear hfz94_4
                            try clear hfz94_5
                            try clear hfz94_6
                            try clear hfz97_0
                            try clear hfz97_1
                            try clear hfz97_2
                            try clear hfz97_3
                            try clear hfz97_4
                            try clear hfz97_5
                            try clear hfz97_6
                            try clear p2
                            obtain ⟨kq, x64_85, rfl, HA, HJ85, BK240, BK249, HB⟩ := hcut
                            cases kq with
                            | zero => exact absurd HA.out (by simp [wave_Read.j1])
                            | succ kj85 =>
                              have H := HA.out
                              clear HA
                              simp only [wave_Read.j1] at H
                              by_cases c99 : x64_85 = true
                              · subst c99
                                have H1 : (some (0, 0, false, 0, 0, 0, 0, ([] : List (List Int)), 7)) = some (r1, r2, r3, r4, r5, r6, r7, r8, r9) := by rw [if_pos rfl] at H; exact H
                                clear H
                                have H := H1
                                clear H1
                                simp only [Option.some.injEq, Prod.mk.injEq] at H
                                obtain ⟨rfl, rfl, rfl, rfl, rfl, rfl, rfl, rfl, rfl⟩ := H
                                have hnb100 := NB240_249.out
                                have hnc100 := NB249_240.out
                                have hcz101_0 : wc.cell? ⟨gb240, 0, none⟩ = some (.int .i64 0) := (blk_cell BK240.out 0).trans rfl
                                have hcz101_1 : wc.cell? ⟨gb240, 1, none⟩ = some (.int .i64 0) := (blk_cell BK240.out 1).trans rfl
                                have hcz101_2 : wc.cell? ⟨gb240, 2, none⟩ = some (.bool false) := (blk_cell BK240.out 2).trans rfl
                                have hcz101_3 : wc.cell? ⟨gb240, 3, none⟩ = some (.int .i64 0) := (blk_cell BK240.out 3).trans rfl
                                have hcz101_4 : wc.cell? ⟨gb240, 4, none⟩ = some (.int .i64 0) := (blk_cell BK240.out 4).trans rfl
                                have hcz101_5 : wc.cell? ⟨gb240, 5, none⟩ = some (.int .i64 0) := (blk_cell BK240.out 5).trans rfl
                                have hcz101_6 : wc.cell? ⟨gb240, 6, none⟩ = some (.int .i64 0) := (blk_cell BK240.out 6).trans rfl
                                have hfz101_0 := blk_frozen BK240.out 0
                                have hfz101_1 := blk_frozen BK240.out 1
                                have hfz101_2 := blk_frozen BK240.out 2
                                have hfz101_3 := blk_frozen BK240.out 3
                                have hfz101_4 := blk_frozen BK240.out 4
                                have hfz101_5 := blk_frozen BK240.out 5
                                have hfz101_6 := blk_frozen BK240.out 6
                                go_wp2
                                refine bodyPost_ret (results_ctt rfl _ _ gb240 23 #[.int .i64 0, .int .i64 0, .bool false, .int .i64 0, .int .i64 0, .int .i64 0, .int .i64 0] (0, 0) _ rfl (by (with_reducible repeat (first | refine blk_drewN ?_ _ | refine blk_drew ?_ | refine blk_alloc ?_ _)); refine blk_put (cs := #[.int .i64 0, .int .i64 0, .bool false, .int .i64 0, .int .i64 0, .int .i64 0, .int .i64 0]) ?_ 6 _ rfl; (with_reducible repeat (first | refine blk_drewN ?_ _ | refine blk_drew ?_ | refine blk_alloc ?_ _)); refine blk_put (cs := #[.int .i64 0, .int .i64 0, .bool false, .int .i64 0, .int .i64 0, .int .i64 0, .int .i64 0]) ?_ 5 _ rfl; (with_reducible repeat (first | refine blk_drewN ?_ _ | refine blk_drew ?_ | refine blk_alloc ?_ _)); refine blk_put (cs := #[.int .i64 0, .int .i64 0, .bool false, .int .i64 0, .int .i64 0, .int .i64 0, .int .i64 0]) ?_ 4 _ rfl; (with_reducible repeat (first | refine blk_drewN ?_ _ | refine blk_drew ?_ | refine blk_alloc ?_ _)); refine blk_put (cs := #[.int .i64 0, .int .i64 0, .bool false, .int .i64 0, .int .i64 0, .int .i64 0, .int .i64 0]) ?_ 3 _ rfl; (with_reducible repeat (first | refine blk_drewN ?_ _ | refine blk_drew ?_ | refine blk_alloc ?_ _)); refine blk_put (cs := #[.int .i64 0, .int .i64 0, .bool false, .int .i64 0, .int .i64 0, .int .i64 0, .int .i64 0]) ?_ 2 _ rfl; (with_reducible repeat (first | refine blk_drewN ?_ _ | refine blk_drew ?_ | refine blk_alloc ?_ _)); refine blk_put (cs := #[.int .i64 0, .int .i64 0, .bool false, .int .i64 0, .int .i64 0, .int .i64 0, .int .i64 0]) ?_ 1 _ rfl; (with_reducible repeat (first | refine blk_drewN ?_ _ | refine blk_drew ?_ | refine blk_alloc ?_ _)); refine blk_put (cs := #[.int .i64 0, .int .i64 0, .bool false, .int .i64 0, .int .i64 0, .int .i64 0, .int .i64 0]) ?_ 0 _ rfl; (with_reducible repeat (first | refine blk_drewN ?_ _ | refine blk_drew ?_ | refine blk_alloc ?_ _)); exact BK240.out) Try.underlying23 rfl (by kernel_rfl)) rfl ?_
                                exact ⟨_, by first | rfl | (simp [errW_none, errW_some] <;> rfl) | (simp [*, errW_none, errW_some] <;> rfl), by first | exact Kd.S_nil _ _ _ _ _ | exact Kd.N_nil _ _ _ _ _ | exact Kd.V_nil _ _ _ _ _ | exact Kd.Q_nil _ _ _ _ _ | exact Kd.R_nil _ _ _ _ _, by repeat (first | (with_reducible first | exact HB.out | apply below_alloc | apply pw_below_drewN | apply below_drew1 | refine below_set ?_ GE240.out | refine below_set ?_ GE249.out) | exact HB.out)⟩
                              · replace c99 := Bool.eq_false_iff.mpr c99
                                subst c99
                                have H1 : ((wave_Row.f t244 t248 false t246 16 0 0).bind fun t259 => (if t259 = 0 then (none) else (if 44 ≤ (l0.length : Int) then ((wave_first.f kj85 t244 t248 false t246 16 0 (wrap64 (Int.tdiv t242 t259)) t242).bind fun t261 => ((slices_Equal_byte_byte.f kj85 (l0.take 44) t261).bind fun t264 => (if t264 = true then ((wave_Row.f t244 t248 false t246 16 0 (wrap64 (Int.tdiv t242 t259))).bind fun t265 => (if t265 = 0 then (none) else (wave_Read.j2 kj85 l0 t242 ((Int.tmod t242 t265) != 0) t244 t248 false t246 16 0 (wrap64 (Int.tdiv t242 t259))))) else (wave_Read.j2 kj85 l0 t242 true t244 t248 false t246 16 0 (wrap64 (Int.tdiv t242 t259)))))) else (none)))) = some (r1, r2, r3, r4, r5, r6, r7, r8, r9) := by rw [if_neg (show ¬ (false = true) by decide)] at H; exact H
                                clear H
                                have H := H1
                                clear H1
                                replace H := Option.bind_eq_some_iff.mp H
                                obtain ⟨t259, A1020, H⟩ := H
                                replace H : (if t259 = 0 then (none) else (if 44 ≤ (l0.length : Int) then ((wave_first.f kj85 t244 t248 false t246 16 0 (wrap64 (Int.tdiv t242 t259)) t242).bind fun t261 => ((slices_Equal_byte_byte.f kj85 (l0.take 44) t261).bind fun t264 => (if t264 = true then ((wave_Row.f t244 t248 false t246 16 0 (wrap64 (Int.tdiv t242 t259))).bind fun t265 => (if t265 = 0 then (none) else (wave_Read.j2 kj85 l0 t242 ((Int.tmod t242 t265) != 0) t244 t248 false t246 16 0 (wrap64 (Int.tdiv t242 t259))))) else (wave_Read.j2 kj85 l0 t242 true t244 t248 false t246 16 0 (wrap64 (Int.tdiv t242 t259)))))) else (none))) = some (r1, r2, r3, r4, r5, r6, r7, r8, r9) := H
                                have A102 := Aside0.mk A1020
                                clear A1020
                                by_cases c103 : t259 = 0
                                · rw [if_pos c103] at H
                                  exact absurd H (by simp)
                                · rw [if_neg c103] at H
                                  have c103b0 : (t259 == 0) = false := beq_eq_false_iff_ne.mpr c103
                                  have c103b1 : (t259 != 0) = true := bne_iff_ne.mpr c103
                                  have HC104 := Aside0.mk H
                                  clear H
                                  have hnb105 := NB249_240.out
                                  have hnc105 := NB240_249.out
                                  have hcz106_0 : wc.cell? ⟨gb249, 0, none⟩ = some (.int .i64 t244) := (blk_cell BK249.out 0).trans rfl
                                  have hcz106_1 : wc.cell? ⟨gb249, 1, none⟩ = some (.int .i64 t248) := (blk_cell BK249.out 1).trans rfl
                                  have hcz106_2 : wc.cell? ⟨gb249, 2, none⟩ = some (.bool false) := (blk_cell BK249.out 2).trans rfl
                                  have hcz106_3 : wc.cell? ⟨gb249, 3, none⟩ = some (.int .i64 t246) := (blk_cell BK249.out 3).trans rfl
                                  have hcz106_4 : wc.cell? ⟨gb249, 4, none⟩ = some (.int .i64 16) := (blk_cell BK249.out 4).trans rfl
                                  have hcz106_5 : wc.cell? ⟨gb249, 5, none⟩ = some (.int .i64 0) := (blk_cell BK249.out 5).trans rfl
                                  have hcz106_6 : wc.cell? ⟨gb249, 6, none⟩ = some (.int .i64 0) := (blk_cell BK249.out 6).trans rfl
                                  have hfz106_0 := blk_frozen BK249.out 0
                                  have hfz106_1 := blk_frozen BK249.out 1
                                  have hfz106_2 := blk_frozen BK249.out 2
                                  have hfz106_3 := blk_frozen BK249.out 3
                                  have hfz106_4 := blk_frozen BK249.out 4
                                  have hfz106_5 := blk_frozen BK249.out 5
                                  have hfz106_6 := blk_frozen BK249.out 6
                                  go_upto_region 10 with (first | ((with_reducible refine gate_callee (f := 11) rfl ?_); refine goesL_ (some 68) rfl rfl Try.func11 (by kernel_rfl) rfl #[.agg #[.int .i64 t244, .int .i64 t248, .bool false, .int .i64 t246, .int .i64 16, .int .i64 0, .int .i64 0]] rfl (by (try simp only [List.map_toArray, List.map_cons, List.map_nil]); first | done | rfl | (simp only [List.length_drop, List.length_take]; rfl)) ?_; (with_reducible refine (wave_Row.calls t244 t248 false t246 16 0 0 t259 _ A102.out).mono ?_); rintro e w107 ⟨rfl, hb⟩; refine ⟨_, rfl, ?_⟩; have n0_ := Aside0.mk (blk_below (g := gb240) (o := .cells #[.int .i64 0, .int .i64 0, .bool false, .int .i64 0, .int .i64 0, .int .i64 0, .int .i64 0] 23 (0, 0)) (by (with_reducible repeat (first | refine blk_drewN ?_ _ | refine blk_drew ?_ | refine blk_alloc ?_ _)); exact BK240.out) hb); have n1_ := Aside0.mk (blk_below (g := gb249) (o := .cells #[.int .i64 t244, .int .i64 t248, .bool false, .int .i64 t246, .int .i64 16, .int .i64 0, .int .i64 0] 23 (0, 0)) (by (with_reducible repeat (first | refine blk_drewN ?_ _ | refine blk_drew ?_ | refine blk_alloc ?_ _)); exact BK249.out) hb); have n2_ := Aside0.mk (below_step (by repeat (first | (with_reducible first | exact HB.out | apply below_alloc | apply pw_below_drewN | apply below_drew1 | refine below_set ?_ GE240.out | refine below_set ?_ GE249.out) | exact HB.out)) hb); clear BK240; clear BK249; clear HB; have BK240 := n0_; have BK249 := n1_; have HB := n2_; clear n0_ n1_ n2_; (try clear hb); (try clear hb2); (try clear hk); (try clear hi); have hcz108_0 : w107.cell? ⟨gb249, 0, none⟩ = some (.int .i64 t244) := (blk_cell BK249.out 0).trans rfl; have hcz108_1 : w107.cell? ⟨gb249, 1, none⟩ = some (.int .i64 t248) := (blk_cell BK249.out 1).trans rfl; have hcz108_2 : w107.cell? ⟨gb249, 2, none⟩ = some (.bool false) := (blk_cell BK249.out 2).trans rfl; have hcz108_3 : w107.cell? ⟨gb249, 3, none⟩ = some (.int .i64 t246) := (blk_cell BK249.out 3).trans rfl; have hcz108_4 : w107.cell? ⟨gb249, 4, none⟩ = some (.int .i64 16) := (blk_cell BK249.out 4).trans rfl; have hcz108_5 : w107.cell? ⟨gb249, 5, none⟩ = some (.int .i64 0) := (blk_cell BK249.out 5).trans rfl; have hcz108_6 : w107.cell? ⟨gb249, 6, none⟩ = some (.int .i64 0) := (blk_cell BK249.out 6).trans rfl; have hfz108_0 := blk_frozen BK249.out 0; have hfz108_1 := blk_frozen BK249.out 1; have hfz108_2 := blk_frozen BK249.out 2; have hfz108_3 := blk_frozen BK249.out 3; have hfz108_4 := blk_frozen BK249.out 4; have hfz108_5 := blk_frozen BK249.out 5; have hfz108_6 := blk_frozen BK249.out 6))
                                  (try simp only [Act.put, List.setIfInBounds_toArray, List.set_cons_zero, List.set_cons_succ])
                                  go_cut [71] (fun v71 wc => ∃ (kq : Nat) (x71_103 : Bool), v71 = .bool x71_103 ∧ Aside0 (wave_Read.j2 kq l0 t242 x71_103 t244 t248 false t246 16 0 (wrap64 (Int.tdiv t242 t259)) = some (r1, r2, r3, r4, r5, r6, r7, r8, r9)) ∧ Aside0 (kq ≤ kj85) ∧ Aside0 (wc.heap[gb240]? = some (.cells #[.int .i64 0, .int .i64 0, .bool false, .int .i64 0, .int .i64 0, .int .i64 0, .int .i64 0] 23 (0, 0))) ∧ Aside0 (wc.heap[gb249]? = some (.cells #[.int .i64 t244, .int .i64 t248, .bool false, .int .i64 t246, .int .i64 16, .int .i64 0, .int .i64 (wrap64 (Int.tdiv t242 t259))] 23 (0, 0))) ∧ Aside0 (Below w.heap.size w wc))
                                  case first =>
                                    have H := HC104.out
                                    clear HC104
                                    by_cases c109 : 44 ≤ (l0.length : Int)
                                    · rw [if_pos c109] at H
                                      have c109b0 := eq_true c109
                                      have c109b1 : decide (44 ≤ (l0.length : Int)) = true := decide_eq_true c109
                                      clear c109
                                      replace H := Option.bind_eq_some_iff.mp H
                                      obtain ⟨t261, A1100, H⟩ := H
                                      replace H : ((slices_Equal_byte_byte.f kj85 (l0.take 44) t261).bind fun t264 => (if t264 = true then ((wave_Row.f t244 t248 false t246 16 0 (wrap64 (Int.tdiv t242 t259))).bind fun t265 => (if t265 = 0 then (none) else (wave_Read.j2 kj85 l0 t242 ((Int.tmod t242 t265) != 0) t244 t248 false t246 16 0 (wrap64 (Int.tdiv t242 t259))))) else (wave_Read.j2 kj85 l0 t242 true t244 t248 false t246 16 0 (wrap64 (Int.tdiv t242 t259))))) = some (r1, r2, r3, r4, r5, r6, r7, r8, r9) := H
                                      have A110 := Aside0.mk A1100
                                      clear A1100
                                      replace H := Option.bind_eq_some_iff.mp H
                                      obtain ⟨t264, A1110, H⟩ := H
                                      replace H : (if t264 = true then ((wave_Row.f t244 t248 false t246 16 0 (wrap64 (Int.tdiv t242 t259))).bind fun t265 => (if t265 = 0 then (none) else (wave_Read.j2 kj85 l0 t242 ((Int.tmod t242 t265) != 0) t244 t248 false t246 16 0 (wrap64 (Int.tdiv t242 t259))))) else (wave_Read.j2 kj85 l0 t242 true t244 t248 false t246 16 0 (wrap64 (Int.tdiv t242 t259)))) = some (r1, r2, r3, r4, r5, r6, r7, r8, r9) := H
                                      have A111 := Aside0.mk A1110
                                      clear A1110
                                      by_cases c112 : t264 = true
                                      · subst c112
                                        have H1 : ((wave_Row.f t244 t248 false t246 16 0 (wrap64 (Int.tdiv t242 t259))).bind fun t265 => (if t265 = 0 then (none) else (wave_Read.j2 kj85 l0 t242 ((Int.tmod t242 t265) != 0) t244 t248 false t246 16 0 (wrap64 (Int.tdiv t242 t259))))) = some (r1, r2, r3, r4, r5, r6, r7, r8, r9) := by rw [if_pos rfl] at H; exact H
                                        clear H
                                        have H := H1
                                        clear H1
                                        replace H := Option.bind_eq_some_iff.mp H
                                        obtain ⟨t265, A1130, H⟩ := H
                                        replace H : (if t265 = 0 then (none) else (wave_Read.j2 kj85 l0 t242 ((Int.tmod t242 t265) != 0) t244 t248 false t246 16 0 (wrap64 (Int.tdiv t242 t259)))) = some (r1, r2, r3, r4, r5, r6, r7, r8, r9) := H
                                        have A113 := Aside0.mk A1130
                                        clear A1130
                                        by_cases c114 : t265 = 0
                                        · rw [if_pos c114] at H
                                          exact absurd H (by simp)
                                        · rw [if_neg c114] at H
                                          have c114b0 : (t265 == 0) = false := beq_eq_false_iff_ne.mpr c114
                                          have c114b1 : (t265 != 0) = true := bne_iff_ne.mpr c114
                                          (first | rw [c114b0] | (simp only [i64_w, i32_w]; rw [c114b0]) | skip)
                                          have H' := Aside0.mk H
                                          clear H
                                          try go_wp2
                                          have n0_ : Aside0 ((w107.setCell ⟨gb249, 6, none⟩ (.int .i64 (wrap64 (Int.tdiv t242 t259)))).heap[gb240]? = some (.cells #[.int .i64 0, .int .i64 0, .bool false, .int .i64 0, .int .i64 0, .int .i64 0, .int .i64 0] 23 (0, 0))) := ⟨by (with_reducible repeat (first | refine blk_drewN ?_ _ | refine blk_drew ?_ | refine blk_alloc ?_ _)); refine blk_far ?_ NB240_249.out _; (with_reducible repeat (first | refine blk_drewN ?_ _ | refine blk_drew ?_ | refine blk_alloc ?_ _)); exact BK240.out⟩
                                          have n1_ : Aside0 ((w107.setCell ⟨gb249, 6, none⟩ (.int .i64 (wrap64 (Int.tdiv t242 t259)))).heap[gb249]? = some (.cells #[.int .i64 t244, .int .i64 t248, .bool false, .int .i64 t246, .int .i64 16, .int .i64 0, .int .i64 (wrap64 (Int.tdiv t242 t259))] 23 (0, 0))) := ⟨by (with_reducible repeat (first | refine blk_drewN ?_ _ | refine blk_drew ?_ | refine blk_alloc ?_ _)); refine blk_put (cs := #[.int .i64 t244, .int .i64 t248, .bool false, .int .i64 t246, .int .i64 16, .int .i64 0, .int .i64 0]) ?_ 6 _ rfl; (with_reducible repeat (first | refine blk_drewN ?_ _ | refine blk_drew ?_ | refine blk_alloc ?_ _)); exact BK249.out⟩
                                          have n2_ : Aside0 (Below w.heap.size w (w107.setCell ⟨gb249, 6, none⟩ (.int .i64 (wrap64 (Int.tdiv t242 t259))))) := ⟨by repeat (first | (with_reducible first | exact HB.out | apply below_alloc | apply pw_below_drewN | apply below_drew1 | refine below_set ?_ GE240.out | refine below_set ?_ GE249.out) | exact HB.out)⟩
                                          (try clear BK240)
                                          (try clear BK249)
                                          (try clear HB)
                                          generalize (w107.setCell ⟨gb249, 6, none⟩ (.int .i64 (wrap64 (Int.tdiv t242 t259)))) = w115 at n0_ n1_ n2_ ⊢
                                          have BK240 := n0_
                                          have BK249 := n1_
                                          have HB := n2_
                                          clear n0_ n1_ n2_
                                          have n0_ := Aside0.mk (blk_drew BK240.out)
                                          have n1_ := Aside0.mk (blk_drew BK249.out)
                                          have n2_ := Aside0.mk (below_drew1 HB.out)
                                          clear BK240
                                          clear BK249
                                          clear HB
                                          have BK240 := n0_
                                          have BK249 := n1_
                                          have HB := n2_
                                          clear n0_ n1_ n2_
                                          obtain ⟨i0117, hi0117, _, hsz117, _⟩ := info_parts info5
                                          obtain ⟨hcut117, hA117, hC117⟩ := print_take_of (P := Try.prog) (Value.int .u8) 0 27 5 .i64 Try.underlying27 hi0117 hsz117 A0 c0 l0 44 (by omega) (of_decide_eq_true (by first | (with_reducible assumption) | assumption)) HC0.out
                                          have HR260 := Aside0.mk (Kd.C_of_reads (h1 := fun _ => rfl) (hA117 _ (Kd.reads_of_C HR0.out)))
                                          have HC260 := Aside0.mk hC117
                                          clear hA117 hC117 hi0117 hsz117
                                          refine start_ (n := 15) (S := fun w' => w'.cell? ⟨gb249, 0, none⟩ = some (.int .i64 t244) ∧ w'.cell? ⟨gb249, 1, none⟩ = some (.int .i64 t248) ∧ w'.cell? ⟨gb249, 2, none⟩ = some (.bool false) ∧ w'.cell? ⟨gb249, 3, none⟩ = some (.int .i64 t246) ∧ w'.cell? ⟨gb249, 4, none⟩ = some (.int .i64 16) ∧ w'.cell? ⟨gb249, 5, none⟩ = some (.int .i64 0) ∧ w'.cell? ⟨gb249, 6, none⟩ = some (.int .i64 (wrap64 (Int.tdiv t242 t259)))) (ds := []) #[false, false, false, false, false, false, false, false, false, false, false, false, false, false, false] (by kernel_rfl) rfl rfl ⟨(blk_cell BK249.out 0).trans rfl, (blk_cell BK249.out 1).trans rfl, (blk_cell BK249.out 2).trans rfl, (blk_cell BK249.out 3).trans rfl, (blk_cell BK249.out 4).trans rfl, (blk_cell BK249.out 5).trans rfl, (blk_cell BK249.out 6).trans rfl⟩ (fun hHeld => ?_); refine with_tabW wave_Read.tab10 wave_Read.bits10 (fun HT_ HW_ => ?_)
                                          generalize w115.drew = w116 at BK240 BK249 HB HR260 hHeld ⊢
                                          refine pure_ (i := 0) (N := some 72) (v := ?_) (a' := ?_) #[true, false, false, false, false, false, false, false, false, false, false, false, false, false, false] rfl rfl (any_of HT_.out (by kernel_rfl)) (fun _ _ _ h => h) (Or.inl ⟨by rfl, ?_⟩) ?_ ?_
                                          rotate_left
                                          · intro w'
                                            go_simp
                                            with_reducible rfl
                                          rotate_left
                                          · simp only [Act.put, List.setIfInBounds_toArray, List.set_cons_zero, List.set_cons_succ, i64_w, i32_w]
                                            rfl
                                          refine pure_ (i := 1) (N := some 73) (v := ?_) (a' := ?_) #[true, true, false, false, false, false, false, false, false, false, false, false, false, false, false] rfl rfl (any_of HT_.out (by kernel_rfl)) (fun _ _ _ h => h) (Or.inl ⟨by rfl, ?_⟩) ?_ ?_
                                          rotate_left
                                          · intro w'
                                            go_simp
                                            with_reducible rfl
                                          rotate_left
                                          · simp only [Act.put, List.setIfInBounds_toArray, List.set_cons_zero, List.set_cons_succ, i64_w, i32_w]
                                            rfl
                                          refine pure_ (i := 3) (N := some 75) (v := ?_) (a' := ?_) #[true, true, false, true, false, false, false, false, false, false, false, false, false, false, false] rfl rfl (any_of HT_.out (by kernel_rfl)) (fun _ _ _ h => h) (Or.inl ⟨by rfl, ?_⟩) ?_ ?_
                                          rotate_left
                                          · intro w'
                                            go_simp
                                            with_reducible rfl
                                          rotate_left
                                          · simp only [Act.put, List.setIfInBounds_toArray, List.set_cons_zero, List.set_cons_succ, i64_w, i32_w]
                                            rfl
                                          refine take_ (i := 2) (N := some 74) (v := ?_) (a' := ?_) #[true, true, true, true, false, false, false, false, false, false, false, false, false, false, false] rfl rfl (take_ofW HT_.out HW_.out (by kernel_rfl)) (fun _ _ _ h => h) (Or.inl ⟨by rfl, ?_⟩) hHeld ?_ ?_
                                          rotate_left
                                          · rintro w' ⟨s0, s1, s2, s3, s4, s5, s6⟩
                                            go_simp
                                            with_reducible rfl
                                          rotate_left
                                          · simp only [Act.put, List.setIfInBounds_toArray, List.set_cons_zero, List.set_cons_succ, i64_w, i32_w]
                                            rfl
                                          refine one_ (i := 4) (N := some 76) #[true, true, true, true, true, false, false, false, false, false, false, false, false, false, false] rfl rfl (one_of HT_.out (by kernel_rfl)) (by decide) (fun K hK => ?_)
                                          refine goes_ Try.func17 (by kernel_rfl) rfl #[.agg #[.int .i64 t244, .int .i64 t248, .bool false, .int .i64 t246, .int .i64 16, .int .i64 0, .int .i64 (wrap64 (Int.tdiv t242 t259))], .int .i64 t242] (by rfl) rfl rfl (by (try simp only [List.map_toArray, List.map_cons, List.map_nil]); first | done | rfl | (simp only [List.length_drop, List.length_take]; rfl)) ?_
                                          with_reducible refine (wave_first.calls kj85 t244 t248 false t246 16 0 (wrap64 (Int.tdiv t242 t259)) t242 t261 _ A110.out).mono ?_
                                          rintro e w118 ⟨v262, rfl, ho0, hb⟩
                                          refine ⟨_, rfl, ?_⟩
                                          have n0_ := Aside0.mk (Kd.R_lower ho0 (below_size (by repeat (first | (with_reducible first | exact HB.out | apply below_alloc | apply pw_below_drewN | apply below_drew1 | refine below_set ?_ GE240.out | refine below_set ?_ GE249.out) | exact HB.out))))
                                          have n1_ := Aside0.mk (blk_below (g := gb240) (o := .cells #[.int .i64 0, .int .i64 0, .bool false, .int .i64 0, .int .i64 0, .int .i64 0, .int .i64 0] 23 (0, 0)) (by (with_reducible repeat (first | refine blk_drewN ?_ _ | refine blk_drew ?_ | refine blk_alloc ?_ _)); exact BK240.out) hb)
                                          have n2_ := Aside0.mk (blk_below (g := gb249) (o := .cells #[.int .i64 t244, .int .i64 t248, .bool false, .int .i64 t246, .int .i64 16, .int .i64 0, .int .i64 (wrap64 (Int.tdiv t242 t259))] 23 (0, 0)) (by (with_reducible repeat (first | refine blk_drewN ?_ _ | refine blk_drew ?_ | refine blk_alloc ?_ _)); exact BK249.out) hb)
                                          have n3_ := Aside0.mk (below_step (by repeat (first | (with_reducible first | exact HB.out | apply below_alloc | apply pw_below_drewN | apply below_drew1 | refine below_set ?_ GE240.out | refine below_set ?_ GE249.out) | exact HB.out)) hb)
                                          clear BK240
                                          clear BK249
                                          clear HB
                                          have HO263 := n0_
                                          have BK240 := n1_
                                          have BK249 := n2_
                                          have HB := n3_
                                          clear n0_ n1_ n2_ n3_
                                          (try clear hb)
                                          (try clear hb2)
                                          (try clear hk)
                                          (try clear hi)
                                          (try clear ho0)
                                          obtain ⟨Ao119, co119, eo119⟩ := Kd.R_slice HO263.out
                                          (first | subst eo119 | (injection eo119 with f1_ f2_ f3_; have f4_ := f1_.symm; have f5_ := f3_.symm; clear f1_ f2_ f3_; subst f4_; subst f5_))
                                          refine hK.out _ _ ⟨(blk_cell BK249.out 0).trans rfl, (blk_cell BK249.out 1).trans rfl, (blk_cell BK249.out 2).trans rfl, (blk_cell BK249.out 3).trans rfl, (blk_cell BK249.out 4).trans rfl, (blk_cell BK249.out 5).trans rfl, (blk_cell BK249.out 6).trans rfl⟩ (fun hHeld => ?_)
                                          clear hK K
                                          refine norm_ (a' := ?_) ?_ ?_
                                          rotate_left
                                          · show Act.put _ (some 76) _ = _
                                            simp only [Act.put, List.setIfInBounds_toArray, List.set_cons_zero, List.set_cons_succ, i64_w, i32_w]
                                            rfl
                                          refine one_ (i := 5) (N := some 77) #[true, true, true, true, true, true, false, false, false, false, false, false, false, false, false] rfl rfl (one_of HT_.out (by kernel_rfl)) (by decide) (fun K hK => ?_)
                                          refine goes_ Try.func24 (by kernel_rfl) rfl #[.slice A0 (l0.take 44).length c0, .slice Ao119 t261.length co119] (by rfl) rfl rfl (by (try simp only [List.map_toArray, List.map_cons, List.map_nil]); first | done | (rw [show (l0.take 44).length = 44 from (by rw [List.length_take]; have h_ : (44 : Int) ≤ (l0.length : Int) := of_decide_eq_true (by first | (with_reducible assumption) | assumption); omega)] <;> rfl) | rfl | (simp only [List.length_drop, List.length_take]; rfl)) ?_
                                          with_reducible refine (slices_Equal_byte_byte.calls kj85 _ _ (l0.take 44) _ _ t261 true _ ?side1 ?side2 ?side3 ?side4 A111.out).mono ?_
                                          (case side1 => repeat (first | exact (Kd.C_below HR260.out HB.out) | (with_reducible refine Kd.C_alloc ?_ _) | (with_reducible refine Kd.C_drewN ?_ _) | (with_reducible refine Kd.C_drew ?_)))
                                          (case side2 => exact HC260.out)
                                          (case side3 => repeat (first | exact (Kd.R_reads' HO263.out).2.2 | (with_reducible refine Kd.C_alloc ?_ _) | (with_reducible refine Kd.C_drewN ?_ _) | (with_reducible refine Kd.C_drew ?_)))
                                          (case side4 => exact (Kd.R_reads' HO263.out).2.1)
                                          rintro e w' ⟨rfl, ⟨nd, rfl⟩⟩
                                          refine ⟨_, rfl, ?_⟩
                                          refine hK.out _ _ ⟨(blk_cell BK249.out 0).trans rfl, (blk_cell BK249.out 1).trans rfl, (blk_cell BK249.out 2).trans rfl, (blk_cell BK249.out 3).trans rfl, (blk_cell BK249.out 4).trans rfl, (blk_cell BK249.out 5).trans rfl, (blk_cell BK249.out 6).trans rfl⟩ (fun hHeld => ?_)
                                          clear hK K
                                          refine norm_ (a' := ?_) ?_ ?_
                                          rotate_left
                                          · show Act.put _ (some 77) _ = _
                                            simp only [Act.put, List.setIfInBounds_toArray, List.set_cons_zero, List.set_cons_succ, i64_w, i32_w]
                                            rfl
                                          refine pure_ (i := 6) (N := some 78) (v := ?_) (a' := ?_) #[true, true, true, true, true, true, true, false, false, false, false, false, false, false, false] rfl rfl (any_of HT_.out (by kernel_rfl)) (fun _ _ _ h => h) (Or.inl ⟨by rfl, ?_⟩) ?_ ?_
                                          rotate_left
                                          · intro w'
                                            go_simp
                                            with_reducible rfl
                                          rotate_left
                                          · simp only [Act.put, List.setIfInBounds_toArray, List.set_cons_zero, List.set_cons_succ, i64_w, i32_w]
                                            rfl
                                          refine pure_ (i := 7) (N := some 79) (v := ?_) (a' := ?_) #[true, true, true, true, true, true, true, true, false, false, false, false, false, false, false] rfl rfl (any_of HT_.out (by kernel_rfl)) (fun _ _ _ h => h) (Or.inl ⟨by rfl, ?_⟩) ?_ ?_
                                          rotate_left
                                          · intro w'
                                            go_simp
                                            with_reducible rfl
                                          rotate_left
                                          · simp only [Act.put, List.setIfInBounds_toArray, List.set_cons_zero, List.set_cons_succ, i64_w, i32_w]
                                            rfl
                                          refine pure_ (i := 8) (N := some 80) (v := ?_) (a' := ?_) #[true, true, true, true, true, true, true, true, true, false, false, false, false, false, false] rfl rfl (any_of HT_.out (by kernel_rfl)) (fun _ _ _ h => h) (Or.inl ⟨by rfl, ?_⟩) ?_ ?_
                                          rotate_left
                                          · intro w'
                                            go_simp
                                            with_reducible rfl
                                          rotate_left
                                          · simp only [Act.put, List.setIfInBounds_toArray, List.set_cons_zero, List.set_cons_succ, i64_w, i32_w]
                                            rfl
                                          refine take_ (i := 9) (N := some 81) (v := ?_) (a' := ?_) #[true, true, true, true, true, true, true, true, true, true, false, false, false, false, false] rfl rfl (take_ofW HT_.out HW_.out (by kernel_rfl)) (fun _ _ _ h => h) (Or.inl ⟨by rfl, ?_⟩) hHeld ?_ ?_
                                          rotate_left
                                          · rintro w' ⟨s0, s1, s2, s3, s4, s5, s6⟩
                                            go_simp
                                            with_reducible rfl
                                          rotate_left
                                          · simp only [Act.put, List.setIfInBounds_toArray, List.set_cons_zero, List.set_cons_succ, i64_w, i32_w]
                                            rfl
                                          refine one_ (i := 10) (N := some 82) #[true, true, true, true, true, true, true, true, true, true, true, false, false, false, false] rfl rfl (one_of HT_.out (by kernel_rfl)) (by decide) (fun K hK => ?_)
                                          refine goes_ Try.func11 (by kernel_rfl) rfl #[.agg #[.int .i64 t244, .int .i64 t248, .bool false, .int .i64 t246, .int .i64 16, .int .i64 0, .int .i64 (wrap64 (Int.tdiv t242 t259))]] (by rfl) rfl rfl (by (try simp only [List.map_toArray, List.map_cons, List.map_nil]); first | done | rfl | (simp only [List.length_drop, List.length_take]; rfl)) ?_
                                          with_reducible refine (wave_Row.calls t244 t248 false t246 16 0 (wrap64 (Int.tdiv t242 t259)) t265 _ A113.out).mono ?_
                                          rintro e w120 ⟨rfl, hb⟩
                                          refine ⟨_, rfl, ?_⟩
                                          have n0_ := Aside0.mk (Kd.R_below (by (with_reducible repeat (first | apply Kd.R_alloc | apply Kd.R_drewN | apply Kd.R_drew)); exact HO263.out) hb)
                                          have n1_ := Aside0.mk (blk_below (g := gb240) (o := .cells #[.int .i64 0, .int .i64 0, .bool false, .int .i64 0, .int .i64 0, .int .i64 0, .int .i64 0] 23 (0, 0)) (by (with_reducible repeat (first | refine blk_drewN ?_ _ | refine blk_drew ?_ | refine blk_alloc ?_ _)); exact BK240.out) hb)
                                          have n2_ := Aside0.mk (blk_below (g := gb249) (o := .cells #[.int .i64 t244, .int .i64 t248, .bool false, .int .i64 t246, .int .i64 16, .int .i64 0, .int .i64 (wrap64 (Int.tdiv t242 t259))] 23 (0, 0)) (by (with_reducible repeat (first | refine blk_drewN ?_ _ | refine blk_drew ?_ | refine blk_alloc ?_ _)); exact BK249.out) hb)
                                          have n3_ := Aside0.mk (below_step (by repeat (first | (with_reducible first | exact HB.out | apply below_alloc | apply pw_below_drewN | apply below_drew1 | refine below_set ?_ GE240.out | refine below_set ?_ GE249.out) | exact HB.out)) hb)
                                          clear HO263
                                          clear BK240
                                          clear BK249
                                          clear HB
                                          have HO263 := n0_
                                          have BK240 := n1_
                                          have BK249 := n2_
                                          have HB := n3_
                                          clear n0_ n1_ n2_ n3_
                                          (try clear hb)
                                          (try clear hb2)
                                          (try clear hk)
                                          (try clear hi)
                                          refine hK.out _ _ ⟨(blk_cell BK249.out 0).trans rfl, (blk_cell BK249.out 1).trans rfl, (blk_cell BK249.out 2).trans rfl, (blk_cell BK249.out 3).trans rfl, (blk_cell BK249.out 4).trans rfl, (blk_cell BK249.out 5).trans rfl, (blk_cell BK249.out 6).trans rfl⟩ (fun hHeld => ?_)
                                          clear hK K
                                          refine norm_ (a' := ?_) ?_ ?_
                                          rotate_left
                                          · show Act.put _ (some 82) _ = _
                                            simp only [Act.put, List.setIfInBounds_toArray, List.set_cons_zero, List.set_cons_succ, i64_w, i32_w]
                                            rfl
                                          refine pure_ (i := 11) (N := some 83) (v := ?_) (a' := ?_) #[true, true, true, true, true, true, true, true, true, true, true, true, false, false, false] rfl rfl (any_of HT_.out (by kernel_rfl)) (fun _ _ _ h => h) (Or.inl ⟨by rfl, ?_⟩) ?_ ?_
                                          rotate_left
                                          · intro w'
                                            go_simp
                                            with_reducible rfl
                                          rotate_left
                                          · simp only [Act.put, List.setIfInBounds_toArray, List.set_cons_zero, List.set_cons_succ, i64_w, i32_w]
                                            rfl
                                          refine pure_ (i := 12) (N := some 84) (v := ?_) (a' := ?_) #[true, true, true, true, true, true, true, true, true, true, true, true, true, false, false] rfl rfl (any_of HT_.out (by kernel_rfl)) (fun _ _ _ h => h) (Or.inl ⟨by rfl, ?_⟩) ?_ ?_
                                          rotate_left
                                          · intro w'
                                            go_simp
                                            with_reducible rfl
                                          rotate_left
                                          · simp only [Act.put, List.setIfInBounds_toArray, List.set_cons_zero, List.set_cons_succ, i64_w, i32_w]
                                            rfl
                                          refine pure_ (i := 13) (N := some 85) (v := ?_) (a' := ?_) #[true, true, true, true, true, true, true, true, true, true, true, true, true, true, false] rfl rfl (any_of HT_.out (by kernel_rfl)) (fun _ _ _ h => h) (Or.inl ⟨by rfl, ?_⟩) ?_ ?_
                                          rotate_left
                                          · intro w'
                                            go_simp
                                            with_reducible rfl
                                          rotate_left
                                          · simp only [Act.put, List.setIfInBounds_toArray, List.set_cons_zero, List.set_cons_succ, i64_w, i32_w]
                                            rfl
                                          refine pure_ (i := 14) (N := some 71) (v := ?_) (a' := ?_) #[true, true, true, true, true, true, true, true, true, true, true, true, true, true, true] rfl rfl (any_of HT_.out (by kernel_rfl)) (fun _ _ _ h => h) (Or.inl ⟨by rfl, ?_⟩) ?_ ?_
                                          rotate_left
                                          · intro w'
                                            go_simp
                                            with_reducible rfl
                                          rotate_left
                                          · simp only [Act.put, List.setIfInBounds_toArray, List.set_cons_zero, List.set_cons_succ, i64_w, i32_w]
                                            rfl
                                          refine done_ (done_of HT_.out (by kernel_rfl)) ?_
                                          try go_wp2
                                          go_meet
                                          case rel => exact ⟨_, (((Int.tmod t242 t265) != 0)), (by first | rfl | (simp; done) | (simp [*]; done)), H', ⟨by have := HJ16.out; have := HJ85.out; first | omega | exact Nat.le_refl _⟩, ⟨by (with_reducible repeat (first | refine blk_drewN ?_ _ | refine blk_drew ?_ | refine blk_alloc ?_ _)); exact BK240.out⟩, ⟨by (with_reducible repeat (first | refine blk_drewN ?_ _ | refine blk_drew ?_ | refine blk_alloc ?_ _)); exact BK249.out⟩, ⟨by repeat (first | (with_reducible first | exact HB.out | apply below_alloc | apply pw_below_drewN | apply below_drew1 | refine below_set ?_ GE240.out | refine below_set ?_ GE249.out) | exact HB.out)⟩⟩
                                      · replace c112 := Bool.eq_false_iff.mpr c112
                                        subst c112
                                        have H1 : (wave_Read.j2 kj85 l0 t242 true t244 t248 false t246 16 0 (wrap64 (Int.tdiv t242 t259))) = some (r1, r2, r3, r4, r5, r6, r7, r8, r9) := by rw [if_neg (show ¬ (false = true) by decide)] at H; exact H
                                        clear H
                                        have H := H1
                                        clear H1
                                        have H' := Aside0.mk H
                                        clear H
                                        try go_wp2
                                        have n0_ : Aside0 ((w107.setCell ⟨gb249, 6, none⟩ (.int .i64 (wrap64 (Int.tdiv t242 t259)))).heap[gb240]? = some (.cells #[.int .i64 0, .int .i64 0, .bool false, .int .i64 0, .int .i64 0, .int .i64 0, .int .i64 0] 23 (0, 0))) := ⟨by (with_reducible repeat (first | refine blk_drewN ?_ _ | refine blk_drew ?_ | refine blk_alloc ?_ _)); refine blk_far ?_ NB240_249.out _; (with_reducible repeat (first | refine blk_drewN ?_ _ | refine blk_drew ?_ | refine blk_alloc ?_ _)); exact BK240.out⟩
                                        have n1_ : Aside0 ((w107.setCell ⟨gb249, 6, none⟩ (.int .i64 (wrap64 (Int.tdiv t242 t259)))).heap[gb249]? = some (.cells #[.int .i64 t244, .int .i64 t248, .bool false, .int .i64 t246, .int .i64 16, .int .i64 0, .int .i64 (wrap64 (Int.tdiv t242 t259))] 23 (0, 0))) := ⟨by (with_reducible repeat (first | refine blk_drewN ?_ _ | refine blk_drew ?_ | refine blk_alloc ?_ _)); refine blk_put (cs := #[.int .i64 t244, .int .i64 t248, .bool false, .int .i64 t246, .int .i64 16, .int .i64 0, .int .i64 0]) ?_ 6 _ rfl; (with_reducible repeat (first | refine blk_drewN ?_ _ | refine blk_drew ?_ | refine blk_alloc ?_ _)); exact BK249.out⟩
                                        have n2_ : Aside0 (Below w.heap.size w (w107.setCell ⟨gb249, 6, none⟩ (.int .i64 (wrap64 (Int.tdiv t242 t259))))) := ⟨by repeat (first | (with_reducible first | exact HB.out | apply below_alloc | apply pw_below_drewN | apply below_drew1 | refine below_set ?_ GE240.out | refine below_set ?_ GE249.out) | exact HB.out)⟩
                                        (try clear BK240)
                                        (try clear BK249)
                                        (try clear HB)
                                        generalize (w107.setCell ⟨gb249, 6, none⟩ (.int .i64 (wrap64 (Int.tdiv t242 t259)))) = w121 at n0_ n1_ n2_ ⊢
                                        have BK240 := n0_
                                        have BK249 := n1_
                                        have HB := n2_
                                        clear n0_ n1_ n2_
                                        have n0_ := Aside0.mk (blk_drew BK240.out)
                                        have n1_ := Aside0.mk (blk_drew BK249.out)
                                        have n2_ := Aside0.mk (below_drew1 HB.out)
                                        clear BK240
                                        clear BK249
                                        clear HB
                                        have BK240 := n0_
                                        have BK249 := n1_
                                        have HB := n2_
                                        clear n0_ n1_ n2_
                                        obtain ⟨i0123, hi0123, _, hsz123, _⟩ := info_parts info5
                                        obtain ⟨hcut123, hA123, hC123⟩ := print_take_of (P := Try.prog) (Value.int .u8) 0 27 5 .i64 Try.underlying27 hi0123 hsz123 A0 c0 l0 44 (by omega) (of_decide_eq_true (by first | (with_reducible assumption) | assumption)) HC0.out
                                        have HR260 := Aside0.mk (Kd.C_of_reads (h1 := fun _ => rfl) (hA123 _ (Kd.reads_of_C HR0.out)))
                                        have HC260 := Aside0.mk hC123
                                        clear hA123 hC123 hi0123 hsz123
                                        refine start_ (n := 15) (S := fun w' => w'.cell? ⟨gb249, 0, none⟩ = some (.int .i64 t244) ∧ w'.cell? ⟨gb249, 1, none⟩ = some (.int .i64 t248) ∧ w'.cell? ⟨gb249, 2, none⟩ = some (.bool false) ∧ w'.cell? ⟨gb249, 3, none⟩ = some (.int .i64 t246) ∧ w'.cell? ⟨gb249, 4, none⟩ = some (.int .i64 16) ∧ w'.cell? ⟨gb249, 5, none⟩ = some (.int .i64 0) ∧ w'.cell? ⟨gb249, 6, none⟩ = some (.int .i64 (wrap64 (Int.tdiv t242 t259)))) (ds := []) #[false, false, false, false, false, false, false, false, false, false, false, false, false, false, false] (by kernel_rfl) rfl rfl ⟨(blk_cell BK249.out 0).trans rfl, (blk_cell BK249.out 1).trans rfl, (blk_cell BK249.out 2).trans rfl, (blk_cell BK249.out 3).trans rfl, (blk_cell BK249.out 4).trans rfl, (blk_cell BK249.out 5).trans rfl, (blk_cell BK249.out 6).trans rfl⟩ (fun hHeld => ?_); refine with_tabW wave_Read.tab10 wave_Read.bits10 (fun HT_ HW_ => ?_)
                                        generalize w121.drew = w122 at BK240 BK249 HB HR260 hHeld ⊢
                                        refine pure_ (i := 0) (N := some 72) (v := ?_) (a' := ?_) #[true, false, false, false, false, false, false, false, false, false, false, false, false, false, false] rfl rfl (any_of HT_.out (by kernel_rfl)) (fun _ _ _ h => h) (Or.inl ⟨by rfl, ?_⟩) ?_ ?_
                                        rotate_left
                                        · intro w'
                                          go_simp
                                          with_reducible rfl
                                        rotate_left
                                        · simp only [Act.put, List.setIfInBounds_toArray, List.set_cons_zero, List.set_cons_succ, i64_w, i32_w]
                                          rfl
                                        refine pure_ (i := 1) (N := some 73) (v := ?_) (a' := ?_) #[true, true, false, false, false, false, false, false, false, false, false, false, false, false, false] rfl rfl (any_of HT_.out (by kernel_rfl)) (fun _ _ _ h => h) (Or.inl ⟨by rfl, ?_⟩) ?_ ?_
                                        rotate_left
                                        · intro w'
                                          go_simp
                                          with_reducible rfl
                                        rotate_left
                                        · simp only [Act.put, List.setIfInBounds_toArray, List.set_cons_zero, List.set_cons_succ, i64_w, i32_w]
                                          rfl
                                        refine pure_ (i := 3) (N := some 75) (v := ?_) (a' := ?_) #[true, true, false, true, false, false, false, false, false, false, false, false, false, false, false] rfl rfl (any_of HT_.out (by kernel_rfl)) (fun _ _ _ h => h) (Or.inl ⟨by rfl, ?_⟩) ?_ ?_
                                        rotate_left
                                        · intro w'
                                          go_simp
                                          with_reducible rfl
                                        rotate_left
                                        · simp only [Act.put, List.setIfInBounds_toArray, List.set_cons_zero, List.set_cons_succ, i64_w, i32_w]
                                          rfl
                                        refine take_ (i := 2) (N := some 74) (v := ?_) (a' := ?_) #[true, true, true, true, false, false, false, false, false, false, false, false, false, false, false] rfl rfl (take_ofW HT_.out HW_.out (by kernel_rfl)) (fun _ _ _ h => h) (Or.inl ⟨by rfl, ?_⟩) hHeld ?_ ?_
                                        rotate_left
                                        · rintro w' ⟨s0, s1, s2, s3, s4, s5, s6⟩
                                          go_simp
                                          with_reducible rfl
                                        rotate_left
                                        · simp only [Act.put, List.setIfInBounds_toArray, List.set_cons_zero, List.set_cons_succ, i64_w, i32_w]
                                          rfl
                                        refine one_ (i := 4) (N := some 76) #[true, true, true, true, true, false, false, false, false, false, false, false, false, false, false] rfl rfl (one_of HT_.out (by kernel_rfl)) (by decide) (fun K hK => ?_)
                                        refine goes_ Try.func17 (by kernel_rfl) rfl #[.agg #[.int .i64 t244, .int .i64 t248, .bool false, .int .i64 t246, .int .i64 16, .int .i64 0, .int .i64 (wrap64 (Int.tdiv t242 t259))], .int .i64 t242] (by rfl) rfl rfl (by (try simp only [List.map_toArray, List.map_cons, List.map_nil]); first | done | rfl | (simp only [List.length_drop, List.length_take]; rfl)) ?_
                                        with_reducible refine (wave_first.calls kj85 t244 t248 false t246 16 0 (wrap64 (Int.tdiv t242 t259)) t242 t261 _ A110.out).mono ?_
                                        rintro e w124 ⟨v262, rfl, ho0, hb⟩
                                        refine ⟨_, rfl, ?_⟩
                                        have n0_ := Aside0.mk (Kd.R_lower ho0 (below_size (by repeat (first | (with_reducible first | exact HB.out | apply below_alloc | apply pw_below_drewN | apply below_drew1 | refine below_set ?_ GE240.out | refine below_set ?_ GE249.out) | exact HB.out))))
                                        have n1_ := Aside0.mk (blk_below (g := gb240) (o := .cells #[.int .i64 0, .int .i64 0, .bool false, .int .i64 0, .int .i64 0, .int .i64 0, .int .i64 0] 23 (0, 0)) (by (with_reducible repeat (first | refine blk_drewN ?_ _ | refine blk_drew ?_ | refine blk_alloc ?_ _)); exact BK240.out) hb)
                                        have n2_ := Aside0.mk (blk_below (g := gb249) (o := .cells #[.int .i64 t244, .int .i64 t248, .bool false, .int .i64 t246, .int .i64 16, .int .i64 0, .int .i64 (wrap64 (Int.tdiv t242 t259))] 23 (0, 0)) (by (with_reducible repeat (first | refine blk_drewN ?_ _ | refine blk_drew ?_ | refine blk_alloc ?_ _)); exact BK249.out) hb)
                                        have n3_ := Aside0.mk (below_step (by repeat (first | (with_reducible first | exact HB.out | apply below_alloc | apply pw_below_drewN | apply below_drew1 | refine below_set ?_ GE240.out | refine below_set ?_ GE249.out) | exact HB.out)) hb)
                                        clear BK240
                                        clear BK249
                                        clear HB
                                        have HO263 := n0_
                                        have BK240 := n1_
                                        have BK249 := n2_
                                        have HB := n3_
                                        clear n0_ n1_ n2_ n3_
                                        (try clear hb)
                                        (try clear hb2)
                                        (try clear hk)
                                        (try clear hi)
                                        (try clear ho0)
                                        obtain ⟨Ao125, co125, eo125⟩ := Kd.R_slice HO263.out
                                        (first | subst eo125 | (injection eo125 with f1_ f2_ f3_; have f4_ := f1_.symm; have f5_ := f3_.symm; clear f1_ f2_ f3_; subst f4_; subst f5_))
                                        refine hK.out _ _ ⟨(blk_cell BK249.out 0).trans rfl, (blk_cell BK249.out 1).trans rfl, (blk_cell BK249.out 2).trans rfl, (blk_cell BK249.out 3).trans rfl, (blk_cell BK249.out 4).trans rfl, (blk_cell BK249.out 5).trans rfl, (blk_cell BK249.out 6).trans rfl⟩ (fun hHeld => ?_)
                                        clear hK K
                                        refine norm_ (a' := ?_) ?_ ?_
                                        rotate_left
                                        · show Act.put _ (some 76) _ = _
                                          simp only [Act.put, List.setIfInBounds_toArray, List.set_cons_zero, List.set_cons_succ, i64_w, i32_w]
                                          rfl
                                        refine one_ (i := 5) (N := some 77) #[true, true, true, true, true, true, false, false, false, false, false, false, false, false, false] rfl rfl (one_of HT_.out (by kernel_rfl)) (by decide) (fun K hK => ?_)
                                        refine goes_ Try.func24 (by kernel_rfl) rfl #[.slice A0 (l0.take 44).length c0, .slice Ao125 t261.length co125] (by rfl) rfl rfl (by (try simp only [List.map_toArray, List.map_cons, List.map_nil]); first | done | (rw [show (l0.take 44).length = 44 from (by rw [List.length_take]; have h_ : (44 : Int) ≤ (l0.length : Int) := of_decide_eq_true (by first | (with_reducible assumption) | assumption); omega)] <;> rfl) | rfl | (simp only [List.length_drop, List.length_take]; rfl)) ?_
                                        with_reducible refine (slices_Equal_byte_byte.calls kj85 _ _ (l0.take 44) _ _ t261 false _ ?side1 ?side2 ?side3 ?side4 A111.out).mono ?_
                                        (case side1 => repeat (first | exact (Kd.C_below HR260.out HB.out) | (with_reducible refine Kd.C_alloc ?_ _) | (with_reducible refine Kd.C_drewN ?_ _) | (with_reducible refine Kd.C_drew ?_)))
                                        (case side2 => exact HC260.out)
                                        (case side3 => repeat (first | exact (Kd.R_reads' HO263.out).2.2 | (with_reducible refine Kd.C_alloc ?_ _) | (with_reducible refine Kd.C_drewN ?_ _) | (with_reducible refine Kd.C_drew ?_)))
                                        (case side4 => exact (Kd.R_reads' HO263.out).2.1)
                                        rintro e w' ⟨rfl, ⟨nd, rfl⟩⟩
                                        refine ⟨_, rfl, ?_⟩
                                        refine hK.out _ _ ⟨(blk_cell BK249.out 0).trans rfl, (blk_cell BK249.out 1).trans rfl, (blk_cell BK249.out 2).trans rfl, (blk_cell BK249.out 3).trans rfl, (blk_cell BK249.out 4).trans rfl, (blk_cell BK249.out 5).trans rfl, (blk_cell BK249.out 6).trans rfl⟩ (fun hHeld => ?_)
                                        clear hK K
                                        refine norm_ (a' := ?_) ?_ ?_
                                        rotate_left
                                        · show Act.put _ (some 77) _ = _
                                          simp only [Act.put, List.setIfInBounds_toArray, List.set_cons_zero, List.set_cons_succ, i64_w, i32_w]
                                          rfl
                                        refine pure_ (i := 6) (N := some 78) (v := ?_) (a' := ?_) #[true, true, true, true, true, true, true, false, false, false, false, false, false, false, false] rfl rfl (any_of HT_.out (by kernel_rfl)) (fun _ _ _ h => h) (Or.inl ⟨by rfl, ?_⟩) ?_ ?_
                                        rotate_left
                                        · intro w'
                                          go_simp
                                          with_reducible rfl
                                        rotate_left
                                        · simp only [Act.put, List.setIfInBounds_toArray, List.set_cons_zero, List.set_cons_succ, i64_w, i32_w]
                                          rfl
                                        refine pure_ (i := 7) (N := some 79) (v := ?_) (a' := ?_) #[true, true, true, true, true, true, true, true, false, false, false, false, false, false, false] rfl rfl (any_of HT_.out (by kernel_rfl)) (fun _ _ _ h => h) (Or.inl ⟨by rfl, ?_⟩) ?_ ?_
                                        rotate_left
                                        · intro w'
                                          go_simp
                                          with_reducible rfl
                                        rotate_left
                                        · simp only [Act.put, List.setIfInBounds_toArray, List.set_cons_zero, List.set_cons_succ, i64_w, i32_w]
                                          rfl
                                        refine pure_ (i := 8) (N := some 80) (v := undef) (a' := ?_) #[true, true, true, true, true, true, true, true, true, false, false, false, false, false, false] rfl rfl (any_of HT_.out (by kernel_rfl)) (fun _ _ _ h => h) (Or.inr ⟨by rfl, rfl⟩) ?_ ?_
                                        rotate_left
                                        · simp only [Act.put, List.setIfInBounds_toArray, List.set_cons_zero, List.set_cons_succ, i64_w, i32_w]
                                          rfl
                                        refine pure_ (i := 9) (N := some 81) (v := undef) (a' := ?_) #[true, true, true, true, true, true, true, true, true, true, false, false, false, false, false] rfl rfl (any_of HT_.out (by kernel_rfl)) (fun _ _ _ h => h) (Or.inr ⟨by rfl, rfl⟩) ?_ ?_
                                        rotate_left
                                        · simp only [Act.put, List.setIfInBounds_toArray, List.set_cons_zero, List.set_cons_succ, i64_w, i32_w]
                                          rfl
                                        refine pure_ (i := 10) (N := some 82) (v := undef) (a' := ?_) #[true, true, true, true, true, true, true, true, true, true, true, false, false, false, false] rfl rfl (any_of HT_.out (by kernel_rfl)) (fun _ _ _ h => h) (Or.inr ⟨by rfl, rfl⟩) ?_ ?_
                                        rotate_left
                                        · simp only [Act.put, List.setIfInBounds_toArray, List.set_cons_zero, List.set_cons_succ, i64_w, i32_w]
                                          rfl
                                        refine pure_ (i := 11) (N := some 83) (v := undef) (a' := ?_) #[true, true, true, true, true, true, true, true, true, true, true, true, false, false, false] rfl rfl (any_of HT_.out (by kernel_rfl)) (fun _ _ _ h => h) (Or.inr ⟨by rfl, rfl⟩) ?_ ?_
                                        rotate_left
                                        · simp only [Act.put, List.setIfInBounds_toArray, List.set_cons_zero, List.set_cons_succ, i64_w, i32_w]
                                          rfl
                                        refine pure_ (i := 12) (N := some 84) (v := undef) (a' := ?_) #[true, true, true, true, true, true, true, true, true, true, true, true, true, false, false] rfl rfl (any_of HT_.out (by kernel_rfl)) (fun _ _ _ h => h) (Or.inr ⟨by rfl, rfl⟩) ?_ ?_
                                        rotate_left
                                        · simp only [Act.put, List.setIfInBounds_toArray, List.set_cons_zero, List.set_cons_succ, i64_w, i32_w]
                                          rfl
                                        refine pure_ (i := 13) (N := some 85) (v := ?_) (a' := ?_) #[true, true, true, true, true, true, true, true, true, true, true, true, true, true, false] rfl rfl (any_of HT_.out (by kernel_rfl)) (fun _ _ _ h => h) (Or.inl ⟨by rfl, ?_⟩) ?_ ?_
                                        rotate_left
                                        · intro w'
                                          go_simp
                                          with_reducible rfl
                                        rotate_left
                                        · simp only [Act.put, List.setIfInBounds_toArray, List.set_cons_zero, List.set_cons_succ, i64_w, i32_w]
                                          rfl
                                        refine pure_ (i := 14) (N := some 71) (v := ?_) (a' := ?_) #[true, true, true, true, true, true, true, true, true, true, true, true, true, true, true] rfl rfl (any_of HT_.out (by kernel_rfl)) (fun _ _ _ h => h) (Or.inl ⟨by rfl, ?_⟩) ?_ ?_
                                        rotate_left
                                        · intro w'
                                          go_simp
                                          with_reducible rfl
                                        rotate_left
                                        · simp only [Act.put, List.setIfInBounds_toArray, List.set_cons_zero, List.set_cons_succ, i64_w, i32_w]
                                          rfl
                                        refine done_ (done_of HT_.out (by kernel_rfl)) ?_
                                        try go_wp2
                                        go_meet
                                        case rel => exact ⟨_, (true), (by first | rfl | (simp; done) | (simp [*]; done)), H', ⟨by have := HJ16.out; have := HJ85.out; first | omega | exact Nat.le_refl _⟩, ⟨by (with_reducible repeat (first | refine blk_drewN ?_ _ | refine blk_drew ?_ | refine blk_alloc ?_ _)); exact BK240.out⟩, ⟨by (with_reducible repeat (first | refine blk_drewN ?_ _ | refine blk_drew ?_ | refine blk_alloc ?_ _)); exact BK249.out⟩, ⟨by repeat (first | (with_reducible first | exact HB.out | apply below_alloc | apply pw_below_drewN | apply below_drew1 | refine below_set ?_ GE240.out | refine below_set ?_ GE249.out) | exact HB.out)⟩⟩
                                    · rw [if_neg c109] at H
                                      exact absurd H (by simp)
                                  case rest =>
                                    clear HC104
                                    try clear c1
                                    try clear c2
                                    try clear p2
                                    try clear c4
                                    try clear c5
                                    try clear hcv5
                                    try clear p6
                                    try clear hcv6
                                    try clear hcv7
                                    try clear c8
                                    try clear hcv8
                                    try clear c9
                                    try clear c10
                                    try clear c11
                                    try clear c17
                                    try clear c24
                                    try clear c40
                                    try clear c40b0
                                    try clear c40b1
                                    try clear c41
                                    try clear c41b0
                                    try clear c41b1
                                    try clear c42
                                    try clear c42b0
                                    try clear c42b1
                                    try clear c43
                                    try clear c43b0
                                    try clear c43b1
                                    try clear c44
                                    try clear c44b0
                                    try clear c44b1
                                    try clear c46
                                    try clear c46b0
                                    try clear c46b1
                                    try clear c47
                                    try clear c47b0
                                    try clear c47b1
                                    try clear c48
                                    try clear c48b0
                                    try clear c48b1
                                    try clear c50
                                    try clear c50b0
                                    try clear c50b1
                                    try clear c51
                                    try clear c51b0
                                    try clear c51b1
                                    try clear c52
                                    try clear c52b0
                                    try clear c52b1
                                    try clear hcv54
                                    try clear hcv56
                                    try clear hcv62
                                    try clear p64
                                    try clear hcv64
                                    try clear hcv66
                                    try clear hcv72
                                    try clear hcv74
                                    try clear hcv78
                                    try clear hcv80
                                    try clear hcv82
                                    try clear c83
                                    try clear c84
                                    try clear c88
                                    try clear c90
                                    try clear c90b0
                                    try clear c90b1
                                    try clear c91
                                    try clear c96
                                    try clear c99
                                    try clear c100
                                    try clear c103
                                    try clear c103b0
                                    try clear c103b1
                                    try clear c105
                                    try clear c109
                                    try clear c109b0
                                    try clear c109b1
                                    try clear c112
                                    try clear c114
                                    try clear c114b0
                                    try clear c114b1
                                    try clear hcz101_0
                                    try clear hcz101_1
                                    try clear hcz101_2
                                    try clear hcz101_3
                                    try clear hcz101_4
                                    try clear hcz101_5
                                    try clear hcz101_6
                                    try clear hcz106_0
                                    try clear hcz106_1
                                    try clear hcz106_2
                                    try clear hcz106_3
                                    try clear hcz106_4
                                    try clear hcz106_5
                                    try clear hcz106_6
                                    try clear hcz108_0
                                    try clear hcz108_1
                                    try clear hcz108_2
                                    try clear hcz108_3
                                    try clear hcz108_4
                                    try clear hcz108_5
                                    try clear hcz108_6
                                    try clear hcz85_0
                                    try clear hcz85_1
                                    try clear hcz85_2
                                    try clear hcz85_3
                                    try clear hcz85_4
                                    try clear hcz85_5
                                    try clear hcz85_6
                                    try clear hcz92_0
                                    try clear hcz92_1
                                    try clear hcz92_2
                                    try clear hcz92_3
                                    try clear hcz92_4
                                    try clear hcz92_5
                                    try clear hcz92_6
                                    try clear hcz94_0
                                    try clear hcz94_1
                                    try clear hcz94_2
                                    try clear hcz94_3
                                    try clear hcz94_4
                                    try clear hcz94_5
                                    try clear hcz94_6
                                    try clear hcz97_0
                                    try clear hcz97_1
                                    try clear hcz97_2
                                    try clear hcz97_3
                                    try clear hcz97_4
                                    try clear hcz97_5
                                    try clear hcz97_6
                                    try clear hfz101_0
                                    try clear hfz101_1
                                    try clear hfz101_2
                                    try clear hfz101_3
                                    try clear hfz101_4
                                    try clear hfz101_5
                                    try clear hfz101_6
                                    try clear hfz106_0
                                    try clear hfz106_1
                                    try clear hfz106_2
                                    try clear hfz106_3
                                    try clear hfz106_4
                                    try clear hfz106_5
                                    try clear hfz106_6
                                    try clear hfz108_0
                                    try clear hfz108_1
                                    try clear hfz108_2
                                    try clear hfz108_3
                                    try clear hfz108_4
                                    try clear hfz108_5
                                    try clear hfz108_6
                                    try clear hfz85_0
                                    try clear hfz85_1
                                    try clear hfz85_2
                                    try clear hfz85_3
                                    try clear hfz85_4
                                    try clear hfz85_5
                                    try clear hfz85_6
                                    try clear hfz92_0
                                    try clear hfz92_1
                                    try clear hfz92_2
                                    try clear hfz92_3
                                    try clear hfz92_4
                                    try clear hfz92_5
                                    try clear hfz92_6
                                    try clear hfz94_0
                                    try clear hfz94_1
                                    try clear hfz94_2
                                    try clear hfz94_3
                                    try clear hfz94_4
                                    try clear hfz94_5
                                    try clear hfz94_6
                                    try clear hfz97_0
                                    try clear hfz97_1
                                    try clear hfz97_2
                                    try clear hfz97_3
                                    try clear hfz97_4
                                    try clear hfz97_5
                                    try clear hfz97_6
                                    try clear p2
                                    try clear p64
                                    obtain ⟨kq, x71_103, rfl, HA, HJ103, BK240, BK249, HB⟩ := hcut
                                    cases kq with
                                    | zero => exact absurd HA.out (by simp [wave_Read.j2])
                                    | succ kj103 =>
                                      have H := HA.out
                                      clear HA
                                      simp only [wave_Read.j2] at H
                                      by_cases c126 : x71_103 = true
                                      · subst c126
                                        have H1 : (some (0, 0, false, 0, 0, 0, 0, ([] : List (List Int)), 2)) = some (r1, r2, r3, r4, r5, r6, r7, r8, r9) := by rw [if_pos rfl] at H; exact H
                                        clear H
                                        have H := H1
                                        clear H1
                                        simp only [Option.some.injEq, Prod.mk.injEq] at H
                                        obtain ⟨rfl, rfl, rfl, rfl, rfl, rfl, rfl, rfl, rfl⟩ := H
                                        have hnb127 := NB240_249.out
                                        have hnc127 := NB249_240.out
                                        have hcz128_0 : wc.cell? ⟨gb240, 0, none⟩ = some (.int .i64 0) := (blk_cell BK240.out 0).trans rfl
                                        have hcz128_1 : wc.cell? ⟨gb240, 1, none⟩ = some (.int .i64 0) := (blk_cell BK240.out 1).trans rfl
                                        have hcz128_2 : wc.cell? ⟨gb240, 2, none⟩ = some (.bool false) := (blk_cell BK240.out 2).trans rfl
                                        have hcz128_3 : wc.cell? ⟨gb240, 3, none⟩ = some (.int .i64 0) := (blk_cell BK240.out 3).trans rfl
                                        have hcz128_4 : wc.cell? ⟨gb240, 4, none⟩ = some (.int .i64 0) := (blk_cell BK240.out 4).trans rfl
                                        have hcz128_5 : wc.cell? ⟨gb240, 5, none⟩ = some (.int .i64 0) := (blk_cell BK240.out 5).trans rfl
                                        have hcz128_6 : wc.cell? ⟨gb240, 6, none⟩ = some (.int .i64 0) := (blk_cell BK240.out 6).trans rfl
                                        have hfz128_0 := blk_frozen BK240.out 0
                                        have hfz128_1 := blk_frozen BK240.out 1
                                        have hfz128_2 := blk_frozen BK240.out 2
                                        have hfz128_3 := blk_frozen BK240.out 3
                                        have hfz128_4 := blk_frozen BK240.out 4
                                        have hfz128_5 := blk_frozen BK240.out 5
                                        have hfz128_6 := blk_frozen BK240.out 6
                                        go_wp2
                                        refine bodyPost_ret (results_ctt rfl _ _ gb240 23 #[.int .i64 0, .int .i64 0, .bool false, .int .i64 0, .int .i64 0, .int .i64 0, .int .i64 0] (0, 0) _ rfl (by (with_reducible repeat (first | refine blk_drewN ?_ _ | refine blk_drew ?_ | refine blk_alloc ?_ _)); refine blk_put (cs := #[.int .i64 0, .int .i64 0, .bool false, .int .i64 0, .int .i64 0, .int .i64 0, .int .i64 0]) ?_ 6 _ rfl; (with_reducible repeat (first | refine blk_drewN ?_ _ | refine blk_drew ?_ | refine blk_alloc ?_ _)); refine blk_put (cs := #[.int .i64 0, .int .i64 0, .bool false, .int .i64 0, .int .i64 0, .int .i64 0, .int .i64 0]) ?_ 5 _ rfl; (with_reducible repeat (first | refine blk_drewN ?_ _ | refine blk_drew ?_ | refine blk_alloc ?_ _)); refine blk_put (cs := #[.int .i64 0, .int .i64 0, .bool false, .int .i64 0, .int .i64 0, .int .i64 0, .int .i64 0]) ?_ 4 _ rfl; (with_reducible repeat (first | refine blk_drewN ?_ _ | refine blk_drew ?_ | refine blk_alloc ?_ _)); refine blk_put (cs := #[.int .i64 0, .int .i64 0, .bool false, .int .i64 0, .int .i64 0, .int .i64 0, .int .i64 0]) ?_ 3 _ rfl; (with_reducible repeat (first | refine blk_drewN ?_ _ | refine blk_drew ?_ | refine blk_alloc ?_ _)); refine blk_put (cs := #[.int .i64 0, .int .i64 0, .bool false, .int .i64 0, .int .i64 0, .int .i64 0, .int .i64 0]) ?_ 2 _ rfl; (with_reducible repeat (first | refine blk_drewN ?_ _ | refine blk_drew ?_ | refine blk_alloc ?_ _)); refine blk_put (cs := #[.int .i64 0, .int .i64 0, .bool false, .int .i64 0, .int .i64 0, .int .i64 0, .int .i64 0]) ?_ 1 _ rfl; (with_reducible repeat (first | refine blk_drewN ?_ _ | refine blk_drew ?_ | refine blk_alloc ?_ _)); refine blk_put (cs := #[.int .i64 0, .int .i64 0, .bool false, .int .i64 0, .int .i64 0, .int .i64 0, .int .i64 0]) ?_ 0 _ rfl; (with_reducible repeat (first | refine blk_drewN ?_ _ | refine blk_drew ?_ | refine blk_alloc ?_ _)); exact BK240.out) Try.underlying23 rfl (by kernel_rfl)) rfl ?_
                                        exact ⟨_, by first | rfl | (simp [errW_none, errW_some] <;> rfl) | (simp [*, errW_none, errW_some] <;> rfl), by first | exact Kd.S_nil _ _ _ _ _ | exact Kd.N_nil _ _ _ _ _ | exact Kd.V_nil _ _ _ _ _ | exact Kd.Q_nil _ _ _ _ _ | exact Kd.R_nil _ _ _ _ _, by repeat (first | (with_reducible first | exact HB.out | apply below_alloc | apply pw_below_drewN | apply below_drew1 | refine below_set ?_ GE240.out | refine below_set ?_ GE249.out) | exact HB.out)⟩
                                      · replace c126 := Bool.eq_false_iff.mpr c126
                                        subst c126
                                        have H1 : (if (l0.length : Int) < (wrap64 (44 + t242)) then (some (0, 0, false, 0, 0, 0, 0, ([] : List (List Int)), 3)) else (if (l0.length : Int) > (wrap64 (44 + t242)) then (some (0, 0, false, 0, 0, 0, 0, ([] : List (List Int)), 4)) else ((wave_form.f t244 t248 false t246 16 0 (wrap64 (Int.tdiv t242 t259))).bind fun bt266 => (if 44 ≤ (l0.length : Int) then ((wave_turn.f t244 t248 false t246 16 0 (wrap64 (Int.tdiv t242 t259)) (l0.drop 44)).bind fun t269 => ((pack_Unpack.f kj103 bt266.1 bt266.2 t244 t269).bind fun bt272 => (some (t244, t248, false, t246, 16, 0, (wrap64 (Int.tdiv t242 t259)), bt272.1, bt272.2)))) else (none))))) = some (r1, r2, r3, r4, r5, r6, r7, r8, r9) := by rw [if_neg (show ¬ (false = true) by decide)] at H; exact H
                                        clear H
                                        have H := H1
                                        clear H1
                                        by_cases c129 : (l0.length : Int) < (wrap64 (44 + t242))
                                        · rw [if_pos c129] at H
                                          have c129b0 : decide ((l0.length : Int) < (wrap64 (44 + t242))) = true := decide_eq_true c129
                                          clear c129
                                          simp only [Option.some.injEq, Prod.mk.injEq] at H
                                          obtain ⟨rfl, rfl, rfl, rfl, rfl, rfl, rfl, rfl, rfl⟩ := H
                                          have hnb130 := NB240_249.out
                                          have hnc130 := NB249_240.out
                                          have hcz131_0 : wc.cell? ⟨gb240, 0, none⟩ = some (.int .i64 0) := (blk_cell BK240.out 0).trans rfl
                                          have hcz131_1 : wc.cell? ⟨gb240, 1, none⟩ = some (.int .i64 0) := (blk_cell BK240.out 1).trans rfl
                                          have hcz131_2 : wc.cell? ⟨gb240, 2, none⟩ = some (.bool false) := (blk_cell BK240.out 2).trans rfl
                                          have hcz131_3 : wc.cell? ⟨gb240, 3, none⟩ = some (.int .i64 0) := (blk_cell BK240.out 3).trans rfl
                                          have hcz131_4 : wc.cell? ⟨gb240, 4, none⟩ = some (.int .i64 0) := (blk_cell BK240.out 4).trans rfl
                                          have hcz131_5 : wc.cell? ⟨gb240, 5, none⟩ = some (.int .i64 0) := (blk_cell BK240.out 5).trans rfl
                                          have hcz131_6 : wc.cell? ⟨gb240, 6, none⟩ = some (.int .i64 0) := (blk_cell BK240.out 6).trans rfl
                                          have hfz131_0 := blk_frozen BK240.out 0
                                          have hfz131_1 := blk_frozen BK240.out 1
                                          have hfz131_2 := blk_frozen BK240.out 2
                                          have hfz131_3 := blk_frozen BK240.out 3
                                          have hfz131_4 := blk_frozen BK240.out 4
                                          have hfz131_5 := blk_frozen BK240.out 5
                                          have hfz131_6 := blk_frozen BK240.out 6
                                          go_wp2
                                          refine bodyPost_ret (results_ctt rfl _ _ gb240 23 #[.int .i64 0, .int .i64 0, .bool false, .int .i64 0, .int .i64 0, .int .i64 0, .int .i64 0] (0, 0) _ rfl (by (with_reducible repeat (first | refine blk_drewN ?_ _ | refine blk_drew ?_ | refine blk_alloc ?_ _)); refine blk_put (cs := #[.int .i64 0, .int .i64 0, .bool false, .int .i64 0, .int .i64 0, .int .i64 0, .int .i64 0]) ?_ 6 _ rfl; (with_reducible repeat (first | refine blk_drewN ?_ _ | refine blk_drew ?_ | refine blk_alloc ?_ _)); refine blk_put (cs := #[.int .i64 0, .int .i64 0, .bool false, .int .i64 0, .int .i64 0, .int .i64 0, .int .i64 0]) ?_ 5 _ rfl; (with_reducible repeat (first | refine blk_drewN ?_ _ | refine blk_drew ?_ | refine blk_alloc ?_ _)); refine blk_put (cs := #[.int .i64 0, .int .i64 0, .bool false, .int .i64 0, .int .i64 0, .int .i64 0, .int .i64 0]) ?_ 4 _ rfl; (with_reducible repeat (first | refine blk_drewN ?_ _ | refine blk_drew ?_ | refine blk_alloc ?_ _)); refine blk_put (cs := #[.int .i64 0, .int .i64 0, .bool false, .int .i64 0, .int .i64 0, .int .i64 0, .int .i64 0]) ?_ 3 _ rfl; (with_reducible repeat (first | refine blk_drewN ?_ _ | refine blk_drew ?_ | refine blk_alloc ?_ _)); refine blk_put (cs := #[.int .i64 0, .int .i64 0, .bool false, .int .i64 0, .int .i64 0, .int .i64 0, .int .i64 0]) ?_ 2 _ rfl; (with_reducible repeat (first | refine blk_drewN ?_ _ | refine blk_drew ?_ | refine blk_alloc ?_ _)); refine blk_put (cs := #[.int .i64 0, .int .i64 0, .bool false, .int .i64 0, .int .i64 0, .int .i64 0, .int .i64 0]) ?_ 1 _ rfl; (with_reducible repeat (first | refine blk_drewN ?_ _ | refine blk_drew ?_ | refine blk_alloc ?_ _)); refine blk_put (cs := #[.int .i64 0, .int .i64 0, .bool false, .int .i64 0, .int .i64 0, .int .i64 0, .int .i64 0]) ?_ 0 _ rfl; (with_reducible repeat (first | refine blk_drewN ?_ _ | refine blk_drew ?_ | refine blk_alloc ?_ _)); exact BK240.out) Try.underlying23 rfl (by kernel_rfl)) rfl ?_
                                          exact ⟨_, by first | rfl | (simp [errW_none, errW_some] <;> rfl) | (simp [*, errW_none, errW_some] <;> rfl), by first | exact Kd.S_nil _ _ _ _ _ | exact Kd.N_nil _ _ _ _ _ | exact Kd.V_nil _ _ _ _ _ | exact Kd.Q_nil _ _ _ _ _ | exact Kd.R_nil _ _ _ _ _, by repeat (first | (with_reducible first | exact HB.out | apply below_alloc | apply pw_below_drewN | apply below_drew1 | refine below_set ?_ GE240.out | refine below_set ?_ GE249.out) | exact HB.out)⟩
                                        · rw [if_neg c129] at H
                                          have c129b0 : decide ((l0.length : Int) < (wrap64 (44 + t242))) = false := decide_eq_false c129
                                          clear c129
                                          by_cases c132 : (l0.length : Int) > (wrap64 (44 + t242))
                                          · rw [if_pos c132] at H
                                            have c132b0 : decide ((wrap64 (44 + t242)) < (l0.length : Int)) = true := decide_eq_true c132
                                            clear c132
                                            simp only [Option.some.injEq, Prod.mk.injEq] at H
                                            obtain ⟨rfl, rfl, rfl, rfl, rfl, rfl, rfl, rfl, rfl⟩ := H
                                            have hnb133 := NB240_249.out
                                            have hnc133 := NB249_240.out
                                            have hcz134_0 : wc.cell? ⟨gb240, 0, none⟩ = some (.int .i64 0) := (blk_cell BK240.out 0).trans rfl
                                            have hcz134_1 : wc.cell? ⟨gb240, 1, none⟩ = some (.int .i64 0) := (blk_cell BK240.out 1).trans rfl
                                            have hcz134_2 : wc.cell? ⟨gb240, 2, none⟩ = some (.bool false) := (blk_cell BK240.out 2).trans rfl
                                            have hcz134_3 : wc.cell? ⟨gb240, 3, none⟩ = some (.int .i64 0) := (blk_cell BK240.out 3).trans rfl
                                            have hcz134_4 : wc.cell? ⟨gb240, 4, none⟩ = some (.int .i64 0) := (blk_cell BK240.out 4).trans rfl
                                            have hcz134_5 : wc.cell? ⟨gb240, 5, none⟩ = some (.int .i64 0) := (blk_cell BK240.out 5).trans rfl
                                            have hcz134_6 : wc.cell? ⟨gb240, 6, none⟩ = some (.int .i64 0) := (blk_cell BK240.out 6).trans rfl
                                            have hfz134_0 := blk_frozen BK240.out 0
                                            have hfz134_1 := blk_frozen BK240.out 1
                                            have hfz134_2 := blk_frozen BK240.out 2
                                            have hfz134_3 := blk_frozen BK240.out 3
                                            have hfz134_4 := blk_frozen BK240.out 4
                                            have hfz134_5 := blk_frozen BK240.out 5
                                            have hfz134_6 := blk_frozen BK240.out 6
                                            go_wp2
                                            refine bodyPost_ret (results_ctt rfl _ _ gb240 23 #[.int .i64 0, .int .i64 0, .bool false, .int .i64 0, .int .i64 0, .int .i64 0, .int .i64 0] (0, 0) _ rfl (by (with_reducible repeat (first | refine blk_drewN ?_ _ | refine blk_drew ?_ | refine blk_alloc ?_ _)); refine blk_put (cs := #[.int .i64 0, .int .i64 0, .bool false, .int .i64 0, .int .i64 0, .int .i64 0, .int .i64 0]) ?_ 6 _ rfl; (with_reducible repeat (first | refine blk_drewN ?_ _ | refine blk_drew ?_ | refine blk_alloc ?_ _)); refine blk_put (cs := #[.int .i64 0, .int .i64 0, .bool false, .int .i64 0, .int .i64 0, .int .i64 0, .int .i64 0]) ?_ 5 _ rfl; (with_reducible repeat (first | refine blk_drewN ?_ _ | refine blk_drew ?_ | refine blk_alloc ?_ _)); refine blk_put (cs := #[.int .i64 0, .int .i64 0, .bool false, .int .i64 0, .int .i64 0, .int .i64 0, .int .i64 0]) ?_ 4 _ rfl; (with_reducible repeat (first | refine blk_drewN ?_ _ | refine blk_drew ?_ | refine blk_alloc ?_ _)); refine blk_put (cs := #[.int .i64 0, .int .i64 0, .bool false, .int .i64 0, .int .i64 0, .int .i64 0, .int .i64 0]) ?_ 3 _ rfl; (with_reducible repeat (first | refine blk_drewN ?_ _ | refine blk_drew ?_ | refine blk_alloc ?_ _)); refine blk_put (cs := #[.int .i64 0, .int .i64 0, .bool false, .int .i64 0, .int .i64 0, .int .i64 0, .int .i64 0]) ?_ 2 _ rfl; (with_reducible repeat (first | refine blk_drewN ?_ _ | refine blk_drew ?_ | refine blk_alloc ?_ _)); refine blk_put (cs := #[.int .i64 0, .int .i64 0, .bool false, .int .i64 0, .int .i64 0, .int .i64 0, .int .i64 0]) ?_ 1 _ rfl; (with_reducible repeat (first | refine blk_drewN ?_ _ | refine blk_drew ?_ | refine blk_alloc ?_ _)); refine blk_put (cs := #[.int .i64 0, .int .i64 0, .bool false, .int .i64 0, .int .i64 0, .int .i64 0, .int .i64 0]) ?_ 0 _ rfl; (with_reducible repeat (first | refine blk_drewN ?_ _ | refine blk_drew ?_ | refine blk_alloc ?_ _)); exact BK240.out) Try.underlying23 rfl (by kernel_rfl)) rfl ?_
                                            exact ⟨_, by first | rfl | (simp [errW_none, errW_some] <;> rfl) | (simp [*, errW_none, errW_some] <;> rfl), by first | exact Kd.S_nil _ _ _ _ _ | exact Kd.N_nil _ _ _ _ _ | exact Kd.V_nil _ _ _ _ _ | exact Kd.Q_nil _ _ _ _ _ | exact Kd.R_nil _ _ _ _ _, by repeat (first | (with_reducible first | exact HB.out | apply below_alloc | apply pw_below_drewN | apply below_drew1 | refine below_set ?_ GE240.out | refine below_set ?_ GE249.out) | exact HB.out)⟩
                                          · rw [if_neg c132] at H
                                            have c132b0 : decide ((wrap64 (44 + t242)) < (l0.length : Int)) = false := decide_eq_false c132
                                            clear c132
                                            replace H := Option.bind_eq_some_iff.mp H
                                            obtain ⟨⟨t266, t267⟩, A1350, H⟩ := H
                                            replace H : (if 44 ≤ (l0.length : Int) then ((wave_turn.f t244 t248 false t246 16 0 (wrap64 (Int.tdiv t242 t259)) (l0.drop 44)).bind fun t269 => ((pack_Unpack.f kj103 t266 t267 t244 t269).bind fun bt272 => (some (t244, t248, false, t246, 16, 0, (wrap64 (Int.tdiv t242 t259)), bt272.1, bt272.2)))) else (none)) = some (r1, r2, r3, r4, r5, r6, r7, r8, r9) := H
                                            have A135 := Aside0.mk A1350
                                            clear A1350
                                            by_cases c136 : 44 ≤ (l0.length : Int)
                                            · rw [if_pos c136] at H
                                              have c136b0 := eq_true c136
                                              have c136b1 : decide (44 ≤ (l0.length : Int)) = true := decide_eq_true c136
                                              clear c136
                                              replace H := Option.bind_eq_some_iff.mp H
                                              obtain ⟨t269, A1370, H⟩ := H
                                              replace H : ((pack_Unpack.f kj103 t266 t267 t244 t269).bind fun bt272 => (some (t244, t248, false, t246, 16, 0, (wrap64 (Int.tdiv t242 t259)), bt272.1, bt272.2))) = some (r1, r2, r3, r4, r5, r6, r7, r8, r9) := H
                                              have A137 := Aside0.mk A1370
                                              clear A1370
                                              replace H := Option.bind_eq_some_iff.mp H
                                              obtain ⟨⟨t272, t275⟩, A1380, H⟩ := H
                                              replace H : (some (t244, t248, false, t246, 16, 0, (wrap64 (Int.tdiv t242 t259)), t272, t275)) = some (r1, r2, r3, r4, r5, r6, r7, r8, r9) := H
                                              have A138 := Aside0.mk A1380
                                              clear A1380
                                              simp only [Option.some.injEq, Prod.mk.injEq] at H
                                              obtain ⟨rfl, rfl, rfl, rfl, rfl, rfl, rfl, rfl, rfl⟩ := H
                                              try go_wp2
                                              have n0_ := Aside0.mk (blk_drew BK240.out)
                                              have n1_ := Aside0.mk (blk_drew BK249.out)
                                              have n2_ := Aside0.mk (below_drew1 HB.out)
                                              clear BK240
                                              clear BK249
                                              clear HB
                                              have BK240 := n0_
                                              have BK249 := n1_
                                              have HB := n2_
                                              clear n0_ n1_ n2_
                                              obtain ⟨i0140, hi0140, _, hsz140, _⟩ := info_parts info5
                                              obtain ⟨A140, hcut140, hA140, hC140⟩ := print_drop_of (P := Try.prog) (Value.int .u8) 0 27 5 .i64 Try.underlying27 hi0140 hsz140 A0 c0 l0 44 (by omega) (of_decide_eq_true (by first | (with_reducible assumption) | assumption)) HC0.out
                                              have HR268 := Aside0.mk (Kd.C_of_reads (h1 := fun _ => rfl) (hA140 _ (Kd.reads_of_C HR0.out)))
                                              have HC268 := Aside0.mk hC140
                                              clear hA140 hC140 hi0140 hsz140
                                              refine start_ (n := 14) (S := fun w' => w'.cell? ⟨gb249, 0, none⟩ = some (.int .i64 t244) ∧ w'.cell? ⟨gb249, 1, none⟩ = some (.int .i64 t248) ∧ w'.cell? ⟨gb249, 2, none⟩ = some (.bool false) ∧ w'.cell? ⟨gb249, 3, none⟩ = some (.int .i64 t246) ∧ w'.cell? ⟨gb249, 4, none⟩ = some (.int .i64 16) ∧ w'.cell? ⟨gb249, 5, none⟩ = some (.int .i64 0) ∧ w'.cell? ⟨gb249, 6, none⟩ = some (.int .i64 (wrap64 (Int.tdiv t242 t259)))) (ds := []) #[false, false, false, false, false, false, false, false, false, false, false, false, false, false] (by kernel_rfl) rfl rfl ⟨(blk_cell BK249.out 0).trans rfl, (blk_cell BK249.out 1).trans rfl, (blk_cell BK249.out 2).trans rfl, (blk_cell BK249.out 3).trans rfl, (blk_cell BK249.out 4).trans rfl, (blk_cell BK249.out 5).trans rfl, (blk_cell BK249.out 6).trans rfl⟩ (fun hHeld => ?_); refine with_tabW wave_Read.tab16 wave_Read.bits16 (fun HT_ HW_ => ?_)
                                              generalize wc.drew = w139 at BK240 BK249 HB HR268 hHeld ⊢
                                              refine pure_ (i := 2) (N := some 104) (v := ?_) (a' := ?_) #[false, false, true, false, false, false, false, false, false, false, false, false, false, false] rfl rfl (any_of HT_.out (by kernel_rfl)) (fun _ _ _ h => h) (Or.inl ⟨by rfl, ?_⟩) ?_ ?_
                                              rotate_left
                                              · intro w'
                                                go_simp
                                                with_reducible rfl
                                              rotate_left
                                              · simp only [Act.put, List.setIfInBounds_toArray, List.set_cons_zero, List.set_cons_succ, i64_w, i32_w]
                                                rfl
                                              refine pure_ (i := 5) (N := some 107) (v := ?_) (a' := ?_) #[false, false, true, false, false, true, false, false, false, false, false, false, false, false] rfl rfl (any_of HT_.out (by kernel_rfl)) (fun _ _ _ h => h) (Or.inl ⟨by rfl, ?_⟩) ?_ ?_
                                              rotate_left
                                              · intro w'
                                                go_simp
                                                with_reducible rfl
                                              rotate_left
                                              · simp only [Act.put, List.setIfInBounds_toArray, List.set_cons_zero, List.set_cons_succ, i64_w, i32_w]
                                                rfl
                                              refine pure_ (i := 6) (N := some 108) (v := ?_) (a' := ?_) #[false, false, true, false, false, true, true, false, false, false, false, false, false, false] rfl rfl (any_of HT_.out (by kernel_rfl)) (fun _ _ _ h => h) (Or.inl ⟨by rfl, ?_⟩) ?_ ?_
                                              rotate_left
                                              · intro w'
                                                go_simp
                                                with_reducible rfl
                                              rotate_left
                                              · simp only [Act.put, List.setIfInBounds_toArray, List.set_cons_zero, List.set_cons_succ, i64_w, i32_w]
                                                rfl
                                              refine take_ (i := 0) (N := some 102) (v := ?_) (a' := ?_) #[true, false, true, false, false, true, true, false, false, false, false, false, false, false] rfl rfl (take_ofW HT_.out HW_.out (by kernel_rfl)) (fun _ _ _ h => h) (Or.inl ⟨by rfl, ?_⟩) hHeld ?_ ?_
                                              rotate_left
                                              · rintro w' ⟨s0, s1, s2, s3, s4, s5, s6⟩
                                                go_simp
                                                with_reducible rfl
                                              rotate_left
                                              · simp only [Act.put, List.setIfInBounds_toArray, List.set_cons_zero, List.set_cons_succ, i64_w, i32_w]
                                                rfl
                                              refine take_ (i := 3) (N := some 105) (v := ?_) (a' := ?_) #[true, false, true, true, false, true, true, false, false, false, false, false, false, false] rfl rfl (take_ofW HT_.out HW_.out (by kernel_rfl)) (fun _ _ _ h => h) (Or.inl ⟨by rfl, ?_⟩) hHeld ?_ ?_
                                              rotate_left
                                              · rintro w' ⟨s0, s1, s2, s3, s4, s5, s6⟩
                                                go_simp
                                                with_reducible rfl
                                              rotate_left
                                              · simp only [Act.put, List.setIfInBounds_toArray, List.set_cons_zero, List.set_cons_succ, i64_w, i32_w]
                                                rfl
                                              refine take_ (i := 4) (N := some 106) (v := ?_) (a' := ?_) #[true, false, true, true, true, true, true, false, false, false, false, false, false, false] rfl rfl (take_ofW HT_.out HW_.out (by kernel_rfl)) (fun _ _ _ h => h) (Or.inl ⟨by rfl, ?_⟩) hHeld ?_ ?_
                                              rotate_left
                                              · rintro w' ⟨s0, s1, s2, s3, s4, s5, s6⟩
                                                go_simp
                                                with_reducible rfl
                                              rotate_left
                                              · simp only [Act.put, List.setIfInBounds_toArray, List.set_cons_zero, List.set_cons_succ, i64_w, i32_w]
                                                rfl
                                              refine one_ (i := 1) (N := some 103) #[true, true, true, true, true, true, true, false, false, false, false, false, false, false] rfl rfl (one_of HT_.out (by kernel_rfl)) (by decide) (fun K hK => ?_)
                                              refine goes_ Try.func16 (by kernel_rfl) rfl #[.agg #[.int .i64 t244, .int .i64 t248, .bool false, .int .i64 t246, .int .i64 16, .int .i64 0, .int .i64 (wrap64 (Int.tdiv t242 t259))]] (by rfl) rfl rfl (by (try simp only [List.map_toArray, List.map_cons, List.map_nil]); first | done | rfl | (simp only [List.length_drop, List.length_take]; rfl)) ?_
                                              with_reducible refine (wave_form.calls t244 t248 false t246 16 0 (wrap64 (Int.tdiv t242 t259)) t266 t267 _ A135.out).mono ?_
                                              rintro e w141 ⟨rfl, hb⟩
                                              refine ⟨_, rfl, ?_⟩
                                              have n0_ := Aside0.mk (blk_below (g := gb240) (o := .cells #[.int .i64 0, .int .i64 0, .bool false, .int .i64 0, .int .i64 0, .int .i64 0, .int .i64 0] 23 (0, 0)) (by (with_reducible repeat (first | refine blk_drewN ?_ _ | refine blk_drew ?_ | refine blk_alloc ?_ _)); exact BK240.out) hb)
                                              have n1_ := Aside0.mk (blk_below (g := gb249) (o := .cells #[.int .i64 t244, .int .i64 t248, .bool false, .int .i64 t246, .int .i64 16, .int .i64 0, .int .i64 (wrap64 (Int.tdiv t242 t259))] 23 (0, 0)) (by (with_reducible repeat (first | refine blk_drewN ?_ _ | refine blk_drew ?_ | refine blk_alloc ?_ _)); exact BK249.out) hb)
                                              have n2_ := Aside0.mk (below_step (by repeat (first | (with_reducible first | exact HB.out | apply below_alloc | apply pw_below_drewN | apply below_drew1 | refine below_set ?_ GE240.out | refine below_set ?_ GE249.out) | exact HB.out)) hb)
                                              clear BK240
                                              clear BK249
                                              clear HB
                                              have BK240 := n0_
                                              have BK249 := n1_
                                              have HB := n2_
                                              clear n0_ n1_ n2_
                                              (try clear hb)
                                              (try clear hb2)
                                              (try clear hk)
                                              (try clear hi)
                                              refine hK.out _ _ ⟨(blk_cell BK249.out 0).trans rfl, (blk_cell BK249.out 1).trans rfl, (blk_cell BK249.out 2).trans rfl, (blk_cell BK249.out 3).trans rfl, (blk_cell BK249.out 4).trans rfl, (blk_cell BK249.out 5).trans rfl, (blk_cell BK249.out 6).trans rfl⟩ (fun hHeld => ?_)
                                              clear hK K
                                              refine norm_ (a' := ?_) ?_ ?_
                                              rotate_left
                                              · show Act.put _ (some 103) _ = _
                                                simp only [Act.put, List.setIfInBounds_toArray, List.set_cons_zero, List.set_cons_succ, i64_w, i32_w]
                                                rfl
                                              refine one_ (i := 7) (N := some 109) #[true, true, true, true, true, true, true, true, false, false, false, false, false, false] rfl rfl (one_of HT_.out (by kernel_rfl)) (by decide) (fun K hK => ?_)
                                              refine goes_ Try.func18 (by kernel_rfl) rfl #[.agg #[.int .i64 t244, .int .i64 t248, .bool false, .int .i64 t246, .int .i64 16, .int .i64 0, .int .i64 (wrap64 (Int.tdiv t242 t259))], .slice A140 (l0.drop 44).length (c0 - 44)] (by rfl) rfl rfl (by (try simp only [List.map_toArray, List.map_cons, List.map_nil]); first | done | (rw [show (l0.drop 44).length = (l0.length - 44) from List.length_drop] <;> rfl) | rfl | (simp only [List.length_drop, List.length_take]; rfl)) ?_
                                              with_reducible refine (wave_turn.calls t244 t248 false t246 16 0 (wrap64 (Int.tdiv t242 t259)) _ _ (l0.drop 44) t269 _ ?side1 ?side2 A137.out).mono ?_
                                              (case side1 => repeat (first | exact (Kd.C_below HR268.out HB.out) | (with_reducible refine Kd.C_alloc ?_ _) | (with_reducible refine Kd.C_drewN ?_ _) | (with_reducible refine Kd.C_drew ?_)))
                                              (case side2 => exact HC268.out)
                                              rintro e w142 ⟨v270, rfl, ho0, hb⟩
                                              refine ⟨_, rfl, ?_⟩
                                              have n0_ := Aside0.mk (Kd.R_lower ho0 (below_size (by repeat (first | (with_reducible first | exact HB.out | apply below_alloc | apply pw_below_drewN | apply below_drew1 | refine below_set ?_ GE240.out | refine below_set ?_ GE249.out) | exact HB.out))))
                                              have n1_ := Aside0.mk (blk_below (g := gb240) (o := .cells #[.int .i64 0, .int .i64 0, .bool false, .int .i64 0, .int .i64 0, .int .i64 0, .int .i64 0] 23 (0, 0)) (by (with_reducible repeat (first | refine blk_drewN ?_ _ | refine blk_drew ?_ | refine blk_alloc ?_ _)); exact BK240.out) hb)
                                              have n2_ := Aside0.mk (blk_below (g := gb249) (o := .cells #[.int .i64 t244, .int .i64 t248, .bool false, .int .i64 t246, .int .i64 16, .int .i64 0, .int .i64 (wrap64 (Int.tdiv t242 t259))] 23 (0, 0)) (by (with_reducible repeat (first | refine blk_drewN ?_ _ | refine blk_drew ?_ | refine blk_alloc ?_ _)); exact BK249.out) hb)
                                              have n3_ := Aside0.mk (below_step (by repeat (first | (with_reducible first | exact HB.out | apply below_alloc | apply pw_below_drewN | apply below_drew1 | refine below_set ?_ GE240.out | refine below_set ?_ GE249.out) | exact HB.out)) hb)
                                              clear BK240
                                              clear BK249
                                              clear HB
                                              have HO271 := n0_
                                              have BK240 := n1_
                                              have BK249 := n2_
                                              have HB := n3_
                                              clear n0_ n1_ n2_ n3_
                                              (try clear hb)
                                              (try clear hb2)
                                              (try clear hk)
                                              (try clear hi)
                                              (try clear ho0)
                                              obtain ⟨Ao143, co143, eo143⟩ := Kd.R_slice HO271.out
                                              (first | subst eo143 | (injection eo143 with f1_ f2_ f3_; have f4_ := f1_.symm; have f5_ := f3_.symm; clear f1_ f2_ f3_; subst f4_; subst f5_))
                                              refine hK.out _ _ ⟨(blk_cell BK249.out 0).trans rfl, (blk_cell BK249.out 1).trans rfl, (blk_cell BK249.out 2).trans rfl, (blk_cell BK249.out 3).trans rfl, (blk_cell BK249.out 4).trans rfl, (blk_cell BK249.out 5).trans rfl, (blk_cell BK249.out 6).trans rfl⟩ (fun hHeld => ?_)
                                              clear hK K
                                              refine norm_ (a' := ?_) ?_ ?_
                                              rotate_left
                                              · show Act.put _ (some 109) _ = _
                                                simp only [Act.put, List.setIfInBounds_toArray, List.set_cons_zero, List.set_cons_succ, i64_w, i32_w]
                                                rfl
                                              refine one_ (i := 8) (N := some 110) #[true, true, true, true, true, true, true, true, true, false, false, false, false, false] rfl rfl (one_of HT_.out (by kernel_rfl)) (by decide) (fun K hK => ?_)
                                              refine goes_ Try.func25 (by kernel_rfl) rfl #[.agg #[.int .i64 t266, .bool t267], .int .i64 t244, .slice Ao143 t269.length co143] (by rfl) rfl rfl (by (try simp only [List.map_toArray, List.map_cons, List.map_nil]); first | done | rfl | (simp only [List.length_drop, List.length_take]; rfl)) ?_
                                              with_reducible refine (pack_Unpack.calls kj103 t266 t267 t244 _ _ t269 t272 t275 _ ?side1 ?side2 A138.out).mono ?_
                                              (case side1 => repeat (first | exact (Kd.R_reads' HO271.out).2.2 | (with_reducible refine Kd.C_alloc ?_ _) | (with_reducible refine Kd.C_drewN ?_ _) | (with_reducible refine Kd.C_drew ?_)))
                                              (case side2 => exact (Kd.R_reads' HO271.out).2.1)
                                              rintro e w144 ⟨v273, rfl, ho0, hb⟩
                                              refine ⟨_, rfl, ?_⟩
                                              have n0_ := Aside0.mk (Kd.R_below (by (with_reducible repeat (first | apply Kd.R_alloc | apply Kd.R_drewN | apply Kd.R_drew)); exact HO271.out) hb)
                                              have n1_ := Aside0.mk (Kd.S_lower ho0 (below_size (by repeat (first | (with_reducible first | exact HB.out | apply below_alloc | apply pw_below_drewN | apply below_drew1 | refine below_set ?_ GE240.out | refine below_set ?_ GE249.out) | exact HB.out))))
                                              have n2_ := Aside0.mk (blk_below (g := gb240) (o := .cells #[.int .i64 0, .int .i64 0, .bool false, .int .i64 0, .int .i64 0, .int .i64 0, .int .i64 0] 23 (0, 0)) (by (with_reducible repeat (first | refine blk_drewN ?_ _ | refine blk_drew ?_ | refine blk_alloc ?_ _)); exact BK240.out) hb)
                                              have n3_ := Aside0.mk (blk_below (g := gb249) (o := .cells #[.int .i64 t244, .int .i64 t248, .bool false, .int .i64 t246, .int .i64 16, .int .i64 0, .int .i64 (wrap64 (Int.tdiv t242 t259))] 23 (0, 0)) (by (with_reducible repeat (first | refine blk_drewN ?_ _ | refine blk_drew ?_ | refine blk_alloc ?_ _)); exact BK249.out) hb)
                                              have n4_ := Aside0.mk (below_step (by repeat (first | (with_reducible first | exact HB.out | apply below_alloc | apply pw_below_drewN | apply below_drew1 | refine below_set ?_ GE240.out | refine below_set ?_ GE249.out) | exact HB.out)) hb)
                                              clear HO271
                                              clear BK240
                                              clear BK249
                                              clear HB
                                              have HO271 := n0_
                                              have HO274 := n1_
                                              have BK240 := n2_
                                              have BK249 := n3_
                                              have HB := n4_
                                              clear n0_ n1_ n2_ n3_ n4_
                                              (try clear hb)
                                              (try clear hb2)
                                              (try clear hk)
                                              (try clear hi)
                                              (try clear ho0)
                                              refine hK.out _ _ ⟨(blk_cell BK249.out 0).trans rfl, (blk_cell BK249.out 1).trans rfl, (blk_cell BK249.out 2).trans rfl, (blk_cell BK249.out 3).trans rfl, (blk_cell BK249.out 4).trans rfl, (blk_cell BK249.out 5).trans rfl, (blk_cell BK249.out 6).trans rfl⟩ (fun hHeld => ?_)
                                              clear hK K
                                              refine norm_ (a' := ?_) ?_ ?_
                                              rotate_left
                                              · show Act.put _ (some 110) _ = _
                                                simp only [Act.put, List.setIfInBounds_toArray, List.set_cons_zero, List.set_cons_succ, i64_w, i32_w]
                                                rfl
                                              refine pure_ (i := 9) (N := some 101) (v := ?_) (a' := ?_) #[true, true, true, true, true, true, true, true, true, true, false, false, false, false] rfl rfl (any_of HT_.out (by kernel_rfl)) (fun _ _ _ h => h) (Or.inl ⟨by rfl, ?_⟩) ?_ ?_
                                              rotate_left
                                              · intro w'
                                                go_simp
                                                with_reducible rfl
                                              rotate_left
                                              · simp only [Act.put, List.setIfInBounds_toArray, List.set_cons_zero, List.set_cons_succ, i64_w, i32_w]
                                                rfl
                                              refine pure_ (i := 10) (N := some 111) (v := ?_) (a' := ?_) #[true, true, true, true, true, true, true, true, true, true, true, false, false, false] rfl rfl (any_of HT_.out (by kernel_rfl)) (fun _ _ _ h => h) (Or.inl ⟨by rfl, ?_⟩) ?_ ?_
                                              rotate_left
                                              · intro w'
                                                go_simp
                                                with_reducible rfl
                                              rotate_left
                                              · simp only [Act.put, List.setIfInBounds_toArray, List.set_cons_zero, List.set_cons_succ, i64_w, i32_w]
                                                rfl
                                              refine pure_ (i := 11) (N := some 112) (v := ?_) (a' := ?_) #[true, true, true, true, true, true, true, true, true, true, true, true, false, false] rfl rfl (any_of HT_.out (by kernel_rfl)) (fun _ _ _ h => h) (Or.inl ⟨by rfl, ?_⟩) ?_ ?_
                                              rotate_left
                                              · intro w'
                                                go_simp
                                                with_reducible rfl
                                              rotate_left
                                              · simp only [Act.put, List.setIfInBounds_toArray, List.set_cons_zero, List.set_cons_succ, i64_w, i32_w]
                                                rfl
                                              refine pure_ (i := 12) (N := some 7) (v := ?_) (a' := ?_) #[true, true, true, true, true, true, true, true, true, true, true, true, true, false] rfl rfl (any_of HT_.out (by kernel_rfl)) (fun _ _ _ h => h) (Or.inl ⟨by rfl, ?_⟩) ?_ ?_
                                              rotate_left
                                              · intro w'
                                                go_simp
                                                with_reducible rfl
                                              rotate_left
                                              · simp only [Act.put, List.setIfInBounds_toArray, List.set_cons_zero, List.set_cons_succ, i64_w, i32_w]
                                                rfl
                                              refine pure_ (i := 13) (N := some 8) (v := ?_) (a' := ?_) #[true, true, true, true, true, true, true, true, true, true, true, true, true, true] rfl rfl (any_of HT_.out (by kernel_rfl)) (fun _ _ _ h => h) (Or.inl ⟨by rfl, ?_⟩) ?_ ?_
                                              rotate_left
                                              · intro w'
                                                go_simp
                                                with_reducible rfl
                                              rotate_left
                                              · simp only [Act.put, List.setIfInBounds_toArray, List.set_cons_zero, List.set_cons_succ, i64_w, i32_w]
                                                rfl
                                              refine done_ (done_of HT_.out (by kernel_rfl)) ?_
                                              have hnb145 := NB249_240.out
                                              have hnc145 := NB240_249.out
                                              have hcz146_0 : w144.cell? ⟨gb249, 0, none⟩ = some (.int .i64 t244) := (blk_cell BK249.out 0).trans rfl
                                              have hcz146_1 : w144.cell? ⟨gb249, 1, none⟩ = some (.int .i64 t248) := (blk_cell BK249.out 1).trans rfl
                                              have hcz146_2 : w144.cell? ⟨gb249, 2, none⟩ = some (.bool false) := (blk_cell BK249.out 2).trans rfl
                                              have hcz146_3 : w144.cell? ⟨gb249, 3, none⟩ = some (.int .i64 t246) := (blk_cell BK249.out 3).trans rfl
                                              have hcz146_4 : w144.cell? ⟨gb249, 4, none⟩ = some (.int .i64 16) := (blk_cell BK249.out 4).trans rfl
                                              have hcz146_5 : w144.cell? ⟨gb249, 5, none⟩ = some (.int .i64 0) := (blk_cell BK249.out 5).trans rfl
                                              have hcz146_6 : w144.cell? ⟨gb249, 6, none⟩ = some (.int .i64 (wrap64 (Int.tdiv t242 t259))) := (blk_cell BK249.out 6).trans rfl
                                              have hfz146_0 := blk_frozen BK249.out 0
                                              have hfz146_1 := blk_frozen BK249.out 1
                                              have hfz146_2 := blk_frozen BK249.out 2
                                              have hfz146_3 := blk_frozen BK249.out 3
                                              have hfz146_4 := blk_frozen BK249.out 4
                                              have hfz146_5 := blk_frozen BK249.out 5
                                              have hfz146_6 := blk_frozen BK249.out 6
                                              have hcz147_0 : w144.cell? ⟨gb240, 0, none⟩ = some (.int .i64 0) := (blk_cell BK240.out 0).trans rfl
                                              have hcz147_1 : w144.cell? ⟨gb240, 1, none⟩ = some (.int .i64 0) := (blk_cell BK240.out 1).trans rfl
                                              have hcz147_2 : w144.cell? ⟨gb240, 2, none⟩ = some (.bool false) := (blk_cell BK240.out 2).trans rfl
                                              have hcz147_3 : w144.cell? ⟨gb240, 3, none⟩ = some (.int .i64 0) := (blk_cell BK240.out 3).trans rfl
                                              have hcz147_4 : w144.cell? ⟨gb240, 4, none⟩ = some (.int .i64 0) := (blk_cell BK240.out 4).trans rfl
                                              have hcz147_5 : w144.cell? ⟨gb240, 5, none⟩ = some (.int .i64 0) := (blk_cell BK240.out 5).trans rfl
                                              have hcz147_6 : w144.cell? ⟨gb240, 6, none⟩ = some (.int .i64 0) := (blk_cell BK240.out 6).trans rfl
                                              have hfz147_0 := blk_frozen BK240.out 0
                                              have hfz147_1 := blk_frozen BK240.out 1
                                              have hfz147_2 := blk_frozen BK240.out 2
                                              have hfz147_3 := blk_frozen BK240.out 3
                                              have hfz147_4 := blk_frozen BK240.out 4
                                              have hfz147_5 := blk_frozen BK240.out 5
                                              have hfz147_6 := blk_frozen BK240.out 6
                                              try go_wp2
                                              refine bodyPost_ret (results_ctt rfl _ _ gb240 23 #[.int .i64 t244, .int .i64 t248, .bool false, .int .i64 t246, .int .i64 16, .int .i64 0, .int .i64 (wrap64 (Int.tdiv t242 t259))] (0, 0) _ rfl (by (with_reducible repeat (first | refine blk_drewN ?_ _ | refine blk_drew ?_ | refine blk_alloc ?_ _)); refine blk_put (cs := #[.int .i64 t244, .int .i64 t248, .bool false, .int .i64 t246, .int .i64 16, .int .i64 0, .int .i64 0]) ?_ 6 _ rfl; (with_reducible repeat (first | refine blk_drewN ?_ _ | refine blk_drew ?_ | refine blk_alloc ?_ _)); refine blk_put (cs := #[.int .i64 t244, .int .i64 t248, .bool false, .int .i64 t246, .int .i64 16, .int .i64 0, .int .i64 0]) ?_ 5 _ rfl; (with_reducible repeat (first | refine blk_drewN ?_ _ | refine blk_drew ?_ | refine blk_alloc ?_ _)); refine blk_put (cs := #[.int .i64 t244, .int .i64 t248, .bool false, .int .i64 t246, .int .i64 0, .int .i64 0, .int .i64 0]) ?_ 4 _ rfl; (with_reducible repeat (first | refine blk_drewN ?_ _ | refine blk_drew ?_ | refine blk_alloc ?_ _)); refine blk_put (cs := #[.int .i64 t244, .int .i64 t248, .bool false, .int .i64 0, .int .i64 0, .int .i64 0, .int .i64 0]) ?_ 3 _ rfl; (with_reducible repeat (first | refine blk_drewN ?_ _ | refine blk_drew ?_ | refine blk_alloc ?_ _)); refine blk_put (cs := #[.int .i64 t244, .int .i64 t248, .bool false, .int .i64 0, .int .i64 0, .int .i64 0, .int .i64 0]) ?_ 2 _ rfl; (with_reducible repeat (first | refine blk_drewN ?_ _ | refine blk_drew ?_ | refine blk_alloc ?_ _)); refine blk_put (cs := #[.int .i64 t244, .int .i64 0, .bool false, .int .i64 0, .int .i64 0, .int .i64 0, .int .i64 0]) ?_ 1 _ rfl; (with_reducible repeat (first | refine blk_drewN ?_ _ | refine blk_drew ?_ | refine blk_alloc ?_ _)); refine blk_put (cs := #[.int .i64 0, .int .i64 0, .bool false, .int .i64 0, .int .i64 0, .int .i64 0, .int .i64 0]) ?_ 0 _ rfl; (with_reducible repeat (first | refine blk_drewN ?_ _ | refine blk_drew ?_ | refine blk_alloc ?_ _)); exact BK240.out) Try.underlying23 rfl (by kernel_rfl)) rfl ?_
                                              exact ⟨_, by first | rfl | (simp [errW_none, errW_some] <;> rfl) | (simp [*, errW_none, errW_some] <;> rfl), by (with_reducible repeat (first | apply Kd.S_alloc | apply Kd.S_drewN | apply Kd.S_drew)); exact Kd.S_mono (Kd.S_far (p := ⟨gb240, 6, none⟩) (Kd.S_far (p := ⟨gb240, 5, none⟩) (Kd.S_far (p := ⟨gb240, 4, none⟩) (Kd.S_far (p := ⟨gb240, 3, none⟩) (Kd.S_far (p := ⟨gb240, 2, none⟩) (Kd.S_far (p := ⟨gb240, 1, none⟩) (Kd.S_far (p := ⟨gb240, 0, none⟩) (Kd.S_types HO274.out BK240.out (by decide)) (fun _ hk => hk.2) (.int .i64 t244)) (fun _ hk => hk.2) (.int .i64 t248)) (fun _ hk => hk.2) (.bool false)) (fun _ hk => hk.2) (.int .i64 t246)) (fun _ hk => hk.2) (.int .i64 16)) (fun _ hk => hk.2) (.int .i64 0)) (fun _ hk => hk.2) (.int .i64 (wrap64 (Int.tdiv t242 t259)))) (fun _ hk => trivial), by repeat (first | (with_reducible first | exact HB.out | apply below_alloc | apply pw_below_drewN | apply below_drew1 | refine below_set ?_ GE240.out | refine below_set ?_ GE249.out) | exact HB.out)⟩
                                            · rw [if_neg c136] at H
                                              exact absurd H (by simp)
                  · rw [if_neg c15] at H
                    exact absurd H (by simp)
                · rw [if_neg c14] at H
                  exact absurd H (by simp)
              · rw [if_neg c12] at H
                exact absurd H (by simp)
            · rw [if_neg c11] at H
              exact absurd H (by simp)
          · rw [if_neg c9] at H
            exact absurd H (by simp)
        · rw [if_neg c8] at H
          exact absurd H (by simp)
      · rw [if_neg c6] at H
        exact absurd H (by simp)
    · rw [if_neg c5] at H
      exact absurd H (by simp)

end Go.Proofs.Ytliidobbkfmndaa.HW2

