/- WaveEnds: what the claim's theorem reaches of this seat's texts, part 13, put together by this project's own program (bale.py); conditions: those of each theorem. -/
import Derived.Test.YtliidobbkfmndaaVWaveEnds5
import Derived.RangeFuncNested
import Derived.RangeFuncBound
import Derived.RangeFuncCalls
import Derived.RangeFuncLeaves
import Derived.RangeFuncBox
import Derived.Shelf.Abstract
import Derived.Shelf.AbstractIn
import Derived.Shelf.RegionOpen
import Derived.WalkKit
import Derived.OwnWalkIn
import Derived.TacticsInMore
import Derived.LoopNIn
import Derived.LoopIn
import Derived.Lib.HexFns2
import Derived.Maps.AppendAt
namespace Go.Proofs.Ytliidobbkfmndaa.HW2
open Go.RowKit Go.Proofs.YtliidobbkfmndaaW.PrintWords Go.Proofs.YtliidobbkfmndaaW.PrintLast Go.Proofs.YtliidobbkfmndaaW.PrintMore
attribute [local go_sem] max2_int min2_int max_two min_two max_three min_three max_four min_four   -- for this text's walks alone
set_option linter.unusedVariables false
set_option linter.unusedSimpArgs false

/-! ### slices_Backward_byte_byte: function 39, by hand -/
open Go.Shelf
attribute [local go_sem] Oper.semAt_some
structure AsideD (p : Prop) : Prop where mk :: (out : p)
/-- A number of an element that there is. -/
abbrev ElemNo (len : Nat) := { x : Nat // x < len }
/-- What is yielded at an element: its number, and it. -/
def elemV (xs : List Int) {len : Nat} (x : ElemNo len) : Array Value := #[.int .i64 ((x.1 : Nat) : Int), .int .u8 (rd xs ((x.1 : Nat) : Int))]
/-- The elements from q on, the last one first. -/
def Down (len q : Nat) (pre : List (ElemNo len)) : Prop := pre.map (·.1) = (List.range' q (len - q)).reverse
theorem Down.step {len p : Nat} {pre : List (ElemNo len)} (hp : p < len) (h : Down len (p + 1) pre) : Down len p (pre ++ [⟨p, hp⟩]) := by
  unfold Down at h ⊢
  rw [List.map_append, h, show len - p = (len - (p + 1)) + 1 by omega, List.range'_succ, List.reverse_cons]
  rfl
/-- The iterator's variable, and what it walks over, stay. -/
def KB (Bs : Nat) (A : Option Addr) (len : Nat) (W W' : World) : Prop := W'.cell? ⟨Bs, 0, none⟩ = W.cell? ⟨Bs, 0, none⟩ ∧ ∀ ad, A = some ad → ∀ j, j < len → W'.cell? (ad.add j) = W.cell? (ad.add j)
theorem KB.trans {Bs len : Nat} {A : Option Addr} {U V W : World} (h : KB Bs A len U V) (h' : KB Bs A len V W) : KB Bs A len U W := ⟨h'.1.trans h.1, fun ad e j hj => (h'.2 ad e j hj).trans (h.2 ad e j hj)⟩
set_option maxRecDepth 100000 in
set_option maxHeartbeats 2000000 in
theorem backward1_in (F : Fence) (m : Nat) (h51 : F.fn 51) (hro : F.round = none) (hm : 1 ≤ m) (l Bs cap len : Nat) (A : Option Addr) (xs : List Int) (hlen : len ≤ 9223372036854775806) (hcap : len ≤ cap) (J Jx : List (ElemNo len) → World → Prop)
    (hJ : ∀ pre W, J pre W → J pre W.drew)
    (hY : ∀ pre x W, J pre W → pre.length < len → YieldAt F (m - 1) Try.prog l (elemV xs x) W fun e W' =>
      (e = .returned (.bool true) ∧ J (pre ++ [x]) W' ∧ KB Bs A len W W') ∨ (e = .returned (.bool false) ∧ Jx (pre ++ [x]) W'))
    (W : World) (hBs : W.cell? ⟨Bs, 0, none⟩ = some (.slice A len cap)) (hc : 0 < len → ∃ ad, A = some ad ∧ ∀ j, j < len → W.cell? (ad.add j) = some (.int .u8 (rd xs (j : Int)))) (h0 : J [] W) :
    CallsIn F m Try.prog 51 #[.func (.yield l) #[] #[], .pointer (some ⟨Bs, 0, none⟩)] W fun e W' => (∃ v, e = .returned v) ∧
      ((∃ ys, Down len 0 ys ∧ J ys W') ∨ (∃ pre, True ∧ Jx pre W')) := by
  refine callsIn_of_wp Try.func51 rfl h51 ?_ hro
  simp only [Try.ntmps51, List.size_toArray, List.length_cons, List.length_nil, Nat.reduceAdd, Nat.reduceSub, Array.replicate_succ, Array.replicate_zero, List.push_toArray, List.append_toArray, List.nil_append, List.cons_append]
  have HJ := AsideD.mk hJ
  have HC := AsideD.mk hc
  clear hJ hc
  gi_wp2
  gi_loopw [3] (fun i wr => ∃ (z : Int) (q : Nat) (pre : List (ElemNo len)), i = .int .i64 z ∧ AsideD (z = (q : Int) - 1 ∧ q ≤ len ∧ Down len q pre) ∧ -1 ≤ z ∧ z < (len : Int) ∧ J pre wr ∧ AsideD (wr.cell? ⟨Bs, 0, none⟩ = some (.slice A len cap) ∧ (0 < len → ∃ ad, A = some ad ∧ ∀ j, j < len → wr.cell? (ad.add j) = some (.int .u8 (rd xs (j : Int))))))
    (fun i _ => (intOf i + 1).toNat)
  case atStart => exact ⟨_, len, [], rfl, ⟨rfl, Nat.le_refl _, by unfold Down; simp⟩, by omega, by omega, h0, ⟨hBs, HC.out⟩⟩
  case round =>
    obtain ⟨z, q, pre, rfl, HQ, hz1, hz2, hJs, hnx⟩ := hrel
    have es := hnx.out.1
    have HCc := AsideD.mk hnx.out.2
    clear hnx HC hBs
    by_cases hz : 0 ≤ z
    · obtain ⟨p, rfl⟩ : ∃ p : Nat, z = (p : Int) := ⟨z.toNat, by omega⟩
      have hq : q = p + 1 := by have := HQ.out.1; omega
      subst hq
      have hpl : p < len := by omega
      have HD := AsideD.mk (HQ.out.2.2.step hpl)
      have hpre : pre.length < len := by
        have h := congrArg List.length HQ.out.2.2
        rw [List.length_map, List.length_reverse, List.length_range'] at h
        omega
      obtain ⟨ad, rfl, hcell⟩ := HCc.out (by omega)
      have hcp := hcell p hpl
      obtain ⟨fn, tmps, assign, body, hy, hR⟩ := hY pre ⟨p, hpl⟩ wr hJs hpre
      unfold elemV at hy
      dsimp only at hy
      generalize rd xs (p : Int) = y at hcp hy
      have HCL := AsideD.mk hcell
      clear hY hcell HQ
      gi_wp2
      refine hR.mono ?_
      intro e W3 hh
      rcases hh with ⟨rfl, hJ3, hk3⟩ | ⟨rfl, hJx3⟩
      · have es3 := AsideD.mk (hk3.1.trans es)
        have hc3 := AsideD.mk (fun (_ : 0 < len) => (⟨ad, rfl, fun j hj => (hk3.2 ad rfl j hj).trans (HCL.out j hj)⟩ : ∃ ad', some ad = some ad' ∧ ∀ j, j < len → W3.cell? (ad'.add j) = some (.int .u8 (rd xs (j : Int)))))
        clear hcp es
        gi_wp2
        go_roundw
        case rel => exact ⟨_, p, _, rfl, ⟨rfl, by omega, HD.out⟩, by omega, by omega, hJ3, ⟨es3.out, hc3.out⟩⟩
        case measure => simp [intOf]
      · gi_wp2
        refine bodyPost_ret (results_none rfl _ _ _) rfl ?_
        exact ⟨⟨_, rfl⟩, .inr ⟨_, trivial, hJx3⟩⟩
    · have hq : q = 0 := by have := HQ.out.1; omega
      subst hq
      gi_wp2
      go_end0
      exact ⟨⟨_, rfl⟩, .inl ⟨_, HQ.out.2.2, hJs⟩⟩
set_option maxHeartbeats 1000000 in
theorem backward_in (F : Fence) (m : Nat) (h39 : F.fn 39) (hro : F.round = none) (A : Option Addr) (len cap : Nat) (w : World) :
    CallsIn F m Try.prog 39 #[.slice A len cap] w fun e w' => e = .returned (.func (.func 51) #[] #[.pointer (some ⟨w.heap.size, 0, none⟩)]) ∧ w' = w.alloc (.cells #[.slice A len cap] 27) := by
  refine callsIn_of_wp Try.func39 rfl h39 ?_ hro
  simp only [Try.ntmps39, List.size_toArray, List.length_cons, List.length_nil, Nat.reduceAdd, Nat.reduceSub, Array.replicate_succ, Array.replicate_zero, List.push_toArray, List.append_toArray, List.nil_append, List.cons_append]
  gi_wp2
  go_ret
  exact ⟨rfl, rfl⟩
theorem backward_stops (F : Fence) (m : Nat) (h51 : F.fn 51) (hro : F.round = none) (hm : 1 ≤ m) (Bs cap len : Nat) (A : Option Addr) (xs : List Int) (hlen : len ≤ 9223372036854775806) (hcap : len ≤ cap) (w : World) (hBs : Bs < w.heap.size)
    (hs : w.cell? ⟨Bs, 0, none⟩ = some (.slice A len cap)) (hc : 0 < len → ∃ ad, A = some ad ∧ ∀ j, j < len → w.cell? (ad.add j) = some (.int .u8 (rd xs (j : Int)))) :
    SeqStopsK F m Try.prog 51 #[.pointer (some ⟨Bs, 0, none⟩)] (fun x : ElemNo len => elemV xs x) (KB Bs A len) (Down len 0) (fun _ => True) len w := fun l J Jx W hW hJ _ hY h0 => by
  have hs' := (hW.cell (p := ⟨Bs, 0, none⟩) hBs).trans hs
  refine backward1_in F m h51 hro hm l Bs cap len A xs hlen hcap J Jx (fun pre W1 h => hJ pre W1 W1.drew none h (Lib.Hx.grownBy_drew (World.grownBy.refl W1 none)) (fun r e => by cases e)) hY W hs' (fun h => ?_) h0
  obtain ⟨ad, e, hcc⟩ := hc h
  exact ⟨ad, e, fun j hj => (hW.cell (World.block_lt_of_cell? w _ (hcc j hj))).trans (hcc j hj)⟩

end Go.Proofs.Ytliidobbkfmndaa.HW2

namespace Go.Proofs.Ytliidobbkfmndaa.HW2
open Go.RowKit Go.Proofs.YtliidobbkfmndaaW.PrintWords Go.Proofs.YtliidobbkfmndaaW.PrintLast Go.Proofs.YtliidobbkfmndaaW.PrintMore
attribute [local go_sem] max2_int min2_int max_two min_two max_three min_three max_four min_four   -- for this text's walks alone
set_option linter.unusedVariables false
set_option linter.unusedSimpArgs false

/-! ### wave_number: function 23, by hand -/
open Go.Shelf
attribute [local go_sem] Oper.semAt_some
structure AsideN (p : Prop) : Prop where mk :: (out : p)
/-- The number of bytes, the lowest first, as Go reckons it. -/
def numG (l : List Int) : Int := l.foldr (fun c n => Go.bits .or .i64 (wrap64 (n * 256)) (wrap64 c)) 0
/-- The same over the elements' numbers that have come, in the order in which they came. -/
def accN (xs : List Int) {len : Nat} (pre : List (ElemNo len)) : Int := pre.foldl (fun n x => Go.bits .or .i64 (wrap64 (n * 256)) (wrap64 (rd xs ((x.1 : Nat) : Int)))) 0
theorem accN_snoc (xs : List Int) {len : Nat} (pre : List (ElemNo len)) (x : ElemNo len) : accN xs (pre ++ [x]) = Go.bits .or .i64 (wrap64 (accN xs pre * 256)) (wrap64 (rd xs ((x.1 : Nat) : Int))) := by
  unfold accN
  rw [List.foldl_append]
  rfl
theorem accN_all (xs : List Int) (ys : List (ElemNo xs.length)) (h : Down xs.length 0 ys) : accN xs ys = numG xs := by
  have h1 : accN xs ys = (ys.map (·.1)).foldl (fun n j => Go.bits .or .i64 (wrap64 (n * 256)) (wrap64 (rd xs ((j : Nat) : Int)))) 0 := by
    unfold accN
    rw [List.foldl_map]
  unfold Down at h
  rw [h1, h, List.foldl_reverse]
  have h2 : ∀ (m q : Nat), m + q = xs.length →  (List.range' q m).foldr (fun j n => Go.bits .or .i64 (wrap64 (n * 256)) (wrap64 (rd xs ((j : Nat) : Int)))) 0 = numG (xs.drop q) := by
    intro m
    induction m with
    | zero => intro q hq; rw [List.drop_eq_nil_of_le (by omega)]; rfl
    | succ m ih =>
      intro q hq
      have e : rd xs (q : Int) = xs[q]'(by omega) := by unfold rd; rw [Int.toNat_natCast, List.getD_eq_getElem?_getD, List.getElem?_eq_getElem (by omega)]; rfl
      rw [List.range'_succ, List.foldr_cons, ih (q + 1) (by omega), List.drop_eq_getElem_cons (show q < xs.length by omega), e]
      rfl
  exact h2 (xs.length - 0) 0 (by rw [Nat.sub_zero, Nat.add_zero])
def wave_number.f (l0 : List Int) : Option Int := if l0.length ≤ 1000000 then some (numG l0) else none
theorem kcb_put (W : World) (l : Nat) (o' : Obj) (p : Addr) (h : p.block < l) : (W.putObj l o').cell? p = W.cell? p := by
  have hne : ¬ l = p.block := by omega
  simp [World.putObj, World.cell?, Array.getElem?_setIfInBounds, hne]
def numI (xs : List Int) (len : Nat) (w : World) (pre : List (ElemNo len)) (W : World) : Prop :=
  Boxed W w.heap.size 3 (.int .i64 (accN xs pre)) ∧ Below w.heap.size w W
theorem numI_own (xs : List Int) (len : Nat) (w : World) (B : Nat) (hB : w.heap.size ≤ B) : OwnFrom B (numI xs len w) := by
  intro pre X Y row hs hg hr
  obtain ⟨hv, hb⟩ := hs
  refine ⟨hv.kept hg (fun e' => ?_), hb.grown hg hb.size (fun k e => Nat.le_trans hB (hr k e).1)⟩
  obtain ⟨_, o, ho, hc⟩ := hr _ e'.symm
  rw [show X.heap[w.heap.size]? = _ from hv] at ho; cases ho; cases hc
set_option maxRecDepth 100000 in
set_option maxHeartbeats 4000000 in
theorem number_in (A : Option Addr) (c0 : Nat) (l0 : List Int) (w : World) (hr0 : Kd.C (Kd.int .u8) w A l0.length l0) (hc0 : l0.length ≤ c0) (hl : l0.length ≤ 1000000) :
    CallsIn Fence.wide 9 Try.prog 23 #[.slice A l0.length c0] w fun e w' => e = .returned (.int .i64 (numG l0)) ∧ Below w.heap.size w w' := by
  have hF : ∀ f, Fence.wide.fn f := fun _ => trivial
  have hro : Fence.wide.round = none := rfl
  have HR0 := AsideN.mk hr0
  obtain ⟨len, hlen2⟩ : ∃ len, l0.length = len := ⟨_, rfl⟩
  have HLn := AsideN.mk hlen2
  have hcells : 0 < len → ∃ ad, A = some ad ∧ ∀ j, j < len → w.cell? (ad.add j) = some (.int .u8 (rd l0 (j : Int))) := fun h => by
    obtain ⟨ad, e, hc⟩ := hr0.2.2 (by omega)
    refine ⟨ad, e, fun j hj => ?_⟩
    obtain ⟨cs, hs, hk, hcell⟩ := hc j _ (List.getElem?_eq_getElem (by omega))
    have h1 := hcell 0 (.int .u8 l0[j]) (by rw [show cs = [Value.int .u8 l0[j]] from hk]; rfl)
    rw [show j * (Kd.int .u8).sz + 0 = j from by show j * 1 + 0 = j; omega] at h1
    rw [h1]
    unfold rd
    rw [Int.toNat_natCast, List.getD_eq_getElem?_getD, List.getElem?_eq_getElem (by omega)]
    rfl
  have HC := AsideN.mk hcells
  rw [hlen2] at hc0 hl ⊢
  clear hlen2 hr0 hcells
  refine callsIn_of_wp_marks Try.func23 rfl (hF _) ?_ hro
  simp only [Try.ntmps23, List.size_toArray, List.length_cons, List.length_nil, Nat.reduceAdd, Nat.reduceSub, Array.replicate_succ, Array.replicate_zero, List.push_toArray, List.append_toArray, List.nil_append, List.cons_append]
  gi_wp2_with (gi_at_call 39; refine (backward_in Fence.wide 8 (hF _) hro _ _ _ _).mono ?_; rintro e w' ⟨rfl, rfl⟩)
  have bO := (Boxed.new w 3 (.int .i64 0)).alloc (.cells #[.slice A len c0] 27)
  have bS := Boxed.new (w.alloc (.cells #[.int .i64 0] 3)) 27 (.slice A len c0)
  have hB0 := ((Below.refl w.heap.size w).alloc (Nat.le_refl _) (.cells #[.int .i64 0] 3)).alloc (by simp) (.cells #[.slice A len c0] 27)
  simp only [World.size_alloc] at bO bS
  generalize hw0 : (w.alloc (.cells #[.int .i64 0] 3)).alloc (.cells #[.slice A len c0] 27) = w0 at *
  have hsz : w0.heap.size = w.heap.size + 2 := by rw [← hw0]; simp
  clear hw0
  have hle : w.heap.size ≤ w0.heap.size := by rw [hsz]; exact Nat.le_add_right _ _
  have HSZ := AsideN.mk hsz
  have hc1 : 0 < len → ∃ ad, A = some ad ∧ ∀ j, j < len → w0.cell? (ad.add j) = some (.int .u8 (rd l0 (j : Int))) := fun h => by
    obtain ⟨ad, e, hcc⟩ := HC.out h
    exact ⟨ad, e, fun j hj => (hB0.cell (World.block_lt_of_cell? w _ (hcc j hj))).trans (hcc j hj)⟩
  have hlow : ∀ ad, A = some ad → ∀ j, j < len → (ad.add j).block < w.heap.size := fun ad e j hj => by
    obtain ⟨ad', e', hcc⟩ := HC.out (by omega)
    rw [e] at e'
    injection e' with e'
    subst e'
    exact World.block_lt_of_cell? w _ (hcc j hj)
  have HLOW := AsideN.mk hlow
  have hseq := backward_stops Fence.wide 8 (hF _) hro (by omega) (w.heap.size + 1) c0 len A l0 (by omega) hc0 w0 (by omega) bS.cell hc1
  refine wpIn_rangeFunc_ownG hro (by decide : 1 ≤ 9) (gf := 51) (lb := #[.pointer (some ⟨w.heap.size + 1, 0, none⟩)]) rfl (hF _) (enters_of Try.func51 (by kernel_rfl) rfl)
    hseq (fun h h' => h.trans h') (fun W l o o' hl ho hc hwk => ⟨kcb_put W l o' _ (by show w.heap.size + 1 < l; omega), fun ad e j hj => kcb_put W l o' _ (by have := HLOW.out ad e j hj; omega)⟩) (Below.refl _ _) (fun _ => rfl)
    (numI l0 len w)
    (fun _ _ _ => False)
    ?hI
    (fun _ _ _ _ _ hs _ _ => hs)
    ?h0
    (fun x => { tmps := #[.slice A len c0, undef, .int .i64 0, .pointer (some ⟨w.heap.size, 0, none⟩), undef, .int .u8 (rd l0 ((x.1 : Nat) : Int)), .slice A len c0, .func (.func 51) #[] #[.pointer (some ⟨w.heap.size + 1, 0, none⟩)], .int .i64 ((x.1 : Nat) : Int), .int .u8 (rd l0 ((x.1 : Nat) : Int)), undef, undef, undef, undef, undef, undef], defers := [] }) ?assign ?body ?done ?stop
  case hI => exact numI_own l0 len w _ hle
  case h0 => exact ⟨bO, hB0⟩
  case assign =>
    intro l x W K hK
    unfold elemV
    gi_wp2
    exact hK
  case body =>
    rintro l pre x W ⟨hv, hB⟩ hlt
    have hc := hv.cell
    have hf := hv.frozen
    have HS := AsideN.mk (accN_snoc l0 pre x)
    have HV := AsideN.mk hv
    have HB := AsideN.mk hB
    generalize rd l0 ((x.1 : Nat) : Int) = y at HS ⊢
    generalize accN l0 pre = n at hc HS HV
    clear hv hB
    gi_wp2
    refine ⟨?_, ?_, ?_⟩
    · exact KeepsOthers.from (KeepsOthers.setCell _ _ _) _
    · refine ⟨?_, fun ad e j hj => ?_⟩
      · exact World.cell?_of_block (Below.heap_setCell _ _ _ _ (by simp))
      · exact World.cell?_of_block (Below.heap_setCell _ _ _ _ (by have := HLOW.out ad e j hj; show _ ≠ w.heap.size; omega))
    · refine ⟨?_, Below.setCell HB.out (p := ⟨w.heap.size, 0, none⟩) (Nat.le_refl _) _⟩
      rw [HS.out]
      exact HV.out.set _
  case done =>
    rintro D ys W hD hS ⟨hv, hB⟩ hK
    have hn : accN l0 ys = numG l0 := by
      have h := HLn.out
      subst h
      exact accN_all l0 ys hS
    rw [hn] at hv
    have hc := hv.cell
    have HN := AsideN.mk hn
    have HB := AsideN.mk hB
    clear hB hn
    gi_wp2
    refine ⟨by simp, .inl ⟨_, _, rfl, run_takeDeferred hK, ?_⟩⟩
    exact ⟨_, results_tmp rfl _ _ _, rfl, HB.out.trans (belowK_b (w := w) (Nat.le_refl _) W D _ _ (by have := HSZ.out; omega) hK rfl rfl)⟩
  case stop =>
    rintro D c pre W _ _ h _
    exact h.elim
theorem wave_number.calls (A0 : Option Addr) (c0 : Nat) (l0 : List Int) (r : Int) (w : World) (hr0 : Kd.C (Kd.int .u8) w A0 l0.length l0) (hc0 : l0.length ≤ c0) (h : wave_number.f l0 = some r) :
    Calls Try.prog 23 #[.slice A0 l0.length c0] w fun e w' => e = .returned (.int .i64 r) ∧ Below w.heap.size w w' := by
  unfold wave_number.f at h
  split at h
  · rename_i hl
    obtain rfl := Option.some.inj h
    exact callsIn_wide.1 (number_in A0 c0 l0 w hr0 hc0 hl)
  · cases h

end Go.Proofs.Ytliidobbkfmndaa.HW2

namespace Go.Proofs.Ytliidobbkfmndaa.HW2
open Go.RowKit Go.Proofs.YtliidobbkfmndaaW.PrintWords Go.Proofs.YtliidobbkfmndaaW.PrintLast Go.Proofs.YtliidobbkfmndaaW.PrintMore
attribute [local go_sem] max2_int min2_int max_two min_two max_three min_three max_four min_four   -- for this text's walks alone
set_option linter.unusedVariables false
set_option linter.unusedSimpArgs false

/-! ### slices_Chunk_byte_byte: function 42, by hand -/
open Go.Shelf
attribute [local go_sem] Oper.semAt_some
structure AsideC (p : Prop) : Prop where mk :: (out : p)
/-- The k-th chunk of n of a row of len, as a slice. -/
def chunkV (A : Option Addr) (len n k : Nat) : Value := .slice (some ((A.getD ⟨0, 0, none⟩).add (k * n))) (min n (len - k * n)) (min n (len - k * n))
/-- The number of a chunk that there is. -/
abbrev ChunkNo (len n : Nat) := { x : Nat // x * n < len }
/-- The iterator's two variables keep what they hold. -/
def KC (Bs Bn : Nat) (W W' : World) : Prop := W'.cell? ⟨Bs, 0, none⟩ = W.cell? ⟨Bs, 0, none⟩ ∧ W'.cell? ⟨Bn, 0, none⟩ = W.cell? ⟨Bn, 0, none⟩
theorem KC.trans {Bs Bn : Nat} {A B C : World} (h : KC Bs Bn A B) (h' : KC Bs Bn B C) : KC Bs Bn A C := ⟨h'.1.trans h.1, h'.2.trans h.2⟩
set_option maxRecDepth 100000 in
set_option maxHeartbeats 2000000 in
theorem chunk1_in (F : Fence) (m : Nat) (h32 : F.fn 52) (hro : F.round = none) (hm : 1 ≤ m) (l Bs Bn cap len n : Nat) (A : Option Addr) (hA : 0 < len → ∃ ad, A = some ad) (hn : 1 ≤ n) (hlen : len + n ≤ 9223372036854775807) (hcap : len ≤ cap) (J Jx : List (ChunkNo len n) → World → Prop)
    (hJ : ∀ pre W, J pre W → J pre W.drew)
    (hY : ∀ pre x W, J pre W → pre.length < len → YieldAt F (m - 1) Try.prog l #[chunkV A len n x.1] W fun e W' =>
      (e = .returned (.bool true) ∧ J (pre ++ [x]) W' ∧ KC Bs Bn W W') ∨ (e = .returned (.bool false) ∧ Jx (pre ++ [x]) W'))
    (W : World) (hBs : W.cell? ⟨Bs, 0, none⟩ = some (.slice A len cap)) (hBn : W.cell? ⟨Bn, 0, none⟩ = some (.int .i64 (n : Int))) (h0 : J [] W) :
    CallsIn F m Try.prog 52 #[.func (.yield l) #[] #[], .pointer (some ⟨Bs, 0, none⟩), .pointer (some ⟨Bn, 0, none⟩)] W fun e W' => (∃ v, e = .returned v) ∧
      ((∃ ys, (∃ K, ys.map (·.1) = List.range K ∧ len ≤ K * n) ∧ J ys W') ∨ (∃ pre, (∃ k, pre.map (·.1) = List.range k) ∧ Jx pre W')) := by
  refine callsIn_of_wp Try.func52 rfl h32 ?_ hro
  simp only [Try.ntmps52, List.size_toArray, List.length_cons, List.length_nil, Nat.reduceAdd, Nat.reduceSub, Array.replicate_succ, Array.replicate_zero, List.push_toArray, List.append_toArray, List.nil_append, List.cons_append]
  have HA := AsideC.mk hA
  have HJ := AsideC.mk hJ
  clear hA hJ
  gi_wp2
  gi_loopw [4] (fun i wr => ∃ (k q : Nat) (pre : List (ChunkNo len n)), i = .int .i64 (q : Int) ∧ AsideC (q = k * n ∧ pre.map (·.1) = List.range k) ∧ q < len + n ∧ J pre wr ∧ AsideC (wr.cell? ⟨Bs, 0, none⟩ = some (.slice A len cap) ∧ wr.cell? ⟨Bn, 0, none⟩ = some (.int .i64 (n : Int))))
    (fun i _ => (len + n) - (intOf i).toNat)
  case atStart => exact ⟨0, 0, [], rfl, ⟨by simp, rfl⟩, by omega, h0, ⟨hBs, hBn⟩⟩
  case round =>
    obtain ⟨k, q, pre, rfl, HQ, hq, hJs, hnx⟩ := hrel
    have es := hnx.out.1
    have en := hnx.out.2
    clear hnx
    by_cases hlt : q < len
    · obtain ⟨ad, rfl⟩ := HA.out (by omega)
      have hrest : k < len := by
        have h1 : k ≤ k * n := Nat.le_mul_of_pos_right k hn
        have := HQ.out.1; omega
      obtain ⟨fn, tmps, assign, body, hy, hR⟩ := hY pre ⟨k, by rw [← HQ.out.1]; exact hlt⟩ wr.drew (HJ.out _ _ hJs) (by have h := congrArg List.length HQ.out.2; rw [List.length_map, List.length_range] at h; omega)
      have hcv : chunkV (some ad) len n k = .slice (some (ad.add q)) (min n (len - q)) (min n (len - q)) := by rw [HQ.out.1]; rfl
      dsimp only at hy
      rw [hcv] at hy
      have hqz : (q : Int) < (len : Int) := by omega
      have hmx : (Try.prog).follows .mixedOrders = true := by kernel_rfl
      have HQ2 : AsideC (q + n = (k + 1) * n ∧ (pre ++ [(⟨k, by rw [← HQ.out.1]; exact hlt⟩ : ChunkNo len n)]).map (·.1) = List.range (k + 1)) := by
        refine ⟨by rw [Nat.add_mul, Nat.one_mul, ← HQ.out.1], ?_⟩
        rw [List.map_append, List.range_succ]; exact congrArg (fun z => z ++ [k]) HQ.out.2
      clear hY hBs hcv hrest
      gi_wp2
      gi_region
      all_goals gi_wp2
      all_goals (try go_bits)
      all_goals (first | rw [show q + (len - q) - q = min n (len - q) by omega] | rw [show q + n - q = min n (len - q) by omega])
      all_goals rw [hy]
      all_goals gi_wp2
      all_goals
        refine hR.mono ?_
        intro e W3 hh
        rcases hh with ⟨rfl, hJ3, hk3⟩ | ⟨rfl, hJx3⟩
        · have en3 : W3.cell? ⟨Bn, 0, none⟩ = some (.int .i64 (n : Int)) := hk3.2.trans en
          have es3 := AsideC.mk (hk3.1.trans es)
          gi_wp2
          go_roundw
          case rel => exact ⟨k + 1, q + n, _, by go_num, HQ2, by omega, hJ3, ⟨es3.out, en3⟩⟩
          case measure => simp [intOf]; omega
        · gi_wp2
          refine bodyPost_ret (results_none rfl _ _ _) rfl ?_
          exact ⟨⟨_, rfl⟩, .inr ⟨_, ⟨k + 1, HQ2.out.2⟩, hJx3⟩⟩
    · gi_wp2
      go_end0
      exact ⟨⟨_, rfl⟩, .inl ⟨_, ⟨k, HQ.out.2, by rw [← HQ.out.1]; omega⟩, hJs⟩⟩
set_option maxHeartbeats 1000000 in
theorem chunk_in (F : Fence) (m : Nat) (h28 : F.fn 42) (hro : F.round = none) (A : Option Addr) (len cap n : Nat) (hn : 1 ≤ n) (w : World) :
    CallsIn F m Try.prog 42 #[.slice A len cap, .int .i64 (n : Int)] w fun e w' => e = .returned (.func (.func 52) #[] #[.pointer (some ⟨w.heap.size, 0, none⟩), .pointer (some ⟨w.heap.size + 1, 0, none⟩)]) ∧ w' = (w.alloc (.cells #[.slice A len cap] 27)).alloc (.cells #[.int .i64 (n : Int)] 3) := by
  refine callsIn_of_wp Try.func42 rfl h28 ?_ hro
  simp only [Try.ntmps42, List.size_toArray, List.length_cons, List.length_nil, Nat.reduceAdd, Nat.reduceSub, Array.replicate_succ, Array.replicate_zero, List.push_toArray, List.append_toArray, List.nil_append, List.cons_append]
  have hnz : ¬ ((n : Int) < 1) := by omega
  gi_wp2
  go_ret
  exact ⟨rfl, rfl⟩
theorem chunk_stops (F : Fence) (m : Nat) (h32 : F.fn 52) (hro : F.round = none) (hm : 1 ≤ m) (Bs Bn cap len n : Nat) (A : Option Addr) (hA : 0 < len → ∃ ad, A = some ad) (hn : 1 ≤ n) (hlen : len + n ≤ 9223372036854775807) (hcap : len ≤ cap) (w : World) (hBs : Bs < w.heap.size) (hBn : Bn < w.heap.size)
    (hs : w.cell? ⟨Bs, 0, none⟩ = some (.slice A len cap)) (hnc : w.cell? ⟨Bn, 0, none⟩ = some (.int .i64 (n : Int))) :
    SeqStopsK F m Try.prog 52 #[.pointer (some ⟨Bs, 0, none⟩), .pointer (some ⟨Bn, 0, none⟩)] (fun x : ChunkNo len n => #[chunkV A len n x.1]) (KC Bs Bn) (fun ys => ∃ K, ys.map (·.1) = List.range K ∧ len ≤ K * n) (fun pre => ∃ k, pre.map (·.1) = List.range k) len w := fun l J Jx W hW hJ _ hY h0 => by
  have hs' := (hW.cell (p := ⟨Bs, 0, none⟩) hBs).trans hs
  have hn' := (hW.cell (p := ⟨Bn, 0, none⟩) hBn).trans hnc
  exact chunk1_in F m h32 hro hm l Bs Bn cap len n A hA hn hlen hcap J Jx (fun pre W1 h => hJ pre W1 W1.drew none h (Lib.Hx.grownBy_drew (World.grownBy.refl W1 none)) (fun r e => by cases e)) hY W hs' hn' h0

end Go.Proofs.Ytliidobbkfmndaa.HW2

