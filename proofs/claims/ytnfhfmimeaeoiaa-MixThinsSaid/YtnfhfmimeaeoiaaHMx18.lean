/- What the Go functions come to, as plain Lean functions, and that their calls do just that: written by this project's own program (hp.sh); conditions: those of each theorem. -/
import Derived.Test.YtnfhfmimeaeoiaaHMx0
import Derived.Test.YtnfhfmimeaeoiaaHMx5
import Derived.Test.YtnfhfmimeaeoiaaHMx17
import Derived.RangeFuncNested
import Derived.RangeFuncBound
import Derived.RangeFuncCalls
import Derived.RangeFuncLeaves
import Derived.RangeFuncBox
import Derived.Shelf.Abstract
import Derived.Shelf.AbstractIn
import Derived.Shelf.RegionOpen
import Derived.WalkKit
import Derived.OwnWalkIn
import Derived.TacticsInMore
import Derived.LoopNIn
import Derived.LoopIn
import Derived.Maps.AppendAt
namespace Go.Proofs.Ytnfhfmimeaeoiaa.HM
open Go.RowKit Go.Proofs.YtnfhfmimeaeoiaaW.PrintWords Go.Proofs.YtnfhfmimeaeoiaaW.PrintLast Go.Proofs.YtnfhfmimeaeoiaaW.PrintMore
attribute [local go_sem] max2_int min2_int max_two min_two max_three min_three max_four min_four   -- for this text's walks alone
set_option linter.unusedVariables false
set_option linter.unusedSimpArgs false

/-! ### mix_Thin: function 19, by hand -/
open Go.Shelf
attribute [local go_sem] Oper.semAt_some
/-! In a round, at the wide fence: a region is walked by the plain steps. -/
theorem rowsIn_of_rows {n : Nat} {P : Program} {row : String} {args : Array Value} {w : World} {R : Value → World → Prop} {l : Nat} (h : Rows P row args w R) : RowsIn (Fence.wide.inRound l) n P row args w R :=
  fun c cs _ => let ⟨v, w', r, s⟩ := h c cs; ⟨v, w', r, stepsIn_wide.2 s⟩
theorem uponIn_of_upon {l n : Nat} {P : Program} {o : Oper} {a : Act} {next : Act → World → Prop} {Q : Exit → Act → World → Prop} {r : Result Next} (h : o.upon P a next Q r) : o.uponIn (Fence.wide.inRound l) n P a next Q r := by
  cases r with
  | ok nx w' =>
    cases nx with
    | value v => exact h
    | skip => exact h
    | defer d => exact h
    | enter f args => exact ⟨(fun h' => by cases h'), CallsIn.inRound l (callsIn_wide.2 h)⟩
    | row r args => exact ⟨(fun h' => by cases h'), rowsIn_of_rows h⟩
    | _ => exact h.elim
  | halt hh w' => cases hh <;> exact h
def noDefer (ops : Array Oper) : Bool := ops.all fun o => match o.op with | .defer _ => false | _ => true
theorem noDefer_at {ops : Array Oper} (h : noDefer ops = true) {i : Nat} {o : Oper} (ho : ops[i]? = some o) : ∀ c, o.op ≠ .defer c := by
  intro c e
  have := Array.all_eq_true_iff_forall_mem.1 h o (Array.mem_of_getElem? ho)
  rw [e] at this
  cases this
theorem wpAnyIn_of_wpAny {l m : Nat} {P : Program} {md : Region.Mode} {ops : Array Oper} {Q : Exit → Act → World → Prop} (hd : noDefer ops = true) (hQ : ¬ LetsOut Q) : ∀ (fuel : Nat) (listed : Array Bool) (a : Act) (w : World), wpAny P md ops Q fuel listed a w → wpAnyIn (Fence.wide.inRound l) m P md ops Q fuel listed a w
  | 0, _, _, _, h => h
  | fuel + 1, listed, a, w, h => by
    refine ⟨h.1, fun i hi => ?_⟩
    have h2 := h.2 i hi
    unfold wpOp at h2
    unfold wpOpIn
    cases ho : ops[i]? with
    | none => rw [ho] at h2; exact wpAnyIn_of_wpAny hd hQ fuel _ _ _ h2
    | some o =>
      rw [ho] at h2
      dsimp only at h2 ⊢
      by_cases hw : Region.wanted o (yielded ops a.tmps) = true
      · rw [if_pos hw] at h2 ⊢
        rcases h2 with h2 | h2
        · refine ⟨fun _ _ => trivial, ?_⟩
          rw [show (Fence.wide.inRound l).round = some l from rfl, Oper.semAt_some l _ _ (noDefer_at hd ho)]
          exact uponIn_of_upon (Oper.wp_mono (fun a w h => wpAnyIn_of_wpAny hd hQ fuel _ a w h) h2)
        · exact absurd h2.2 hQ
      · rw [if_neg hw] at h2 ⊢
        exact ⟨fun _ _ => trivial, wpAnyIn_of_wpAny hd hQ fuel _ _ _ h2⟩
theorem startR_ {P : Program} {ops : Array Oper} {Q : Exit → Act → World → Prop} {S : World → Prop} {ds : List Nat} {id n r m : Nat} {a : Act} {w : World} (hd : noDefer ops = true) (hQ : ¬ LetsOut Q) (l : Array Bool) (hm : P.follows .mixedOrders = true) (hn : ops.size = n) (hl : Array.replicate n false = l) (hS : S w.drew)
    (h : S w.drew → wpAnyLast P .any ops Q S ds n l a w.drew) : (Code.region id ops true).wpIn (Fence.wide.inRound r) m P Q a w := by
  subst hn
  subst hl
  exact wpIn_region_any hm (wpAnyIn_of_wpAny hd hQ _ _ _ _ (wpAny_of_last _ _ _ _ (h hS)))
structure AsideR (p : Prop) : Prop where mk :: (out : p)
/-- The sum of so many numbers from one on, as Go reckons it. -/
def sumTo (l : List Int) (o j : Nat) : Int := ((l.drop o).take j).foldl (fun s v => wrap64 (s + v)) 0
theorem sumTo_succ (l : List Int) (o j : Nat) (h : o + j < l.length) : sumTo l o (j + 1) = wrap64 (sumTo l o j + rd l ((o + j : Nat) : Int)) := by
  unfold sumTo
  rw [List.take_succ_eq_append_getElem (by rw [List.length_drop]; omega), List.foldl_append]
  have e : rd l ((o + j : Nat) : Int) = l[o + j] := by unfold rd; rw [Int.toNat_natCast, List.getD_eq_getElem?_getD, List.getElem?_eq_getElem h]; rfl
  rw [e]
  simp
def thinAt (l : List Int) (n k : Nat) : Int := wrap64 (Int.tdiv (sumTo l (k * n) (min n (l.length - k * n))) ((min n (l.length - k * n) : Nat) : Int))
def thins (l : List Int) (n : Nat) : List Int := (List.range ((l.length + n - 1) / n)).map (thinAt l n)
theorem kc_put (W : World) (l : Nat) (o' : Obj) {b : Nat} (h : b < l) : (W.putObj l o').cell? ⟨b, 0, none⟩ = W.cell? ⟨b, 0, none⟩ := by
  have hne : ¬ l = b := by omega
  simp [World.putObj, World.cell?, Array.getElem?_setIfInBounds, hne]
def thinI (l0 : List Int) (len n : Nat) (w : World) (pre : List (ChunkNo len n)) (W : World) : Prop :=
  ∃ v, Boxed W w.heap.size 22 v ∧ W.ownsRow (w.heap.size + 3) 3 1 v pre.length ((pre.map fun x => thinAt l0 n x.1).map (Value.int .i64)) ∧ Below w.heap.size w W ∧ w.heap.size + 3 ≤ W.heap.size
theorem thinI_own (l0 : List Int) (len n : Nat) (w : World) (B : Nat) (hB : w.heap.size ≤ B) : OwnFrom B (thinI l0 len n w) := by
  intro pre X Y row hs hg hr
  obtain ⟨v, hv, hrow, hb, h3⟩ := hs
  refine ⟨v, hv.kept hg (fun e' => ?_), hrow.kept hg ?_, hb.grown hg hb.size (fun k e => Nat.le_trans hB (hr k e).1), Nat.le_trans h3 hg.size⟩
  · obtain ⟨_, o, ho, hc⟩ := hr _ e'.symm
    rw [show X.heap[w.heap.size]? = _ from hv] at ho; cases ho; cases hc
  · rcases hrow.2 with ⟨rfl, _⟩ | ⟨g, cap, cur, rfl, _, hgb, _⟩
    · exact .inl rfl
    · refine .inr fun e' => ?_
      obtain ⟨_, o, ho, hc⟩ := hr g (by simpa [Value.ownBlock] using e'.symm)
      rw [hgb] at ho; cases ho; cases hc
set_option maxRecDepth 100000 in
set_option maxHeartbeats 4000000 in
theorem thin_in (k : Nat) (A : Option Addr) (c0 : Nat) (l0 : List Int) (n : Nat) (w : World) (hr0 : Kd.C (Kd.int .i64) w A l0.length l0) (hc0 : l0.length ≤ c0) (hl : l0.length ≤ 65536) (hn : 1 ≤ n ∧ n ≤ 1000) (hck : mix_check.f k l0 true = some 0) :
    CallsIn Fence.wide 9 Try.prog 19 #[.slice A l0.length c0, .int .i64 (n : Int)] w fun e w' => ∃ v0_ : Value, e = .returned (.tuple #[v0_, .int .i64 0]) ∧ Kd.R (Kd.int .i64) 3 w' w.heap.size (fun _ => True) v0_ (thins l0 n) ∧ Below w.heap.size w w' := by
  have hF : ∀ f, Fence.wide.fn f := fun _ => trivial
  have hro : Fence.wide.round = none := rfl
  have HW := AsideR.mk (fun W => mix_within.calls (n : Int) 1 1000 true W (by unfold mix_within.f; rw [if_pos (by omega), decide_eq_true (by omega)]))
  have HK := AsideR.mk (fun (W : World) (hW : Below w.heap.size w W) => mix_check.calls k A c0 l0 true 0 W (Kd.C_below hr0 hW) hc0 hck)
  have HR0 := AsideR.mk hr0
  clear hr0 hck
  obtain ⟨len, hlen2⟩ : ∃ len, l0.length = len := ⟨_, rfl⟩
  have HLn := AsideR.mk hlen2
  rw [hlen2] at hc0 hl HK ⊢
  clear hlen2
  obtain ⟨hn1, hn2⟩ := hn
  refine callsIn_of_wp_marks Try.func19 rfl (hF _) ?_ hro
  simp only [Try.ntmps19, List.size_toArray, List.length_cons, List.length_nil, Nat.reduceAdd, Nat.reduceSub, Array.replicate_succ, Array.replicate_zero, List.push_toArray, List.append_toArray, List.nil_append, List.cons_append]
  gi_wp2_with (first | (gi_at_call 31; refine (callsIn_wide.2 (HW.out _)).mono ?_; rintro e wa ⟨rfl, hd⟩; have HDa := AsideR.mk hd.below; clear hd) | (gi_at_call 22; refine (callsIn_wide.2 (HK.out _ HDa.out)).mono ?_; rintro e w1 ⟨rfl, hd⟩; have HD := AsideR.mk (below_step HDa.out hd.below); clear hd) | (gi_at_call 36; refine (chunk_in Fence.wide 8 (hF _) hro _ _ _ n hn1 _).mono ?_; rintro e w' ⟨rfl, rfl⟩))
  have hR1 : ReadsInt w1 .i64 A l0.length l0 := Kd.reads_of_C (Kd.C_below HR0.out HD.out)
  have HR := AsideR.mk hR1
  clear hR1 HW HK HDa
  have bO := ((Boxed.new w1 22 (.slice none 0 0)).alloc (.cells #[.slice A len c0] 22)).alloc (.cells #[.int .i64 (n : Int)] 3)
  have bS := (Boxed.new (w1.alloc (.cells #[.slice none 0 0] 22)) 22 (.slice A len c0)).alloc (.cells #[.int .i64 (n : Int)] 3)
  have bN := Boxed.new ((w1.alloc (.cells #[.slice none 0 0] 22)).alloc (.cells #[.slice A len c0] 22)) 3 (.int .i64 (n : Int))
  have hB0 := (((Below.refl w1.heap.size w1).alloc (Nat.le_refl _) (.cells #[.slice none 0 0] 22)).alloc (by simp) (.cells #[.slice A len c0] 22)).alloc (by simp; omega) (.cells #[.int .i64 (n : Int)] 3)
  simp only [World.size_alloc, Nat.add_assoc, Nat.reduceAdd] at bO bS bN
  simp only [Nat.add_assoc, Nat.reduceAdd]
  generalize hw0 : ((w1.alloc (.cells #[.slice none 0 0] 22)).alloc (.cells #[.slice A len c0] 22)).alloc (.cells #[.int .i64 (n : Int)] 3) = w0 at *
  have hsz : w0.heap.size = w1.heap.size + 3 := by rw [← hw0]; simp
  clear hw0
  have hle : w1.heap.size ≤ w0.heap.size := by rw [hsz]; exact Nat.le_add_right _ _
  have HSZ := AsideR.mk hsz
  have hA : 0 < len → ∃ ad, A = some ad := fun h => by
    obtain ⟨ad, e, _⟩ := HR.out.2.2 (by have := HLn.out; omega)
    exact ⟨ad, e⟩
  have cS := bS.cell
  have cN := bN.cell
  have hseq := chunk_stops Fence.wide 8 (hF _) hro (by omega) (w1.heap.size + 1) (w1.heap.size + 2) c0 len n A hA hn1 (by omega) hc0 w0 (by omega) (by omega) cS cN
  refine wpIn_rangeFunc_ownG hro (by decide : 1 ≤ 9) (gf := 42) (lb := #[.pointer (some ⟨w1.heap.size + 1, 0, none⟩), .pointer (some ⟨w1.heap.size + 2, 0, none⟩)]) rfl (hF _) (enters_of Try.func42 (by kernel_rfl) rfl)
    hseq (fun h h' => h.trans h') (fun W l o o' hl ho hc hwk => ⟨kc_put W l o' (by omega), kc_put W l o' (by omega)⟩) (Below.refl _ _) (fun _ => rfl)
    (thinI l0 len n w1)
    (fun _ _ _ => False)
    ?hI
    (fun _ _ _ _ _ hs _ _ => hs)
    ?h0
    (fun x => { tmps := #[.slice A len c0, .int .i64 (n : Int), undef, undef, .slice none 0 0, .int .i64 0, .int .i64 0, .pointer (some ⟨w1.heap.size, 0, none⟩), chunkV A len n x.1, undef, undef, undef, .slice A len c0, .int .i64 (n : Int), .bool true, .int .i64 0, .int .i64 0, .bool false, undef, .slice A len c0, .int .i64 (n : Int), .func (.func 42) #[] #[.pointer (some ⟨w1.heap.size + 1, 0, none⟩), .pointer (some ⟨w1.heap.size + 2, 0, none⟩)], chunkV A len n x.1, undef, undef, undef, undef, undef, undef, undef, undef, undef, undef, undef, undef, undef, undef, undef, undef, undef, undef], defers := [] }) ?assign ?body ?done ?stop
  case hI => exact thinI_own l0 len n w1 _ hle
  case h0 => exact ⟨_, bO, World.ownsRow_nil _ _ _ _, hB0, by omega⟩
  case assign =>
    intro l x W K hK
    gi_wp2
    exact hK
  case body =>
    rintro l pre x W ⟨v, hv, hrow, hB, hW3⟩ hlt
    have hc := hv.cell
    obtain ⟨ad, rfl⟩ := hA (by omega)
    have hxl : x.1 * n < len := x.2
    obtain ⟨o, ho⟩ : ∃ o, x.1 * n = o := ⟨_, rfl⟩
    obtain ⟨c, hcc⟩ : ∃ c, min n (len - o) = c := ⟨_, rfl⟩
    have HO := AsideR.mk ho
    have HCC := AsideR.mk hcc
    have hcv : chunkV (some ad) len n x.1 = .slice (some (ad.add o)) c c := by unfold chunkV; rw [ho, hcc]; rfl
    rw [ho] at hxl
    have hc1 : 1 ≤ c := by omega
    have hc3 : o + c ≤ len := by omega
    have hc5 : c ≤ 1000 := by omega
    have hc4 : ¬ ((c : Int) = 0) := by omega
    have hc6 : ¬ (c = 0) := by omega
    have hcells : ∀ j, j < c → W.cell? ((ad.add o).add j) = some (.int .i64 (rd l0 ((o + j : Nat) : Int))) := fun j hj => by
      obtain ⟨ad', e, hcl⟩ := HR.out.2.2 (by have := HLn.out; omega)
      injection e with e
      subst e
      have h := hcl (o + j) (by have := HLn.out; omega)
      rw [Go.Addr.add_add]
      unfold rd
      rw [Int.toNat_natCast]
      exact (hB.cell (World.block_lt_of_cell? w1 _ h)).trans h
    have HCELL := AsideR.mk hcells
    have hinfo : ((Try.prog).info? 3).map (fun i => (i.zero, i.size, i.bytes)) = some (some (.int .i64 0), 1, 8) := by kernel_rfl
    have HINFO := AsideR.mk hinfo
    have hpl : pre.length < len := hlt
    have HROW := AsideR.mk hrow
    have HB := AsideR.mk hB
    have HV := AsideR.mk hv
    clear hcells ho hcc hinfo hrow hB hv
    dsimp only
    rw [hcv]
    gi_wp2
    gi_loopw [9, 25] (fun s i wr => ∃ j : Nat, j ≤ c ∧ s = .int .i64 (sumTo l0 o j) ∧ i = .int .i64 (j : Int) ∧ W = wr) (fun _ i _ => c - (intOf i).toNat)
    case atStart => exact ⟨0, Nat.zero_le _, rfl, rfl, rfl⟩
    case round =>
      obtain ⟨j, hj, rfl, rfl, hw⟩ := hrel
      subst hw
      by_cases hlt2 : j < c
      · have hcell := HCELL.out j hlt2
        have hsu := sumTo_succ l0 o j (by have := HLn.out; omega)
        generalize rd l0 ((o + j : Nat) : Int) = y at hcell hsu
        have HS := AsideR.mk hsu
        clear hsu
        gi_wp2
        go_roundw
        case rel => exact ⟨j + 1, by omega, by rw [HS.out], by go_num, by first | rfl | trivial⟩
        case measure => simp [intOf]; omega
      · obtain rfl : c = j := by omega
        gi_wp2
        have hinfo := HINFO.out
        have hrow := HROW.out
        have hB := HB.out
        have hv := HV.out
        refine startR_ (by kernel_rfl) (fun ⟨_, _, h⟩ => h) (n := 8) (S := fun w' => w'.cell? ⟨w1.heap.size, 0, none⟩ = some v) (ds := [6, 7]) #[false, false, false, false, false, false, false, false] (by kernel_rfl) rfl rfl (hc) (fun hHeld => ?_)
        refine pure_ (i := 1) (N := some 34) (v := ?_) (a' := ?_) #[false, true, false, false, false, false, false, false] rfl rfl (by kernel_rfl) (fun _ _ _ h => h) (Or.inl ⟨by rfl, ?_⟩) ?_ ?_
        rotate_left
        · intro w'
          go_simp
          with_reducible rfl
        rotate_left
        · simp only [Act.put, List.setIfInBounds_toArray, List.set_cons_zero, List.set_cons_succ, i64_w, i32_w]
          rfl
        refine pure_ (i := 2) (N := some 35) (v := ?_) (a' := ?_) #[false, true, true, false, false, false, false, false] rfl rfl (by kernel_rfl) (fun _ _ _ h => h) (Or.inl ⟨by rfl, ?_⟩) ?_ ?_
        rotate_left
        · intro w'
          go_simp
          with_reducible rfl
        rotate_left
        · simp only [Act.put, List.setIfInBounds_toArray, List.set_cons_zero, List.set_cons_succ, i64_w, i32_w]
          rfl
        refine pure_ (i := 3) (N := some 36) (v := ?_) (a' := ?_) #[false, true, true, true, false, false, false, false] rfl rfl (by kernel_rfl) (fun _ _ _ h => h) (Or.inl ⟨by rfl, ?_⟩) ?_ ?_
        rotate_left
        · intro w'
          go_simp
          with_reducible rfl
        rotate_left
        · simp only [Act.put, List.setIfInBounds_toArray, List.set_cons_zero, List.set_cons_succ, i64_w, i32_w]
          rfl
        refine pure_ (i := 4) (N := some 37) (v := ?_) (a' := ?_) #[false, true, true, true, true, false, false, false] rfl rfl (by kernel_rfl) (fun _ _ _ h => h) (Or.inl ⟨by rfl, ?_⟩) ?_ ?_
        rotate_left
        · intro w'
          go_simp
          with_reducible rfl
        rotate_left
        · simp only [Act.put, List.setIfInBounds_toArray, List.set_cons_zero, List.set_cons_succ, i64_w, i32_w]
          rfl
        refine take_ (i := 0) (N := some 33) (v := ?_) (a' := ?_) #[true, true, true, true, true, false, false, false] rfl rfl (by kernel_rfl) (fun _ _ _ h => h) (Or.inl ⟨by rfl, ?_⟩) hHeld ?_ ?_
        rotate_left
        · intro w' s0
          go_simp
          with_reducible rfl
        rotate_left
        · simp only [Act.put, List.setIfInBounds_toArray, List.set_cons_zero, List.set_cons_succ, i64_w, i32_w]
          rfl
        refine one_ (i := 5) (N := some 38) #[true, true, true, true, true, true, false, false] rfl rfl (by kernel_rfl) (by decide) (fun K hK => ?_)
        refine value_ (w1 := ?_) (v := ?_) (by rfl) rfl ?_ ?_
        rotate_left 2
        · go_simp
          constructor
          · rfl
          · rfl
        refine hK.out _ _ ((hv.alloc _).cell) (fun hHeld => ?_)
        clear hK K
        refine norm_ (a' := ?_) ?_ ?_
        rotate_left
        · show Act.put _ (some 38) _ = _
          simp only [Act.put, List.setIfInBounds_toArray, List.set_cons_zero, List.set_cons_succ, i64_w, i32_w]
          rfl
        refine last_ (i := 6) (N := some 39) #[true, true, true, true, true, true, true, false] rfl rfl (by kernel_rfl) (by decide) (fun K hK => ?_)
        rw [show (W.alloc (.cells #[.int .i64 (wrap64 (Int.tdiv (sumTo l0 o c) (c : Int)))] 3)).drew = W.drew.alloc (.cells #[.int .i64 (wrap64 (Int.tdiv (sumTo l0 o c) (c : Int)))] 3) from rfl]
        refine step_append_cells (w0 := W.drew) (w1.heap.size + 3) (by rfl) (.tmp 33) (.tmp 38) 22 3 (.int .i64 0) 1 8 rfl Try.underlying22 hinfo rfl (by decide) (by decide) v pre.length _ [.int .i64 (wrap64 (Int.tdiv (sumTo l0 o c) (c : Int)))] rfl rfl rfl (by simp [Value.oneCell']) hrow (Below.refl _ _) hW3 (by omega) ?_
        intro v1 w2 ho1 hb1 hg1 hat1
        obtain ⟨g1, cap1, rfl⟩ := ownsRow_succ ho1
        have hgW : W.grownBy w2 v.ownBlock := ⟨hg1.os, hg1.tape, hg1.output, hg1.size, hg1.block⟩
        have hv1 : Boxed w2 w1.heap.size 22 v := hv.kept hgW (hv.not_row (by decide) hrow)
        have c1 := hv1.cell
        have f1 := hv1.frozen
        refine hK.out _ _ ?_
        clear hK K
        refine norm_ (a' := ?_) ?_ ?_
        rotate_left
        · show Act.put _ (some 39) _ = _
          simp only [Act.put, List.setIfInBounds_toArray, List.set_cons_zero, List.set_cons_succ, i64_w, i32_w]
          rfl
        refine last_ (i := 7) (N := none) #[true, true, true, true, true, true, true, true] rfl rfl (by kernel_rfl) (by decide) (fun K hK => ?_)
        refine skip_ (w1 := ?_) (by rfl) rfl ?_ ?_
        rotate_left
        · go_simp
          rfl
        refine hK.out _ _ ?_
        clear hK K
        refine done_ (by kernel_rfl) ?_
        have hne : ∀ k, k < w1.heap.size + 3 → some k ≠ v.ownBlock := fun k hk e => by have := own_base hrow k e.symm; omega
        have hkeep : ∀ k, k < w1.heap.size + 3 → k ≠ w1.heap.size → (w2.setCell ⟨w1.heap.size, 0, none⟩ (.slice (some ⟨g1, 0, none⟩) (pre.length + 1) cap1)).heap[k]? = W.heap[k]? := fun k hk hk0 =>
          (Below.heap_setCell _ _ _ k (by simpa using hk0)).trans (hgW.block k (by omega) (hne k hk))
        gi_wp2
        refine ⟨?_, ?_, ?_⟩
        · refine KeepsOthers.from (KeepsOthers.trans (KeepsOthers.of_grownBy hgW ?_) (KeepsOthers.setCell _ _ _)) _
          intro j o ej hj
          rcases hrow.2 with ⟨rfl, _⟩ | ⟨g, cap, cur, rfl, _, hgb, _⟩
          · simp [Value.ownBlock] at ej
          · obtain rfl : g = j := by simpa [Value.ownBlock] using ej
            rw [hgb] at hj; cases hj; rfl
        · refine ⟨?_, ?_⟩ <;> (unfold World.cell?; dsimp only; rw [hkeep _ (by omega) (by omega)])
        · refine ⟨_, hv1.set _, ?_, ?_, ?_⟩
          · have hth : thinAt l0 n x.1 = wrap64 (Int.tdiv (sumTo l0 o c) (c : Int)) := by unfold thinAt; rw [HLn.out, HO.out, HCC.out]
            have := (ho1.kept (grownBy_setCell' w2 w1.heap.size (.slice (some ⟨g1, 0, none⟩) (pre.length + 1) cap1)) (.inr (hv1.not_row (by decide) ho1).symm))
            simpa [hth] using this
          · refine Below.setCell (hB.grown hgW ?_ ?_) (p := ⟨w1.heap.size, 0, none⟩) (Nat.le_refl _) _
            · exact hB.size
            · intro k e; have := own_base hrow k e; omega
          · have h2 := hgW.size
            have h3 : (w2.setCell ⟨w1.heap.size, 0, none⟩ (.slice (some ⟨g1, 0, none⟩) (pre.length + 1) cap1)).heap.size = w2.heap.size := by simp
            rw [h3]
            exact Nat.le_trans hW3 h2
  case done =>
    rintro D ys W hD ⟨K, hK1, hK2⟩ ⟨v, hv, hrow, hB, hW3⟩ hK
    have hKN : K = (len + n - 1) / n := by
      have h2 : ∀ q, q < K → q * n < len := fun q hq => by
        have hm : q ∈ List.range K := List.mem_range.2 hq
        rw [← hK1] at hm
        obtain ⟨z, _, e⟩ := List.mem_map.1 hm
        rw [← e]
        exact z.2
      refine (Nat.div_eq_of_lt_le ?_ ?_).symm
      · rcases Nat.eq_zero_or_pos K with h0 | h0
        · rw [h0]; omega
        · have := h2 (K - 1) (by omega)
          have e : K * n = (K - 1) * n + n := by rw [← Nat.succ_mul]; congr 1; omega
          omega
      · rw [Nat.succ_mul]; omega
    have hys : (ys.map fun x => thinAt l0 n x.1) = thins l0 n := by
      unfold thins
      rw [HLn.out, ← hKN, ← hK1, List.map_map]; rfl
    have hyl : ys.length = (thins l0 n).length := by rw [← hys, List.length_map]
    rw [hys, hyl] at hrow
    have hR : Kd.R (Kd.int .i64) 3 W (w1.heap.size + 3) (fun _ => True) v (thins l0 n) := Kd.R_of_own hrow (fun _ _ => trivial)
    obtain ⟨A1, c1, rfl, hle1, hC⟩ := Kd.R_reads hR
    have HRow := AsideR.mk hrow
    have HB := AsideR.mk hB
    have hc := hv.cell
    clear hC hrow hB hR hv hys hyl hK1 hK2
    generalize hL : thins l0 n = L at *
    generalize hnL : L.length = nL at *
    have HN := AsideR.mk hnL
    have HL2 := AsideR.mk hL
    clear hnL hL
    gi_wp2
    refine ⟨by simp, .inl ⟨_, _, rfl, run_takeDeferred hK, ?_⟩⟩
    have hr2 : (W.putObj D (.deferred none)).ownsRow (w1.heap.size + 3) 3 1 (.slice A1 nL c1) nL (L.map (Value.int .i64)) := ownsRow_putObj HRow.out _ hK rfl
    have hbel : Below w1.heap.size w1 (W.putObj D (.deferred none)) := HB.out.trans (belowK_b (w := w1) (Nat.le_refl _) W D _ _ (by have := HSZ.out; omega) hK rfl rfl)
    refine ⟨_, results_tmp2 rfl _ _ _, .slice A1 nL c1, rfl, ?_, below_step HD.out hbel⟩
    rw [HL2.out]
    exact Kd.R_of_own (by rw [HN.out]; exact own_weaken hr2 (Nat.le_trans HD.out.size (Nat.le_add_right _ _))) (fun _ _ => trivial)
  case stop =>
    rintro D c pre W _ _ h _
    exact h.elim
def mix_Thin.f (k : Nat) (l0 : List Int) (a1 : Int) : Option (List Int × Int) := (mix_within.f a1 1 1000).bind fun t => (mix_check.f k l0 t).bind fun e => if e = 0 then some (thins l0 a1.toNat, 0) else some ([], e)
theorem mix_Thin.mono : ∀ a0 a1 k, LeO (mix_Thin.f k a0 a1) (mix_Thin.f (k + 1) a0 a1) := by
  intro a0 a1 k
  unfold mix_Thin.f
  refine LeO.bind (LeO.refl _) (fun t => LeO.bind (mix_check.mono _ _ _) (fun e => LeO.refl _))
theorem check_zero {k : Nat} {l : List Int} {t : Bool} (h : mix_check.f k l t = some 0) : t = true ∧ l.length ≤ 65536 := by
  have hj : ∀ b, mix_check.j0 k l b = some 0 → b = false := fun b hb => by
    cases k with
    | zero => simp [mix_check.j0] at hb
    | succ k =>
      simp only [mix_check.j0] at hb
      cases b
      · rfl
      · simp at hb
  unfold mix_check.f at h
  cases t
  · rw [if_neg (by decide)] at h
    exact absurd (hj _ h) (by decide)
  · rw [if_pos rfl] at h
    have := of_decide_eq_false (hj _ h)
    exact ⟨rfl, by omega⟩
set_option maxHeartbeats 4000000 in
theorem mix_Thin.calls (k : Nat) (A0 : Option Addr) (c0 : Nat) (l0 : List Int) (a1 : Int) (r1 : List Int) (r2 : Int) (w : World) (hr0 : Kd.C (Kd.int .i64) w A0 l0.length l0) (hc0 : l0.length ≤ c0) (h : mix_Thin.f k l0 a1 = some (r1, r2)) :
    Calls Try.prog 19 #[.slice A0 l0.length c0, .int .i64 a1] w fun e w' => ∃ v0_ : Value, e = .returned (.tuple #[v0_, .int .i64 r2]) ∧ Kd.R (Kd.int .i64) 3 w' w.heap.size (fun _ => True) v0_ r1 ∧ Below w.heap.size w w' := by
  unfold mix_Thin.f at h
  obtain ⟨t, ht, h1⟩ := Option.bind_eq_some_iff.mp h
  clear h
  obtain ⟨e, he, h3⟩ := Option.bind_eq_some_iff.mp h1
  clear h1
  by_cases h0 : e = 0
  · subst h0
    rw [if_pos rfl] at h3
    injection h3 with h3
    injection h3 with h4 h5
    obtain ⟨rfl, hl⟩ := check_zero he
    have hn : 1 ≤ a1 ∧ a1 ≤ 1000 := by
      unfold mix_within.f at ht
      split at ht
      · have := of_decide_eq_true (Option.some.inj ht)
        omega
      · cases ht
    have := callsIn_wide.1 (thin_in k A0 c0 l0 a1.toNat w hr0 hc0 hl (by omega) he)
    rw [show ((a1.toNat : Nat) : Int) = a1 by omega] at this
    rw [← h4, ← h5]
    exact this
  · rw [if_neg h0] at h3
    injection h3 with h3
    injection h3 with h4 h5
    subst h4 h5
    have HW := Aside0.mk (fun W => mix_within.calls a1 1 1000 t W ht)
    have HK := Aside0.mk (fun (W : World) (hW : Below w.heap.size w W) => mix_check.calls k A0 c0 l0 t e W (Kd.C_below hr0 hW) hc0 he)
    have hb : ((e : Int) == 0) = false := beq_eq_false_iff_ne.mpr h0
    have hb2 : ((e : Int) != 0) = true := bne_iff_ne.mpr h0
    clear hr0 hc0 ht he
    generalize l0.length = len at *
    go_enter Try.func19, Try.ntmps19
    go_wp2_with (first | (go_at_call 31; refine (HW.out _).mono ?_; rintro e wa ⟨rfl, hd⟩; have HDa := Aside0.mk hd.below; clear hd) | (go_at_call 22; refine (HK.out _ HDa.out).mono ?_; rintro e w1 ⟨rfl, hd⟩; have HD := Aside0.mk (below_step HDa.out hd.below); clear hd))
    go_ret2
    exact ⟨_, rfl, Kd.R_nil _ _ _ _ _, HD.out⟩

end Go.Proofs.Ytnfhfmimeaeoiaa.HM
