/- What the Go functions come to, as plain Lean functions, and that their calls do just that: written by this project's own program (hp.sh); conditions: those of each theorem. -/
import Derived.Test.YtlbhcbfdiojbhaaHLx0
import Derived.Test.YtlbhcbfdiojbhaaHLx7
import Derived.Test.YtlbhcbfdiojbhaaHLx12
import Derived.Test.YtlbhcbfdiojbhaaHLx13
import Derived.RangeFuncNested
import Derived.RangeFuncBound
import Derived.RangeFuncCalls
import Derived.RangeFuncLeaves
import Derived.RangeFuncBox
import Derived.Shelf.Abstract
import Derived.Shelf.AbstractIn
import Derived.Shelf.RegionOpen
import Derived.WalkKit
import Derived.OwnWalkIn
import Derived.TacticsInMore
import Derived.LoopNIn
import Derived.LoopIn
import Derived.Maps.AppendAt
namespace Go.Proofs.Ytlbhcbfdiojbhaa.HL
open Go.RowKit Go.Proofs.YtlbhcbfdiojbhaaW.PrintWords Go.Proofs.YtlbhcbfdiojbhaaW.PrintLast Go.Proofs.YtlbhcbfdiojbhaaW.PrintMore
attribute [local go_sem] max2_int min2_int max_two min_two max_three min_three max_four min_four   -- for this text's walks alone
set_option linter.unusedVariables false
set_option linter.unusedSimpArgs false

/-! ### ladder_Read: function 17, by hand -/
open Go.Shelf
attribute [local go_sem] Oper.semAt_some
/-! In a round, at the wide fence: a region is walked by the plain steps. -/
theorem rowsIn_of_rows {n : Nat} {P : Program} {row : String} {args : Array Value} {w : World} {R : Value → World → Prop} {l : Nat} (h : Rows P row args w R) : RowsIn (Fence.wide.inRound l) n P row args w R :=
  fun c cs _ => let ⟨v, w', r, s⟩ := h c cs; ⟨v, w', r, stepsIn_wide.2 s⟩
theorem uponIn_of_upon {l n : Nat} {P : Program} {o : Oper} {a : Act} {next : Act → World → Prop} {Q : Exit → Act → World → Prop} {r : Result Next} (h : o.upon P a next Q r) : o.uponIn (Fence.wide.inRound l) n P a next Q r := by
  cases r with
  | ok nx w' =>
    cases nx with
    | value v => exact h
    | skip => exact h
    | defer d => exact h
    | enter f args => exact ⟨(fun h' => by cases h'), CallsIn.inRound l (callsIn_wide.2 h)⟩
    | row r args => exact ⟨(fun h' => by cases h'), rowsIn_of_rows h⟩
    | _ => exact h.elim
  | halt hh w' => cases hh <;> exact h
def noDefer (ops : Array Oper) : Bool := ops.all fun o => match o.op with | .defer _ => false | _ => true
theorem noDefer_at {ops : Array Oper} (h : noDefer ops = true) {i : Nat} {o : Oper} (ho : ops[i]? = some o) : ∀ c, o.op ≠ .defer c := by
  intro c e
  have := Array.all_eq_true_iff_forall_mem.1 h o (Array.mem_of_getElem? ho)
  rw [e] at this
  cases this
theorem wpAnyIn_of_wpAny {l m : Nat} {P : Program} {md : Region.Mode} {ops : Array Oper} {Q : Exit → Act → World → Prop} (hd : noDefer ops = true) (hQ : ¬ LetsOut Q) : ∀ (fuel : Nat) (listed : Array Bool) (a : Act) (w : World), wpAny P md ops Q fuel listed a w → wpAnyIn (Fence.wide.inRound l) m P md ops Q fuel listed a w
  | 0, _, _, _, h => h
  | fuel + 1, listed, a, w, h => by
    refine ⟨h.1, fun i hi => ?_⟩
    have h2 := h.2 i hi
    unfold wpOp at h2
    unfold wpOpIn
    cases ho : ops[i]? with
    | none => rw [ho] at h2; exact wpAnyIn_of_wpAny hd hQ fuel _ _ _ h2
    | some o =>
      rw [ho] at h2
      dsimp only at h2 ⊢
      by_cases hw : Region.wanted o (yielded ops a.tmps) = true
      · rw [if_pos hw] at h2 ⊢
        rcases h2 with h2 | h2
        · refine ⟨fun _ _ => trivial, ?_⟩
          rw [show (Fence.wide.inRound l).round = some l from rfl, Oper.semAt_some l _ _ (noDefer_at hd ho)]
          exact uponIn_of_upon (Oper.wp_mono (fun a w h => wpAnyIn_of_wpAny hd hQ fuel _ a w h) h2)
        · exact absurd h2.2 hQ
      · rw [if_neg hw] at h2 ⊢
        exact ⟨fun _ _ => trivial, wpAnyIn_of_wpAny hd hQ fuel _ _ _ h2⟩
theorem startR_ {P : Program} {ops : Array Oper} {Q : Exit → Act → World → Prop} {S : World → Prop} {ds : List Nat} {id n r m : Nat} {a : Act} {w : World} (hd : noDefer ops = true) (hQ : ¬ LetsOut Q) (l : Array Bool) (hm : P.follows .mixedOrders = true) (hn : ops.size = n) (hl : Array.replicate n false = l) (hS : S w.drew)
    (h : S w.drew → wpAnyLast P .any ops Q S ds n l a w.drew) : (Code.region id ops true).wpIn (Fence.wide.inRound r) m P Q a w := by
  subst hn
  subst hl
  exact wpIn_region_any hm (wpAnyIn_of_wpAny hd hQ _ _ _ _ (wpAny_of_last _ _ _ _ (h hS)))
structure AsideR (p : Prop) : Prop where mk :: (out : p)
def sizeAt (l : List Int) (k : Nat) : Int := (ladder_size.f [rd l ((k * 3 : Nat) : Int), rd l ((k * 3 + 1 : Nat) : Int), rd l ((k * 3 + 2 : Nat) : Int)]).getD 0
def sizesOf (l : List Int) (n : Nat) : List Int := (List.range n).map (sizeAt l)
theorem size_some (l : List Int) (k : Nat) : ladder_size.f [rd l ((k * 3 : Nat) : Int), rd l ((k * 3 + 1 : Nat) : Int), rd l ((k * 3 + 2 : Nat) : Int)] = some (sizeAt l k) := by
  unfold sizeAt ladder_size.f
  simp
theorem size_at_calls (A : Addr) (l0 : List Int) (k : Nat) (w W : World) (hr : ReadsInt w .u8 (some A) l0.length l0) (hb : Below w.heap.size w W) (hk : k * 3 + 3 ≤ l0.length) :
    Calls Try.prog 29 #[.slice (some (A.add (k * 3))) 3 3] W fun e w' => e = .returned (.int .i64 (sizeAt l0 k)) ∧ Drawn0 W w' := by
  have hR : ReadsInt W .u8 (some (A.add (k * 3))) 3 [rd l0 ((k * 3 : Nat) : Int), rd l0 ((k * 3 + 1 : Nat) : Int), rd l0 ((k * 3 + 2 : Nat) : Int)] := by
    refine ⟨rfl, by decide, fun _ => ⟨_, rfl, fun j hj => ?_⟩⟩
    obtain ⟨ad, e, hc⟩ := hr.2.2 (by omega)
    injection e with e
    subst e
    have h := hc (k * 3 + j) (by omega)
    have h' := (hb.cell (World.block_lt_of_cell? w _ h)).trans h
    rw [Go.Addr.add_add]
    rw [h']
    match j, hj with
    | 0, _ => rfl
    | 1, _ => rfl
    | 2, _ => rfl
  have hs := size_some l0 k
  generalize rd l0 ((k * 3 : Nat) : Int) = x0 at hR hs
  generalize rd l0 ((k * 3 + 1 : Nat) : Int) = x1 at hR hs
  generalize rd l0 ((k * 3 + 2 : Nat) : Int) = x2 at hR hs
  generalize A.add (k * 3) = ad at hR ⊢
  generalize sizeAt l0 k = y at hs ⊢
  have hC : Kd.C (Kd.int .u8) W (some ad) [x0, x1, x2].length [x0, x1, x2] := Kd.C_of_reads (d := (0 : Int)) (h1 := fun _ => rfl) hR
  exact ladder_size.calls (some ad) 3 [x0, x1, x2] y W hC (Nat.le_refl 3) hs
theorem kc_put (W : World) (l : Nat) (o' : Obj) {b : Nat} (h : b < l) : (W.putObj l o').cell? ⟨b, 0, none⟩ = W.cell? ⟨b, 0, none⟩ := by
  have hne : ¬ l = b := by omega
  simp [World.putObj, World.cell?, Array.getElem?_setIfInBounds, hne]
def readI (l0 : List Int) (N : Nat) (w : World) (pre : List (ChunkNo (3 * N) 3)) (W : World) : Prop :=
  ∃ v, Boxed W w.heap.size 22 v ∧ W.ownsRow (w.heap.size + 3) 3 1 v pre.length ((pre.map fun x => sizeAt l0 x.1).map (Value.int .i64)) ∧ Below w.heap.size w W ∧ w.heap.size + 3 ≤ W.heap.size
theorem readI_own (l0 : List Int) (N : Nat) (w : World) (B : Nat) (hB : w.heap.size ≤ B) : OwnFrom B (readI l0 N w) := by
  intro pre X Y row hs hg hr
  obtain ⟨v, hv, hrow, hb, h3⟩ := hs
  refine ⟨v, hv.kept hg (fun e' => ?_), hrow.kept hg ?_, hb.grown hg hb.size (fun k e => Nat.le_trans hB (hr k e).1), Nat.le_trans h3 hg.size⟩
  · obtain ⟨_, o, ho, hc⟩ := hr _ e'.symm
    rw [show X.heap[w.heap.size]? = _ from hv] at ho; cases ho; cases hc
  · rcases hrow.2 with ⟨rfl, _⟩ | ⟨g, cap, cur, rfl, _, hgb, _⟩
    · exact .inl rfl
    · refine .inr fun e' => ?_
      obtain ⟨_, o, ho, hc⟩ := hr g (by simpa [Value.ownBlock] using e'.symm)
      rw [hgb] at ho; cases ho; cases hc
set_option maxRecDepth 100000 in
set_option maxHeartbeats 4000000 in
theorem read_in (A : Option Addr) (c0 : Nat) (l0 : List Int) (N : Nat) (w : World) (hR : ReadsInt w .u8 A l0.length l0) (hc0 : l0.length ≤ c0) (hN : N ≤ 65536) (hlen : 3 * N ≤ l0.length) (r1 : List Int) (r2 : Int) (hres : AsideR ((ladder_Good.f (sizesOf l0 N) = some true ∧ r1 = sizesOf l0 N ∧ r2 = 0) ∨ (ladder_Good.f (sizesOf l0 N) = some false ∧ r1 = [] ∧ r2 = 12))) :
    CallsIn Fence.wide 9 Try.prog 17 #[.slice A l0.length c0, .int .i64 (N : Int)] w fun e w' => ∃ v0_ : Value, e = .returned (.tuple #[v0_, .int .i64 r2]) ∧ Kd.R (Kd.int .i64) 3 w' w.heap.size (fun _ => True) v0_ r1 ∧ Below w.heap.size w w' := by
  have hF : ∀ f, Fence.wide.fn f := fun _ => trivial
  have hro : Fence.wide.round = none := rfl
  have HR := AsideR.mk hR
  have HL := AsideR.mk hlen
  have hbig : l0.length ≤ 9223372036854775807 := hR.2.1
  clear hR
  obtain ⟨len, hlen2⟩ : ∃ len, l0.length = len := ⟨_, rfl⟩
  have HLn := AsideR.mk hlen2
  rw [hlen2] at hbig hlen hc0 ⊢
  clear hlen2
  have hz0 : ¬ ((N : Int) < 0) := by omega
  have hz1 : ¬ ((N : Int) > 65536) := by omega
  have hz2 : ¬ ((len : Int) < 3 * (N : Int)) := by omega
  refine callsIn_of_wp_marks Try.func17 rfl (hF _) ?_ hro
  simp only [Try.ntmps17, List.size_toArray, List.length_cons, List.length_nil, Nat.reduceAdd, Nat.reduceSub, Array.replicate_succ, Array.replicate_zero, List.push_toArray, List.append_toArray, List.nil_append, List.cons_append]
  gi_wp2_with (gi_at_call 28; refine (chunk_in Fence.wide 8 (hF _) hro _ _ _ 3 (by decide) _).mono ?_; rintro e w' ⟨rfl, rfl⟩)
  obtain ⟨i0, hi, hz0', hz1', hz2'⟩ := info_parts (show ((Try.prog).info? 3).map (fun i => (i.zero, i.size, i.bytes)) = some (some (.int .i64 0), 1, 8) by kernel_rfl)
  have bO := (Boxed.new w 22 (.slice none 0 0)).alloc (.cells #[.slice A (3 * N) c0] 36)
  have bS := (Boxed.new (w.alloc (.cells #[.slice none 0 0] 22)) 36 (.slice A (3 * N) c0)).alloc (.cells #[.int .i64 3] 3)
  have bN := Boxed.new ((w.alloc (.cells #[.slice none 0 0] 22)).alloc (.cells #[.slice A (3 * N) c0] 36)) 3 (.int .i64 3)
  replace bO := bO.alloc (.cells #[.int .i64 3] 3)
  have hB0 := (((Below.refl w.heap.size w).alloc (Nat.le_refl _) (.cells #[.slice none 0 0] 22)).alloc (by simp) (.cells #[.slice A (3 * N) c0] 36)).alloc (by simp; omega) (.cells #[.int .i64 3] 3)
  simp only [World.size_alloc, Nat.add_assoc, Nat.reduceAdd] at bO bS bN
  simp only [Nat.add_assoc, Nat.reduceAdd]
  generalize hw0 : ((w.alloc (.cells #[.slice none 0 0] 22)).alloc (.cells #[.slice A (3 * N) c0] 36)).alloc (.cells #[.int .i64 3] 3) = w0 at *
  have hsz : w0.heap.size = w.heap.size + 3 := by rw [← hw0]; simp
  clear hw0
  have hle : w.heap.size ≤ w0.heap.size := by rw [hsz]; exact Nat.le_add_right _ _
  have HSZ := AsideR.mk hsz
  have hA : 0 < 3 * N → ∃ ad, A = some ad := fun h => by
    obtain ⟨ad, e, _⟩ := HR.out.2.2 (by have := HL.out; omega)
    exact ⟨ad, e⟩
  have hN3 : ((3 : Nat) : Int) = 3 := rfl
  have cS := bS.cell
  have cN := bN.cell
  rw [← hN3] at cN
  have hseq := chunk_stops Fence.wide 8 (hF _) hro (by omega) (w.heap.size + 1) (w.heap.size + 2) c0 (3 * N) 3 A hA (by decide) (by omega) (by omega) w0 (by omega) (by omega) cS cN
  refine wpIn_rangeFunc_ownG hro (by decide : 1 ≤ 9) (gf := 32) (lb := #[.pointer (some ⟨w.heap.size + 1, 0, none⟩), .pointer (some ⟨w.heap.size + 2, 0, none⟩)]) rfl (hF _) (enters_of Try.func32 (by kernel_rfl) rfl)
    hseq (fun h h' => h.trans h') (fun W l o o' hl ho hc hwk => ⟨kc_put W l o' (by omega), kc_put W l o' (by omega)⟩) (Below.refl _ _) (fun _ => rfl)
    (readI l0 N w)
    (fun _ _ _ => False)
    ?hI
    (fun _ _ _ _ _ hs _ _ => hs)
    ?h0
    (fun x => { tmps := #[.slice A len c0, .int .i64 (N : Int), undef, undef, .slice none 0 0, .int .i64 0, .pointer (some ⟨w.heap.size, 0, none⟩), chunkV A (3 * N) 3 x.1, .bool false, .int .i64 (N : Int), .bool false, .bool false, .int .i64 (N : Int), .bool false, .bool false, .bool false, .slice A len c0, .int .i64 (len : Int), .int .i64 (N : Int), .int .i64 (3 * (N : Int)), .bool false, .slice A len c0, .int .i64 (N : Int), .int .i64 (3 * (N : Int)), .slice A (3 * N) c0, .func (.func 32) #[] #[.pointer (some ⟨w.heap.size + 1, 0, none⟩), .pointer (some ⟨w.heap.size + 2, 0, none⟩)], chunkV A (3 * N) 3 x.1, undef, undef, undef, undef, undef, undef, undef, undef, undef], defers := [] }) ?assign ?body ?done ?stop
  case hI => exact readI_own l0 N w _ hle
  case h0 => exact ⟨_, bO, World.ownsRow_nil _ _ _ _, hB0, by omega⟩
  case assign =>
    intro l x W K hK
    gi_wp2
    exact hK
  case body =>
    rintro l pre x W ⟨v, hv, hrow, hB, hW3⟩ hlt
    have hc := hv.cell
    obtain ⟨ad, rfl⟩ := hA (by omega)
    have hxl : x.1 * 3 < 3 * N := x.2
    have hx : x.1 * 3 + 3 ≤ l0.length := by have := HL.out; omega
    have hcv : chunkV (some ad) (3 * N) 3 x.1 = .slice (some (ad.add (x.1 * 3))) 3 3 := by unfold chunkV; rw [show min 3 (3 * N - x.1 * 3) = 3 by omega]; rfl
    have hinfo : ((Try.prog).info? 3).map (fun i => (i.zero, i.size, i.bytes)) = some (some (.int .i64 0), 1, 8) := by kernel_rfl
    have ownD : ∀ q : Nat, (W.drewN q).ownsRow (w.heap.size + 3) 3 1 v pre.length ((pre.map fun x => sizeAt l0 x.1).map (Value.int .i64)) := fun q => hrow
    have boxD : ∀ q : Nat, Boxed (W.drewN q) w.heap.size 22 v := fun q => hv
    have hpl : pre.length < 3 * N := hlt
    dsimp only
    rw [hcv]
    refine wpIn_block ?_
    have hQ : ¬ LetsOut (Exit.inBlock 2 (ownPostG w0.heap.size (KC (w.heap.size + 1) (w.heap.size + 2)) (readI l0 N w) (fun _ _ _ => False) (pre ++ [x]) W)) := fun ⟨_, _, h⟩ => h
    refine startR_ (by kernel_rfl) hQ (n := 6) (S := fun w' => w'.cell? ⟨w.heap.size, 0, none⟩ = some v) (ds := [4, 5]) #[false, false, false, false, false, false] (by kernel_rfl) rfl rfl (hc) (fun hHeld => ?_)
    refine pure_ (i := 1) (N := some 28) (v := ?_) (a' := ?_) #[false, true, false, false, false, false] rfl rfl (by kernel_rfl) (fun _ _ _ h => h) (Or.inl ⟨by rfl, ?_⟩) ?_ ?_
    rotate_left
    · intro w'
      go_simp
      with_reducible rfl
    rotate_left
    · simp only [Act.put, List.setIfInBounds_toArray, List.set_cons_zero, List.set_cons_succ, i64_w, i32_w]
      rfl
    refine take_ (i := 0) (N := some 27) (v := ?_) (a' := ?_) #[true, true, false, false, false, false] rfl rfl (by kernel_rfl) (fun _ _ _ h => h) (Or.inl ⟨by rfl, ?_⟩) hHeld ?_ ?_
    rotate_left
    · intro w' s0
      go_simp
      with_reducible rfl
    rotate_left
    · simp only [Act.put, List.setIfInBounds_toArray, List.set_cons_zero, List.set_cons_succ, i64_w, i32_w]
      rfl
    refine one_ (i := 2) (N := some 29) #[true, true, true, false, false, false] rfl rfl (by kernel_rfl) (by decide) (fun K hK => ?_)
    refine goes_ Try.func29 (by kernel_rfl) rfl #[.slice (some (ad.add (x.1 * 3))) 3 3] (by rfl) rfl rfl (by simp only [List.map_toArray, List.map_cons, List.map_nil]; rfl) ?_
    with_reducible refine (size_at_calls ad l0 x.1 w _ HR.out (hB.drew) hx).mono ?_
    rintro e w3 ⟨rfl, ⟨⟨q, rfl⟩⟩⟩
    refine ⟨_, rfl, ?_⟩
    refine hK.out _ _ (hc) (fun hHeld => ?_)
    clear hK K
    refine norm_ (a' := ?_) ?_ ?_
    rotate_left
    · show Act.put _ (some 29) _ = _
      simp only [Act.put, List.setIfInBounds_toArray, List.set_cons_zero, List.set_cons_succ, i64_w, i32_w]
      rfl
    refine one_ (i := 3) (N := some 30) #[true, true, true, true, false, false] rfl rfl (by kernel_rfl) (by decide) (fun K hK => ?_)
    refine value_ (w1 := ?_) (v := ?_) (by rfl) rfl ?_ ?_
    rotate_left 2
    · go_simp
      constructor
      · rfl
      · rfl
    refine hK.out _ _ (((boxD (1 + q)).alloc _).cell) (fun hHeld => ?_)
    clear hK K
    refine norm_ (a' := ?_) ?_ ?_
    rotate_left
    · show Act.put _ (some 30) _ = _
      simp only [Act.put, List.setIfInBounds_toArray, List.set_cons_zero, List.set_cons_succ, i64_w, i32_w]
      rfl
    refine last_ (i := 4) (N := some 31) #[true, true, true, true, true, false] rfl rfl (by kernel_rfl) (by decide) (fun K hK => ?_)
    refine step_append_cells (w0 := W.drewN (1 + q)) (w.heap.size + 3) (by rfl) (.tmp 27) (.tmp 30) 22 3 (.int .i64 0) 1 8 rfl Try.underlying22 hinfo rfl (by decide) (by decide) v pre.length _ [.int .i64 (sizeAt l0 x.1)] rfl rfl rfl (by simp [Value.oneCell']) (ownD _) (Below.refl _ _) hW3 (by omega) ?_
    intro v1 w1 ho1 hb1 hg1 hat1
    obtain ⟨g1, cap1, rfl⟩ := ownsRow_succ ho1
    have hv1 : Boxed w1 w.heap.size 22 v := (boxD (1 + q)).kept hg1 (hv.not_row (by decide) hrow)
    have c1 := hv1.cell
    have f1 := hv1.frozen
    refine hK.out _ _ ?_
    clear hK K
    refine norm_ (a' := ?_) ?_ ?_
    rotate_left
    · show Act.put _ (some 31) _ = _
      simp only [Act.put, List.setIfInBounds_toArray, List.set_cons_zero, List.set_cons_succ, i64_w, i32_w]
      rfl
    refine last_ (i := 5) (N := none) #[true, true, true, true, true, true] rfl rfl (by kernel_rfl) (by decide) (fun K hK => ?_)
    refine skip_ (w1 := ?_) (by rfl) rfl ?_ ?_
    rotate_left
    · go_simp
      rfl
    refine hK.out _ _ ?_
    clear hK K
    refine done_ (by kernel_rfl) ?_
    have hgW : W.grownBy w1 v.ownBlock := ⟨hg1.os, hg1.tape, hg1.output, hg1.size, hg1.block⟩
    have hne : ∀ k, k < w.heap.size + 3 → some k ≠ v.ownBlock := fun k hk e => by have := own_base hrow k e.symm; omega
    have hkeep : ∀ k, k < w.heap.size + 3 → k ≠ w.heap.size → (w1.setCell ⟨w.heap.size, 0, none⟩ (.slice (some ⟨g1, 0, none⟩) (pre.length + 1) cap1)).heap[k]? = W.heap[k]? := fun k hk hk0 =>
      (Below.heap_setCell _ _ _ k (by simpa using hk0)).trans (hg1.block k (by show k < W.heap.size; omega) (hne k hk))
    refine ⟨?_, ?_, ?_⟩
    · refine KeepsOthers.from (KeepsOthers.trans (KeepsOthers.of_grownBy hgW ?_) (KeepsOthers.setCell _ _ _)) _
      intro j o ej hj
      rcases hrow.2 with ⟨rfl, _⟩ | ⟨g, cap, cur, rfl, _, hgb, _⟩
      · simp [Value.ownBlock] at ej
      · obtain rfl : g = j := by simpa [Value.ownBlock] using ej
        rw [hgb] at hj; cases hj; rfl
    · refine ⟨?_, ?_⟩ <;> (unfold World.cell?; dsimp only; rw [hkeep _ (by omega) (by omega)])
    · refine ⟨_, hv1.set _, ?_, ?_, ?_⟩
      · have := (ho1.kept (grownBy_setCell' w1 w.heap.size (.slice (some ⟨g1, 0, none⟩) (pre.length + 1) cap1)) (.inr (hv1.not_row (by decide) ho1).symm))
        simpa using this
      · refine Below.setCell (hB.grown hgW ?_ ?_) (p := ⟨w.heap.size, 0, none⟩) (Nat.le_refl _) _
        · exact hB.size
        · intro k e; have := own_base hrow k e; omega
      · have h2 := hg1.size
        have h3 : (w1.setCell ⟨w.heap.size, 0, none⟩ (.slice (some ⟨g1, 0, none⟩) (pre.length + 1) cap1)).heap.size = w1.heap.size := by simp
        rw [h3]
        exact Nat.le_trans hW3 h2
  case done =>
    rintro D ys W hD ⟨K, hK1, hK2⟩ ⟨v, hv, hrow, hB, hW3⟩ hK
    have hKN : K = N := by
      have h2 : ¬ N < K := fun h => by
        have hm : N ∈ List.range K := List.mem_range.2 h
        rw [← hK1] at hm
        obtain ⟨z, _, e⟩ := List.mem_map.1 hm
        have := z.2
        omega
      omega
    subst hKN
    have hys : (ys.map fun x => sizeAt l0 x.1) = sizesOf l0 K := by
      unfold sizesOf
      rw [← hK1, List.map_map]; rfl
    have hyl : ys.length = (sizesOf l0 K).length := by rw [← hys, List.length_map]
    rw [hys, hyl] at hrow
    have hR : Kd.R (Kd.int .i64) 3 W (w.heap.size + 3) (fun _ => True) v (sizesOf l0 K) := Kd.R_of_own hrow (fun _ _ => trivial)
    obtain ⟨A1, c1, rfl, hle1, hC⟩ := Kd.R_reads hR
    rcases hres.out with ⟨hg, h1, h2⟩ | ⟨hg, h1, h2⟩
    all_goals
      have hgood := ladder_Good.calls A1 c1 _ _ W hC hle1 hg
      have HRow := AsideR.mk hrow
      have HB := AsideR.mk hB
      have hc := hv.cell
      subst h2
      have H1 := AsideR.mk h1
      clear hres hg hC hrow hB hR hv hys hyl hK1 hK2 h1
      generalize hL : sizesOf l0 K = L at *
      clear hL
      generalize hn : L.length = nL at *
      have HN := AsideR.mk hn
      clear hn
      gi_wp2_with (gi_at_call 15; refine (callsIn_wide.2 hgood).mono ?_; rintro e w' ⟨rfl, ⟨⟨q, rfl⟩⟩⟩)
      have hKq : (W.drewN q).heap[D]? = some (.deferred (some [])) := hK
      refine ⟨by simp, .inl ⟨_, _, rfl, run_takeDeferred hKq, ?_⟩⟩
      have hr2 : ((W.drewN q).putObj D (.deferred none)).ownsRow (w.heap.size + 3) 3 1 (.slice A1 nL c1) nL (L.map (Value.int .i64)) := ownsRow_putObj (W := W.drewN q) (show (W.drewN q).ownsRow _ _ _ _ _ _ from HRow.out) _ hKq rfl
      have hbel : Below w.heap.size w ((W.drewN q).putObj D (.deferred none)) := (pw_below_drewN HB.out q).trans (belowK_b (w := w) (Nat.le_refl _) (W.drewN q) D _ _ (by have := HSZ.out; omega) hKq rfl rfl)
    · refine ⟨_, results_tmp2 rfl _ _ _, .slice A1 nL c1, rfl, ?_, hbel⟩
      rw [H1.out]
      exact Kd.R_of_own (by rw [HN.out]; exact own_weaken hr2 (Nat.le_add_right _ _)) (fun _ _ => trivial)
    · refine ⟨_, results_tmp2 rfl _ _ _, .slice none 0 0, rfl, ?_, hbel⟩
      rw [H1.out]
      exact Kd.R_nil _ _ _ _ _
  case stop =>
    rintro D c pre W _ _ h _
    exact h.elim

def ladder_Read.f (l0 : List Int) (a1 : Int) : Option (List Int × Int) :=
  if a1 < 0 ∨ a1 > 65536 then some ([], 12) else if (l0.length : Int) < 3 * a1 then some ([], 3) else if ladder_Good.f (sizesOf l0 a1.toNat) = some true then some (sizesOf l0 a1.toNat, 0) else some ([], 12)
theorem ladder_Read.calls (A0 : Option Addr) (c0 : Nat) (l0 : List Int) (a1 : Int) (r1 : List Int) (r2 : Int) (w : World) (hr0 : Kd.C (Kd.int .u8) w A0 l0.length l0) (hc0 : l0.length ≤ c0) (h : ladder_Read.f l0 a1 = some (r1, r2)) :
    Calls Try.prog 17 #[.slice A0 l0.length c0, .int .i64 a1] w fun e w' => ∃ v0_ : Value, e = .returned (.tuple #[v0_, .int .i64 r2]) ∧ Kd.R (Kd.int .i64) 3 w' w.heap.size (fun _ => True) v0_ r1 ∧ Below w.heap.size w w' := by
  unfold ladder_Read.f at h
  by_cases h1 : a1 < 0
  · rw [if_pos (.inl h1)] at h
    injection h with h
    injection h with h2 h3
    subst h2 h3
    clear hr0 hc0
    go_enter Try.func17, Try.ntmps17
    go_wp2
    go_ret2
    exact ⟨_, rfl, Kd.R_nil _ _ _ _ _, Below.refl _ _⟩
  by_cases h2 : a1 > 65536
  · rw [if_pos (.inr h2)] at h
    injection h with h
    injection h with h2 h3
    subst h2 h3
    clear hr0 hc0
    have h4 : ¬ a1 < 0 := h1
    go_enter Try.func17, Try.ntmps17
    go_wp2
    go_ret2
    exact ⟨_, rfl, Kd.R_nil _ _ _ _ _, Below.refl _ _⟩
  rw [if_neg (by omega)] at h
  have hR : ReadsInt w .u8 A0 l0.length l0 := Kd.reads_of_C hr0
  have hbig := hR.2.1
  obtain ⟨N, rfl⟩ := Int.eq_ofNat_of_zero_le (show 0 ≤ a1 by omega)
  have hN : N ≤ 65536 := by omega
  by_cases h3 : (l0.length : Int) < 3 * (N : Int)
  · rw [if_pos h3] at h
    injection h with h
    injection h with h4 h5
    subst h4 h5
    clear hr0 hc0 hR
    generalize l0.length = len at h3 hbig ⊢
    have h4 : ¬ ((N : Int) < 0) := by omega
    have h5 : ¬ ((N : Int) > 65536) := by omega
    go_enter Try.func17, Try.ntmps17
    go_wp2
    go_ret2
    exact ⟨_, rfl, Kd.R_nil _ _ _ _ _, Below.refl _ _⟩
  rw [if_neg h3, Int.toNat_natCast] at h
  refine callsIn_wide.1 (read_in A0 c0 l0 N w hR hc0 hN (by omega) r1 r2 ⟨?_⟩)
  by_cases hg : ladder_Good.f (sizesOf l0 N) = some true
  · rw [if_pos hg] at h
    injection h with h
    injection h with h4 h5
    exact .inl ⟨hg, h4.symm, h5.symm⟩
  · rw [if_neg hg] at h
    injection h with h
    injection h with h4 h5
    refine .inr ⟨?_, h4.symm, h5.symm⟩
    cases hb : ladder_Good.f (sizesOf l0 N) with
    | none => cases hb
    | some z => cases z with
      | false => rfl
      | true => exact absurd hb hg

end Go.Proofs.Ytlbhcbfdiojbhaa.HL
