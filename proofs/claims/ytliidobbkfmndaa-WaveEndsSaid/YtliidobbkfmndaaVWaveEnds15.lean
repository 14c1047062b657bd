/- WaveEnds: what the claim's theorem reaches of this seat's texts, part 15, put together by this project's own program (bale.py); conditions: those of each theorem. -/
import Derived.Test.YtliidobbkfmndaaVWaveEnds5
import Derived.Test.YtliidobbkfmndaaVWaveEnds6
import Derived.Test.YtliidobbkfmndaaVWaveEnds13
import Derived.Test.YtliidobbkfmndaaVWaveEnds14
import Derived.RangeFuncNested
import Derived.RangeFuncBound
import Derived.RangeFuncCalls
import Derived.RangeFuncLeaves
import Derived.RangeFuncBox
import Derived.Shelf.Abstract
import Derived.Shelf.AbstractIn
import Derived.Shelf.RegionOpen
import Derived.WalkKit
import Derived.OwnWalkIn
import Derived.TacticsInMore
import Derived.LoopNIn
import Derived.LoopIn
import Derived.Maps.AppendAt
import Derived.Sort.CutIn
import Derived.Laws.BitsLemmas
namespace Go.Proofs.Ytliidobbkfmndaa.HW2
open Go.RowKit Go.Proofs.YtliidobbkfmndaaW.PrintWords Go.Proofs.YtliidobbkfmndaaW.PrintLast Go.Proofs.YtliidobbkfmndaaW.PrintMore
attribute [local go_sem] max2_int min2_int max_two min_two max_three min_three max_four min_four   -- for this text's walks alone
set_option linter.unusedVariables false
set_option linter.unusedSimpArgs false

/-! ### pack_Unpack: function 25, by hand -/
open Go.Shelf
attribute [local go_sem] Oper.semAt_some
/-! In a round, at the wide fence: a region is walked by the plain steps. -/
theorem rowsIn_of_rows {n : Nat} {P : Program} {row : String} {args : Array Value} {w : World} {R : Value → World → Prop} {l : Nat} (h : Rows P row args w R) : RowsIn (Fence.wide.inRound l) n P row args w R :=
  fun c cs _ => let ⟨v, w', r, s⟩ := h c cs; ⟨v, w', r, stepsIn_wide.2 s⟩
theorem uponIn_of_upon {l n : Nat} {P : Program} {o : Oper} {a : Act} {next : Act → World → Prop} {Q : Exit → Act → World → Prop} {r : Result Next} (h : o.upon P a next Q r) : o.uponIn (Fence.wide.inRound l) n P a next Q r := by
  cases r with
  | ok nx w' =>
    cases nx with
    | value v => exact h
    | skip => exact h
    | defer d => exact h
    | enter f args => exact ⟨(fun h' => by cases h'), CallsIn.inRound l (callsIn_wide.2 h)⟩
    | row r args => exact ⟨(fun h' => by cases h'), rowsIn_of_rows h⟩
    | _ => exact h.elim
  | halt hh w' => cases hh <;> exact h
def noDefer (ops : Array Oper) : Bool := ops.all fun o => match o.op with | .defer _ => false | _ => true
theorem noDefer_at {ops : Array Oper} (h : noDefer ops = true) {i : Nat} {o : Oper} (ho : ops[i]? = some o) : ∀ c, o.op ≠ .defer c := by
  intro c e
  have := Array.all_eq_true_iff_forall_mem.1 h o (Array.mem_of_getElem? ho)
  rw [e] at this
  cases this
theorem wpAnyIn_of_wpAny {l m : Nat} {P : Program} {md : Region.Mode} {ops : Array Oper} {Q : Exit → Act → World → Prop} (hd : noDefer ops = true) (hQ : ¬ LetsOut Q) : ∀ (fuel : Nat) (listed : Array Bool) (a : Act) (w : World), wpAny P md ops Q fuel listed a w → wpAnyIn (Fence.wide.inRound l) m P md ops Q fuel listed a w
  | 0, _, _, _, h => h
  | fuel + 1, listed, a, w, h => by
    refine ⟨h.1, fun i hi => ?_⟩
    have h2 := h.2 i hi
    unfold wpOp at h2
    unfold wpOpIn
    cases ho : ops[i]? with
    | none => rw [ho] at h2; exact wpAnyIn_of_wpAny hd hQ fuel _ _ _ h2
    | some o =>
      rw [ho] at h2
      dsimp only at h2 ⊢
      by_cases hw : Region.wanted o (yielded ops a.tmps) = true
      · rw [if_pos hw] at h2 ⊢
        rcases h2 with h2 | h2
        · refine ⟨fun _ _ => trivial, ?_⟩
          rw [show (Fence.wide.inRound l).round = some l from rfl, Oper.semAt_some l _ _ (noDefer_at hd ho)]
          exact uponIn_of_upon (Oper.wp_mono (fun a w h => wpAnyIn_of_wpAny hd hQ fuel _ a w h) h2)
        · exact absurd h2.2 hQ
      · rw [if_neg hw] at h2 ⊢
        exact ⟨fun _ _ => trivial, wpAnyIn_of_wpAny hd hQ fuel _ _ _ h2⟩
theorem startR_ {P : Program} {ops : Array Oper} {Q : Exit → Act → World → Prop} {S : World → Prop} {ds : List Nat} {id n r m : Nat} {a : Act} {w : World} (hd : noDefer ops = true) (hQ : ¬ LetsOut Q) (l : Array Bool) (hm : P.follows .mixedOrders = true) (hn : ops.size = n) (hl : Array.replicate n false = l) (hS : S w.drew)
    (h : S w.drew → wpAnyLast P .any ops Q S ds n l a w.drew) : (Code.region id ops true).wpIn (Fence.wide.inRound r) m P Q a w := by
  subst hn
  subst hl
  exact wpIn_region_any hm (wpAnyIn_of_wpAny hd hQ _ _ _ _ (wpAny_of_last _ _ _ _ (h hS)))
structure AsideR (p : Prop) : Prop where mk :: (out : p)
/-- The samples of so many chunks from one on. -/
def unTakes (k : Nat) (a : Int) (b : Bool) (l : List Int) (n : Nat) : Nat → Nat → Option (List Int)
  | 0, _ => some []
  | c + 1, j => (pack_Form_take.f k a b ((l.drop (j * n)).take n)).bind fun v => (unTakes k a b l n c (j + 1)).bind fun vs => some (v :: vs)
def unStep (ch : Nat) (R : List (List Int)) (i : Nat) (v : Int) : List (List Int) := R.set (i % ch) (R.getD (i % ch) [] ++ [v])
def unGo (ch : Nat) : Nat → List (List Int) → List Int → List (List Int)
  | _, R, [] => R
  | i, R, v :: vs => unGo ch (i + 1) (unStep ch R i v) vs
def unRows (ch : Nat) (vs : List Int) : List (List Int) := unGo ch 0 (List.replicate ch []) vs
theorem unGo_snoc (ch : Nat) (v : Int) : ∀ (vs : List Int) (i : Nat) (R : List (List Int)), unGo ch i R (vs ++ [v]) = unStep ch (unGo ch i R vs) (i + vs.length) v
  | [], i, R => rfl
  | u :: vs, i, R => by
    rw [List.cons_append, unGo, unGo, unGo_snoc ch v vs (i + 1), List.length_cons]
    congr 1; omega
theorem unRows_snoc (ch : Nat) (vs : List Int) (v : Int) : unRows ch (vs ++ [v]) = unStep ch (unRows ch vs) vs.length v := by
  unfold unRows; rw [unGo_snoc, Nat.zero_add]
theorem unGo_length (ch : Nat) : ∀ (vs : List Int) (i : Nat) (R : List (List Int)), (unGo ch i R vs).length = R.length
  | [], _, _ => rfl
  | v :: vs, i, R => by rw [unGo, unGo_length ch vs]; unfold unStep; rw [List.length_set]
theorem unRows_length (ch : Nat) (vs : List Int) : (unRows ch vs).length = ch := by unfold unRows; rw [unGo_length, List.length_replicate]
theorem unStep_row (ch : Nat) (R : List (List Int)) (i : Nat) (v : Int) (m : Nat) (h : ∀ x ∈ R, x.length ≤ m) : ∀ x ∈ unStep ch R i v, x.length ≤ m + 1 := by
  intro x hx
  unfold unStep at hx
  rcases List.mem_or_eq_of_mem_set hx with hx | rfl
  · have := h x hx; omega
  · rw [List.length_append, List.getD_eq_getElem?_getD]
    cases e : R[i % ch]? with
    | none => simp
    | some y => have := h y (List.mem_of_getElem? e); simp; omega
theorem unGo_row (ch : Nat) : ∀ (vs : List Int) (i : Nat) (R : List (List Int)) (m : Nat), (∀ x ∈ R, x.length ≤ m) → ∀ x ∈ unGo ch i R vs, x.length ≤ m + vs.length
  | [], i, R, m, h => h
  | v :: vs, i, R, m, h => fun x hx => by
    rw [unGo] at hx
    have := unGo_row ch vs (i + 1) _ (m + 1) (unStep_row ch R i v m h) x hx
    rw [List.length_cons]; omega
theorem unRows_row (ch : Nat) (vs : List Int) : ∀ x ∈ unRows ch vs, x.length ≤ vs.length := fun x hx => by
  have := unGo_row ch vs 0 (List.replicate ch []) 0 (fun x hx => by rw [(List.mem_replicate.1 hx).2]; exact Nat.le_refl _) x hx
  omega
theorem unTakes_some (k : Nat) (a : Int) (b : Bool) (l : List Int) (n : Nat) : ∀ (c j : Nat) (vs : List Int), unTakes k a b l n c j = some vs → vs.length = c ∧ ∀ i, i < c → pack_Form_take.f k a b ((l.drop ((j + i) * n)).take n) = some (vs.getD i 0)
  | 0, j, vs, h => by
    unfold unTakes at h
    obtain rfl := Option.some.inj h
    exact ⟨rfl, fun i hi => absurd hi (by omega)⟩
  | c + 1, j, vs, h => by
    unfold unTakes at h
    obtain ⟨v, hv, h⟩ := Option.bind_eq_some_iff.1 h
    obtain ⟨us, hu, h⟩ := Option.bind_eq_some_iff.1 h
    obtain rfl := Option.some.inj h
    obtain ⟨h1, h2⟩ := unTakes_some k a b l n c (j + 1) us hu
    refine ⟨by rw [List.length_cons, h1], fun i hi => ?_⟩
    cases i with
    | zero => exact hv
    | succ i => have := h2 i (by omega); rw [show j + 1 + i = j + (i + 1) by omega] at this; exact this
theorem kc_put (W : World) (l : Nat) (o' : Obj) {b : Nat} (h : b < l) : (W.putObj l o').cell? ⟨b, 0, none⟩ = W.cell? ⟨b, 0, none⟩ := by
  have hne : ¬ l = b := by omega
  simp [World.putObj, World.cell?, Array.getElem?_setIfInBounds, hne]
/-- What a walk shows that ends in no panic. -/
def noP (Q : Exit → Act → World → Prop) : Exit → Act → World → Prop
  | .panic _, _, _ => False
  | e, a, w => Q e a w
theorem noP_normal {Q : Exit → Act → World → Prop} {a : Act} {w : World} (h : Q .normal a w) : noP Q .normal a w := h
theorem startF_ {P : Program} {ops : Array Oper} {Q : Exit → Act → World → Prop} {S : World → Prop} {ds : List Nat} {id n m : Nat} {a : Act} {w : World} (l : Array Bool) (hm : P.follows .mixedOrders = true) (hn : ops.size = n) (hl : Array.replicate n false = l) (hS : S w.drew)
    (h : S w.drew → wpAnyLast P .any ops (noP Q) S ds n l a w.drew) : (Code.region id ops true).wpIn Fence.wide m P Q a w :=
  wpIn_wide.2 (Code.wp_mono (fun e a w q => by cases e <;> first | exact q | exact q.elim) (start_ l hm hn hl hS h))
theorem q_small {q len : Nat} (h : q ≤ len) (hl : len ≤ 100000) : wrap64 (q : Int) = (q : Int) ∧ ¬ ((1048576 : Int) < (q : Int)) ∧ ¬ (1048576 < q) := by
  refine ⟨?_, ?_, ?_⟩
  · unfold wrap64; omega
  · omega
  · omega
theorem cell_grown {W W1 : World} {row : Option Nat} {p : Addr} {u : Value} (hg : W.grownBy W1 row) (h : W.cell? p = some u) (hne : some p.block ≠ row) : W1.cell? p = some u := by
  have hb := hg.block p.block (World.block_lt_of_cell? W p h) hne
  unfold World.cell? at h ⊢
  rw [hb]; exact h
/-- What the rounds of Unpack keep. -/
def unI (a : Int) (b : Bool) (ch : Nat) (vs : List Int) (len n : Nat) (w : World) (O gR cap N0 : Nat) (pre : List (ChunkNo len n)) (W : World) : Prop :=
  W.heap[w.heap.size]? = some (.cells #[.int .i64 a, .bool b] 46 (0, 0)) ∧ Boxed W (w.heap.size + 1) 3 (.int .i64 (ch : Int)) ∧ Boxed W O 24 (.slice (some ⟨gR, 0, none⟩) ch cap) ∧ Boxed W (O + 1) 3 (.int .i64 (pre.length : Int)) ∧
  Kd.S (Kd.slice 3 (Kd.int .i64)) 40 W w.heap.size (fun k => k = gR ∨ N0 ≤ k) (.slice (some ⟨gR, 0, none⟩) ch cap) (unRows ch (pre.map fun x => vs.getD x.1 0)) ∧ Below w.heap.size w W ∧ N0 ≤ W.heap.size
theorem unI_own (a : Int) (b : Bool) (ch : Nat) (vs : List Int) (len n : Nat) (w : World) (O gR cap N0 : Nat) (hO : O + 1 < N0) (hw : w.heap.size + 1 < O) : OwnFrom N0 (unI a b ch vs len n w O gR cap N0) := by
  intro pre X Y row hs hg hr
  obtain ⟨h1, h2, h3, h4, h5, h6, h7⟩ := hs
  have hne : ∀ k, k < N0 → some k ≠ row := fun k hk e => by have := (hr k e.symm).1; omega
  refine ⟨blk_grown h1 hg (hne _ (by omega)), h2.kept hg (hne _ (by omega)), h3.kept hg (hne _ (by omega)), h4.kept hg (hne _ (by omega)), Kd.S_mono (Kd.S_grown (Kd.S_bound h5) hg (fun k hk e => ?_)) (fun _ hk => hk.1), h6.grown hg h6.size (fun k e => ?_), Nat.le_trans h7 hg.size⟩
  · obtain ⟨_, _, _, q, _, cells, hc⟩ := hk
    obtain ⟨_, o, ho, hn⟩ := hr k e.symm
    rw [hc] at ho; cases ho; cases hn
  · have := (hr k e).1; omega
set_option maxRecDepth 100000 in
set_option maxHeartbeats 4000000 in
theorem unpack_in (k : Nat) (a : Int) (b : Bool) (A : Option Addr) (c0 : Nat) (l0 : List Int) (n ch : Nat) (vs : List Int) (w : World) (hr0 : Kd.C (Kd.int .u8) w A l0.length l0) (hc0 : l0.length ≤ c0) (hl : l0.length ≤ 100000) (hn : 1 ≤ n ∧ n ≤ 3) (ha : a = 8 * (n : Int)) (hch : 1 ≤ ch ∧ ch ≤ 8) (hm : l0.length % (ch * n) = 0) (hv : unTakes k a b l0 n (l0.length / n) 0 = some vs) :
    CallsIn Fence.wide 9 Try.prog 25 #[.agg #[.int .i64 a, .bool b], .int .i64 (ch : Int), .slice A l0.length c0] w fun e w' => ∃ v0_ : Value, e = .returned (.tuple #[v0_, .int .i64 0]) ∧ Kd.S (Kd.slice 3 (Kd.int .i64)) 40 w' w.heap.size (fun _ => True) v0_ (unRows ch vs) ∧ Below w.heap.size w w' := by
  have hF : ∀ f, Fence.wide.fn f := fun _ => trivial
  have hro : Fence.wide.round = none := rfl
  have hG : pack_Form_Good.f a b = some true := by rcases (show n = 1 ∨ n = 2 ∨ n = 3 by omega) with rfl | rfl | rfl <;> subst ha <;> rfl
  have hS : pack_Form_size.f a b = some (n : Int) := by rcases (show n = 1 ∨ n = 2 ∨ n = 3 by omega) with rfl | rfl | rfl <;> subst ha <;> cases b <;> decide +kernel
  have hC : pack_count.f (ch : Int) = some true := by unfold pack_count.f; rw [if_pos (by omega), decide_eq_true (by omega)]
  have HGd := AsideR.mk (fun W => pack_Form_Good.calls a b true W hG)
  have HSz := AsideR.mk (fun W => pack_Form_size.calls a b (n : Int) W hS)
  have HCt := AsideR.mk (fun W => pack_count.calls (ch : Int) true W hC)
  obtain ⟨hvl, hvt⟩ := unTakes_some _ _ _ _ _ _ _ _ hv
  have HVL := AsideR.mk hvl
  have HVT := AsideR.mk hvt
  have HR0 := AsideR.mk hr0
  have HM := AsideR.mk hm
  have HA := AsideR.mk ha
  clear ha hr0 hG hS hC hv hvl hvt hm
  obtain ⟨len, hlen2⟩ : ∃ len, l0.length = len := ⟨_, rfl⟩
  have HLn := AsideR.mk hlen2
  rw [hlen2] at hc0 hl ⊢
  clear hlen2
  obtain ⟨hn1, hn2⟩ := hn
  obtain ⟨hch1, hch2⟩ := hch
  refine callsIn_of_wp_marks Try.func25 rfl (hF _) ?_ hro
  simp only [Try.ntmps25, List.size_toArray, List.length_cons, List.length_nil, Nat.reduceAdd, Nat.reduceSub, Array.replicate_succ, Array.replicate_zero, List.push_toArray, List.append_toArray, List.nil_append, List.cons_append]
  have hu23 := Try.underlying46
  have HU := AsideR.mk hu23
  clear hu23
  gi_upto_region 1 with (first | (gi_at_call 29; refine (callsIn_wide.2 (HGd.out _)).mono ?_; rintro e wa ⟨rfl, hd⟩; have HDa := AsideR.mk hd; clear hd) | (gi_at_call 40; refine (callsIn_wide.2 (HCt.out _)).mono ?_; rintro e wb ⟨rfl, hd⟩; have HDb := AsideR.mk hd.below; clear hd))
  have bF : ((w.alloc (.cells #[.int .i64 a, .bool b] 46)).alloc (.cells #[.int .i64 (ch : Int)] 3)).heap[w.heap.size]? = some (.cells #[.int .i64 a, .bool b] 46 (0, 0)) := blk_alloc (blk_new w _) _
  have bC : ((w.alloc (.cells #[.int .i64 a, .bool b] 46)).alloc (.cells #[.int .i64 (ch : Int)] 3)).heap[w.heap.size + 1]? = some (.cells #[.int .i64 (ch : Int)] 3 (0, 0)) := by have := blk_new (w.alloc (.cells #[.int .i64 a, .bool b] 46)) (.cells #[.int .i64 (ch : Int)] 3); rwa [World.size_alloc] at this
  have hB1 := ((Below.refl w.heap.size w).alloc (Nat.le_refl _) (.cells #[.int .i64 a, .bool b] 46)).alloc (by simp) (.cells #[.int .i64 (ch : Int)] 3)
  generalize ((w.alloc (.cells #[.int .i64 a, .bool b] 46)).alloc (.cells #[.int .i64 (ch : Int)] 3)) = w1 at *
  have f0 := (blk_cell bF 0).trans rfl
  have f1 := (blk_cell bF 1).trans rfl
  have f2 := (blk_cell bC 0).trans rfl
  have hu23 := HU.out
  gi_upto_region 3 with (first | (gi_at_call 29; refine (callsIn_wide.2 (HGd.out _)).mono ?_; rintro e wa ⟨rfl, hd⟩; have HDa := AsideR.mk hd; clear hd) | (gi_at_call 40; refine (callsIn_wide.2 (HCt.out _)).mono ?_; rintro e wb ⟨rfl, hd⟩; have HDb := AsideR.mk hd.below; clear hd))
  have bF2 := blk_below bF HDa.out
  have bC2 := blk_below bC HDa.out
  have hB2 := below_step hB1 HDa.out
  clear bF bC hB1 HDa f0 f1 f2
  have f0 := (blk_cell bF2 0).trans rfl
  have f1 := (blk_cell bF2 1).trans rfl
  have f2 := (blk_cell bC2 0).trans rfl
  gi_upto_region 5 with (gi_at_call 40; refine (callsIn_wide.2 (HCt.out _)).mono ?_; rintro e wb ⟨rfl, hd⟩; have HDb := AsideR.mk hd.below; clear hd)
  have bF3 := blk_below bF2 HDb.out
  have bC3 := blk_below bC2 HDb.out
  have hB3 := below_step hB2 HDb.out
  clear bF2 bC2 hB2 HDb f0 f1 f2
  have f0 := (blk_cell bF3 0).trans rfl
  have f1 := (blk_cell bF3 1).trans rfl
  have f2 := (blk_cell bC3 0).trans rfl
  obtain ⟨m, hm2⟩ : ∃ m, ch * n = m := ⟨_, rfl⟩
  have hm1 : 1 ≤ m := by rw [← hm2]; exact Nat.mul_le_mul hch1 hn1
  have hm3 : m ≤ 24 := by rw [← hm2]; exact Nat.mul_le_mul hch2 hn2
  have hmul : wrap64 ((ch : Int) * (n : Int)) = (m : Int) := by rw [← Int.natCast_mul, hm2]; unfold wrap64; omega
  have hz : ¬ ((m : Int) = 0) := by omega
  have hz0 : ¬ (m = 0) := by omega
  have hmod : Int.tmod (len : Int) (m : Int) = 0 := by
    have h1 := HM.out
    rw [HLn.out, hm2] at h1
    have h2 : Int.tmod (len : Int) (m : Int) = ((len % m : Nat) : Int) := rfl
    rw [h2, h1]; rfl
  obtain ⟨q, hq⟩ : ∃ q, len / m = q := ⟨_, rfl⟩
  have hquo : Int.tdiv (len : Int) (m : Int) = (q : Int) := by
    have h2 : Int.tdiv (len : Int) (m : Int) = ((len / m : Nat) : Int) := rfl
    rw [h2, hq]
  have hql : q ≤ len := by rw [← hq]; exact Nat.div_le_self _ _
  obtain ⟨hwq, hqs, hqs0⟩ := q_small hql hl
  have hqs1 : decide ((1048576 : Int) < (q : Int)) = false := decide_eq_false hqs
  refine startF_ (n := 9) (S := fun w' => w'.cell? ⟨w.heap.size, 0, none⟩ = some (.int .i64 a) ∧ w'.cell? ⟨w.heap.size, 1, none⟩ = some (.bool b) ∧ w'.cell? ⟨w.heap.size + 1, 0, none⟩ = some (.int .i64 (ch : Int))) (ds := []) #[false, false, false, false, false, false, false, false, false] (by kernel_rfl) rfl rfl ⟨f0, f1, f2⟩ (fun hHeld => ?_)
  refine pure_ (i := 0) (N := some 20) (v := ?_) (a' := ?_) #[true, false, false, false, false, false, false, false, false] rfl rfl (by kernel_rfl) (fun _ _ _ h => h) (Or.inl ⟨by rfl, ?_⟩) ?_ ?_
  rotate_left
  · intro w'
    go_simp
    with_reducible rfl
  rotate_left
  · simp only [Act.put, List.setIfInBounds_toArray, List.set_cons_zero, List.set_cons_succ, i64_w, i32_w]
    rfl
  refine pure_ (i := 1) (N := some 21) (v := ?_) (a' := ?_) #[true, true, false, false, false, false, false, false, false] rfl rfl (by kernel_rfl) (fun _ _ _ h => h) (Or.inl ⟨by rfl, ?_⟩) ?_ ?_
  rotate_left
  · intro w'
    go_simp
    with_reducible rfl
  rotate_left
  · simp only [Act.put, List.setIfInBounds_toArray, List.set_cons_zero, List.set_cons_succ, i64_w, i32_w]
    rfl
  refine take_ (i := 2) (N := some 22) (v := ?_) (a' := ?_) #[true, true, true, false, false, false, false, false, false] rfl rfl (by kernel_rfl) (fun _ _ _ h => h) (Or.inl ⟨by rfl, ?_⟩) hHeld ?_ ?_
  rotate_left
  · rintro w' ⟨s0, s1, s2⟩
    go_simp
    with_reducible rfl
  rotate_left
  · simp only [Act.put, List.setIfInBounds_toArray, List.set_cons_zero, List.set_cons_succ, i64_w, i32_w]
    rfl
  refine take_ (i := 3) (N := some 23) (v := ?_) (a' := ?_) #[true, true, true, true, false, false, false, false, false] rfl rfl (by kernel_rfl) (fun _ _ _ h => h) (Or.inl ⟨by rfl, ?_⟩) hHeld ?_ ?_
  rotate_left
  · rintro w' ⟨s0, s1, s2⟩
    go_simp
    with_reducible rfl
  rotate_left
  · simp only [Act.put, List.setIfInBounds_toArray, List.set_cons_zero, List.set_cons_succ, i64_w, i32_w]
    rfl
  refine one_ (i := 4) (N := some 24) #[true, true, true, true, true, false, false, false, false] rfl rfl (by kernel_rfl) (by decide) (fun K hK => ?_)
  refine goes_ Try.func41 (by kernel_rfl) rfl #[.agg #[.int .i64 a, .bool b]] (by rfl) rfl rfl (by simp only [List.map_toArray, List.map_cons, List.map_nil]; rfl) ?_
  with_reducible refine (HSz.out _).mono ?_
  rintro e wc ⟨rfl, hdc⟩
  refine ⟨_, rfl, ?_⟩
  refine hK.out _ _ ⟨(blk_cell (blk_below (w := wb.drew) bF3 hdc) 0).trans rfl, (blk_cell (blk_below (w := wb.drew) bF3 hdc) 1).trans rfl, (blk_cell (blk_below (w := wb.drew) bC3 hdc) 0).trans rfl⟩ (fun hHeld => ?_)
  clear hK K
  refine norm_ (a' := ?_) ?_ ?_
  rotate_left
  · show Act.put _ (some 24) _ = _
    simp only [Act.put, List.setIfInBounds_toArray, List.set_cons_zero, List.set_cons_succ, i64_w, i32_w]
    rfl
  refine pure_ (i := 5) (N := some 25) (v := ?_) (a' := ?_) #[true, true, true, true, true, true, false, false, false] rfl rfl (by kernel_rfl) (fun _ _ _ h => h) (Or.inl ⟨by rfl, ?_⟩) ?_ ?_
  rotate_left
  · intro w'
    go_simp
    with_reducible rfl
  rotate_left
  · simp only [Act.put, List.setIfInBounds_toArray, List.set_cons_zero, List.set_cons_succ, i64_w, i32_w]
    rfl
  refine pure_ (i := 6) (N := some 26) (v := ?_) (a' := ?_) #[true, true, true, true, true, true, true, false, false] rfl rfl (by kernel_rfl) (fun _ _ _ h => h) (Or.inl ⟨by rfl, ?_⟩) ?_ ?_
  rotate_left
  · intro w'
    go_simp
    with_reducible rfl
  rotate_left
  · simp only [Act.put, List.setIfInBounds_toArray, List.set_cons_zero, List.set_cons_succ, i64_w, i32_w]
    rfl
  refine pure_ (i := 7) (N := some 27) (v := ?_) (a' := ?_) #[true, true, true, true, true, true, true, true, false] rfl rfl (by kernel_rfl) (fun _ _ _ h => h) (Or.inl ⟨by rfl, ?_⟩) ?_ ?_
  rotate_left
  · intro w'
    go_simp
    with_reducible rfl
  rotate_left
  · simp only [Act.put, List.setIfInBounds_toArray, List.set_cons_zero, List.set_cons_succ, i64_w, i32_w]
    rfl
  refine pure_ (i := 8) (N := some 19) (v := ?_) (a' := ?_) #[true, true, true, true, true, true, true, true, true] rfl rfl (by kernel_rfl) (fun _ _ _ h => h) (Or.inl ⟨by rfl, ?_⟩) ?_ ?_
  rotate_left
  · intro w'
    go_simp
    with_reducible rfl
  rotate_left
  · simp only [Act.put, List.setIfInBounds_toArray, List.set_cons_zero, List.set_cons_succ, i64_w, i32_w]
    rfl
  refine done_ (by kernel_rfl) ?_
  refine noP_normal ?_
  have bF4 := blk_below (w := wb.drew) bF3 hdc
  have bC4 := blk_below (w := wb.drew) bC3 hdc
  have hB4 := below_step (below_drew hB3) hdc
  clear bF3 bC3 hB3 hdc f0 f1 f2
  have f0 := (blk_cell bF4 0).trans rfl
  have f1 := (blk_cell bF4 1).trans rfl
  have f2 := (blk_cell bC4 0).trans rfl
  gi_upto_region 7 with fail
  refine startF_ (n := 9) (S := fun w' => w'.cell? ⟨w.heap.size, 0, none⟩ = some (.int .i64 a) ∧ w'.cell? ⟨w.heap.size, 1, none⟩ = some (.bool b) ∧ w'.cell? ⟨w.heap.size + 1, 0, none⟩ = some (.int .i64 (ch : Int))) (ds := []) #[false, false, false, false, false, false, false, false, false] (by kernel_rfl) rfl rfl ⟨f0, f1, f2⟩ (fun hHeld => ?_)
  refine pure_ (i := 0) (N := some 29) (v := ?_) (a' := ?_) #[true, false, false, false, false, false, false, false, false] rfl rfl (by kernel_rfl) (fun _ _ _ h => h) (Or.inl ⟨by rfl, ?_⟩) ?_ ?_
  rotate_left
  · intro w'
    go_simp
    with_reducible rfl
  rotate_left
  · simp only [Act.put, List.setIfInBounds_toArray, List.set_cons_zero, List.set_cons_succ, i64_w, i32_w]
    rfl
  refine pure_ (i := 1) (N := some 30) (v := ?_) (a' := ?_) #[true, true, false, false, false, false, false, false, false] rfl rfl (by kernel_rfl) (fun _ _ _ h => h) (Or.inl ⟨by rfl, ?_⟩) ?_ ?_
  rotate_left
  · intro w'
    go_simp
    with_reducible rfl
  rotate_left
  · simp only [Act.put, List.setIfInBounds_toArray, List.set_cons_zero, List.set_cons_succ, i64_w, i32_w]
    rfl
  refine take_ (i := 2) (N := some 31) (v := ?_) (a' := ?_) #[true, true, true, false, false, false, false, false, false] rfl rfl (by kernel_rfl) (fun _ _ _ h => h) (Or.inl ⟨by rfl, ?_⟩) hHeld ?_ ?_
  rotate_left
  · rintro w' ⟨s0, s1, s2⟩
    go_simp
    with_reducible rfl
  rotate_left
  · simp only [Act.put, List.setIfInBounds_toArray, List.set_cons_zero, List.set_cons_succ, i64_w, i32_w]
    rfl
  refine take_ (i := 3) (N := some 32) (v := ?_) (a' := ?_) #[true, true, true, true, false, false, false, false, false] rfl rfl (by kernel_rfl) (fun _ _ _ h => h) (Or.inl ⟨by rfl, ?_⟩) hHeld ?_ ?_
  rotate_left
  · rintro w' ⟨s0, s1, s2⟩
    go_simp
    with_reducible rfl
  rotate_left
  · simp only [Act.put, List.setIfInBounds_toArray, List.set_cons_zero, List.set_cons_succ, i64_w, i32_w]
    rfl
  refine one_ (i := 4) (N := some 33) #[true, true, true, true, true, false, false, false, false] rfl rfl (by kernel_rfl) (by decide) (fun K hK => ?_)
  refine goes_ Try.func41 (by kernel_rfl) rfl #[.agg #[.int .i64 a, .bool b]] (by rfl) rfl rfl (by simp only [List.map_toArray, List.map_cons, List.map_nil]; rfl) ?_
  with_reducible refine (HSz.out _).mono ?_
  rintro e wd ⟨rfl, hdd⟩
  refine ⟨_, rfl, ?_⟩
  refine hK.out _ _ ⟨(blk_cell (blk_below (w := wc.drew) bF4 hdd) 0).trans rfl, (blk_cell (blk_below (w := wc.drew) bF4 hdd) 1).trans rfl, (blk_cell (blk_below (w := wc.drew) bC4 hdd) 0).trans rfl⟩ (fun hHeld => ?_)
  clear hK K
  refine norm_ (a' := ?_) ?_ ?_
  rotate_left
  · show Act.put _ (some 33) _ = _
    simp only [Act.put, List.setIfInBounds_toArray, List.set_cons_zero, List.set_cons_succ, i64_w, i32_w]
    rfl
  refine pure_ (i := 5) (N := some 34) (v := ?_) (a' := ?_) #[true, true, true, true, true, true, false, false, false] rfl rfl (by kernel_rfl) (fun _ _ _ h => h) (Or.inl ⟨by rfl, ?_⟩) ?_ ?_
  rotate_left
  · intro w'
    go_simp
    with_reducible rfl
  rotate_left
  · simp only [Act.put, List.setIfInBounds_toArray, List.set_cons_zero, List.set_cons_succ, i64_w, i32_w]
    rfl
  refine pure_ (i := 6) (N := some 35) (v := ?_) (a' := ?_) #[true, true, true, true, true, true, true, false, false] rfl rfl (by kernel_rfl) (fun _ _ _ h => h) (Or.inl ⟨by rfl, ?_⟩) ?_ ?_
  rotate_left
  · intro w'
    go_simp
    with_reducible rfl
  rotate_left
  · simp only [Act.put, List.setIfInBounds_toArray, List.set_cons_zero, List.set_cons_succ, i64_w, i32_w]
    rfl
  refine pure_ (i := 7) (N := some 36) (v := ?_) (a' := ?_) #[true, true, true, true, true, true, true, true, false] rfl rfl (by kernel_rfl) (fun _ _ _ h => h) (Or.inl ⟨by rfl, ?_⟩) ?_ ?_
  rotate_left
  · intro w'
    go_simp
    with_reducible rfl
  rotate_left
  · simp only [Act.put, List.setIfInBounds_toArray, List.set_cons_zero, List.set_cons_succ, i64_w, i32_w]
    rfl
  refine pure_ (i := 8) (N := some 28) (v := ?_) (a' := ?_) #[true, true, true, true, true, true, true, true, true] rfl rfl (by kernel_rfl) (fun _ _ _ h => h) (Or.inl ⟨by rfl, ?_⟩) ?_ ?_
  rotate_left
  · intro w'
    go_simp
    with_reducible rfl
  rotate_left
  · simp only [Act.put, List.setIfInBounds_toArray, List.set_cons_zero, List.set_cons_succ, i64_w, i32_w]
    rfl
  refine done_ (by kernel_rfl) ?_
  refine noP_normal ?_
  have bF5 := blk_below (w := wc.drew) bF4 hdd
  have bC5 := blk_below (w := wc.drew) bC4 hdd
  have hB5 := below_step (below_drew hB4) hdd
  clear bF4 bC4 hB4 hdd f0 f1 f2
  have f2 := (blk_cell bC5 0).trans rfl
  gi_upto_region 9 with fail
  refine wpIn_wide.2 ?_
  have info38 : ((Try.prog).info? 40).map (fun i => (i.zero, i.size, i.bytes)) = some (some (.slice none 0 0), 1, 24) := by kernel_rfl
  have hch0 : (0 : Int) ≤ (ch : Int) := by omega
  have hch24 : (ch : Int).toNat * 24 ≤ 281474976710656 := by omega
  go_wp2_with ((with_reducible refine gate_dst (N := 38) rfl ?_); refine Kd.S_make (Kd.slice 3 (Kd.int .i64)) w.heap.size 40 rfl (N := 38) rfl 24 _ _ rfl (ch : Int) rfl rfl Try.underlying24 (.slice none 0 0) 24 info38 rfl (by decide) (by omega) ([] : List Int) (ok := fun k => k = wd.heap.size) (okp := fun _ => False) ⟨_, rfl, Kd.R_nil _ _ _ _ _⟩ (fun _ h => h.elim) rfl hch0 hch24 hB5 hB5.size ?_; intro v1 we hS1 hb1 hg1 hat1; rw [Int.toNat_natCast] at hS1; obtain ⟨gR, cap1, rfl, hgR0, hgR1, cellsR, hgR2⟩ := Kd.S_form hS1 (by rw [List.length_replicate]; omega); have HGR := AsideR.mk ((Kd.S_R hS1).1 gR rfl); rw [List.length_replicate] at hS1; simp only [List.length_replicate]; have HS1 := AsideR.mk hS1; have HB6 := AsideR.mk hb1; have HG1 := AsideR.mk hg1; clear hS1 hb1 hg1 hat1)
  gi_upto_region 11 with fail
  have bF6 := blk_grown bF5 HG1.out (by simp)
  have bC6 := blk_grown bC5 HG1.out (by simp)
  have bO6 := (Boxed.new we 24 (.slice (some ⟨gR, 0, none⟩) ch cap1)).alloc (.cells #[.int .i64 0] 3)
  have bI6 := Boxed.new (we.alloc (.cells #[.slice (some ⟨gR, 0, none⟩) ch cap1] 24)) 3 (.int .i64 0)
  have bF7 := blk_alloc (blk_alloc bF6 (.cells #[.slice (some ⟨gR, 0, none⟩) ch cap1] 24)) (.cells #[.int .i64 0] 3)
  have bC7 := blk_alloc (blk_alloc bC6 (.cells #[.slice (some ⟨gR, 0, none⟩) ch cap1] 24)) (.cells #[.int .i64 0] 3)
  have hS7 := Kd.S_alloc (Kd.S_alloc HS1.out (.cells #[.slice (some ⟨gR, 0, none⟩) ch cap1] 24)) (.cells #[.int .i64 0] 3)
  have hB7 := below_alloc (below_alloc HB6.out (.cells #[.slice (some ⟨gR, 0, none⟩) ch cap1] 24)) (.cells #[.int .i64 0] 3)
  rw [World.size_alloc] at bI6
  obtain ⟨O, hO⟩ : ∃ O, we.heap.size = O := ⟨_, rfl⟩
  have hFO : w.heap.size + 1 < O := by rw [← hO]; exact blk_lt bC6
  have hsz7 : ((we.alloc (.cells #[.slice (some ⟨gR, 0, none⟩) ch cap1] 24)).alloc (.cells #[.int .i64 0] 3)).heap.size = O + 2 := by rw [World.size_alloc, World.size_alloc, hO]
  have hgF : w.heap.size + 1 < gR := by rw [HGR.out]; exact blk_lt bC5
  rw [hO] at bO6 bI6 hgR1
  simp only [hO]
  generalize ((we.alloc (.cells #[.slice (some ⟨gR, 0, none⟩) ch cap1] 24)).alloc (.cells #[.int .i64 0] 3)) = wf at *
  clear hO bF5 bC5 bF6 bC6 HS1 HB6 HG1 f2 info38 hch0 hch24 hgR2 hB5 hql hqs hqs0 hqs1 hwq hquo hq hmod hz hz0 hmul hm1 hm3 hm2
  have f0 := (blk_cell bF7 0).trans rfl
  have f1 := (blk_cell bF7 1).trans rfl
  gi_wp2_with (first | (gi_at_call 41; refine (callsIn_wide.2 (HSz.out _)).mono ?_; rintro e wg ⟨rfl, hd⟩; have HDg := AsideR.mk hd; clear hd) | (gi_at_call 42; refine (chunk_in Fence.wide 8 (hF _) hro _ _ _ n hn1 _).mono ?_; rintro e w' ⟨rfl, rfl⟩))
  have bS := (Boxed.new wg 27 (.slice A len c0)).alloc (.cells #[.int .i64 (n : Int)] 3)
  have bN := Boxed.new (wg.alloc (.cells #[.slice A len c0] 27)) 3 (.int .i64 (n : Int))
  rw [World.size_alloc] at bN
  have hbg : Below wg.heap.size wg ((wg.alloc (.cells #[.slice A len c0] 27)).alloc (.cells #[.int .i64 (n : Int)] 3)) := below_alloc (below_alloc (Below.refl _ _) _) _
  have hbf := below_step HDg.out hbg
  have hB8 := below_step hB7 hbf
  have bF8 := blk_below bF7 hbf
  have bC8 : Boxed ((wg.alloc (.cells #[.slice A len c0] 27)).alloc (.cells #[.int .i64 (n : Int)] 3)) (w.heap.size + 1) 3 (.int .i64 (ch : Int)) := blk_below bC7 hbf
  have bO8 : Boxed ((wg.alloc (.cells #[.slice A len c0] 27)).alloc (.cells #[.int .i64 (n : Int)] 3)) O 24 (.slice (some ⟨gR, 0, none⟩) ch cap1) := blk_below bO6 hbf
  have bI8 : Boxed ((wg.alloc (.cells #[.slice A len c0] 27)).alloc (.cells #[.int .i64 (n : Int)] 3)) (O + 1) 3 (.int .i64 0) := blk_below bI6 hbf
  have hS8 := Kd.S_below hS7 hbf
  have hszg : O + 2 ≤ wg.heap.size := by rw [← hsz7]; exact HDg.out.size
  obtain ⟨S0, hS0⟩ : ∃ S0, wg.heap.size = S0 := ⟨_, rfl⟩
  rw [hS0] at bS bN hszg
  simp only [hS0]
  have hsz8 : ((wg.alloc (.cells #[.slice A len c0] 27)).alloc (.cells #[.int .i64 (n : Int)] 3)).heap.size = S0 + 2 := by rw [World.size_alloc, World.size_alloc, hS0]
  generalize ((wg.alloc (.cells #[.slice A len c0] 27)).alloc (.cells #[.int .i64 (n : Int)] 3)) = w0 at *
  obtain ⟨N0, hN0⟩ : ∃ N0, w0.heap.size = N0 := ⟨_, rfl⟩
  rw [hN0] at hsz8
  subst hsz8
  clear HDg hbg hbf bF7 bC7 bO6 bI6 hS7 hB7 hsz7 hS0 f0 f1
  have hA : 0 < len → ∃ ad, A = some ad := fun h => by
    obtain ⟨ad, e, _⟩ := HR0.out.2.2 (by have := HLn.out; omega)
    exact ⟨ad, e⟩
  have hdiv : ∃ cnt, len = cnt * n := ⟨len / n, by
    have h1 := HM.out
    rw [HLn.out] at h1
    have h2 : n ∣ len := Nat.dvd_trans (Nat.dvd_mul_left n ch) (Nat.dvd_of_mod_eq_zero h1)
    exact (Nat.div_mul_cancel h2).symm⟩
  obtain ⟨cnt, hcnt⟩ := hdiv
  have HCNT := AsideR.mk hcnt
  have HVT2 := AsideR.mk (fun (i : Nat) (hi : i < cnt) => HVT.out i (by rw [HLn.out, HCNT.out, Nat.mul_div_cancel _ hn1]; exact hi))
  have HVL2 : AsideR (vs.length = cnt) := AsideR.mk (by rw [HVL.out, HLn.out, HCNT.out, Nat.mul_div_cancel _ hn1])
  clear hcnt HVT HVL
  have cS := bS.cell
  have cN := bN.cell
  have hseq := chunk_stops Fence.wide 8 (hF _) hro (by omega) S0 (S0 + 1) c0 len n A hA hn1 (by omega) hc0 w0 (by omega) (by omega) cS cN
  refine wpIn_rangeFunc_ownG hro (by decide : 1 ≤ 9) (gf := 52) (lb := #[.pointer (some ⟨S0, 0, none⟩), .pointer (some ⟨S0 + 1, 0, none⟩)]) rfl (hF _) (enters_of Try.func52 (by kernel_rfl) rfl)
    hseq (fun h h' => h.trans h') (fun W l o o' hl ho hc hwk => ⟨kc_put W l o' (by omega), kc_put W l o' (by omega)⟩) (Below.refl _ _) (fun _ => rfl)
    (unI a b ch vs len n w O gR cap1 (S0 + 2))
    (fun _ _ _ => False)
    ?hI
    (fun _ _ _ _ _ hs _ _ => hs)
    ?h0
    (fun x => { tmps := #[.agg #[.int .i64 a, .bool b], .int .i64 (ch : Int), .slice A len c0, .pointer (some ⟨w.heap.size, 0, none⟩), .pointer (some ⟨w.heap.size + 1, 0, none⟩), undef, .slice none 0 0, .int .i64 0, .pointer (some ⟨O, 0, none⟩), .pointer (some ⟨O + 1, 0, none⟩), chunkV A len n x.1, .bool false, .agg #[.int .i64 a, .bool b], .bool true, .bool false, .bool false, .int .i64 (ch : Int), .bool true, .bool false, .bool false, .slice A len c0, .int .i64 (len : Int), .int .i64 (ch : Int), .agg #[.int .i64 a, .bool b], .int .i64 (n : Int), .int .i64 (m : Int), .int .i64 0, .bool false, .bool false, .slice A len c0, .int .i64 (len : Int), .int .i64 (ch : Int), .agg #[.int .i64 a, .bool b], .int .i64 (n : Int), .int .i64 (m : Int), .int .i64 (q : Int), .bool false, .int .i64 (ch : Int), .slice (some ⟨gR, 0, none⟩) ch cap1, .slice A len c0, .agg #[.int .i64 a, .bool b], .int .i64 (n : Int), .func (.func 52) #[] #[.pointer (some ⟨S0, 0, none⟩), .pointer (some ⟨S0 + 1, 0, none⟩)], chunkV A len n x.1, undef, undef, undef, undef, undef, undef, undef, undef, undef, undef, undef, undef, undef, undef, undef, undef, undef, undef, undef], defers := [] }) ?assign ?body ?done ?stop
  case hI => rw [hN0]; exact unI_own a b ch vs len n w O gR cap1 (S0 + 2) (by omega) hFO
  case h0 => exact ⟨bF8, bC8, bO8, bI8, Kd.S_mono hS8 (fun k hk => .inl (hk.trans HGR.out.symm)), hB8, by omega⟩
  case assign =>
    intro l x W K hK
    gi_wp2
    exact hK
  case body =>
    rintro l pre x W ⟨hF1, hC1, hO1, hI1, hS1, hB1, hW1⟩ hlt
    obtain ⟨ad, rfl⟩ := hA (by omega)
    have hxl : x.1 * n < len := x.2
    have hxc : x.1 < cnt := by
      have h := HCNT.out
      exact Nat.lt_of_mul_lt_mul_right (show x.1 * n < cnt * n by rw [← h]; exact hxl)
    have hx1 : x.1 * n + n ≤ len := by
      have h := Nat.mul_le_mul_right n (Nat.succ_le_of_lt hxc)
      rw [Nat.succ_mul, ← HCNT.out] at h
      exact h
    have hv := HVT2.out x.1 hxc
    rw [Nat.zero_add] at hv
    obtain ⟨o, ho⟩ : ∃ o, x.1 * n = o := ⟨_, rfl⟩
    have hcv : chunkV (some ad) len n x.1 = .slice (some (ad.add o)) n n := by unfold chunkV; rw [ho, show min n (len - o) = n by omega]; rfl
    rw [ho] at hv hxl hx1
    obtain ⟨tv, htv⟩ : ∃ tv, vs.getD x.1 0 = tv := ⟨_, rfl⟩
    rw [htv] at hv
    have hlc : ((l0.drop o).take n).length = n := by rw [List.length_take, List.length_drop]; have := HLn.out; omega
    have hCc : Kd.C (Kd.int .u8) w (some (ad.add o)) ((l0.drop o).take n).length ((l0.drop o).take n) := by
      have h := Kd.C_take (m := n) (Kd.C_drop (m := o) (c := c0) HR0.out (by have := HLn.out; omega) (by have := HLn.out; omega)) (by rw [List.length_drop]; have := HLn.out; omega)
      rw [if_neg (by omega)] at h
      have e : Option.map (fun z : Addr => z.add (o * (Kd.int .u8).sz)) (some ad) = some (ad.add o) := by
        show some (ad.add (o * 1)) = _
        rw [Nat.mul_one]
      rw [e] at h
      exact h
    have HT := AsideR.mk (fun (W' : World) (hW' : Below w.heap.size w W') => by
      have h := pack_Form_take.calls k a b (some (ad.add o)) n ((l0.drop o).take n) tv W' (Kd.C_below hCc hW') (Nat.le_of_eq hlc) hv
      rw [hlc] at h
      exact h)
    clear hCc hv
    obtain ⟨i, hi⟩ : ∃ i, pre.length = i := ⟨_, rfl⟩
    rw [hi] at hI1 hlt
    obtain ⟨r, hr⟩ : ∃ r, i % ch = r := ⟨_, rfl⟩
    have hrl : r < ch := by rw [← hr]; exact Nat.mod_lt _ hch1
    have hrem : Int.tmod (i : Int) (ch : Int) = (r : Int) := by
      have h2 : Int.tmod (i : Int) (ch : Int) = ((i % ch : Nat) : Int) := rfl
      rw [h2, hr]
    have hc00 : ¬ (ch = 0) := by omega
    have hrw := unRows_row ch (pre.map fun x => vs.getD x.1 0)
    have hrn := unRows_length ch (pre.map fun x => vs.getD x.1 0)
    have hsn := unRows_snoc ch (pre.map fun x => vs.getD x.1 0) tv
    rw [List.length_map, hi] at hrw hsn
    have HSN := AsideR.mk hsn
    clear hsn
    obtain ⟨rows, hrows⟩ : ∃ rows, unRows ch (pre.map fun x => vs.getD x.1 0) = rows := ⟨_, rfl⟩
    rw [hrows] at hS1 hrw hrn
    have HROWS := AsideR.mk hrows
    clear hrows
    obtain ⟨oki, c, hcl, hM, hcc, hfz, hoki, hH⟩ := Kd.S_elem hS1 [] (r : Int) (by omega) (by omega)
    obtain ⟨v, rfl, hR⟩ := hM
    have er : (r : Int).toNat * (Kd.slice 3 (Kd.int .i64)).sz + 0 = r := by
      show (r : Int).toNat * 1 + 0 = r
      omega
    have hce := hcc 0 v rfl
    have hfe := hfz 0
    rw [er] at hce hfe
    rw [Int.toNat_natCast] at hR
    have hrow : (rows.getD r []).length ≤ i := by
      rw [List.getD_eq_getElem?_getD, List.getElem?_eq_getElem (show r < rows.length by omega)]
      exact hrw _ (List.getElem_mem _)
    have hown : ∀ g, (g < S0 + 2 ∨ g = gR) → some g ≠ v.ownBlock := fun g hg e => by
      have h1 := hoki g (hR.1 g e.symm)
      omega
    have hgS : gR < S0 + 2 := by omega
    clear hcc hfz hcl hS1
    have q0 : W.drew.cell? ⟨w.heap.size, 0, none⟩ = some (.int .i64 a) := (blk_cell hF1 0).trans rfl
    have q1 : W.drew.cell? ⟨w.heap.size, 1, none⟩ = some (.bool b) := (blk_cell hF1 1).trans rfl
    have q2 : W.drew.cell? ⟨w.heap.size + 1, 0, none⟩ = some (.int .i64 (ch : Int)) := hC1.cell
    have q3 : W.drew.cell? ⟨O, 0, none⟩ = some (.slice (some ⟨gR, 0, none⟩) ch cap1) := hO1.cell
    have q4 : W.drew.cell? ⟨O + 1, 0, none⟩ = some (.int .i64 (i : Int)) := hI1.cell
    have q5 : W.drew.cell? ⟨gR, r, none⟩ = some v := hce
    have hu23 := HU.out
    have hu38 := Try.underlying40
    have hinfo : ((Try.prog).info? 3).map (fun i => (i.zero, i.size, i.bytes)) = some (some (.int .i64 0), 1, 8) := by kernel_rfl
    have HINFO := AsideR.mk hinfo
    have HU38 := AsideR.mk hu38
    have HHH := AsideR.mk hH
    have HRR := AsideR.mk hR
    clear hinfo hu38 hH hR
    dsimp only
    rw [hcv]
    gi_upto_region 13 with fail
    refine startR_ (by kernel_rfl) (fun ⟨_, _, h⟩ => h) (n := 17) (S := fun w' => w'.cell? ⟨w.heap.size, 0, none⟩ = some (.int .i64 a) ∧ w'.cell? ⟨w.heap.size, 1, none⟩ = some (.bool b) ∧ w'.cell? ⟨w.heap.size + 1, 0, none⟩ = some (.int .i64 (ch : Int)) ∧ w'.cell? ⟨O, 0, none⟩ = some (.slice (some ⟨gR, 0, none⟩) ch cap1) ∧ w'.cell? ⟨O + 1, 0, none⟩ = some (.int .i64 (i : Int)) ∧ w'.cell? ⟨gR, r, none⟩ = some v) (ds := [16]) #[false, false, false, false, false, false, false, false, false, false, false, false, false, false, false, false, false] (by kernel_rfl) rfl rfl ⟨q0, q1, q2, q3, q4, q5⟩ (fun hHeld => ?_)
    refine pure_ (i := 11) (N := some 55) (v := ?_) (a' := ?_) #[false, false, false, false, false, false, false, false, false, false, false, true, false, false, false, false, false] rfl rfl (by kernel_rfl) (fun _ _ _ h => h) (Or.inl ⟨by rfl, ?_⟩) ?_ ?_
    rotate_left
    · intro w'
      go_simp
      with_reducible rfl
    rotate_left
    · simp only [Act.put, List.setIfInBounds_toArray, List.set_cons_zero, List.set_cons_succ, i64_w, i32_w]
      rfl
    refine take_ (i := 0) (N := some 44) (v := ?_) (a' := ?_) #[true, false, false, false, false, false, false, false, false, false, false, true, false, false, false, false, false] rfl rfl (by kernel_rfl) (fun _ _ _ h => h) (Or.inl ⟨by rfl, ?_⟩) hHeld ?_ ?_
    rotate_left
    · rintro w' ⟨s0, s1, s2, s3, s4, s5⟩
      go_simp
      with_reducible rfl
    rotate_left
    · simp only [Act.put, List.setIfInBounds_toArray, List.set_cons_zero, List.set_cons_succ, i64_w, i32_w]
      rfl
    refine take_ (i := 1) (N := some 45) (v := ?_) (a' := ?_) #[true, true, false, false, false, false, false, false, false, false, false, true, false, false, false, false, false] rfl rfl (by kernel_rfl) (fun _ _ _ h => h) (Or.inl ⟨by rfl, ?_⟩) hHeld ?_ ?_
    rotate_left
    · rintro w' ⟨s0, s1, s2, s3, s4, s5⟩
      go_simp
      with_reducible rfl
    rotate_left
    · simp only [Act.put, List.setIfInBounds_toArray, List.set_cons_zero, List.set_cons_succ, i64_w, i32_w]
      rfl
    refine take_ (i := 2) (N := some 46) (v := ?_) (a' := ?_) #[true, true, true, false, false, false, false, false, false, false, false, true, false, false, false, false, false] rfl rfl (by kernel_rfl) (fun _ _ _ h => h) (Or.inl ⟨by rfl, ?_⟩) hHeld ?_ ?_
    rotate_left
    · rintro w' ⟨s0, s1, s2, s3, s4, s5⟩
      go_simp
      with_reducible rfl
    rotate_left
    · simp only [Act.put, List.setIfInBounds_toArray, List.set_cons_zero, List.set_cons_succ, i64_w, i32_w]
      rfl
    refine pure_ (i := 3) (N := some 47) (v := ?_) (a' := ?_) #[true, true, true, true, false, false, false, false, false, false, false, true, false, false, false, false, false] rfl rfl (by kernel_rfl) (fun _ _ _ h => h) (Or.inl ⟨by rfl, ?_⟩) ?_ ?_
    rotate_left
    · intro w'
      go_simp
      with_reducible rfl
    rotate_left
    · simp only [Act.put, List.setIfInBounds_toArray, List.set_cons_zero, List.set_cons_succ, i64_w, i32_w]
      rfl
    refine take_ (i := 4) (N := some 48) (v := ?_) (a' := ?_) #[true, true, true, true, true, false, false, false, false, false, false, true, false, false, false, false, false] rfl rfl (by kernel_rfl) (fun _ _ _ h => h) (Or.inl ⟨by rfl, ?_⟩) hHeld ?_ ?_
    rotate_left
    · rintro w' ⟨s0, s1, s2, s3, s4, s5⟩
      go_simp
      with_reducible rfl
    rotate_left
    · simp only [Act.put, List.setIfInBounds_toArray, List.set_cons_zero, List.set_cons_succ, i64_w, i32_w]
      rfl
    refine take_ (i := 5) (N := some 49) (v := ?_) (a' := ?_) #[true, true, true, true, true, true, false, false, false, false, false, true, false, false, false, false, false] rfl rfl (by kernel_rfl) (fun _ _ _ h => h) (Or.inl ⟨by rfl, ?_⟩) hHeld ?_ ?_
    rotate_left
    · rintro w' ⟨s0, s1, s2, s3, s4, s5⟩
      go_simp
      with_reducible rfl
    rotate_left
    · simp only [Act.put, List.setIfInBounds_toArray, List.set_cons_zero, List.set_cons_succ, i64_w, i32_w]
      rfl
    refine take_ (i := 6) (N := some 50) (v := ?_) (a' := ?_) #[true, true, true, true, true, true, true, false, false, false, false, true, false, false, false, false, false] rfl rfl (by kernel_rfl) (fun _ _ _ h => h) (Or.inl ⟨by rfl, ?_⟩) hHeld ?_ ?_
    rotate_left
    · rintro w' ⟨s0, s1, s2, s3, s4, s5⟩
      go_simp
      with_reducible rfl
    rotate_left
    · simp only [Act.put, List.setIfInBounds_toArray, List.set_cons_zero, List.set_cons_succ, i64_w, i32_w]
      rfl
    refine pure_ (i := 7) (N := some 51) (v := ?_) (a' := ?_) #[true, true, true, true, true, true, true, true, false, false, false, true, false, false, false, false, false] rfl rfl (by kernel_rfl) (fun _ _ _ h => h) (Or.inl ⟨by rfl, ?_⟩) ?_ ?_
    rotate_left
    · intro w'
      go_simp
      with_reducible rfl
    rotate_left
    · simp only [Act.put, List.setIfInBounds_toArray, List.set_cons_zero, List.set_cons_succ, i64_w, i32_w]
      rfl
    refine pure_ (i := 8) (N := some 52) (v := ?_) (a' := ?_) #[true, true, true, true, true, true, true, true, true, false, false, true, false, false, false, false, false] rfl rfl (by kernel_rfl) (fun _ _ _ h => h) (Or.inl ⟨by rfl, ?_⟩) ?_ ?_
    rotate_left
    · intro w'
      go_simp
      with_reducible rfl
    rotate_left
    · simp only [Act.put, List.setIfInBounds_toArray, List.set_cons_zero, List.set_cons_succ, i64_w, i32_w]
      rfl
    refine take_ (i := 9) (N := some 53) (v := ?_) (a' := ?_) #[true, true, true, true, true, true, true, true, true, true, false, true, false, false, false, false, false] rfl rfl (by kernel_rfl) (fun _ _ _ h => h) (Or.inl ⟨by rfl, ?_⟩) hHeld ?_ ?_
    rotate_left
    · rintro w' ⟨s0, s1, s2, s3, s4, s5⟩
      go_simp
      with_reducible rfl
    rotate_left
    · simp only [Act.put, List.setIfInBounds_toArray, List.set_cons_zero, List.set_cons_succ, i64_w, i32_w]
      rfl
    refine take_ (i := 10) (N := some 54) (v := ?_) (a' := ?_) #[true, true, true, true, true, true, true, true, true, true, true, true, false, false, false, false, false] rfl rfl (by kernel_rfl) (fun _ _ _ h => h) (Or.inl ⟨by rfl, ?_⟩) hHeld ?_ ?_
    rotate_left
    · rintro w' ⟨s0, s1, s2, s3, s4, s5⟩
      go_simp
      with_reducible rfl
    rotate_left
    · simp only [Act.put, List.setIfInBounds_toArray, List.set_cons_zero, List.set_cons_succ, i64_w, i32_w]
      rfl
    refine one_ (i := 12) (N := some 56) #[true, true, true, true, true, true, true, true, true, true, true, true, true, false, false, false, false] rfl rfl (by kernel_rfl) (by decide) (fun K hK => ?_)
    refine goes_ Try.func43 (by kernel_rfl) rfl #[.agg #[.int .i64 a, .bool b], .slice (some (ad.add o)) n n] (by rfl) rfl rfl (by simp only [List.map_toArray, List.map_cons, List.map_nil]; rfl) ?_
    with_reducible refine (HT.out _ (below_drew hB1)).mono ?_
    rintro e w3 ⟨rfl, hd3⟩
    refine ⟨_, rfl, ?_⟩
    refine hK.out _ _ ⟨(hd3.cell (World.block_lt_of_cell? W.drew _ q0)).trans q0, (hd3.cell (World.block_lt_of_cell? W.drew _ q1)).trans q1, (hd3.cell (World.block_lt_of_cell? W.drew _ q2)).trans q2, (hd3.cell (World.block_lt_of_cell? W.drew _ q3)).trans q3, (hd3.cell (World.block_lt_of_cell? W.drew _ q4)).trans q4, (hd3.cell (World.block_lt_of_cell? W.drew _ q5)).trans q5⟩ (fun hHeld => ?_)
    clear hK K
    refine norm_ (a' := ?_) ?_ ?_
    rotate_left
    · show Act.put _ (some 56) _ = _
      simp only [Act.put, List.setIfInBounds_toArray, List.set_cons_zero, List.set_cons_succ, i64_w, i32_w]
      rfl
    refine one_ (i := 13) (N := some 57) #[true, true, true, true, true, true, true, true, true, true, true, true, true, true, false, false, false] rfl rfl (by kernel_rfl) (by decide) (fun K hK => ?_)
    refine value_ (w1 := ?_) (v := ?_) (by rfl) rfl ?_ ?_
    rotate_left 2
    · go_simp
      constructor
      · rfl
      · rfl
    refine hK.out _ _ ⟨((below_alloc hd3 _).cell (World.block_lt_of_cell? W.drew _ q0)).trans q0, ((below_alloc hd3 _).cell (World.block_lt_of_cell? W.drew _ q1)).trans q1, ((below_alloc hd3 _).cell (World.block_lt_of_cell? W.drew _ q2)).trans q2, ((below_alloc hd3 _).cell (World.block_lt_of_cell? W.drew _ q3)).trans q3, ((below_alloc hd3 _).cell (World.block_lt_of_cell? W.drew _ q4)).trans q4, ((below_alloc hd3 _).cell (World.block_lt_of_cell? W.drew _ q5)).trans q5⟩ (fun hHeld => ?_)
    clear hK K
    refine norm_ (a' := ?_) ?_ ?_
    rotate_left
    · show Act.put _ (some 57) _ = _
      simp only [Act.put, List.setIfInBounds_toArray, List.set_cons_zero, List.set_cons_succ, i64_w, i32_w]
      rfl
    refine one_ (i := 14) (N := some 58) #[true, true, true, true, true, true, true, true, true, true, true, true, true, true, true, false, false] rfl rfl (by kernel_rfl) (by decide) (fun K hK => ?_)
    have hd3a : Below W.heap.size W w3 := below_step (below_drew (Below.refl W.heap.size W)) hd3
    refine Kd.R_append_step (Kd.int .i64) (w0 := w) w.heap.size (by rfl) (.tmp 53) (.tmp 57) 40 3 (.int .i64 0) 8 rfl HU38.out HINFO.out rfl (by decide) (by decide) v (rows.getD r []) tv [.int .i64 tv] (fun k => oki k ∨ W.heap.size ≤ k) (fun _ => False) rfl rfl rfl (fun _ h => h.elim) (fun k hk => .inr (Nat.le_trans hd3a.size hk)) (Kd.R_below (Kd.R_mono HRR.out (fun k hk => .inl hk)) hd3a) (below_step (below_drew hB1) hd3) (Nat.le_trans hB1.size hd3a.size) (by omega) ?_
    intro v1 w4 hR4 hB4 hg4 hat4
    obtain ⟨A4, c4, ev4⟩ := Kd.R_slice hR4
    generalize (rows.getD r [] ++ [tv]).length = n4 at ev4
    subst ev4
    have z0 := cell_grown hg4 ((hd3.cell (World.block_lt_of_cell? W.drew _ q0)).trans q0) (hown w.heap.size (.inl (by omega)))
    have z5 := cell_grown hg4 ((hd3.cell (World.block_lt_of_cell? W.drew _ q5)).trans q5) (hown gR (.inr rfl))
    have y5 : w4.frozen? ⟨gR, r, none⟩ = false := by have h := hg4.block gR (World.block_lt_of_cell? w3 _ ((hd3.cell (World.block_lt_of_cell? W.drew _ q5)).trans q5)) (hown gR (.inr rfl)); have h2 := hd3a.block gR (World.block_lt_of_cell? W _ hce); unfold World.frozen? at hfe ⊢; rw [h, h2]; exact hfe
    refine hK.out _ _ ⟨cell_grown hg4 ((hd3.cell (World.block_lt_of_cell? W.drew _ q0)).trans q0) (hown w.heap.size (.inl (by omega))), cell_grown hg4 ((hd3.cell (World.block_lt_of_cell? W.drew _ q1)).trans q1) (hown w.heap.size (.inl (by omega))), cell_grown hg4 ((hd3.cell (World.block_lt_of_cell? W.drew _ q2)).trans q2) (hown (w.heap.size + 1) (.inl (by omega))), cell_grown hg4 ((hd3.cell (World.block_lt_of_cell? W.drew _ q3)).trans q3) (hown O (.inl (by omega))), cell_grown hg4 ((hd3.cell (World.block_lt_of_cell? W.drew _ q4)).trans q4) (hown (O + 1) (.inl (by omega))), cell_grown hg4 ((hd3.cell (World.block_lt_of_cell? W.drew _ q5)).trans q5) (hown gR (.inr rfl))⟩ (fun hHeld => ?_)
    clear hK K
    refine norm_ (a' := ?_) ?_ ?_
    rotate_left
    · show Act.put _ (some 58) _ = _
      simp only [Act.put, List.setIfInBounds_toArray, List.set_cons_zero, List.set_cons_succ, i64_w, i32_w]
      rfl
    refine pure_ (i := 15) (N := some 59) (v := ?_) (a' := ?_) #[true, true, true, true, true, true, true, true, true, true, true, true, true, true, true, true, false] rfl rfl (by kernel_rfl) (fun _ _ _ h => h) (Or.inl ⟨by rfl, ?_⟩) ?_ ?_
    rotate_left
    · intro w'
      go_simp
      with_reducible rfl
    rotate_left
    · simp only [Act.put, List.setIfInBounds_toArray, List.set_cons_zero, List.set_cons_succ, i64_w, i32_w]
      rfl
    refine last_ (i := 16) (N := none) #[true, true, true, true, true, true, true, true, true, true, true, true, true, true, true, true, true] rfl rfl (by kernel_rfl) (by decide) (fun K hK => ?_)
    refine skip_ (w1 := ?_) (by rfl) rfl ?_ ?_
    rotate_left
    · go_simp
      rfl
    refine hK.out _ _ ?_
    clear hK K
    refine done_ (by kernel_rfl) ?_
    have hd3a : Below W.heap.size W w3 := below_step (below_drew (Below.refl W.heap.size W)) hd3
    have bI5 : (w4.setCell ⟨gR, r, none⟩ (.slice A4 n4 c4)).heap[O + 1]? = some (.cells #[.int .i64 (i : Int)] 3 (0, 0)) := blk_far (blk_grown (blk_below (show W.heap[O + 1]? = some (.cells #[.int .i64 (i : Int)] 3 (0, 0)) from hI1) hd3a) hg4 (hown (O + 1) (.inl (by omega)))) (p := ⟨gR, r, none⟩) (by show O + 1 ≠ gR; omega) _
    have z4 := (blk_cell bI5 0).trans rfl
    have y4 := blk_frozen bI5 0
    gi_wp2
    have hkeep : ∀ k, k < S0 + 2 → k ≠ gR → k ≠ O + 1 → ((w4.setCell ⟨gR, r, none⟩ (.slice A4 n4 c4)).setCell ⟨O + 1, 0, none⟩ (.int .i64 ((i : Int) + 1))).heap[k]? = W.heap[k]? := fun k h1 h2 h3 => (Below.heap_setCell _ _ _ k h3).trans ((Below.heap_setCell _ _ _ k h2).trans ((hg4.block k (Nat.lt_of_lt_of_le (Nat.lt_of_lt_of_le h1 hW1) hd3a.size) (hown k (.inl h1))).trans (hd3a.block k (Nat.lt_of_lt_of_le h1 hW1))))
    refine ⟨?_, ?_, ?_⟩
    · refine KeepsOthers.from (KeepsOthers.trans ⟨hd3a.size, fun k o hk _ => (hd3a.block k (blk_lt hk)).trans hk⟩ (KeepsOthers.trans (KeepsOthers.of_grownBy hg4 ?_) (KeepsOthers.trans (KeepsOthers.setCell _ _ _) (KeepsOthers.setCell _ _ _)))) _
      intro j o' ej hj
      obtain ⟨cells, hc⟩ := Kd.R_typed (Kd.R_below HRR.out hd3a) j ej
      rw [hc] at hj
      cases hj
      rfl
    · refine ⟨?_, ?_⟩ <;> (unfold World.cell?; dsimp only; rw [hkeep _ (by omega) (by omega) (by omega)])
    · have e1 : (((pre ++ [x]).length : Nat) : Int) = (i : Int) + 1 := by rw [List.length_append, hi]; rfl
      have eS : w4.setCells gR ((r : Int).toNat * (Kd.slice 3 (Kd.int .i64)).sz + 0) [.slice A4 n4 c4] = w4.setCell ⟨gR, r, none⟩ (.slice A4 n4 c4) := by
        rw [er]; rfl
      have h4 := Kd.H_grown (Kd.H_below (Kd.H_widen HHH.out) hd3a) hg4 (fun k e => .inl (HRR.out.1 k e))
      have h5 := (Kd.H_seg h4 (by omega) (by omega) (seg := [.slice A4 n4 c4]) (j := 0) (by show 0 + 1 ≤ 1; omega) (fun q hq => by rw [List.mem_singleton.1 hq]; rfl)).1
      rw [eS] at h5
      have hokg : ∀ k, (oki k ∨ W.heap.size ≤ k) → k ≠ gR := fun k hk => by
        rcases hk with hk | hk
        · exact (hoki k hk).2
        · omega
      have hR5 := Kd.R_far hR4 (p := ⟨gR, r, none⟩) (fun k hk => hokg k hk) (.slice A4 n4 c4)
      have hS5 := Kd.H_back h5 (x' := rows.getD r [] ++ [tv]) ⟨_, rfl, hR5⟩ (fun k hk => hk.imp id (fun h => ⟨.inr (Nat.le_trans hW1 h), h⟩))
      have hS6 := Kd.S_far hS5 (p := ⟨O + 1, 0, none⟩) (fun k hk => by show k ≠ O + 1; rcases hk with hk | hk <;> omega) (.int .i64 ((i : Int) + 1))
      have eR : unRows ch ((pre ++ [x]).map fun x => vs.getD x.1 0) = rows.set (r : Int).toNat (rows.getD r [] ++ [tv]) := by
        rw [List.map_append]
        show unRows ch ((pre.map fun x => vs.getD x.1 0) ++ [vs.getD x.1 0]) = _
        rw [htv, HSN.out, HROWS.out]
        unfold unStep
        rw [hr, Int.toNat_natCast]
      refine ⟨(hkeep _ (by omega) (by omega) (by omega)).trans hF1, (hkeep _ (by omega) (by omega) (by omega)).trans hC1, (hkeep _ (by omega) (by omega) (by omega)).trans hO1, ?_, ?_, ?_, ?_⟩
      · rw [e1]; exact Boxed.set _ bI5
      · rw [eR]; exact hS6
      · exact Below.setCell (p := ⟨O + 1, 0, none⟩) (Below.setCell (p := ⟨gR, r, none⟩) hB4 hgR0 _) (by show w.heap.size ≤ O + 1; omega) _
      · have h2 := hg4.size
        have h3 : ((w4.setCell ⟨gR, r, none⟩ (.slice A4 n4 c4)).setCell ⟨O + 1, 0, none⟩ (.int .i64 ((i : Int) + 1))).heap.size = w4.heap.size := by simp
        rw [h3]
        exact Nat.le_trans hW1 (Nat.le_trans hd3a.size h2)
  case done =>
    rintro D ys W hD ⟨K, hK1, hK2⟩ hI hK
    have hKN : K = cnt := by
      have h2 : ∀ z, z < K → z * n < len := fun z hz => by
        have hm : z ∈ List.range K := List.mem_range.2 hz
        rw [← hK1] at hm
        obtain ⟨y, _, e⟩ := List.mem_map.1 hm
        rw [← e]
        exact y.2
      have hc := HCNT.out
      have h3 : cnt ≤ K := by
        refine Nat.le_of_mul_le_mul_right (c := n) ?_ hn1
        rw [← hc]; exact hK2
      rcases Nat.eq_zero_or_pos K with h0 | h0
      · omega
      · have h4 := h2 (K - 1) (by omega)
        have h5 : K - 1 < cnt := Nat.lt_of_mul_lt_mul_right (show (K - 1) * n < cnt * n by rw [← hc]; exact h4)
        omega
    have hys : (ys.map fun x => vs.getD x.1 0) = vs := by
      have e : (ys.map fun x => vs.getD x.1 0) = (ys.map (·.1)).map (fun j => vs.getD j 0) := by rw [List.map_map]; rfl
      rw [e, hK1, hKN]
      refine List.ext_getElem (by rw [List.length_map, List.length_range, HVL2.out]) ?_
      intro j h1 h2
      rw [List.getElem_map, List.getElem_range, List.getD_eq_getElem?_getD, List.getElem?_eq_getElem h2]
      rfl
    have hI2 := (unI_own a b ch vs len n w O gR cap1 (S0 + 2) (by omega) hFO).putObj (.deferred none) hI (by rw [← hN0]; exact hD) hK rfl
    obtain ⟨_, _, hO1, _, _, _, _⟩ := hI
    obtain ⟨_, _, _, _, hS2, hB2, _⟩ := hI2
    rw [hys] at hS2
    have hc := hO1.cell
    have HS2 := AsideR.mk hS2
    have HB2 := AsideR.mk hB2
    clear hS2 hB2 hys hKN hK1 hK2
    gi_wp2
    refine ⟨by simp, .inl ⟨_, _, rfl, run_takeDeferred hK, ?_⟩⟩
    exact ⟨_, results_tmp2 rfl _ _ _, .slice (some ⟨gR, 0, none⟩) ch cap1, rfl, Kd.S_mono HS2.out (fun _ _ => trivial), HB2.out⟩
  case stop =>
    rintro D c pre W _ _ h _
    exact h.elim
set_option maxHeartbeats 4000000 in
theorem unpack_e7 (a : Int) (b : Bool) (a1 : Int) (A : Option Addr) (len c0 : Nat) (w : World) (hG : pack_Form_Good.f a b = some false) :
    Calls Try.prog 25 #[.agg #[.int .i64 a, .bool b], .int .i64 a1, .slice A len c0] w fun e w' => e = .returned (.tuple #[.slice none 0 0, .int .i64 7]) ∧ Below w.heap.size w w' := by
  have HGd := AsideR.mk (fun W => pack_Form_Good.calls a b false W hG)
  have hu23 := Try.underlying46
  clear hG
  go_enter Try.func25, Try.ntmps25
  go_wp2_with (first | ((with_reducible refine gate_dst (N := 3) rfl ?_); refine box_event ?hg (N := 3) ?hd (cs := #[.int .i64 a, .bool b]) (t := 46) ?hr ?_; (case hd => rfl); (case hg => rfl); (case hr => first | (go_simp; done) | (go_simp; rfl)); intro g1 hg1 wx hbox1 hb1; clear hg1; have HX := AsideR.mk hbox1; have HBX := AsideR.mk hb1; clear hbox1 hb1) | ((with_reducible refine gate_dst (N := 4) rfl ?_); refine box_event ?hg (N := 4) ?hd (cs := #[.int .i64 a1]) (t := 3) ?hr ?_; (case hd => rfl); (case hg => rfl); (case hr => first | (go_simp; done) | (go_simp; rfl)); intro g2 hg2 wy hbox2 hb2; clear hg2; have HX2 := AsideR.mk (blk_below HX.out hb2); have HBY := AsideR.mk (below_step HBX.out hb2); have f0 := (blk_cell HX2.out 0).trans rfl; have f1 := (blk_cell HX2.out 1).trans rfl; clear hbox2 hb2) | (go_at_call 29; refine (HGd.out _).mono ?_; rintro e wz ⟨rfl, hd⟩; have HD := AsideR.mk (below_step HBY.out hd); clear hd))
  go_ret2
  exact ⟨rfl, HD.out⟩
set_option maxHeartbeats 4000000 in
theorem unpack_e8 (a : Int) (b : Bool) (a1 : Int) (A : Option Addr) (len c0 : Nat) (w : World) (hG : pack_Form_Good.f a b = some true) (hC : pack_count.f a1 = some false) :
    Calls Try.prog 25 #[.agg #[.int .i64 a, .bool b], .int .i64 a1, .slice A len c0] w fun e w' => e = .returned (.tuple #[.slice none 0 0, .int .i64 8]) ∧ Below w.heap.size w w' := by
  have HGd := AsideR.mk (fun W => pack_Form_Good.calls a b true W hG)
  have HCt := AsideR.mk (fun W => pack_count.calls a1 false W hC)
  have hu23 := Try.underlying46
  clear hG hC
  go_enter Try.func25, Try.ntmps25
  go_wp2_with (first | ((with_reducible refine gate_dst (N := 3) rfl ?_); refine box_event ?hg (N := 3) ?hd (cs := #[.int .i64 a, .bool b]) (t := 46) ?hr ?_; (case hd => rfl); (case hg => rfl); (case hr => first | (go_simp; done) | (go_simp; rfl)); intro g1 hg1 wx hbox1 hb1; clear hg1; have HX := AsideR.mk hbox1; have HBX := AsideR.mk hb1; clear hbox1 hb1) | ((with_reducible refine gate_dst (N := 4) rfl ?_); refine box_event ?hg (N := 4) ?hd (cs := #[.int .i64 a1]) (t := 3) ?hr ?_; (case hd => rfl); (case hg => rfl); (case hr => first | (go_simp; done) | (go_simp; rfl)); intro g2 hg2 wy hbox2 hb2; clear hg2; have HX2 := AsideR.mk (blk_below HX.out hb2); have HBY := AsideR.mk (below_step HBX.out hb2); have f0 := (blk_cell HX2.out 0).trans rfl; have f1 := (blk_cell HX2.out 1).trans rfl; have HC2 := AsideR.mk hbox2; clear hbox2 hb2) | (go_at_call 29; refine (HGd.out _).mono ?_; rintro e wz ⟨rfl, hd⟩; have HD := AsideR.mk (below_step HBY.out hd); have f2 := (blk_cell (blk_below HC2.out hd) 0).trans rfl; clear hd) | (go_at_call 40; refine (HCt.out _).mono ?_; rintro e wb ⟨rfl, hd⟩; have HDb := AsideR.mk (below_step HD.out hd.below); clear hd))
  go_ret2
  exact ⟨rfl, HDb.out⟩
set_option maxRecDepth 100000 in
set_option maxHeartbeats 4000000 in
theorem unpack_e3 (a : Int) (b : Bool) (ch n : Nat) (A : Option Addr) (len c0 : Nat) (w : World) (hG : pack_Form_Good.f a b = some true) (hC : pack_count.f (ch : Int) = some true) (hS : pack_Form_size.f a b = some (n : Int)) (hl : len ≤ 100000) (hn : 1 ≤ n ∧ n ≤ 3) (hch : 1 ≤ ch ∧ ch ≤ 8) (hm : ¬ (len % (ch * n) = 0)) :
    Calls Try.prog 25 #[.agg #[.int .i64 a, .bool b], .int .i64 (ch : Int), .slice A len c0] w fun e w' => e = .returned (.tuple #[.slice none 0 0, .int .i64 3]) ∧ Below w.heap.size w w' := by
  have HGd := AsideR.mk (fun W => pack_Form_Good.calls a b true W hG)
  have HCt := AsideR.mk (fun W => pack_count.calls (ch : Int) true W hC)
  have HSz := AsideR.mk (fun W => pack_Form_size.calls a b (n : Int) W hS)
  have hu23 := Try.underlying46
  clear hG hC hS
  obtain ⟨m, hm2⟩ : ∃ m, ch * n = m := ⟨_, rfl⟩
  have hm1 : 1 ≤ m := by rw [← hm2]; exact Nat.mul_le_mul hch.1 hn.1
  have hm3 : m ≤ 24 := by rw [← hm2]; exact Nat.mul_le_mul hch.2 hn.2
  have hmul : wrap64 ((ch : Int) * (n : Int)) = (m : Int) := by rw [← Int.natCast_mul, hm2]; unfold wrap64; omega
  have hz0 : ¬ (m = 0) := by omega
  rw [hm2] at hm
  obtain ⟨rr, hrr⟩ : ∃ rr, len % m = rr := ⟨_, rfl⟩
  rw [hrr] at hm
  have hmod : Int.tmod (len : Int) (m : Int) = (rr : Int) := by
    have h2 : Int.tmod (len : Int) (m : Int) = ((len % m : Nat) : Int) := rfl
    rw [h2, hrr]
  clear hm2 hrr hm1 hm3
  go_enter Try.func25, Try.ntmps25
  go_wp2_with (first | ((with_reducible refine gate_dst (N := 3) rfl ?_); refine box_event ?hg (N := 3) ?hd (cs := #[.int .i64 a, .bool b]) (t := 46) ?hr ?_; (case hd => rfl); (case hg => rfl); (case hr => first | (go_simp; done) | (go_simp; rfl)); intro g1 hg1 wx hbox1 hb1; clear hg1; have HX := AsideR.mk hbox1; have HBX := AsideR.mk hb1; clear hbox1 hb1) | ((with_reducible refine gate_dst (N := 4) rfl ?_); refine box_event ?hg (N := 4) ?hd (cs := #[.int .i64 (ch : Int)]) (t := 3) ?hr ?_; (case hd => rfl); (case hg => rfl); (case hr => first | (go_simp; done) | (go_simp; rfl)); intro g2 hg2 wy hbox2 hb2; clear hg2; have HX2 := AsideR.mk (blk_below HX.out hb2); have HBY := AsideR.mk (below_step HBX.out hb2); have f0 := (blk_cell HX2.out 0).trans rfl; have f1 := (blk_cell HX2.out 1).trans rfl; have HC2 := AsideR.mk hbox2; clear hbox2 hb2) | (go_at_call 29; refine (HGd.out _).mono ?_; rintro e wz ⟨rfl, hd⟩; have HD := AsideR.mk (below_step HBY.out hd); have HX3 := AsideR.mk (blk_below HX2.out hd); have HC3 := AsideR.mk (blk_below HC2.out hd); have f2 := (blk_cell HC3.out 0).trans rfl; clear hd f0 f1) | (go_at_call 40; refine (HCt.out _).mono ?_; rintro e wb ⟨rfl, hd⟩; have HDb := AsideR.mk (below_step HD.out hd.below); have HX4 := AsideR.mk (blk_below HX3.out hd.below); have HC4 := AsideR.mk (blk_below HC3.out hd.below); clear hd f2))
  have f0 := (blk_cell HX4.out 0).trans rfl
  have f1 := (blk_cell HX4.out 1).trans rfl
  have f2 := (blk_cell HC4.out 0).trans rfl
  refine start_ (n := 9) (S := fun w' => w'.cell? ⟨g1, 0, none⟩ = some (.int .i64 a) ∧ w'.cell? ⟨g1, 1, none⟩ = some (.bool b) ∧ w'.cell? ⟨g2, 0, none⟩ = some (.int .i64 (ch : Int))) (ds := []) #[false, false, false, false, false, false, false, false, false] (by kernel_rfl) rfl rfl ⟨f0, f1, f2⟩ (fun hHeld => ?_)
  refine pure_ (i := 0) (N := some 20) (v := ?_) (a' := ?_) #[true, false, false, false, false, false, false, false, false] rfl rfl (by kernel_rfl) (fun _ _ _ h => h) (Or.inl ⟨by rfl, ?_⟩) ?_ ?_
  rotate_left
  · intro w'
    go_simp
    with_reducible rfl
  rotate_left
  · simp only [Act.put, List.setIfInBounds_toArray, List.set_cons_zero, List.set_cons_succ, i64_w, i32_w]
    rfl
  refine pure_ (i := 1) (N := some 21) (v := ?_) (a' := ?_) #[true, true, false, false, false, false, false, false, false] rfl rfl (by kernel_rfl) (fun _ _ _ h => h) (Or.inl ⟨by rfl, ?_⟩) ?_ ?_
  rotate_left
  · intro w'
    go_simp
    with_reducible rfl
  rotate_left
  · simp only [Act.put, List.setIfInBounds_toArray, List.set_cons_zero, List.set_cons_succ, i64_w, i32_w]
    rfl
  refine take_ (i := 2) (N := some 22) (v := ?_) (a' := ?_) #[true, true, true, false, false, false, false, false, false] rfl rfl (by kernel_rfl) (fun _ _ _ h => h) (Or.inl ⟨by rfl, ?_⟩) hHeld ?_ ?_
  rotate_left
  · rintro w' ⟨s0, s1, s2⟩
    go_simp
    with_reducible rfl
  rotate_left
  · simp only [Act.put, List.setIfInBounds_toArray, List.set_cons_zero, List.set_cons_succ, i64_w, i32_w]
    rfl
  refine take_ (i := 3) (N := some 23) (v := ?_) (a' := ?_) #[true, true, true, true, false, false, false, false, false] rfl rfl (by kernel_rfl) (fun _ _ _ h => h) (Or.inl ⟨by rfl, ?_⟩) hHeld ?_ ?_
  rotate_left
  · rintro w' ⟨s0, s1, s2⟩
    go_simp
    with_reducible rfl
  rotate_left
  · simp only [Act.put, List.setIfInBounds_toArray, List.set_cons_zero, List.set_cons_succ, i64_w, i32_w]
    rfl
  refine one_ (i := 4) (N := some 24) #[true, true, true, true, true, false, false, false, false] rfl rfl (by kernel_rfl) (by decide) (fun K hK => ?_)
  refine goes_ Try.func41 (by kernel_rfl) rfl #[.agg #[.int .i64 a, .bool b]] (by rfl) rfl rfl (by simp only [List.map_toArray, List.map_cons, List.map_nil]; rfl) ?_
  with_reducible refine (HSz.out _).mono ?_
  rintro e wc ⟨rfl, hdc⟩
  refine ⟨_, rfl, ?_⟩
  refine hK.out _ _ ⟨(blk_cell (blk_below (w := wb.drew) HX4.out hdc) 0).trans rfl, (blk_cell (blk_below (w := wb.drew) HX4.out hdc) 1).trans rfl, (blk_cell (blk_below (w := wb.drew) HC4.out hdc) 0).trans rfl⟩ (fun hHeld => ?_)
  clear hK K
  refine norm_ (a' := ?_) ?_ ?_
  rotate_left
  · show Act.put _ (some 24) _ = _
    simp only [Act.put, List.setIfInBounds_toArray, List.set_cons_zero, List.set_cons_succ, i64_w, i32_w]
    rfl
  refine pure_ (i := 5) (N := some 25) (v := ?_) (a' := ?_) #[true, true, true, true, true, true, false, false, false] rfl rfl (by kernel_rfl) (fun _ _ _ h => h) (Or.inl ⟨by rfl, ?_⟩) ?_ ?_
  rotate_left
  · intro w'
    go_simp
    with_reducible rfl
  rotate_left
  · simp only [Act.put, List.setIfInBounds_toArray, List.set_cons_zero, List.set_cons_succ, i64_w, i32_w]
    rfl
  refine pure_ (i := 6) (N := some 26) (v := ?_) (a' := ?_) #[true, true, true, true, true, true, true, false, false] rfl rfl (by kernel_rfl) (fun _ _ _ h => h) (Or.inl ⟨by rfl, ?_⟩) ?_ ?_
  rotate_left
  · intro w'
    go_simp
    with_reducible rfl
  rotate_left
  · simp only [Act.put, List.setIfInBounds_toArray, List.set_cons_zero, List.set_cons_succ, i64_w, i32_w]
    rfl
  refine pure_ (i := 7) (N := some 27) (v := ?_) (a' := ?_) #[true, true, true, true, true, true, true, true, false] rfl rfl (by kernel_rfl) (fun _ _ _ h => h) (Or.inl ⟨by rfl, ?_⟩) ?_ ?_
  rotate_left
  · intro w'
    go_simp
    with_reducible rfl
  rotate_left
  · simp only [Act.put, List.setIfInBounds_toArray, List.set_cons_zero, List.set_cons_succ, i64_w, i32_w]
    rfl
  refine pure_ (i := 8) (N := some 19) (v := ?_) (a' := ?_) #[true, true, true, true, true, true, true, true, true] rfl rfl (by kernel_rfl) (fun _ _ _ h => h) (Or.inl ⟨by rfl, ?_⟩) ?_ ?_
  rotate_left
  · intro w'
    go_simp
    with_reducible rfl
  rotate_left
  · simp only [Act.put, List.setIfInBounds_toArray, List.set_cons_zero, List.set_cons_succ, i64_w, i32_w]
    rfl
  refine done_ (by kernel_rfl) ?_
  have HDc := AsideR.mk (below_step (below_drew HDb.out) hdc)
  go_wp2
  go_ret2
  exact ⟨rfl, HDc.out⟩
def pack_Unpack.f (k : Nat) (a0_0 : Int) (a0_1 : Bool) (a1 : Int) (l2 : List Int) : Option (List (List Int) × Int) :=
  if l2.length ≤ 100000 then
    if a0_0 = 8 ∨ a0_0 = 16 ∨ a0_0 = 24 then
      if 1 ≤ a1 ∧ a1 ≤ 8 then
        if l2.length % (a1.toNat * (a0_0 / 8).toNat) = 0 then
          (unTakes k a0_0 a0_1 l2 (a0_0 / 8).toNat (l2.length / (a0_0 / 8).toNat) 0).bind fun vs => some (unRows a1.toNat vs, 0)
        else some ([], 3)
      else some ([], 8)
    else some ([], 7)
  else none
set_option maxHeartbeats 4000000 in
theorem pack_Unpack.calls (k : Nat) (a0_0 : Int) (a0_1 : Bool) (a1 : Int) (A2 : Option Addr) (c2 : Nat) (l2 : List Int) (r1 : List (List Int)) (r2 : Int) (w : World) (hr2 : Kd.C (Kd.int .u8) w A2 l2.length l2) (hc2 : l2.length ≤ c2) (h : pack_Unpack.f k a0_0 a0_1 a1 l2 = some (r1, r2)) :
    Calls Try.prog 25 #[.agg #[.int .i64 a0_0, .bool a0_1], .int .i64 a1, .slice A2 l2.length c2] w fun e w' => ∃ v0_ : Value, e = .returned (.tuple #[v0_, .int .i64 r2]) ∧ Kd.S (Kd.slice 3 (Kd.int .i64)) 40 w' w.heap.size (fun _ => True) v0_ r1 ∧ Below w.heap.size w w' := by
  have bad : ∀ {c : Int} {w0 : World}, (Calls Try.prog 25 #[.agg #[.int .i64 a0_0, .bool a0_1], .int .i64 a1, .slice A2 l2.length c2] w0 fun e w' => e = .returned (.tuple #[.slice none 0 0, .int .i64 c]) ∧ Below w0.heap.size w0 w') →
      Calls Try.prog 25 #[.agg #[.int .i64 a0_0, .bool a0_1], .int .i64 a1, .slice A2 l2.length c2] w0 fun e w' => ∃ v0_ : Value, e = .returned (.tuple #[v0_, .int .i64 c]) ∧ Kd.S (Kd.slice 3 (Kd.int .i64)) 40 w' w0.heap.size (fun _ => True) v0_ [] ∧ Below w0.heap.size w0 w' :=
    fun h => h.mono (fun e w' hw => ⟨_, hw.1, Kd.S_nil _ _ _ _ _, hw.2⟩)
  unfold pack_Unpack.f at h
  by_cases hl : l2.length ≤ 100000
  · rw [if_pos hl] at h
    by_cases hg : a0_0 = 8 ∨ a0_0 = 16 ∨ a0_0 = 24
    · rw [if_pos hg] at h
      have hG : pack_Form_Good.f a0_0 a0_1 = some true := by rcases hg with rfl | rfl | rfl <;> rfl
      obtain ⟨n, hn, ha, hq, hS⟩ : ∃ n : Nat, (1 ≤ n ∧ n ≤ 3) ∧ a0_0 = 8 * (n : Int) ∧ (a0_0 / 8).toNat = n ∧ pack_Form_size.f a0_0 a0_1 = some (n : Int) := by
        rcases hg with rfl | rfl | rfl
        · exact ⟨1, by omega, by rfl, by decide, by cases a0_1 <;> decide +kernel⟩
        · exact ⟨2, by omega, by rfl, by decide, by cases a0_1 <;> decide +kernel⟩
        · exact ⟨3, by omega, by rfl, by decide, by cases a0_1 <;> decide +kernel⟩
      rw [hq] at h
      by_cases hc : 1 ≤ a1 ∧ a1 ≤ 8
      · rw [if_pos hc] at h
        have hC : pack_count.f a1 = some true := by unfold pack_count.f; rw [if_pos (by omega), decide_eq_true (by omega)]
        obtain ⟨ch, rfl⟩ : ∃ ch : Nat, a1 = (ch : Int) := ⟨a1.toNat, by omega⟩
        rw [Int.toNat_natCast] at h
        by_cases hm : l2.length % (ch * n) = 0
        · rw [if_pos hm] at h
          obtain ⟨vs, hv, h2⟩ := Option.bind_eq_some_iff.1 h
          injection h2 with h2
          injection h2 with h3 h4
          subst h3 h4
          exact callsIn_wide.1 (unpack_in k a0_0 a0_1 A2 c2 l2 n ch vs w hr2 hc2 hl hn ha (by omega) hm hv)
        · rw [if_neg hm] at h
          injection h with h2
          injection h2 with h3 h4
          subst h3 h4
          exact bad (unpack_e3 a0_0 a0_1 ch n A2 l2.length c2 w hG hC hS hl hn (by omega) hm)
      · rw [if_neg hc] at h
        injection h with h2
        injection h2 with h3 h4
        subst h3 h4
        refine bad (unpack_e8 a0_0 a0_1 a1 A2 l2.length c2 w hG ?_)
        unfold pack_count.f
        by_cases h1 : a1 ≥ 1
        · rw [if_pos h1, decide_eq_false (by omega)]
        · rw [if_neg h1]
    · rw [if_neg hg] at h
      injection h with h2
      injection h2 with h3 h4
      subst h3 h4
      refine bad (unpack_e7 a0_0 a0_1 a1 A2 l2.length c2 w ?_)
      unfold pack_Form_Good.f
      have g1 : ¬ (a0_0 = 8) := fun e => hg (.inl e)
      have g2 : ¬ (a0_0 = 16) := fun e => hg (.inr (.inl e))
      have g3 : ¬ (a0_0 = 24) := fun e => hg (.inr (.inr e))
      simp [g1, g2, g3]
  · rw [if_neg hl] at h
    cases h

end Go.Proofs.Ytliidobbkfmndaa.HW2

namespace Go.Proofs.Ytliidobbkfmndaa.PackSpec
open Go Go.RowKit Go.Proofs.Ytliidobbkfmndaa.HW2 Go.Proofs.YtliidobbkfmndaaW.PrintWords Go.Proofs.YtliidobbkfmndaaW.PrintLast

def Bytes_ (l : List Int) : Prop := ∀ x ∈ l, 0 ≤ x ∧ x < 256
theorem wraps_i64 (n : Int) (h0 : 0 ≤ n) (h1 : n < 2 ^ 40) : IntKind.i64.wrap n = n := by rw [IntKind.wrap_i64]; omega
theorem or_byte (s x : Int) (h0 : 0 ≤ s) (h1 : s < 16777216) (hx : 0 ≤ x ∧ x < 256) : Go.bits .or .i64 (s * 256) x = s * 256 + x :=
  bits_join .i64 40 (by decide) wraps_i64 8 (s * 256) x (by omega) (by show s * 256 % 256 = 0; omega) (by show s * 256 < 1099511627776; omega) hx.1 (by show x < 256; omega) (by show x < 1099511627776; omega)
theorem shl_lim {a : Int} (G : GoodF a) : 0 ≤ wrap64 (a - 1) ∧ shl .i64 1 (wrap64 (a - 1)) = lim a ∧ shl .i64 1 a = 2 * lim a ∧ 0 ≤ a ∧ 0 < lim a ∧ lim a ≤ 8388608 := by
  rcases G with rfl | rfl | rfl <;> decide +kernel
end Go.Proofs.Ytliidobbkfmndaa.PackSpec

namespace Go.Proofs.Ytliidobbkfmndaa.PackDoc
open Go Go.RowKit Go.Proofs.Ytliidobbkfmndaa.HW2 Go.Proofs.Ytliidobbkfmndaa.PackSpec Go.Proofs.YtliidobbkfmndaaW.PrintWords Go.Proofs.YtliidobbkfmndaaW.PrintLast
open Go.Proofs.Ytliidobbkfmndaa.BitStr (str putL put_spec bytes_spec bits8 putL_bytes3 putL_add putL_mod)
/-! What is wrong with channels, told alike. -/
def fitB (a v : Int) : Bool := decide (-lim a ≤ v ∧ v < lim a)
def codeV (a : Int) (l : List (List Int)) : Int := if l.all (fun x => x.all (fitB a)) then 0 else 9
theorem codeV_cons (a : Int) (x : List Int) (l : List (List Int)) : codeV a (x :: l) = if x.all (fitB a) then codeV a l else 9 := by
  unfold codeV
  rw [List.all_cons]
  cases x.all (fitB a) <;> simp
def codeL (a : Int) (n : Int) (l m : List (List Int)) : Int := if m.all (fun x => decide ((x.length : Int) = n)) then codeV a l else 8
def codeC (a : Int) (l : List (List Int)) : Int := if GoodF a then (if 1 ≤ l.length ∧ l.length ≤ 8 then codeL a ((rd_L1 l 0).length : Int) l l else 8) else 7
theorem codeL_cons (a : Int) (n : Int) (l : List (List Int)) (x : List Int) (m : List (List Int)) : codeL a n l (x :: m) = if (x.length : Int) = n then codeL a n l m else 8 := by
  unfold codeL
  rw [List.all_cons]
  by_cases h : (x.length : Int) = n
  · rw [decide_eq_true h, Bool.true_and, if_pos h]
  · rw [decide_eq_false h, Bool.false_and, if_neg h]; rfl
theorem any_lacks {a : Int} (G : GoodF a) (b : Bool) (x : List Int) : pack_anyLacks.f x a b = some (!x.all (fitB a)) := by
  unfold pack_anyLacks.f
  have e : ∀ v, pack_Form_lacks.f a b v = some (!fitB a v) := fun v => by unfold pack_Form_lacks.f; rw [form_has G]; rfl
  rw [if_pos (by simp [e])]
  congr 1
  rw [List.not_all_eq_any_not]
  congr 1
  funext v
  rw [e]
  cases fitB a v <;> rfl
theorem pk_l1 {a : Int} (G : GoodF a) (b : Bool) (l : List (List Int)) (hl : l.length ≤ 12) : ∀ (d K i : Nat), i + d = l.length → d < K → pack_Check.l1 K l (l.length : Int) (i : Int) a b = some (codeV a (l.drop i)) := by
  intro d
  induction d with
  | zero =>
    intro K i hi hK
    obtain ⟨K, rfl⟩ : ∃ m, K = m + 1 := ⟨K - 1, by omega⟩
    simp only [pack_Check.l1]
    rw [if_neg (by omega), List.drop_eq_nil_of_le (by omega)]; rfl
  | succ d ih =>
    intro K i hi hK
    obtain ⟨K, rfl⟩ : ∃ m, K = m + 1 := ⟨K - 1, by omega⟩
    have hi' : i < l.length := by omega
    simp only [pack_Check.l1]
    rw [if_pos (by omega), if_pos (by omega), if_pos (by omega), rd1_nat l i hi', any_lacks G, Option.bind_some, List.drop_eq_getElem_cons hi', codeV_cons, wrap_id (by omega) (by omega)]
    have := ih K (i + 1) (by omega) (by omega)
    rw [show ((i + 1 : Nat) : Int) = (i : Int) + 1 by omega] at this
    rw [this]
    cases l[i].all (fitB a) <;> rfl
theorem pk_l0 {a : Int} (G : GoodF a) (b : Bool) (l : List (List Int)) (h1 : 1 ≤ l.length) (hl : l.length ≤ 12) : ∀ (d K i : Nat), i + d = l.length → d + 20 < K → pack_Check.l0 K l l (l.length : Int) (i : Int) a b = some (codeL a ((rd_L1 l 0).length : Int) l (l.drop i)) := by
  intro d
  induction d with
  | zero =>
    intro K i hi hK
    obtain ⟨K, rfl⟩ : ∃ m, K = m + 1 := ⟨K - 1, by omega⟩
    simp only [pack_Check.l0]
    have := pk_l1 G b l hl l.length K 0 (by omega) (by omega)
    rw [show ((0 : Nat) : Int) = 0 from rfl] at this
    rw [if_neg (by omega), List.drop_eq_nil_of_le (by omega), this]; rfl
  | succ d ih =>
    intro K i hi hK
    obtain ⟨K, rfl⟩ : ∃ m, K = m + 1 := ⟨K - 1, by omega⟩
    have hi' : i < l.length := by omega
    simp only [pack_Check.l0]
    rw [if_pos (by omega), if_pos (by omega), if_pos (by omega), if_pos (by omega), rd1_nat l i hi', List.drop_eq_getElem_cons hi', codeL_cons, wrap_id (by omega) (by omega)]
    have := ih K (i + 1) (by omega) (by omega)
    rw [show ((i + 1 : Nat) : Int) = (i : Int) + 1 by omega] at this
    rw [this]
    split <;> rfl
theorem head_len (l : List (List Int)) (h1 : 1 ≤ l.length) (hr : ∀ x ∈ l, x.length ≤ 200) : (rd_L1 l 0).length ≤ 200 := by
  have z0 := rd1_nat l 0 (by omega)
  rw [show ((0 : Nat) : Int) = 0 from rfl] at z0
  rw [z0]; exact hr _ (List.getElem_mem _)
theorem pk_check (a : Int) (b : Bool) (l : List (List Int)) (hl : l.length ≤ 12) (hr : ∀ x ∈ l, x.length ≤ 200) (K : Nat) (hK : 100 ≤ K) : pack_Check.f K a b l = some (codeC a l) := by
  unfold pack_Check.f codeC
  rw [good_form, Option.bind_some]
  by_cases G : GoodF a
  · rw [decide_eq_true G, if_pos rfl, if_pos G]
    by_cases h : 1 ≤ l.length ∧ l.length ≤ 8
    · have hc : pack_count.f (l.length : Int) = some true := by unfold pack_count.f; rw [if_pos (by omega), decide_eq_true (by omega)]
      have := head_len l h.1 hr
      rw [hc, Option.bind_some, if_pos rfl, if_pos (by omega), if_neg (by omega), if_pos h]
      have := pk_l0 G b l h.1 hl l.length K 0 (by omega) (by omega)
      simpa using this
    · have hc : pack_count.f (l.length : Int) = some false := by
        unfold pack_count.f
        by_cases h2 : (l.length : Int) ≥ 1
        · rw [if_pos h2, decide_eq_false (by omega)]
        · rw [if_neg h2]
      rw [hc, Option.bind_some, if_neg (by decide), if_neg h]
  · rw [decide_eq_false G, if_neg (by decide), if_neg G]
theorem rk_l2 {a : Int} (G : GoodF a) (b : Bool) (l : List (List Int)) (i : Nat) (hi : i < l.length) (hl : l.length ≤ 12) (hr : l[i].length ≤ 200) (R : Nat) (hR30 : 30 ≤ R) (c : Int)
    (hR : ∀ K, R ≤ K → sackbutref05_Check.l1 K l (l.length : Int) (((i + 1 : Nat) : Int)) a b = some c) :
    ∀ (d K j : Nat), j + d = l[i].length → d + R + 1 ≤ K → sackbutref05_Check.l2 K l (i : Int) (l.length : Int) (i : Int) (l[i].length : Int) (j : Int) a b = some (if (l[i].drop j).all (fitB a) then c else 9) := by
  intro d
  induction d with
  | zero =>
    intro K j hj hK
    obtain ⟨K, rfl⟩ : ∃ m, K = m + 1 := ⟨K - 1, by omega⟩
    simp only [sackbutref05_Check.l2]
    rw [if_neg (by omega), wrap_id (by omega) (by omega), List.drop_eq_nil_of_le (by omega)]
    have e := hR K (by omega)
    rw [show ((i + 1 : Nat) : Int) = (i : Int) + 1 by omega] at e
    rw [e]; rfl
  | succ d ih =>
    intro K j hj hK
    obtain ⟨K, rfl⟩ : ∃ m, K = m + 1 := ⟨K - 1, by omega⟩
    have hj' : j < l[i].length := by omega
    simp only [sackbutref05_Check.l2]
    rw [if_pos (by omega), if_pos (by omega), if_pos (by omega), if_pos (by omega), rd1_nat l i hi, if_pos (by omega), rd_nat _ j hj', ref_has G _ K (by omega), Option.bind_some, List.drop_eq_getElem_cons hj', List.all_cons, wrap_id (by omega) (by omega)]
    have e := ih K (j + 1) (by omega) (by omega)
    rw [show ((j + 1 : Nat) : Int) = (j : Int) + 1 by omega] at e
    rw [e]
    show (if fitB a l[i][j] = true then _ else _) = _
    cases fitB a l[i][j] <;> simp
theorem rk_l1 {a : Int} (G : GoodF a) (b : Bool) (l : List (List Int)) (hl : l.length ≤ 12) (hr : ∀ x ∈ l, x.length ≤ 200) :
    ∀ (d K i : Nat), i + d = l.length → d * 210 + 50 ≤ K → sackbutref05_Check.l1 K l (l.length : Int) (i : Int) a b = some (codeV a (l.drop i)) := by
  intro d
  induction d with
  | zero =>
    intro K i hi hK
    obtain ⟨K, rfl⟩ : ∃ m, K = m + 1 := ⟨K - 1, by omega⟩
    simp only [sackbutref05_Check.l1]
    rw [if_neg (by omega), List.drop_eq_nil_of_le (by omega)]; rfl
  | succ d ih =>
    intro K i hi hK
    obtain ⟨K, rfl⟩ : ∃ m, K = m + 1 := ⟨K - 1, by omega⟩
    have hi' : i < l.length := by omega
    have hl' := hr _ (List.getElem_mem hi')
    simp only [sackbutref05_Check.l1]
    rw [if_pos (by omega), if_pos (by omega), if_pos (by omega), rd1_nat l i hi', List.drop_eq_getElem_cons hi', codeV_cons]
    have e := rk_l2 G b l i hi' hl hl' (d * 210 + 50) (by omega) _ (fun K hK => ih K (i + 1) (by omega) hK) l[i].length K 0 (by omega) (by omega)
    rw [show ((0 : Nat) : Int) = 0 from rfl] at e
    rw [e, List.drop_zero]
theorem rk_l0 {a : Int} (G : GoodF a) (b : Bool) (l : List (List Int)) (h1 : 1 ≤ l.length) (hl : l.length ≤ 12) (hr : ∀ x ∈ l, x.length ≤ 200) :
    ∀ (d K i : Nat), i + d = l.length → d + 3000 ≤ K → sackbutref05_Check.l0 K l (l.length : Int) (i : Int) a b = some (codeL a ((rd_L1 l 0).length : Int) l (l.drop i)) := by
  intro d
  induction d with
  | zero =>
    intro K i hi hK
    obtain ⟨K, rfl⟩ : ∃ m, K = m + 1 := ⟨K - 1, by omega⟩
    simp only [sackbutref05_Check.l0]
    have e := rk_l1 G b l hl hr l.length K 0 (by omega) (by omega)
    rw [show ((0 : Nat) : Int) = 0 from rfl] at e
    rw [if_neg (by omega), List.drop_eq_nil_of_le (by omega), e]; rfl
  | succ d ih =>
    intro K i hi hK
    obtain ⟨K, rfl⟩ : ∃ m, K = m + 1 := ⟨K - 1, by omega⟩
    have hi' : i < l.length := by omega
    have hl' := hr _ (List.getElem_mem hi')
    simp only [sackbutref05_Check.l0]
    rw [if_pos (by omega), if_pos (by omega), if_pos (by omega), if_pos (by omega), rd1_nat l i hi', List.drop_eq_getElem_cons hi', codeL_cons]
    have e := ih K (i + 1) (by omega) (by omega)
    rw [show ((i + 1 : Nat) : Int) = (i : Int) + 1 by omega] at e
    by_cases he : (l[i].length : Int) = ((rd_L1 l 0).length : Int)
    · rw [if_pos he, if_neg (by omega), wrap_id (by omega) (by omega), e, if_pos he]
    · rw [if_neg he, if_neg he]
theorem rk_check (a : Int) (b : Bool) (l : List (List Int)) (hl : l.length ≤ 12) (hr : ∀ x ∈ l, x.length ≤ 200) (K : Nat) (hK : 4000 ≤ K) : sackbutref05_Check.f K a b l = some (codeC a l) := by
  unfold sackbutref05_Check.f codeC
  rw [good_ref, Option.bind_some]
  by_cases G : GoodF a
  · rw [decide_eq_true G, if_pos rfl, if_pos G]
    obtain ⟨K, rfl⟩ : ∃ m, K = m + 1 := ⟨K - 1, by omega⟩
    by_cases h1 : (l.length : Int) < 1
    · rw [if_pos h1, if_neg (by omega)]; simp only [sackbutref05_Check.j0, if_true]
    · rw [if_neg h1]; simp only [sackbutref05_Check.j0]
      by_cases h8 : (l.length : Int) > 8
      · rw [if_pos (by simpa using h8), if_neg (by omega)]
      · rw [if_neg (by simpa using h8), if_pos (by omega)]
        have e := rk_l0 G b l (by omega) hl hr l.length K 0 (by omega) (by omega)
        rw [show ((0 : Nat) : Int) = 0 from rfl] at e
        rw [e, List.drop_zero]
  · rw [decide_eq_false G, if_neg (by decide), if_neg G]
theorem fits_code {a : Int} {l : List (List Int)} (hr : ∀ x ∈ l, x.length ≤ 200) (h : codeC a l = 0) : ∃ n, Fits a l n ∧ n ≤ 200 := by
  unfold codeC at h
  by_cases G : GoodF a
  · rw [if_pos G] at h
    by_cases h8 : 1 ≤ l.length ∧ l.length ≤ 8
    · rw [if_pos h8] at h
      unfold codeL at h
      by_cases hs : l.all (fun x => decide ((x.length : Int) = ((rd_L1 l 0).length : Int))) = true
      · rw [if_pos hs] at h
        unfold codeV at h
        by_cases hv : l.all (fun x => x.all (fitB a)) = true
        · refine ⟨(rd_L1 l 0).length, ⟨G, h8.1, h8.2, fun x hx => ?_, ?_, fun x hx v hv2 => ?_⟩, head_len l h8.1 hr⟩
          · have := of_decide_eq_true (List.all_eq_true.1 hs x hx)
            omega
          · have := head_len l h8.1 hr; omega
          · exact of_decide_eq_true (List.all_eq_true.1 (List.all_eq_true.1 hv x hx) v hv2)
        · rw [if_neg hv] at h; cases h
      · rw [if_neg hs] at h; cases h
    · rw [if_neg h8] at h; cases h
  · rw [if_neg G] at h; cases h

/-! A sample's bytes, as the document has them. -/
theorem putL_bytes1 (v : Nat) : putL 8 v = bits8 [v % 256] := by
  unfold bits8
  simp only [List.flatMap_cons, List.flatMap_nil, List.append_nil]
  rw [show (256 : Nat) = 2 ^ 8 from rfl, putL_mod]
theorem putL_bytes2 (v : Nat) : putL 16 v = bits8 [v / 256 % 256, v % 256] := by
  unfold bits8
  simp only [List.flatMap_cons, List.flatMap_nil, List.append_nil]
  rw [show (16 : Nat) = 8 + 8 from rfl, putL_add 8 8 v]
  rw [show (256 : Nat) = 2 ^ 8 from rfl, putL_mod, putL_mod]
theorem power_full {a : Int} (G : GoodF a) (K : Nat) (hK : 40 ≤ K) : sackbutref01_Power.f K a = some (2 * lim a) := by
  obtain ⟨K, rfl⟩ : ∃ m, K = m + 40 := ⟨K - 40, by omega⟩
  rcases G with rfl | rfl | rfl <;> simp [sackbutref01_Power.f, sackbutref01_Power.l0, wrap64, lim]
theorem signed_spec {a : Int} (G : GoodF a) (v : Int) (hv : -lim a ≤ v ∧ v < lim a) (K : Nat) (hK : 40 ≤ K) : sackbutref01_Signed.f K v a = some (str (putL a.toNat (v % (2 * lim a)).toNat)) := by
  obtain ⟨g1, g2, g3, g4, g5, g6⟩ := shl_lim G
  have ha : a.toNat ≤ 24 ∧ a = (a.toNat : Int) := by rcases G with rfl | rfl | rfl <;> decide
  unfold sackbutref01_Signed.f
  by_cases h : v < 0
  · have e : v % (2 * lim a) = v + 2 * lim a := by
      rw [← Int.add_emod_right, Int.emod_eq_of_lt (by omega) (by omega)]
    rw [if_pos h, power_full G K hK, Option.bind_some, wrap_id (by omega) (by omega), e]
    have := put_spec a.toNat (v + 2 * lim a).toNat K (by omega) (by omega) (by omega)
    rw [show (((v + 2 * lim a).toNat : Nat) : Int) = v + 2 * lim a by omega, ← ha.2] at this
    rw [this]; rfl
  · rw [if_neg h, Int.emod_eq_of_lt (by omega) (by omega)]
    have := put_spec a.toNat v.toNat K (by omega) (by omega) (by omega)
    rw [show ((v.toNat : Nat) : Int) = v by omega, ← ha.2] at this
    rw [this]; rfl
/-- The document's bytes of a sample: the highest first. -/
theorem doc_bytes {a : Int} (G : GoodF a) (v : Int) (K : Nat) (hK : 60 ≤ K) : sackbutref01_Bytes.f K (str (putL a.toNat (v % (2 * lim a)).toNat)) = some (leb (nbytes a) v).reverse := by
  rcases G with rfl | rfl | rfl
  · obtain ⟨u, hu⟩ : ∃ u : Nat, v % (2 * lim 8) = (u : Int) := ⟨(v % (2 * lim 8)).toNat, by simp [lim]; omega⟩
    rw [hu, Int.toNat_natCast]
    simp [lim] at hu
    rw [show (8 : Int).toNat = 8 from rfl, putL_bytes1, bytes_spec [u % 256] (by simp) (by intro x hx; rw [List.mem_singleton.1 hx]; omega) K (by simp; omega)]
    simp [leb, nbytes]; omega
  · obtain ⟨u, hu⟩ : ∃ u : Nat, v % (2 * lim 16) = (u : Int) := ⟨(v % (2 * lim 16)).toNat, by simp [lim]; omega⟩
    rw [hu, Int.toNat_natCast]
    simp [lim] at hu
    rw [show (16 : Int).toNat = 16 from rfl, putL_bytes2, bytes_spec [u / 256 % 256, u % 256] (by simp) (by intro x hx; simp at hx; omega) K (by simp; omega)]
    simp [leb, nbytes]; omega
  · obtain ⟨u, hu⟩ : ∃ u : Nat, v % (2 * lim 24) = (u : Int) := ⟨(v % (2 * lim 24)).toNat, by simp [lim]; omega⟩
    rw [hu, Int.toNat_natCast]
    simp [lim] at hu
    rw [show (24 : Int).toNat = 24 from rfl, putL_bytes3, bytes_spec [u / 65536 % 256, u / 256 % 256, u % 256] (by simp) (by intro x hx; simp at hx; omega) K (by simp; omega)]
    simp [leb, nbytes]; omega
theorem one_loop (m : List Int) (hm : m.length ≤ 100) : ∀ (d K : Nat) (acc : List Int), d ≤ m.length → d < K → acc.length + d ≤ 1000 → sackbutref05_One.l0 K m acc ((d : Int) - 1) = some (acc ++ (m.take d).reverse) := by
  intro d
  induction d with
  | zero =>
    intro K acc hd hK ha
    obtain ⟨K, rfl⟩ : ∃ k, K = k + 1 := ⟨K - 1, by omega⟩
    simp only [sackbutref05_One.l0]
    rw [if_neg (by omega)]; simp
  | succ d ih =>
    intro K acc hd hK ha
    obtain ⟨K, rfl⟩ : ∃ k, K = k + 1 := ⟨K - 1, by omega⟩
    simp only [sackbutref05_One.l0]
    rw [show ((d + 1 : Nat) : Int) - 1 = (d : Int) by omega, if_pos (by omega), if_pos (by omega), if_pos (by omega), if_pos (by omega), rd_nat m d (by omega), wrap_id (by omega) (by omega), ih K _ (by omega) (by omega) (by simp; omega), List.take_succ_eq_append_getElem (by omega), List.reverse_append]
    simp
theorem one_spec {a : Int} (G : GoodF a) (b : Bool) (v : Int) (hv : -lim a ≤ v ∧ v < lim a) (K : Nat) (hK : 60 ≤ K) : sackbutref05_One.f K a b v = some (enc (nbytes a) b v) := by
  unfold sackbutref05_One.f
  rw [signed_spec G v hv K (by omega), Option.bind_some, doc_bytes G v K hK, Option.bind_some]
  have h3 := bytes_le a
  cases b with
  | true => rfl
  | false =>
    rw [if_neg (by decide), wrap_id (by omega) (by rw [List.length_reverse, leb_length]; omega)]
    have hl : (leb (nbytes a) v).reverse.length = nbytes a := by rw [List.length_reverse, leb_length]
    rw [hl, one_loop (leb (nbytes a) v).reverse (by omega) (nbytes a) K [] (by omega) (by omega) (by simp; omega)]
    rw [List.nil_append, List.take_of_length_le (by omega), List.reverse_reverse]
    rfl
theorem doc_l1 {a : Int} {l : List (List Int)} {c : Nat} (F : Fits a l c) (b : Bool) (i : Nat) (hi : i < c) (R : Nat) (hR60 : 60 ≤ R) (res : List Int → Option (List Int)) (hR : ∀ K acc, R ≤ K → acc.length + (c - (i + 1)) * 24 < 50000000 → sackbutref05_Pack.l0 K l acc (c : Int) (((i + 1 : Nat) : Int)) a b = res acc) :
    ∀ (d K j : Nat) (acc : List Int), j + d = l.length → d + R + 21 ≤ K → acc.length + (c - (i + 1)) * 24 + d * 3 < 50000000 →
      sackbutref05_Pack.l1 K l acc (i : Int) (c : Int) (i : Int) (l.length : Int) (j : Int) a b = res (acc ++ ((l.drop j).map fun r => rd r (i : Int)).flatMap (enc (nbytes a) b)) := by
  have h8 := F.eight; have hb := bytes_le a; have hm := F.most
  intro d
  induction d with
  | zero =>
    intro K j acc hj hK ha
    obtain ⟨K, rfl⟩ : ∃ m, K = m + 1 := ⟨K - 1, by omega⟩
    simp only [sackbutref05_Pack.l1]
    rw [if_neg (by omega), wrap_id (by omega) (by omega), List.drop_eq_nil_of_le (by omega)]
    have := hR K acc (by omega) (by omega)
    rw [show ((i + 1 : Nat) : Int) = (i : Int) + 1 by omega] at this
    rw [this]; simp
  | succ d ih =>
    intro K j acc hj hK ha
    obtain ⟨K, rfl⟩ : ∃ m, K = m + 1 := ⟨K - 1, by omega⟩
    have hj' : j < l.length := by omega
    have hs := F.same _ (List.getElem_mem hj')
    have hv : -lim a ≤ rd l[j] (i : Int) ∧ rd l[j] (i : Int) < lim a := by
      rw [rd_nat _ i (by omega)]; exact F.has _ (List.getElem_mem hj') _ (List.getElem_mem _)
    simp only [sackbutref05_Pack.l1]
    rw [if_pos (by omega), if_pos (by omega), if_pos (by omega), if_pos (by omega), rd1_nat l j hj', hs, if_pos (by omega), one_spec F.good b _ hv K (by omega), Option.bind_some, if_pos (by rw [enc_length]; omega), wrap_id (by omega) (by omega)]
    have := ih K (j + 1) (acc ++ enc (nbytes a) b (rd l[j] (i : Int))) (by omega) (by omega) (by rw [List.length_append, enc_length]; omega)
    rw [show ((j + 1 : Nat) : Int) = (j : Int) + 1 by omega] at this
    rw [this, List.drop_eq_getElem_cons hj', List.map_cons, List.flatMap_cons, List.append_assoc]
theorem doc_l0 {a : Int} {l : List (List Int)} {c : Nat} (F : Fits a l c) (b : Bool) : ∀ (d K i : Nat) (acc : List Int), i + d = c → d * 40 + 100 ≤ K → acc.length + d * 24 < 50000000 →
      sackbutref05_Pack.l0 K l acc (c : Int) (i : Int) a b = some (acc ++ (vals l i d).flatMap (enc (nbytes a) b)) := by
  have h8 := F.eight; have hb := bytes_le a; have hm := F.most
  intro d
  induction d with
  | zero =>
    intro K i acc hi hK ha
    obtain ⟨K, rfl⟩ : ∃ m, K = m + 1 := ⟨K - 1, by omega⟩
    simp only [sackbutref05_Pack.l0]
    rw [if_neg (by omega)]; simp [vals]
  | succ d ih =>
    intro K i acc hi hK ha
    obtain ⟨K, rfl⟩ : ∃ m, K = m + 1 := ⟨K - 1, by omega⟩
    simp only [sackbutref05_Pack.l0]
    rw [if_pos (by omega)]
    have := doc_l1 F b i (by omega) (d * 40 + 100) (by omega) (fun acc => some (acc ++ (vals l (i + 1) d).flatMap (enc (nbytes a) b))) (fun K acc hK ha => ih K (i + 1) acc (by omega) hK (by omega)) l.length K 0 acc (by omega) (by omega) (by omega)
    rw [show ((0 : Nat) : Int) = 0 from rfl] at this
    rw [this, List.drop_zero, List.append_assoc, vals, List.flatMap_append]
theorem doc_spec {a : Int} {l : List (List Int)} {c : Nat} (F : Fits a l c) (b : Bool) (K : Nat) (hK : c * 40 + 100 ≤ K) (hc : c ≤ 2000000) : sackbutref05_Pack.f K a b l = some ((vals l 0 c).flatMap (enc (nbytes a) b)) := by
  have h1 := F.one
  unfold sackbutref05_Pack.f
  rw [if_pos (by omega), F.zero]
  have := doc_l0 F b c K 0 [] (by omega) hK (by simp; omega)
  simpa using this

theorem enc_bytes (n : Nat) (b : Bool) (v : Int) : Bytes_ (enc n b v) := by
  have h : ∀ (n : Nat) (v : Int), Bytes_ (leb n v) := by
    intro n
    induction n with
    | zero => intro v x hx; cases hx
    | succ n ih =>
      intro v x hx
      rcases List.mem_cons.1 hx with rfl | hx
      · omega
      · exact ih _ x hx
  unfold enc
  split
  · intro x hx; exact h n v x (List.mem_reverse.1 hx)
  · exact h n v
end Go.Proofs.Ytliidobbkfmndaa.PackDoc

