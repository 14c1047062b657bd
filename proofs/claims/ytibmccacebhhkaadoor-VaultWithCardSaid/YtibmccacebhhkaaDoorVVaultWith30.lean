/- VaultWith: what the claim's theorem reaches of this seat's texts, part 30, put together by this project's own program (bale.py); conditions: those of each theorem. -/
import Derived.Test.YtibmccacebhhkaaDoorVVaultWith5
import Derived.Test.YtibmccacebhhkaaDoorVVaultWith6
import Derived.Test.YtibmccacebhhkaaDoorVVaultWith7
import Derived.Test.YtibmccacebhhkaaDoorVVaultWith22
import Derived.Test.YtibmccacebhhkaaDoorVVaultWith24
import Derived.Test.YtibmccacebhhkaaDoorVVaultWith27
import Derived.Test.YtibmccacebhhkaaDoorVVaultWith29
import Derived.Shelf.Abstract
import Derived.OwnWalk
import Derived.LoopTactic
namespace Go.Proofs.YtibmccacebhhkaaDoor.HV
open Go.RowKit Go.Proofs.YtibmccacebhhkaaDoorW.PrintWords Go.Proofs.YtibmccacebhhkaaDoorW.PrintLast Go.Proofs.YtibmccacebhhkaaDoorW.PrintMore
attribute [local go_sem] max2_int min2_int max_two min_two max_three min_three max_four min_four   -- for this text's walks alone
set_option linter.unusedVariables false
set_option linter.unusedSimpArgs false

/-! ### vault_With: function 23, by hand -/
structure AsideWi (p : Prop) : Prop where mk :: (out : p)
/-- Where a name stands, or would stand. -/
def posI (l : List S49) (x : ByteArray) : Nat := (l.takeWhile (fun y => Op.bytesLess y.f0.toList x.toList)).length
/-- Items with one more, and the error. -/
def withV (l : List S49) (x : S49) : List S49 × Int :=
  if (goodI l && rightB x.f0 x.f1.length) = true then
    (if posI l x.f0 < l.length ∧ (l.getD (posI l x.f0) z49).f0 = x.f0 then (l.set (posI l x.f0) x, 0)
     else if 100 ≤ l.length then ([], 15) else (l.take (posI l x.f0) ++ x :: l.drop (posI l x.f0), 0))
  else ([], 2)
def WithPost (w : World) (r : List S49 × Int) (e : Ending) (w' : World) : Prop := ∃ v, e = .returned (.tuple #[v, .int .i64 r.2]) ∧ Kd.N k49 49 w' w.heap.size (fun _ => True) v r.1 ∧ Below w.heap.size w w'
theorem with_err {w w' : World} {x : Int} (h : Below w.heap.size w w') : WithPost w ([], x) (.returned (.tuple #[.slice none 0 0, .int .i64 x])) w' := ⟨_, rfl, Kd.N_nil _ _ _ _ _, h⟩
theorem posI_is {l : List S49} {x : ByteArray} {i : Nat} (hi : i ≤ l.length) (h1 : ∀ a, a < i → lessI l x a = true) (h2 : ∀ a, i ≤ a → a < l.length → lessI l x a = false) : i = posI l x := by
  unfold posI
  induction l generalizing i with
  | nil => simpa using hi
  | cons y l ih =>
    have hy : lessI (y :: l) x 0 = Op.bytesLess y.f0.toList x.toList := rfl
    have hs : ∀ a, lessI (y :: l) x (a + 1) = lessI l x a := fun a => by
      unfold lessI rd_T49
      rw [Int.toNat_natCast, Int.toNat_natCast]
      rfl
    cases i with
    | zero =>
      have := h2 0 (Nat.le_refl _) (by simp)
      rw [hy] at this
      simp [this]
    | succ i =>
      have h0 := h1 0 (by omega)
      rw [hy] at h0
      rw [List.takeWhile_cons, if_pos h0, List.length_cons, ← ih (i := i) (by simpa using hi) (fun a ha => by rw [← hs]; exact h1 (a + 1) (by omega)) (fun a ha hl => by rw [← hs]; exact h2 (a + 1) (by omega) (by simpa using hl))]
theorem goodI_less {l : List S49} (hg : goodI l = true) {i : Nat} (h0 : 0 < i) (hi : i < l.length) : Op.bytesLess (l.getD (i - 1) z49).f0.toList (l.getD i z49).f0.toList = true := by
  unfold goodI at hg
  rw [Bool.and_eq_true, List.all_eq_true] at hg
  have h := hg.1 i (List.mem_range.2 hi)
  unfold okI at h
  rw [Bool.and_eq_true, Bool.or_eq_true, decide_eq_true_eq] at h
  rcases h.2 with h | h
  · omega
  · exact h
theorem goodI_le {l : List S49} (hg : goodI l = true) : l.length ≤ 100 := by
  unfold goodI at hg
  rw [Bool.and_eq_true, decide_eq_true_eq] at hg
  exact hg.2
theorem goodI_mono {l : List S49} (hg : goodI l = true) (x : ByteArray) : ∀ a b, a ≤ b → b < l.length → lessI l x b = true → lessI l x a = true := by
  intro a b hab hb h
  induction b with
  | zero => obtain rfl : a = 0 := by omega
            exact h
  | succ b ih =>
    by_cases e : a = b + 1
    · rw [e]; exact h
    · refine ih (by omega) (by omega) ?_
      have h3 := goodI_less hg (i := b + 1) (by omega) hb
      unfold lessI rd_T49 at h ⊢
      rw [Int.toNat_natCast] at h ⊢
      exact bl_trans _ _ _ h3 h
theorem N_inserted {α : Type} {d : Kd α} {e base i : Nat} {ok okp : Nat → Prop} {w1 W : World} {v v1 : Value} {xs : List α} {rows : List (List Value)} {c' : List Value} {x' : α} (hi : i ≤ xs.length) (h0 : ∀ k, v.ownBlock = some k → ok k) (hl : rows.length = xs.length) (hf : ∀ (j : Nat) (x : α) (c : List Value), xs[j]? = some x → rows[j]? = some c → Kd.FK d W (fun k => ok k ∧ some k ≠ v.ownBlock) x c)
    (hM : Kd.FK d W okp x' c') (hokp : ∀ k, okp k → ok k ∧ some k ≠ v.ownBlock) (hfresh : ∀ k, W.heap.size ≤ k → ok k) (hR : (Kd.raw d.sz).R e w1 base (fun _ => True) v1 (rows.take i ++ c' :: rows.drop i)) (hg : W.grownBy w1 v.ownBlock) (hat : v1.ownBlock = v.ownBlock ∨ ∃ b, v1.ownBlock = some b ∧ W.heap.size ≤ b) : Kd.N d e w1 base ok v1 (xs.take i ++ x' :: xs.drop i) := by
  have h := Kd.N_appended (d := d) (e := e) (base := base) (ok := ok) (okp := fun _ => False) (w1 := w1) (W := W) (v := v) (v1 := v1) (rows := rows.take i ++ c' :: rows.drop i) (xs := xs.take i ++ x' :: xs.drop i) (news := []) (ys := []) h0 (by simp [hl]) ?hf rfl (fun j x c h => by simp at h) (fun _ h => h.elim) hfresh (by rw [List.append_nil]; exact hR) hg hat
  · rwa [List.append_nil] at h
  · intro j x c hx hc
    rcases Nat.lt_trichotomy j i with hj | hj | hj
    · rw [List.getElem?_append_left (by rw [List.length_take]; omega), List.getElem?_take_of_lt hj] at hx hc
      exact hf j x c hx hc
    · subst hj
      rw [List.getElem?_append_right (by rw [List.length_take]; omega), List.length_take, Nat.min_eq_left (by omega), Nat.sub_self, List.getElem?_cons_zero] at hx hc
      injection hx with hx
      injection hc with hc
      rw [← hx, ← hc]
      exact Kd.FK_mono hM hokp
    · obtain ⟨q, rfl⟩ : ∃ q, j = i + 1 + q := ⟨j - (i + 1), by omega⟩
      rw [List.getElem?_append_right (by rw [List.length_take]; omega), List.length_take, Nat.min_eq_left (by omega), show i + 1 + q - i = q + 1 by omega, List.getElem?_cons_succ, List.getElem?_drop] at hx hc
      exact hf _ x c hx hc
theorem item_open {w : World} {g : Nat} {x y : Value} (h : w.heap[g]? = some (.cells #[x, y] 49 (0, 0))) : w.cell? ⟨g, 0, none⟩ = some x ∧ w.cell? ⟨g, 1, none⟩ = some y ∧ w.frozen? ⟨g, 1, none⟩ = false := ⟨(blk_cell h 0).trans rfl, (blk_cell h 1).trans rfl, blk_frozen h 1⟩
set_option maxRecDepth 100000 in
set_option maxHeartbeats 4000000 in
theorem vault_With.gives (A : Option Addr) (c j : Nat) (l : List S49) (nm : ByteArray) (xb : List Int) (Ax : Option Addr) (cx m : Nat) (w : World) (hR : Kd.C k49 w A j l) (hX : Kd.C (Kd.int .u8) w Ax m xb) (hcx : m ≤ cx) (hj : j ≤ 1000) (hb : ∀ y ∈ l, y.f1.length ≤ 100000) (hm : m ≤ 100000) :
    Calls Tryd.prog 23 #[.slice A j c, .agg #[.string nm, .slice Ax m cx]] w (WithPost w (withV l ⟨nm, xb⟩)) := by
  have hjl : l.length = j := hR.1
  have hml : xb.length = m := hX.1
  have HGD : AsideWi (∀ W : World, Below w.heap.size w W → Calls Tryd.prog 16 #[.slice A j c] W fun e w' => e = .returned (.bool (goodI l)) ∧ Below W.heap.size W w') := ⟨fun W hW => by
    have h := vault_Good.gives A c l W (by rw [hjl]; exact Kd.C_below hR hW)
    rwa [hjl] at h⟩
  have HRI : AsideWi (∀ W : World, Calls Tryd.prog 32 #[.agg #[.string nm, .slice Ax m cx]] W fun e w' => e = .returned (.bool (rightB nm m)) ∧ Below W.heap.size W w') := ⟨fun W => vault_Item_right.gives nm Ax m cx _ rfl W⟩
  have HCL : AsideWi (∀ (B : Option Addr) (cc k : Nat) (bs : List Int) (W : World), k ≤ 100000 → k ≤ cc → Kd.C (Kd.int .u8) W B k bs → Calls Tryd.prog 39 #[.slice B k cc] W fun e w' => ∃ (A4 : Option Addr) (c4 : Nat), e = .returned (.slice A4 k c4) ∧ Kd.R (Kd.int .u8) 5 w' W.heap.size (fun _ => True) (.slice A4 k c4) bs ∧ Below W.heap.size W w') := ⟨fun B cc k bs W hk hkc hC => by
    obtain rfl : bs.length = k := hC.1
    refine (slices_Clone_byte_byte.calls B cc bs bs W hC hkc (by unfold slices_Clone_byte_byte.f; rw [if_pos (by omega)])).mono ?_
    rintro e w' ⟨v, rfl, hr, hb⟩
    obtain ⟨A4, c4, rfl⟩ := Kd.R_slice hr
    exact ⟨A4, c4, rfl, hr, hb⟩⟩
  have HR := AsideWi.mk hR
  have HX := AsideWi.mk (And.intro hcx hX)
  have HLB := AsideWi.mk hb
  have HJL := AsideWi.mk hjl
  have HML := AsideWi.mk hml
  have HB0 := AsideWi.mk (below_alloc (Below.refl w.heap.size w) (.cells #[.string nm, .slice Ax m cx] 49 (0, 0)))
  have HBX := AsideWi.mk (blk_new w (.cells #[.string nm, .slice Ax m cx] 49 (0, 0)))
  obtain ⟨f0, f1, fz⟩ := item_open HBX.out
  clear hR hX hb hjl hml
  by_cases hg : (goodI l && rightB nm m) = true
  · have HWV := AsideWi.mk (show withV l ⟨nm, xb⟩ = if posI l nm < l.length ∧ (l.getD (posI l nm) z49).f0 = nm then (l.set (posI l nm) ⟨nm, xb⟩, 0) else if 100 ≤ l.length then ([], 15) else (l.take (posI l nm) ++ ⟨nm, xb⟩ :: l.drop (posI l nm), 0) by unfold withV; rw [HML.out, if_pos hg])
    rw [Bool.and_eq_true] at hg
    obtain ⟨hg1, hg2⟩ := hg
    rw [hg1] at HGD
    rw [hg2] at HRI
    have HG1 := AsideWi.mk hg1
    have HJ100 := AsideWi.mk (goodI_le hg1)
    clear hg1 hg2
    go_enter Tryd.func23, Tryd.ntmps23
    go_upto_region 1 with (fail)
    obtain ⟨W0, hW0⟩ : ∃ W0, w.alloc (.cells #[.string nm, .slice Ax m cx] 49 (0, 0)) = W0 := ⟨_, rfl⟩
    obtain ⟨gx, hgx⟩ : ∃ gx, w.heap.size = gx := ⟨_, rfl⟩
    rw [hW0] at HB0 HBX f0 f1 fz ⊢
    rw [hgx] at HBX f0 f1 fz ⊢
    have HGX := AsideWi.mk hgx
    clear hW0 hgx
    go_upto_region 3 with (first
      | (go_at_call 16; (with_reducible refine (HGD.out _ HB0.out).mono ?_); rintro e w1 ⟨rfl, hb⟩; have HB1 := AsideWi.mk (below_step HB0.out hb); have HBX1 := AsideWi.mk (blk_below HBX.out hb); obtain ⟨f0, f1, fz⟩ := item_open HBX1.out; clear hb)
      | (go_at_call 32; (with_reducible refine (HRI.out _).mono ?_); rintro e w2 ⟨rfl, hb⟩; have HB2 := AsideWi.mk (below_step HB1.out hb); have HBX2 := AsideWi.mk (blk_below HBX1.out hb); obtain ⟨f0, f1, fz⟩ := item_open HBX2.out; clear hb))
    have HBZ2 := AsideWi.mk (Below.refl w2.heap.size w2)
    go_upto_region 4 with (go_at_call 39; (with_reducible refine (HCL.out _ _ _ xb _ hm hcx (Kd.C_below HX.out.2 HB2.out)).mono ?_); rintro e w3 ⟨A3, c3, rfl, hr, hb⟩; have HR3 := AsideWi.mk hr; have HB23 := AsideWi.mk hb; have HBX3 := AsideWi.mk (blk_below HBX2.out hb); obtain ⟨f0, f1, fz⟩ := item_open HBX3.out; clear hr hb)
    have HGW : AsideWi (gx < w2.heap.size) := ⟨blk_lt HBX2.out⟩
    have HBX4 := AsideWi.mk (blk_put HBX3.out 1 (.slice A3 m c3) (cs' := #[.string nm, .slice A3 m c3]) rfl)
    have HB3 := AsideWi.mk (below_set (j := 1) (v := .slice A3 m c3) (below_step HB2.out HB23.out) (Nat.le_of_eq HGX.out))
    have HR4 := AsideWi.mk (Kd.R_far (Kd.R_bound HR3.out) (p := ⟨gx, 1, none⟩) (fun k hk => by have := HGW.out; have := hk.2.1; show k ≠ gx; omega) (.slice A3 m c3))
    obtain ⟨w4, hw4⟩ : ∃ w4, w3.setCell ⟨gx, 1, none⟩ (.slice A3 m c3) = w4 := ⟨_, rfl⟩
    rw [hw4] at HBX4 HB3 HR4 ⊢
    clear hw4 f0 f1 fz HBX3 HB23 HR3 HBX2 HBX1 HB1 HB2 HBX HB0 HGD HRI HBZ2
    have HBR := AsideWi.mk (Below.refl w4.heap.size w4)
    go_wp2_with (fail)
    go_loopw [6, 25] (fun v u wr => ∃ (t : Nat), t ≤ j ∧ u = .int .i64 t ∧ AsideWi (Below w4.heap.size w4 wr) ∧ AsideWi (Kd.S k49 49 wr w4.heap.size (fun _ => True) v (l.take t))) (fun _ u _ => j - (intOf u).toNat)
    case atStart => exact ⟨0, Nat.zero_le _, rfl, HBR, ⟨Kd.S_nil _ _ _ _ _⟩⟩
    case round =>
      obtain ⟨t, htj, rfl, HBr, HSr⟩ := hrel
      by_cases hlt : t < j
      · obtain ⟨ad, A1, c1, e, x0, x1, x2, x3⟩ := at_T49 (Kd.C_below HR.out (below_step HB3.out HBr.out)) (t : Int) (by omega) (by omega)
        subst e
        have hget : rd_T49 l (t : Int) = l.getD t z49 := rfl
        rw [hget, Int.toNat_natCast] at x0 x1
        rw [hget] at x2 x3
        have hmem : (l.getD t z49) ∈ l := by
          have := HJL.out
          rw [List.getD_eq_getElem?_getD, List.getElem?_eq_getElem (by omega)]
          exact List.getElem_mem _
        have hy := HLB.out _ hmem
        have HTK : AsideWi (l.take (t + 1) = l.take t ++ [l.getD t z49]) := ⟨by
          have := HJL.out
          rw [List.take_add_one, List.getD_eq_getElem?_getD, List.getElem?_eq_getElem (by omega)]
          rfl⟩
        clear hget hmem
        generalize l.getD t z49 = y at *
        obtain ⟨ym, yb⟩ := y
        dsimp only at x0 x1 x2 x3 hy
        obtain ⟨k, hk⟩ : ∃ k, yb.length = k := ⟨_, rfl⟩
        rw [hk] at x1 x2 x3 hy
        have HK := AsideWi.mk hk
        have HY3 := AsideWi.mk x3
        clear hk x3
        have ti0 : (0 : Int) ≤ (t : Int) := by omega
        have ti1 : (t : Int) < (j : Int) := by omega
        go_upto_region 8 with (fail)
        have hbl := blk_drew (blk_new wr (.cells #[.string ym, .slice A1 k c1] 49 (0, 0)))
        have hbw := below_drew (below_alloc (Below.refl wr.heap.size wr) (.cells #[.string ym, .slice A1 k c1] 49 (0, 0)))
        obtain ⟨f0, f1, _⟩ := item_open hbl
        have HBwr := AsideWi.mk hbw
        clear hbl hbw x0 x1
        generalize wr.alloc (.cells #[.string ym, .slice A1 k c1] 49 (0, 0)) = W0 at *
        have HSO := AsideWi.mk (fun (W : World) (hW : Below wr.heap.size wr W) => Kd.S_old HSr.out hW)
        have HSL := AsideWi.mk (fun k hk => Kd.S_lt HSr.out k hk)
        have HBZ := AsideWi.mk (fun (W : World) (hW : Below wr.heap.size wr W) => below_step HBr.out hW)
        obtain ⟨g, hg⟩ : ∃ g, wr.heap.size = g := ⟨_, rfl⟩
        rw [hg] at f0 f1 ⊢
        have HG0 := AsideWi.mk hg
        clear hg
        refine start_ (n := 10) (S := fun w' => w'.cell? ⟨g, 0, none⟩ = some (.string ym) ∧ w'.cell? ⟨g, 1, none⟩ = some (.slice A1 k c1) ∧ AsideWi (Below wr.heap.size wr w')) (ds := [7, 8]) #[false, false, false, false, false, false, false, false, false, false] (by kernel_rfl) rfl rfl ⟨f0, f1, HBwr⟩ (fun hHeld => ?_)
        refine pure_ (i := 0) (N := some 29) (v := ?_) (a' := ?_) #[true, false, false, false, false, false, false, false, false, false] rfl rfl (by kernel_rfl) (fun _ _ _ h => h) (Or.inl ⟨by rfl, ?_⟩) ?_ ?_
        rotate_left
        · intro w'
          go_simp
          with_reducible rfl
        rotate_left
        · simp only [Act.put, List.setIfInBounds_toArray, List.set_cons_zero, List.set_cons_succ, i64_w, i32_w]
          rfl
        refine pure_ (i := 1) (N := some 30) (v := ?_) (a' := ?_) #[true, true, false, false, false, false, false, false, false, false] rfl rfl (by kernel_rfl) (fun _ _ _ h => h) (Or.inl ⟨by rfl, ?_⟩) ?_ ?_
        rotate_left
        · intro w'
          go_simp
          with_reducible rfl
        rotate_left
        · simp only [Act.put, List.setIfInBounds_toArray, List.set_cons_zero, List.set_cons_succ, i64_w, i32_w]
          rfl
        refine pure_ (i := 3) (N := some 32) (v := ?_) (a' := ?_) #[true, true, false, true, false, false, false, false, false, false] rfl rfl (by kernel_rfl) (fun _ _ _ h => h) (Or.inl ⟨by rfl, ?_⟩) ?_ ?_
        rotate_left
        · intro w'
          go_simp
          with_reducible rfl
        rotate_left
        · simp only [Act.put, List.setIfInBounds_toArray, List.set_cons_zero, List.set_cons_succ, i64_w, i32_w]
          rfl
        refine take_ (i := 2) (N := some 31) (v := ?_) (a' := ?_) #[true, true, true, true, false, false, false, false, false, false] rfl rfl (by kernel_rfl) (fun _ _ _ h => h) (Or.inl ⟨by rfl, ?_⟩) hHeld ?_ ?_
        rotate_left
        · rintro w' ⟨s0, s1, s2⟩
          go_simp
          with_reducible rfl
        rotate_left
        · simp only [Act.put, List.setIfInBounds_toArray, List.set_cons_zero, List.set_cons_succ, i64_w, i32_w]
          rfl
        refine take_ (i := 4) (N := some 33) (v := ?_) (a' := ?_) #[true, true, true, true, true, false, false, false, false, false] rfl rfl (by kernel_rfl) (fun _ _ _ h => h) (Or.inl ⟨by rfl, ?_⟩) hHeld ?_ ?_
        rotate_left
        · rintro w' ⟨s0, s1, s2⟩
          go_simp
          with_reducible rfl
        rotate_left
        · simp only [Act.put, List.setIfInBounds_toArray, List.set_cons_zero, List.set_cons_succ, i64_w, i32_w]
          rfl
        refine one_ (i := 5) (N := some 34) #[true, true, true, true, true, true, false, false, false, false] rfl rfl (by kernel_rfl) (by decide) (fun K hK => ?_)
        refine goes_ Tryd.func39 (by kernel_rfl) rfl #[.slice A1 k c1] (by rfl) rfl rfl (by simp only [List.map_toArray, List.map_cons, List.map_nil]; rfl) ?_
        with_reducible refine (HCL.out _ _ _ yb _ hy x2 (Kd.C_below HY3.out hHeld.2.2.out)).mono ?_
        rintro e w5 ⟨A5, c5, rfl, hr5, hb⟩
        refine ⟨_, rfl, ?_⟩
        have HR5 := AsideWi.mk (Kd.R_bound hr5)
        have HW5 := AsideWi.mk hHeld.2.2.out.size
        have HB5 := AsideWi.mk (below_step hHeld.2.2.out hb)
        have HSO5 := AsideWi.mk (HSO.out _ HB5.out)
        have HB45 := AsideWi.mk (HBZ.out _ HB5.out)
        clear hr5
        refine hK.out _ _ ⟨pw_cell_below hb hHeld.1, pw_cell_below hb hHeld.2.1, ⟨below_step hHeld.2.2.out hb⟩⟩ (fun hHeld => ?_)
        clear hK K
        refine norm_ (a' := ?_) ?_ ?_
        rotate_left
        · show Act.put _ (some 34) _ = _
          simp only [Act.put, List.setIfInBounds_toArray, List.set_cons_zero, List.set_cons_succ, i64_w, i32_w]
          rfl
        refine pure_ (i := 6) (N := some 35) (v := ?_) (a' := ?_) #[true, true, true, true, true, true, true, false, false, false] rfl rfl (by kernel_rfl) (fun _ _ _ h => h) (Or.inl ⟨by rfl, ?_⟩) ?_ ?_
        rotate_left
        · intro w'
          go_simp
          with_reducible rfl
        rotate_left
        · simp only [Act.put, List.setIfInBounds_toArray, List.set_cons_zero, List.set_cons_succ, i64_w, i32_w]
          rfl
        refine last_ (i := 7) (N := some 36) #[true, true, true, true, true, true, true, true, false, false] rfl rfl (by kernel_rfl) (by decide) (fun K hK => ?_)
        refine value_ (w1 := ?_) (v := ?_) (by rfl) rfl ?_ ?_
        rotate_left 2
        · go_simp
          constructor
          · rfl
          · rfl
        refine hK.out _ _ ?_
        clear hK K
        refine norm_ (a' := ?_) ?_ ?_
        rotate_left
        · show Act.put _ (some 36) _ = _
          simp only [Act.put, List.setIfInBounds_toArray, List.set_cons_zero, List.set_cons_succ, i64_w, i32_w]
          rfl
        refine last_ (i := 8) (N := some 37) #[true, true, true, true, true, true, true, true, true, false] rfl rfl (by kernel_rfl) (by decide) (fun K hK => ?_)
        refine Kd.S_append_step k49 (w0 := w4) w4.heap.size (by rfl) (.tmp 29) (.tmp 36) 34 49 (.agg #[(.string ⟨#[]⟩), (.slice none 0 0)]) 40 rfl Tryd.underlying34 info49 rfl (by decide) (by omega) u6 (l.take t) (⟨ym, yb⟩ : S49) [.string ym, .slice A5 k c5] (fun _ => True) (fun q => wr.heap.size ≤ q) rfl rfl ?aP ?aK (fun _ _ => trivial) ?aO ?aB ?aS ?aL ?_
        case aP => exact k49_mkM _ _ _ (⟨ym, yb⟩ : S49) (Kd.R_lower (Kd.R_mono HR5.out (fun q hq => Nat.le_trans HW5.out hq.2.1)) (Nat.le_trans HBr.out.size HW5.out))
        case aK => exact (fun q hq => ⟨trivial, fun e => by have := HSL.out q e.symm; omega⟩)
        case aO => exact Kd.S_mono HSO5.out (fun q hq => ⟨trivial, by have := hq.2; omega⟩)
        case aB => exact HB45.out
        case aS => exact HB45.out.size
        case aL => rw [List.length_take]; omega
        intro v9 w9 ho hb9 hgr _
        have HS9 := AsideWi.mk ho
        have HB9 := AsideWi.mk hb9
        clear ho hb9 hgr
        refine hK.out _ _ ?_
        clear hK K
        refine norm_ (a' := ?_) ?_ ?_
        rotate_left
        · show Act.put _ (some 37) _ = _
          simp only [Act.put, List.setIfInBounds_toArray, List.set_cons_zero, List.set_cons_succ, i64_w, i32_w]
          rfl
        refine pure_ (i := 9) (N := some 6) (v := ?_) (a' := ?_) #[true, true, true, true, true, true, true, true, true, true] rfl rfl (by kernel_rfl) (fun _ _ _ h => h) (Or.inl ⟨by rfl, ?_⟩) ?_ ?_
        rotate_left
        · intro w'
          go_simp
          with_reducible rfl
        rotate_left
        · simp only [Act.put, List.setIfInBounds_toArray, List.set_cons_zero, List.set_cons_succ, i64_w, i32_w]
          rfl
        refine done_ (by kernel_rfl) ?_
        have HS10 := AsideWi.mk (show Kd.S k49 49 w9 w4.heap.size (fun _ => True) v9 (l.take (t + 1)) by rw [HTK.out]; exact HS9.out)
        clear hHeld f0 f1 HBwr
        go_wp2_with (fail)
        go_roundw
        case rel => exact ⟨t + 1, by omega, by go_num, HB9, HS10⟩
        case measure => simp [intOf]; omega
      · obtain rfl : t = j := by omega
        have HNr := AsideWi.mk (Kd.S_N HSr.out)
        rw [show l.take t = l by rw [← HJL.out, List.take_length]] at HNr
        obtain ⟨AO, cO, eO⟩ := Kd.N_slice HNr.out
        rw [HJL.out] at eO
        subst eO
        have HBXr := AsideWi.mk (blk_below HBX4.out HBr.out)
        obtain ⟨f0, f1, fz⟩ := item_open HBXr.out
        have HSE : AsideWi (∀ W : World, Below wr.heap.size wr W → Calls Tryd.prog 40 #[.slice AO t cO, .string nm, .func (.func 41) #[] #[]] W fun e w' => ∃ (i : Nat) (q : Bool), e = .returned (.tuple #[.int .i64 i, .bool q]) ∧ i ≤ t ∧ i = posI l nm ∧ (q = true ↔ i < t ∧ (l.getD i z49).f0 = nm) ∧ Below W.heap.size W w') := ⟨fun W hW => by
          have hC := (Kd.N_reads' HNr.out).2.2
          rw [HJL.out] at hC
          refine (item_search.gives AO cO t l nm W (by omega) (Kd.C_below hC hW) (by rw [← HJL.out]; exact goodI_mono HG1.out nm)).mono ?_
          rintro e w' ⟨i, q, he, hi, h1, h2, hq, hb⟩
          exact ⟨i, q, he, hi, posI_is (by rw [HJL.out]; exact hi) h1 (by rw [HJL.out]; exact h2), hq, hb⟩⟩
        go_upto_region 12 with (go_at_call 40; (with_reducible refine (HSE.out _ (Below.refl _ _)).mono ?_); rintro e w5 ⟨i, q, rfl, hi, hip, hq, hb⟩; have HB5 := AsideWi.mk hb; have HBX5 := AsideWi.mk (blk_below HBXr.out hb); obtain ⟨f0, f1, fz⟩ := item_open HBX5.out; have HQ := AsideWi.mk hq; have HIP := AsideWi.mk hip; clear hb hq hip)
        have HN5 := AsideWi.mk (Kd.N_below HNr.out HB5.out)
        have HB45 := AsideWi.mk (below_step HBr.out HB5.out)
        have HFX : AsideWi (Kd.FK k49 w5 (fun k => k < w4.heap.size) (⟨nm, xb⟩ : S49) [.string nm, .slice A3 m c3]) := ⟨by
          obtain ⟨hA, hB, hC⟩ := Kd.R_reads' HR4.out
          have h := k49_mkF w4 (fun k => k < w4.heap.size) (⟨nm, xb⟩ : S49) (A1 := A3) (c1 := c3) (by rw [HML.out]; exact hB) (by rw [HML.out]; exact Kd.F_mono (Kd.F_bound (Kd.R_F HR4.out)) (fun k hk => hk.2))
          rw [show (⟨nm, xb⟩ : S49).f1.length = m from HML.out] at h
          exact Kd.FK_below h HB45.out⟩
        have HB5w := AsideWi.mk (below_step HB3.out HB45.out)
        have HBQ5 := AsideWi.mk (Below.refl w5.heap.size w5)
        clear HSE HNr HBr HSr HBXr
        cases q with
        | true =>
          obtain ⟨hit, hnm⟩ := HQ.out.1 rfl
          have HWQ : AsideWi (withV l ⟨nm, xb⟩ = (l.set i ⟨nm, xb⟩, 0)) := ⟨by rw [HWV.out, ← HIP.out, if_pos ⟨by rw [HJL.out]; exact hit, hnm⟩]⟩
          obtain ⟨g0, cap0, eO, hg0, hg0l, _⟩ := Kd.N_form HN5.out (by rw [HJL.out]; omega)
          rw [HJL.out] at eO
          injection eO with eO1 _ eO3
          subst eO1 eO3
          obtain ⟨cc, hccl, hccK, hccc, _⟩ := Kd.N_elem HN5.out z49 (i : Int) (by omega) (by omega)
          have HCC := AsideWi.mk (And.intro hccl hccc)
          have HG0 := AsideWi.mk hg0
          clear hccl hccK hccc hg0 hnm HQ
          have ti0 : (0 : Int) ≤ (i : Int) := by omega
          have ti1 : (i : Int) < (t : Int) := by omega
          go_wp2_with ((with_reducible refine gate_store (t := 49) (p := 56) rfl ?_); refine Kd.N_store k49 (w0 := w4) w4.heap.size rfl rfl 49 (.tmp 56) (.tmp 55) rfl 49 (o' := i * 2) (i : Int) 0 l (⟨nm, xb⟩ : S49) (.agg #[.string nm, .slice A3 m c3]) [.string nm, .slice A3 m c3] cc (fun _ => True) (fun k => k < w4.heap.size) ?ad ?of rfl rfl ?inf ?one HN5.out ti0 ti1 HCC.out.1 ?cc (Nat.le_refl 2) ?mm ?okp HB45.out ?_; (case ad => first | rfl | (show Value.pointer (some ((⟨g0, 0, none⟩ : Addr).add (i * 2))) = _; rw [add_plain])); (case of => show i * 2 = (i : Int).toNat * 2 + 0; omega); (case inf => kernel_rfl); (case one => intro q hq; simp at hq; rcases hq with rfl | rfl <;> rfl); (case cc => exact HCC.out.2); (case mm => show Kd.FK _ _ _ _ ([] ++ [.string nm, .slice A3 m c3] ++ cc.drop 2); rw [List.drop_of_length_le (show cc.length ≤ 2 from Nat.le_of_eq HCC.out.1), List.append_nil]; exact HFX.out); (case okp => exact fun k hk => ⟨trivial, by have := HG0.out; omega⟩); intro w6 hn hb6 hg6; have HN6 := AsideWi.mk hn; have HB6 := AsideWi.mk hb6; clear hn hb6 hg6)
          go_ret2
          rw [HWQ.out]
          rw [Int.toNat_natCast] at HN6
          exact ⟨_, rfl, Kd.N_lower HN6.out HB3.out.size, below_step HB3.out HB6.out⟩
        | false =>
          have hno : ¬ (posI l nm < l.length ∧ (l.getD (posI l nm) z49).f0 = nm) := fun h => by
            rw [← HIP.out, HJL.out] at h
            exact Bool.noConfusion (HQ.out.2 h)
          by_cases h100 : 100 ≤ t
          · have HWQ : AsideWi (withV l ⟨nm, xb⟩ = ([], 15)) := ⟨by rw [HWV.out, if_neg hno, if_pos (by rw [HJL.out]; exact h100)]⟩
            have hd : decide ((100 : Int) ≤ (t : Int)) = true := decide_eq_true (by omega)
            clear hno
            go_wp2_with (fail)
            go_ret2
            rw [HWQ.out]
            exact with_err HB5w.out
          · have HWQ : AsideWi (withV l ⟨nm, xb⟩ = (l.take i ++ ⟨nm, xb⟩ :: l.drop i, 0)) := ⟨by rw [HWV.out, if_neg hno, if_neg (by rw [HJL.out]; exact h100), ← HIP.out]⟩
            have HIN : AsideWi (∀ W : World, Below w5.heap.size w5 W → W.heap[w5.heap.size]? = some (.cells #[.string nm, .slice A3 m c3] 49 (0, 0)) → Calls Tryd.prog 42 #[.slice AO t cO, .int .i64 (i : Int), .slice (some ⟨w5.heap.size, 0, none⟩) 1 1] W fun e w' => ∃ (v : Value), e = .returned v ∧ Kd.N k49 49 w' w4.heap.size (fun _ => True) v (l.take i ++ ⟨nm, xb⟩ :: l.drop i) ∧ Below w4.heap.size w4 w') := ⟨fun W hW hgv => by
              obtain ⟨h0, rows, hl, hRr, hf⟩ := Kd.N_below HN5.out hW
              have hown := Kd.N_lt HN5.out
              have hbase := Kd.N_base HN5.out
              have hB4W := below_step HB45.out hW
              have hne : some w5.heap.size ≠ (Value.slice AO t cO).ownBlock := fun h => by have := hown _ h.symm; omega
              refine (insert.gives AO t cO w5.heap.size w4.heap.size i rows (.string nm) (.slice A3 m c3) W (Kd.raw_any hRr) hgv hne rfl rfl hB4W.size hj hi).mono ?_
              rintro e w' ⟨v, he, hr, hg, hat⟩
              refine ⟨v, he, N_inserted (by rw [HJL.out]; exact hi) h0 hl hf (okp := fun k => k < w4.heap.size) (Kd.FK_below HFX.out hW) (fun k hk => ⟨trivial, fun e => by have := hbase k e.symm; omega⟩) (fun _ _ => trivial) hr hg hat, pw_below_grown hB4W _ hB4W.size hg hbase⟩⟩
            have hd : decide ((100 : Int) ≤ (t : Int)) = false := decide_eq_false (by omega)
            clear hno
            have hWb := below_alloc (Below.refl w5.heap.size w5) (.cells #[.string nm, .slice A3 m c3] 49 (0, 0))
            have hWn := blk_new w5 (.cells #[.string nm, .slice A3 m c3] 49 (0, 0))
            have HWb := AsideWi.mk (And.intro hWb hWn)
            clear hWb hWn
            go_wp2_with (go_at_call 42; (with_reducible refine (HIN.out _ HWb.out.1 HWb.out.2).mono ?_); rintro e w6 ⟨v6, rfl, hn, hb⟩; have HN6 := AsideWi.mk hn; have HB6 := AsideWi.mk hb; clear hn hb)
            go_ret2
            rw [HWQ.out]
            exact ⟨_, rfl, Kd.N_lower HN6.out HB3.out.size, below_step HB3.out HB6.out⟩
  · have HWV := AsideWi.mk (show withV l ⟨nm, xb⟩ = ([], 2) by unfold withV; rw [HML.out, if_neg hg])
    have hcase : goodI l = false ∨ (goodI l = true ∧ rightB nm m = false) := by
      cases h1 : goodI l with
      | false => exact .inl rfl
      | true => exact .inr ⟨rfl, by cases h2 : rightB nm m with | false => rfl | true => exact absurd (by rw [h1, h2]; rfl) hg⟩
    clear hg
    rcases hcase with hg1 | ⟨hg1, hg2⟩
    · rw [hg1] at HGD
      clear hg1
      go_enter Tryd.func23, Tryd.ntmps23
      go_wp2_with (go_at_call 16; (with_reducible refine (HGD.out _ HB0.out).mono ?_); rintro e w1 ⟨rfl, hb⟩; have HB1 := AsideWi.mk (below_step HB0.out hb); clear hb)
      go_ret2
      rw [HWV.out]
      exact with_err HB1.out
    · rw [hg1] at HGD
      rw [hg2] at HRI
      clear hg1 hg2
      go_enter Tryd.func23, Tryd.ntmps23
      go_upto_region 1 with (fail)
      obtain ⟨W0, hW0⟩ : ∃ W0, w.alloc (.cells #[.string nm, .slice Ax m cx] 49 (0, 0)) = W0 := ⟨_, rfl⟩
      obtain ⟨gx, hgx⟩ : ∃ gx, w.heap.size = gx := ⟨_, rfl⟩
      rw [hW0] at HB0 HBX f0 f1 fz ⊢
      rw [hgx] at HBX f0 f1 fz ⊢
      clear hW0 hgx
      go_wp2_with (first
        | (go_at_call 16; (with_reducible refine (HGD.out _ HB0.out).mono ?_); rintro e w1 ⟨rfl, hb⟩; have HB1 := AsideWi.mk (below_step HB0.out hb); have HBX1 := AsideWi.mk (blk_below HBX.out hb); obtain ⟨f0, f1, fz⟩ := item_open HBX1.out; clear hb)
        | (go_at_call 32; (with_reducible refine (HRI.out _).mono ?_); rintro e w2 ⟨rfl, hb⟩; have HB2 := AsideWi.mk (below_step HB1.out hb); clear hb))
      go_ret2
      rw [HWV.out]
      exact with_err HB2.out

end Go.Proofs.YtibmccacebhhkaaDoor.HV

