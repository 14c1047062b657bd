/- VaultWith: what the claim's theorem reaches of this seat's texts, part 31, put together by this project's own program (bale.py); conditions: those of each theorem. -/
import Derived.Test.YtibmccacebhhkaaDoorVVaultWith5
import Derived.Test.YtibmccacebhhkaaDoorVVaultWith6
import Derived.Test.YtibmccacebhhkaaDoorVVaultWith7
import Derived.Test.YtibmccacebhhkaaDoorVVaultWith8
import Derived.Test.YtibmccacebhhkaaDoorVVaultWith12
import Derived.Test.YtibmccacebhhkaaDoorVVaultWith19
import Derived.Test.YtibmccacebhhkaaDoorVVaultWith21
import Derived.Test.YtibmccacebhhkaaDoorVVaultWith26
import Derived.Test.YtibmccacebhhkaaDoorVVaultWith30
import Derived.Shelf.Abstract
import Derived.OwnWalk
import Derived.LoopTactic
namespace Go.Proofs.YtibmccacebhhkaaDoor.VaultIns
open Go Go.RowKit Go.Proofs.YtibmccacebhhkaaDoor.HV Go.Proofs.YtibmccacebhhkaaDoorW.PrintWords Go.Proofs.YtibmccacebhhkaaDoorW.PrintLast
abbrev It := S49
abbrev Di := S57
def ltI (a b : It) : Prop := Op.bytesLess a.f0.toList b.f0.toList = true
def wantS (x : Di) (s : List Di × Bool) (y : Di) : List Di × Bool :=
  let s1 := if (!s.2 && (Op.bytesLess x.f0.toList y.f0.toList || x.f0.toList == y.f0.toList)) = true then (s.1 ++ [x], true) else s
  if (!(y.f0.toList == x.f0.toList)) = true then (s1.1 ++ [y], s1.2) else s1
def wantL (x : Di) (l : List Di) : List Di := if (l.foldl (wantS x) ([], false)).2 = true then (l.foldl (wantS x) ([], false)).1 else (l.foldl (wantS x) ([], false)).1 ++ [x]
theorem bl_asym {a b : List UInt8} (h : Op.bytesLess a b = true) : Op.bytesLess b a = false := by
  cases h2 : Op.bytesLess b a with
  | false => rfl
  | true => have := bl_trans _ _ _ h h2; rw [bl_irr] at this; cases this
theorem bl_ne {a b : List UInt8} (h : Op.bytesLess a b = true) : (a == b) = false ∧ (b == a) = false := by
  have : a ≠ b := fun e => by rw [e, bl_irr] at h; cases h
  exact ⟨by simpa using this, by simpa using (Ne.symm this)⟩
theorem text_eq {a b : ByteArray} (h : a.toList = b.toList) : a = b := ByteArray.ext (Array.toList_inj.1 (by rw [← ByteArray.toList_eq, ← ByteArray.toList_eq]; exact h))
theorem fold_low (x : It) : ∀ (l : List It) (acc : List Di), (∀ y ∈ l, ltI y x) → (l.map toI).foldl (wantS (toI x)) (acc, false) = (acc ++ l.map toI, false)
  | [], acc, _ => by simp
  | y :: l, acc, h => by
    have hy : Op.bytesLess y.f0.toList x.f0.toList = true := h y List.mem_cons_self
    have e1 : wantS (toI x) (acc, false) (toI y) = (acc ++ [toI y], false) := by
      have e2 : Op.bytesLess (toI x).f0.toList (toI y).f0.toList = false := bl_asym hy
      have e3 : ((toI x).f0.toList == (toI y).f0.toList) = false := (bl_ne hy).2
      have e4 : ((toI y).f0.toList == (toI x).f0.toList) = false := (bl_ne hy).1
      unfold wantS
      simp only [e2, e3, e4]
      rfl
    rw [List.map_cons, List.foldl_cons, e1, fold_low x l _ (fun z hz => h z (List.mem_cons_of_mem _ hz)), List.append_assoc]
    rfl
theorem fold_high (x : It) : ∀ (l : List It) (acc : List Di), (∀ y ∈ l, ltI x y) → (l.map toI).foldl (wantS (toI x)) (acc, true) = (acc ++ l.map toI, true)
  | [], acc, _ => by simp
  | y :: l, acc, h => by
    have hy : Op.bytesLess x.f0.toList y.f0.toList = true := h y List.mem_cons_self
    have e1 : wantS (toI x) (acc, true) (toI y) = (acc ++ [toI y], true) := by
      have e4 : ((toI y).f0.toList == (toI x).f0.toList) = false := (bl_ne hy).2
      unfold wantS
      simp only [e4]
      rfl
    rw [List.map_cons, List.foldl_cons, e1, fold_high x l _ (fun z hz => h z (List.mem_cons_of_mem _ hz)), List.append_assoc]
    rfl
theorem good_iff (l : List It) : goodI l = true ↔ (∀ y ∈ l, rightB y.f0 y.f1.length = true) ∧ l.Pairwise ltI ∧ l.length ≤ 100 := by
  constructor
  · intro h
    have h2 := h
    unfold goodI at h2
    rw [Bool.and_eq_true, List.all_eq_true, decide_eq_true_eq] at h2
    refine ⟨fun y hy => ?_, ?_, h2.2⟩
    · obtain ⟨i, hi, rfl⟩ := List.getElem_of_mem hy
      have := h2.1 i (List.mem_range.2 hi)
      unfold okI at this
      rw [Bool.and_eq_true, List.getD_eq_getElem?_getD, List.getElem?_eq_getElem hi] at this
      exact this.1
    · rw [List.pairwise_iff_getElem]
      intro i j hi hj hij
      induction j with
      | zero => omega
      | succ j ih =>
        have h3 := goodI_less h (i := j + 1) (by omega) hj
        rw [Nat.add_sub_cancel, List.getD_eq_getElem?_getD, List.getD_eq_getElem?_getD, List.getElem?_eq_getElem hj, List.getElem?_eq_getElem (show j < l.length by omega)] at h3
        by_cases e : i = j
        · subst e; exact h3
        · exact bl_trans _ _ _ (ih (by omega) (by omega)) h3
  · rintro ⟨h1, h2, h3⟩
    rw [List.pairwise_iff_getElem] at h2
    rw [goodI_end (fun t ht => ?_)]
    · exact decide_eq_true h3
    · unfold okI
      rw [Bool.and_eq_true, Bool.or_eq_true, decide_eq_true_eq, List.getD_eq_getElem?_getD, List.getElem?_eq_getElem ht]
      refine ⟨h1 _ (List.getElem_mem ht), ?_⟩
      by_cases h0 : t = 0
      · exact .inl h0
      · refine .inr ?_
        rw [List.getD_eq_getElem?_getD, List.getElem?_eq_getElem (show t - 1 < l.length by omega)]
        exact h2 (t - 1) t (by omega) ht (by omega)
theorem low_all (x : ByteArray) : ∀ (l : List It), ∀ y ∈ l.takeWhile (fun y => Op.bytesLess y.f0.toList x.toList), Op.bytesLess y.f0.toList x.toList = true
  | [], y, h => by simp at h
  | z :: l, y, h => by
    rw [List.takeWhile_cons] at h
    split at h
    next hz =>
      rcases List.mem_cons.1 h with rfl | h
      · exact hz
      · exact low_all x l y h
    next => simp at h
theorem high_head (x : ByteArray) : ∀ (l : List It) {y : It} {r : List It}, l.dropWhile (fun y => Op.bytesLess y.f0.toList x.toList) = y :: r → Op.bytesLess y.f0.toList x.toList = false
  | [], y, r, h => by simp at h
  | z :: l, y, r, h => by
    rw [List.dropWhile_cons] at h
    split at h
    next => exact high_head x l h
    next hz => cases h; simpa using hz
theorem with_want (l : List It) (x : It) (hg : (goodI l && rightB x.f0 x.f1.length) = true) :
    (100 < (wantL (toI x) (l.map toI)).length → withV l x = ([], 15)) ∧ ((wantL (toI x) (l.map toI)).length ≤ 100 → ∃ R, withV l x = (R, 0) ∧ R.map toI = wantL (toI x) (l.map toI) ∧ goodI R = true) := by
  have hg0 := hg
  rw [Bool.and_eq_true] at hg0
  obtain ⟨hgl, hgx⟩ := hg0
  obtain ⟨hr, hp, h100⟩ := (good_iff l).1 hgl
  obtain ⟨l1, hl1⟩ : ∃ l1, l.takeWhile (fun y => Op.bytesLess y.f0.toList x.f0.toList) = l1 := ⟨_, rfl⟩
  obtain ⟨l2, hl2⟩ : ∃ l2, l.dropWhile (fun y => Op.bytesLess y.f0.toList x.f0.toList) = l2 := ⟨_, rfl⟩
  have hll : l = l1 ++ l2 := by rw [← hl1, ← hl2, List.takeWhile_append_dropWhile]
  have hlow : ∀ y ∈ l1, ltI y x := fun y hy => low_all x.f0 l y (by rw [hl1]; exact hy)
  have hpos : posI l x.f0 = l1.length := by unfold posI; rw [hl1]
  rw [hll, List.pairwise_append] at hp
  obtain ⟨hp1, hp2, hp12⟩ := hp
  have hwv : withV l x = if posI l x.f0 < l.length ∧ (l.getD (posI l x.f0) z49).f0 = x.f0 then (l.set (posI l x.f0) x, 0) else if 100 ≤ l.length then ([], 15) else (l.take (posI l x.f0) ++ x :: l.drop (posI l x.f0), 0) := by unfold withV; rw [if_pos hg]
  rw [hwv, hpos]
  have hfold : (l.map toI).foldl (wantS (toI x)) ([], false) = (l2.map toI).foldl (wantS (toI x)) (l1.map toI, false) := by
    rw [hll, List.map_append, List.foldl_append, fold_low x l1 [] hlow, List.nil_append]
  have hrx : ∀ R : List It, (∀ y ∈ R, y = x ∨ y ∈ l) → ∀ y ∈ R, rightB y.f0 y.f1.length = true := fun R h y hy => by
    rcases h y hy with rfl | h
    · exact hgx
    · exact hr y h
  cases l2 with
  | nil =>
    rw [List.append_nil] at hll
    have hw : wantL (toI x) (l.map toI) = (l1 ++ [x]).map toI := by
      unfold wantL
      rw [hfold, List.map_append]
      rfl
    have hno : ¬ (l1.length < l.length ∧ (l.getD l1.length z49).f0 = x.f0) := fun h => by rw [hll] at h; omega
    rw [if_neg hno, hw, List.length_map, List.length_append, List.length_singleton]
    refine ⟨fun h => by rw [if_pos (by rw [hll]; omega)], fun h => ⟨l1 ++ [x], ?_, rfl, ?_⟩⟩
    · rw [if_neg (by rw [hll]; omega), hll, List.take_length, List.drop_length]
    · rw [good_iff]
      refine ⟨hrx _ (fun y hy => ?_), ?_, by rw [List.length_append]; exact h⟩
      · rcases List.mem_append.1 hy with hy | hy
        · exact .inr (by rw [hll]; exact hy)
        · exact .inl (by simpa using hy)
      · rw [List.pairwise_append]
        exact ⟨hp1, List.pairwise_singleton _ _, fun a ha b hb => by obtain rfl : b = x := by simpa using hb
                                                                     exact hlow a ha⟩
  | cons y l3 =>
    have hyx : Op.bytesLess y.f0.toList x.f0.toList = false := high_head x.f0 l hl2
    rw [List.pairwise_cons] at hp2
    have hget : l.getD l1.length z49 = y := by
      rw [hll, List.getD_eq_getElem?_getD, List.getElem?_append_right (Nat.le_refl _), Nat.sub_self]
      rfl
    have hlt : l1.length < l.length := by rw [hll, List.length_append, List.length_cons]; omega
    rw [hget]
    by_cases he : y.f0 = x.f0
    · rw [if_pos ⟨hlt, he⟩]
      have hlz : ∀ z ∈ l3, ltI x z := fun z hz => by
        have := hp2.1 z hz
        unfold ltI at this ⊢
        rwa [he] at this
      have hw : wantL (toI x) (l.map toI) = (l1 ++ x :: l3).map toI := by
        have e1 : wantS (toI x) (l1.map toI, false) (toI y) = (l1.map toI ++ [toI x], true) := by
          have e3 : ((toI x).f0.toList == (toI y).f0.toList) = true := by rw [beq_iff_eq]; exact congrArg ByteArray.toList he.symm
          have e4 : ((toI y).f0.toList == (toI x).f0.toList) = true := by rw [beq_iff_eq]; exact congrArg ByteArray.toList he
          unfold wantS
          simp only [e3, e4, Bool.or_true]
          rfl
        unfold wantL
        rw [hfold, List.map_cons, List.foldl_cons, e1, fold_high x l3 _ hlz, if_pos rfl]
        simp
      have hset : l.set l1.length x = l1 ++ x :: l3 := by
        rw [hll, List.set_append_right _ _ (Nat.le_refl _), Nat.sub_self]
        rfl
      have hwl : (wantL (toI x) (l.map toI)).length = l.length := by rw [hw, hll]; simp
      refine ⟨fun h => by omega, fun h => ⟨_, rfl, by rw [hset, hw], ?_⟩⟩
      rw [hset, good_iff]
      refine ⟨hrx _ (fun z hz => ?_), ?_, ?_⟩
      · rw [hll]
        simp only [List.mem_append, List.mem_cons] at hz ⊢
        rcases hz with hz | hz | hz
        · exact .inr (.inl hz)
        · exact .inl hz
        · exact .inr (.inr (.inr hz))
      · rw [List.pairwise_append, List.pairwise_cons]
        refine ⟨hp1, ⟨hlz, hp2.2⟩, fun a ha b hb => ?_⟩
        rcases List.mem_cons.1 hb with rfl | hb
        · exact hlow a ha
        · exact hp12 a ha b (List.mem_cons_of_mem _ hb)
      · rw [← hset, List.length_set]; exact h100
    · rw [if_neg (fun h => he h.2)]
      have hxy : Op.bytesLess x.f0.toList y.f0.toList = true := by
        cases hq : Op.bytesLess x.f0.toList y.f0.toList with
        | true => rfl
        | false => exact absurd (text_eq (bl_tri _ _ hyx hq)) he
      have hlz : ∀ z ∈ y :: l3, ltI x z := fun z hz => by
        rcases List.mem_cons.1 hz with rfl | hz
        · exact hxy
        · exact bl_trans _ _ _ hxy (hp2.1 z hz)
      have hw : wantL (toI x) (l.map toI) = (l1 ++ x :: y :: l3).map toI := by
        have e1 : wantS (toI x) (l1.map toI, false) (toI y) = (l1.map toI ++ [toI x] ++ [toI y], true) := by
          have e2 : Op.bytesLess (toI x).f0.toList (toI y).f0.toList = true := hxy
          have e4 : ((toI y).f0.toList == (toI x).f0.toList) = false := (bl_ne hxy).2
          unfold wantS
          simp only [e2, e4, Bool.true_or]
          rfl
        unfold wantL
        rw [hfold, List.map_cons, List.foldl_cons, e1, fold_high x l3 _ (fun z hz => hlz z (List.mem_cons_of_mem _ hz)), if_pos rfl]
        simp
      have hwl : (wantL (toI x) (l.map toI)).length = l.length + 1 := by rw [hw, hll]; simp; omega
      refine ⟨fun h => by rw [if_pos (by omega)], fun h => ⟨l1 ++ x :: y :: l3, ?_, hw.symm, ?_⟩⟩
      · rw [if_neg (by omega)]
        conv => lhs; rw [hll, List.take_left, List.drop_left]
      · rw [good_iff]
        refine ⟨hrx _ (fun z hz => ?_), ?_, by rw [hw, List.length_map] at h; exact h⟩
        · rw [hll]
          simp only [List.mem_append, List.mem_cons] at hz ⊢
          rcases hz with hz | hz | hz | hz
          · exact .inr (.inl hz)
          · exact .inl hz
          · exact .inr (.inr (.inl hz))
          · exact .inr (.inr (.inr hz))
        · rw [List.pairwise_append, List.pairwise_cons, List.pairwise_cons]
          refine ⟨hp1, ⟨hlz, hp2⟩, fun a ha b hb => ?_⟩
          rcases List.mem_cons.1 hb with rfl | hb
          · exact hlow a ha
          · exact hp12 a ha b hb
end Go.Proofs.YtibmccacebhhkaaDoor.VaultIns

namespace Go.Proofs.YtibmccacebhhkaaDoor.HV
open Go.RowKit Go.Proofs.YtibmccacebhhkaaDoorW.PrintWords Go.Proofs.YtibmccacebhhkaaDoorW.PrintLast Go.Proofs.YtibmccacebhhkaaDoorW.PrintMore
attribute [local go_sem] max2_int min2_int max_two min_two max_three min_three max_four min_four   -- for this text's walks alone
set_option linter.unusedVariables false
set_option linter.unusedSimpArgs false

/-! ### sackbutlaw25_VaultWith: function 7, by hand -/
structure AsideVW (p : Prop) : Prop where mk :: (out : p)
set_option maxRecDepth 100000 in
set_option maxHeartbeats 4000000 in
theorem law25_with.many (A : Option Addr) (c : Nat) (L : List S49) (nm : ByteArray) (Ax : Option Addr) (m cx : Nat) (w : World) (hG : GL w) (hc : L.length ≤ c) (hR : Kd.C k49 w A L.length L) (hf : (VaultPk.fewB L && decide (nm.size ≤ 60) && decide (m ≤ 100)) = false) :
    Calls Tryd.prog 7 #[.slice A L.length c, .agg #[.string nm, .slice Ax m cx]] w fun e w' => e = .returned (.bool true) ∧ Below w.heap.size w w' := by
  have HAW := AsideVW.mk (fun (W : World) (hW : Below w.heap.size w W) => law25_awake.gives W (hG.of_below hW))
  have HFW := AsideVW.mk (fun (W : World) (hW : Below w.heap.size w W) => sackbutlaw25_few.calls (L.length + 1) A c L (VaultPk.fewB L) W (Kd.C_below hR hW) hc (by rw [VaultPk.few_spec L hR.2.1 _ (Nat.lt_succ_self _)]))
  have HB0 := AsideVW.mk (below_alloc (Below.refl w.heap.size w) (.cells #[.string nm, .slice Ax m cx] 49 (0, 0)))
  have HBX := AsideVW.mk (blk_new w (.cells #[.string nm, .slice Ax m cx] 49 (0, 0)))
  obtain ⟨f0, f1, fz⟩ := item_open HBX.out
  obtain ⟨n, hn⟩ : ∃ n, L.length = n := ⟨_, rfl⟩
  rw [hn] at HFW ⊢
  obtain ⟨bf, hbf⟩ : ∃ bf, VaultPk.fewB L = bf := ⟨_, rfl⟩
  rw [hbf] at HFW hf
  obtain ⟨s, hs⟩ : ∃ s, nm.size = s := ⟨_, rfl⟩
  rw [hs] at hf
  have hsz : (nm.size : Int) = (s : Int) := by rw [hs]
  have hcase : (bf = false) ∨ (bf = true ∧ 60 < s) ∨ (bf = true ∧ s ≤ 60 ∧ 100 < m) := by
    cases bf with
    | false => exact .inl rfl
    | true =>
      by_cases h1 : s ≤ 60
      · by_cases h2 : m ≤ 100
        · rw [decide_eq_true h1, decide_eq_true h2] at hf; cases hf
        · exact .inr (.inr ⟨rfl, h1, by omega⟩)
      · exact .inr (.inl ⟨rfl, by omega⟩)
  have tok1 : True := trivial
  clear hG hR hc hf hn hs hbf
  rcases hcase with rfl | ⟨rfl, h1⟩ | ⟨rfl, h1, h2⟩
  · have htok := trivial
    go_enter Tryd.func7, Tryd.ntmps7
    go_upto_region 1 with (fail)
    obtain ⟨W0, hW0⟩ : ∃ W0, w.alloc (.cells #[.string nm, .slice Ax m cx] 49 (0, 0)) = W0 := ⟨_, rfl⟩
    obtain ⟨gx, hgx⟩ : ∃ gx, w.heap.size = gx := ⟨_, rfl⟩
    rw [hW0] at HB0 HBX f0 f1 fz ⊢
    rw [hgx] at HBX f0 f1 fz ⊢
    have HGX := AsideVW.mk hgx
    clear hW0 hgx
    go_wp2_with (first | (go_at_call 12; (with_reducible refine (HFW.out _ HB1.out).mono ?_); rintro e w2 ⟨rfl, hb⟩; have HB2 := AsideVW.mk (below_step HB1.out hb); have HBX2 := AsideVW.mk (blk_below HBX1.out hb); obtain ⟨f0, f1, fz⟩ := item_open HBX2.out; clear hb) | (go_at_call 8; have _t := tok1; (with_reducible refine (HAW.out _ HB0.out).mono ?_); clear tok1 _t; rintro e w1 ⟨rfl, hb⟩; have HB1 := AsideVW.mk (below_step HB0.out hb); have HBX1 := AsideVW.mk (blk_below HBX.out hb); obtain ⟨f0, f1, fz⟩ := item_open HBX1.out; clear hb) | (go_at_call 8; (with_reducible refine (HAW.out _ HB2.out).mono ?_); rintro e w3 ⟨rfl, hb⟩; have HB3 := AsideVW.mk (below_step HB2.out hb); clear hb))
    go_ret
    exact ⟨rfl, HB3.out⟩
  · have htok := trivial
    have hd60 : decide ((60 : Int) < (s : Int)) = true := decide_eq_true (by omega)
    go_enter Tryd.func7, Tryd.ntmps7
    go_upto_region 1 with (fail)
    obtain ⟨W0, hW0⟩ : ∃ W0, w.alloc (.cells #[.string nm, .slice Ax m cx] 49 (0, 0)) = W0 := ⟨_, rfl⟩
    obtain ⟨gx, hgx⟩ : ∃ gx, w.heap.size = gx := ⟨_, rfl⟩
    rw [hW0] at HB0 HBX f0 f1 fz ⊢
    rw [hgx] at HBX f0 f1 fz ⊢
    have HGX := AsideVW.mk hgx
    clear hW0 hgx
    go_wp2_with (first | (go_at_call 12; (with_reducible refine (HFW.out _ HB1.out).mono ?_); rintro e w2 ⟨rfl, hb⟩; have HB2 := AsideVW.mk (below_step HB1.out hb); have HBX2 := AsideVW.mk (blk_below HBX1.out hb); obtain ⟨f0, f1, fz⟩ := item_open HBX2.out; clear hb) | (go_at_call 8; have _t := tok1; (with_reducible refine (HAW.out _ HB0.out).mono ?_); clear tok1 _t; rintro e w1 ⟨rfl, hb⟩; have HB1 := AsideVW.mk (below_step HB0.out hb); have HBX1 := AsideVW.mk (blk_below HBX.out hb); obtain ⟨f0, f1, fz⟩ := item_open HBX1.out; clear hb) | (go_at_call 8; (with_reducible refine (HAW.out _ HB2.out).mono ?_); rintro e w3 ⟨rfl, hb⟩; have HB3 := AsideVW.mk (below_step HB2.out hb); clear hb))
    go_ret
    exact ⟨rfl, HB3.out⟩
  · have htok := trivial
    have hd60 : decide ((60 : Int) < (s : Int)) = false := decide_eq_false (by omega)
    have hd100 : decide ((100 : Int) < (m : Int)) = true := decide_eq_true (by omega)
    go_enter Tryd.func7, Tryd.ntmps7
    go_upto_region 1 with (fail)
    obtain ⟨W0, hW0⟩ : ∃ W0, w.alloc (.cells #[.string nm, .slice Ax m cx] 49 (0, 0)) = W0 := ⟨_, rfl⟩
    obtain ⟨gx, hgx⟩ : ∃ gx, w.heap.size = gx := ⟨_, rfl⟩
    rw [hW0] at HB0 HBX f0 f1 fz ⊢
    rw [hgx] at HBX f0 f1 fz ⊢
    have HGX := AsideVW.mk hgx
    clear hW0 hgx
    go_wp2_with (first | (go_at_call 12; (with_reducible refine (HFW.out _ HB1.out).mono ?_); rintro e w2 ⟨rfl, hb⟩; have HB2 := AsideVW.mk (below_step HB1.out hb); have HBX2 := AsideVW.mk (blk_below HBX1.out hb); obtain ⟨f0, f1, fz⟩ := item_open HBX2.out; clear hb) | (go_at_call 8; have _t := tok1; (with_reducible refine (HAW.out _ HB0.out).mono ?_); clear tok1 _t; rintro e w1 ⟨rfl, hb⟩; have HB1 := AsideVW.mk (below_step HB0.out hb); have HBX1 := AsideVW.mk (blk_below HBX.out hb); obtain ⟨f0, f1, fz⟩ := item_open HBX1.out; clear hb) | (go_at_call 8; (with_reducible refine (HAW.out _ HB2.out).mono ?_); rintro e w3 ⟨rfl, hb⟩; have HB3 := AsideVW.mk (below_step HB2.out hb); clear hb))
    go_ret
    exact ⟨rfl, HB3.out⟩
theorem item_cells2 {w : World} {g : Nat} {x y : Value} (h : w.heap[g]? = some (.cells #[x, y] 57 (0, 0))) : w.cell? ⟨g, 0, none⟩ = some x ∧ w.cell? ⟨g, 1, none⟩ = some y := ⟨(blk_cell h 0).trans rfl, (blk_cell h 1).trans rfl⟩
set_option maxRecDepth 100000 in
set_option maxHeartbeats 4000000 in
theorem law25_with.bad (A : Option Addr) (c : Nat) (L : List S49) (nm : ByteArray) (xb : List Int) (Ax : Option Addr) (m cx : Nat) (w : World) (hG : GL w) (hc : L.length ≤ c) (hR : Kd.C k49 w A L.length L) (hX : Kd.C (Kd.int .u8) w Ax m xb) (hcx : m ≤ cx) (hf : VaultPk.fewB L = true) (hs : nm.size ≤ 60) (hm : m ≤ 100) (hg : (goodI L && rightB nm m) = false) :
    Calls Tryd.prog 7 #[.slice A L.length c, .agg #[.string nm, .slice Ax m cx]] w fun e w' => e = .returned (.bool true) ∧ Below w.heap.size w w' := by
  obtain ⟨hl, hx⟩ := few_get hf
  have hxm : xb.length = m := hX.1
  have HAW := AsideVW.mk (fun (W : World) (hW : Below w.heap.size w W) => law25_awake.gives W (hG.of_below hW))
  have HFW := AsideVW.mk (fun (W : World) (hW : Below w.heap.size w W) => sackbutlaw25_few.calls (L.length + 1) A c L true W (Kd.C_below hR hW) hc (by rw [VaultPk.few_spec L hR.2.1 _ (Nat.lt_succ_self _), hf]))
  have HREF := AsideVW.mk (fun (W : World) (hW : Below w.heap.size w W) => law25_ref.gives 5000 _ A c L W (by omega) (by omega) (Kd.V_mk hc (Kd.F_below (Kd.C_F item_heap hR) hW)))
  have HRG := AsideVW.mk (fun (W : World) (A2 : Option Addr) (c2 : Nat) (h : Kd.C k57 W A2 L.length (L.map toI)) => ref_good.gives 5000 A2 c2 L W h (fun x hxm => VaultPk.right_item x.f0 x.f1 (by have := hx x hxm; omega) (by have := hx x hxm; omega) 5000 (by omega)))
  have HRR : AsideVW (∀ W : World, Below w.heap.size w W → Calls Tryd.prog 24 #[.agg #[.string nm, .slice Ax m cx]] W fun e w' => e = .returned (.bool (rightB nm m)) ∧ Below W.heap.size W w') := ⟨fun W hW => by
    have h := sackbutref25_Right.calls 5000 nm Ax cx xb (rightB nm xb.length) W (by rw [hxm]; exact Kd.C_below hX hW) (by omega) (VaultPk.right_item nm xb (by omega) (by omega) 5000 (by omega))
    rw [hxm] at h
    exact h⟩
  have HWI : AsideVW (∀ W : World, Below w.heap.size w W → Calls Tryd.prog 23 #[.slice A L.length c, .agg #[.string nm, .slice Ax m cx]] W fun e w' => ∃ (A5 : Option Addr) (c5 : Nat), e = .returned (.tuple #[.slice A5 0 c5, .int .i64 2]) ∧ Below W.heap.size W w') := ⟨fun W hW => by
    refine (vault_With.gives A c L.length L nm xb Ax cx m W (Kd.C_below hR hW) (Kd.C_below hX hW) hcx (by omega) (fun y hy => by have := hx y hy; omega) (by omega)).mono ?_
    rintro e w' ⟨v, he, hn, hb⟩
    rw [show withV L ⟨nm, xb⟩ = ([], 2) by unfold withV; rw [hxm, hg]; rfl] at he hn
    obtain ⟨A5, c5, ev⟩ := Kd.N_slice hn
    exact ⟨A5, c5, by rw [he, ev]; rfl, hb⟩⟩
  have HB0 := AsideVW.mk (below_alloc (Below.refl w.heap.size w) (.cells #[.string nm, .slice Ax m cx] 49 (0, 0)))
  have HBX := AsideVW.mk (blk_new w (.cells #[.string nm, .slice Ax m cx] 49 (0, 0)))
  obtain ⟨f0, f1, fz⟩ := item_open HBX.out
  obtain ⟨n, hn⟩ : ∃ n, L.length = n := ⟨_, rfl⟩
  rw [hn] at HFW HREF HRG HWI ⊢
  obtain ⟨s, hs2⟩ : ∃ s, nm.size = s := ⟨_, rfl⟩
  rw [hs2] at hs
  have hsz : (nm.size : Int) = (s : Int) := by rw [hs2]
  have hcase : goodI L = false ∨ (goodI L = true ∧ rightB nm m = false) := by
    cases h1 : goodI L with
    | false => exact .inl rfl
    | true => rw [h1] at hg; exact .inr ⟨rfl, hg⟩
  clear hG hR hX hc hcx hf hg hx hl hxm hn hs2
  rcases hcase with hg1 | ⟨hg1, hg2⟩
  · have htok := trivial
    rw [hg1] at HRG
    have hd60 : decide ((60 : Int) < (s : Int)) = false := decide_eq_false (by omega)
    have hd100 : decide ((100 : Int) < (m : Int)) = false := decide_eq_false (by omega)
    go_enter Tryd.func7, Tryd.ntmps7
    go_upto_region 1 with (fail)
    obtain ⟨W0, hW0⟩ : ∃ W0, w.alloc (.cells #[.string nm, .slice Ax m cx] 49 (0, 0)) = W0 := ⟨_, rfl⟩
    obtain ⟨gx, hgx⟩ : ∃ gx, w.heap.size = gx := ⟨_, rfl⟩
    rw [hW0] at HB0 HBX f0 f1 fz ⊢
    rw [hgx] at HBX f0 f1 fz ⊢
    have HGX := AsideVW.mk hgx
    clear hW0 hgx
    go_wp2_with (first | (go_at_call 8; (with_reducible refine (HAW.out _ HB0.out).mono ?_); rintro e w1 ⟨rfl, hb⟩; have HB1 := AsideVW.mk (below_step HB0.out hb); have HBX1 := AsideVW.mk (blk_below HBX.out hb); obtain ⟨f0, f1, fz⟩ := item_open HBX1.out; clear hb) | (go_at_call 12; (with_reducible refine (HFW.out _ HB1.out).mono ?_); rintro e w2 ⟨rfl, hb⟩; have HB2 := AsideVW.mk (below_step HB1.out hb); have HBX2 := AsideVW.mk (blk_below HBX1.out hb); obtain ⟨f0, f1, fz⟩ := item_open HBX2.out; clear hb) | (go_at_call 23; (with_reducible refine (HWI.out _ HB2.out).mono ?_); rintro e w3 ⟨A5, c5, rfl, hb⟩; have HB3 := AsideVW.mk (below_step HB2.out hb); have HBX3 := AsideVW.mk (blk_below HBX2.out hb); obtain ⟨f0, f1, fz⟩ := item_open HBX3.out; clear hb) | (go_at_call 14; (with_reducible refine (HREF.out _ HB3.out).mono ?_); rintro e w4 ⟨A4, c4, rfl, hc4, hC4, hb⟩; have HC4 := AsideVW.mk hC4; clear hc4 hC4; have HB4 := AsideVW.mk (below_step HB3.out hb); have HBX4 := AsideVW.mk (blk_below HBX3.out hb); obtain ⟨f0, f1, fz⟩ := item_open HBX4.out; clear hb) | (go_at_call 13; (with_reducible refine (HRG.out _ A4 c4 HC4.out).mono ?_); rintro e w5 ⟨rfl, hb⟩; have HB5 := AsideVW.mk (below_step HB4.out hb); have HBX5 := AsideVW.mk (blk_below HBX4.out hb); obtain ⟨f0, f1, fz⟩ := item_open HBX5.out; clear hb))
    go_ret
    exact ⟨rfl, HB5.out⟩
  · have htok := trivial
    rw [hg1] at HRG
    rw [hg2] at HRR
    have hd60 : decide ((60 : Int) < (s : Int)) = false := decide_eq_false (by omega)
    have hd100 : decide ((100 : Int) < (m : Int)) = false := decide_eq_false (by omega)
    go_enter Tryd.func7, Tryd.ntmps7
    go_upto_region 1 with (fail)
    obtain ⟨W0, hW0⟩ : ∃ W0, w.alloc (.cells #[.string nm, .slice Ax m cx] 49 (0, 0)) = W0 := ⟨_, rfl⟩
    obtain ⟨gx, hgx⟩ : ∃ gx, w.heap.size = gx := ⟨_, rfl⟩
    rw [hW0] at HB0 HBX f0 f1 fz ⊢
    rw [hgx] at HBX f0 f1 fz ⊢
    have HGX := AsideVW.mk hgx
    clear hW0 hgx
    go_wp2_with (first | (go_at_call 8; (with_reducible refine (HAW.out _ HB0.out).mono ?_); rintro e w1 ⟨rfl, hb⟩; have HB1 := AsideVW.mk (below_step HB0.out hb); have HBX1 := AsideVW.mk (blk_below HBX.out hb); obtain ⟨f0, f1, fz⟩ := item_open HBX1.out; clear hb) | (go_at_call 12; (with_reducible refine (HFW.out _ HB1.out).mono ?_); rintro e w2 ⟨rfl, hb⟩; have HB2 := AsideVW.mk (below_step HB1.out hb); have HBX2 := AsideVW.mk (blk_below HBX1.out hb); obtain ⟨f0, f1, fz⟩ := item_open HBX2.out; clear hb) | (go_at_call 23; (with_reducible refine (HWI.out _ HB2.out).mono ?_); rintro e w3 ⟨A5, c5, rfl, hb⟩; have HB3 := AsideVW.mk (below_step HB2.out hb); have HBX3 := AsideVW.mk (blk_below HBX2.out hb); obtain ⟨f0, f1, fz⟩ := item_open HBX3.out; clear hb) | (go_at_call 14; (with_reducible refine (HREF.out _ HB3.out).mono ?_); rintro e w4 ⟨A4, c4, rfl, hc4, hC4, hb⟩; have HC4 := AsideVW.mk hC4; clear hc4 hC4; have HB4 := AsideVW.mk (below_step HB3.out hb); have HBX4 := AsideVW.mk (blk_below HBX3.out hb); obtain ⟨f0, f1, fz⟩ := item_open HBX4.out; clear hb) | (go_at_call 13; (with_reducible refine (HRG.out _ A4 c4 HC4.out).mono ?_); rintro e w5 ⟨rfl, hb⟩; have HB5 := AsideVW.mk (below_step HB4.out hb); have HBX5 := AsideVW.mk (blk_below HBX4.out hb); obtain ⟨f0, f1, fz⟩ := item_open HBX5.out; clear hb) | (go_at_call 24; (with_reducible refine (HRR.out _ HB5.out).mono ?_); rintro e w6 ⟨rfl, hb⟩; have HB6 := AsideVW.mk (below_step HB5.out hb); clear hb))
    go_ret
    exact ⟨rfl, HB6.out⟩
set_option maxRecDepth 100000 in
set_option maxHeartbeats 8000000 in
theorem law25_with.good (A : Option Addr) (c : Nat) (L : List S49) (nm : ByteArray) (xb : List Int) (Ax : Option Addr) (m cx : Nat) (w : World) (hG : GL w) (hc : L.length ≤ c) (hR : Kd.C k49 w A L.length L) (hX : Kd.C (Kd.int .u8) w Ax m xb) (hcx : m ≤ cx) (hf : VaultPk.fewB L = true) (hs : nm.size ≤ 60) (hm : m ≤ 100) (hg : (goodI L && rightB nm m) = true) :
    Calls Tryd.prog 7 #[.slice A L.length c, .agg #[.string nm, .slice Ax m cx]] w fun e w' => e = .returned (.bool true) ∧ Below w.heap.size w w' := by
  obtain ⟨hl, hx⟩ := few_get hf
  have hxm : xb.length = m := hX.1
  have hww := VaultIns.with_want L ⟨nm, xb⟩ (by rw [show (⟨nm, xb⟩ : S49).f1.length = m from hxm]; exact hg)
  have HAW := AsideVW.mk (fun (W : World) (hW : Below w.heap.size w W) => law25_awake.gives W (hG.of_below hW))
  have HFW := AsideVW.mk (fun (W : World) (hW : Below w.heap.size w W) => sackbutlaw25_few.calls (L.length + 1) A c L true W (Kd.C_below hR hW) hc (by rw [VaultPk.few_spec L hR.2.1 _ (Nat.lt_succ_self _), hf]))
  have HREF : AsideVW (∀ W : World, Below w.heap.size w W → Calls Tryd.prog 14 #[.slice A L.length c] W fun e w' => ∃ (A4 : Option Addr) (c4 : Nat), e = .returned (.slice A4 L.length c4) ∧ Kd.N k57 57 w' W.heap.size (fun _ => True) (.slice A4 L.length c4) (L.map toI) ∧ Below W.heap.size W w') := ⟨fun W hW => by
    refine (sackbutlaw25_ref.calls 5000 _ A c L (L.map toI) W (Kd.V_mk hc (Kd.F_below (Kd.C_F item_heap hR) hW)) (VaultPk.ref_spec L (by omega) 5000 (by omega))).mono ?_
    rintro e w' ⟨v, he, hn, hb⟩
    obtain ⟨A4, c4, ev⟩ := Kd.N_slice hn
    rw [List.length_map] at ev
    rw [ev] at hn
    exact ⟨A4, c4, by rw [he, ev], Kd.N_mono hn (fun _ _ => trivial), hb⟩⟩
  have HRG := AsideVW.mk (fun (W : World) (A2 : Option Addr) (c2 : Nat) (h : Kd.C k57 W A2 L.length (L.map toI)) => ref_good.gives 5000 A2 c2 L W h (fun x hxm => VaultPk.right_item x.f0 x.f1 (by have := hx x hxm; omega) (by have := hx x hxm; omega) 5000 (by omega)))
  have HRR : AsideVW (∀ W : World, Below w.heap.size w W → Calls Tryd.prog 24 #[.agg #[.string nm, .slice Ax m cx]] W fun e w' => e = .returned (.bool (rightB nm m)) ∧ Below W.heap.size W w') := ⟨fun W hW => by
    have h := sackbutref25_Right.calls 5000 nm Ax cx xb (rightB nm xb.length) W (by rw [hxm]; exact Kd.C_below hX hW) (by omega) (VaultPk.right_item nm xb (by omega) (by omega) 5000 (by omega))
    rw [hxm] at h
    exact h⟩
  obtain ⟨R, hRV⟩ : ∃ R, withV L ⟨nm, xb⟩ = R := ⟨_, rfl⟩
  rw [hRV] at hww
  obtain ⟨R1, code⟩ := R
  have HWW := AsideVW.mk hww
  have HWI : AsideVW (∀ W : World, Below w.heap.size w W → Calls Tryd.prog 23 #[.slice A L.length c, .agg #[.string nm, .slice Ax m cx]] W fun e w' => ∃ (A5 : Option Addr) (c5 : Nat), e = .returned (.tuple #[.slice A5 R1.length c5, .int .i64 code]) ∧ Kd.N k49 49 w' W.heap.size (fun _ => True) (.slice A5 R1.length c5) R1 ∧ Below W.heap.size W w') := ⟨fun W hW => by
    refine (vault_With.gives A c L.length L nm xb Ax cx m W (Kd.C_below hR hW) (Kd.C_below hX hW) hcx (by omega) (fun y hy => by have := hx y hy; omega) (by omega)).mono ?_
    rintro e w' ⟨v, he, hn, hb⟩
    rw [hRV] at he hn
    obtain ⟨A5, c5, ev⟩ := Kd.N_slice hn
    rw [ev] at hn
    exact ⟨A5, c5, by rw [he, ev], hn, hb⟩⟩
  have HFX : AsideVW (∀ W : World, Below w.heap.size w W → Kd.FK k57 W (fun k => k < w.heap.size) (⟨nm, xb⟩ : S57) [.string nm, .slice Ax m cx]) := ⟨fun W hW => by
    have h := k57_mkF w (fun k => k < w.heap.size) (⟨nm, xb⟩ : S57) (A1 := Ax) (c1 := cx) (by rw [hxm]; exact hcx) (by rw [hxm]; exact Kd.C_F (Kd.heap_int .u8) hX)
    rw [show (⟨nm, xb⟩ : S57).f1.length = m from hxm] at h
    exact Kd.FK_below h hW⟩
  have HB0 := AsideVW.mk (below_alloc (Below.refl w.heap.size w) (.cells #[.string nm, .slice Ax m cx] 49 (0, 0)))
  have HBX := AsideVW.mk (blk_new w (.cells #[.string nm, .slice Ax m cx] 49 (0, 0)))
  obtain ⟨f0, f1, fz⟩ := item_open HBX.out
  have HML : AsideVW ((L.map toI).length = L.length) := ⟨List.length_map ..⟩
  obtain ⟨M, hM⟩ : ∃ M, L.map toI = M := ⟨_, rfl⟩
  obtain ⟨n, hn⟩ : ∃ n, L.length = n := ⟨_, rfl⟩
  rw [hM] at HREF HRG HWW HML
  rw [hn] at HFW HREF HRG HWI HML hl ⊢
  obtain ⟨s, hs2⟩ : ∃ s, nm.size = s := ⟨_, rfl⟩
  rw [hs2] at hs
  have hsz : (nm.size : Int) = (s : Int) := by rw [hs2]
  rw [Bool.and_eq_true] at hg
  rw [hg.1] at HRG
  rw [hg.2] at HRR
  have hxD : toI (⟨nm, xb⟩ : S49) = (⟨nm, xb⟩ : S57) := rfl
  rw [hxD] at HWW
  have hd60 : decide ((60 : Int) < (s : Int)) = false := decide_eq_false (by omega)
  have hd100 : decide ((100 : Int) < (m : Int)) = false := decide_eq_false (by omega)
  clear hG hR hX hc hcx hf hg hx hxm hn hs2 hM hww hRV hxD
  go_enter Tryd.func7, Tryd.ntmps7
  go_upto_region 1 with (fail)
  obtain ⟨W0, hW0⟩ : ∃ W0, w.alloc (.cells #[.string nm, .slice Ax m cx] 49 (0, 0)) = W0 := ⟨_, rfl⟩
  obtain ⟨gx, hgx⟩ : ∃ gx, w.heap.size = gx := ⟨_, rfl⟩
  rw [hW0] at HB0 HBX f0 f1 fz ⊢
  rw [hgx] at HBX f0 f1 fz ⊢
  have HGX := AsideVW.mk hgx
  clear hW0 hgx
  go_wp2_with (first | (go_at_call 8; (with_reducible refine (HAW.out _ HB0.out).mono ?_); rintro e w1 ⟨rfl, hb⟩; have HB1 := AsideVW.mk (below_step HB0.out hb); have HBX1 := AsideVW.mk (blk_below HBX.out hb); obtain ⟨f0, f1, fz⟩ := item_open HBX1.out; clear hb) | (go_at_call 12; (with_reducible refine (HFW.out _ HB1.out).mono ?_); rintro e w2 ⟨rfl, hb⟩; have HB2 := AsideVW.mk (below_step HB1.out hb); have HBX2 := AsideVW.mk (blk_below HBX1.out hb); obtain ⟨f0, f1, fz⟩ := item_open HBX2.out; clear hb) | (go_at_call 23; (with_reducible refine (HWI.out _ HB2.out).mono ?_); rintro e w3 ⟨A5, c5, rfl, hn, hb⟩; have HN3 := AsideVW.mk hn; clear hn; have HB3 := AsideVW.mk (below_step HB2.out hb); have HBX3 := AsideVW.mk (blk_below HBX2.out hb); obtain ⟨f0, f1, fz⟩ := item_open HBX3.out; clear hb) | (go_at_call 14; (with_reducible refine (HREF.out _ HB3.out).mono ?_); rintro e w4 ⟨A4, c4, rfl, hn, hb⟩; have HC4 := AsideVW.mk hn; clear hn; have HB4 := AsideVW.mk (below_step HB3.out hb); have HBX4 := AsideVW.mk (blk_below HBX3.out hb); obtain ⟨f0, f1, fz⟩ := item_open HBX4.out; have HD4 := AsideVW.mk (hb); clear hb) | (go_at_call 13; (with_reducible refine (HRG.out _ A4 c4 (by have h := (Kd.N_reads' HC4.out).2.2; rwa [HML.out] at h)).mono ?_); rintro e w5 ⟨rfl, hb⟩; have HB5 := AsideVW.mk (below_step HB4.out hb); have HBX5 := AsideVW.mk (blk_below HBX4.out hb); obtain ⟨f0, f1, fz⟩ := item_open HBX5.out; have HD5 := AsideVW.mk (below_step HD4.out hb); clear hb) | (go_at_call 24; (with_reducible refine (HRR.out _ HB5.out).mono ?_); rintro e w6 ⟨rfl, hb⟩; have HB6 := AsideVW.mk (below_step HB5.out hb); have HBX6 := AsideVW.mk (blk_below HBX5.out hb); obtain ⟨f0, f1, fz⟩ := item_open HBX6.out; have HD6 := AsideVW.mk (below_step HD5.out hb); clear hb) | (go_at_call 14; (with_reducible refine (HREF.out _ HB6.out).mono ?_); rintro e w7 ⟨A7, c7, rfl, hn, hb⟩; have HC7 := AsideVW.mk hn; clear hn; have HB7 := AsideVW.mk (below_step HB6.out hb); have HBX7 := AsideVW.mk (blk_below HBX6.out hb); obtain ⟨f0, f1, fz⟩ := item_open HBX7.out; have HD7 := AsideVW.mk (below_step HD6.out hb); clear hb))
  obtain ⟨WL, hWL⟩ : ∃ WL, VaultIns.wantL (⟨nm, xb⟩ : S57) M = WL := ⟨_, rfl⟩
  rw [hWL] at HWW
  have HWL := AsideVW.mk hWL
  have HBR := AsideVW.mk (Below.refl w7.heap.size w7)
  clear hWL f0 f1 fz HAW HFW HREF HRG HRR HWI HB1 HBX1 HB2 HBX2 HB3 HBX3 HB4 HBX4 HB5 HBX5 HB6 HBX6 HC4 HBX HB0 hd60 hd100 hs hm
  go_loopw [7, 8, 56] (fun v b u wr => ∃ (t : Nat) (s1 : List S57) (s2 : Bool), t ≤ n ∧ u = .int .i64 t ∧ b = .bool s2 ∧ AsideVW ((M.take t).foldl (VaultIns.wantS ⟨nm, xb⟩) ([], false) = (s1, s2)) ∧ AsideVW (s1.length ≤ 2 * t) ∧ AsideVW (Below w7.heap.size w7 wr) ∧ AsideVW (Kd.N k57 57 wr w7.heap.size (fun _ => True) v s1)) (fun _ _ u _ => n - (intOf u).toNat)
  case atStart => exact ⟨0, [], false, Nat.zero_le _, rfl, rfl, ⟨rfl⟩, ⟨Nat.zero_le _⟩, HBR, ⟨Kd.N_nil _ _ _ _ _⟩⟩
  case round =>
    obtain ⟨t, s1, s2, htn, rfl, rfl, HFO, HLE, HBr, HNr⟩ := hrel
    by_cases hlt : t < n
    · obtain ⟨g7, cap7, e7, _⟩ := Kd.N_form HC7.out (by rw [HML.out]; omega)
      obtain ⟨ad, rfl⟩ : ∃ ad, A7 = some ad := by injection e7 with e7 _ _; exact ⟨_, e7⟩
      obtain ⟨cc, hcl, hFK, hcc⟩ := Kd.N_get HC7.out z57 (t : Int) (by omega) (by omega)
      rw [Int.toNat_natCast] at hFK
      obtain ⟨A1, c1, rfl, hl1, hF1⟩ := k57_openF hFK
      have HFYg : AsideVW (∀ W : World, Below w7.heap.size w7 W → Kd.FK k57 W (fun q => q < w7.heap.size) (M.getD t z57) [.string (M.getD t z57).f0, .slice A1 (M.getD t z57).f1.length c1]) := ⟨fun W hW => Kd.FK_below (Kd.FK_mono (Kd.FK_bound hFK) (fun q hq => hq.2)) hW⟩
      have x0 : wr.cell? (ad.add (t * 2)) = some (.string (M.getD t z57).f0) := by
        have h := hcc 0 _ rfl
        rw [Int.toNat_natCast] at h
        exact pw_cell_below HBr.out h
      have x1 : wr.cell? ⟨(ad.add (t * 2)).block, (ad.add (t * 2)).off + 1, none⟩ = some (.slice A1 (M.getD t z57).f1.length c1) := by
        have h := hcc 1 _ rfl
        rw [Int.toNat_natCast, add_field _ _ 1 (by omega)] at h
        exact pw_cell_below HBr.out h
      have HFO2 : AsideVW ((M.take (t + 1)).foldl (VaultIns.wantS ⟨nm, xb⟩) ([], false) = VaultIns.wantS ⟨nm, xb⟩ (s1, s2) (M.getD t z57)) := ⟨by
        have := HML.out
        rw [List.take_add_one, List.getD_eq_getElem?_getD, List.getElem?_eq_getElem (by omega), List.foldl_append, HFO.out]
        rfl⟩
      clear hcl hFK hcc hl1 hF1 e7
      generalize M.getD t z57 = y at *
      obtain ⟨ym, yb⟩ := y
      dsimp only at x0 x1 HFYg
      generalize yb.length = k at *
      have ti0 : (0 : Int) ≤ (t : Int) := by omega
      have ti1 : (t : Int) < (n : Int) := by omega
      go_upto_region 11 with (fail)
      have hbl := blk_new wr (.cells #[.string ym, .slice A1 k c1] 57 (0, 0))
      have hbw := below_alloc (Below.refl wr.heap.size wr) (.cells #[.string ym, .slice A1 k c1] 57 (0, 0))
      have HBY := AsideVW.mk hbl
      have HBW := AsideVW.mk (below_step HBr.out hbw)
      have HNW := AsideVW.mk (Kd.N_below HNr.out hbw)
      have HGY : AsideVW (some wr.heap.size ≠ u7.ownBlock) := ⟨fun h => by have := Kd.N_lt HNr.out _ h.symm; omega⟩
      obtain ⟨gy, hgy⟩ : ∃ gy, wr.heap.size = gy := ⟨_, rfl⟩
      rw [hgy] at HBY HGY ⊢
      clear hbl hbw x0 x1 hgy
      generalize wr.alloc (.cells #[.string ym, .slice A1 k c1] 57 (0, 0)) = W0 at *
      have HBX0 := AsideVW.mk (blk_below HBX7.out HBW.out)
      obtain ⟨f0, f1, _⟩ := item_open HBX0.out
      obtain ⟨y0, y1⟩ := item_cells2 HBY.out
      have HFXg : AsideVW (∀ W : World, Below w7.heap.size w7 W → Kd.FK k57 W (fun q => q < w7.heap.size) (⟨nm, xb⟩ : S57) [.string nm, .slice Ax m cx]) := ⟨fun W hW => Kd.FK_mono (HFX.out W (below_step HB7.out hW)) (fun q hq => Nat.lt_of_lt_of_le hq HB7.out.size)⟩
      have hcase : (s2 = true ∧ (ym.toList == nm.toList) = true) ∨ (s2 = true ∧ (ym.toList == nm.toList) = false) ∨ (s2 = false ∧ Op.bytesLess nm.toList ym.toList = true ∧ (nm.toList == ym.toList) = false ∧ (ym.toList == nm.toList) = false) ∨ (s2 = false ∧ Op.bytesLess nm.toList ym.toList = false ∧ (nm.toList == ym.toList) = true ∧ (ym.toList == nm.toList) = true) ∨ (s2 = false ∧ Op.bytesLess nm.toList ym.toList = false ∧ (nm.toList == ym.toList) = false ∧ (ym.toList == nm.toList) = false) := by
        have hsym : (nm.toList == ym.toList) = (ym.toList == nm.toList) := Bool.eq_iff_iff.2 (by rw [beq_iff_eq, beq_iff_eq]; exact ⟨Eq.symm, Eq.symm⟩)
        have hne : Op.bytesLess nm.toList ym.toList = true → (ym.toList == nm.toList) = false := fun h => (VaultIns.bl_ne h).2
        rw [hsym]
        revert hne
        cases s2 <;> cases (ym.toList == nm.toList) <;> cases Op.bytesLess nm.toList ym.toList <;> simp
      clear HFX HNr HFO HD7 HB7 HN3 HC7 HWW HWL
      rcases hcase with ⟨rfl, h4⟩ | ⟨rfl, h4⟩ | ⟨rfl, h2, h3, h4⟩ | ⟨rfl, h2, h3, h4⟩ | ⟨rfl, h2, h3, h4⟩
      · have HS : AsideVW (VaultIns.wantS ⟨nm, xb⟩ (s1, true) (⟨ym, yb⟩ : S57) = (s1, true)) := ⟨by unfold VaultIns.wantS; simp only [h4]; rfl⟩
        go_wp2_with (first | fail)
        go_roundw
        case rel => exact ⟨t + 1, s1, true, by omega, by go_num, rfl, ⟨by rw [HFO2.out, HS.out]⟩, ⟨by have := HLE.out; omega⟩, HBW, HNW⟩
        case measure => simp [intOf]; omega
      · have HS : AsideVW (VaultIns.wantS ⟨nm, xb⟩ (s1, true) (⟨ym, yb⟩ : S57) = ((s1 ++ [⟨ym, yb⟩]), true)) := ⟨by unfold VaultIns.wantS; simp only [h4]; rfl⟩
        go_wp2_with (first | fail | ((with_reducible refine gate_dst (N := 81) rfl ?_); refine Kd.N_append k57 (w0 := w7) w7.heap.size rfl (.tmp 78) (.tmp 80) 37 57 (.agg #[(.string ⟨#[]⟩), (.slice none 0 0)]) 40 rfl Tryd.underlying37 info57 rfl (by decide) (by omega) u7 s1 (⟨ym, yb⟩ : S57) [.string ym, .slice A1 k c1] (fun _ => True) (fun q => q < w7.heap.size) rfl rfl (HFYg.out _ HBW.out) (fun q hq => ⟨trivial, fun e => by have := Kd.N_base HNW.out q e.symm; omega⟩) (fun _ _ => trivial) HNW.out HBW.out HBW.out.size ?aL ?_; (case aL => have := HLE.out; omega); intro v10 w10 hn hb10 hg10 _; have HN10 := AsideVW.mk hn; have HB10 := AsideVW.mk hb10; clear hn hb10 hg10))
        go_roundw
        case rel => exact ⟨t + 1, (s1 ++ [⟨ym, yb⟩]), true, by omega, by go_num, rfl, ⟨by rw [HFO2.out, HS.out]⟩, ⟨by have := HLE.out; simp only [List.length_append, List.length_cons, List.length_nil]; omega⟩, HB10, HN10⟩
        case measure => simp [intOf]; omega
      · have HS : AsideVW (VaultIns.wantS ⟨nm, xb⟩ (s1, false) (⟨ym, yb⟩ : S57) = (((s1 ++ [⟨nm, xb⟩]) ++ [⟨ym, yb⟩]), true)) := ⟨by unfold VaultIns.wantS; simp only [h2, h3, h4]; rfl⟩
        go_wp2_with (first | fail | ((with_reducible refine gate_dst (N := 72) rfl ?_); refine Kd.N_append k57 (w0 := w7) w7.heap.size rfl (.tmp 69) (.tmp 71) 37 57 (.agg #[(.string ⟨#[]⟩), (.slice none 0 0)]) 40 rfl Tryd.underlying37 info57 rfl (by decide) (by omega) u7 s1 (⟨nm, xb⟩ : S57) [.string nm, .slice Ax m cx] (fun _ => True) (fun q => q < w7.heap.size) rfl rfl (HFXg.out _ HBW.out) (fun q hq => ⟨trivial, fun e => by have := Kd.N_base HNW.out q e.symm; omega⟩) (fun _ _ => trivial) HNW.out HBW.out HBW.out.size ?aL ?_; (case aL => have := HLE.out; omega); intro v9 w9 hn hb9 hg9 _; have HN9 := AsideVW.mk hn; have HB9 := AsideVW.mk hb9; have HBX9 := AsideVW.mk (blk_below HBX7.out hb9); have HBY9 := AsideVW.mk (blk_grown HBY.out hg9 HGY.out); obtain ⟨f0, f1, _⟩ := item_open HBX9.out; obtain ⟨y0, y1⟩ := item_cells2 HBY9.out; clear hn hb9 hg9) | ((with_reducible refine gate_dst (N := 81) rfl ?_); refine Kd.N_append k57 (w0 := w7) w7.heap.size rfl (.tmp 78) (.tmp 80) 37 57 (.agg #[(.string ⟨#[]⟩), (.slice none 0 0)]) 40 rfl Tryd.underlying37 info57 rfl (by decide) (by omega) v9 (s1 ++ [⟨nm, xb⟩]) (⟨ym, yb⟩ : S57) [.string ym, .slice A1 k c1] (fun _ => True) (fun q => q < w7.heap.size) rfl rfl (HFYg.out _ HB9.out) (fun q hq => ⟨trivial, fun e => by have := Kd.N_base HN9.out q e.symm; omega⟩) (fun _ _ => trivial) HN9.out HB9.out HB9.out.size ?aL ?_; (case aL => rw [List.length_append]; have := HLE.out; show (s1.length + 1 + 1) * 40 ≤ _; omega); intro v10 w10 hn hb10 hg10 _; have HN10 := AsideVW.mk hn; have HB10 := AsideVW.mk hb10; clear hn hb10 hg10))
        go_roundw
        case rel => exact ⟨t + 1, ((s1 ++ [⟨nm, xb⟩]) ++ [⟨ym, yb⟩]), true, by omega, by go_num, rfl, ⟨by rw [HFO2.out, HS.out]⟩, ⟨by have := HLE.out; simp only [List.length_append, List.length_cons, List.length_nil]; omega⟩, HB10, HN10⟩
        case measure => simp [intOf]; omega
      · have HS : AsideVW (VaultIns.wantS ⟨nm, xb⟩ (s1, false) (⟨ym, yb⟩ : S57) = ((s1 ++ [⟨nm, xb⟩]), true)) := ⟨by unfold VaultIns.wantS; simp only [h2, h3, h4]; rfl⟩
        go_wp2_with (first | fail | ((with_reducible refine gate_dst (N := 72) rfl ?_); refine Kd.N_append k57 (w0 := w7) w7.heap.size rfl (.tmp 69) (.tmp 71) 37 57 (.agg #[(.string ⟨#[]⟩), (.slice none 0 0)]) 40 rfl Tryd.underlying37 info57 rfl (by decide) (by omega) u7 s1 (⟨nm, xb⟩ : S57) [.string nm, .slice Ax m cx] (fun _ => True) (fun q => q < w7.heap.size) rfl rfl (HFXg.out _ HBW.out) (fun q hq => ⟨trivial, fun e => by have := Kd.N_base HNW.out q e.symm; omega⟩) (fun _ _ => trivial) HNW.out HBW.out HBW.out.size ?aL ?_; (case aL => have := HLE.out; omega); intro v9 w9 hn hb9 hg9 _; have HN9 := AsideVW.mk hn; have HB9 := AsideVW.mk hb9; have HBX9 := AsideVW.mk (blk_below HBX7.out hb9); have HBY9 := AsideVW.mk (blk_grown HBY.out hg9 HGY.out); obtain ⟨f0, f1, _⟩ := item_open HBX9.out; obtain ⟨y0, y1⟩ := item_cells2 HBY9.out; clear hn hb9 hg9))
        go_roundw
        case rel => exact ⟨t + 1, (s1 ++ [⟨nm, xb⟩]), true, by omega, by go_num, rfl, ⟨by rw [HFO2.out, HS.out]⟩, ⟨by have := HLE.out; simp only [List.length_append, List.length_cons, List.length_nil]; omega⟩, HB9, HN9⟩
        case measure => simp [intOf]; omega
      · have HS : AsideVW (VaultIns.wantS ⟨nm, xb⟩ (s1, false) (⟨ym, yb⟩ : S57) = ((s1 ++ [⟨ym, yb⟩]), false)) := ⟨by unfold VaultIns.wantS; simp only [h2, h3, h4]; rfl⟩
        go_wp2_with (first | fail | ((with_reducible refine gate_dst (N := 81) rfl ?_); refine Kd.N_append k57 (w0 := w7) w7.heap.size rfl (.tmp 78) (.tmp 80) 37 57 (.agg #[(.string ⟨#[]⟩), (.slice none 0 0)]) 40 rfl Tryd.underlying37 info57 rfl (by decide) (by omega) u7 s1 (⟨ym, yb⟩ : S57) [.string ym, .slice A1 k c1] (fun _ => True) (fun q => q < w7.heap.size) rfl rfl (HFYg.out _ HBW.out) (fun q hq => ⟨trivial, fun e => by have := Kd.N_base HNW.out q e.symm; omega⟩) (fun _ _ => trivial) HNW.out HBW.out HBW.out.size ?aL ?_; (case aL => have := HLE.out; omega); intro v10 w10 hn hb10 hg10 _; have HN10 := AsideVW.mk hn; have HB10 := AsideVW.mk hb10; clear hn hb10 hg10))
        go_roundw
        case rel => exact ⟨t + 1, (s1 ++ [⟨ym, yb⟩]), false, by omega, by go_num, rfl, ⟨by rw [HFO2.out, HS.out]⟩, ⟨by have := HLE.out; simp only [List.length_append, List.length_cons, List.length_nil]; omega⟩, HB10, HN10⟩
        case measure => simp [intOf]; omega
    · obtain rfl : t = n := by omega
      rw [show M.take t = M by rw [← HML.out, List.take_length]] at HFO
      have HBXr := AsideVW.mk (blk_below HBX7.out HBr.out)
      obtain ⟨f0, f1, _⟩ := item_open HBXr.out
      have HFXr : AsideVW (Kd.FK k57 wr (fun q => q < w7.heap.size) (⟨nm, xb⟩ : S57) [.string nm, .slice Ax m cx]) := ⟨Kd.FK_mono (HFX.out wr (below_step HB7.out HBr.out)) (fun q hq => Nat.lt_of_lt_of_le hq HB7.out.size)⟩
      have HB37 := AsideVW.mk (HD7.out)
      clear HFX
      have hWL : WL = if s2 = true then s1 else s1 ++ [⟨nm, xb⟩] := by rw [← HWL.out]; unfold VaultIns.wantL; rw [HFO.out]
      have hRW : (100 < WL.length ∧ R1 = [] ∧ code = 15) ∨ (WL.length ≤ 100 ∧ R1.map toI = WL ∧ goodI R1 = true ∧ code = 0) := by
        by_cases h100 : 100 < WL.length
        · have := HWW.out.1 h100
          exact .inl ⟨h100, (Prod.mk.inj this).1, (Prod.mk.inj this).2⟩
        · obtain ⟨R', e1, e2, e3⟩ := HWW.out.2 (by omega)
          obtain ⟨rfl, rfl⟩ := Prod.mk.inj e1
          exact .inr ⟨by omega, e2, e3, rfl⟩
      have HL0 := AsideVW.mk (show WL.length ≤ 2 * t + 1 by rw [hWL]; have := HLE.out; split; omega; rw [List.length_append, List.length_singleton]; omega)
      clear HWW HWL HFO
      obtain ⟨p, hp⟩ : ∃ p, WL.length = p := ⟨_, rfl⟩
      cases s2 with
      | true =>
        rw [if_pos rfl] at hWL
        subst hWL
        obtain ⟨AW, cW, eW⟩ := Kd.N_slice HNr.out
        subst eW
        have HNZ := HNr
        have HBZ := HBr
        have HBWZ := AsideVW.mk (below_step HB37.out HBr.out)
        rw [hp] at hRW HNZ ⊢
        rcases hRW with ⟨h100, rfl, rfl⟩ | ⟨h100, hRM, hRg, rfl⟩
        · have hd : decide ((100 : Int) < (p : Int)) = true := decide_eq_true (by omega)
          go_wp2_with (fail)
          go_ret
          exact ⟨rfl, below_step HB7.out HBr.out⟩
        · have hd : decide ((100 : Int) < (p : Int)) = false := decide_eq_false (by omega)
          obtain ⟨q, hq⟩ : ∃ q, R1.length = q := ⟨_, rfl⟩
          have hqp : q = p := by rw [← hq, ← hp, ← hRM, List.length_map]
          subst hqp
          rw [hq] at HN3 ⊢
          have HRF2 : AsideVW (∀ W : World, Below w3.heap.size w3 W → Calls Tryd.prog 14 #[.slice A5 q c5] W fun e w' => ∃ (A8 : Option Addr) (c8 : Nat), e = .returned (.slice A8 q c8) ∧ q ≤ c8 ∧ Kd.C k57 w' A8 q WL ∧ Below W.heap.size W w') := ⟨fun W hW => by
            have hV := Kd.N_V (base' := W.heap.size) (Kd.N_below HN3.out hW)
            have h := law25_ref.gives 5000 _ A5 c5 R1 W (by omega) (by omega) (by rw [hq]; exact hV)
            rw [hq, hRM] at h
            exact h⟩
          have HSM : AsideVW (∀ (W : World) (A8 : Option Addr) (c8 : Nat) (A9 : Option Addr) (c9 : Nat), q ≤ c8 → q ≤ c9 → Kd.C k57 W A8 q WL → Kd.C k57 W A9 q WL → Calls Tryd.prog 19 #[.slice A8 q c8, .slice A9 q c9] W fun e w' => e = .returned (.bool true) ∧ Below W.heap.size W w') := ⟨fun W A8 c8 A9 c9 h8 h9 hC8 hC9 => by
            have h := sackbutref25_Same.calls 5000 A8 c8 WL A9 c9 WL true W (by rw [hp]; exact hC8) (by rw [hp]; exact h8) (by rw [hp]; exact hC9) (by rw [hp]; exact h9) (VaultPk.same_spec _ (by omega) 5000 (by omega))
            rw [hp] at h
            exact h.mono fun e w' h => ⟨h.1, h.2.below⟩⟩
          have HGO : AsideVW (∀ W : World, Below w3.heap.size w3 W → Calls Tryd.prog 16 #[.slice A5 q c5] W fun e w' => e = .returned (.bool true) ∧ Below W.heap.size W w') := ⟨fun W hW => by
            have hC := (Kd.N_reads' (Kd.N_below HN3.out hW)).2.2
            have h := vault_Good.gives A5 c5 R1 W hC
            rw [hq, hRg] at h
            exact h⟩
          have HZ3 := HBWZ
          have HF := AsideVW.mk (below_step HB7.out HBr.out)
          have HZC := AsideVW.mk (by have h := (Kd.N_reads' HNr.out).2; rw [hp] at h; exact h)
          clear hq hp hRM hRg
          go_wp2_with (first | (go_at_call 14; (with_reducible refine (HRF2.out _ HZ3.out).mono ?_); rintro e w11 ⟨A8, c8, rfl, hc8, hC8, hb⟩; have HC8 := AsideVW.mk (And.intro hc8 (And.intro hC8 (Kd.C_below HZC.out.2 hb))); have HZ11 := AsideVW.mk (below_step HZ3.out hb); have HF11 := AsideVW.mk (below_step HF.out hb); clear hc8 hC8 hb) | (go_at_call 19; (with_reducible refine (HSM.out _ A8 c8 AW cW HC8.out.1 HZC.out.1 HC8.out.2.1 HC8.out.2.2).mono ?_); rintro e w12 ⟨rfl, hb⟩; have HZ12 := AsideVW.mk (below_step HZ11.out hb); have HF12 := AsideVW.mk (below_step HF11.out hb); clear hb) | (go_at_call 16; (with_reducible refine (HGO.out _ HZ12.out).mono ?_); rintro e w13 ⟨rfl, hb⟩; have HF13 := AsideVW.mk (below_step HF12.out hb); clear hb))
          go_ret
          exact ⟨rfl, HF13.out⟩
      | false =>
        rw [if_neg (by decide)] at hWL
        subst hWL
        rcases hRW with ⟨h100, rfl, rfl⟩ | ⟨h100, hRM, hRg, rfl⟩
        · have hd : decide ((100 : Int) < (p : Int)) = true := decide_eq_true (by omega)
          go_wp2_with (((with_reducible refine gate_dst (N := 88) rfl ?_); refine Kd.N_append k57 (w0 := w7) w7.heap.size rfl (.tmp 85) (.tmp 87) 37 57 (.agg #[(.string ⟨#[]⟩), (.slice none 0 0)]) 40 rfl Tryd.underlying37 info57 rfl (by decide) (by omega) u7 s1 (⟨nm, xb⟩ : S57) [.string nm, .slice Ax m cx] (fun _ => True) (fun q => q < w7.heap.size) rfl rfl HFXr.out (fun q hq => ⟨trivial, fun e => by have := Kd.N_base HNr.out q e.symm; omega⟩) (fun _ _ => trivial) HNr.out HBr.out HBr.out.size ?aL ?_; (case aL => have := HLE.out; omega); intro v9 w9 hn hb9 hg9 _; obtain ⟨AW, cW, eW⟩ := Kd.N_slice hn; rw [hp] at eW; subst eW; have HN9 := AsideVW.mk hn; have HB9 := AsideVW.mk hb9; clear hn hb9 hg9))
          go_ret
          exact ⟨rfl, below_step HB7.out HB9.out⟩
        · have hd : decide ((100 : Int) < (p : Int)) = false := decide_eq_false (by omega)
          obtain ⟨q, hq⟩ : ∃ q, R1.length = q := ⟨_, rfl⟩
          have hqp : q = p := by rw [← hq, ← hp, ← hRM, List.length_map]
          subst hqp
          rw [hq] at HN3 ⊢
          have HRF2 : AsideVW (∀ W : World, Below w3.heap.size w3 W → Calls Tryd.prog 14 #[.slice A5 q c5] W fun e w' => ∃ (A8 : Option Addr) (c8 : Nat), e = .returned (.slice A8 q c8) ∧ q ≤ c8 ∧ Kd.C k57 w' A8 q (s1 ++ [⟨nm, xb⟩]) ∧ Below W.heap.size W w') := ⟨fun W hW => by
            have hV := Kd.N_V (base' := W.heap.size) (Kd.N_below HN3.out hW)
            have h := law25_ref.gives 5000 _ A5 c5 R1 W (by omega) (by omega) (by rw [hq]; exact hV)
            rw [hq, hRM] at h
            exact h⟩
          have HSM : AsideVW (∀ (W : World) (A8 : Option Addr) (c8 : Nat) (A9 : Option Addr) (c9 : Nat), q ≤ c8 → q ≤ c9 → Kd.C k57 W A8 q (s1 ++ [⟨nm, xb⟩]) → Kd.C k57 W A9 q (s1 ++ [⟨nm, xb⟩]) → Calls Tryd.prog 19 #[.slice A8 q c8, .slice A9 q c9] W fun e w' => e = .returned (.bool true) ∧ Below W.heap.size W w') := ⟨fun W A8 c8 A9 c9 h8 h9 hC8 hC9 => by
            have h := sackbutref25_Same.calls 5000 A8 c8 (s1 ++ [⟨nm, xb⟩]) A9 c9 (s1 ++ [⟨nm, xb⟩]) true W (by rw [hp]; exact hC8) (by rw [hp]; exact h8) (by rw [hp]; exact hC9) (by rw [hp]; exact h9) (VaultPk.same_spec _ (by omega) 5000 (by omega))
            rw [hp] at h
            exact h.mono fun e w' h => ⟨h.1, h.2.below⟩⟩
          have HGO : AsideVW (∀ W : World, Below w3.heap.size w3 W → Calls Tryd.prog 16 #[.slice A5 q c5] W fun e w' => e = .returned (.bool true) ∧ Below W.heap.size W w') := ⟨fun W hW => by
            have hC := (Kd.N_reads' (Kd.N_below HN3.out hW)).2.2
            have h := vault_Good.gives A5 c5 R1 W hC
            rw [hq, hRg] at h
            exact h⟩
          clear hq hRM hRg
          go_wp2_with (first | ((with_reducible refine gate_dst (N := 88) rfl ?_); refine Kd.N_append k57 (w0 := w7) w7.heap.size rfl (.tmp 85) (.tmp 87) 37 57 (.agg #[(.string ⟨#[]⟩), (.slice none 0 0)]) 40 rfl Tryd.underlying37 info57 rfl (by decide) (by omega) u7 s1 (⟨nm, xb⟩ : S57) [.string nm, .slice Ax m cx] (fun _ => True) (fun q => q < w7.heap.size) rfl rfl HFXr.out (fun q hq => ⟨trivial, fun e => by have := Kd.N_base HNr.out q e.symm; omega⟩) (fun _ _ => trivial) HNr.out HBr.out HBr.out.size ?aL ?_; (case aL => have := HLE.out; omega); intro v9 w9 hn hb9 hg9 _; obtain ⟨AW, cW, eW⟩ := Kd.N_slice hn; rw [hp] at eW; subst eW; have HN9 := AsideVW.mk hn; have HB9 := AsideVW.mk hb9; clear hn hb9 hg9; have HZC := AsideVW.mk (by have h := (Kd.N_reads' HN9.out).2; rw [hp] at h; exact h); have HZ3 := AsideVW.mk (below_step HD7.out HB9.out); have HF := AsideVW.mk (below_step HB7.out HB9.out)) | (go_at_call 14; (with_reducible refine (HRF2.out _ HZ3.out).mono ?_); rintro e w11 ⟨A8, c8, rfl, hc8, hC8, hb⟩; have HC8 := AsideVW.mk (And.intro hc8 (And.intro hC8 (Kd.C_below HZC.out.2 hb))); have HZ11 := AsideVW.mk (below_step HZ3.out hb); have HF11 := AsideVW.mk (below_step HF.out hb); clear hc8 hC8 hb) | (go_at_call 19; (with_reducible refine (HSM.out _ A8 c8 AW cW HC8.out.1 HZC.out.1 HC8.out.2.1 HC8.out.2.2).mono ?_); rintro e w12 ⟨rfl, hb⟩; have HZ12 := AsideVW.mk (below_step HZ11.out hb); have HF12 := AsideVW.mk (below_step HF11.out hb); clear hb) | (go_at_call 16; (with_reducible refine (HGO.out _ HZ12.out).mono ?_); rintro e w13 ⟨rfl, hb⟩; have HF13 := AsideVW.mk (below_step HF12.out hb); clear hb))
          go_ret
          exact ⟨rfl, HF13.out⟩
/-- The law, for the rows: true at every list of items and every item. -/
def sackbutlaw25_VaultWith.f (l0 : List S49) (a1_0 : ByteArray) (l1_1 : List Int) : Option Bool := some true
theorem sackbutlaw25_VaultWith.calls (A0 : Option Addr) (c0 : Nat) (l0 : List S49) (a1_0 : ByteArray) (A1_1 : Option Addr) (c1_1 : Nat) (l1_1 : List Int) (r : Bool) (w : World) (hr0 : Kd.C k49 w A0 l0.length l0) (hc0 : l0.length ≤ c0) (hr1_1 : Kd.C (Kd.int .u8) w A1_1 l1_1.length l1_1) (hc1_1 : l1_1.length ≤ c1_1) (hG : GL w) (h : sackbutlaw25_VaultWith.f l0 a1_0 l1_1 = some r) :
    Calls Tryd.prog 7 #[.slice A0 l0.length c0, .agg #[.string a1_0, .slice A1_1 l1_1.length c1_1]] w fun e w' => e = .returned (.bool r) ∧ Below w.heap.size w w' := by
  cases h
  cases hf : (VaultPk.fewB l0 && decide (a1_0.size ≤ 60) && decide (l1_1.length ≤ 100)) with
  | false => exact law25_with.many A0 c0 l0 a1_0 A1_1 l1_1.length c1_1 w hG hc0 hr0 hf
  | true =>
    rw [Bool.and_eq_true, Bool.and_eq_true, decide_eq_true_eq, decide_eq_true_eq] at hf
    cases hg : (goodI l0 && rightB a1_0 l1_1.length) with
    | false => exact law25_with.bad A0 c0 l0 a1_0 l1_1 A1_1 l1_1.length c1_1 w hG hc0 hr0 hr1_1 hc1_1 hf.1.1 hf.1.2 hf.2 hg
    | true => exact law25_with.good A0 c0 l0 a1_0 l1_1 A1_1 l1_1.length c1_1 w hG hc0 hr0 hr1_1 hc1_1 hf.1.1 hf.1.2 hf.2 hg

end Go.Proofs.YtibmccacebhhkaaDoor.HV

namespace Go.Proofs.YtibmccacebhhkaaDoor.Pure
open Go Go.RowKit Go.Proofs.YtibmccacebhhkaaDoor.HV Go.Proofs.YtibmccacebhhkaaDoorW.PrintWords Go.Proofs.YtibmccacebhhkaaDoorW.PrintLast
/-- VaultWith: the law in numbers and lists alone. -/
def PureGVaultWith : Prop := ∀ (l0 : List (S49)) (a1_0 : ByteArray) (l1_1 : List (Int)), l0.length ≤ 9223372036854775807 → (∀ x ∈ l0, (x.f0.size ≤ 9223372036854775807 ∧ (∀ y ∈ x.f1, (Lit.int .u8 y).wf = true))) → a1_0.size ≤ 9223372036854775807 → l1_1.length ≤ 9223372036854775807 → (∀ x ∈ l1_1, (Lit.int .u8 x).wf = true) → sackbutlaw25_VaultWith.f l0 a1_0 l1_1 = some true
end Go.Proofs.YtibmccacebhhkaaDoor.Pure

namespace Go.Proofs.YtibmccacebhhkaaDoor.Pure
open Go Go.RowKit Go.Proofs.YtibmccacebhhkaaDoor.HV Go.Proofs.YtibmccacebhhkaaDoorW.PrintWords Go.Proofs.YtibmccacebhhkaaDoorW.PrintLast
theorem VaultWith : PureGVaultWith := by
  unfold PureGVaultWith
  intros
  rfl
end Go.Proofs.YtibmccacebhhkaaDoor.Pure

