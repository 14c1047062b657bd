/- VaultUnpacks: what the claim's theorem reaches of this seat's texts, part 9, put together by this project's own program (bale.py); conditions: those of each theorem. -/
import Derived.Test.YtibmccacebhhkaaDoorVVaultUnpacks5
import Derived.Test.YtibmccacebhhkaaDoorVVaultUnpacks8
import Derived.Shelf.Abstract
import Derived.OwnWalk
import Derived.LoopTactic
namespace Go.Proofs.YtibmccacebhhkaaDoor.HV
open Go.RowKit Go.Proofs.YtibmccacebhhkaaDoorW.PrintWords Go.Proofs.YtibmccacebhhkaaDoorW.PrintLast Go.Proofs.YtibmccacebhhkaaDoorW.PrintMore
attribute [local go_sem] max2_int min2_int max_two min_two max_three min_three max_four min_four   -- for this text's walks alone
set_option linter.unusedVariables false
set_option linter.unusedSimpArgs false

/-! ### vault_cursor_number: function 49, by hand -/
structure AsideNu (p : Prop) : Prop where mk :: (out : p)
/-- A number, the highest byte first. -/
def beL (l : List Int) : Int := l.foldl (fun a x => a * 256 + x) 0
theorem beL_snoc (l : List Int) (x : Int) : beL (l ++ [x]) = beL l * 256 + x := by unfold beL; rw [List.foldl_append]; rfl
theorem beL_range (l : List Int) (h : ∀ x ∈ l, 0 ≤ x ∧ x < 256) : 0 ≤ beL l ∧ beL l < 256 ^ l.length := by
  have key : ∀ (l : List Int) (a : Int) (k : Nat), (∀ x ∈ l, 0 ≤ x ∧ x < 256) → 0 ≤ a → a < 256 ^ k → 0 ≤ l.foldl (fun a x => a * 256 + x) a ∧ l.foldl (fun a x => a * 256 + x) a < 256 ^ (k + l.length) := by
    intro l
    induction l with
    | nil => intro a k _ h0 h1; exact ⟨h0, h1⟩
    | cons x l ih =>
      intro a k hl h0 h1
      have hx := hl x (by simp)
      have := ih (a * 256 + x) (k + 1) (fun y hy => hl y (by simp [hy])) (by omega) (by rw [Int.pow_succ]; omega)
      rwa [show k + 1 + l.length = k + (x :: l).length by simp; omega] at this
  have := key l 0 0 h (by omega) (by decide)
  rwa [Nat.zero_add] at this
theorem pow_three (j : Nat) (h : j ≤ 3) : (256 : Int) ^ j ≤ 16777216 := by
  have : j = 0 ∨ j = 1 ∨ j = 2 ∨ j = 3 := by omega
  rcases this with rfl | rfl | rfl | rfl <;> decide
theorem nu_wraps (n : Int) (h0 : 0 ≤ n) (h1 : n < 2 ^ 40) : IntKind.i64.wrap n = n := by rw [IntKind.wrap_i64]; omega
theorem or_be (s x : Int) (h0 : 0 ≤ s) (h1 : s < 16777216) (hx : 0 ≤ x ∧ x < 256) : Go.bits .or .i64 (s * 256) x = s * 256 + x :=
  bits_join .i64 40 (by decide) nu_wraps 8 (s * 256) x (by omega) (by show s * 256 % 256 = 0; omega) (by show s * 256 < 1099511627776; omega) hx.1 (by show x < 256; omega) (by show x < 1099511627776; omega)
theorem take_succ_be (l : List Int) (j : Nat) (h : j < l.length) : beL (l.take (j + 1)) = beL (l.take j) * 256 + l[j] := by
  rw [List.take_succ_eq_append_getElem h, beL_snoc]
set_option maxRecDepth 100000 in
set_option maxHeartbeats 2000000 in
theorem vault_number.gives (p : Nat) (A : Option Addr) (b : List Int) (n c : Nat) (s : Nat × Bool) (k : Nat) (w0 w : World) (h : CuAt w p A n c s.1 s.2) (hB : w0.heap.size ≤ p) (hc : n ≤ c) (hs : s.1 ≤ n) (hR : Kd.C (Kd.int .u8) w0 A n b) (hB0 : Below w0.heap.size w0 w) (hby : ∀ x ∈ b, 0 ≤ x ∧ x < 256) (hk : k ≤ 4) :
    Calls Tryd.prog 49 #[.pointer (some ⟨p, 0, none⟩), .int .i64 k] w fun e w' => e = .returned (.int .i64 (beL (tkB b s k))) ∧ CuAt w' p A n c (tk n s k).1 (tk n s k).2 ∧ Below w0.heap.size w w' ∧ KeepBut w w' p none := by
  have HT := AsideNu.mk (vault_take.gives p A b n c s k w0.heap.size w h hB hc hR.2.1 hs hR.1)
  have hlen := tkB_le b s k
  have hmem : ∀ x ∈ tkB b s k, 0 ≤ x ∧ x < 256 := fun x hx => hby x (tkB_mem hx)
  generalize tkB b s k = xs at *
  generalize tk n s k = s1 at *
  obtain ⟨m, hm⟩ : ∃ m, xs.length = m := ⟨_, rfl⟩
  rw [hm] at HT hlen
  have HM := AsideNu.mk hmem
  have HL := AsideNu.mk hm
  have HR := AsideNu.mk hR
  have HB := AsideNu.mk hB0
  clear hmem hm hR hB0 h hby
  go_enter Tryd.func49, Tryd.ntmps49
  go_wp2_with (go_at_call 48; refine (HT.out).mono ?_; rintro e w1 ⟨A1, rfl, hread, hC, hb, hkp⟩; have HCC := AsideNu.mk (hread w1 (Kd.C_below HR.out (HB.out.trans hb))); have HE := AsideNu.mk (And.intro hC (And.intro hb hkp)); clear hread hC hb hkp)
  clear HT
  go_loop [5, 12] (fun u i => ∃ j : Nat, j ≤ m ∧ i = .int .i64 j ∧ u = .int .i64 (beL (xs.take j))) (fun _ i => m - (intOf i).toNat)
  case atStart => exact ⟨0, Nat.zero_le _, rfl, rfl⟩
  case round =>
    obtain ⟨j, hj, rfl, rfl⟩ := hrel
    by_cases hlt : j < m
    · have hlx : j < xs.length := by rw [HL.out]; exact hlt
      have hr := beL_range (xs.take j) (fun x hx => HM.out x (List.mem_of_mem_take hx))
      rw [List.length_take, Nat.min_eq_left (by omega)] at hr
      have hp := pow_three j (by omega)
      have h0 := hr.1
      have h1 : beL (xs.take j) < 16777216 := by omega
      have hx := HM.out _ (List.getElem_mem hlx)
      obtain ⟨ad, e, hcell⟩ := Kd.at_int HCC.out (j : Int) (by omega) (by omega)
      have hrd : rd xs (j : Int) = xs[j] := by unfold rd; rw [Int.toNat_natCast, List.getD_eq_getElem?_getD, List.getElem?_eq_getElem hlx]; rfl
      rw [hrd, Int.toNat_natCast] at hcell
      have HN := AsideNu.mk (take_succ_be xs j hlx)
      have hor := or_be _ _ h0 h1 hx
      generalize beL (xs.take j) = y at *
      generalize xs[j] = x at *
      obtain ⟨hx0, hx1⟩ := hx
      subst e
      clear hrd hr hp
      go_wp2
      go_round
      case rel => exact ⟨j + 1, by omega, by go_num, by rw [HN.out]⟩
      case measure => simp [intOf]; omega
    · obtain rfl : j = m := by omega
      go_wp2
      go_ret
      exact ⟨by first | rfl | (rw [List.take_of_length_le (by rw [HL.out]; exact Nat.le_refl _)]; rfl), HE.out⟩

end Go.Proofs.YtibmccacebhhkaaDoor.HV

namespace Go.Proofs.YtibmccacebhhkaaDoor.HV
open Go.RowKit Go.Proofs.YtibmccacebhhkaaDoorW.PrintWords Go.Proofs.YtibmccacebhhkaaDoorW.PrintLast Go.Proofs.YtibmccacebhhkaaDoorW.PrintMore
attribute [local go_sem] max2_int min2_int max_two min_two max_three min_three max_four min_four   -- for this text's walks alone
set_option linter.unusedVariables false
set_option linter.unusedSimpArgs false

/-! ### vault_cursor_entry: function 50, by hand -/
structure AsideEn (p : Prop) : Prop where mk :: (out : p)
/-- How long the name is that stands there. -/
def nmK (b : List Int) (s : Nat × Bool) : Nat := (beL (tkB b s 1)).toNat
/-- Where a cursor stands behind an entry. -/
def enS (b : List Int) (s : Nat × Bool) : Nat × Bool := tk b.length (tk b.length (tk b.length (tk b.length s 1) (nmK b s)) 3) 4
/-- The entry. -/
def enB (b : List Int) (s : Nat × Bool) : S67 := ⟨strOfNums (tkB b (tk b.length s 1) (nmK b s)), beL (tkB b (tk b.length (tk b.length s 1) (nmK b s)) 3), beL (tkB b (tk b.length (tk b.length (tk b.length s 1) (nmK b s)) 3) 4)⟩
/-- Where the walk of an entry stands: the cursor, the result's block, what lay before. -/
structure EnSt (w0 w : World) (p : Nat) (A : Option Addr) (n c : Nat) (s : Nat × Bool) (W : World) : Prop where
  cur : CuAt W p A n c s.1 s.2
  bel : Below w0.heap.size w W
  blk : W.heap[w.heap.size]? = some (.cells #[.string ⟨#[]⟩, .int .i64 0, .int .i64 0] 67 (0, 0))
  old : ∀ g, g < w.heap.size → g ≠ p → W.heap[g]? = w.heap[g]?
  ne : w.heap.size ≠ p
theorem EnSt.step {w0 w : World} {p : Nat} {A : Option Addr} {n c : Nat} {s s' : Nat × Bool} {W W' : World} (h : EnSt w0 w p A n c s W) (hC : CuAt W' p A n c s'.1 s'.2) (hb : Below w0.heap.size W W') (hk : KeepBut W W' p none) : EnSt w0 w p A n c s' W' := by
  have hlt : w.heap.size < W.heap.size := (Array.getElem?_eq_some_iff.1 h.blk).1
  exact ⟨hC, h.bel.trans hb, hk.blk h.blk h.ne (by simp), fun g hg hne => (hk.2 g (by omega) hne (by simp)).trans (h.old g hg hne), h.ne⟩
set_option maxRecDepth 100000 in
set_option maxHeartbeats 2000000 in
theorem vault_entry.gives (p : Nat) (A : Option Addr) (b : List Int) (n c : Nat) (s : Nat × Bool) (w0 w : World) (h : CuAt w p A n c s.1 s.2) (hB : w0.heap.size ≤ p) (hc : n ≤ c) (hs : s.1 ≤ n) (hR : Kd.C (Kd.int .u8) w0 A n b) (hB0 : Below w0.heap.size w0 w) (hby : ∀ x ∈ b, 0 ≤ x ∧ x < 256) :
    Calls Tryd.prog 50 #[.pointer (some ⟨p, 0, none⟩)] w fun e w' => e = .returned (.agg #[.string (enB b s).f0, .int .i64 (enB b s).f1, .int .i64 (enB b s).f2]) ∧ CuAt w' p A n c (enS b s).1 (enS b s).2 ∧ Below w0.heap.size w w' ∧ (∀ g, g < w.heap.size → g ≠ p → w'.heap[g]? = w.heap[g]?) := by
  have hbn : b.length = n := hR.1
  have h0 : 0 ≤ beL (tkB b s 1) := (beL_range _ (fun x hx => hby x (tkB_mem hx))).1
  have hK : beL (tkB b s 1) = ((nmK b s : Nat) : Int) := by unfold nmK; omega
  have H1 : AsideEn (∀ W : World, CuAt W p A n c s.1 s.2 → Below w0.heap.size w0 W → Calls Tryd.prog 49 #[.pointer (some ⟨p, 0, none⟩), .int .i64 1] W fun e w' => e = .returned (.int .i64 (beL (tkB b s 1))) ∧ CuAt w' p A n c (tk n s 1).1 (tk n s 1).2 ∧ Below w0.heap.size W w' ∧ KeepBut W w' p none) := AsideEn.mk (fun W hC hW => vault_number.gives p A b n c s 1 w0 W hC hB hc hs hR hW hby (by omega))
  have hs1 := tk_le (n := n) (s := s) 1 hs
  rw [hK] at H1
  unfold enB enS
  rw [hbn]
  generalize nmK b s = k at *
  generalize tk n s 1 = s1 at *
  have H2 := AsideEn.mk (fun (W : World) (hC : CuAt W p A n c s1.1 s1.2) => vault_take.gives p A b n c s1 k w0.heap.size W hC hB hc hR.2.1 hs1 hbn)
  have hs2 := tk_le (n := n) (s := s1) k hs1
  generalize tk n s1 k = s2 at *
  generalize tkB b s1 k = nm at *
  have H3 : AsideEn (∀ W : World, CuAt W p A n c s2.1 s2.2 → Below w0.heap.size w0 W → Calls Tryd.prog 49 #[.pointer (some ⟨p, 0, none⟩), .int .i64 3] W fun e w' => e = .returned (.int .i64 (beL (tkB b s2 3))) ∧ CuAt w' p A n c (tk n s2 3).1 (tk n s2 3).2 ∧ Below w0.heap.size W w' ∧ KeepBut W w' p none) := AsideEn.mk (fun W hC hW => vault_number.gives p A b n c s2 3 w0 W hC hB hc hs2 hR hW hby (by omega))
  have hs3 := tk_le (n := n) (s := s2) 3 hs2
  generalize tk n s2 3 = s3 at *
  generalize beL (tkB b s2 3) = sz at *
  have H4 : AsideEn (∀ W : World, CuAt W p A n c s3.1 s3.2 → Below w0.heap.size w0 W → Calls Tryd.prog 49 #[.pointer (some ⟨p, 0, none⟩), .int .i64 4] W fun e w' => e = .returned (.int .i64 (beL (tkB b s3 4))) ∧ CuAt w' p A n c (tk n s3 4).1 (tk n s3 4).2 ∧ Below w0.heap.size W w' ∧ KeepBut W w' p none) := AsideEn.mk (fun W hC hW => vault_number.gives p A b n c s3 4 w0 W hC hB hc hs3 hR hW hby (by omega))
  generalize tk n s3 4 = s4 at *
  generalize beL (tkB b s3 4) = sm at *
  obtain ⟨m, hm⟩ : ∃ m, nm.length = m := ⟨_, rfl⟩
  rw [hm] at H2
  have HR := AsideEn.mk hR
  have HB := AsideEn.mk hB0
  have HC := AsideEn.mk h
  have HP := AsideEn.mk hB
  clear hm hR hB0 h hby hK h0 hbn hs1 hs2 hs3 hB
  go_enter Tryd.func50, Tryd.ntmps50
  go_upto_region 1 with (fail)
  obtain ⟨W0, hW0⟩ : ∃ W0, W0 = w.alloc (.cells #[.string ⟨#[]⟩, .int .i64 0, .int .i64 0] 67) := ⟨_, rfl⟩
  rw [← hW0]
  have E0 : AsideEn (EnSt w0 w p A n c s W0) := by
    have hlt := cu_lt HC.out
    refine ⟨⟨?_, ?_, ?_, fun g hg _ => ?_, by omega⟩⟩ <;> rw [hW0]
    · exact blk_alloc HC.out _
    · exact (Below.refl _ _).alloc HB.out.size _
    · exact blk_new w _
    · exact Below.heap_alloc w _ g hg
  clear hW0 HC
  go_upto_region 2 with (first | (go_at_call 49; (with_reducible refine (H1.out _ E0.out.cur (HB.out.trans E0.out.bel)).mono ?_); rintro e w1 ⟨rfl, hC, hb, hk⟩; have E1 := AsideEn.mk (E0.out.step hC hb hk); clear hC hb hk) | (go_at_call 48; (with_reducible refine (H2.out _ E1.out.cur).mono ?_); rintro e w2 ⟨A2, rfl, hread, hC, hb, hk⟩; have E2 := AsideEn.mk (E1.out.step hC hb hk); have hcv := Kd.C_string (P := Tryd.prog) (c := m) Tryd.underlying22 Tryd.underlying5 Tryd.underlying9 (hread w2 (Kd.C_below HR.out (HB.out.trans E2.out.bel))); clear hC hb hk hread))
  clear hcv
  go_wp2_with (first | (go_at_call 49; (with_reducible refine (H3.out _ E2.out.cur (HB.out.trans E2.out.bel)).mono ?_); rintro e w3 ⟨rfl, hC, hb, hk⟩; have E3 := AsideEn.mk (E2.out.step hC hb hk); clear hC hb hk) | (go_at_call 49; (with_reducible refine (H4.out _ E3.out.cur (HB.out.trans E3.out.bel)).mono ?_); rintro e w4 ⟨rfl, hC, hb, hk⟩; have E4 := AsideEn.mk (E3.out.step hC hb hk); clear hC hb hk; obtain ⟨f0, f1, f2, z1, z2⟩ := cu_cells E4.out.blk; have z0 := blk_frozen E4.out.blk 0))
  obtain ⟨h1, h2, h3, h4, h5⟩ := E4.out
  have k1 := blk_set (blk_set (blk_set h3 0 (.string (strOfNums nm))) 1 (.int .i64 sz)) 2 (.int .i64 sm)
  refine bodyPost_ret (v := .agg #[.string (strOfNums nm), .int .i64 sz, .int .i64 sm]) (results_single rfl (Vals.cell w.heap.size _ _ _ _ rfl k1 Tryd.underlying67 rfl (by kernel_rfl) Vals.nil)) rfl ⟨rfl, ?_, ?_, ?_⟩
  · exact blk_far (blk_far (blk_far h1 (Ne.symm h5) _) (Ne.symm h5) _) (Ne.symm h5) _
  · exact ((h2.setCell (p := ⟨w.heap.size, 0, none⟩) HB.out.size _).setCell (p := ⟨w.heap.size, 1, none⟩) HB.out.size _).setCell (p := ⟨w.heap.size, 2, none⟩) HB.out.size _
  · intro g hg hne
    have hne2 : g ≠ w.heap.size := by omega
    rw [Below.heap_setCell _ _ _ _ hne2, Below.heap_setCell _ _ _ _ hne2, Below.heap_setCell _ _ _ _ hne2]
    exact h4 g hg hne

end Go.Proofs.YtibmccacebhhkaaDoor.HV

