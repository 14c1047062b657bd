/- VaultWith: what the claim's theorem reaches of this seat's texts, part 27, put together by this project's own program (bale.py); conditions: those of each theorem. -/
import Derived.Test.YtibmccacebhhkaaDoorVVaultWith5
import Derived.Test.YtibmccacebhhkaaDoorVVaultWith24
import Derived.Shelf.Abstract
import Derived.OwnWalk
import Derived.LoopTactic
import Derived.Lib.Bytealg
import Derived.Laws.Externs
namespace Go.Proofs.YtibmccacebhhkaaDoor.HV
open Go.RowKit Go.Proofs.YtibmccacebhhkaaDoorW.PrintWords Go.Proofs.YtibmccacebhhkaaDoorW.PrintLast Go.Proofs.YtibmccacebhhkaaDoorW.PrintMore
attribute [local go_sem] max2_int min2_int max_two min_two max_three min_three max_four min_four   -- for this text's walks alone
set_option linter.unusedVariables false
set_option linter.unusedSimpArgs false

/-! ### vault_Item_string: function 40, by hand -/
structure AsideSi (p : Prop) : Prop where mk :: (out : p)
theorem cb_eq : ∀ a b : List UInt8, Lib.compareBytes a b = if Op.bytesLess a b = true then -1 else if Op.bytesLess b a = true then 1 else 0
  | [], [] => rfl
  | [], _ :: _ => rfl
  | _ :: _, [] => rfl
  | x :: a, y :: b => by
    have ih := cb_eq a b
    simp only [Lib.compareBytes, Op.bytesLess, ih]
    by_cases h1 : x < y
    · simp [h1]
    · by_cases h2 : y < x
      · have : ¬ x = y := fun e => by subst e; exact h1 h2
        simp [h1, h2, this]
      · have : x = y := UInt8.le_antisymm (UInt8.not_lt.1 h2) (UInt8.not_lt.1 h1)
        subst this
        simp
set_option maxRecDepth 100000 in
theorem bytealg_cmp.gives (x y : ByteArray) (w : World) : Calls Tryd.prog 67 #[.string x, .string y] w fun e w' => e = .returned (.int .i64 (cmpS x y)) ∧ w' = w := by
  have hc : Lib.compareBytes x.data.toList y.data.toList = cmpS x y := by rw [cb_eq]; unfold cmpS; rw [ByteArray.toList_eq, ByteArray.toList_eq]
  go_enter Tryd.func67, Tryd.ntmps67
  go_wp2
  rw [run_callFunc_extern Tryd.func71 (by kernel_rfl) (by kernel_rfl) (by kernel_rfl) (e := Extern.BytealgCompare.compare) (by kernel_rfl), Lib.run_compareString, hc]
  simp only [Result.andThen]
  rw [Oper.upon_value]
  go_wp2
  go_ret
  exact ⟨rfl, rfl⟩
set_option maxRecDepth 100000 in
theorem strings_cmp.gives (x y : ByteArray) (w : World) : Calls Tryd.prog 58 #[.string x, .string y] w fun e w' => e = .returned (.int .i64 (cmpS x y)) ∧ w' = w := by
  go_enter Tryd.func58, Tryd.ntmps58
  go_wp2_with (go_at_call 67; refine (bytealg_cmp.gives _ _ _).mono ?_; rintro e w' ⟨rfl, rfl⟩)
  go_ret
  exact ⟨rfl, rfl⟩
theorem pair_cells {w : World} {p t : Nat} {x y : Value} (h : w.heap[p]? = some (.cells #[x, y] t (0, 0))) : w.cell? ⟨p, 0, none⟩ = some x ∧ w.cell? ⟨p, 1, none⟩ = some y := by
  constructor <;> simp [World.cell?, h]
set_option maxRecDepth 100000 in
theorem item_compare.gives (n : ByteArray) (v1 : Value) (y : ByteArray) (w : World) (A1 : Option Addr) (k1 c1 : Nat) (e1 : v1 = .slice A1 k1 c1) : Calls Tryd.prog 41 #[.agg #[.string n, v1], .string y] w fun e w' => e = .returned (.int .i64 (cmpS n y)) ∧ Below w.heap.size w w' := by
  subst e1
  go_enter Tryd.func41, Tryd.ntmps41
  have hb := (Below.refl w.heap.size w).alloc (Nat.le_refl _) (.cells #[.string n, .slice A1 k1 c1] 49)
  have hbl := blk_new w (.cells #[.string n, .slice A1 k1 c1] 49 (0, 0))
  obtain ⟨f0, _⟩ := pair_cells hbl
  clear hbl
  go_wp2_with (go_at_call 58; refine (strings_cmp.gives _ _ _).mono ?_; rintro e w' ⟨rfl, rfl⟩)
  go_ret
  exact ⟨rfl, hb⟩
/-- An item's name is below a text. -/
def lessI (L : List S49) (x : ByteArray) (a : Nat) : Bool := Op.bytesLess (rd_T49 L (a : Int)).f0.toList x.toList
set_option maxRecDepth 100000 in
set_option maxHeartbeats 2000000 in
theorem item_search.gives (A : Option Addr) (c n : Nat) (L : List S49) (x : ByteArray) (w : World) (hn : n < 4611686018427387904) (hR : Kd.C k49 w A n L) (hs : ∀ a b, a ≤ b → b < n → lessI L x b = true → lessI L x a = true) :
    Calls Tryd.prog 40 #[.slice A n c, .string x, .func (.func 41) #[] #[]] w fun e w' => ∃ (i : Nat) (q : Bool), e = .returned (.tuple #[.int .i64 i, .bool q]) ∧ i ≤ n ∧ (∀ a, a < i → lessI L x a = true) ∧ (∀ a, i ≤ a → a < n → lessI L x a = false) ∧ (q = true ↔ i < n ∧ (rd_T49 L (i : Int)).f0 = x) ∧ Below w.heap.size w w' := by
  have hu67 := Tryd.underlying49
  have HR := AsideSi.mk hR
  have HS := AsideSi.mk hs
  have HL := AsideSi.mk hR.1
  have HB0 := AsideSi.mk (Below.refl w.heap.size w)
  clear hR hs
  go_enter Tryd.func40, Tryd.ntmps40
  go_wp2
  go_loopg [9, 10] n (fun g s9 s10 wr => ∃ lo hi : Nat, s9 = .int .i64 lo ∧ s10 = .int .i64 hi ∧ lo ≤ hi ∧ hi ≤ n ∧ hi - lo ≤ g ∧ AsideSi (Below w.heap.size w wr) ∧ AsideSi (∀ a, a < lo → lessI L x a = true) ∧ AsideSi (∀ a, hi ≤ a → a < n → lessI L x a = false))
  case atStart => exact ⟨0, n, rfl, rfl, Nat.zero_le _, Nat.le_refl _, by omega, HB0, ⟨fun a h => absurd h (Nat.not_lt_zero _)⟩, ⟨fun a h h2 => absurd h2 (by omega)⟩⟩
  case round =>
    obtain ⟨lo, hi, rfl, rfl, hlh, hin, hg, HB, H1, H2⟩ := hrel
    by_cases hlt : lo < hi
    · obtain ⟨m, hm⟩ : ∃ m : Nat, (lo + hi) / 2 = m := ⟨_, rfl⟩
      have hmi : ((lo : Int) + (hi : Int)) / 2 = (m : Int) := by omega
      have hm1 : lo ≤ m := by omega
      have hm2 : m < hi := by omega
      obtain ⟨ad, A1, c1, ea, f0, f1, _, _⟩ := at_T49 (Kd.C_below HR.out HB.out) (m : Int) (by omega) (by omega)
      cases ea
      have HLE := AsideSi.mk (show lessI L x m = Op.bytesLess (rd_T49 L (m : Int)).f0.toList x.toList from rfl)
      have HCP := AsideSi.mk (fun (W : World) => item_compare.gives (rd_T49 L (m : Int)).f0 (.slice A1 (rd_T49 L (m : Int)).f1.length c1) x W A1 _ c1 rfl)
      generalize rd_T49 L (m : Int) = y at *
      obtain ⟨y0, y1⟩ := y
      have hcase : (cmpS y0 x < 0 ∧ lessI L x m = true) ∨ (¬ cmpS y0 x < 0 ∧ lessI L x m = false) := by
        rw [cmpS_neg, HLE.out]
        cases Op.bytesLess y0.toList x.toList with
        | true => exact .inl ⟨rfl, rfl⟩
        | false => exact .inr ⟨by simp, rfl⟩
      rcases hcase with ⟨hc, hq⟩ | ⟨hc, hq⟩
      · have HQ := AsideSi.mk hq
        have hcd : decide (cmpS y0 x < 0) = true := decide_eq_true hc
        clear hq hc HLE
        simp only [Int.toNat_natCast] at f0 f1
        dsimp only at HCP f0 f1
        generalize y1.length = k1 at *
        generalize cmpS y0 x = z at *
        go_wp2_with (go_at_call 41; refine (HCP.out _).mono ?_; rintro e w' ⟨rfl, hb⟩; have HB2 := AsideSi.mk (below_step HB.out hb); clear hb)
        go_roundg (hi - (m + 1))
        case measure => omega
        case rel => exact ⟨m + 1, hi, by go_num, rfl, by omega, hin, Nat.le_refl _, HB2, ⟨fun a h => HS.out a m (by omega) (by omega) HQ.out⟩, H2⟩
      · have HQ := AsideSi.mk hq
        have hcd : decide (cmpS y0 x < 0) = false := decide_eq_false hc
        clear hq hc HLE
        simp only [Int.toNat_natCast] at f0 f1
        dsimp only at HCP f0 f1
        generalize y1.length = k1 at *
        generalize cmpS y0 x = z at *
        go_wp2_with (go_at_call 41; refine (HCP.out _).mono ?_; rintro e w' ⟨rfl, hb⟩; have HB2 := AsideSi.mk (below_step HB.out hb); clear hb)
        go_roundg (m - lo)
        case measure => omega
        case rel => exact ⟨lo, m, rfl, rfl, by omega, by omega, Nat.le_refl _, HB2, H1, ⟨fun a h h2 => by
          cases hx : lessI L x a with
          | false => rfl
          | true => have := HS.out m a h h2 hx; rw [HQ.out] at this; cases this⟩⟩
    · obtain rfl : lo = hi := by omega
      by_cases hln : lo < n
      · obtain ⟨ad, A1, c1, ea, f0, f1, _, _⟩ := at_T49 (Kd.C_below HR.out HB.out) (lo : Int) (by omega) (by omega)
        cases ea
        have HCP := AsideSi.mk (fun (W : World) => item_compare.gives (rd_T49 L (lo : Int)).f0 (.slice A1 (rd_T49 L (lo : Int)).f1.length c1) x W A1 _ c1 rfl)
        have HZ := AsideSi.mk (fun (q : Bool) (h : q = decide (cmpS (rd_T49 L (lo : Int)).f0 x = 0)) => (show q = true ↔ lo < n ∧ (rd_T49 L (lo : Int)).f0 = x by rw [h, decide_eq_true_iff, cmpS_zero]; exact ⟨fun h => ⟨hln, h⟩, fun h => h.2⟩))
        have HY : AsideSi (∃ y, rd_T49 L (lo : Int) = y) := ⟨⟨_, rfl⟩⟩
        obtain ⟨⟨y, hy⟩⟩ := HY
        have HY := AsideSi.mk hy
        rw [hy] at HCP f0 f1
        clear hy
        obtain ⟨y0, y1⟩ := y
        simp only [Int.toNat_natCast] at f0 f1
        dsimp only at HCP f0 f1
        generalize y1.length = k1 at *
        have HZ2 := AsideSi.mk (HZ.out (decide (cmpS y0 x = 0)) (by rw [HY.out]))
        clear HZ
        generalize cmpS y0 x = z at *
        go_wp2_with (go_at_call 41; refine (HCP.out _).mono ?_; rintro e w' ⟨rfl, hb⟩; have HB2 := AsideSi.mk (below_step HB.out hb); clear hb)
        go_ret2
        exact ⟨lo, decide (z = 0), by first | rfl | simp, hin, H1.out, H2.out, HZ2.out, HB2.out⟩
      · go_wp2_with (fail)
        go_ret2
        exact ⟨lo, false, by first | rfl | simp, hin, H1.out, H2.out, ⟨fun h => by (cases h), fun h => absurd h.1 hln⟩, HB.out⟩

end Go.Proofs.YtibmccacebhhkaaDoor.HV

