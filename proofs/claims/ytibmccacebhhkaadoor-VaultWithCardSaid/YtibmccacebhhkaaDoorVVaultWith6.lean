/- VaultWith: what the claim's theorem reaches of this seat's texts, part 6, put together by this project's own program (bale.py); conditions: those of each theorem. -/
import Derived.Test.YtibmccacebhhkaaDoorVVaultWith5
import Derived.Laws.RangeAny
import Derived.LoopTactic
import Derived.Shelf.Abstract
namespace Go.Proofs.YtibmccacebhhkaaDoor.HV
open Go.RowKit Go.Proofs.YtibmccacebhhkaaDoorW.PrintWords Go.Proofs.YtibmccacebhhkaaDoorW.PrintLast Go.Proofs.YtibmccacebhhkaaDoorW.PrintMore
attribute [local go_sem] max2_int min2_int max_two min_two max_three min_three max_four min_four   -- for this text's walks alone
set_option linter.unusedVariables false
set_option linter.unusedSimpArgs false

/-! ### vault_named: function 51, by hand -/
/-- Whether a number is a letter of names. -/
def letterZ (c : Int) : Bool := (decide (c ≥ 97) && decide (c ≤ 122)) || (decide (c ≥ 48) && decide (c ≤ 57)) || decide (c = 45)
set_option maxHeartbeats 1000000 in
theorem score_letter.gives (c : Int) (w : World) :
    Calls Tryd.prog 75 #[.int .i32 c] w fun e w' => e = .returned (.bool (letterZ c)) ∧ w' = w := by
  go_enter Tryd.func75, Tryd.ntmps75
  go_wp2
  all_goals
    go_ret
    refine ⟨congrArg (fun b => Ending.returned (Value.bool b)) (?_ : _ = letterZ c), rfl⟩
    simp only [letterZ]
    rw [Bool.eq_iff_iff]
    simp
    try omega
/-- A name's letters from a place on are all letters of names. -/
def namedB (s : ByteArray) : Bool := decide (∀ i, (h : i < s.size) → letterZ ((s[i]'h).toNat : Nat) = true) && decide (1 ≤ s.size) && decide (s.size ≤ 24)
theorem named_low {x : Nat} (h : letterZ x = true) : x < 128 := by
  simp [letterZ] at h
  omega
theorem named_miss (s : ByteArray) (i : Nat) (h : i < s.size) (hl : letterZ ((s[i]'h).toNat : Nat) = false) : namedB s = false := by
  have : ¬ ∀ i, (h : i < s.size) → letterZ ((s[i]'h).toNat : Nat) = true := fun hh => by rw [hh i h] at hl; cases hl
  simp [namedB, this]
theorem named_all (s : ByteArray) (h : ∀ i, (h : i < s.size) → letterZ ((s[i]'h).toNat : Nat) = true) : namedB s = (decide (1 ≤ s.size) && decide (s.size ≤ 24)) := by
  simp only [namedB, decide_eq_true h, Bool.true_and]
theorem named_empty (s : ByteArray) : s.toList = [] ↔ s.size = 0 := by
  rw [ByteArray.toList_eq]
  obtain ⟨⟨l⟩⟩ := s
  cases l with
  | nil => exact ⟨fun _ => rfl, fun _ => rfl⟩
  | cons x xs => exact ⟨fun h => (by cases h), fun h => (by cases h)⟩
theorem named_isEmpty (s : ByteArray) : s.toList.isEmpty = decide (s.size = 0) := by
  rw [Bool.eq_iff_iff, List.isEmpty_iff, decide_eq_true_iff, named_empty]
structure AsideCR (p : Prop) : Prop where mk :: (out : p)
set_option maxHeartbeats 2000000 in
theorem score_Cue_right.gives (s : ByteArray) (w : World) :
    Calls Tryd.prog 74 #[.agg #[.int .i64 0, .string s]] w fun e w' => e = .returned (.bool (namedB s)) ∧ Below w.heap.size w w' := by
  go_enter Tryd.func74, Tryd.ntmps74
  go_wp2
  obtain ⟨W1, hW1⟩ : ∃ W1, W1 = w.alloc (Obj.cells #[Value.int IntKind.i64 0, Value.string s] 108) := ⟨_, rfl⟩
  have hsz : W1.heap.size = w.heap.size + 1 := by rw [hW1]; exact Array.size_push _
  rw [← hW1]
  have HW := AsideCR.mk hW1
  have HB := AsideCR.mk (show Below w.heap.size w W1 by rw [hW1]; exact (Below.refl _ _).alloc (Nat.le_refl _) _)
  clear hW1
  go_loopw [4] (fun v w' => ∃ pos : Nat, w' = W1.iter s pos ∧ AsideCR (∀ i, (h : i < s.size) → i < pos → letterZ ((s[i]'h).toNat : Nat) = true)) (fun _ w' => s.size - w'.iterPos W1.heap.size)
  case atStart => exact ⟨0, rfl, ⟨fun i _ h => absurd h (Nat.not_lt_zero _)⟩⟩
  case round =>
    obtain ⟨pos, rfl, HA⟩ := hrel
    have hcell : ∀ p, (W1.iter s p).cell? ⟨w.heap.size, 0, none⟩ = some (.int .i64 0) ∧ (W1.iter s p).cell? ⟨w.heap.size, 1, none⟩ = some (.string s) := by
      intro p
      have hb : (W1.iter s p).heap[w.heap.size]? = some (Obj.cells #[Value.int IntKind.i64 0, Value.string s] 108) := by
        have := Below.heap_alloc W1 (.stringIter s p) w.heap.size (by omega)
        rw [show (W1.iter s p).heap[w.heap.size]? = W1.heap[w.heap.size]? from this, HW.out]
        exact Array.getElem?_push_size
      constructor <;> simp [World.cell?, hb]
    by_cases hp : pos < s.size
    · have hnx := fun ty => run_next_any (P := Tryd.prog) W1 s pos ty hp
      simp only [hsz] at hnx
      cases hl : letterZ ((Utf8.decode s pos).1 : Nat) with
      | true =>
        have hcall := score_letter.gives ((Utf8.decode s pos).1 : Nat) (W1.iter s (pos + (Utf8.decode s pos).2))
        rw [hl] at hcall
        have HL := AsideCR.mk hl
        have HP := AsideCR.mk hp
        clear hl
        go_wp2_with (go_at_call 75; refine hcall.mono ?_; rintro e w' ⟨rfl, rfl⟩)
        go_roundw
        case rel =>
          refine ⟨_, rfl, ⟨fun i h hi => ?_⟩⟩
          by_cases hip : i < pos
          · exact HA.out i h hip
          · have hlo := named_low HL.out
            by_cases ha : (s[pos]'HP.out).toNat < 128
            · have hd := decode_ascii s pos HP.out ha
              have h1 : (Utf8.decode s pos).1 = (s[pos]'HP.out).toNat := by rw [hd]
              have h2 : (Utf8.decode s pos).2 = 1 := by rw [hd]
              obtain rfl : i = pos := by omega
              rw [← h1]
              exact HL.out
            · exact absurd (decode_high s pos HP.out (by omega)).1 (by omega)
        case measure =>
          have hp := HP.out
          have hd : 1 ≤ (Utf8.decode s pos).2 := by
            by_cases ha : (s[pos]'hp).toNat < 128
            · rw [decode_ascii s pos hp ha]; exact Nat.le_refl _
            · exact (decode_high s pos hp (by omega)).2
          rw [World.iterPos_iter, World.iterPos_iter]
          omega
      | false =>
        have hcall := score_letter.gives ((Utf8.decode s pos).1 : Nat) (W1.iter s (pos + (Utf8.decode s pos).2))
        rw [hl] at hcall
        have HL := AsideCR.mk hl
        have HP := AsideCR.mk hp
        clear hl
        go_wp2_with (go_at_call 75; refine hcall.mono ?_; rintro e w' ⟨rfl, rfl⟩)
        go_ret
        refine ⟨?_, HB.out.alloc (by omega) _⟩
        rw [named_miss s pos HP.out]
        · rfl
        · by_cases ha : (s[pos]'HP.out).toNat < 128
          · have hd := decode_ascii s pos HP.out ha
            have h1 : (Utf8.decode s pos).1 = (s[pos]'HP.out).toNat := by rw [hd]
            rw [← h1]
            exact HL.out
          · cases hq : letterZ ((s[pos]'HP.out).toNat : Nat) with
            | false => rfl
            | true => exact absurd (named_low hq) ha
    · have hnx := fun ty => run_next_end (P := Tryd.prog) W1 s pos ty hp
      simp only [hsz] at hnx
      have hc0 := (hcell pos).1
      have hc1 := (hcell pos).2
      have HP := AsideCR.mk hp
      clear hcell
      go_wp2
      all_goals
        go_ret
        refine ⟨?_, HB.out.alloc (by omega) _⟩
        rw [named_all s (fun i h => HA.out i h (by have := HP.out; omega))]
        refine congrArg (fun b => Ending.returned (Value.bool b)) (?_ : _ = (decide (1 ≤ s.size) && decide (s.size ≤ 24)))
        simp only [named_empty, named_isEmpty] at *
        rw [Bool.eq_iff_iff]
        simp only [Bool.and_eq_true, Bool.not_eq_true', decide_eq_true_eq, decide_eq_false_iff_not, Bool.false_eq_true, false_iff]
        omega
set_option maxHeartbeats 2000000 in
theorem score_Cue_wrong.gives (s : ByteArray) (w : World) :
    Calls Tryd.prog 70 #[.agg #[.int .i64 0, .string s]] w fun e w' => e = .returned (.bool (!namedB s)) ∧ Below w.heap.size w w' := by
  go_enter Tryd.func70, Tryd.ntmps70
  go_wp2_with (go_at_call 74; refine (score_Cue_right.gives s _).mono ?_; rintro e w' ⟨rfl, hb⟩)
  go_ret
  exact ⟨rfl, ((Below.refl _ _).alloc (Nat.le_refl _) _).trans (hb.mono (by simp))⟩
theorem oneCue_cell {k : Nat} {s : ByteArray} {w : World} (h : w.heap[k]? = some (Obj.cells #[.int .i64 0, .string s] 108)) : w.cell? ⟨k, 0, none⟩ = some (.int .i64 0) ∧ w.cell? ⟨k, 1, none⟩ = some (.string s) := by
  constructor <;> simp [World.cell?, h]
set_option maxHeartbeats 2000000 in
theorem slices_IndexFunc_oneCue.gives (k : Nat) (s : ByteArray) (b : Bool) (hb : namedB s = b) (w : World) (hk : k < w.heap.size) (hh : w.heap[k]? = some (Obj.cells #[.int .i64 0, .string s] 108)) :
    Calls Tryd.prog 73 #[.slice (some ⟨k, 0, none⟩) 1 1, .func (.func 70) #[] #[]] w fun e w' => e = .returned (.int .i64 (bif b then -1 else 0)) ∧ Below w.heap.size w w' := by
  have HH := AsideCR.mk hh
  have hc0 := (oneCue_cell hh).1
  have hc1 := (oneCue_cell hh).2
  have hcall := score_Cue_wrong.gives s w
  rw [hb] at hcall
  clear hh hb
  cases b with
  | true =>
    go_enter Tryd.func73, Tryd.ntmps73
    go_wp2
    go_loopg [5, 8] 1 (fun gg _ s8 wr => (s8 = .int .i64 0 ∧ gg = 1 ∧ wr = w) ∨ (s8 = .int .i64 1 ∧ AsideCR (Below w.heap.size w wr)))
    case atStart => exact Or.inl ⟨rfl, rfl, rfl⟩
    case round =>
      obtain ⟨rfl, rfl, rfl⟩ | ⟨rfl, HB⟩ := hrel
      · go_wp2_with (go_at_call 70; refine hcall.mono ?_; rintro e w' ⟨rfl, hb1⟩)
        go_roundg 0
        case measure => omega
        case rel => exact Or.inr ⟨rfl, ⟨hb1⟩⟩
      · go_wp2
        go_ret
        exact ⟨rfl, HB.out⟩
  | false =>
    go_enter Tryd.func73, Tryd.ntmps73
    go_wp2
    go_loopg [5, 8] 1 (fun gg _ s8 wr => s8 = .int .i64 0 ∧ gg = 1 ∧ wr = w)
    case atStart => exact ⟨rfl, rfl, rfl⟩
    case round =>
      obtain ⟨rfl, rfl, rfl⟩ := hrel
      go_wp2_with (go_at_call 70; refine hcall.mono ?_; rintro e w' ⟨rfl, hb1⟩)
      go_ret
      exact ⟨rfl, hb1⟩
set_option maxHeartbeats 2000000 in
theorem slices_ContainsFunc_oneCue.gives (k : Nat) (s : ByteArray) (w : World) (hk : k < w.heap.size) (hh : w.heap[k]? = some (Obj.cells #[.int .i64 0, .string s] 108)) :
    Calls Tryd.prog 69 #[.slice (some ⟨k, 0, none⟩) 1 1, .func (.func 70) #[] #[]] w fun e w' => e = .returned (.bool (!namedB s)) ∧ Below w.heap.size w w' := by
  go_enter Tryd.func69, Tryd.ntmps69
  cases hq : namedB s with
  | true =>
    have h := slices_IndexFunc_oneCue.gives k s _ hq w hk hh
    clear hh
    go_wp2_with (go_at_call 73; refine h.mono ?_; rintro e w' ⟨rfl, hb⟩)
    go_ret
    exact ⟨rfl, hb⟩
  | false =>
    have h := slices_IndexFunc_oneCue.gives k s _ hq w hk hh
    clear hh
    go_wp2_with (go_at_call 73; refine h.mono ?_; rintro e w' ⟨rfl, hb⟩)
    go_ret
    exact ⟨rfl, hb⟩
set_option maxHeartbeats 2000000 in
theorem score_Good_one.gives (k : Nat) (s : ByteArray) (w : World) (hk : k < w.heap.size) (hh : w.heap[k]? = some (Obj.cells #[.int .i64 0, .string s] 108)) :
    Calls Tryd.prog 63 #[.slice (some ⟨k, 0, none⟩) 1 1] w fun e w' => e = .returned (.bool (namedB s)) ∧ Below w.heap.size w w' := by
  have HH := AsideCR.mk hh
  have hc0 := (oneCue_cell hh).1
  have hc1 := (oneCue_cell hh).2
  clear hh
  go_enter Tryd.func63, Tryd.ntmps63
  go_wp2
  go_loopg [7] 1 (fun gg s7 wr => (s7 = .int .i64 0 ∧ gg = 1 ∧ wr = w) ∨ (s7 = .int .i64 1 ∧ AsideCR (Below w.heap.size w wr)))
  case atStart => exact Or.inl ⟨rfl, rfl, rfl⟩
  case round =>
    obtain ⟨rfl, rfl, rfl⟩ | ⟨rfl, HB⟩ := hrel
    · go_wp2
      refine start_ (n := 13) (S := fun w' => True) (ds := []) #[false, false, false, false, false, false, false, false, false, false, false, false, false] (by kernel_rfl) rfl rfl trivial (fun hHeld => ?_)
      refine pure_ (i := 0) (N := some 12) (v := ?_) (a' := ?_) #[true, false, false, false, false, false, false, false, false, false, false, false, false] rfl rfl (by kernel_rfl) (fun _ _ _ h => h) (Or.inl ⟨by rfl, ?_⟩) ?_ ?_
      rotate_left
      · intro w'
        go_simp
        with_reducible rfl
      rotate_left
      · simp only [Act.put, List.setIfInBounds_toArray, List.set_cons_zero, List.set_cons_succ, i64_w, i32_w]
        rfl
      refine pure_ (i := 1) (N := some 13) (v := ?_) (a' := ?_) #[true, true, false, false, false, false, false, false, false, false, false, false, false] rfl rfl (by kernel_rfl) (fun _ _ _ h => h) (Or.inl ⟨by rfl, ?_⟩) ?_ ?_
      rotate_left
      · intro w'
        go_simp
        with_reducible rfl
      rotate_left
      · simp only [Act.put, List.setIfInBounds_toArray, List.set_cons_zero, List.set_cons_succ, i64_w, i32_w]
        rfl
      refine pure_ (i := 2) (N := some 14) (v := ?_) (a' := ?_) #[true, true, true, false, false, false, false, false, false, false, false, false, false] rfl rfl (by kernel_rfl) (fun _ _ _ h => h) (Or.inl ⟨by rfl, ?_⟩) ?_ ?_
      rotate_left
      · intro w'
        go_simp
        with_reducible rfl
      rotate_left
      · simp only [Act.put, List.setIfInBounds_toArray, List.set_cons_zero, List.set_cons_succ, i64_w, i32_w]
        rfl
      refine pure_ (i := 3) (N := some 15) (v := undef) (a' := ?_) #[true, true, true, true, false, false, false, false, false, false, false, false, false] rfl rfl (by kernel_rfl) (fun _ _ _ h => h) (Or.inr ⟨by rfl, rfl⟩) ?_ ?_
      rotate_left
      · simp only [Act.put, List.setIfInBounds_toArray, List.set_cons_zero, List.set_cons_succ, i64_w, i32_w]
        rfl
      refine pure_ (i := 4) (N := some 16) (v := undef) (a' := ?_) #[true, true, true, true, true, false, false, false, false, false, false, false, false] rfl rfl (by kernel_rfl) (fun _ _ _ h => h) (Or.inr ⟨by rfl, rfl⟩) ?_ ?_
      rotate_left
      · simp only [Act.put, List.setIfInBounds_toArray, List.set_cons_zero, List.set_cons_succ, i64_w, i32_w]
        rfl
      refine pure_ (i := 5) (N := some 17) (v := undef) (a' := ?_) #[true, true, true, true, true, true, false, false, false, false, false, false, false] rfl rfl (by kernel_rfl) (fun _ _ _ h => h) (Or.inr ⟨by rfl, rfl⟩) ?_ ?_
      rotate_left
      · simp only [Act.put, List.setIfInBounds_toArray, List.set_cons_zero, List.set_cons_succ, i64_w, i32_w]
        rfl
      refine pure_ (i := 6) (N := some 18) (v := undef) (a' := ?_) #[true, true, true, true, true, true, true, false, false, false, false, false, false] rfl rfl (by kernel_rfl) (fun _ _ _ h => h) (Or.inr ⟨by rfl, rfl⟩) ?_ ?_
      rotate_left
      · simp only [Act.put, List.setIfInBounds_toArray, List.set_cons_zero, List.set_cons_succ, i64_w, i32_w]
        rfl
      refine pure_ (i := 7) (N := some 19) (v := undef) (a' := ?_) #[true, true, true, true, true, true, true, true, false, false, false, false, false] rfl rfl (by kernel_rfl) (fun _ _ _ h => h) (Or.inr ⟨by rfl, rfl⟩) ?_ ?_
      rotate_left
      · simp only [Act.put, List.setIfInBounds_toArray, List.set_cons_zero, List.set_cons_succ, i64_w, i32_w]
        rfl
      refine pure_ (i := 8) (N := some 20) (v := undef) (a' := ?_) #[true, true, true, true, true, true, true, true, true, false, false, false, false] rfl rfl (by kernel_rfl) (fun _ _ _ h => h) (Or.inr ⟨by rfl, rfl⟩) ?_ ?_
      rotate_left
      · simp only [Act.put, List.setIfInBounds_toArray, List.set_cons_zero, List.set_cons_succ, i64_w, i32_w]
        rfl
      refine pure_ (i := 9) (N := some 21) (v := undef) (a' := ?_) #[true, true, true, true, true, true, true, true, true, true, false, false, false] rfl rfl (by kernel_rfl) (fun _ _ _ h => h) (Or.inr ⟨by rfl, rfl⟩) ?_ ?_
      rotate_left
      · simp only [Act.put, List.setIfInBounds_toArray, List.set_cons_zero, List.set_cons_succ, i64_w, i32_w]
        rfl
      refine pure_ (i := 10) (N := some 22) (v := undef) (a' := ?_) #[true, true, true, true, true, true, true, true, true, true, true, false, false] rfl rfl (by kernel_rfl) (fun _ _ _ h => h) (Or.inr ⟨by rfl, rfl⟩) ?_ ?_
      rotate_left
      · simp only [Act.put, List.setIfInBounds_toArray, List.set_cons_zero, List.set_cons_succ, i64_w, i32_w]
        rfl
      refine pure_ (i := 11) (N := some 23) (v := undef) (a' := ?_) #[true, true, true, true, true, true, true, true, true, true, true, true, false] rfl rfl (by kernel_rfl) (fun _ _ _ h => h) (Or.inr ⟨by rfl, rfl⟩) ?_ ?_
      rotate_left
      · simp only [Act.put, List.setIfInBounds_toArray, List.set_cons_zero, List.set_cons_succ, i64_w, i32_w]
        rfl
      refine pure_ (i := 12) (N := some 24) (v := ?_) (a' := ?_) #[true, true, true, true, true, true, true, true, true, true, true, true, true] rfl rfl (by kernel_rfl) (fun _ _ _ h => h) (Or.inl ⟨by rfl, ?_⟩) ?_ ?_
      rotate_left
      · intro w'
        go_simp
        with_reducible rfl
      rotate_left
      · simp only [Act.put, List.setIfInBounds_toArray, List.set_cons_zero, List.set_cons_succ, i64_w, i32_w]
        rfl
      refine done_ (by kernel_rfl) ?_

      go_wp2
      go_roundg 0
      case measure => omega
      case rel =>
        exact Or.inr ⟨rfl, ⟨((Below.refl _ _).alloc (Nat.le_refl _) _).drew⟩⟩
    · have hh' : wr.heap[k]? = some (Obj.cells #[.int .i64 0, .string s] 108) := by rw [HB.out.block k hk]; exact HH.out
      have hcall := slices_ContainsFunc_oneCue.gives k s wr (Nat.lt_of_lt_of_le hk HB.out.size) hh'
      clear hh'
      go_wp2_with (go_at_call 69; refine hcall.mono ?_; rintro e w' ⟨rfl, hb1⟩)
      go_ret
      exact ⟨rfl, HB.out.trans (hb1.mono HB.out.size)⟩
set_option maxHeartbeats 2000000 in
theorem vault_named.gives (s : ByteArray) (w : World) :
    Calls Tryd.prog 51 #[.string s] w fun e w' => e = .returned (.bool (namedB s)) ∧ Below w.heap.size w w' := by
  go_enter Tryd.func51, Tryd.ntmps51
  have hw : Below w.heap.size w (w.alloc (Obj.cells #[.int .i64 0, .string s] 108)) := (Below.refl _ _).alloc (Nat.le_refl _) _
  have hcall := score_Good_one.gives w.heap.size s (w.alloc (Obj.cells #[.int .i64 0, .string s] 108)) (by rw [show (w.alloc (Obj.cells #[.int .i64 0, .string s] 108)).heap.size = w.heap.size + 1 from Array.size_push _]; omega) Array.getElem?_push_size
  go_wp2_with (go_at_call 63; refine hcall.mono ?_; rintro e w' ⟨rfl, hb⟩)
  go_ret
  exact ⟨rfl, hw.trans (hb.mono hw.size)⟩
end Go.Proofs.YtibmccacebhhkaaDoor.HV

namespace Go.Proofs.YtibmccacebhhkaaDoor.HV
open Go.RowKit Go.Proofs.YtibmccacebhhkaaDoorW.PrintWords Go.Proofs.YtibmccacebhhkaaDoorW.PrintLast Go.Proofs.YtibmccacebhhkaaDoorW.PrintMore
attribute [local go_sem] max2_int min2_int max_two min_two max_three min_three max_four min_four   -- for this text's walks alone
set_option linter.unusedVariables false
set_option linter.unusedSimpArgs false

/-! ### vault_Item_right: function 32, by hand -/
theorem right_cell {w w' : World} {x y : Value} {t : Nat} (hb : Below (w.alloc (Obj.cells #[x, y] t)).heap.size (w.alloc (Obj.cells #[x, y] t)) w') : w'.cell? ⟨w.heap.size, 1, none⟩ = some y := by
  have h : w'.heap[w.heap.size]? = some (Obj.cells #[x, y] t) := by
    rw [hb.block w.heap.size (by rw [show (w.alloc (Obj.cells #[x, y] t)).heap.size = w.heap.size + 1 from Array.size_push _]; omega)]
    exact Array.getElem?_push_size
  simp [World.cell?, h]
theorem right_below {w w' : World} {o : Obj} (hb : Below (w.alloc o).heap.size (w.alloc o) w') : Below w.heap.size w w' :=
  have h : Below w.heap.size w (w.alloc o) := (Below.refl _ _).alloc (Nat.le_refl _) _
  h.trans (hb.mono h.size)
/-- Whether an item may be. -/
def rightB (s : ByteArray) (n : Nat) : Bool := namedB s && decide ((n : Int) ≤ 16777215)
set_option maxHeartbeats 2000000 in
theorem vault_Item_right.gives (s : ByteArray) (A : Option Addr) (n : Nat) (c : Nat) (r : Bool) (hr : rightB s n = r) (w : World) :
    Calls Tryd.prog 32 #[.agg #[.string s, .slice A n c]] w fun e w' => e = .returned (.bool r) ∧ Below w.heap.size w w' := by
  have hcall := fun W => vault_named.gives s W
  unfold rightB at hr
  cases hq : namedB s with
  | true =>
    rw [hq] at hcall hr
    rw [Bool.true_and] at hr
    subst hr
    go_enter Tryd.func32, Tryd.ntmps32
    go_wp2_with (go_at_call 51; refine (hcall _).mono ?_; rintro e w' ⟨rfl, hb⟩; have hcx := right_cell hb)
    go_ret
    exact ⟨rfl, right_below hb⟩
  | false =>
    rw [hq] at hcall hr
    rw [Bool.false_and] at hr
    subst hr
    go_enter Tryd.func32, Tryd.ntmps32
    go_wp2_with (go_at_call 51; refine (hcall _).mono ?_; rintro e w' ⟨rfl, hb⟩)
    go_ret
    exact ⟨rfl, right_below hb⟩
end Go.Proofs.YtibmccacebhhkaaDoor.HV

