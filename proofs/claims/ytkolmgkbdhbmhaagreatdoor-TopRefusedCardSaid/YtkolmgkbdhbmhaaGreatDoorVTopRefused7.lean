/- TopRefused: what the claim's theorem reaches of this seat's texts, part 7, put together by this project's own program (bale.py); conditions: those of each theorem. -/
import Derived.Test.YtkolmgkbdhbmhaaGreatDoorVTopRefused5
import Derived.Shelf.Abstract
import Derived.OwnWalk
namespace Go.Proofs.YtkolmgkbdhbmhaaGreatDoor.HT2
open Go.RowKit Go.Proofs.YtkolmgkbdhbmhaaGreatDoorW.PrintWords Go.Proofs.YtkolmgkbdhbmhaaGreatDoorW.PrintLast Go.Proofs.YtkolmgkbdhbmhaaGreatDoorW.PrintMore
attribute [local go_sem] max2_int min2_int max_two min_two max_three min_three max_four min_four   -- for this text's walks alone
set_option linter.unusedVariables false
set_option linter.unusedSimpArgs false

/-! ### slices_IndexFunc_int_int_61: function 61, by hand -/
/-- Where the first number of which p holds stands, or -1. -/
def idxOfR (p : List Int → Bool) : List (List Int) → Nat → Int
  | [], _ => -1
  | x :: l, i => if p x then (i : Int) else idxOfR p l (i + 1)
theorem idxOfR_any (p : List Int → Bool) (l : List (List Int)) (i : Nat) : decide (0 ≤ idxOfR p l i) = l.any p := by
  induction l generalizing i with
  | nil => simp [idxOfR]
  | cons x l ih =>
    by_cases h : p x = true
    · simp [idxOfR, h]
    · simp only [Bool.not_eq_true] at h
      rw [idxOfR, h, if_neg (by decide), ih, List.any_cons, h, Bool.false_or]
theorem idxOfR_hit (p : List Int → Bool) : ∀ (l : List (List Int)) (k i : Nat) (h : k < l.length), (∀ j, (hj : j < k) → p (l[j]'(by omega)) = false) → p l[k] = true → idxOfR p l i = ((i + k : Nat) : Int)
  | x :: l, 0, i, _, _, h => by rw [idxOfR, show p x = true from h]; rfl
  | x :: l, k + 1, i, hk, hj, h => by
    have h0 : p x = false := hj 0 (by omega)
    rw [idxOfR, h0, if_neg (by decide), idxOfR_hit p l k (i + 1) (by simpa using hk) (fun j hj' => hj (j + 1) (by omega)) h]
    omega
theorem idxOfR_miss (p : List Int → Bool) : ∀ (l : List (List Int)) (i : Nat), (∀ j, (hj : j < l.length) → p l[j] = false) → idxOfR p l i = -1
  | [], _, _ => rfl
  | x :: l, i, h => by
    have h0 : p x = false := h 0 (by simp)
    rw [idxOfR, h0, if_neg (by decide), idxOfR_miss p l (i + 1) (fun j hj => h (j + 1) (by simpa using hj))]
theorem row_at {e : Nat} {w : World} {A : Option Addr} {n : Nat} {xs : List (List Int)} (h : Kd.C (Kd.slice e (Kd.int .i64)) w A n xs) (i : Nat) (hi : i < xs.length) : ∃ ad A' c, A = some ad ∧ w.cell? (ad.add i) = some (.slice A' xs[i].length c) ∧ xs[i].length ≤ c ∧ Kd.C (Kd.int .i64) w A' xs[i].length xs[i] := by
  obtain ⟨ad, e, hc⟩ := h.2.2 (by have := h.1; omega)
  obtain ⟨c, hs, hr, hcell⟩ := hc i _ (List.getElem?_eq_getElem hi)
  obtain ⟨A', cc, rfl, hl, hC⟩ := hr
  refine ⟨ad, A', cc, e, ?_, hl, hC⟩
  have h1 := hcell 0 _ rfl
  rw [show i * (Kd.slice _ (Kd.int .i64)).sz + 0 = i by show i * 1 + 0 = i; omega] at h1
  exact h1
structure AsideIR (p : Prop) : Prop where mk :: (out : p)
set_option maxHeartbeats 2000000 in
theorem slices_IndexFunc_rows.gives (p : List Int → Bool) (g : Nat) (lb : Array Value) (eg : ∀ args w, (callFunc g args).run Tryz.prog w = .ok (.enter g args) w) (A0 : Option Addr) (c0 : Nat) (l0 : List (List Int)) (w : World) (hr0 : Kd.C (Kd.slice 3 (Kd.int .i64)) w A0 l0.length l0)
    (hp : ∀ (x : List Int) (A' : Option Addr) (c : Nat) (W : World), x ∈ l0 → Below w.heap.size w W → Kd.C (Kd.int .i64) W A' x.length x → x.length ≤ c → Calls Tryz.prog g (#[.slice A' x.length c] ++ lb) W fun e W' => e = .returned (.bool (p x)) ∧ Below W.heap.size W W') :
    Calls Tryz.prog 61 #[.slice A0 l0.length c0, .func (.func g) #[] lb] w fun e w' => e = .returned (.int .i64 (idxOfR p l0 0)) ∧ Below w.heap.size w w' := by
  have hr := hr0
  have hbig : l0.length ≤ 9223372036854775807 := hr.2.1
  obtain ⟨n, hn⟩ : ∃ n, n = l0.length := ⟨_, rfl⟩
  have HN := AsideIR.mk hn
  have HR := AsideIR.mk hr
  have HP := AsideIR.mk hp
  rw [← hn] at hbig
  rw [← hn]
  clear hr hn hp hr0
  go_enter Tryz.func61, Tryz.ntmps61
  go_wp2
  go_loopg [5, 8] n (fun gg _ s8 wr => ∃ kk : Nat, kk ≤ n ∧ n - kk ≤ gg ∧ s8 = .int .i64 kk ∧ AsideIR (Below w.heap.size w wr) ∧ AsideIR (∀ j, (hj : j < kk) → ∀ hl : j < l0.length, p l0[j] = false))
  case atStart => exact ⟨0, Nat.zero_le _, by omega, rfl, ⟨Below.refl _ _⟩, ⟨fun j hj => absurd hj (Nat.not_lt_zero _)⟩⟩
  case round =>
    obtain ⟨kk, hkk, hg, rfl, HB, A⟩ := hrel
    by_cases hlt : kk < n
    · have hltz : (kk : Int) < (n : Int) := by omega
      have hl : kk < l0.length := by have := HN.out; omega
      obtain ⟨ad, A', c', rfl, hcell, hle, hC⟩ := row_at HR.out kk hl
      replace hcell := pw_cell_below HB.out hcell
      have hcall := HP.out l0[kk] A' c' wr (List.getElem_mem hl) HB.out (Kd.C_below hC HB.out) hle
      clear hC hle
      have A2 := AsideIR.mk (show ∀ b, p l0[kk] = b → p l0[kk] = b from fun _ h => h)
      generalize hy : l0[kk] = y at hcell hcall A2
      generalize y.length = ny at hcell hcall
      have B := AsideIR.mk hy
      clear hy
      cases hq : p y with
      | true =>
        rw [hq] at hcall
        have Q := AsideIR.mk hq
        clear hq
        go_wp2_with (go_at_fn g; refine hcall.mono ?_; rintro e w' ⟨rfl, hb1⟩)
        go_ret
        refine ⟨?_, ?_⟩
        · rw [idxOfR_hit p l0 kk 0 hl (fun j hj => A.out j hj (by omega)) (by rw [B.out]; exact Q.out), Nat.zero_add]
          rfl
        · exact below_step HB.out hb1
      | false =>
        rw [hq] at hcall
        have Q := AsideIR.mk hq
        clear hq
        go_wp2_with (go_at_fn g; refine hcall.mono ?_; rintro e w' ⟨rfl, hb1⟩)
        go_roundg (n - (kk + 1))
        case measure => omega
        case rel =>
          refine ⟨kk + 1, by omega, by omega, by go_num, ⟨below_step HB.out hb1⟩, ⟨fun j hj hl' => ?_⟩⟩
          by_cases e : j = kk
          · subst e
            rw [B.out]; exact Q.out
          · exact A.out j (by omega) hl'
    · have hltz : ¬ (kk : Int) < (n : Int) := by omega
      have : kk = n := by omega
      subst this
      go_wp2
      go_ret
      refine ⟨?_, HB.out⟩
      rw [idxOfR_miss p l0 0 (fun j hj => A.out j (by have := HN.out; omega) hj)]
      rfl

end Go.Proofs.YtkolmgkbdhbmhaaGreatDoor.HT2

namespace Go.Proofs.YtkolmgkbdhbmhaaGreatDoor.HT2
open Go.RowKit Go.Proofs.YtkolmgkbdhbmhaaGreatDoorW.PrintWords Go.Proofs.YtkolmgkbdhbmhaaGreatDoorW.PrintLast Go.Proofs.YtkolmgkbdhbmhaaGreatDoorW.PrintMore
attribute [local go_sem] max2_int min2_int max_two min_two max_three min_three max_four min_four   -- for this text's walks alone
set_option linter.unusedVariables false
set_option linter.unusedSimpArgs false

/-! ### slices_ContainsFunc_int_int_33: function 33, by hand -/
set_option maxHeartbeats 1000000 in
theorem slices_ContainsFunc_rows.gives (p : List Int → Bool) (g : Nat) (lb : Array Value) (eg : ∀ args w, (callFunc g args).run Tryz.prog w = .ok (.enter g args) w) (A0 : Option Addr) (c0 : Nat) (l0 : List (List Int)) (w : World) (hr0 : Kd.C (Kd.slice 3 (Kd.int .i64)) w A0 l0.length l0)
    (hp : ∀ (x : List Int) (A' : Option Addr) (c : Nat) (W : World), x ∈ l0 → Below w.heap.size w W → Kd.C (Kd.int .i64) W A' x.length x → x.length ≤ c → Calls Tryz.prog g (#[.slice A' x.length c] ++ lb) W fun e W' => e = .returned (.bool (p x)) ∧ Below W.heap.size W W') :
    Calls Tryz.prog 33 #[.slice A0 l0.length c0, .func (.func g) #[] lb] w fun e w' => e = .returned (.bool (l0.any p)) ∧ Below w.heap.size w w' := by
  rw [← idxOfR_any p l0 0]
  have h := slices_IndexFunc_rows.gives p g lb eg A0 c0 l0 w hr0 hp
  clear hr0 hp
  go_enter Tryz.func33, Tryz.ntmps33
  go_wp2_with (go_at_call 61; refine h.mono ?_; rintro e w' ⟨rfl, hb⟩)
  go_ret
  exact ⟨rfl, hb⟩

end Go.Proofs.YtkolmgkbdhbmhaaGreatDoor.HT2

namespace Go.Proofs.YtkolmgkbdhbmhaaGreatDoor.HT2
open Go.RowKit Go.Proofs.YtkolmgkbdhbmhaaGreatDoorW.PrintWords Go.Proofs.YtkolmgkbdhbmhaaGreatDoorW.PrintLast Go.Proofs.YtkolmgkbdhbmhaaGreatDoorW.PrintMore
attribute [local go_sem] max2_int min2_int max_two min_two max_three min_three max_four min_four   -- for this text's walks alone
set_option linter.unusedVariables false
set_option linter.unusedSimpArgs false

/-! ### slices_IndexFunc_int_int_93: function 93, by hand -/
/-- Where the first number of which p holds stands, or -1. -/
def idxOf (p : Int → Bool) : List Int → Nat → Int
  | [], _ => -1
  | x :: l, i => if p x then (i : Int) else idxOf p l (i + 1)
theorem idxOf_any (p : Int → Bool) (l : List Int) (i : Nat) : decide (0 ≤ idxOf p l i) = l.any p := by
  induction l generalizing i with
  | nil => simp [idxOf]
  | cons x l ih =>
    by_cases h : p x = true
    · simp [idxOf, h]
    · simp only [Bool.not_eq_true] at h
      rw [idxOf, h, if_neg (by decide), ih, List.any_cons, h, Bool.false_or]
theorem idxOf_hit (p : Int → Bool) : ∀ (l : List Int) (k i : Nat) (h : k < l.length), (∀ j, (hj : j < k) → p (l[j]'(by omega)) = false) → p l[k] = true → idxOf p l i = ((i + k : Nat) : Int)
  | x :: l, 0, i, _, _, h => by rw [idxOf, show p x = true from h]; rfl
  | x :: l, k + 1, i, hk, hj, h => by
    have h0 : p x = false := hj 0 (by omega)
    rw [idxOf, h0, if_neg (by decide), idxOf_hit p l k (i + 1) (by simpa using hk) (fun j hj' => hj (j + 1) (by omega)) h]
    omega
theorem idxOf_miss (p : Int → Bool) : ∀ (l : List Int) (i : Nat), (∀ j, (hj : j < l.length) → p l[j] = false) → idxOf p l i = -1
  | [], _, _ => rfl
  | x :: l, i, h => by
    have h0 : p x = false := h 0 (by simp)
    rw [idxOf, h0, if_neg (by decide), idxOf_miss p l (i + 1) (fun j hj => h (j + 1) (by simpa using hj))]
theorem c_reads {k : IntKind} {w : World} {A : Option Addr} {n : Nat} {xs : List Int} (h : Kd.C (Kd.int k) w A n xs) : ReadsInt w k A n xs := Kd.reads_of_C (enc := Value.int k) (d := (0 : Int)) (h1 := fun _ => rfl) h
structure AsideI (p : Prop) : Prop where mk :: (out : p)
set_option maxHeartbeats 2000000 in
theorem slices_IndexFunc_int.gives (p : Int → Bool) (g : Nat) (lb : Array Value) (eg : ∀ args w, (callFunc g args).run Tryz.prog w = .ok (.enter g args) w) (A0 : Option Addr) (c0 : Nat) (l0 : List Int) (w : World) (hr0 : Kd.C (Kd.int .i64) w A0 l0.length l0)
    (hp : ∀ (x : Int) (q : Nat), x ∈ l0 → Calls Tryz.prog g (#[.int .i64 x] ++ lb) (w.drewN q) fun e w' => e = .returned (.bool (p x)) ∧ ∃ q', w' = (w.drewN q).drewN q') :
    Calls Tryz.prog 93 #[.slice A0 l0.length c0, .func (.func g) #[] lb] w fun e w' => e = .returned (.int .i64 (idxOf p l0 0)) ∧ ∃ q, w' = w.drewN q := by
  have hr := c_reads hr0
  have hbig : l0.length ≤ 9223372036854775807 := hr.2.1
  obtain ⟨n, hn⟩ : ∃ n, n = l0.length := ⟨_, rfl⟩
  have HN := AsideI.mk hn
  have HR := AsideI.mk hr
  have HP := AsideI.mk hp
  rw [← hn] at hbig
  rw [← hn]
  clear hr hn hp hr0
  go_enter Tryz.func93, Tryz.ntmps93
  go_wp2
  go_loopg [5, 8] n (fun gg _ s8 wr => ∃ kk q : Nat, kk ≤ n ∧ n - kk ≤ gg ∧ s8 = .int .i64 kk ∧ wr = w.drewN q ∧ AsideI (∀ j, (hj : j < kk) → ∀ hl : j < l0.length, p l0[j] = false))
  case atStart => exact ⟨0, 0, Nat.zero_le _, by omega, rfl, rfl, ⟨fun j hj => absurd hj (Nat.not_lt_zero _)⟩⟩
  case round =>
    obtain ⟨kk, q, hkk, hg, rfl, rfl, A⟩ := hrel
    by_cases hlt : kk < n
    · have hltz : (kk : Int) < (n : Int) := by omega
      have hl : kk < l0.length := by have := HN.out; omega
      obtain ⟨ad, rfl, hcell⟩ := ReadsInt.at_ HR.out (kk : Int) (by omega) (by have := HN.out; omega)
      have hy0 : rd l0 (kk : Int) = l0[kk] := by
        unfold rd
        rw [Int.toNat_natCast, List.getD_eq_getElem?_getD, List.getElem?_eq_getElem hl]
        rfl
      rw [hy0, Int.toNat_natCast] at hcell
      have hcall := fun q => HP.out l0[kk] q (List.getElem_mem hl)
      have A2 := AsideI.mk (show ∀ b, p l0[kk] = b → p l0[kk] = b from fun _ h => h)
      generalize hy : l0[kk] = y at hcell hcall A2
      have B := AsideI.mk hy
      clear hy hy0
      cases hq : p y with
      | true =>
        rw [hq] at hcall
        have Q := AsideI.mk hq
        clear hq
        go_wp2_with (go_at_fn g; refine (hcall _).mono ?_; rintro e w' ⟨rfl, q', rfl⟩)
        go_ret
        refine ⟨?_, ?_⟩
        · rw [idxOf_hit p l0 kk 0 hl (fun j hj => A.out j hj (by omega)) (by rw [B.out]; exact Q.out), Nat.zero_add]
          rfl
        · first | exact ⟨_, rfl⟩ | exact ⟨_, World.drewN_drewN ..⟩
      | false =>
        rw [hq] at hcall
        have Q := AsideI.mk hq
        clear hq
        go_wp2_with (go_at_fn g; refine (hcall _).mono ?_; rintro e w' ⟨rfl, q', rfl⟩)
        go_roundg (n - (kk + 1))
        case measure => omega
        case rel =>
          refine ⟨kk + 1, _, by omega, by omega, by go_num, rfl, ⟨fun j hj hl' => ?_⟩⟩
          by_cases e : j = kk
          · subst e
            rw [B.out]; exact Q.out
          · exact A.out j (by omega) hl'
    · have hltz : ¬ (kk : Int) < (n : Int) := by omega
      have : kk = n := by omega
      subst this
      go_wp2
      go_ret
      refine ⟨?_, q, rfl⟩
      rw [idxOf_miss p l0 0 (fun j hj => A.out j (by have := HN.out; omega) hj)]
      rfl

set_option maxHeartbeats 2000000 in
theorem slices_IndexFunc_int.givesB (p : Int → Bool) (g : Nat) (bnd : Array Value) (eg : ∀ args w, (callFunc g args).run Tryz.prog w = .ok (.enter g args) w) (A0 : Option Addr) (c0 : Nat) (l0 : List Int) (w : World) (hr0 : Kd.C (Kd.int .i64) w A0 l0.length l0)
    (hp : ∀ (x : Int) (W : World), x ∈ l0 → Below w.heap.size w W → Calls Tryz.prog g (bnd ++ #[.int .i64 x]) W fun e W' => e = .returned (.bool (p x)) ∧ Below W.heap.size W W') :
    Calls Tryz.prog 93 #[.slice A0 l0.length c0, .func (.func g) bnd #[]] w fun e w' => e = .returned (.int .i64 (idxOf p l0 0)) ∧ Below w.heap.size w w' := by
  have hr := c_reads hr0
  have hbig : l0.length ≤ 9223372036854775807 := hr.2.1
  obtain ⟨n, hn⟩ : ∃ n, n = l0.length := ⟨_, rfl⟩
  have HN := AsideI.mk hn
  have HR := AsideI.mk hr
  have HP := AsideI.mk hp
  rw [← hn] at hbig
  rw [← hn]
  clear hr hn hp hr0
  go_enter Tryz.func93, Tryz.ntmps93
  go_wp2
  go_loopg [5, 8] n (fun gg _ s8 wr => ∃ kk : Nat, kk ≤ n ∧ n - kk ≤ gg ∧ s8 = .int .i64 kk ∧ AsideI (Below w.heap.size w wr) ∧ AsideI (∀ j, (hj : j < kk) → ∀ hl : j < l0.length, p l0[j] = false))
  case atStart => exact ⟨0, Nat.zero_le _, by omega, rfl, ⟨Below.refl _ _⟩, ⟨fun j hj => absurd hj (Nat.not_lt_zero _)⟩⟩
  case round =>
    obtain ⟨kk, hkk, hg, rfl, HB, A⟩ := hrel
    by_cases hlt : kk < n
    · have hltz : (kk : Int) < (n : Int) := by omega
      have hl : kk < l0.length := by have := HN.out; omega
      obtain ⟨ad, rfl, hcell⟩ := ReadsInt.at_ HR.out (kk : Int) (by omega) (by have := HN.out; omega)
      have hy0 : rd l0 (kk : Int) = l0[kk] := by
        unfold rd
        rw [Int.toNat_natCast, List.getD_eq_getElem?_getD, List.getElem?_eq_getElem hl]
        rfl
      rw [hy0, Int.toNat_natCast] at hcell
      replace hcell := pw_cell_below HB.out hcell
      have hcall := HP.out l0[kk] wr (List.getElem_mem hl) HB.out
      have A2 := AsideI.mk (show ∀ b, p l0[kk] = b → p l0[kk] = b from fun _ h => h)
      generalize hy : l0[kk] = y at hcell hcall A2
      have B := AsideI.mk hy
      clear hy hy0
      cases hq : p y with
      | true =>
        rw [hq] at hcall
        have Q := AsideI.mk hq
        clear hq
        go_wp2_with (go_at_fn g; refine hcall.mono ?_; rintro e w' ⟨rfl, hb1⟩)
        go_ret
        refine ⟨?_, ?_⟩
        · rw [idxOf_hit p l0 kk 0 hl (fun j hj => A.out j hj (by omega)) (by rw [B.out]; exact Q.out), Nat.zero_add]
          rfl
        · exact below_step HB.out hb1
      | false =>
        rw [hq] at hcall
        have Q := AsideI.mk hq
        clear hq
        go_wp2_with (go_at_fn g; refine hcall.mono ?_; rintro e w' ⟨rfl, hb1⟩)
        go_roundg (n - (kk + 1))
        case measure => omega
        case rel =>
          refine ⟨kk + 1, by omega, by omega, by go_num, ⟨below_step HB.out hb1⟩, ⟨fun j hj hl' => ?_⟩⟩
          by_cases e : j = kk
          · subst e
            rw [B.out]; exact Q.out
          · exact A.out j (by omega) hl'
    · have hltz : ¬ (kk : Int) < (n : Int) := by omega
      have : kk = n := by omega
      subst this
      go_wp2
      go_ret
      refine ⟨?_, HB.out⟩
      rw [idxOf_miss p l0 0 (fun j hj => A.out j (by have := HN.out; omega) hj)]
      rfl

end Go.Proofs.YtkolmgkbdhbmhaaGreatDoor.HT2

namespace Go.Proofs.YtkolmgkbdhbmhaaGreatDoor.HT2
open Go.RowKit Go.Proofs.YtkolmgkbdhbmhaaGreatDoorW.PrintWords Go.Proofs.YtkolmgkbdhbmhaaGreatDoorW.PrintLast Go.Proofs.YtkolmgkbdhbmhaaGreatDoorW.PrintMore
attribute [local go_sem] max2_int min2_int max_two min_two max_three min_three max_four min_four   -- for this text's walks alone
set_option linter.unusedVariables false
set_option linter.unusedSimpArgs false

/-! ### slices_ContainsFunc_int_int_63: function 63, by hand -/
set_option maxHeartbeats 1000000 in
theorem slices_ContainsFunc_int.gives (p : Int → Bool) (g : Nat) (lb : Array Value) (eg : ∀ args w, (callFunc g args).run Tryz.prog w = .ok (.enter g args) w) (A0 : Option Addr) (c0 : Nat) (l0 : List Int) (w : World) (hr0 : Kd.C (Kd.int .i64) w A0 l0.length l0)
    (hp : ∀ (x : Int) (q : Nat), x ∈ l0 → Calls Tryz.prog g (#[.int .i64 x] ++ lb) (w.drewN q) fun e w' => e = .returned (.bool (p x)) ∧ ∃ q', w' = (w.drewN q).drewN q') :
    Calls Tryz.prog 63 #[.slice A0 l0.length c0, .func (.func g) #[] lb] w fun e w' => e = .returned (.bool (l0.any p)) ∧ Drawn0 w w' := by
  rw [← idxOf_any p l0 0]
  have h := slices_IndexFunc_int.gives p g lb eg A0 c0 l0 w hr0 hp
  clear hr0 hp
  go_enter Tryz.func63, Tryz.ntmps63
  go_wp2_with (go_at_call 93; refine h.mono ?_; rintro e w' ⟨rfl, q, rfl⟩)
  go_ret
  exact ⟨rfl, ⟨q, rfl⟩⟩

set_option maxHeartbeats 1000000 in
theorem slices_ContainsFunc_int.givesB (p : Int → Bool) (g : Nat) (bnd : Array Value) (eg : ∀ args w, (callFunc g args).run Tryz.prog w = .ok (.enter g args) w) (A0 : Option Addr) (c0 : Nat) (l0 : List Int) (w : World) (hr0 : Kd.C (Kd.int .i64) w A0 l0.length l0)
    (hp : ∀ (x : Int) (W : World), x ∈ l0 → Below w.heap.size w W → Calls Tryz.prog g (bnd ++ #[.int .i64 x]) W fun e W' => e = .returned (.bool (p x)) ∧ Below W.heap.size W W') :
    Calls Tryz.prog 63 #[.slice A0 l0.length c0, .func (.func g) bnd #[]] w fun e w' => e = .returned (.bool (l0.any p)) ∧ Below w.heap.size w w' := by
  rw [← idxOf_any p l0 0]
  have h := slices_IndexFunc_int.givesB p g bnd eg A0 c0 l0 w hr0 hp
  clear hr0 hp
  go_enter Tryz.func63, Tryz.ntmps63
  go_wp2_with (go_at_call 93; refine h.mono ?_; rintro e w' ⟨rfl, hb⟩)
  go_ret
  exact ⟨rfl, hb⟩

end Go.Proofs.YtkolmgkbdhbmhaaGreatDoor.HT2

namespace Go.Proofs.YtkolmgkbdhbmhaaGreatDoor.HT2
open Go.RowKit Go.Proofs.YtkolmgkbdhbmhaaGreatDoorW.PrintWords Go.Proofs.YtkolmgkbdhbmhaaGreatDoorW.PrintLast Go.Proofs.YtkolmgkbdhbmhaaGreatDoorW.PrintMore
attribute [local go_sem] max2_int min2_int max_two min_two max_three min_three max_four min_four   -- for this text's walks alone
set_option linter.unusedVariables false
set_option linter.unusedSimpArgs false

/-! ### pack_anyLacks: function 63 at function 64, by hand -/
/-- Whether one of the numbers is no sample (of a form whose shifts are told). -/
def pack_anyLacks.f (l0 : List Int) (a1_0 : Int) (a1_1 : Bool) : Option Bool :=
  if l0.all (fun x => (pack_Form_lacks.f a1_0 a1_1 x).isSome) then some (l0.any fun x => pack_Form_lacks.f a1_0 a1_1 x == some true) else none
theorem pack_anyLacks.calls (A0 : Option Addr) (c0 : Nat) (l0 : List Int) (a1_0 : Int) (a1_1 : Bool) (r : Bool) (w : World) (hr0 : Kd.C (Kd.int .i64) w A0 l0.length l0) (hc0 : l0.length ≤ c0) (h : pack_anyLacks.f l0 a1_0 a1_1 = some r) :
    Calls Tryz.prog 63 #[.slice A0 l0.length c0, .func (.func 64) #[.agg #[.int .i64 a1_0, .bool a1_1]] #[]] w fun e w' => e = .returned (.bool r) ∧ Below w.heap.size w w' := by
  unfold pack_anyLacks.f at h
  split at h
  · rename_i hall
    obtain rfl := Option.some.inj h
    have eg := enters_of Tryz.func64 (by kernel_rfl) rfl
    refine slices_ContainsFunc_int.givesB _ 64 #[.agg #[.int .i64 a1_0, .bool a1_1]] eg A0 c0 l0 w hr0 (fun x W hx hb => ?_)
    have hs := List.all_eq_true.1 hall x hx
    obtain ⟨b, hb1⟩ := Option.isSome_iff_exists.1 hs
    have hc := pack_Form_lacks.calls a1_0 a1_1 x b W hb1
    rw [hb1]
    cases b <;> exact hc
  · cases h

end Go.Proofs.YtkolmgkbdhbmhaaGreatDoor.HT2

namespace Go.Proofs.YtkolmgkbdhbmhaaGreatDoor.HT2
open Go.RowKit Go.Proofs.YtkolmgkbdhbmhaaGreatDoorW.PrintWords Go.Proofs.YtkolmgkbdhbmhaaGreatDoorW.PrintLast Go.Proofs.YtkolmgkbdhbmhaaGreatDoorW.PrintMore
attribute [local go_sem] max2_int min2_int max_two min_two max_three min_three max_four min_four   -- for this text's walks alone
set_option linter.unusedVariables false
set_option linter.unusedSimpArgs false

/-! ### pack_Check: function 35 -/
mutual
def pack_Check.l0 : Nat → List (List Int) → List (List Int) → Int → Int → Int → Bool → Option (Int)
  | 0, _, _, _, _, _, _ => none
  | k + 1, x1, x25, x26, x27, x117000, x117001 => if x27 < x26 then (if 0 ≤ x27 then (if x27 < (x25.length : Int) then (if 0 < (x1.length : Int) then (if ((rd_L1 x25 x27).length : Int) = ((rd_L1 x1 0).length : Int) then (pack_Check.l0 k x1 x25 x26 (wrap64 (x27 + 1)) x117000 x117001) else (some 8)) else (none)) else (none)) else (none)) else (pack_Check.l1 k x1 (x1.length : Int) 0 x117000 x117001)
def pack_Check.l1 : Nat → List (List Int) → Int → Int → Int → Bool → Option (Int)
  | 0, _, _, _, _, _ => none
  | k + 1, x39, x40, x41, x117000, x117001 => if x41 < x40 then (if 0 ≤ x41 then (if x41 < (x39.length : Int) then ((pack_anyLacks.f (rd_L1 x39 x41) x117000 x117001).bind fun t123 => (if t123 = true then (some 9) else (pack_Check.l1 k x39 x40 (wrap64 (x41 + 1)) x117000 x117001))) else (none)) else (none)) else (some 0)
end
def pack_Check.f (k : Nat) (a0_0 : Int) (a0_1 : Bool) (l1 : List (List Int)) : Option (Int) := (pack_Form_Good.f a0_0 a0_1).bind fun t117 => (if t117 = true then ((pack_count.f (l1.length : Int)).bind fun t118 => (if t118 = true then (if 0 < (l1.length : Int) then (if ((rd_L1 l1 0).length : Int) > 1048576 then (some 8) else (pack_Check.l0 k l1 l1 (l1.length : Int) 0 a0_0 a0_1)) else (none)) else (some 8))) else (some 7))
set_option maxHeartbeats 8000000 in
set_option maxRecDepth 100000 in
theorem pack_Check.calls (k : Nat) (a0_0 : Int) (a0_1 : Bool) (A1 : Option Addr) (c1 : Nat) (l1 : List (List Int)) (r : Int) (w : World) (hr1 : Kd.C (Kd.slice 3 (Kd.int .i64)) w A1 l1.length l1) (hc1 : l1.length ≤ c1) (h : pack_Check.f k a0_0 a0_1 l1 = some r) :
    Calls Tryz.prog 35 #[.agg #[.int .i64 a0_0, .bool a0_1], .slice A1 l1.length c1] w fun e w' => e = .returned (.int .i64 r) ∧ Below w.heap.size w w' := by
  have hu60 := Tryz.underlying60
  have HR1 := Aside0.mk hr1
  have HC1 := Aside0.mk hc1
  clear hr1 hc1
  have HB := Aside0.mk (Below.refl w.heap.size w)
  have H : ((pack_Form_Good.f a0_0 a0_1).bind fun t117 => (if t117 = true then ((pack_count.f (l1.length : Int)).bind fun t118 => (if t118 = true then (if 0 < (l1.length : Int) then (if ((rd_L1 l1 0).length : Int) > 1048576 then (some 8) else (pack_Check.l0 k l1 l1 (l1.length : Int) 0 a0_0 a0_1)) else (none)) else (some 8))) else (some 7))) = some r := h
  clear h
  replace H := Option.bind_eq_some_iff.mp H
  obtain ⟨t117, A30, H⟩ := H
  replace H : (if t117 = true then ((pack_count.f (l1.length : Int)).bind fun t118 => (if t118 = true then (if 0 < (l1.length : Int) then (if ((rd_L1 l1 0).length : Int) > 1048576 then (some 8) else (pack_Check.l0 k l1 l1 (l1.length : Int) 0 a0_0 a0_1)) else (none)) else (some 8))) else (some 7)) = some r := H
  have A3 := Aside0.mk A30
  clear A30
  by_cases c4 : t117 = true
  · subst c4
    have H1 : ((pack_count.f (l1.length : Int)).bind fun t118 => (if t118 = true then (if 0 < (l1.length : Int) then (if ((rd_L1 l1 0).length : Int) > 1048576 then (some 8) else (pack_Check.l0 k l1 l1 (l1.length : Int) 0 a0_0 a0_1)) else (none)) else (some 8))) = some r := by rw [if_pos rfl] at H; exact H
    clear H
    have H := H1
    clear H1
    replace H := Option.bind_eq_some_iff.mp H
    obtain ⟨t118, A50, H⟩ := H
    replace H : (if t118 = true then (if 0 < (l1.length : Int) then (if ((rd_L1 l1 0).length : Int) > 1048576 then (some 8) else (pack_Check.l0 k l1 l1 (l1.length : Int) 0 a0_0 a0_1)) else (none)) else (some 8)) = some r := H
    have A5 := Aside0.mk A50
    clear A50
    by_cases c6 : t118 = true
    · subst c6
      have H1 : (if 0 < (l1.length : Int) then (if ((rd_L1 l1 0).length : Int) > 1048576 then (some 8) else (pack_Check.l0 k l1 l1 (l1.length : Int) 0 a0_0 a0_1)) else (none)) = some r := by rw [if_pos rfl] at H; exact H
      clear H
      have H := H1
      clear H1
      by_cases c7 : 0 < (l1.length : Int)
      · rw [if_pos c7] at H
        have c7b0 : decide (0 < (l1.length : Int)) = true := decide_eq_true c7
        have c7b1 : decide (0 < l1.length) = true := decide_eq_true (by omega)
        clear c7
        by_cases c8 : ((rd_L1 l1 0).length : Int) > 1048576
        · rw [if_pos c8] at H
          have c8b0 : decide (1048576 < ((rd_L1 l1 0).length : Int)) = true := decide_eq_true c8
          have c8b1 : decide (1048576 < (rd_L1 l1 0).length) = true := decide_eq_true (by omega)
          clear c8
          obtain rfl := Option.some.inj H
          go_enter Tryz.func35, Tryz.ntmps35
          go_wp2_with (first | ((with_reducible refine gate_dst (N := 2) rfl ?_); (try (refine gate_guard (by rfl) ?_; dsimp only)); refine box_event ?hg (N := 2) ?hd (cs := #[.int .i64 a0_0, .bool a0_1]) (t := 60) ?hr ?_; (case hd => rfl); (case hg => rfl); (case hr => first | (go_simp; done) | (go_simp; rfl)); intro gb116 hg w9 hbox hb; have n0_ := Aside0.mk (below_step (by repeat (first | (with_reducible first | exact HB.out | apply below_alloc | apply pw_below_drewN | apply below_drew1) | exact HB.out)) hb); have n1_ := Aside0.mk (hbox); have n2_ := Aside0.mk ((by rw [hg]; exact (below_size (by repeat (first | (with_reducible first | exact HB.out | apply below_alloc | apply pw_below_drewN | apply below_drew1) | exact HB.out))) : w.heap.size ≤ gb116)); have n3_ := Aside0.mk ((by rw [hg]; exact (below_size (by repeat (first | (with_reducible first | exact HB.out | apply below_alloc | apply pw_below_drewN | apply below_drew1) | exact HB.out))) : w.heap.size ≤ gb116)); clear HB; have HB := n0_; have BK116 := n1_; have GW116 := n2_; have GE116 := n3_; clear n0_ n1_ n2_ n3_; clear hb hbox hg; have hcz10_0 : w9.cell? ⟨gb116, 0, none⟩ = some (.int .i64 a0_0) := (blk_cell BK116.out 0).trans rfl; have hcz10_1 : w9.cell? ⟨gb116, 1, none⟩ = some (.bool a0_1) := (blk_cell BK116.out 1).trans rfl; have hfz10_0 := blk_frozen BK116.out 0; have hfz10_1 := blk_frozen BK116.out 1) | ((with_reducible refine gate_callee (f := 60) rfl ?_); refine goesL_ (some 11) rfl rfl Tryz.func60 (by kernel_rfl) rfl #[.agg #[.int .i64 a0_0, .bool a0_1]] rfl (by (try simp only [List.map_toArray, List.map_cons, List.map_nil]); first | done | rfl | (simp only [List.length_drop, List.length_take]; rfl)) ?_; (with_reducible refine (pack_Form_Good.calls a0_0 a0_1 true _ A3.out).mono ?_); rintro e w11 ⟨rfl, hb⟩; refine ⟨_, rfl, ?_⟩; have n0_ := Aside0.mk (blk_below (g := gb116) (o := .cells #[.int .i64 a0_0, .bool a0_1] 60 (0, 0)) (by (with_reducible repeat (first | refine blk_drewN ?_ _ | refine blk_drew ?_ | refine blk_alloc ?_ _)); exact BK116.out) hb); have n1_ := Aside0.mk (below_step (by repeat (first | (with_reducible first | exact HB.out | apply below_alloc | apply pw_below_drewN | apply below_drew1 | refine below_set ?_ GE116.out) | exact HB.out)) hb); clear BK116; clear HB; have BK116 := n0_; have HB := n1_; clear n0_ n1_; (try clear hb); (try clear hb2); (try clear hk); (try clear hi)) | ((with_reducible refine gate_callee (f := 62) rfl ?_); refine goesL_ (some 16) rfl rfl Tryz.func62 (by kernel_rfl) rfl #[.int .i64 (l1.length : Int)] rfl (by (try simp only [List.map_toArray, List.map_cons, List.map_nil]); first | done | rfl | (simp only [List.length_drop, List.length_take]; rfl)) ?_; (with_reducible refine (pack_count.calls (l1.length : Int) true _ A5.out).mono ?_); rintro e w' ⟨rfl, ⟨nd, rfl⟩⟩; refine ⟨_, rfl, ?_⟩; have p119 : 0 ≤ (0 : Int) := (by omega); have q119 : 0 < (l1.length : Int) := of_decide_eq_true (by first | (with_reducible assumption) | assumption); obtain ⟨ad119, A119_0, c119_0, e119, hx119_0, hl119_0, hi119_0⟩ := at_L1 HR1.out 0 p119 q119; cases e119; have qi119 : (0 < l1.length) = True := eq_true (by omega); (try rw [show ((0 : Int)).toNat = 0 from rfl] at hx119_0); (try rw [Addr.add_zero'] at hx119_0); replace hx119_0 := (HB.out.cell (World.block_lt_of_cell? w _ hx119_0)).trans hx119_0; have HR119_0 := Aside0.mk hi119_0; have HC119_0 := Aside0.mk hl119_0; clear hi119_0 hl119_0; replace p119 := eq_true p119; replace q119 := eq_true q119))
          go_ret
          exact ⟨by first | rfl | (simp [errW_none, errW_some] <;> rfl) | (simp [*, errW_none, errW_some] <;> rfl), by repeat (first | (with_reducible first | exact HB.out | apply below_alloc | apply pw_below_drewN | apply below_drew1 | refine below_set ?_ GE116.out) | exact HB.out)⟩
        · rw [if_neg c8] at H
          have c8b0 : decide (1048576 < ((rd_L1 l1 0).length : Int)) = false := decide_eq_false c8
          have c8b1 : decide (1048576 < (rd_L1 l1 0).length) = false := decide_eq_false (by omega)
          clear c8
          have H' := Aside0.mk H
          clear H
          go_enter Tryz.func35, Tryz.ntmps35
          go_wp2_with (first | ((with_reducible refine gate_dst (N := 2) rfl ?_); (try (refine gate_guard (by rfl) ?_; dsimp only)); refine box_event ?hg (N := 2) ?hd (cs := #[.int .i64 a0_0, .bool a0_1]) (t := 60) ?hr ?_; (case hd => rfl); (case hg => rfl); (case hr => first | (go_simp; done) | (go_simp; rfl)); intro gb116 hg w12 hbox hb; have n0_ := Aside0.mk (below_step (by repeat (first | (with_reducible first | exact HB.out | apply below_alloc | apply pw_below_drewN | apply below_drew1) | exact HB.out)) hb); have n1_ := Aside0.mk (hbox); have n2_ := Aside0.mk ((by rw [hg]; exact (below_size (by repeat (first | (with_reducible first | exact HB.out | apply below_alloc | apply pw_below_drewN | apply below_drew1) | exact HB.out))) : w.heap.size ≤ gb116)); have n3_ := Aside0.mk ((by rw [hg]; exact (below_size (by repeat (first | (with_reducible first | exact HB.out | apply below_alloc | apply pw_below_drewN | apply below_drew1) | exact HB.out))) : w.heap.size ≤ gb116)); clear HB; have HB := n0_; have BK116 := n1_; have GW116 := n2_; have GE116 := n3_; clear n0_ n1_ n2_ n3_; clear hb hbox hg; have hcz13_0 : w12.cell? ⟨gb116, 0, none⟩ = some (.int .i64 a0_0) := (blk_cell BK116.out 0).trans rfl; have hcz13_1 : w12.cell? ⟨gb116, 1, none⟩ = some (.bool a0_1) := (blk_cell BK116.out 1).trans rfl; have hfz13_0 := blk_frozen BK116.out 0; have hfz13_1 := blk_frozen BK116.out 1) | ((with_reducible refine gate_callee (f := 60) rfl ?_); refine goesL_ (some 11) rfl rfl Tryz.func60 (by kernel_rfl) rfl #[.agg #[.int .i64 a0_0, .bool a0_1]] rfl (by (try simp only [List.map_toArray, List.map_cons, List.map_nil]); first | done | rfl | (simp only [List.length_drop, List.length_take]; rfl)) ?_; (with_reducible refine (pack_Form_Good.calls a0_0 a0_1 true _ A3.out).mono ?_); rintro e w14 ⟨rfl, hb⟩; refine ⟨_, rfl, ?_⟩; have n0_ := Aside0.mk (blk_below (g := gb116) (o := .cells #[.int .i64 a0_0, .bool a0_1] 60 (0, 0)) (by (with_reducible repeat (first | refine blk_drewN ?_ _ | refine blk_drew ?_ | refine blk_alloc ?_ _)); exact BK116.out) hb); have n1_ := Aside0.mk (below_step (by repeat (first | (with_reducible first | exact HB.out | apply below_alloc | apply pw_below_drewN | apply below_drew1 | refine below_set ?_ GE116.out) | exact HB.out)) hb); clear BK116; clear HB; have BK116 := n0_; have HB := n1_; clear n0_ n1_; (try clear hb); (try clear hb2); (try clear hk); (try clear hi)) | ((with_reducible refine gate_callee (f := 62) rfl ?_); refine goesL_ (some 16) rfl rfl Tryz.func62 (by kernel_rfl) rfl #[.int .i64 (l1.length : Int)] rfl (by (try simp only [List.map_toArray, List.map_cons, List.map_nil]); first | done | rfl | (simp only [List.length_drop, List.length_take]; rfl)) ?_; (with_reducible refine (pack_count.calls (l1.length : Int) true _ A5.out).mono ?_); rintro e w' ⟨rfl, ⟨nd, rfl⟩⟩; refine ⟨_, rfl, ?_⟩; have p119 : 0 ≤ (0 : Int) := (by omega); have q119 : 0 < (l1.length : Int) := of_decide_eq_true (by first | (with_reducible assumption) | assumption); obtain ⟨ad119, A119_0, c119_0, e119, hx119_0, hl119_0, hi119_0⟩ := at_L1 HR1.out 0 p119 q119; cases e119; have qi119 : (0 < l1.length) = True := eq_true (by omega); (try rw [show ((0 : Int)).toNat = 0 from rfl] at hx119_0); (try rw [Addr.add_zero'] at hx119_0); replace hx119_0 := (HB.out.cell (World.block_lt_of_cell? w _ hx119_0)).trans hx119_0; have HR119_0 := Aside0.mk hi119_0; have HC119_0 := Aside0.mk hl119_0; clear hi119_0 hl119_0; replace p119 := eq_true p119; replace q119 := eq_true q119))
          go_loopg [27] k (fun kq v27 w' => ∃ (x27_1 : Int), v27 = .int .i64 x27_1 ∧ Aside0 (pack_Check.l0 kq l1 l1 (l1.length : Int) x27_1 a0_0 a0_1 = some r) ∧ Aside0 (kq ≤ k) ∧ Aside0 (w'.heap[gb116]? = some (.cells #[.int .i64 a0_0, .bool a0_1] 60 (0, 0))) ∧ Aside0 (Below w.heap.size w w'))
          case atStart => exact ⟨(0), (by first | rfl | (simp; done) | (simp [*]; done)), H', ⟨Nat.le_refl _⟩, ⟨by (with_reducible repeat (first | refine blk_drewN ?_ _ | refine blk_drew ?_ | refine blk_alloc ?_ _)); exact BK116.out⟩, ⟨by repeat (first | (with_reducible first | exact HB.out | apply below_alloc | apply pw_below_drewN | apply below_drew1 | refine below_set ?_ GE116.out) | exact HB.out)⟩⟩
          case round =>
            clear H'
            try clear c1
            try clear p1
            try clear q1
            try clear hx1
            try clear qi1
            try clear p2
            try clear c3
            try clear c4
            try clear c6
            try clear c7
            try clear c7b0
            try clear c7b1
            try clear c8
            try clear c8b0
            try clear c8b1
            try clear c11
            try clear p11
            try clear q11
            try clear hx11
            try clear qi11
            try clear hcz10_0
            try clear hcz10_1
            try clear hcz13_0
            try clear hcz13_1
            try clear hfz10_0
            try clear hfz10_1
            try clear hfz13_0
            try clear hfz13_1
            try clear hx119_0
            try clear p119
            try clear q119
            obtain ⟨x27_1, rfl, HA, HK1, BK116, HB⟩ := hrel
            cases gk with
            | zero => exact absurd HA.out (by simp [pack_Check.l0])
            | succ k1 =>
              have H := HA.out
              clear HA
              simp only [pack_Check.l0] at H
              by_cases c15 : x27_1 < (l1.length : Int)
              · rw [if_pos c15] at H
                have c15b0 : decide (x27_1 < (l1.length : Int)) = true := decide_eq_true c15
                clear c15
                by_cases c16 : 0 ≤ x27_1
                · rw [if_pos c16] at H
                  have c16b0 : decide (0 ≤ x27_1) = true := decide_eq_true c16
                  clear c16
                  by_cases c17 : x27_1 < (l1.length : Int)
                  · rw [if_pos c17] at H
                    have c17b0 : decide (x27_1 < (l1.length : Int)) = true := decide_eq_true c17
                    clear c17
                    by_cases c18 : 0 < (l1.length : Int)
                    · rw [if_pos c18] at H
                      have c18b0 : decide (0 < (l1.length : Int)) = true := decide_eq_true c18
                      have c18b1 : decide (0 < l1.length) = true := decide_eq_true (by omega)
                      clear c18
                      by_cases c19 : ((rd_L1 l1 x27_1).length : Int) = ((rd_L1 l1 0).length : Int)
                      · rw [if_pos c19] at H
                        have c19b0 : (((rd_L1 l1 x27_1).length : Int) == ((rd_L1 l1 0).length : Int)) = true := beq_iff_eq.mpr c19
                        have c19b1 : (((rd_L1 l1 x27_1).length : Int) != ((rd_L1 l1 0).length : Int)) = false := bne_eq_false_iff_eq.mpr c19
                        have c19b2 : ((rd_L1 l1 x27_1).length == (rd_L1 l1 0).length) = true := by first | simpa using c19 | (simp at c19 ⊢; omega)
                        clear c19
                        have H' := Aside0.mk H
                        clear H
                        have p120 : 0 ≤ (x27_1 : Int) := of_decide_eq_true (by first | (with_reducible assumption) | assumption)
                        have q120 : x27_1 < (l1.length : Int) := of_decide_eq_true (by first | (with_reducible assumption) | assumption)
                        obtain ⟨ad120, A120_0, c120_0, e120, hx120_0, hl120_0, hi120_0⟩ := at_L1 HR1.out x27_1 p120 q120
                        obtain rfl : ad119 = ad120 := (by injection e120)
                        replace hx120_0 := (HB.out.cell (World.block_lt_of_cell? w _ hx120_0)).trans hx120_0
                        have HR120_0 := Aside0.mk hi120_0
                        have HC120_0 := Aside0.mk hl120_0
                        clear hi120_0 hl120_0
                        replace p120 := eq_true p120
                        replace q120 := eq_true q120
                        have p121 : 0 ≤ (0 : Int) := (by omega)
                        have q121 : 0 < (l1.length : Int) := of_decide_eq_true (by first | (with_reducible assumption) | assumption)
                        obtain ⟨ad121, A121_0, c121_0, e121, hx121_0, hl121_0, hi121_0⟩ := at_L1 HR1.out 0 p121 q121
                        obtain rfl : ad119 = ad121 := (by injection e121)
                        have qi121 : (0 < l1.length) = True := eq_true (by omega)
                        (try rw [show ((0 : Int)).toNat = 0 from rfl] at hx121_0)
                        (try rw [Addr.add_zero'] at hx121_0)
                        replace hx121_0 := (HB.out.cell (World.block_lt_of_cell? w _ hx121_0)).trans hx121_0
                        have HR121_0 := Aside0.mk hi121_0
                        have HC121_0 := Aside0.mk hl121_0
                        clear hi121_0 hl121_0
                        replace p121 := eq_true p121
                        replace q121 := eq_true q121
                        go_wp2
                        go_roundg k1
                        case measure => have := HK1.out; omega
                        case rel => exact ⟨(wrap64 (x27_1 + 1)), (by first | rfl | (simp; done) | (simp [*]; done)), H', ⟨by have := HK1.out; omega⟩, ⟨by (with_reducible repeat (first | refine blk_drewN ?_ _ | refine blk_drew ?_ | refine blk_alloc ?_ _)); exact BK116.out⟩, ⟨by repeat (first | (with_reducible first | exact HB.out | apply below_alloc | apply pw_below_drewN | apply below_drew1 | refine below_set ?_ GE116.out) | exact HB.out)⟩⟩
                      · rw [if_neg c19] at H
                        have c19b0 : (((rd_L1 l1 x27_1).length : Int) == ((rd_L1 l1 0).length : Int)) = false := beq_eq_false_iff_ne.mpr c19
                        have c19b1 : (((rd_L1 l1 x27_1).length : Int) != ((rd_L1 l1 0).length : Int)) = true := bne_iff_ne.mpr c19
                        have c19b2 : ((rd_L1 l1 x27_1).length == (rd_L1 l1 0).length) = false := by first | simpa using c19 | (simp at c19 ⊢; omega)
                        obtain rfl := Option.some.inj H
                        have p120 : 0 ≤ (x27_1 : Int) := of_decide_eq_true (by first | (with_reducible assumption) | assumption)
                        have q120 : x27_1 < (l1.length : Int) := of_decide_eq_true (by first | (with_reducible assumption) | assumption)
                        obtain ⟨ad120, A120_0, c120_0, e120, hx120_0, hl120_0, hi120_0⟩ := at_L1 HR1.out x27_1 p120 q120
                        obtain rfl : ad119 = ad120 := (by injection e120)
                        replace hx120_0 := (HB.out.cell (World.block_lt_of_cell? w _ hx120_0)).trans hx120_0
                        have HR120_0 := Aside0.mk hi120_0
                        have HC120_0 := Aside0.mk hl120_0
                        clear hi120_0 hl120_0
                        replace p120 := eq_true p120
                        replace q120 := eq_true q120
                        have p121 : 0 ≤ (0 : Int) := (by omega)
                        have q121 : 0 < (l1.length : Int) := of_decide_eq_true (by first | (with_reducible assumption) | assumption)
                        obtain ⟨ad121, A121_0, c121_0, e121, hx121_0, hl121_0, hi121_0⟩ := at_L1 HR1.out 0 p121 q121
                        obtain rfl : ad119 = ad121 := (by injection e121)
                        have qi121 : (0 < l1.length) = True := eq_true (by omega)
                        (try rw [show ((0 : Int)).toNat = 0 from rfl] at hx121_0)
                        (try rw [Addr.add_zero'] at hx121_0)
                        replace hx121_0 := (HB.out.cell (World.block_lt_of_cell? w _ hx121_0)).trans hx121_0
                        have HR121_0 := Aside0.mk hi121_0
                        have HC121_0 := Aside0.mk hl121_0
                        clear hi121_0 hl121_0
                        replace p121 := eq_true p121
                        replace q121 := eq_true q121
                        go_wp2
                        go_ret
                        exact ⟨by first | rfl | (simp [errW_none, errW_some] <;> rfl) | (simp [*, errW_none, errW_some] <;> rfl), by repeat (first | (with_reducible first | exact HB.out | apply below_alloc | apply pw_below_drewN | apply below_drew1 | refine below_set ?_ GE116.out) | exact HB.out)⟩
                    · rw [if_neg c18] at H
                      exact absurd H (by simp)
                  · rw [if_neg c17] at H
                    exact absurd H (by simp)
                · rw [if_neg c16] at H
                  exact absurd H (by simp)
              · rw [if_neg c15] at H
                have c15b0 : decide (x27_1 < (l1.length : Int)) = false := decide_eq_false c15
                clear c15
                have H' := Aside0.mk H
                clear H
                go_wp2
                go_loopg [41] k1 (fun kq v41 w' => ∃ (x41_2 : Int), v41 = .int .i64 x41_2 ∧ Aside0 (pack_Check.l1 kq l1 (l1.length : Int) x41_2 a0_0 a0_1 = some r) ∧ Aside0 (kq ≤ k1) ∧ Aside0 (w'.heap[gb116]? = some (.cells #[.int .i64 a0_0, .bool a0_1] 60 (0, 0))) ∧ Aside0 (Below w.heap.size w w'))
                case atStart => exact ⟨(0), (by first | rfl | (simp; done) | (simp [*]; done)), H', ⟨Nat.le_refl _⟩, ⟨by (with_reducible repeat (first | refine blk_drewN ?_ _ | refine blk_drew ?_ | refine blk_alloc ?_ _)); exact BK116.out⟩, ⟨by repeat (first | (with_reducible first | exact HB.out | apply below_alloc | apply pw_below_drewN | apply below_drew1 | refine below_set ?_ GE116.out) | exact HB.out)⟩⟩
                case round =>
                  clear H'
                  try clear c1
                  try clear p1
                  try clear q1
                  try clear hx1
                  try clear qi1
                  try clear p2
                  try clear c3
                  try clear c4
                  try clear c6
                  try clear p6
                  try clear c7
                  try clear c7b0
                  try clear c7b1
                  try clear c8
                  try clear c8b0
                  try clear c8b1
                  try clear c11
                  try clear p11
                  try clear q11
                  try clear hx11
                  try clear qi11
                  try clear c12
                  try clear p12
                  try clear q12
                  try clear hx12
                  try clear qi12
                  try clear c15
                  try clear c15b0
                  try clear c16
                  try clear c16b0
                  try clear c17
                  try clear c17b0
                  try clear c18
                  try clear c18b0
                  try clear c18b1
                  try clear c19
                  try clear c19b0
                  try clear c19b1
                  try clear c19b2
                  try clear hcz10_0
                  try clear hcz10_1
                  try clear hcz13_0
                  try clear hcz13_1
                  try clear hfz10_0
                  try clear hfz10_1
                  try clear hfz13_0
                  try clear hfz13_1
                  try clear hx119_0
                  try clear hx120_0
                  try clear hx121_0
                  try clear p1
                  try clear p11
                  try clear p119
                  try clear p120
                  try clear p121
                  try clear p2
                  try clear q1
                  try clear q11
                  try clear q119
                  try clear q120
                  try clear q121
                  obtain ⟨x41_2, rfl, HA, HK2, BK116, HB⟩ := hrel
                  cases gk with
                  | zero => exact absurd HA.out (by simp [pack_Check.l1])
                  | succ k2 =>
                    have H := HA.out
                    clear HA
                    simp only [pack_Check.l1] at H
                    by_cases c20 : x41_2 < (l1.length : Int)
                    · rw [if_pos c20] at H
                      have c20b0 : decide (x41_2 < (l1.length : Int)) = true := decide_eq_true c20
                      clear c20
                      by_cases c21 : 0 ≤ x41_2
                      · rw [if_pos c21] at H
                        have c21b0 : decide (0 ≤ x41_2) = true := decide_eq_true c21
                        clear c21
                        by_cases c22 : x41_2 < (l1.length : Int)
                        · rw [if_pos c22] at H
                          have c22b0 : decide (x41_2 < (l1.length : Int)) = true := decide_eq_true c22
                          clear c22
                          replace H := Option.bind_eq_some_iff.mp H
                          obtain ⟨t123, A230, H⟩ := H
                          replace H : (if t123 = true then (some 9) else (pack_Check.l1 k2 l1 (l1.length : Int) (wrap64 (x41_2 + 1)) a0_0 a0_1)) = some r := H
                          have A23 := Aside0.mk A230
                          clear A230
                          by_cases c24 : t123 = true
                          · subst c24
                            have H1 : (some 9) = some r := by rw [if_pos rfl] at H; exact H
                            clear H
                            have H := H1
                            clear H1
                            obtain rfl := Option.some.inj H
                            have p122 : 0 ≤ (x41_2 : Int) := of_decide_eq_true (by first | (with_reducible assumption) | assumption)
                            have q122 : x41_2 < (l1.length : Int) := of_decide_eq_true (by first | (with_reducible assumption) | assumption)
                            obtain ⟨ad122, A122_0, c122_0, e122, hx122_0, hl122_0, hi122_0⟩ := at_L1 HR1.out x41_2 p122 q122
                            obtain rfl : ad119 = ad122 := (by injection e122)
                            replace hx122_0 := (HB.out.cell (World.block_lt_of_cell? w _ hx122_0)).trans hx122_0
                            have HR122_0 := Aside0.mk hi122_0
                            have HC122_0 := Aside0.mk hl122_0
                            clear hi122_0 hl122_0
                            replace p122 := eq_true p122
                            replace q122 := eq_true q122
                            have hcz25_0 : wr.cell? ⟨gb116, 0, none⟩ = some (.int .i64 a0_0) := (blk_cell BK116.out 0).trans rfl
                            have hcz25_1 : wr.cell? ⟨gb116, 1, none⟩ = some (.bool a0_1) := (blk_cell BK116.out 1).trans rfl
                            have hfz25_0 := blk_frozen BK116.out 0
                            have hfz25_1 := blk_frozen BK116.out 1
                            go_wp2_with (first | ((with_reducible refine gate_callee (f := 63) rfl ?_); refine goesL_ (some 48) rfl rfl Tryz.func63 (by kernel_rfl) rfl #[.slice A122_0 (rd_L1 l1 x41_2).length c122_0, .func (.func 64) #[.agg #[.int .i64 a0_0, .bool a0_1]] #[]] rfl (by (try simp only [List.map_toArray, List.map_cons, List.map_nil]); first | done | rfl | (simp only [List.length_drop, List.length_take]; rfl)) ?_; (with_reducible refine (pack_anyLacks.calls _ _ (rd_L1 l1 x41_2) a0_0 a0_1 true _ ?side1 ?side2 A23.out).mono ?_); (case side1 => repeat (first | exact (Kd.C_below HR122_0.out HB.out) | (with_reducible refine Kd.C_alloc ?_ _) | (with_reducible refine Kd.C_drewN ?_ _) | (with_reducible refine Kd.C_drew ?_))); (case side2 => exact HC122_0.out); rintro e w26 ⟨rfl, hb⟩; refine ⟨_, rfl, ?_⟩; have n0_ := Aside0.mk (blk_below (g := gb116) (o := .cells #[.int .i64 a0_0, .bool a0_1] 60 (0, 0)) (by (with_reducible repeat (first | refine blk_drewN ?_ _ | refine blk_drew ?_ | refine blk_alloc ?_ _)); exact BK116.out) hb); have n1_ := Aside0.mk (below_step (by repeat (first | (with_reducible first | exact HB.out | apply below_alloc | apply pw_below_drewN | apply below_drew1 | refine below_set ?_ GE116.out) | exact HB.out)) hb); clear BK116; clear HB; have BK116 := n0_; have HB := n1_; clear n0_ n1_; (try clear hb); (try clear hb2); (try clear hk); (try clear hi)))
                            go_ret
                            exact ⟨by first | rfl | (simp [errW_none, errW_some] <;> rfl) | (simp [*, errW_none, errW_some] <;> rfl), by repeat (first | (with_reducible first | exact HB.out | apply below_alloc | apply pw_below_drewN | apply below_drew1 | refine below_set ?_ GE116.out) | exact HB.out)⟩
                          · replace c24 := Bool.eq_false_iff.mpr c24
                            subst c24
                            have H1 : (pack_Check.l1 k2 l1 (l1.length : Int) (wrap64 (x41_2 + 1)) a0_0 a0_1) = some r := by rw [if_neg (show ¬ (false = true) by decide)] at H; exact H
                            clear H
                            have H := H1
                            clear H1
                            have H' := Aside0.mk H
                            clear H
                            have p122 : 0 ≤ (x41_2 : Int) := of_decide_eq_true (by first | (with_reducible assumption) | assumption)
                            have q122 : x41_2 < (l1.length : Int) := of_decide_eq_true (by first | (with_reducible assumption) | assumption)
                            obtain ⟨ad122, A122_0, c122_0, e122, hx122_0, hl122_0, hi122_0⟩ := at_L1 HR1.out x41_2 p122 q122
                            obtain rfl : ad119 = ad122 := (by injection e122)
                            replace hx122_0 := (HB.out.cell (World.block_lt_of_cell? w _ hx122_0)).trans hx122_0
                            have HR122_0 := Aside0.mk hi122_0
                            have HC122_0 := Aside0.mk hl122_0
                            clear hi122_0 hl122_0
                            replace p122 := eq_true p122
                            replace q122 := eq_true q122
                            have hcz27_0 : wr.cell? ⟨gb116, 0, none⟩ = some (.int .i64 a0_0) := (blk_cell BK116.out 0).trans rfl
                            have hcz27_1 : wr.cell? ⟨gb116, 1, none⟩ = some (.bool a0_1) := (blk_cell BK116.out 1).trans rfl
                            have hfz27_0 := blk_frozen BK116.out 0
                            have hfz27_1 := blk_frozen BK116.out 1
                            go_wp2_with (first | ((with_reducible refine gate_callee (f := 63) rfl ?_); refine goesL_ (some 48) rfl rfl Tryz.func63 (by kernel_rfl) rfl #[.slice A122_0 (rd_L1 l1 x41_2).length c122_0, .func (.func 64) #[.agg #[.int .i64 a0_0, .bool a0_1]] #[]] rfl (by (try simp only [List.map_toArray, List.map_cons, List.map_nil]); first | done | rfl | (simp only [List.length_drop, List.length_take]; rfl)) ?_; (with_reducible refine (pack_anyLacks.calls _ _ (rd_L1 l1 x41_2) a0_0 a0_1 false _ ?side1 ?side2 A23.out).mono ?_); (case side1 => repeat (first | exact (Kd.C_below HR122_0.out HB.out) | (with_reducible refine Kd.C_alloc ?_ _) | (with_reducible refine Kd.C_drewN ?_ _) | (with_reducible refine Kd.C_drew ?_))); (case side2 => exact HC122_0.out); rintro e w28 ⟨rfl, hb⟩; refine ⟨_, rfl, ?_⟩; have n0_ := Aside0.mk (blk_below (g := gb116) (o := .cells #[.int .i64 a0_0, .bool a0_1] 60 (0, 0)) (by (with_reducible repeat (first | refine blk_drewN ?_ _ | refine blk_drew ?_ | refine blk_alloc ?_ _)); exact BK116.out) hb); have n1_ := Aside0.mk (below_step (by repeat (first | (with_reducible first | exact HB.out | apply below_alloc | apply pw_below_drewN | apply below_drew1 | refine below_set ?_ GE116.out) | exact HB.out)) hb); clear BK116; clear HB; have BK116 := n0_; have HB := n1_; clear n0_ n1_; (try clear hb); (try clear hb2); (try clear hk); (try clear hi)))
                            go_roundg k2
                            case measure => have := HK1.out; have := HK2.out; omega
                            case rel => exact ⟨(wrap64 (x41_2 + 1)), (by first | rfl | (simp; done) | (simp [*]; done)), H', ⟨by have := HK1.out; have := HK2.out; omega⟩, ⟨by (with_reducible repeat (first | refine blk_drewN ?_ _ | refine blk_drew ?_ | refine blk_alloc ?_ _)); exact BK116.out⟩, ⟨by repeat (first | (with_reducible first | exact HB.out | apply below_alloc | apply pw_below_drewN | apply below_drew1 | refine below_set ?_ GE116.out) | exact HB.out)⟩⟩
                        · rw [if_neg c22] at H
                          exact absurd H (by simp)
                      · rw [if_neg c21] at H
                        exact absurd H (by simp)
                    · rw [if_neg c20] at H
                      have c20b0 : decide (x41_2 < (l1.length : Int)) = false := decide_eq_false c20
                      clear c20
                      obtain rfl := Option.some.inj H
                      go_wp2
                      go_ret
                      exact ⟨by first | rfl | (simp [errW_none, errW_some] <;> rfl) | (simp [*, errW_none, errW_some] <;> rfl), by repeat (first | (with_reducible first | exact HB.out | apply below_alloc | apply pw_below_drewN | apply below_drew1 | refine below_set ?_ GE116.out) | exact HB.out)⟩
      · rw [if_neg c7] at H
        exact absurd H (by simp)
    · replace c6 := Bool.eq_false_iff.mpr c6
      subst c6
      have H1 : (some 8) = some r := by rw [if_neg (show ¬ (false = true) by decide)] at H; exact H
      clear H
      have H := H1
      clear H1
      obtain rfl := Option.some.inj H
      go_enter Tryz.func35, Tryz.ntmps35
      go_wp2_with (first | ((with_reducible refine gate_dst (N := 2) rfl ?_); (try (refine gate_guard (by rfl) ?_; dsimp only)); refine box_event ?hg (N := 2) ?hd (cs := #[.int .i64 a0_0, .bool a0_1]) (t := 60) ?hr ?_; (case hd => rfl); (case hg => rfl); (case hr => first | (go_simp; done) | (go_simp; rfl)); intro gb116 hg w29 hbox hb; have n0_ := Aside0.mk (below_step (by repeat (first | (with_reducible first | exact HB.out | apply below_alloc | apply pw_below_drewN | apply below_drew1) | exact HB.out)) hb); have n1_ := Aside0.mk (hbox); have n2_ := Aside0.mk ((by rw [hg]; exact (below_size (by repeat (first | (with_reducible first | exact HB.out | apply below_alloc | apply pw_below_drewN | apply below_drew1) | exact HB.out))) : w.heap.size ≤ gb116)); have n3_ := Aside0.mk ((by rw [hg]; exact (below_size (by repeat (first | (with_reducible first | exact HB.out | apply below_alloc | apply pw_below_drewN | apply below_drew1) | exact HB.out))) : w.heap.size ≤ gb116)); clear HB; have HB := n0_; have BK116 := n1_; have GW116 := n2_; have GE116 := n3_; clear n0_ n1_ n2_ n3_; clear hb hbox hg; have hcz30_0 : w29.cell? ⟨gb116, 0, none⟩ = some (.int .i64 a0_0) := (blk_cell BK116.out 0).trans rfl; have hcz30_1 : w29.cell? ⟨gb116, 1, none⟩ = some (.bool a0_1) := (blk_cell BK116.out 1).trans rfl; have hfz30_0 := blk_frozen BK116.out 0; have hfz30_1 := blk_frozen BK116.out 1) | ((with_reducible refine gate_callee (f := 60) rfl ?_); refine goesL_ (some 11) rfl rfl Tryz.func60 (by kernel_rfl) rfl #[.agg #[.int .i64 a0_0, .bool a0_1]] rfl (by (try simp only [List.map_toArray, List.map_cons, List.map_nil]); first | done | rfl | (simp only [List.length_drop, List.length_take]; rfl)) ?_; (with_reducible refine (pack_Form_Good.calls a0_0 a0_1 true _ A3.out).mono ?_); rintro e w31 ⟨rfl, hb⟩; refine ⟨_, rfl, ?_⟩; have n0_ := Aside0.mk (blk_below (g := gb116) (o := .cells #[.int .i64 a0_0, .bool a0_1] 60 (0, 0)) (by (with_reducible repeat (first | refine blk_drewN ?_ _ | refine blk_drew ?_ | refine blk_alloc ?_ _)); exact BK116.out) hb); have n1_ := Aside0.mk (below_step (by repeat (first | (with_reducible first | exact HB.out | apply below_alloc | apply pw_below_drewN | apply below_drew1 | refine below_set ?_ GE116.out) | exact HB.out)) hb); clear BK116; clear HB; have BK116 := n0_; have HB := n1_; clear n0_ n1_; (try clear hb); (try clear hb2); (try clear hk); (try clear hi)) | ((with_reducible refine gate_callee (f := 62) rfl ?_); refine goesL_ (some 16) rfl rfl Tryz.func62 (by kernel_rfl) rfl #[.int .i64 (l1.length : Int)] rfl (by (try simp only [List.map_toArray, List.map_cons, List.map_nil]); first | done | rfl | (simp only [List.length_drop, List.length_take]; rfl)) ?_; (with_reducible refine (pack_count.calls (l1.length : Int) false _ A5.out).mono ?_); rintro e w' ⟨rfl, ⟨nd, rfl⟩⟩; refine ⟨_, rfl, ?_⟩))
      go_ret
      exact ⟨by first | rfl | (simp [errW_none, errW_some] <;> rfl) | (simp [*, errW_none, errW_some] <;> rfl), by repeat (first | (with_reducible first | exact HB.out | apply below_alloc | apply pw_below_drewN | apply below_drew1 | refine below_set ?_ GE116.out) | exact HB.out)⟩
  · replace c4 := Bool.eq_false_iff.mpr c4
    subst c4
    have H1 : (some 7) = some r := by rw [if_neg (show ¬ (false = true) by decide)] at H; exact H
    clear H
    have H := H1
    clear H1
    obtain rfl := Option.some.inj H
    go_enter Tryz.func35, Tryz.ntmps35
    go_wp2_with (first | ((with_reducible refine gate_dst (N := 2) rfl ?_); (try (refine gate_guard (by rfl) ?_; dsimp only)); refine box_event ?hg (N := 2) ?hd (cs := #[.int .i64 a0_0, .bool a0_1]) (t := 60) ?hr ?_; (case hd => rfl); (case hg => rfl); (case hr => first | (go_simp; done) | (go_simp; rfl)); intro gb116 hg w32 hbox hb; have n0_ := Aside0.mk (below_step (by repeat (first | (with_reducible first | exact HB.out | apply below_alloc | apply pw_below_drewN | apply below_drew1) | exact HB.out)) hb); have n1_ := Aside0.mk (hbox); have n2_ := Aside0.mk ((by rw [hg]; exact (below_size (by repeat (first | (with_reducible first | exact HB.out | apply below_alloc | apply pw_below_drewN | apply below_drew1) | exact HB.out))) : w.heap.size ≤ gb116)); have n3_ := Aside0.mk ((by rw [hg]; exact (below_size (by repeat (first | (with_reducible first | exact HB.out | apply below_alloc | apply pw_below_drewN | apply below_drew1) | exact HB.out))) : w.heap.size ≤ gb116)); clear HB; have HB := n0_; have BK116 := n1_; have GW116 := n2_; have GE116 := n3_; clear n0_ n1_ n2_ n3_; clear hb hbox hg; have hcz33_0 : w32.cell? ⟨gb116, 0, none⟩ = some (.int .i64 a0_0) := (blk_cell BK116.out 0).trans rfl; have hcz33_1 : w32.cell? ⟨gb116, 1, none⟩ = some (.bool a0_1) := (blk_cell BK116.out 1).trans rfl; have hfz33_0 := blk_frozen BK116.out 0; have hfz33_1 := blk_frozen BK116.out 1) | ((with_reducible refine gate_callee (f := 60) rfl ?_); refine goesL_ (some 11) rfl rfl Tryz.func60 (by kernel_rfl) rfl #[.agg #[.int .i64 a0_0, .bool a0_1]] rfl (by (try simp only [List.map_toArray, List.map_cons, List.map_nil]); first | done | rfl | (simp only [List.length_drop, List.length_take]; rfl)) ?_; (with_reducible refine (pack_Form_Good.calls a0_0 a0_1 false _ A3.out).mono ?_); rintro e w34 ⟨rfl, hb⟩; refine ⟨_, rfl, ?_⟩; have n0_ := Aside0.mk (blk_below (g := gb116) (o := .cells #[.int .i64 a0_0, .bool a0_1] 60 (0, 0)) (by (with_reducible repeat (first | refine blk_drewN ?_ _ | refine blk_drew ?_ | refine blk_alloc ?_ _)); exact BK116.out) hb); have n1_ := Aside0.mk (below_step (by repeat (first | (with_reducible first | exact HB.out | apply below_alloc | apply pw_below_drewN | apply below_drew1 | refine below_set ?_ GE116.out) | exact HB.out)) hb); clear BK116; clear HB; have BK116 := n0_; have HB := n1_; clear n0_ n1_; (try clear hb); (try clear hb2); (try clear hk); (try clear hi)))
    go_ret
    exact ⟨by first | rfl | (simp [errW_none, errW_some] <;> rfl) | (simp [*, errW_none, errW_some] <;> rfl), by repeat (first | (with_reducible first | exact HB.out | apply below_alloc | apply pw_below_drewN | apply below_drew1 | refine below_set ?_ GE116.out) | exact HB.out)⟩

end Go.Proofs.YtkolmgkbdhbmhaaGreatDoor.HT2

namespace Go.Proofs.YtkolmgkbdhbmhaaGreatDoor.HT2
open Go.RowKit Go.Proofs.YtkolmgkbdhbmhaaGreatDoorW.PrintWords Go.Proofs.YtkolmgkbdhbmhaaGreatDoorW.PrintLast Go.Proofs.YtkolmgkbdhbmhaaGreatDoorW.PrintMore
attribute [local go_sem] max2_int min2_int max_two min_two max_three min_three max_four min_four   -- for this text's walks alone
set_option linter.unusedVariables false
set_option linter.unusedSimpArgs false

/-! ### pack_Pack: function 22 -/
mutual
def pack_Pack.l0 : Nat → List (List Int) → List Int → Int → Int → Int → Bool → Option (List Int × Int)
  | 0, _, _, _, _, _, _ => none
  | k + 1, x1, x7, x20, x21, x149000, x149001 => if x21 < x20 then (pack_Pack.l1 k x1 x7 x21 x20 x21 x1 (x1.length : Int) 0 x149000 x149001) else (some (x7, 0))
def pack_Pack.l1 : Nat → List (List Int) → List Int → Int → Int → Int → List (List Int) → Int → Int → Int → Bool → Option (List Int × Int)
  | 0, _, _, _, _, _, _, _, _, _, _ => none
  | k + 1, x1, x7, x8, x20, x21, x24, x25, x26, x149000, x149001 => if x26 < x25 then (if 0 ≤ x26 then (if x26 < (x24.length : Int) then (if 0 ≤ x8 then (if x8 < ((rd_L1 x24 x26).length : Int) then ((pack_Form_put.f k x149000 x149001 x7 (rd (rd_L1 x24 x26) x8)).bind fun t153 => (pack_Pack.l1 k x1 t153 x8 x20 x21 x24 x25 (wrap64 (x26 + 1)) x149000 x149001)) else (none)) else (none)) else (none)) else (none)) else (pack_Pack.l0 k x1 x7 x20 (wrap64 (x21 + 1)) x149000 x149001)
end
def pack_Pack.f (k : Nat) (a0_0 : Int) (a0_1 : Bool) (l1 : List (List Int)) : Option (List Int × Int) := (pack_Check.f k a0_0 a0_1 l1).bind fun t149 => (if t149 = 0 then (if 0 < (l1.length : Int) then (pack_Pack.l0 k l1 ([] : List Int) ((rd_L1 l1 0).length : Int) 0 a0_0 a0_1) else (none)) else (some (([] : List Int), t149)))
def pack_Pack.T11 : Bool × List (List Nat × List Nat) := (true, [([], []), ([], []), ([], []), ([], []), ([2, 3], [2, 3]), ([4], [4]), ([0, 1, 5], [0, 1, 5]), ([6, 6, 0, 1, 2, 3, 4, 5, 6], [1, 6])])
def pack_Pack.B11 : List Nat := [0, 0, 0, 0, 12, 28, 63, 127]
theorem pack_Pack.tab11 : rtab .any (opsOf Tryz.f22 11) = pack_Pack.T11 := by kernel_rfl
theorem pack_Pack.bits11 : waitsOk pack_Pack.T11.2 pack_Pack.B11 = true := by kernel_rfl
set_option maxHeartbeats 8000000 in
set_option maxRecDepth 100000 in
theorem pack_Pack.calls (k : Nat) (a0_0 : Int) (a0_1 : Bool) (A1 : Option Addr) (c1 : Nat) (l1 : List (List Int)) (r1 : List Int) (r2 : Int) (w : World) (hr1 : Kd.C (Kd.slice 3 (Kd.int .i64)) w A1 l1.length l1) (hc1 : l1.length ≤ c1) (h : pack_Pack.f k a0_0 a0_1 l1 = some (r1, r2)) :
    Calls Tryz.prog 22 #[.agg #[.int .i64 a0_0, .bool a0_1], .slice A1 l1.length c1] w fun e w' => ∃ v0_ : Value, e = .returned (.tuple #[v0_, .int .i64 r2]) ∧ Kd.R (Kd.int .u8) 5 w' w.heap.size (fun _ => True) v0_ r1 ∧ Below w.heap.size w w' := by
  have hu60 := Tryz.underlying60
  have HR1 := Aside0.mk hr1
  have HC1 := Aside0.mk hc1
  clear hr1 hc1
  have HB := Aside0.mk (Below.refl w.heap.size w)
  have H : ((pack_Check.f k a0_0 a0_1 l1).bind fun t149 => (if t149 = 0 then (if 0 < (l1.length : Int) then (pack_Pack.l0 k l1 ([] : List Int) ((rd_L1 l1 0).length : Int) 0 a0_0 a0_1) else (none)) else (some (([] : List Int), t149)))) = some (r1, r2) := h
  clear h
  replace H := Option.bind_eq_some_iff.mp H
  obtain ⟨t149, A30, H⟩ := H
  replace H : (if t149 = 0 then (if 0 < (l1.length : Int) then (pack_Pack.l0 k l1 ([] : List Int) ((rd_L1 l1 0).length : Int) 0 a0_0 a0_1) else (none)) else (some (([] : List Int), t149))) = some (r1, r2) := H
  have A3 := Aside0.mk A30
  clear A30
  by_cases c4 : t149 = 0
  · rw [if_pos c4] at H
    have c4b0 : (t149 == 0) = true := beq_iff_eq.mpr c4
    have c4b1 : (t149 != 0) = false := bne_eq_false_iff_eq.mpr c4
    clear c4
    by_cases c5 : 0 < (l1.length : Int)
    · rw [if_pos c5] at H
      have c5b0 : decide (0 < (l1.length : Int)) = true := decide_eq_true c5
      have c5b1 : decide (0 < l1.length) = true := decide_eq_true (by omega)
      clear c5
      have H' := Aside0.mk H
      clear H
      go_enter Tryz.func22, Tryz.ntmps22
      go_wp2_with (first | ((with_reducible refine gate_dst (N := 2) rfl ?_); refine box_event ?hg (N := 2) ?hd (cs := #[.int .i64 a0_0, .bool a0_1]) (t := 60) ?hr ?_; (case hd => rfl); (case hg => rfl); (case hr => first | (go_simp; done) | (go_simp; rfl)); intro gb148 hg w6 hbox hb; have n0_ := Aside0.mk (below_step (by repeat (first | (with_reducible first | exact HB.out | apply below_alloc | apply pw_below_drewN | apply below_drew1) | exact HB.out)) hb); have n1_ := Aside0.mk (hbox); have n2_ := Aside0.mk ((by rw [hg]; exact (below_size (by repeat (first | (with_reducible first | exact HB.out | apply below_alloc | apply pw_below_drewN | apply below_drew1) | exact HB.out))) : w.heap.size ≤ gb148)); have n3_ := Aside0.mk ((by rw [hg]; exact (below_size (by repeat (first | (with_reducible first | exact HB.out | apply below_alloc | apply pw_below_drewN | apply below_drew1) | exact HB.out))) : w.heap.size ≤ gb148)); clear HB; have HB := n0_; have BK148 := n1_; have GW148 := n2_; have GE148 := n3_; clear n0_ n1_ n2_ n3_; clear hb hbox hg; have hcz7_0 : w6.cell? ⟨gb148, 0, none⟩ = some (.int .i64 a0_0) := (blk_cell BK148.out 0).trans rfl; have hcz7_1 : w6.cell? ⟨gb148, 1, none⟩ = some (.bool a0_1) := (blk_cell BK148.out 1).trans rfl; have hfz7_0 := blk_frozen BK148.out 0; have hfz7_1 := blk_frozen BK148.out 1) | ((with_reducible refine gate_callee (f := 35) rfl ?_); refine goesL_ (some 13) rfl rfl Tryz.func35 (by kernel_rfl) rfl #[.agg #[.int .i64 a0_0, .bool a0_1], .slice A1 l1.length c1] rfl (by (try simp only [List.map_toArray, List.map_cons, List.map_nil]); first | done | rfl | (simp only [List.length_drop, List.length_take]; rfl)) ?_; (with_reducible refine (pack_Check.calls k a0_0 a0_1 _ _ l1 t149 _ ?side1 ?side2 A3.out).mono ?_); (case side1 => repeat (first | exact (Kd.C_below HR1.out HB.out) | (with_reducible refine Kd.C_alloc ?_ _) | (with_reducible refine Kd.C_drewN ?_ _) | (with_reducible refine Kd.C_drew ?_))); (case side2 => exact HC1.out); rintro e w8 ⟨rfl, hb⟩; refine ⟨_, rfl, ?_⟩; have n0_ := Aside0.mk (blk_below (g := gb148) (o := .cells #[.int .i64 a0_0, .bool a0_1] 60 (0, 0)) (by (with_reducible repeat (first | refine blk_drewN ?_ _ | refine blk_drew ?_ | refine blk_alloc ?_ _)); exact BK148.out) hb); have n1_ := Aside0.mk (below_step (by repeat (first | (with_reducible first | exact HB.out | apply below_alloc | apply pw_below_drewN | apply below_drew1 | refine below_set ?_ GE148.out) | exact HB.out)) hb); clear BK148; clear HB; have BK148 := n0_; have HB := n1_; clear n0_ n1_; (try clear hb); (try clear hb2); (try clear hk); (try clear hi); have p150 : 0 ≤ (0 : Int) := (by omega); have q150 : 0 < (l1.length : Int) := of_decide_eq_true (by first | (with_reducible assumption) | assumption); obtain ⟨ad150, A150_0, c150_0, e150, hx150_0, hl150_0, hi150_0⟩ := at_L1 HR1.out 0 p150 q150; cases e150; have qi150 : (0 < l1.length) = True := eq_true (by omega); (try rw [show ((0 : Int)).toNat = 0 from rfl] at hx150_0); (try rw [Addr.add_zero'] at hx150_0); replace hx150_0 := (HB.out.cell (World.block_lt_of_cell? w _ hx150_0)).trans hx150_0; have HR150_0 := Aside0.mk hi150_0; have HC150_0 := Aside0.mk hl150_0; clear hi150_0 hl150_0; replace p150 := eq_true p150; replace q150 := eq_true q150))
      go_loopg [7, 21] k (fun kq v7 v21 w' => ∃ (x7_1 : List Int) (x21_1 : Int), v21 = .int .i64 x21_1 ∧ Aside0 (pack_Pack.l0 kq l1 x7_1 ((rd_L1 l1 0).length : Int) x21_1 a0_0 a0_1 = some (r1, r2)) ∧ Aside0 (kq ≤ k) ∧ Aside0 (Kd.R (Kd.int .u8) 5 w' w.heap.size (fun _ => True) v7 x7_1) ∧ Aside0 (w'.heap[gb148]? = some (.cells #[.int .i64 a0_0, .bool a0_1] 60 (0, 0))) ∧ Aside0 (Below w.heap.size w w'))
      case atStart => exact ⟨(([] : List Int)), (0), (by first | rfl | (simp; done) | (simp [*]; done)), H', ⟨Nat.le_refl _⟩, ⟨by first | exact Kd.R_nil _ _ _ _ _ | exact Kd.N_nil _ _ _ _ _ | exact Kd.V_nil _ _ _ _ _ | exact Kd.Q_nil _ _ _ _ _ | exact Kd.S_nil _ _ _ _ _⟩, ⟨by (with_reducible repeat (first | refine blk_drewN ?_ _ | refine blk_drew ?_ | refine blk_alloc ?_ _)); exact BK148.out⟩, ⟨by repeat (first | (with_reducible first | exact HB.out | apply below_alloc | apply pw_below_drewN | apply below_drew1 | refine below_set ?_ GE148.out) | exact HB.out)⟩⟩
      case round =>
        clear H'
        try clear c1
        try clear p1
        try clear q1
        try clear hx1
        try clear qi1
        try clear c2
        try clear p2
        try clear c3
        try clear c4
        try clear c4b0
        try clear c4b1
        try clear c5
        try clear c5b0
        try clear c5b1
        try clear hcz7_0
        try clear hcz7_1
        try clear hfz7_0
        try clear hfz7_1
        try clear hx150_0
        try clear p150
        try clear q150
        obtain ⟨x7_1, x21_1, rfl, HA, HK1, HO_7, BK148, HB⟩ := hrel
        cases gk with
        | zero => exact absurd HA.out (by simp [pack_Pack.l0])
        | succ k1 =>
          have H := HA.out
          clear HA
          simp only [pack_Pack.l0] at H
          by_cases c9 : x21_1 < ((rd_L1 l1 0).length : Int)
          · rw [if_pos c9] at H
            have c9b0 : decide (x21_1 < ((rd_L1 l1 0).length : Int)) = true := decide_eq_true c9
            clear c9
            have H' := Aside0.mk H
            clear H
            go_wp2
            go_loopg [7, 26] k1 (fun kq v7 v26 w' => ∃ (x7_2 : List Int) (x26_2 : Int), v26 = .int .i64 x26_2 ∧ Aside0 (pack_Pack.l1 kq l1 x7_2 x21_1 ((rd_L1 l1 0).length : Int) x21_1 l1 (l1.length : Int) x26_2 a0_0 a0_1 = some (r1, r2)) ∧ Aside0 (kq ≤ k1) ∧ Aside0 (Kd.R (Kd.int .u8) 5 w' w.heap.size (fun _ => True) v7 x7_2) ∧ Aside0 (w'.heap[gb148]? = some (.cells #[.int .i64 a0_0, .bool a0_1] 60 (0, 0))) ∧ Aside0 (Below w.heap.size w w'))
            case atStart => exact ⟨(x7_1), (0), (by first | rfl | (simp; done) | (simp [*]; done)), H', ⟨Nat.le_refl _⟩, ⟨by (with_reducible repeat (first | apply Kd.R_alloc | apply Kd.R_drewN | apply Kd.R_drew)); exact HO_7.out⟩, ⟨by (with_reducible repeat (first | refine blk_drewN ?_ _ | refine blk_drew ?_ | refine blk_alloc ?_ _)); exact BK148.out⟩, ⟨by repeat (first | (with_reducible first | exact HB.out | apply below_alloc | apply pw_below_drewN | apply below_drew1 | refine below_set ?_ GE148.out) | exact HB.out)⟩⟩
            case round =>
              clear H'
              try clear c1
              try clear p1
              try clear q1
              try clear hx1
              try clear qi1
              try clear c2
              try clear p2
              try clear c3
              try clear c4
              try clear c4b0
              try clear c4b1
              try clear c5
              try clear c5b0
              try clear c5b1
              try clear c9
              try clear c9b0
              try clear hcz7_0
              try clear hcz7_1
              try clear hfz7_0
              try clear hfz7_1
              try clear hx150_0
              try clear p1
              try clear p150
              try clear p2
              try clear q1
              try clear q150
              obtain ⟨x7_2, x26_2, rfl, HA, HK2, HO_7, BK148, HB⟩ := hrel
              cases gk with
              | zero => exact absurd HA.out (by simp [pack_Pack.l1])
              | succ k2 =>
                have H := HA.out
                clear HA
                simp only [pack_Pack.l1] at H
                by_cases c10 : x26_2 < (l1.length : Int)
                · rw [if_pos c10] at H
                  have c10b0 : decide (x26_2 < (l1.length : Int)) = true := decide_eq_true c10
                  clear c10
                  by_cases c11 : 0 ≤ x26_2
                  · rw [if_pos c11] at H
                    have c11b0 : decide (0 ≤ x26_2) = true := decide_eq_true c11
                    clear c11
                    by_cases c12 : x26_2 < (l1.length : Int)
                    · rw [if_pos c12] at H
                      have c12b0 : decide (x26_2 < (l1.length : Int)) = true := decide_eq_true c12
                      clear c12
                      by_cases c13 : 0 ≤ x21_1
                      · rw [if_pos c13] at H
                        have c13b0 : decide (0 ≤ x21_1) = true := decide_eq_true c13
                        clear c13
                        by_cases c14 : x21_1 < ((rd_L1 l1 x26_2).length : Int)
                        · rw [if_pos c14] at H
                          have c14b0 : decide (x21_1 < ((rd_L1 l1 x26_2).length : Int)) = true := decide_eq_true c14
                          clear c14
                          replace H := Option.bind_eq_some_iff.mp H
                          obtain ⟨t153, A150, H⟩ := H
                          replace H : (pack_Pack.l1 k2 l1 t153 x21_1 ((rd_L1 l1 0).length : Int) x21_1 l1 (l1.length : Int) (wrap64 (x26_2 + 1)) a0_0 a0_1) = some (r1, r2) := H
                          have A15 := Aside0.mk A150
                          clear A150
                          have H' := Aside0.mk H
                          clear H
                          have p151 : 0 ≤ (x26_2 : Int) := of_decide_eq_true (by first | (with_reducible assumption) | assumption)
                          have q151 : x26_2 < (l1.length : Int) := of_decide_eq_true (by first | (with_reducible assumption) | assumption)
                          obtain ⟨ad151, A151_0, c151_0, e151, hx151_0, hl151_0, hi151_0⟩ := at_L1 HR1.out x26_2 p151 q151
                          obtain rfl : ad150 = ad151 := (by injection e151)
                          replace hx151_0 := (HB.out.cell (World.block_lt_of_cell? w _ hx151_0)).trans hx151_0
                          have HR151_0 := Aside0.mk hi151_0
                          have HC151_0 := Aside0.mk hl151_0
                          clear hi151_0 hl151_0
                          replace p151 := eq_true p151
                          replace q151 := eq_true q151
                          try go_wp2
                          have n0_ := Aside0.mk (Kd.R_drew HO_7.out)
                          have n1_ := Aside0.mk (blk_drew BK148.out)
                          have n2_ := Aside0.mk (below_drew1 HB.out)
                          clear HO_7
                          clear BK148
                          clear HB
                          have HO_7 := n0_
                          have BK148 := n1_
                          have HB := n2_
                          clear n0_ n1_ n2_
                          have p152 : 0 ≤ (x21_1 : Int) := of_decide_eq_true (by first | (with_reducible assumption) | assumption)
                          have q152 : x21_1 < ((rd_L1 l1 x26_2).length : Int) := of_decide_eq_true (by first | (with_reducible assumption) | assumption)
                          obtain ⟨ad152, e152, hx152_0⟩ := Kd.at_int HR151_0.out x21_1 p152 q152
                          have hw152_0 := hx152_0
                          cases e152
                          replace hx152_0 := (HB.out.cell (World.block_lt_of_cell? w _ hx152_0)).trans hx152_0
                          replace p152 := eq_true p152
                          replace q152 := eq_true q152
                          obtain ⟨Ao17, co17, eo17⟩ := Kd.R_slice HO_7.out
                          (first | subst eo17 | (injection eo17 with f1_ f2_ f3_; have f4_ := f1_.symm; have f5_ := f3_.symm; clear f1_ f2_ f3_; subst f4_; subst f5_))
                          refine start_ (n := 8) (S := fun w' => w'.cell? ⟨gb148, 0, none⟩ = some (.int .i64 a0_0) ∧ w'.cell? ⟨gb148, 1, none⟩ = some (.bool a0_1) ∧ w'.cell? (ad152.add (x21_1).toNat) = some (.int .i64 (rd (rd_L1 l1 x26_2) x21_1))) (ds := []) #[false, false, false, false, false, false, false, false] (by kernel_rfl) rfl rfl ⟨(blk_cell BK148.out 0).trans rfl, (blk_cell BK148.out 1).trans rfl, ((HB.out.cell (World.block_lt_of_cell? w _ hw152_0)).trans hw152_0)⟩ (fun hHeld => ?_); refine with_tabW pack_Pack.tab11 pack_Pack.bits11 (fun HT_ HW_ => ?_)
                          generalize wr.drew = w16 at HO_7 BK148 HB hx152_0 hHeld ⊢
                          refine pure_ (i := 1) (N := some 31) (v := ?_) (a' := ?_) #[false, true, false, false, false, false, false, false] rfl rfl (any_of HT_.out (by kernel_rfl)) (fun _ _ _ h => h) (Or.inl ⟨by rfl, ?_⟩) ?_ ?_
                          rotate_left
                          · intro w'
                            go_simp
                            with_reducible rfl
                          rotate_left
                          · simp only [Act.put, List.setIfInBounds_toArray, List.set_cons_zero, List.set_cons_succ, i64_w, i32_w]
                            rfl
                          refine pure_ (i := 2) (N := some 32) (v := ?_) (a' := ?_) #[false, true, true, false, false, false, false, false] rfl rfl (any_of HT_.out (by kernel_rfl)) (fun _ _ _ h => h) (Or.inl ⟨by rfl, ?_⟩) ?_ ?_
                          rotate_left
                          · intro w'
                            go_simp
                            with_reducible rfl
                          rotate_left
                          · simp only [Act.put, List.setIfInBounds_toArray, List.set_cons_zero, List.set_cons_succ, i64_w, i32_w]
                            rfl
                          refine pure_ (i := 3) (N := some 33) (v := ?_) (a' := ?_) #[false, true, true, true, false, false, false, false] rfl rfl (any_of HT_.out (by kernel_rfl)) (fun _ _ _ h => h) (Or.inl ⟨by rfl, ?_⟩) ?_ ?_
                          rotate_left
                          · intro w'
                            go_simp
                            with_reducible rfl
                          rotate_left
                          · simp only [Act.put, List.setIfInBounds_toArray, List.set_cons_zero, List.set_cons_succ, i64_w, i32_w]
                            rfl
                          refine pure_ (i := 4) (N := some 34) (v := ?_) (a' := ?_) #[false, true, true, true, true, false, false, false] rfl rfl (any_of HT_.out (by kernel_rfl)) (fun _ _ _ h => h) (Or.inl ⟨by rfl, ?_⟩) ?_ ?_
                          rotate_left
                          · intro w'
                            go_simp
                            with_reducible rfl
                          rotate_left
                          · simp only [Act.put, List.setIfInBounds_toArray, List.set_cons_zero, List.set_cons_succ, i64_w, i32_w]
                            rfl
                          refine take_ (i := 0) (N := some 30) (v := ?_) (a' := ?_) #[true, true, true, true, true, false, false, false] rfl rfl (take_ofW HT_.out HW_.out (by kernel_rfl)) (fun _ _ _ h => h) (Or.inl ⟨by rfl, ?_⟩) hHeld ?_ ?_
                          rotate_left
                          · rintro w' ⟨s0, s1, s2⟩
                            go_simp
                            with_reducible rfl
                          rotate_left
                          · simp only [Act.put, List.setIfInBounds_toArray, List.set_cons_zero, List.set_cons_succ, i64_w, i32_w]
                            rfl
                          refine take_ (i := 5) (N := some 35) (v := ?_) (a' := ?_) #[true, true, true, true, true, true, false, false] rfl rfl (take_ofW HT_.out HW_.out (by kernel_rfl)) (fun _ _ _ h => h) (Or.inl ⟨by rfl, ?_⟩) hHeld ?_ ?_
                          rotate_left
                          · rintro w' ⟨s0, s1, s2⟩
                            go_simp
                            with_reducible rfl
                          rotate_left
                          · simp only [Act.put, List.setIfInBounds_toArray, List.set_cons_zero, List.set_cons_succ, i64_w, i32_w]
                            rfl
                          refine one_ (i := 6) (N := some 36) #[true, true, true, true, true, true, true, false] rfl rfl (one_of HT_.out (by kernel_rfl)) (by decide) (fun K hK => ?_)
                          refine goes_ Tryz.func49 (by kernel_rfl) rfl #[.agg #[.int .i64 a0_0, .bool a0_1], .slice Ao17 x7_2.length co17, .int .i64 (rd (rd_L1 l1 x26_2) x21_1)] (by rfl) rfl rfl (by (try simp only [List.map_toArray, List.map_cons, List.map_nil]); first | done | rfl | (simp only [List.length_drop, List.length_take]; rfl)) ?_
                          with_reducible refine (pack_Form_put.calls k2 a0_0 a0_1 (fun k_ => some k_ = (.slice Ao17 x7_2.length co17 : Value).ownBlock) (.slice Ao17 x7_2.length co17) x7_2 (rd (rd_L1 l1 x26_2) x21_1) t153 w _ ?side1 ?side2 A15.out).mono ?_
                          (case side1 => repeat (first | (with_reducible first | exact HB.out | apply below_alloc | apply pw_below_drewN | apply below_drew1 | refine below_set ?_ GE148.out) | exact HB.out))
                          (case side2 => exact Kd.R_tight rfl HO_7.out)
                          rintro e w18 ⟨v154, rfl, ho0, hb, hkp⟩
                          refine ⟨_, rfl, ?_⟩
                          have n0_ := Aside0.mk (blk_kept (by (with_reducible repeat (first | refine blk_drewN ?_ _ | refine blk_drew ?_ | refine blk_alloc ?_ _)); exact BK148.out) hkp (fun hs_ => (fun e_ => (Kd.R_ne HO_7.out BK148.out (by decide)) e_) hs_))
                          have n1_ := Aside0.mk (Kd.R_mono (ok' := fun k_ => True) ho0 (fun k_ hk_ => trivial))
                          have n2_ := Aside0.mk (hb)
                          clear BK148
                          clear HB
                          clear HO_7
                          have BK148 := n0_
                          have HO155 := n1_
                          have HB := n2_
                          clear n0_ n1_ n2_
                          (try clear hb)
                          (try clear hkp)
                          (try clear ho0)
                          refine hK.out _ _ ⟨(blk_cell BK148.out 0).trans rfl, (blk_cell BK148.out 1).trans rfl, ((HB.out.cell (World.block_lt_of_cell? w _ hw152_0)).trans hw152_0)⟩ (fun hHeld => ?_)
                          clear hK K
                          refine norm_ (a' := ?_) ?_ ?_
                          rotate_left
                          · show Act.put _ (some 36) _ = _
                            simp only [Act.put, List.setIfInBounds_toArray, List.set_cons_zero, List.set_cons_succ, i64_w, i32_w]
                            rfl
                          refine pure_ (i := 7) (N := some 7) (v := ?_) (a' := ?_) #[true, true, true, true, true, true, true, true] rfl rfl (any_of HT_.out (by kernel_rfl)) (fun _ _ _ h => h) (Or.inl ⟨by rfl, ?_⟩) ?_ ?_
                          rotate_left
                          · intro w'
                            go_simp
                            with_reducible rfl
                          rotate_left
                          · simp only [Act.put, List.setIfInBounds_toArray, List.set_cons_zero, List.set_cons_succ, i64_w, i32_w]
                            rfl
                          refine done_ (done_of HT_.out (by kernel_rfl)) ?_
                          try go_wp2
                          go_roundg k2
                          case measure => have := HK1.out; have := HK2.out; omega
                          case rel => exact ⟨(t153), (wrap64 (x26_2 + 1)), (by first | rfl | (simp; done) | (simp [*]; done)), H', ⟨by have := HK1.out; have := HK2.out; omega⟩, ⟨by (with_reducible repeat (first | apply Kd.R_alloc | apply Kd.R_drewN | apply Kd.R_drew)); exact HO155.out⟩, ⟨by (with_reducible repeat (first | refine blk_drewN ?_ _ | refine blk_drew ?_ | refine blk_alloc ?_ _)); exact BK148.out⟩, ⟨by repeat (first | (with_reducible first | exact HB.out | apply below_alloc | apply pw_below_drewN | apply below_drew1 | refine below_set ?_ GE148.out) | exact HB.out)⟩⟩
                        · rw [if_neg c14] at H
                          exact absurd H (by simp)
                      · rw [if_neg c13] at H
                        exact absurd H (by simp)
                    · rw [if_neg c12] at H
                      exact absurd H (by simp)
                  · rw [if_neg c11] at H
                    exact absurd H (by simp)
                · rw [if_neg c10] at H
                  have c10b0 : decide (x26_2 < (l1.length : Int)) = false := decide_eq_false c10
                  clear c10
                  have H' := Aside0.mk H
                  clear H
                  go_wp2
                  go_roundg k2
                  case measure => have := HK1.out; have := HK2.out; omega
                  case rel => exact ⟨(x7_2), (wrap64 (x21_1 + 1)), (by first | rfl | (simp; done) | (simp [*]; done)), H', ⟨by have := HK1.out; have := HK2.out; omega⟩, ⟨by (with_reducible repeat (first | apply Kd.R_alloc | apply Kd.R_drewN | apply Kd.R_drew)); exact HO_7.out⟩, ⟨by (with_reducible repeat (first | refine blk_drewN ?_ _ | refine blk_drew ?_ | refine blk_alloc ?_ _)); exact BK148.out⟩, ⟨by repeat (first | (with_reducible first | exact HB.out | apply below_alloc | apply pw_below_drewN | apply below_drew1 | refine below_set ?_ GE148.out) | exact HB.out)⟩⟩
          · rw [if_neg c9] at H
            have c9b0 : decide (x21_1 < ((rd_L1 l1 0).length : Int)) = false := decide_eq_false c9
            clear c9
            simp only [Option.some.injEq, Prod.mk.injEq] at H
            obtain ⟨rfl, rfl⟩ := H
            go_wp2
            go_ret2
            exact ⟨_, by first | rfl | (simp [errW_none, errW_some] <;> rfl) | (simp [*, errW_none, errW_some] <;> rfl), by (with_reducible repeat (first | apply Kd.R_alloc | apply Kd.R_drewN | apply Kd.R_drew)); exact HO_7.out, by repeat (first | (with_reducible first | exact HB.out | apply below_alloc | apply pw_below_drewN | apply below_drew1 | refine below_set ?_ GE148.out) | exact HB.out)⟩
    · rw [if_neg c5] at H
      exact absurd H (by simp)
  · rw [if_neg c4] at H
    have c4b0 : (t149 == 0) = false := beq_eq_false_iff_ne.mpr c4
    have c4b1 : (t149 != 0) = true := bne_iff_ne.mpr c4
    simp only [Option.some.injEq, Prod.mk.injEq] at H
    obtain ⟨rfl, rfl⟩ := H
    go_enter Tryz.func22, Tryz.ntmps22
    go_wp2_with (first | ((with_reducible refine gate_dst (N := 2) rfl ?_); refine box_event ?hg (N := 2) ?hd (cs := #[.int .i64 a0_0, .bool a0_1]) (t := 60) ?hr ?_; (case hd => rfl); (case hg => rfl); (case hr => first | (go_simp; done) | (go_simp; rfl)); intro gb148 hg w19 hbox hb; have n0_ := Aside0.mk (below_step (by repeat (first | (with_reducible first | exact HB.out | apply below_alloc | apply pw_below_drewN | apply below_drew1) | exact HB.out)) hb); have n1_ := Aside0.mk (hbox); have n2_ := Aside0.mk ((by rw [hg]; exact (below_size (by repeat (first | (with_reducible first | exact HB.out | apply below_alloc | apply pw_below_drewN | apply below_drew1) | exact HB.out))) : w.heap.size ≤ gb148)); have n3_ := Aside0.mk ((by rw [hg]; exact (below_size (by repeat (first | (with_reducible first | exact HB.out | apply below_alloc | apply pw_below_drewN | apply below_drew1) | exact HB.out))) : w.heap.size ≤ gb148)); clear HB; have HB := n0_; have BK148 := n1_; have GW148 := n2_; have GE148 := n3_; clear n0_ n1_ n2_ n3_; clear hb hbox hg; have hcz20_0 : w19.cell? ⟨gb148, 0, none⟩ = some (.int .i64 a0_0) := (blk_cell BK148.out 0).trans rfl; have hcz20_1 : w19.cell? ⟨gb148, 1, none⟩ = some (.bool a0_1) := (blk_cell BK148.out 1).trans rfl; have hfz20_0 := blk_frozen BK148.out 0; have hfz20_1 := blk_frozen BK148.out 1) | ((with_reducible refine gate_callee (f := 35) rfl ?_); refine goesL_ (some 13) rfl rfl Tryz.func35 (by kernel_rfl) rfl #[.agg #[.int .i64 a0_0, .bool a0_1], .slice A1 l1.length c1] rfl (by (try simp only [List.map_toArray, List.map_cons, List.map_nil]); first | done | rfl | (simp only [List.length_drop, List.length_take]; rfl)) ?_; (with_reducible refine (pack_Check.calls k a0_0 a0_1 _ _ l1 t149 _ ?side1 ?side2 A3.out).mono ?_); (case side1 => repeat (first | exact (Kd.C_below HR1.out HB.out) | (with_reducible refine Kd.C_alloc ?_ _) | (with_reducible refine Kd.C_drewN ?_ _) | (with_reducible refine Kd.C_drew ?_))); (case side2 => exact HC1.out); rintro e w21 ⟨rfl, hb⟩; refine ⟨_, rfl, ?_⟩; have n0_ := Aside0.mk (blk_below (g := gb148) (o := .cells #[.int .i64 a0_0, .bool a0_1] 60 (0, 0)) (by (with_reducible repeat (first | refine blk_drewN ?_ _ | refine blk_drew ?_ | refine blk_alloc ?_ _)); exact BK148.out) hb); have n1_ := Aside0.mk (below_step (by repeat (first | (with_reducible first | exact HB.out | apply below_alloc | apply pw_below_drewN | apply below_drew1 | refine below_set ?_ GE148.out) | exact HB.out)) hb); clear BK148; clear HB; have BK148 := n0_; have HB := n1_; clear n0_ n1_; (try clear hb); (try clear hb2); (try clear hk); (try clear hi)))
    go_ret2
    exact ⟨_, by first | rfl | (simp [errW_none, errW_some] <;> rfl) | (simp [*, errW_none, errW_some] <;> rfl), by first | exact Kd.R_nil _ _ _ _ _ | exact Kd.N_nil _ _ _ _ _ | exact Kd.V_nil _ _ _ _ _ | exact Kd.Q_nil _ _ _ _ _ | exact Kd.S_nil _ _ _ _ _, by repeat (first | (with_reducible first | exact HB.out | apply below_alloc | apply pw_below_drewN | apply below_drew1 | refine below_set ?_ GE148.out) | exact HB.out)⟩

end Go.Proofs.YtkolmgkbdhbmhaaGreatDoor.HT2

namespace Go.Proofs.YtkolmgkbdhbmhaaGreatDoor.HT2
open Go.RowKit Go.Proofs.YtkolmgkbdhbmhaaGreatDoorW.PrintWords Go.Proofs.YtkolmgkbdhbmhaaGreatDoorW.PrintLast Go.Proofs.YtkolmgkbdhbmhaaGreatDoorW.PrintMore
attribute [local go_sem] max2_int min2_int max_two min_two max_three min_three max_four min_four   -- for this text's walks alone
set_option linter.unusedVariables false
set_option linter.unusedSimpArgs false

/-! ### sackbutref16_Good: function 12, by hand -/
structure AsideV (p : Prop) : Prop where mk :: (out : p)
def sackbutref16_Good.f (a0_0 : Int) (a0_1 : Int) (a0_2 : Bool) (a0_3 : Int) (a0_4 : Int) (a0_5 : Int) (a0_6 : Int) : Option Bool := some (!decide (a0_0 < 1) && (!decide (8 < a0_0) && ((a0_1 == 8 || (a0_1 == 16 || a0_1 == 24)) && (!decide (a0_3 < 1) && (!decide (16777215 < a0_3) && (decide (16 ≤ a0_4) && (decide (a0_4 ≤ 1024) && (Int.tmod a0_4 16 == 0 && (decide (0 ≤ a0_5) && (decide (a0_5 ≤ 255) && (decide (0 ≤ a0_6) && decide (a0_6 ≤ 1048576))))))))))))
set_option maxRecDepth 100000 in
set_option maxHeartbeats 4000000 in
theorem sackbutref16_Good.calls (a0_0 : Int) (a0_1 : Int) (a0_2 : Bool) (a0_3 : Int) (a0_4 : Int) (a0_5 : Int) (a0_6 : Int) (r : Bool) (w : World) (h : sackbutref16_Good.f a0_0 a0_1 a0_2 a0_3 a0_4 a0_5 a0_6 = some r) :
    Calls Tryz.prog 12 #[.agg #[.int .i64 a0_0, .int .i64 a0_1, .bool a0_2, .int .i64 a0_3, .int .i64 a0_4, .int .i64 a0_5, .int .i64 a0_6]] w fun e w' => e = .returned (.bool r) ∧ Below w.heap.size w w' := by
  have hu23 := Tryz.underlying23
  have key : ∀ (b1 b8 c8 c16 c24 d1 d2 e1 e2 m k1 k2 i1 i2 : Bool), decide (a0_0 < 1) = b1 → decide (8 < a0_0) = b8 → (a0_1 == 8) = c8 → (a0_1 == 16) = c16 → (a0_1 == 24) = c24 → decide (a0_3 < 1) = d1 → decide (16777215 < a0_3) = d2 → decide (16 ≤ a0_4) = e1 → decide (a0_4 ≤ 1024) = e2 → (Int.tmod a0_4 16 == 0) = m → decide (0 ≤ a0_5) = k1 → decide (a0_5 ≤ 255) = k2 → decide (0 ≤ a0_6) = i1 → decide (a0_6 ≤ 1048576) = i2 →
      Calls Tryz.prog 12 #[.agg #[.int .i64 a0_0, .int .i64 a0_1, .bool a0_2, .int .i64 a0_3, .int .i64 a0_4, .int .i64 a0_5, .int .i64 a0_6]] w fun e w' => e = .returned (.bool (!b1 && (!b8 && ((c8 || (c16 || c24)) && (!d1 && (!d2 && (e1 && (e2 && (m && (k1 && (k2 && (i1 && i2)))))))))))) ∧ Below w.heap.size w w' := by
    intro b1 b8 c8 c16 c24 d1 d2 e1 e2 m k1 k2 i1 i2 hb1 hb8 hc8 hc16 hc24 hd1 hd2 he1 he2 hm hk1 hk2 hi1 hi2
    have nc8 : (a0_1 != 8) = !c8 := by rw [bne, hc8]
    have nc16 : (a0_1 != 16) = !c16 := by rw [bne, hc16]
    have nc24 : (a0_1 != 24) = !c24 := by rw [bne, hc24]
    go_enter Tryz.func12, Tryz.ntmps12
    go_upto_region 1 with (((with_reducible refine gate_dst (N := 1) rfl ?_); refine box_event ?hg (N := 1) ?hd (cs := #[.int .i64 a0_0, .int .i64 a0_1, .bool a0_2, .int .i64 a0_3, .int .i64 a0_4, .int .i64 a0_5, .int .i64 a0_6]) (t := 23) ?hr ?_; (case hd => rfl); (case hg => rfl); (case hr => first | (go_simp; done) | (go_simp; rfl)); intro g1 hg1 wx hbox1 hb1; clear hg1; have HX := AsideV.mk hbox1; have HB := AsideV.mk hb1; have f0 := (blk_cell HX.out 0).trans rfl; have f1 := (blk_cell HX.out 1).trans rfl; have f2 := (blk_cell HX.out 2).trans rfl; have f3 := (blk_cell HX.out 3).trans rfl; have f4 := (blk_cell HX.out 4).trans rfl; have f5 := (blk_cell HX.out 5).trans rfl; have f6 := (blk_cell HX.out 6).trans rfl; clear hbox1 hb1))
    cases b1 with
    | true => (go_wp2; go_ret; exact ⟨by rfl, HB.out⟩)
    | false =>
    cases b8 with
    | true => (go_wp2; go_ret; exact ⟨by rfl, HB.out⟩)
    | false =>
    have hcc : (c8 = true) ∨ (c8 = false ∧ c16 = true) ∨ (c8 = false ∧ c16 = false ∧ c24 = true) ∨ (c8 = false ∧ c16 = false ∧ c24 = false) := by cases c8 <;> cases c16 <;> cases c24 <;> simp
    rcases hcc with rfl | ⟨rfl, rfl⟩ | ⟨rfl, rfl, rfl⟩ | ⟨rfl, rfl, rfl⟩
    rotate_left 3
    · (go_wp2; go_ret; exact ⟨by rfl, HB.out⟩)
    all_goals
      cases d1 with
      | true => (go_wp2; go_ret; exact ⟨by rfl, HB.out⟩)
      | false =>
      cases d2 with
      | true => (go_wp2; go_ret; exact ⟨by rfl, HB.out⟩)
      | false =>
      cases e1 with
      | false => (go_wp2; go_ret; exact ⟨by rfl, HB.out⟩)
      | true =>
      cases e2 with
      | false => (go_wp2; go_ret; exact ⟨by rfl, HB.out⟩)
      | true =>
      cases m with
      | false => (go_wp2; go_ret; exact ⟨by rfl, HB.out⟩)
      | true =>
      cases k1 with
      | false => (go_wp2; go_ret; exact ⟨by rfl, HB.out⟩)
      | true =>
      cases k2 with
      | false => (go_wp2; go_ret; exact ⟨by rfl, HB.out⟩)
      | true =>
      cases i1 with
      | false => (go_wp2; go_ret; exact ⟨by rfl, HB.out⟩)
      | true =>
      (go_wp2; go_ret; exact ⟨by rfl, HB.out⟩)
  refine (key _ _ _ _ _ _ _ _ _ _ _ _ _ _ rfl rfl rfl rfl rfl rfl rfl rfl rfl rfl rfl rfl rfl rfl).mono (fun e w' hw => ⟨?_, hw.2⟩)
  rw [hw.1]
  congr 2
  exact Option.some.inj h

end Go.Proofs.YtkolmgkbdhbmhaaGreatDoor.HT2

namespace Go.Proofs.YtkolmgkbdhbmhaaGreatDoor.HT2
open Go.RowKit Go.Proofs.YtkolmgkbdhbmhaaGreatDoorW.PrintWords Go.Proofs.YtkolmgkbdhbmhaaGreatDoorW.PrintLast Go.Proofs.YtkolmgkbdhbmhaaGreatDoorW.PrintMore
attribute [local go_sem] max2_int min2_int max_two min_two max_three min_three max_four min_four   -- for this text's walks alone
set_option linter.unusedVariables false
set_option linter.unusedSimpArgs false

/-! ### sackbutref18_form: function 14 -/
def sackbutref18_form.f (a0_0 : Int) (a0_1 : Int) (a0_2 : Bool) (a0_3 : Int) (a0_4 : Int) (a0_5 : Int) (a0_6 : Int) : Option (Int × Bool) := some (a0_1, a0_2)
set_option maxHeartbeats 8000000 in
set_option maxRecDepth 100000 in
theorem sackbutref18_form.calls (a0_0 : Int) (a0_1 : Int) (a0_2 : Bool) (a0_3 : Int) (a0_4 : Int) (a0_5 : Int) (a0_6 : Int) (r1 : Int) (r2 : Bool) (w : World) (h : sackbutref18_form.f a0_0 a0_1 a0_2 a0_3 a0_4 a0_5 a0_6 = some (r1, r2)) :
    Calls Tryz.prog 14 #[.agg #[.int .i64 a0_0, .int .i64 a0_1, .bool a0_2, .int .i64 a0_3, .int .i64 a0_4, .int .i64 a0_5, .int .i64 a0_6]] w fun e w' => e = .returned (.agg #[.int .i64 r1, .bool r2]) ∧ Below w.heap.size w w' := by
  have hu23 := Tryz.underlying23
  have hu43 := Tryz.underlying43
  have HB := Aside0.mk (Below.refl w.heap.size w)
  have H : (some (a0_1, a0_2)) = some (r1, r2) := h
  clear h
  simp only [Option.some.injEq, Prod.mk.injEq] at H
  obtain ⟨rfl, rfl⟩ := H
  go_enter Tryz.func14, Tryz.ntmps14
  go_wp2_with (first | ((with_reducible refine gate_dst (N := 1) rfl ?_); refine box_event ?hg (N := 1) ?hd (cs := #[.int .i64 a0_0, .int .i64 a0_1, .bool a0_2, .int .i64 a0_3, .int .i64 a0_4, .int .i64 a0_5, .int .i64 a0_6]) (t := 23) ?hr ?_; (case hd => rfl); (case hg => rfl); (case hr => first | (go_simp; done) | (go_simp; rfl)); intro gb188 hg w2 hbox hb; have n0_ := Aside0.mk (below_step (by repeat (first | (with_reducible first | exact HB.out | apply below_alloc | apply pw_below_drewN | apply below_drew1) | exact HB.out)) hb); have n1_ := Aside0.mk (hbox); have n2_ := Aside0.mk ((by rw [hg]; exact (below_size (by repeat (first | (with_reducible first | exact HB.out | apply below_alloc | apply pw_below_drewN | apply below_drew1) | exact HB.out))) : w.heap.size ≤ gb188)); have n3_ := Aside0.mk ((by rw [hg]; exact (below_size (by repeat (first | (with_reducible first | exact HB.out | apply below_alloc | apply pw_below_drewN | apply below_drew1) | exact HB.out))) : w.heap.size ≤ gb188)); clear HB; have HB := n0_; have BK188 := n1_; have GW188 := n2_; have GE188 := n3_; clear n0_ n1_ n2_ n3_; clear hb hbox hg) | ((with_reducible refine gate_dst (N := 2) rfl ?_); refine box_event ?hg (N := 2) ?hd (cs := #[.int .i64 0, .bool false]) (t := 43) ?hr ?_; (case hd => rfl); (case hg => rfl); (case hr => first | (go_simp; done) | (go_simp; rfl)); intro gb189 hg w3 hbox hb; have n0_ := Aside0.mk (blk_below (g := gb188) (o := .cells #[.int .i64 a0_0, .int .i64 a0_1, .bool a0_2, .int .i64 a0_3, .int .i64 a0_4, .int .i64 a0_5, .int .i64 a0_6] 23 (0, 0)) (by (with_reducible repeat (first | refine blk_drewN ?_ _ | refine blk_drew ?_ | refine blk_alloc ?_ _)); exact BK188.out) hb); have n1_ := Aside0.mk (below_step (by repeat (first | (with_reducible first | exact HB.out | apply below_alloc | apply pw_below_drewN | apply below_drew1 | refine below_set ?_ GE188.out) | exact HB.out)) hb); have n2_ := Aside0.mk (hbox); have n3_ := Aside0.mk ((by rw [hg]; exact (below_size (by repeat (first | (with_reducible first | exact HB.out | apply below_alloc | apply pw_below_drewN | apply below_drew1 | refine below_set ?_ GE188.out) | exact HB.out))) : w.heap.size ≤ gb189)); have n4_ := Aside0.mk ((by rw [hg]; exact (below_size (by repeat (first | (with_reducible first | exact HB.out | apply below_alloc | apply pw_below_drewN | apply below_drew1 | refine below_set ?_ GE188.out) | exact HB.out))) : w.heap.size ≤ gb189)); have n5_ := Aside0.mk ((by rw [hg]; exact Nat.ne_of_lt (blk_lt (g := gb188) (o := .cells #[.int .i64 a0_0, .int .i64 a0_1, .bool a0_2, .int .i64 a0_3, .int .i64 a0_4, .int .i64 a0_5, .int .i64 a0_6] 23 (0, 0)) (by (with_reducible repeat (first | refine blk_drewN ?_ _ | refine blk_drew ?_ | refine blk_alloc ?_ _)); exact BK188.out)) : gb188 ≠ gb189)); have n6_ := Aside0.mk ((by rw [hg]; exact Nat.ne_of_gt (blk_lt (g := gb188) (o := .cells #[.int .i64 a0_0, .int .i64 a0_1, .bool a0_2, .int .i64 a0_3, .int .i64 a0_4, .int .i64 a0_5, .int .i64 a0_6] 23 (0, 0)) (by (with_reducible repeat (first | refine blk_drewN ?_ _ | refine blk_drew ?_ | refine blk_alloc ?_ _)); exact BK188.out)) : gb189 ≠ gb188)); clear BK188; clear HB; have BK188 := n0_; have HB := n1_; have BK189 := n2_; have GW189 := n3_; have GE189 := n4_; have NB188_189 := n5_; have NB189_188 := n6_; clear n0_ n1_ n2_ n3_ n4_ n5_ n6_; clear hb hbox hg; have hnb4 := NB188_189.out; have hnc4 := NB189_188.out; have hcz5_0 : w3.cell? ⟨gb188, 0, none⟩ = some (.int .i64 a0_0) := (blk_cell BK188.out 0).trans rfl; have hcz5_1 : w3.cell? ⟨gb188, 1, none⟩ = some (.int .i64 a0_1) := (blk_cell BK188.out 1).trans rfl; have hcz5_2 : w3.cell? ⟨gb188, 2, none⟩ = some (.bool a0_2) := (blk_cell BK188.out 2).trans rfl; have hcz5_3 : w3.cell? ⟨gb188, 3, none⟩ = some (.int .i64 a0_3) := (blk_cell BK188.out 3).trans rfl; have hcz5_4 : w3.cell? ⟨gb188, 4, none⟩ = some (.int .i64 a0_4) := (blk_cell BK188.out 4).trans rfl; have hcz5_5 : w3.cell? ⟨gb188, 5, none⟩ = some (.int .i64 a0_5) := (blk_cell BK188.out 5).trans rfl; have hcz5_6 : w3.cell? ⟨gb188, 6, none⟩ = some (.int .i64 a0_6) := (blk_cell BK188.out 6).trans rfl; have hfz5_0 := blk_frozen BK188.out 0; have hfz5_1 := blk_frozen BK188.out 1; have hfz5_2 := blk_frozen BK188.out 2; have hfz5_3 := blk_frozen BK188.out 3; have hfz5_4 := blk_frozen BK188.out 4; have hfz5_5 := blk_frozen BK188.out 5; have hfz5_6 := blk_frozen BK188.out 6; have hcz6_0 : w3.cell? ⟨gb189, 0, none⟩ = some (.int .i64 0) := (blk_cell BK189.out 0).trans rfl; have hcz6_1 : w3.cell? ⟨gb189, 1, none⟩ = some (.bool false) := (blk_cell BK189.out 1).trans rfl; have hfz6_0 := blk_frozen BK189.out 0; have hfz6_1 := blk_frozen BK189.out 1))
  refine bodyPost_ret (results_cell_row rfl _ _ gb189 43 #[.int .i64 a0_1, .bool a0_2] (0, 0) _ rfl (by (with_reducible repeat (first | refine blk_drewN ?_ _ | refine blk_drew ?_ | refine blk_alloc ?_ _)); refine blk_put (cs := #[.int .i64 a0_1, .bool false]) ?_ 1 _ rfl; (with_reducible repeat (first | refine blk_drewN ?_ _ | refine blk_drew ?_ | refine blk_alloc ?_ _)); refine blk_put (cs := #[.int .i64 0, .bool false]) ?_ 0 _ rfl; (with_reducible repeat (first | refine blk_drewN ?_ _ | refine blk_drew ?_ | refine blk_alloc ?_ _)); exact BK189.out) Tryz.underlying43 rfl (by kernel_rfl)) rfl ?_
  exact ⟨by first | rfl | (simp [errW_none, errW_some] <;> rfl) | (simp [*, errW_none, errW_some] <;> rfl), by repeat (first | (with_reducible first | exact HB.out | apply below_alloc | apply pw_below_drewN | apply below_drew1 | refine below_set ?_ GE188.out | refine below_set ?_ GE189.out) | exact HB.out)⟩

/-! ### sackbutref18_Check: function 7 -/
def sackbutref18_Check.l0 : Nat → List (List Int) → Int → Int → Int → Int → Bool → Int → Int → Int → Int → Int → Int → Bool → Bool → Bool → Option (Int)
  | 0, _, _, _, _, _, _, _, _, _, _, _, _, _, _, _ => none
  | k + 1, x1, x18, x19, x191000, x191001, x191002, x191003, x191004, x191005, x191006, x192000, x192001, x192002, x192003, x192004 => if x19 < x18 then (if 0 ≤ x19 then (if x19 < (x1.length : Int) then (if ((rd_L1 x1 x19).length : Int) = x191006 then (sackbutref18_Check.l0 k x1 x18 (wrap64 (x19 + 1)) x191000 x191001 x191002 x191003 x191004 x191005 x191006 x192000 x192001 x192002 x192003 x192004) else (some 8)) else (none)) else (none)) else ((sackbutref18_form.f x191000 x191001 x191002 x191003 x191004 x191005 x191006).bind fun bt194 => ((sackbutref05_Check.f k bt194.1 bt194.2 x1).bind fun t196 => (if t196 = 0 then (if x192000 < 0 then (some 1) else (if x192000 > 16 then (some 1) else (if x192001 < 0 then (some 1) else (if x192001 > 4 then (some 1) else (some 0))))) else (some t196))))
def sackbutref18_Check.f (k : Nat) (a0_0 : Int) (a0_1 : Int) (a0_2 : Bool) (a0_3 : Int) (a0_4 : Int) (a0_5 : Int) (a0_6 : Int) (l1 : List (List Int)) (a2_0 : Int) (a2_1 : Int) (a2_2 : Bool) (a2_3 : Bool) (a2_4 : Bool) : Option (Int) := (sackbutref16_Good.f a0_0 a0_1 a0_2 a0_3 a0_4 a0_5 a0_6).bind fun t192 => (if t192 = true then (if (l1.length : Int) = a0_0 then (sackbutref18_Check.l0 k l1 (l1.length : Int) 0 a0_0 a0_1 a0_2 a0_3 a0_4 a0_5 a0_6 a2_0 a2_1 a2_2 a2_3 a2_4) else (some 8)) else (some 7))
set_option maxHeartbeats 8000000 in
set_option maxRecDepth 100000 in
theorem sackbutref18_Check.calls (k : Nat) (a0_0 : Int) (a0_1 : Int) (a0_2 : Bool) (a0_3 : Int) (a0_4 : Int) (a0_5 : Int) (a0_6 : Int) (A1 : Option Addr) (c1 : Nat) (l1 : List (List Int)) (a2_0 : Int) (a2_1 : Int) (a2_2 : Bool) (a2_3 : Bool) (a2_4 : Bool) (r : Int) (w : World) (hr1 : Kd.C (Kd.slice 3 (Kd.int .i64)) w A1 l1.length l1) (hc1 : l1.length ≤ c1) (h : sackbutref18_Check.f k a0_0 a0_1 a0_2 a0_3 a0_4 a0_5 a0_6 l1 a2_0 a2_1 a2_2 a2_3 a2_4 = some r) :
    Calls Tryz.prog 7 #[.agg #[.int .i64 a0_0, .int .i64 a0_1, .bool a0_2, .int .i64 a0_3, .int .i64 a0_4, .int .i64 a0_5, .int .i64 a0_6], .slice A1 l1.length c1, .agg #[.int .i64 a2_0, .int .i64 a2_1, .bool a2_2, .bool a2_3, .bool a2_4]] w fun e w' => e = .returned (.int .i64 r) ∧ Below w.heap.size w w' := by
  have hu23 := Tryz.underlying23
  have hu26 := Tryz.underlying26
  have HR1 := Aside0.mk hr1
  have HC1 := Aside0.mk hc1
  clear hr1 hc1
  have HB := Aside0.mk (Below.refl w.heap.size w)
  have H : ((sackbutref16_Good.f a0_0 a0_1 a0_2 a0_3 a0_4 a0_5 a0_6).bind fun t192 => (if t192 = true then (if (l1.length : Int) = a0_0 then (sackbutref18_Check.l0 k l1 (l1.length : Int) 0 a0_0 a0_1 a0_2 a0_3 a0_4 a0_5 a0_6 a2_0 a2_1 a2_2 a2_3 a2_4) else (some 8)) else (some 7))) = some r := h
  clear h
  replace H := Option.bind_eq_some_iff.mp H
  obtain ⟨t192, A40, H⟩ := H
  replace H : (if t192 = true then (if (l1.length : Int) = a0_0 then (sackbutref18_Check.l0 k l1 (l1.length : Int) 0 a0_0 a0_1 a0_2 a0_3 a0_4 a0_5 a0_6 a2_0 a2_1 a2_2 a2_3 a2_4) else (some 8)) else (some 7)) = some r := H
  have A4 := Aside0.mk A40
  clear A40
  by_cases c5 : t192 = true
  · subst c5
    have H1 : (if (l1.length : Int) = a0_0 then (sackbutref18_Check.l0 k l1 (l1.length : Int) 0 a0_0 a0_1 a0_2 a0_3 a0_4 a0_5 a0_6 a2_0 a2_1 a2_2 a2_3 a2_4) else (some 8)) = some r := by rw [if_pos rfl] at H; exact H
    clear H
    have H := H1
    clear H1
    by_cases c6 : (l1.length : Int) = a0_0
    · rw [if_pos c6] at H
      have c6b0 : ((l1.length : Int) == a0_0) = true := beq_iff_eq.mpr c6
      have c6b1 : ((l1.length : Int) != a0_0) = false := bne_eq_false_iff_eq.mpr c6
      clear c6
      have H' := Aside0.mk H
      clear H
      go_enter Tryz.func7, Tryz.ntmps7
      go_wp2_with (first | ((with_reducible refine gate_dst (N := 3) rfl ?_); refine box_event ?hg (N := 3) ?hd (cs := #[.int .i64 a0_0, .int .i64 a0_1, .bool a0_2, .int .i64 a0_3, .int .i64 a0_4, .int .i64 a0_5, .int .i64 a0_6]) (t := 23) ?hr ?_; (case hd => rfl); (case hg => rfl); (case hr => first | (go_simp; done) | (go_simp; rfl)); intro gb190 hg w7 hbox hb; have n0_ := Aside0.mk (below_step (by repeat (first | (with_reducible first | exact HB.out | apply below_alloc | apply pw_below_drewN | apply below_drew1) | exact HB.out)) hb); have n1_ := Aside0.mk (hbox); have n2_ := Aside0.mk ((by rw [hg]; exact (below_size (by repeat (first | (with_reducible first | exact HB.out | apply below_alloc | apply pw_below_drewN | apply below_drew1) | exact HB.out))) : w.heap.size ≤ gb190)); have n3_ := Aside0.mk ((by rw [hg]; exact (below_size (by repeat (first | (with_reducible first | exact HB.out | apply below_alloc | apply pw_below_drewN | apply below_drew1) | exact HB.out))) : w.heap.size ≤ gb190)); clear HB; have HB := n0_; have BK190 := n1_; have GW190 := n2_; have GE190 := n3_; clear n0_ n1_ n2_ n3_; clear hb hbox hg) | ((with_reducible refine gate_dst (N := 5) rfl ?_); refine box_event ?hg (N := 5) ?hd (cs := #[.int .i64 a2_0, .int .i64 a2_1, .bool a2_2, .bool a2_3, .bool a2_4]) (t := 26) ?hr ?_; (case hd => rfl); (case hg => rfl); (case hr => first | (go_simp; done) | (go_simp; rfl)); intro gb191 hg w8 hbox hb; have n0_ := Aside0.mk (blk_below (g := gb190) (o := .cells #[.int .i64 a0_0, .int .i64 a0_1, .bool a0_2, .int .i64 a0_3, .int .i64 a0_4, .int .i64 a0_5, .int .i64 a0_6] 23 (0, 0)) (by (with_reducible repeat (first | refine blk_drewN ?_ _ | refine blk_drew ?_ | refine blk_alloc ?_ _)); exact BK190.out) hb); have n1_ := Aside0.mk (below_step (by repeat (first | (with_reducible first | exact HB.out | apply below_alloc | apply pw_below_drewN | apply below_drew1 | refine below_set ?_ GE190.out) | exact HB.out)) hb); have n2_ := Aside0.mk (hbox); have n3_ := Aside0.mk ((by rw [hg]; exact (below_size (by repeat (first | (with_reducible first | exact HB.out | apply below_alloc | apply pw_below_drewN | apply below_drew1 | refine below_set ?_ GE190.out) | exact HB.out))) : w.heap.size ≤ gb191)); have n4_ := Aside0.mk ((by rw [hg]; exact (below_size (by repeat (first | (with_reducible first | exact HB.out | apply below_alloc | apply pw_below_drewN | apply below_drew1 | refine below_set ?_ GE190.out) | exact HB.out))) : w.heap.size ≤ gb191)); have n5_ := Aside0.mk ((by rw [hg]; exact Nat.ne_of_lt (blk_lt (g := gb190) (o := .cells #[.int .i64 a0_0, .int .i64 a0_1, .bool a0_2, .int .i64 a0_3, .int .i64 a0_4, .int .i64 a0_5, .int .i64 a0_6] 23 (0, 0)) (by (with_reducible repeat (first | refine blk_drewN ?_ _ | refine blk_drew ?_ | refine blk_alloc ?_ _)); exact BK190.out)) : gb190 ≠ gb191)); have n6_ := Aside0.mk ((by rw [hg]; exact Nat.ne_of_gt (blk_lt (g := gb190) (o := .cells #[.int .i64 a0_0, .int .i64 a0_1, .bool a0_2, .int .i64 a0_3, .int .i64 a0_4, .int .i64 a0_5, .int .i64 a0_6] 23 (0, 0)) (by (with_reducible repeat (first | refine blk_drewN ?_ _ | refine blk_drew ?_ | refine blk_alloc ?_ _)); exact BK190.out)) : gb191 ≠ gb190)); clear BK190; clear HB; have BK190 := n0_; have HB := n1_; have BK191 := n2_; have GW191 := n3_; have GE191 := n4_; have NB190_191 := n5_; have NB191_190 := n6_; clear n0_ n1_ n2_ n3_ n4_ n5_ n6_; clear hb hbox hg; have hnb9 := NB190_191.out; have hnc9 := NB191_190.out; have hcz10_0 : w8.cell? ⟨gb190, 0, none⟩ = some (.int .i64 a0_0) := (blk_cell BK190.out 0).trans rfl; have hcz10_1 : w8.cell? ⟨gb190, 1, none⟩ = some (.int .i64 a0_1) := (blk_cell BK190.out 1).trans rfl; have hcz10_2 : w8.cell? ⟨gb190, 2, none⟩ = some (.bool a0_2) := (blk_cell BK190.out 2).trans rfl; have hcz10_3 : w8.cell? ⟨gb190, 3, none⟩ = some (.int .i64 a0_3) := (blk_cell BK190.out 3).trans rfl; have hcz10_4 : w8.cell? ⟨gb190, 4, none⟩ = some (.int .i64 a0_4) := (blk_cell BK190.out 4).trans rfl; have hcz10_5 : w8.cell? ⟨gb190, 5, none⟩ = some (.int .i64 a0_5) := (blk_cell BK190.out 5).trans rfl; have hcz10_6 : w8.cell? ⟨gb190, 6, none⟩ = some (.int .i64 a0_6) := (blk_cell BK190.out 6).trans rfl; have hfz10_0 := blk_frozen BK190.out 0; have hfz10_1 := blk_frozen BK190.out 1; have hfz10_2 := blk_frozen BK190.out 2; have hfz10_3 := blk_frozen BK190.out 3; have hfz10_4 := blk_frozen BK190.out 4; have hfz10_5 := blk_frozen BK190.out 5; have hfz10_6 := blk_frozen BK190.out 6) | (go_at_call 12; (with_reducible refine (sackbutref16_Good.calls a0_0 a0_1 a0_2 a0_3 a0_4 a0_5 a0_6 true _ A4.out).mono ?_); rintro e w11 ⟨rfl, hb⟩; have n0_ := Aside0.mk (blk_below (g := gb190) (o := .cells #[.int .i64 a0_0, .int .i64 a0_1, .bool a0_2, .int .i64 a0_3, .int .i64 a0_4, .int .i64 a0_5, .int .i64 a0_6] 23 (0, 0)) (by (with_reducible repeat (first | refine blk_drewN ?_ _ | refine blk_drew ?_ | refine blk_alloc ?_ _)); exact BK190.out) hb); have n1_ := Aside0.mk (blk_below (g := gb191) (o := .cells #[.int .i64 a2_0, .int .i64 a2_1, .bool a2_2, .bool a2_3, .bool a2_4] 26 (0, 0)) (by (with_reducible repeat (first | refine blk_drewN ?_ _ | refine blk_drew ?_ | refine blk_alloc ?_ _)); exact BK191.out) hb); have n2_ := Aside0.mk (below_step (by repeat (first | (with_reducible first | exact HB.out | apply below_alloc | apply pw_below_drewN | apply below_drew1 | refine below_set ?_ GE190.out | refine below_set ?_ GE191.out) | exact HB.out)) hb); clear BK190; clear BK191; clear HB; have BK190 := n0_; have BK191 := n1_; have HB := n2_; clear n0_ n1_ n2_; (try clear hb); (try clear hb2); (try clear hk); (try clear hi); have hcz12_0 : w11.cell? ⟨gb190, 0, none⟩ = some (.int .i64 a0_0) := (blk_cell BK190.out 0).trans rfl; have hcz12_1 : w11.cell? ⟨gb190, 1, none⟩ = some (.int .i64 a0_1) := (blk_cell BK190.out 1).trans rfl; have hcz12_2 : w11.cell? ⟨gb190, 2, none⟩ = some (.bool a0_2) := (blk_cell BK190.out 2).trans rfl; have hcz12_3 : w11.cell? ⟨gb190, 3, none⟩ = some (.int .i64 a0_3) := (blk_cell BK190.out 3).trans rfl; have hcz12_4 : w11.cell? ⟨gb190, 4, none⟩ = some (.int .i64 a0_4) := (blk_cell BK190.out 4).trans rfl; have hcz12_5 : w11.cell? ⟨gb190, 5, none⟩ = some (.int .i64 a0_5) := (blk_cell BK190.out 5).trans rfl; have hcz12_6 : w11.cell? ⟨gb190, 6, none⟩ = some (.int .i64 a0_6) := (blk_cell BK190.out 6).trans rfl; have hfz12_0 := blk_frozen BK190.out 0; have hfz12_1 := blk_frozen BK190.out 1; have hfz12_2 := blk_frozen BK190.out 2; have hfz12_3 := blk_frozen BK190.out 3; have hfz12_4 := blk_frozen BK190.out 4; have hfz12_5 := blk_frozen BK190.out 5; have hfz12_6 := blk_frozen BK190.out 6))
      repeat (go_quiet (first | ((with_reducible refine gate_dst (N := 3) rfl ?_); refine box_event ?hg (N := 3) ?hd (cs := #[.int .i64 a0_0, .int .i64 a0_1, .bool a0_2, .int .i64 a0_3, .int .i64 a0_4, .int .i64 a0_5, .int .i64 a0_6]) (t := 23) ?hr ?_; (case hd => rfl); (case hg => rfl); (case hr => first | (go_simp; done) | (go_simp; rfl)); intro gb190 hg w7 hbox hb; have n0_ := Aside0.mk (below_step (by repeat (first | (with_reducible first | exact HB.out | apply below_alloc | apply pw_below_drewN | apply below_drew1) | exact HB.out)) hb); have n1_ := Aside0.mk (hbox); have n2_ := Aside0.mk ((by rw [hg]; exact (below_size (by repeat (first | (with_reducible first | exact HB.out | apply below_alloc | apply pw_below_drewN | apply below_drew1) | exact HB.out))) : w.heap.size ≤ gb190)); have n3_ := Aside0.mk ((by rw [hg]; exact (below_size (by repeat (first | (with_reducible first | exact HB.out | apply below_alloc | apply pw_below_drewN | apply below_drew1) | exact HB.out))) : w.heap.size ≤ gb190)); clear HB; have HB := n0_; have BK190 := n1_; have GW190 := n2_; have GE190 := n3_; clear n0_ n1_ n2_ n3_; clear hb hbox hg) | ((with_reducible refine gate_dst (N := 5) rfl ?_); refine box_event ?hg (N := 5) ?hd (cs := #[.int .i64 a2_0, .int .i64 a2_1, .bool a2_2, .bool a2_3, .bool a2_4]) (t := 26) ?hr ?_; (case hd => rfl); (case hg => rfl); (case hr => first | (go_simp; done) | (go_simp; rfl)); intro gb191 hg w8 hbox hb; have n0_ := Aside0.mk (blk_below (g := gb190) (o := .cells #[.int .i64 a0_0, .int .i64 a0_1, .bool a0_2, .int .i64 a0_3, .int .i64 a0_4, .int .i64 a0_5, .int .i64 a0_6] 23 (0, 0)) (by (with_reducible repeat (first | refine blk_drewN ?_ _ | refine blk_drew ?_ | refine blk_alloc ?_ _)); exact BK190.out) hb); have n1_ := Aside0.mk (below_step (by repeat (first | (with_reducible first | exact HB.out | apply below_alloc | apply pw_below_drewN | apply below_drew1 | refine below_set ?_ GE190.out) | exact HB.out)) hb); have n2_ := Aside0.mk (hbox); have n3_ := Aside0.mk ((by rw [hg]; exact (below_size (by repeat (first | (with_reducible first | exact HB.out | apply below_alloc | apply pw_below_drewN | apply below_drew1 | refine below_set ?_ GE190.out) | exact HB.out))) : w.heap.size ≤ gb191)); have n4_ := Aside0.mk ((by rw [hg]; exact (below_size (by repeat (first | (with_reducible first | exact HB.out | apply below_alloc | apply pw_below_drewN | apply below_drew1 | refine below_set ?_ GE190.out) | exact HB.out))) : w.heap.size ≤ gb191)); have n5_ := Aside0.mk ((by rw [hg]; exact Nat.ne_of_lt (blk_lt (g := gb190) (o := .cells #[.int .i64 a0_0, .int .i64 a0_1, .bool a0_2, .int .i64 a0_3, .int .i64 a0_4, .int .i64 a0_5, .int .i64 a0_6] 23 (0, 0)) (by (with_reducible repeat (first | refine blk_drewN ?_ _ | refine blk_drew ?_ | refine blk_alloc ?_ _)); exact BK190.out)) : gb190 ≠ gb191)); have n6_ := Aside0.mk ((by rw [hg]; exact Nat.ne_of_gt (blk_lt (g := gb190) (o := .cells #[.int .i64 a0_0, .int .i64 a0_1, .bool a0_2, .int .i64 a0_3, .int .i64 a0_4, .int .i64 a0_5, .int .i64 a0_6] 23 (0, 0)) (by (with_reducible repeat (first | refine blk_drewN ?_ _ | refine blk_drew ?_ | refine blk_alloc ?_ _)); exact BK190.out)) : gb191 ≠ gb190)); clear BK190; clear HB; have BK190 := n0_; have HB := n1_; have BK191 := n2_; have GW191 := n3_; have GE191 := n4_; have NB190_191 := n5_; have NB191_190 := n6_; clear n0_ n1_ n2_ n3_ n4_ n5_ n6_; clear hb hbox hg; have hnb9 := NB190_191.out; have hnc9 := NB191_190.out; have hcz10_0 : w8.cell? ⟨gb190, 0, none⟩ = some (.int .i64 a0_0) := (blk_cell BK190.out 0).trans rfl; have hcz10_1 : w8.cell? ⟨gb190, 1, none⟩ = some (.int .i64 a0_1) := (blk_cell BK190.out 1).trans rfl; have hcz10_2 : w8.cell? ⟨gb190, 2, none⟩ = some (.bool a0_2) := (blk_cell BK190.out 2).trans rfl; have hcz10_3 : w8.cell? ⟨gb190, 3, none⟩ = some (.int .i64 a0_3) := (blk_cell BK190.out 3).trans rfl; have hcz10_4 : w8.cell? ⟨gb190, 4, none⟩ = some (.int .i64 a0_4) := (blk_cell BK190.out 4).trans rfl; have hcz10_5 : w8.cell? ⟨gb190, 5, none⟩ = some (.int .i64 a0_5) := (blk_cell BK190.out 5).trans rfl; have hcz10_6 : w8.cell? ⟨gb190, 6, none⟩ = some (.int .i64 a0_6) := (blk_cell BK190.out 6).trans rfl; have hfz10_0 := blk_frozen BK190.out 0; have hfz10_1 := blk_frozen BK190.out 1; have hfz10_2 := blk_frozen BK190.out 2; have hfz10_3 := blk_frozen BK190.out 3; have hfz10_4 := blk_frozen BK190.out 4; have hfz10_5 := blk_frozen BK190.out 5; have hfz10_6 := blk_frozen BK190.out 6) | (go_at_call 12; (with_reducible refine (sackbutref16_Good.calls a0_0 a0_1 a0_2 a0_3 a0_4 a0_5 a0_6 true _ A4.out).mono ?_); rintro e w11 ⟨rfl, hb⟩; have n0_ := Aside0.mk (blk_below (g := gb190) (o := .cells #[.int .i64 a0_0, .int .i64 a0_1, .bool a0_2, .int .i64 a0_3, .int .i64 a0_4, .int .i64 a0_5, .int .i64 a0_6] 23 (0, 0)) (by (with_reducible repeat (first | refine blk_drewN ?_ _ | refine blk_drew ?_ | refine blk_alloc ?_ _)); exact BK190.out) hb); have n1_ := Aside0.mk (blk_below (g := gb191) (o := .cells #[.int .i64 a2_0, .int .i64 a2_1, .bool a2_2, .bool a2_3, .bool a2_4] 26 (0, 0)) (by (with_reducible repeat (first | refine blk_drewN ?_ _ | refine blk_drew ?_ | refine blk_alloc ?_ _)); exact BK191.out) hb); have n2_ := Aside0.mk (below_step (by repeat (first | (with_reducible first | exact HB.out | apply below_alloc | apply pw_below_drewN | apply below_drew1 | refine below_set ?_ GE190.out | refine below_set ?_ GE191.out) | exact HB.out)) hb); clear BK190; clear BK191; clear HB; have BK190 := n0_; have BK191 := n1_; have HB := n2_; clear n0_ n1_ n2_; (try clear hb); (try clear hb2); (try clear hk); (try clear hi); have hcz12_0 : w11.cell? ⟨gb190, 0, none⟩ = some (.int .i64 a0_0) := (blk_cell BK190.out 0).trans rfl; have hcz12_1 : w11.cell? ⟨gb190, 1, none⟩ = some (.int .i64 a0_1) := (blk_cell BK190.out 1).trans rfl; have hcz12_2 : w11.cell? ⟨gb190, 2, none⟩ = some (.bool a0_2) := (blk_cell BK190.out 2).trans rfl; have hcz12_3 : w11.cell? ⟨gb190, 3, none⟩ = some (.int .i64 a0_3) := (blk_cell BK190.out 3).trans rfl; have hcz12_4 : w11.cell? ⟨gb190, 4, none⟩ = some (.int .i64 a0_4) := (blk_cell BK190.out 4).trans rfl; have hcz12_5 : w11.cell? ⟨gb190, 5, none⟩ = some (.int .i64 a0_5) := (blk_cell BK190.out 5).trans rfl; have hcz12_6 : w11.cell? ⟨gb190, 6, none⟩ = some (.int .i64 a0_6) := (blk_cell BK190.out 6).trans rfl; have hfz12_0 := blk_frozen BK190.out 0; have hfz12_1 := blk_frozen BK190.out 1; have hfz12_2 := blk_frozen BK190.out 2; have hfz12_3 := blk_frozen BK190.out 3; have hfz12_4 := blk_frozen BK190.out 4; have hfz12_5 := blk_frozen BK190.out 5; have hfz12_6 := blk_frozen BK190.out 6)); try go_wp2_with (first | ((with_reducible refine gate_dst (N := 3) rfl ?_); refine box_event ?hg (N := 3) ?hd (cs := #[.int .i64 a0_0, .int .i64 a0_1, .bool a0_2, .int .i64 a0_3, .int .i64 a0_4, .int .i64 a0_5, .int .i64 a0_6]) (t := 23) ?hr ?_; (case hd => rfl); (case hg => rfl); (case hr => first | (go_simp; done) | (go_simp; rfl)); intro gb190 hg w7 hbox hb; have n0_ := Aside0.mk (below_step (by repeat (first | (with_reducible first | exact HB.out | apply below_alloc | apply pw_below_drewN | apply below_drew1) | exact HB.out)) hb); have n1_ := Aside0.mk (hbox); have n2_ := Aside0.mk ((by rw [hg]; exact (below_size (by repeat (first | (with_reducible first | exact HB.out | apply below_alloc | apply pw_below_drewN | apply below_drew1) | exact HB.out))) : w.heap.size ≤ gb190)); have n3_ := Aside0.mk ((by rw [hg]; exact (below_size (by repeat (first | (with_reducible first | exact HB.out | apply below_alloc | apply pw_below_drewN | apply below_drew1) | exact HB.out))) : w.heap.size ≤ gb190)); clear HB; have HB := n0_; have BK190 := n1_; have GW190 := n2_; have GE190 := n3_; clear n0_ n1_ n2_ n3_; clear hb hbox hg) | ((with_reducible refine gate_dst (N := 5) rfl ?_); refine box_event ?hg (N := 5) ?hd (cs := #[.int .i64 a2_0, .int .i64 a2_1, .bool a2_2, .bool a2_3, .bool a2_4]) (t := 26) ?hr ?_; (case hd => rfl); (case hg => rfl); (case hr => first | (go_simp; done) | (go_simp; rfl)); intro gb191 hg w8 hbox hb; have n0_ := Aside0.mk (blk_below (g := gb190) (o := .cells #[.int .i64 a0_0, .int .i64 a0_1, .bool a0_2, .int .i64 a0_3, .int .i64 a0_4, .int .i64 a0_5, .int .i64 a0_6] 23 (0, 0)) (by (with_reducible repeat (first | refine blk_drewN ?_ _ | refine blk_drew ?_ | refine blk_alloc ?_ _)); exact BK190.out) hb); have n1_ := Aside0.mk (below_step (by repeat (first | (with_reducible first | exact HB.out | apply below_alloc | apply pw_below_drewN | apply below_drew1 | refine below_set ?_ GE190.out) | exact HB.out)) hb); have n2_ := Aside0.mk (hbox); have n3_ := Aside0.mk ((by rw [hg]; exact (below_size (by repeat (first | (with_reducible first | exact HB.out | apply below_alloc | apply pw_below_drewN | apply below_drew1 | refine below_set ?_ GE190.out) | exact HB.out))) : w.heap.size ≤ gb191)); have n4_ := Aside0.mk ((by rw [hg]; exact (below_size (by repeat (first | (with_reducible first | exact HB.out | apply below_alloc | apply pw_below_drewN | apply below_drew1 | refine below_set ?_ GE190.out) | exact HB.out))) : w.heap.size ≤ gb191)); have n5_ := Aside0.mk ((by rw [hg]; exact Nat.ne_of_lt (blk_lt (g := gb190) (o := .cells #[.int .i64 a0_0, .int .i64 a0_1, .bool a0_2, .int .i64 a0_3, .int .i64 a0_4, .int .i64 a0_5, .int .i64 a0_6] 23 (0, 0)) (by (with_reducible repeat (first | refine blk_drewN ?_ _ | refine blk_drew ?_ | refine blk_alloc ?_ _)); exact BK190.out)) : gb190 ≠ gb191)); have n6_ := Aside0.mk ((by rw [hg]; exact Nat.ne_of_gt (blk_lt (g := gb190) (o := .cells #[.int .i64 a0_0, .int .i64 a0_1, .bool a0_2, .int .i64 a0_3, .int .i64 a0_4, .int .i64 a0_5, .int .i64 a0_6] 23 (0, 0)) (by (with_reducible repeat (first | refine blk_drewN ?_ _ | refine blk_drew ?_ | refine blk_alloc ?_ _)); exact BK190.out)) : gb191 ≠ gb190)); clear BK190; clear HB; have BK190 := n0_; have HB := n1_; have BK191 := n2_; have GW191 := n3_; have GE191 := n4_; have NB190_191 := n5_; have NB191_190 := n6_; clear n0_ n1_ n2_ n3_ n4_ n5_ n6_; clear hb hbox hg; have hnb9 := NB190_191.out; have hnc9 := NB191_190.out; have hcz10_0 : w8.cell? ⟨gb190, 0, none⟩ = some (.int .i64 a0_0) := (blk_cell BK190.out 0).trans rfl; have hcz10_1 : w8.cell? ⟨gb190, 1, none⟩ = some (.int .i64 a0_1) := (blk_cell BK190.out 1).trans rfl; have hcz10_2 : w8.cell? ⟨gb190, 2, none⟩ = some (.bool a0_2) := (blk_cell BK190.out 2).trans rfl; have hcz10_3 : w8.cell? ⟨gb190, 3, none⟩ = some (.int .i64 a0_3) := (blk_cell BK190.out 3).trans rfl; have hcz10_4 : w8.cell? ⟨gb190, 4, none⟩ = some (.int .i64 a0_4) := (blk_cell BK190.out 4).trans rfl; have hcz10_5 : w8.cell? ⟨gb190, 5, none⟩ = some (.int .i64 a0_5) := (blk_cell BK190.out 5).trans rfl; have hcz10_6 : w8.cell? ⟨gb190, 6, none⟩ = some (.int .i64 a0_6) := (blk_cell BK190.out 6).trans rfl; have hfz10_0 := blk_frozen BK190.out 0; have hfz10_1 := blk_frozen BK190.out 1; have hfz10_2 := blk_frozen BK190.out 2; have hfz10_3 := blk_frozen BK190.out 3; have hfz10_4 := blk_frozen BK190.out 4; have hfz10_5 := blk_frozen BK190.out 5; have hfz10_6 := blk_frozen BK190.out 6) | (go_at_call 12; (with_reducible refine (sackbutref16_Good.calls a0_0 a0_1 a0_2 a0_3 a0_4 a0_5 a0_6 true _ A4.out).mono ?_); rintro e w11 ⟨rfl, hb⟩; have n0_ := Aside0.mk (blk_below (g := gb190) (o := .cells #[.int .i64 a0_0, .int .i64 a0_1, .bool a0_2, .int .i64 a0_3, .int .i64 a0_4, .int .i64 a0_5, .int .i64 a0_6] 23 (0, 0)) (by (with_reducible repeat (first | refine blk_drewN ?_ _ | refine blk_drew ?_ | refine blk_alloc ?_ _)); exact BK190.out) hb); have n1_ := Aside0.mk (blk_below (g := gb191) (o := .cells #[.int .i64 a2_0, .int .i64 a2_1, .bool a2_2, .bool a2_3, .bool a2_4] 26 (0, 0)) (by (with_reducible repeat (first | refine blk_drewN ?_ _ | refine blk_drew ?_ | refine blk_alloc ?_ _)); exact BK191.out) hb); have n2_ := Aside0.mk (below_step (by repeat (first | (with_reducible first | exact HB.out | apply below_alloc | apply pw_below_drewN | apply below_drew1 | refine below_set ?_ GE190.out | refine below_set ?_ GE191.out) | exact HB.out)) hb); clear BK190; clear BK191; clear HB; have BK190 := n0_; have BK191 := n1_; have HB := n2_; clear n0_ n1_ n2_; (try clear hb); (try clear hb2); (try clear hk); (try clear hi); have hcz12_0 : w11.cell? ⟨gb190, 0, none⟩ = some (.int .i64 a0_0) := (blk_cell BK190.out 0).trans rfl; have hcz12_1 : w11.cell? ⟨gb190, 1, none⟩ = some (.int .i64 a0_1) := (blk_cell BK190.out 1).trans rfl; have hcz12_2 : w11.cell? ⟨gb190, 2, none⟩ = some (.bool a0_2) := (blk_cell BK190.out 2).trans rfl; have hcz12_3 : w11.cell? ⟨gb190, 3, none⟩ = some (.int .i64 a0_3) := (blk_cell BK190.out 3).trans rfl; have hcz12_4 : w11.cell? ⟨gb190, 4, none⟩ = some (.int .i64 a0_4) := (blk_cell BK190.out 4).trans rfl; have hcz12_5 : w11.cell? ⟨gb190, 5, none⟩ = some (.int .i64 a0_5) := (blk_cell BK190.out 5).trans rfl; have hcz12_6 : w11.cell? ⟨gb190, 6, none⟩ = some (.int .i64 a0_6) := (blk_cell BK190.out 6).trans rfl; have hfz12_0 := blk_frozen BK190.out 0; have hfz12_1 := blk_frozen BK190.out 1; have hfz12_2 := blk_frozen BK190.out 2; have hfz12_3 := blk_frozen BK190.out 3; have hfz12_4 := blk_frozen BK190.out 4; have hfz12_5 := blk_frozen BK190.out 5; have hfz12_6 := blk_frozen BK190.out 6)))
      go_loopg [19] k (fun kq v19 w' => ∃ (x19_1 : Int), v19 = .int .i64 x19_1 ∧ Aside0 (sackbutref18_Check.l0 kq l1 (l1.length : Int) x19_1 a0_0 a0_1 a0_2 a0_3 a0_4 a0_5 a0_6 a2_0 a2_1 a2_2 a2_3 a2_4 = some r) ∧ Aside0 (kq ≤ k) ∧ Aside0 (w'.heap[gb190]? = some (.cells #[.int .i64 a0_0, .int .i64 a0_1, .bool a0_2, .int .i64 a0_3, .int .i64 a0_4, .int .i64 a0_5, .int .i64 a0_6] 23 (0, 0))) ∧ Aside0 (w'.heap[gb191]? = some (.cells #[.int .i64 a2_0, .int .i64 a2_1, .bool a2_2, .bool a2_3, .bool a2_4] 26 (0, 0))) ∧ Aside0 (Below w.heap.size w w'))
      case atStart => exact ⟨(0), (by first | rfl | (simp; done) | (simp [*]; done)), H', ⟨Nat.le_refl _⟩, ⟨by (with_reducible repeat (first | refine blk_drewN ?_ _ | refine blk_drew ?_ | refine blk_alloc ?_ _)); exact BK190.out⟩, ⟨by (with_reducible repeat (first | refine blk_drewN ?_ _ | refine blk_drew ?_ | refine blk_alloc ?_ _)); exact BK191.out⟩, ⟨by repeat (first | (with_reducible first | exact HB.out | apply below_alloc | apply pw_below_drewN | apply below_drew1 | refine below_set ?_ GE190.out | refine below_set ?_ GE191.out) | exact HB.out)⟩⟩
      case round =>
        clear H'
        try clear c1
        try clear p2
        try clear c5
        try clear c6
        try clear c6b0
        try clear c6b1
        try clear c7
        try clear c9
        try clear hcz10_0
        try clear hcz10_1
        try clear hcz10_2
        try clear hcz10_3
        try clear hcz10_4
        try clear hcz10_5
        try clear hcz10_6
        try clear hcz12_0
        try clear hcz12_1
        try clear hcz12_2
        try clear hcz12_3
        try clear hcz12_4
        try clear hcz12_5
        try clear hcz12_6
        try clear hfz10_0
        try clear hfz10_1
        try clear hfz10_2
        try clear hfz10_3
        try clear hfz10_4
        try clear hfz10_5
        try clear hfz10_6
        try clear hfz12_0
        try clear hfz12_1
        try clear hfz12_2
        try clear hfz12_3
        try clear hfz12_4
        try clear hfz12_5
        try clear hfz12_6
        obtain ⟨x19_1, rfl, HA, HK1, BK190, BK191, HB⟩ := hrel
        cases gk with
        | zero => exact absurd HA.out (by simp [sackbutref18_Check.l0])
        | succ k1 =>
          have H := HA.out
          clear HA
          simp only [sackbutref18_Check.l0] at H
          by_cases c13 : x19_1 < (l1.length : Int)
          · rw [if_pos c13] at H
            have c13b0 : decide (x19_1 < (l1.length : Int)) = true := decide_eq_true c13
            clear c13
            by_cases c14 : 0 ≤ x19_1
            · rw [if_pos c14] at H
              have c14b0 : decide (0 ≤ x19_1) = true := decide_eq_true c14
              clear c14
              by_cases c15 : x19_1 < (l1.length : Int)
              · rw [if_pos c15] at H
                have c15b0 : decide (x19_1 < (l1.length : Int)) = true := decide_eq_true c15
                clear c15
                by_cases c16 : ((rd_L1 l1 x19_1).length : Int) = a0_6
                · rw [if_pos c16] at H
                  have c16b0 : (((rd_L1 l1 x19_1).length : Int) == a0_6) = true := beq_iff_eq.mpr c16
                  have c16b1 : (((rd_L1 l1 x19_1).length : Int) != a0_6) = false := bne_eq_false_iff_eq.mpr c16
                  clear c16
                  have H' := Aside0.mk H
                  clear H
                  have p193 : 0 ≤ (x19_1 : Int) := of_decide_eq_true (by first | (with_reducible assumption) | assumption)
                  have q193 : x19_1 < (l1.length : Int) := of_decide_eq_true (by first | (with_reducible assumption) | assumption)
                  obtain ⟨ad193, A193_0, c193_0, e193, hx193_0, hl193_0, hi193_0⟩ := at_L1 HR1.out x19_1 p193 q193
                  cases e193
                  replace hx193_0 := (HB.out.cell (World.block_lt_of_cell? w _ hx193_0)).trans hx193_0
                  have HR193_0 := Aside0.mk hi193_0
                  have HC193_0 := Aside0.mk hl193_0
                  clear hi193_0 hl193_0
                  replace p193 := eq_true p193
                  replace q193 := eq_true q193
                  have hnb17 := NB190_191.out
                  have hnc17 := NB191_190.out
                  have hcz18_0 : wr.cell? ⟨gb190, 0, none⟩ = some (.int .i64 a0_0) := (blk_cell BK190.out 0).trans rfl
                  have hcz18_1 : wr.cell? ⟨gb190, 1, none⟩ = some (.int .i64 a0_1) := (blk_cell BK190.out 1).trans rfl
                  have hcz18_2 : wr.cell? ⟨gb190, 2, none⟩ = some (.bool a0_2) := (blk_cell BK190.out 2).trans rfl
                  have hcz18_3 : wr.cell? ⟨gb190, 3, none⟩ = some (.int .i64 a0_3) := (blk_cell BK190.out 3).trans rfl
                  have hcz18_4 : wr.cell? ⟨gb190, 4, none⟩ = some (.int .i64 a0_4) := (blk_cell BK190.out 4).trans rfl
                  have hcz18_5 : wr.cell? ⟨gb190, 5, none⟩ = some (.int .i64 a0_5) := (blk_cell BK190.out 5).trans rfl
                  have hcz18_6 : wr.cell? ⟨gb190, 6, none⟩ = some (.int .i64 a0_6) := (blk_cell BK190.out 6).trans rfl
                  have hfz18_0 := blk_frozen BK190.out 0
                  have hfz18_1 := blk_frozen BK190.out 1
                  have hfz18_2 := blk_frozen BK190.out 2
                  have hfz18_3 := blk_frozen BK190.out 3
                  have hfz18_4 := blk_frozen BK190.out 4
                  have hfz18_5 := blk_frozen BK190.out 5
                  have hfz18_6 := blk_frozen BK190.out 6
                  go_wp2
                  repeat (go_quiet (fail); try go_wp2)
                  go_roundg k1
                  case measure => have := HK1.out; omega
                  case rel => exact ⟨(wrap64 (x19_1 + 1)), (by first | rfl | (simp; done) | (simp [*]; done)), H', ⟨by have := HK1.out; omega⟩, ⟨by (with_reducible repeat (first | refine blk_drewN ?_ _ | refine blk_drew ?_ | refine blk_alloc ?_ _)); exact BK190.out⟩, ⟨by (with_reducible repeat (first | refine blk_drewN ?_ _ | refine blk_drew ?_ | refine blk_alloc ?_ _)); exact BK191.out⟩, ⟨by repeat (first | (with_reducible first | exact HB.out | apply below_alloc | apply pw_below_drewN | apply below_drew1 | refine below_set ?_ GE190.out | refine below_set ?_ GE191.out) | exact HB.out)⟩⟩
                · rw [if_neg c16] at H
                  have c16b0 : (((rd_L1 l1 x19_1).length : Int) == a0_6) = false := beq_eq_false_iff_ne.mpr c16
                  have c16b1 : (((rd_L1 l1 x19_1).length : Int) != a0_6) = true := bne_iff_ne.mpr c16
                  obtain rfl := Option.some.inj H
                  have p193 : 0 ≤ (x19_1 : Int) := of_decide_eq_true (by first | (with_reducible assumption) | assumption)
                  have q193 : x19_1 < (l1.length : Int) := of_decide_eq_true (by first | (with_reducible assumption) | assumption)
                  obtain ⟨ad193, A193_0, c193_0, e193, hx193_0, hl193_0, hi193_0⟩ := at_L1 HR1.out x19_1 p193 q193
                  cases e193
                  replace hx193_0 := (HB.out.cell (World.block_lt_of_cell? w _ hx193_0)).trans hx193_0
                  have HR193_0 := Aside0.mk hi193_0
                  have HC193_0 := Aside0.mk hl193_0
                  clear hi193_0 hl193_0
                  replace p193 := eq_true p193
                  replace q193 := eq_true q193
                  have hnb19 := NB190_191.out
                  have hnc19 := NB191_190.out
                  have hcz20_0 : wr.cell? ⟨gb190, 0, none⟩ = some (.int .i64 a0_0) := (blk_cell BK190.out 0).trans rfl
                  have hcz20_1 : wr.cell? ⟨gb190, 1, none⟩ = some (.int .i64 a0_1) := (blk_cell BK190.out 1).trans rfl
                  have hcz20_2 : wr.cell? ⟨gb190, 2, none⟩ = some (.bool a0_2) := (blk_cell BK190.out 2).trans rfl
                  have hcz20_3 : wr.cell? ⟨gb190, 3, none⟩ = some (.int .i64 a0_3) := (blk_cell BK190.out 3).trans rfl
                  have hcz20_4 : wr.cell? ⟨gb190, 4, none⟩ = some (.int .i64 a0_4) := (blk_cell BK190.out 4).trans rfl
                  have hcz20_5 : wr.cell? ⟨gb190, 5, none⟩ = some (.int .i64 a0_5) := (blk_cell BK190.out 5).trans rfl
                  have hcz20_6 : wr.cell? ⟨gb190, 6, none⟩ = some (.int .i64 a0_6) := (blk_cell BK190.out 6).trans rfl
                  have hfz20_0 := blk_frozen BK190.out 0
                  have hfz20_1 := blk_frozen BK190.out 1
                  have hfz20_2 := blk_frozen BK190.out 2
                  have hfz20_3 := blk_frozen BK190.out 3
                  have hfz20_4 := blk_frozen BK190.out 4
                  have hfz20_5 := blk_frozen BK190.out 5
                  have hfz20_6 := blk_frozen BK190.out 6
                  go_wp2
                  repeat (go_quiet (fail); try go_wp2)
                  go_ret
                  exact ⟨by first | rfl | (simp [errW_none, errW_some] <;> rfl) | (simp [*, errW_none, errW_some] <;> rfl), by repeat (first | (with_reducible first | exact HB.out | apply below_alloc | apply pw_below_drewN | apply below_drew1 | refine below_set ?_ GE190.out | refine below_set ?_ GE191.out) | exact HB.out)⟩
              · rw [if_neg c15] at H
                exact absurd H (by simp)
            · rw [if_neg c14] at H
              exact absurd H (by simp)
          · rw [if_neg c13] at H
            have c13b0 : decide (x19_1 < (l1.length : Int)) = false := decide_eq_false c13
            clear c13
            replace H := Option.bind_eq_some_iff.mp H
            obtain ⟨⟨t194, t195⟩, A210, H⟩ := H
            replace H : ((sackbutref05_Check.f k1 t194 t195 l1).bind fun t196 => (if t196 = 0 then (if a2_0 < 0 then (some 1) else (if a2_0 > 16 then (some 1) else (if a2_1 < 0 then (some 1) else (if a2_1 > 4 then (some 1) else (some 0))))) else (some t196))) = some r := H
            have A21 := Aside0.mk A210
            clear A210
            replace H := Option.bind_eq_some_iff.mp H
            obtain ⟨t196, A220, H⟩ := H
            replace H : (if t196 = 0 then (if a2_0 < 0 then (some 1) else (if a2_0 > 16 then (some 1) else (if a2_1 < 0 then (some 1) else (if a2_1 > 4 then (some 1) else (some 0))))) else (some t196)) = some r := H
            have A22 := Aside0.mk A220
            clear A220
            by_cases c23 : t196 = 0
            · rw [if_pos c23] at H
              have c23b0 : (t196 == 0) = true := beq_iff_eq.mpr c23
              have c23b1 : (t196 != 0) = false := bne_eq_false_iff_eq.mpr c23
              clear c23
              by_cases c24 : a2_0 < 0
              · rw [if_pos c24] at H
                have c24b0 : decide (a2_0 < 0) = true := decide_eq_true c24
                clear c24
                obtain rfl := Option.some.inj H
                have hnb25 := NB190_191.out
                have hnc25 := NB191_190.out
                have hcz26_0 : wr.cell? ⟨gb190, 0, none⟩ = some (.int .i64 a0_0) := (blk_cell BK190.out 0).trans rfl
                have hcz26_1 : wr.cell? ⟨gb190, 1, none⟩ = some (.int .i64 a0_1) := (blk_cell BK190.out 1).trans rfl
                have hcz26_2 : wr.cell? ⟨gb190, 2, none⟩ = some (.bool a0_2) := (blk_cell BK190.out 2).trans rfl
                have hcz26_3 : wr.cell? ⟨gb190, 3, none⟩ = some (.int .i64 a0_3) := (blk_cell BK190.out 3).trans rfl
                have hcz26_4 : wr.cell? ⟨gb190, 4, none⟩ = some (.int .i64 a0_4) := (blk_cell BK190.out 4).trans rfl
                have hcz26_5 : wr.cell? ⟨gb190, 5, none⟩ = some (.int .i64 a0_5) := (blk_cell BK190.out 5).trans rfl
                have hcz26_6 : wr.cell? ⟨gb190, 6, none⟩ = some (.int .i64 a0_6) := (blk_cell BK190.out 6).trans rfl
                have hfz26_0 := blk_frozen BK190.out 0
                have hfz26_1 := blk_frozen BK190.out 1
                have hfz26_2 := blk_frozen BK190.out 2
                have hfz26_3 := blk_frozen BK190.out 3
                have hfz26_4 := blk_frozen BK190.out 4
                have hfz26_5 := blk_frozen BK190.out 5
                have hfz26_6 := blk_frozen BK190.out 6
                go_wp2_with (first | (go_at_call 14; (with_reducible refine (sackbutref18_form.calls a0_0 a0_1 a0_2 a0_3 a0_4 a0_5 a0_6 t194 t195 _ A21.out).mono ?_); rintro e w27 ⟨rfl, hb⟩; have n0_ := Aside0.mk (blk_below (g := gb190) (o := .cells #[.int .i64 a0_0, .int .i64 a0_1, .bool a0_2, .int .i64 a0_3, .int .i64 a0_4, .int .i64 a0_5, .int .i64 a0_6] 23 (0, 0)) (by (with_reducible repeat (first | refine blk_drewN ?_ _ | refine blk_drew ?_ | refine blk_alloc ?_ _)); exact BK190.out) hb); have n1_ := Aside0.mk (blk_below (g := gb191) (o := .cells #[.int .i64 a2_0, .int .i64 a2_1, .bool a2_2, .bool a2_3, .bool a2_4] 26 (0, 0)) (by (with_reducible repeat (first | refine blk_drewN ?_ _ | refine blk_drew ?_ | refine blk_alloc ?_ _)); exact BK191.out) hb); have n2_ := Aside0.mk (below_step (by repeat (first | (with_reducible first | exact HB.out | apply below_alloc | apply pw_below_drewN | apply below_drew1 | refine below_set ?_ GE190.out | refine below_set ?_ GE191.out) | exact HB.out)) hb); clear BK190; clear BK191; clear HB; have BK190 := n0_; have BK191 := n1_; have HB := n2_; clear n0_ n1_ n2_; (try clear hb); (try clear hb2); (try clear hk); (try clear hi)) | (go_at_call 13; (with_reducible refine (sackbutref05_Check.calls k1 t194 t195 _ _ l1 t196 _ ?side1 ?side2 A22.out).mono ?_); (case side1 => repeat (first | exact (Kd.C_below HR1.out HB.out) | (with_reducible refine Kd.C_alloc ?_ _) | (with_reducible refine Kd.C_drewN ?_ _) | (with_reducible refine Kd.C_drew ?_))); (case side2 => exact HC1.out); rintro e w28 ⟨rfl, hb⟩; have n0_ := Aside0.mk (blk_below (g := gb190) (o := .cells #[.int .i64 a0_0, .int .i64 a0_1, .bool a0_2, .int .i64 a0_3, .int .i64 a0_4, .int .i64 a0_5, .int .i64 a0_6] 23 (0, 0)) (by (with_reducible repeat (first | refine blk_drewN ?_ _ | refine blk_drew ?_ | refine blk_alloc ?_ _)); exact BK190.out) hb); have n1_ := Aside0.mk (blk_below (g := gb191) (o := .cells #[.int .i64 a2_0, .int .i64 a2_1, .bool a2_2, .bool a2_3, .bool a2_4] 26 (0, 0)) (by (with_reducible repeat (first | refine blk_drewN ?_ _ | refine blk_drew ?_ | refine blk_alloc ?_ _)); exact BK191.out) hb); have n2_ := Aside0.mk (below_step (by repeat (first | (with_reducible first | exact HB.out | apply below_alloc | apply pw_below_drewN | apply below_drew1 | refine below_set ?_ GE190.out | refine below_set ?_ GE191.out) | exact HB.out)) hb); clear BK190; clear BK191; clear HB; have BK190 := n0_; have BK191 := n1_; have HB := n2_; clear n0_ n1_ n2_; (try clear hb); (try clear hb2); (try clear hk); (try clear hi); have hcz29_0 : w28.cell? ⟨gb191, 0, none⟩ = some (.int .i64 a2_0) := (blk_cell BK191.out 0).trans rfl; have hcz29_1 : w28.cell? ⟨gb191, 1, none⟩ = some (.int .i64 a2_1) := (blk_cell BK191.out 1).trans rfl; have hcz29_2 : w28.cell? ⟨gb191, 2, none⟩ = some (.bool a2_2) := (blk_cell BK191.out 2).trans rfl; have hcz29_3 : w28.cell? ⟨gb191, 3, none⟩ = some (.bool a2_3) := (blk_cell BK191.out 3).trans rfl; have hcz29_4 : w28.cell? ⟨gb191, 4, none⟩ = some (.bool a2_4) := (blk_cell BK191.out 4).trans rfl; have hfz29_0 := blk_frozen BK191.out 0; have hfz29_1 := blk_frozen BK191.out 1; have hfz29_2 := blk_frozen BK191.out 2; have hfz29_3 := blk_frozen BK191.out 3; have hfz29_4 := blk_frozen BK191.out 4))
                repeat (go_quiet (first | (go_at_call 14; (with_reducible refine (sackbutref18_form.calls a0_0 a0_1 a0_2 a0_3 a0_4 a0_5 a0_6 t194 t195 _ A21.out).mono ?_); rintro e w27 ⟨rfl, hb⟩; have n0_ := Aside0.mk (blk_below (g := gb190) (o := .cells #[.int .i64 a0_0, .int .i64 a0_1, .bool a0_2, .int .i64 a0_3, .int .i64 a0_4, .int .i64 a0_5, .int .i64 a0_6] 23 (0, 0)) (by (with_reducible repeat (first | refine blk_drewN ?_ _ | refine blk_drew ?_ | refine blk_alloc ?_ _)); exact BK190.out) hb); have n1_ := Aside0.mk (blk_below (g := gb191) (o := .cells #[.int .i64 a2_0, .int .i64 a2_1, .bool a2_2, .bool a2_3, .bool a2_4] 26 (0, 0)) (by (with_reducible repeat (first | refine blk_drewN ?_ _ | refine blk_drew ?_ | refine blk_alloc ?_ _)); exact BK191.out) hb); have n2_ := Aside0.mk (below_step (by repeat (first | (with_reducible first | exact HB.out | apply below_alloc | apply pw_below_drewN | apply below_drew1 | refine below_set ?_ GE190.out | refine below_set ?_ GE191.out) | exact HB.out)) hb); clear BK190; clear BK191; clear HB; have BK190 := n0_; have BK191 := n1_; have HB := n2_; clear n0_ n1_ n2_; (try clear hb); (try clear hb2); (try clear hk); (try clear hi)) | (go_at_call 13; (with_reducible refine (sackbutref05_Check.calls k1 t194 t195 _ _ l1 t196 _ ?side1 ?side2 A22.out).mono ?_); (case side1 => repeat (first | exact (Kd.C_below HR1.out HB.out) | (with_reducible refine Kd.C_alloc ?_ _) | (with_reducible refine Kd.C_drewN ?_ _) | (with_reducible refine Kd.C_drew ?_))); (case side2 => exact HC1.out); rintro e w28 ⟨rfl, hb⟩; have n0_ := Aside0.mk (blk_below (g := gb190) (o := .cells #[.int .i64 a0_0, .int .i64 a0_1, .bool a0_2, .int .i64 a0_3, .int .i64 a0_4, .int .i64 a0_5, .int .i64 a0_6] 23 (0, 0)) (by (with_reducible repeat (first | refine blk_drewN ?_ _ | refine blk_drew ?_ | refine blk_alloc ?_ _)); exact BK190.out) hb); have n1_ := Aside0.mk (blk_below (g := gb191) (o := .cells #[.int .i64 a2_0, .int .i64 a2_1, .bool a2_2, .bool a2_3, .bool a2_4] 26 (0, 0)) (by (with_reducible repeat (first | refine blk_drewN ?_ _ | refine blk_drew ?_ | refine blk_alloc ?_ _)); exact BK191.out) hb); have n2_ := Aside0.mk (below_step (by repeat (first | (with_reducible first | exact HB.out | apply below_alloc | apply pw_below_drewN | apply below_drew1 | refine below_set ?_ GE190.out | refine below_set ?_ GE191.out) | exact HB.out)) hb); clear BK190; clear BK191; clear HB; have BK190 := n0_; have BK191 := n1_; have HB := n2_; clear n0_ n1_ n2_; (try clear hb); (try clear hb2); (try clear hk); (try clear hi); have hcz29_0 : w28.cell? ⟨gb191, 0, none⟩ = some (.int .i64 a2_0) := (blk_cell BK191.out 0).trans rfl; have hcz29_1 : w28.cell? ⟨gb191, 1, none⟩ = some (.int .i64 a2_1) := (blk_cell BK191.out 1).trans rfl; have hcz29_2 : w28.cell? ⟨gb191, 2, none⟩ = some (.bool a2_2) := (blk_cell BK191.out 2).trans rfl; have hcz29_3 : w28.cell? ⟨gb191, 3, none⟩ = some (.bool a2_3) := (blk_cell BK191.out 3).trans rfl; have hcz29_4 : w28.cell? ⟨gb191, 4, none⟩ = some (.bool a2_4) := (blk_cell BK191.out 4).trans rfl; have hfz29_0 := blk_frozen BK191.out 0; have hfz29_1 := blk_frozen BK191.out 1; have hfz29_2 := blk_frozen BK191.out 2; have hfz29_3 := blk_frozen BK191.out 3; have hfz29_4 := blk_frozen BK191.out 4)); try go_wp2_with (first | (go_at_call 14; (with_reducible refine (sackbutref18_form.calls a0_0 a0_1 a0_2 a0_3 a0_4 a0_5 a0_6 t194 t195 _ A21.out).mono ?_); rintro e w27 ⟨rfl, hb⟩; have n0_ := Aside0.mk (blk_below (g := gb190) (o := .cells #[.int .i64 a0_0, .int .i64 a0_1, .bool a0_2, .int .i64 a0_3, .int .i64 a0_4, .int .i64 a0_5, .int .i64 a0_6] 23 (0, 0)) (by (with_reducible repeat (first | refine blk_drewN ?_ _ | refine blk_drew ?_ | refine blk_alloc ?_ _)); exact BK190.out) hb); have n1_ := Aside0.mk (blk_below (g := gb191) (o := .cells #[.int .i64 a2_0, .int .i64 a2_1, .bool a2_2, .bool a2_3, .bool a2_4] 26 (0, 0)) (by (with_reducible repeat (first | refine blk_drewN ?_ _ | refine blk_drew ?_ | refine blk_alloc ?_ _)); exact BK191.out) hb); have n2_ := Aside0.mk (below_step (by repeat (first | (with_reducible first | exact HB.out | apply below_alloc | apply pw_below_drewN | apply below_drew1 | refine below_set ?_ GE190.out | refine below_set ?_ GE191.out) | exact HB.out)) hb); clear BK190; clear BK191; clear HB; have BK190 := n0_; have BK191 := n1_; have HB := n2_; clear n0_ n1_ n2_; (try clear hb); (try clear hb2); (try clear hk); (try clear hi)) | (go_at_call 13; (with_reducible refine (sackbutref05_Check.calls k1 t194 t195 _ _ l1 t196 _ ?side1 ?side2 A22.out).mono ?_); (case side1 => repeat (first | exact (Kd.C_below HR1.out HB.out) | (with_reducible refine Kd.C_alloc ?_ _) | (with_reducible refine Kd.C_drewN ?_ _) | (with_reducible refine Kd.C_drew ?_))); (case side2 => exact HC1.out); rintro e w28 ⟨rfl, hb⟩; have n0_ := Aside0.mk (blk_below (g := gb190) (o := .cells #[.int .i64 a0_0, .int .i64 a0_1, .bool a0_2, .int .i64 a0_3, .int .i64 a0_4, .int .i64 a0_5, .int .i64 a0_6] 23 (0, 0)) (by (with_reducible repeat (first | refine blk_drewN ?_ _ | refine blk_drew ?_ | refine blk_alloc ?_ _)); exact BK190.out) hb); have n1_ := Aside0.mk (blk_below (g := gb191) (o := .cells #[.int .i64 a2_0, .int .i64 a2_1, .bool a2_2, .bool a2_3, .bool a2_4] 26 (0, 0)) (by (with_reducible repeat (first | refine blk_drewN ?_ _ | refine blk_drew ?_ | refine blk_alloc ?_ _)); exact BK191.out) hb); have n2_ := Aside0.mk (below_step (by repeat (first | (with_reducible first | exact HB.out | apply below_alloc | apply pw_below_drewN | apply below_drew1 | refine below_set ?_ GE190.out | refine below_set ?_ GE191.out) | exact HB.out)) hb); clear BK190; clear BK191; clear HB; have BK190 := n0_; have BK191 := n1_; have HB := n2_; clear n0_ n1_ n2_; (try clear hb); (try clear hb2); (try clear hk); (try clear hi); have hcz29_0 : w28.cell? ⟨gb191, 0, none⟩ = some (.int .i64 a2_0) := (blk_cell BK191.out 0).trans rfl; have hcz29_1 : w28.cell? ⟨gb191, 1, none⟩ = some (.int .i64 a2_1) := (blk_cell BK191.out 1).trans rfl; have hcz29_2 : w28.cell? ⟨gb191, 2, none⟩ = some (.bool a2_2) := (blk_cell BK191.out 2).trans rfl; have hcz29_3 : w28.cell? ⟨gb191, 3, none⟩ = some (.bool a2_3) := (blk_cell BK191.out 3).trans rfl; have hcz29_4 : w28.cell? ⟨gb191, 4, none⟩ = some (.bool a2_4) := (blk_cell BK191.out 4).trans rfl; have hfz29_0 := blk_frozen BK191.out 0; have hfz29_1 := blk_frozen BK191.out 1; have hfz29_2 := blk_frozen BK191.out 2; have hfz29_3 := blk_frozen BK191.out 3; have hfz29_4 := blk_frozen BK191.out 4)))
                go_ret
                exact ⟨by first | rfl | (simp [errW_none, errW_some] <;> rfl) | (simp [*, errW_none, errW_some] <;> rfl), by repeat (first | (with_reducible first | exact HB.out | apply below_alloc | apply pw_below_drewN | apply below_drew1 | refine below_set ?_ GE190.out | refine below_set ?_ GE191.out) | exact HB.out)⟩
              · rw [if_neg c24] at H
                have c24b0 : decide (a2_0 < 0) = false := decide_eq_false c24
                clear c24
                by_cases c30 : a2_0 > 16
                · rw [if_pos c30] at H
                  have c30b0 : decide (16 < a2_0) = true := decide_eq_true c30
                  clear c30
                  obtain rfl := Option.some.inj H
                  have hnb31 := NB190_191.out
                  have hnc31 := NB191_190.out
                  have hcz32_0 : wr.cell? ⟨gb190, 0, none⟩ = some (.int .i64 a0_0) := (blk_cell BK190.out 0).trans rfl
                  have hcz32_1 : wr.cell? ⟨gb190, 1, none⟩ = some (.int .i64 a0_1) := (blk_cell BK190.out 1).trans rfl
                  have hcz32_2 : wr.cell? ⟨gb190, 2, none⟩ = some (.bool a0_2) := (blk_cell BK190.out 2).trans rfl
                  have hcz32_3 : wr.cell? ⟨gb190, 3, none⟩ = some (.int .i64 a0_3) := (blk_cell BK190.out 3).trans rfl
                  have hcz32_4 : wr.cell? ⟨gb190, 4, none⟩ = some (.int .i64 a0_4) := (blk_cell BK190.out 4).trans rfl
                  have hcz32_5 : wr.cell? ⟨gb190, 5, none⟩ = some (.int .i64 a0_5) := (blk_cell BK190.out 5).trans rfl
                  have hcz32_6 : wr.cell? ⟨gb190, 6, none⟩ = some (.int .i64 a0_6) := (blk_cell BK190.out 6).trans rfl
                  have hfz32_0 := blk_frozen BK190.out 0
                  have hfz32_1 := blk_frozen BK190.out 1
                  have hfz32_2 := blk_frozen BK190.out 2
                  have hfz32_3 := blk_frozen BK190.out 3
                  have hfz32_4 := blk_frozen BK190.out 4
                  have hfz32_5 := blk_frozen BK190.out 5
                  have hfz32_6 := blk_frozen BK190.out 6
                  go_wp2_with (first | (go_at_call 14; (with_reducible refine (sackbutref18_form.calls a0_0 a0_1 a0_2 a0_3 a0_4 a0_5 a0_6 t194 t195 _ A21.out).mono ?_); rintro e w33 ⟨rfl, hb⟩; have n0_ := Aside0.mk (blk_below (g := gb190) (o := .cells #[.int .i64 a0_0, .int .i64 a0_1, .bool a0_2, .int .i64 a0_3, .int .i64 a0_4, .int .i64 a0_5, .int .i64 a0_6] 23 (0, 0)) (by (with_reducible repeat (first | refine blk_drewN ?_ _ | refine blk_drew ?_ | refine blk_alloc ?_ _)); exact BK190.out) hb); have n1_ := Aside0.mk (blk_below (g := gb191) (o := .cells #[.int .i64 a2_0, .int .i64 a2_1, .bool a2_2, .bool a2_3, .bool a2_4] 26 (0, 0)) (by (with_reducible repeat (first | refine blk_drewN ?_ _ | refine blk_drew ?_ | refine blk_alloc ?_ _)); exact BK191.out) hb); have n2_ := Aside0.mk (below_step (by repeat (first | (with_reducible first | exact HB.out | apply below_alloc | apply pw_below_drewN | apply below_drew1 | refine below_set ?_ GE190.out | refine below_set ?_ GE191.out) | exact HB.out)) hb); clear BK190; clear BK191; clear HB; have BK190 := n0_; have BK191 := n1_; have HB := n2_; clear n0_ n1_ n2_; (try clear hb); (try clear hb2); (try clear hk); (try clear hi)) | (go_at_call 13; (with_reducible refine (sackbutref05_Check.calls k1 t194 t195 _ _ l1 t196 _ ?side1 ?side2 A22.out).mono ?_); (case side1 => repeat (first | exact (Kd.C_below HR1.out HB.out) | (with_reducible refine Kd.C_alloc ?_ _) | (with_reducible refine Kd.C_drewN ?_ _) | (with_reducible refine Kd.C_drew ?_))); (case side2 => exact HC1.out); rintro e w34 ⟨rfl, hb⟩; have n0_ := Aside0.mk (blk_below (g := gb190) (o := .cells #[.int .i64 a0_0, .int .i64 a0_1, .bool a0_2, .int .i64 a0_3, .int .i64 a0_4, .int .i64 a0_5, .int .i64 a0_6] 23 (0, 0)) (by (with_reducible repeat (first | refine blk_drewN ?_ _ | refine blk_drew ?_ | refine blk_alloc ?_ _)); exact BK190.out) hb); have n1_ := Aside0.mk (blk_below (g := gb191) (o := .cells #[.int .i64 a2_0, .int .i64 a2_1, .bool a2_2, .bool a2_3, .bool a2_4] 26 (0, 0)) (by (with_reducible repeat (first | refine blk_drewN ?_ _ | refine blk_drew ?_ | refine blk_alloc ?_ _)); exact BK191.out) hb); have n2_ := Aside0.mk (below_step (by repeat (first | (with_reducible first | exact HB.out | apply below_alloc | apply pw_below_drewN | apply below_drew1 | refine below_set ?_ GE190.out | refine below_set ?_ GE191.out) | exact HB.out)) hb); clear BK190; clear BK191; clear HB; have BK190 := n0_; have BK191 := n1_; have HB := n2_; clear n0_ n1_ n2_; (try clear hb); (try clear hb2); (try clear hk); (try clear hi); have hcz35_0 : w34.cell? ⟨gb191, 0, none⟩ = some (.int .i64 a2_0) := (blk_cell BK191.out 0).trans rfl; have hcz35_1 : w34.cell? ⟨gb191, 1, none⟩ = some (.int .i64 a2_1) := (blk_cell BK191.out 1).trans rfl; have hcz35_2 : w34.cell? ⟨gb191, 2, none⟩ = some (.bool a2_2) := (blk_cell BK191.out 2).trans rfl; have hcz35_3 : w34.cell? ⟨gb191, 3, none⟩ = some (.bool a2_3) := (blk_cell BK191.out 3).trans rfl; have hcz35_4 : w34.cell? ⟨gb191, 4, none⟩ = some (.bool a2_4) := (blk_cell BK191.out 4).trans rfl; have hfz35_0 := blk_frozen BK191.out 0; have hfz35_1 := blk_frozen BK191.out 1; have hfz35_2 := blk_frozen BK191.out 2; have hfz35_3 := blk_frozen BK191.out 3; have hfz35_4 := blk_frozen BK191.out 4))
                  repeat (go_quiet (first | (go_at_call 14; (with_reducible refine (sackbutref18_form.calls a0_0 a0_1 a0_2 a0_3 a0_4 a0_5 a0_6 t194 t195 _ A21.out).mono ?_); rintro e w33 ⟨rfl, hb⟩; have n0_ := Aside0.mk (blk_below (g := gb190) (o := .cells #[.int .i64 a0_0, .int .i64 a0_1, .bool a0_2, .int .i64 a0_3, .int .i64 a0_4, .int .i64 a0_5, .int .i64 a0_6] 23 (0, 0)) (by (with_reducible repeat (first | refine blk_drewN ?_ _ | refine blk_drew ?_ | refine blk_alloc ?_ _)); exact BK190.out) hb); have n1_ := Aside0.mk (blk_below (g := gb191) (o := .cells #[.int .i64 a2_0, .int .i64 a2_1, .bool a2_2, .bool a2_3, .bool a2_4] 26 (0, 0)) (by (with_reducible repeat (first | refine blk_drewN ?_ _ | refine blk_drew ?_ | refine blk_alloc ?_ _)); exact BK191.out) hb); have n2_ := Aside0.mk (below_step (by repeat (first | (with_reducible first | exact HB.out | apply below_alloc | apply pw_below_drewN | apply below_drew1 | refine below_set ?_ GE190.out | refine below_set ?_ GE191.out) | exact HB.out)) hb); clear BK190; clear BK191; clear HB; have BK190 := n0_; have BK191 := n1_; have HB := n2_; clear n0_ n1_ n2_; (try clear hb); (try clear hb2); (try clear hk); (try clear hi)) | (go_at_call 13; (with_reducible refine (sackbutref05_Check.calls k1 t194 t195 _ _ l1 t196 _ ?side1 ?side2 A22.out).mono ?_); (case side1 => repeat (first | exact (Kd.C_below HR1.out HB.out) | (with_reducible refine Kd.C_alloc ?_ _) | (with_reducible refine Kd.C_drewN ?_ _) | (with_reducible refine Kd.C_drew ?_))); (case side2 => exact HC1.out); rintro e w34 ⟨rfl, hb⟩; have n0_ := Aside0.mk (blk_below (g := gb190) (o := .cells #[.int .i64 a0_0, .int .i64 a0_1, .bool a0_2, .int .i64 a0_3, .int .i64 a0_4, .int .i64 a0_5, .int .i64 a0_6] 23 (0, 0)) (by (with_reducible repeat (first | refine blk_drewN ?_ _ | refine blk_drew ?_ | refine blk_alloc ?_ _)); exact BK190.out) hb); have n1_ := Aside0.mk (blk_below (g := gb191) (o := .cells #[.int .i64 a2_0, .int .i64 a2_1, .bool a2_2, .bool a2_3, .bool a2_4] 26 (0, 0)) (by (with_reducible repeat (first | refine blk_drewN ?_ _ | refine blk_drew ?_ | refine blk_alloc ?_ _)); exact BK191.out) hb); have n2_ := Aside0.mk (below_step (by repeat (first | (with_reducible first | exact HB.out | apply below_alloc | apply pw_below_drewN | apply below_drew1 | refine below_set ?_ GE190.out | refine below_set ?_ GE191.out) | exact HB.out)) hb); clear BK190; clear BK191; clear HB; have BK190 := n0_; have BK191 := n1_; have HB := n2_; clear n0_ n1_ n2_; (try clear hb); (try clear hb2); (try clear hk); (try clear hi); have hcz35_0 : w34.cell? ⟨gb191, 0, none⟩ = some (.int .i64 a2_0) := (blk_cell BK191.out 0).trans rfl; have hcz35_1 : w34.cell? ⟨gb191, 1, none⟩ = some (.int .i64 a2_1) := (blk_cell BK191.out 1).trans rfl; have hcz35_2 : w34.cell? ⟨gb191, 2, none⟩ = some (.bool a2_2) := (blk_cell BK191.out 2).trans rfl; have hcz35_3 : w34.cell? ⟨gb191, 3, none⟩ = some (.bool a2_3) := (blk_cell BK191.out 3).trans rfl; have hcz35_4 : w34.cell? ⟨gb191, 4, none⟩ = some (.bool a2_4) := (blk_cell BK191.out 4).trans rfl; have hfz35_0 := blk_frozen BK191.out 0; have hfz35_1 := blk_frozen BK191.out 1; have hfz35_2 := blk_frozen BK191.out 2; have hfz35_3 := blk_frozen BK191.out 3; have hfz35_4 := blk_frozen BK191.out 4)); try go_wp2_with (first | (go_at_call 14; (with_reducible refine (sackbutref18_form.calls a0_0 a0_1 a0_2 a0_3 a0_4 a0_5 a0_6 t194 t195 _ A21.out).mono ?_); rintro e w33 ⟨rfl, hb⟩; have n0_ := Aside0.mk (blk_below (g := gb190) (o := .cells #[.int .i64 a0_0, .int .i64 a0_1, .bool a0_2, .int .i64 a0_3, .int .i64 a0_4, .int .i64 a0_5, .int .i64 a0_6] 23 (0, 0)) (by (with_reducible repeat (first | refine blk_drewN ?_ _ | refine blk_drew ?_ | refine blk_alloc ?_ _)); exact BK190.out) hb); have n1_ := Aside0.mk (blk_below (g := gb191) (o := .cells #[.int .i64 a2_0, .int .i64 a2_1, .bool a2_2, .bool a2_3, .bool a2_4] 26 (0, 0)) (by (with_reducible repeat (first | refine blk_drewN ?_ _ | refine blk_drew ?_ | refine blk_alloc ?_ _)); exact BK191.out) hb); have n2_ := Aside0.mk (below_step (by repeat (first | (with_reducible first | exact HB.out | apply below_alloc | apply pw_below_drewN | apply below_drew1 | refine below_set ?_ GE190.out | refine below_set ?_ GE191.out) | exact HB.out)) hb); clear BK190; clear BK191; clear HB; have BK190 := n0_; have BK191 := n1_; have HB := n2_; clear n0_ n1_ n2_; (try clear hb); (try clear hb2); (try clear hk); (try clear hi)) | (go_at_call 13; (with_reducible refine (sackbutref05_Check.calls k1 t194 t195 _ _ l1 t196 _ ?side1 ?side2 A22.out).mono ?_); (case side1 => repeat (first | exact (Kd.C_below HR1.out HB.out) | (with_reducible refine Kd.C_alloc ?_ _) | (with_reducible refine Kd.C_drewN ?_ _) | (with_reducible refine Kd.C_drew ?_))); (case side2 => exact HC1.out); rintro e w34 ⟨rfl, hb⟩; have n0_ := Aside0.mk (blk_below (g := gb190) (o := .cells #[.int .i64 a0_0, .int .i64 a0_1, .bool a0_2, .int .i64 a0_3, .int .i64 a0_4, .int .i64 a0_5, .int .i64 a0_6] 23 (0, 0)) (by (with_reducible repeat (first | refine blk_drewN ?_ _ | refine blk_drew ?_ | refine blk_alloc ?_ _)); exact BK190.out) hb); have n1_ := Aside0.mk (blk_below (g := gb191) (o := .cells #[.int .i64 a2_0, .int .i64 a2_1, .bool a2_2, .bool a2_3, .bool a2_4] 26 (0, 0)) (by (with_reducible repeat (first | refine blk_drewN ?_ _ | refine blk_drew ?_ | refine blk_alloc ?_ _)); exact BK191.out) hb); have n2_ := Aside0.mk (below_step (by repeat (first | (with_reducible first | exact HB.out | apply below_alloc | apply pw_below_drewN | apply below_drew1 | refine below_set ?_ GE190.out | refine below_set ?_ GE191.out) | exact HB.out)) hb); clear BK190; clear BK191; clear HB; have BK190 := n0_; have BK191 := n1_; have HB := n2_; clear n0_ n1_ n2_; (try clear hb); (try clear hb2); (try clear hk); (try clear hi); have hcz35_0 : w34.cell? ⟨gb191, 0, none⟩ = some (.int .i64 a2_0) := (blk_cell BK191.out 0).trans rfl; have hcz35_1 : w34.cell? ⟨gb191, 1, none⟩ = some (.int .i64 a2_1) := (blk_cell BK191.out 1).trans rfl; have hcz35_2 : w34.cell? ⟨gb191, 2, none⟩ = some (.bool a2_2) := (blk_cell BK191.out 2).trans rfl; have hcz35_3 : w34.cell? ⟨gb191, 3, none⟩ = some (.bool a2_3) := (blk_cell BK191.out 3).trans rfl; have hcz35_4 : w34.cell? ⟨gb191, 4, none⟩ = some (.bool a2_4) := (blk_cell BK191.out 4).trans rfl; have hfz35_0 := blk_frozen BK191.out 0; have hfz35_1 := blk_frozen BK191.out 1; have hfz35_2 := blk_frozen BK191.out 2; have hfz35_3 := blk_frozen BK191.out 3; have hfz35_4 := blk_frozen BK191.out 4)))
                  go_ret
                  exact ⟨by first | rfl | (simp [errW_none, errW_some] <;> rfl) | (simp [*, errW_none, errW_some] <;> rfl), by repeat (first | (with_reducible first | exact HB.out | apply below_alloc | apply pw_below_drewN | apply below_drew1 | refine below_set ?_ GE190.out | refine below_set ?_ GE191.out) | exact HB.out)⟩
                · rw [if_neg c30] at H
                  have c30b0 : decide (16 < a2_0) = false := decide_eq_false c30
                  clear c30
                  by_cases c36 : a2_1 < 0
                  · rw [if_pos c36] at H
                    have c36b0 : decide (a2_1 < 0) = true := decide_eq_true c36
                    clear c36
                    obtain rfl := Option.some.inj H
                    have hnb37 := NB190_191.out
                    have hnc37 := NB191_190.out
                    have hcz38_0 : wr.cell? ⟨gb190, 0, none⟩ = some (.int .i64 a0_0) := (blk_cell BK190.out 0).trans rfl
                    have hcz38_1 : wr.cell? ⟨gb190, 1, none⟩ = some (.int .i64 a0_1) := (blk_cell BK190.out 1).trans rfl
                    have hcz38_2 : wr.cell? ⟨gb190, 2, none⟩ = some (.bool a0_2) := (blk_cell BK190.out 2).trans rfl
                    have hcz38_3 : wr.cell? ⟨gb190, 3, none⟩ = some (.int .i64 a0_3) := (blk_cell BK190.out 3).trans rfl
                    have hcz38_4 : wr.cell? ⟨gb190, 4, none⟩ = some (.int .i64 a0_4) := (blk_cell BK190.out 4).trans rfl
                    have hcz38_5 : wr.cell? ⟨gb190, 5, none⟩ = some (.int .i64 a0_5) := (blk_cell BK190.out 5).trans rfl
                    have hcz38_6 : wr.cell? ⟨gb190, 6, none⟩ = some (.int .i64 a0_6) := (blk_cell BK190.out 6).trans rfl
                    have hfz38_0 := blk_frozen BK190.out 0
                    have hfz38_1 := blk_frozen BK190.out 1
                    have hfz38_2 := blk_frozen BK190.out 2
                    have hfz38_3 := blk_frozen BK190.out 3
                    have hfz38_4 := blk_frozen BK190.out 4
                    have hfz38_5 := blk_frozen BK190.out 5
                    have hfz38_6 := blk_frozen BK190.out 6
                    go_wp2_with (first | (go_at_call 14; (with_reducible refine (sackbutref18_form.calls a0_0 a0_1 a0_2 a0_3 a0_4 a0_5 a0_6 t194 t195 _ A21.out).mono ?_); rintro e w39 ⟨rfl, hb⟩; have n0_ := Aside0.mk (blk_below (g := gb190) (o := .cells #[.int .i64 a0_0, .int .i64 a0_1, .bool a0_2, .int .i64 a0_3, .int .i64 a0_4, .int .i64 a0_5, .int .i64 a0_6] 23 (0, 0)) (by (with_reducible repeat (first | refine blk_drewN ?_ _ | refine blk_drew ?_ | refine blk_alloc ?_ _)); exact BK190.out) hb); have n1_ := Aside0.mk (blk_below (g := gb191) (o := .cells #[.int .i64 a2_0, .int .i64 a2_1, .bool a2_2, .bool a2_3, .bool a2_4] 26 (0, 0)) (by (with_reducible repeat (first | refine blk_drewN ?_ _ | refine blk_drew ?_ | refine blk_alloc ?_ _)); exact BK191.out) hb); have n2_ := Aside0.mk (below_step (by repeat (first | (with_reducible first | exact HB.out | apply below_alloc | apply pw_below_drewN | apply below_drew1 | refine below_set ?_ GE190.out | refine below_set ?_ GE191.out) | exact HB.out)) hb); clear BK190; clear BK191; clear HB; have BK190 := n0_; have BK191 := n1_; have HB := n2_; clear n0_ n1_ n2_; (try clear hb); (try clear hb2); (try clear hk); (try clear hi)) | (go_at_call 13; (with_reducible refine (sackbutref05_Check.calls k1 t194 t195 _ _ l1 t196 _ ?side1 ?side2 A22.out).mono ?_); (case side1 => repeat (first | exact (Kd.C_below HR1.out HB.out) | (with_reducible refine Kd.C_alloc ?_ _) | (with_reducible refine Kd.C_drewN ?_ _) | (with_reducible refine Kd.C_drew ?_))); (case side2 => exact HC1.out); rintro e w40 ⟨rfl, hb⟩; have n0_ := Aside0.mk (blk_below (g := gb190) (o := .cells #[.int .i64 a0_0, .int .i64 a0_1, .bool a0_2, .int .i64 a0_3, .int .i64 a0_4, .int .i64 a0_5, .int .i64 a0_6] 23 (0, 0)) (by (with_reducible repeat (first | refine blk_drewN ?_ _ | refine blk_drew ?_ | refine blk_alloc ?_ _)); exact BK190.out) hb); have n1_ := Aside0.mk (blk_below (g := gb191) (o := .cells #[.int .i64 a2_0, .int .i64 a2_1, .bool a2_2, .bool a2_3, .bool a2_4] 26 (0, 0)) (by (with_reducible repeat (first | refine blk_drewN ?_ _ | refine blk_drew ?_ | refine blk_alloc ?_ _)); exact BK191.out) hb); have n2_ := Aside0.mk (below_step (by repeat (first | (with_reducible first | exact HB.out | apply below_alloc | apply pw_below_drewN | apply below_drew1 | refine below_set ?_ GE190.out | refine below_set ?_ GE191.out) | exact HB.out)) hb); clear BK190; clear BK191; clear HB; have BK190 := n0_; have BK191 := n1_; have HB := n2_; clear n0_ n1_ n2_; (try clear hb); (try clear hb2); (try clear hk); (try clear hi); have hcz41_0 : w40.cell? ⟨gb191, 0, none⟩ = some (.int .i64 a2_0) := (blk_cell BK191.out 0).trans rfl; have hcz41_1 : w40.cell? ⟨gb191, 1, none⟩ = some (.int .i64 a2_1) := (blk_cell BK191.out 1).trans rfl; have hcz41_2 : w40.cell? ⟨gb191, 2, none⟩ = some (.bool a2_2) := (blk_cell BK191.out 2).trans rfl; have hcz41_3 : w40.cell? ⟨gb191, 3, none⟩ = some (.bool a2_3) := (blk_cell BK191.out 3).trans rfl; have hcz41_4 : w40.cell? ⟨gb191, 4, none⟩ = some (.bool a2_4) := (blk_cell BK191.out 4).trans rfl; have hfz41_0 := blk_frozen BK191.out 0; have hfz41_1 := blk_frozen BK191.out 1; have hfz41_2 := blk_frozen BK191.out 2; have hfz41_3 := blk_frozen BK191.out 3; have hfz41_4 := blk_frozen BK191.out 4))
                    repeat (go_quiet (first | (go_at_call 14; (with_reducible refine (sackbutref18_form.calls a0_0 a0_1 a0_2 a0_3 a0_4 a0_5 a0_6 t194 t195 _ A21.out).mono ?_); rintro e w39 ⟨rfl, hb⟩; have n0_ := Aside0.mk (blk_below (g := gb190) (o := .cells #[.int .i64 a0_0, .int .i64 a0_1, .bool a0_2, .int .i64 a0_3, .int .i64 a0_4, .int .i64 a0_5, .int .i64 a0_6] 23 (0, 0)) (by (with_reducible repeat (first | refine blk_drewN ?_ _ | refine blk_drew ?_ | refine blk_alloc ?_ _)); exact BK190.out) hb); have n1_ := Aside0.mk (blk_below (g := gb191) (o := .cells #[.int .i64 a2_0, .int .i64 a2_1, .bool a2_2, .bool a2_3, .bool a2_4] 26 (0, 0)) (by (with_reducible repeat (first | refine blk_drewN ?_ _ | refine blk_drew ?_ | refine blk_alloc ?_ _)); exact BK191.out) hb); have n2_ := Aside0.mk (below_step (by repeat (first | (with_reducible first | exact HB.out | apply below_alloc | apply pw_below_drewN | apply below_drew1 | refine below_set ?_ GE190.out | refine below_set ?_ GE191.out) | exact HB.out)) hb); clear BK190; clear BK191; clear HB; have BK190 := n0_; have BK191 := n1_; have HB := n2_; clear n0_ n1_ n2_; (try clear hb); (try clear hb2); (try clear hk); (try clear hi)) | (go_at_call 13; (with_reducible refine (sackbutref05_Check.calls k1 t194 t195 _ _ l1 t196 _ ?side1 ?side2 A22.out).mono ?_); (case side1 => repeat (first | exact (Kd.C_below HR1.out HB.out) | (with_reducible refine Kd.C_alloc ?_ _) | (with_reducible refine Kd.C_drewN ?_ _) | (with_reducible refine Kd.C_drew ?_))); (case side2 => exact HC1.out); rintro e w40 ⟨rfl, hb⟩; have n0_ := Aside0.mk (blk_below (g := gb190) (o := .cells #[.int .i64 a0_0, .int .i64 a0_1, .bool a0_2, .int .i64 a0_3, .int .i64 a0_4, .int .i64 a0_5, .int .i64 a0_6] 23 (0, 0)) (by (with_reducible repeat (first | refine blk_drewN ?_ _ | refine blk_drew ?_ | refine blk_alloc ?_ _)); exact BK190.out) hb); have n1_ := Aside0.mk (blk_below (g := gb191) (o := .cells #[.int .i64 a2_0, .int .i64 a2_1, .bool a2_2, .bool a2_3, .bool a2_4] 26 (0, 0)) (by (with_reducible repeat (first | refine blk_drewN ?_ _ | refine blk_drew ?_ | refine blk_alloc ?_ _)); exact BK191.out) hb); have n2_ := Aside0.mk (below_step (by repeat (first | (with_reducible first | exact HB.out | apply below_alloc | apply pw_below_drewN | apply below_drew1 | refine below_set ?_ GE190.out | refine below_set ?_ GE191.out) | exact HB.out)) hb); clear BK190; clear BK191; clear HB; have BK190 := n0_; have BK191 := n1_; have HB := n2_; clear n0_ n1_ n2_; (try clear hb); (try clear hb2); (try clear hk); (try clear hi); have hcz41_0 : w40.cell? ⟨gb191, 0, none⟩ = some (.int .i64 a2_0) := (blk_cell BK191.out 0).trans rfl; have hcz41_1 : w40.cell? ⟨gb191, 1, none⟩ = some (.int .i64 a2_1) := (blk_cell BK191.out 1).trans rfl; have hcz41_2 : w40.cell? ⟨gb191, 2, none⟩ = some (.bool a2_2) := (blk_cell BK191.out 2).trans rfl; have hcz41_3 : w40.cell? ⟨gb191, 3, none⟩ = some (.bool a2_3) := (blk_cell BK191.out 3).trans rfl; have hcz41_4 : w40.cell? ⟨gb191, 4, none⟩ = some (.bool a2_4) := (blk_cell BK191.out 4).trans rfl; have hfz41_0 := blk_frozen BK191.out 0; have hfz41_1 := blk_frozen BK191.out 1; have hfz41_2 := blk_frozen BK191.out 2; have hfz41_3 := blk_frozen BK191.out 3; have hfz41_4 := blk_frozen BK191.out 4)); try go_wp2_with (first | (go_at_call 14; (with_reducible refine (sackbutref18_form.calls a0_0 a0_1 a0_2 a0_3 a0_4 a0_5 a0_6 t194 t195 _ A21.out).mono ?_); rintro e w39 ⟨rfl, hb⟩; have n0_ := Aside0.mk (blk_below (g := gb190) (o := .cells #[.int .i64 a0_0, .int .i64 a0_1, .bool a0_2, .int .i64 a0_3, .int .i64 a0_4, .int .i64 a0_5, .int .i64 a0_6] 23 (0, 0)) (by (with_reducible repeat (first | refine blk_drewN ?_ _ | refine blk_drew ?_ | refine blk_alloc ?_ _)); exact BK190.out) hb); have n1_ := Aside0.mk (blk_below (g := gb191) (o := .cells #[.int .i64 a2_0, .int .i64 a2_1, .bool a2_2, .bool a2_3, .bool a2_4] 26 (0, 0)) (by (with_reducible repeat (first | refine blk_drewN ?_ _ | refine blk_drew ?_ | refine blk_alloc ?_ _)); exact BK191.out) hb); have n2_ := Aside0.mk (below_step (by repeat (first | (with_reducible first | exact HB.out | apply below_alloc | apply pw_below_drewN | apply below_drew1 | refine below_set ?_ GE190.out | refine below_set ?_ GE191.out) | exact HB.out)) hb); clear BK190; clear BK191; clear HB; have BK190 := n0_; have BK191 := n1_; have HB := n2_; clear n0_ n1_ n2_; (try clear hb); (try clear hb2); (try clear hk); (try clear hi)) | (go_at_call 13; (with_reducible refine (sackbutref05_Check.calls k1 t194 t195 _ _ l1 t196 _ ?side1 ?side2 A22.out).mono ?_); (case side1 => repeat (first | exact (Kd.C_below HR1.out HB.out) | (with_reducible refine Kd.C_alloc ?_ _) | (with_reducible refine Kd.C_drewN ?_ _) | (with_reducible refine Kd.C_drew ?_))); (case side2 => exact HC1.out); rintro e w40 ⟨rfl, hb⟩; have n0_ := Aside0.mk (blk_below (g := gb190) (o := .cells #[.int .i64 a0_0, .int .i64 a0_1, .bool a0_2, .int .i64 a0_3, .int .i64 a0_4, .int .i64 a0_5, .int .i64 a0_6] 23 (0, 0)) (by (with_reducible repeat (first | refine blk_drewN ?_ _ | refine blk_drew ?_ | refine blk_alloc ?_ _)); exact BK190.out) hb); have n1_ := Aside0.mk (blk_below (g := gb191) (o := .cells #[.int .i64 a2_0, .int .i64 a2_1, .bool a2_2, .bool a2_3, .bool a2_4] 26 (0, 0)) (by (with_reducible repeat (first | refine blk_drewN ?_ _ | refine blk_drew ?_ | refine blk_alloc ?_ _)); exact BK191.out) hb); have n2_ := Aside0.mk (below_step (by repeat (first | (with_reducible first | exact HB.out | apply below_alloc | apply pw_below_drewN | apply below_drew1 | refine below_set ?_ GE190.out | refine below_set ?_ GE191.out) | exact HB.out)) hb); clear BK190; clear BK191; clear HB; have BK190 := n0_; have BK191 := n1_; have HB := n2_; clear n0_ n1_ n2_; (try clear hb); (try clear hb2); (try clear hk); (try clear hi); have hcz41_0 : w40.cell? ⟨gb191, 0, none⟩ = some (.int .i64 a2_0) := (blk_cell BK191.out 0).trans rfl; have hcz41_1 : w40.cell? ⟨gb191, 1, none⟩ = some (.int .i64 a2_1) := (blk_cell BK191.out 1).trans rfl; have hcz41_2 : w40.cell? ⟨gb191, 2, none⟩ = some (.bool a2_2) := (blk_cell BK191.out 2).trans rfl; have hcz41_3 : w40.cell? ⟨gb191, 3, none⟩ = some (.bool a2_3) := (blk_cell BK191.out 3).trans rfl; have hcz41_4 : w40.cell? ⟨gb191, 4, none⟩ = some (.bool a2_4) := (blk_cell BK191.out 4).trans rfl; have hfz41_0 := blk_frozen BK191.out 0; have hfz41_1 := blk_frozen BK191.out 1; have hfz41_2 := blk_frozen BK191.out 2; have hfz41_3 := blk_frozen BK191.out 3; have hfz41_4 := blk_frozen BK191.out 4)))
                    go_ret
                    exact ⟨by first | rfl | (simp [errW_none, errW_some] <;> rfl) | (simp [*, errW_none, errW_some] <;> rfl), by repeat (first | (with_reducible first | exact HB.out | apply below_alloc | apply pw_below_drewN | apply below_drew1 | refine below_set ?_ GE190.out | refine below_set ?_ GE191.out) | exact HB.out)⟩
                  · rw [if_neg c36] at H
                    have c36b0 : decide (a2_1 < 0) = false := decide_eq_false c36
                    clear c36
                    by_cases c42 : a2_1 > 4
                    · rw [if_pos c42] at H
                      have c42b0 : decide (4 < a2_1) = true := decide_eq_true c42
                      clear c42
                      obtain rfl := Option.some.inj H
                      have hnb43 := NB190_191.out
                      have hnc43 := NB191_190.out
                      have hcz44_0 : wr.cell? ⟨gb190, 0, none⟩ = some (.int .i64 a0_0) := (blk_cell BK190.out 0).trans rfl
                      have hcz44_1 : wr.cell? ⟨gb190, 1, none⟩ = some (.int .i64 a0_1) := (blk_cell BK190.out 1).trans rfl
                      have hcz44_2 : wr.cell? ⟨gb190, 2, none⟩ = some (.bool a0_2) := (blk_cell BK190.out 2).trans rfl
                      have hcz44_3 : wr.cell? ⟨gb190, 3, none⟩ = some (.int .i64 a0_3) := (blk_cell BK190.out 3).trans rfl
                      have hcz44_4 : wr.cell? ⟨gb190, 4, none⟩ = some (.int .i64 a0_4) := (blk_cell BK190.out 4).trans rfl
                      have hcz44_5 : wr.cell? ⟨gb190, 5, none⟩ = some (.int .i64 a0_5) := (blk_cell BK190.out 5).trans rfl
                      have hcz44_6 : wr.cell? ⟨gb190, 6, none⟩ = some (.int .i64 a0_6) := (blk_cell BK190.out 6).trans rfl
                      have hfz44_0 := blk_frozen BK190.out 0
                      have hfz44_1 := blk_frozen BK190.out 1
                      have hfz44_2 := blk_frozen BK190.out 2
                      have hfz44_3 := blk_frozen BK190.out 3
                      have hfz44_4 := blk_frozen BK190.out 4
                      have hfz44_5 := blk_frozen BK190.out 5
                      have hfz44_6 := blk_frozen BK190.out 6
                      go_wp2_with (first | (go_at_call 14; (with_reducible refine (sackbutref18_form.calls a0_0 a0_1 a0_2 a0_3 a0_4 a0_5 a0_6 t194 t195 _ A21.out).mono ?_); rintro e w45 ⟨rfl, hb⟩; have n0_ := Aside0.mk (blk_below (g := gb190) (o := .cells #[.int .i64 a0_0, .int .i64 a0_1, .bool a0_2, .int .i64 a0_3, .int .i64 a0_4, .int .i64 a0_5, .int .i64 a0_6] 23 (0, 0)) (by (with_reducible repeat (first | refine blk_drewN ?_ _ | refine blk_drew ?_ | refine blk_alloc ?_ _)); exact BK190.out) hb); have n1_ := Aside0.mk (blk_below (g := gb191) (o := .cells #[.int .i64 a2_0, .int .i64 a2_1, .bool a2_2, .bool a2_3, .bool a2_4] 26 (0, 0)) (by (with_reducible repeat (first | refine blk_drewN ?_ _ | refine blk_drew ?_ | refine blk_alloc ?_ _)); exact BK191.out) hb); have n2_ := Aside0.mk (below_step (by repeat (first | (with_reducible first | exact HB.out | apply below_alloc | apply pw_below_drewN | apply below_drew1 | refine below_set ?_ GE190.out | refine below_set ?_ GE191.out) | exact HB.out)) hb); clear BK190; clear BK191; clear HB; have BK190 := n0_; have BK191 := n1_; have HB := n2_; clear n0_ n1_ n2_; (try clear hb); (try clear hb2); (try clear hk); (try clear hi)) | (go_at_call 13; (with_reducible refine (sackbutref05_Check.calls k1 t194 t195 _ _ l1 t196 _ ?side1 ?side2 A22.out).mono ?_); (case side1 => repeat (first | exact (Kd.C_below HR1.out HB.out) | (with_reducible refine Kd.C_alloc ?_ _) | (with_reducible refine Kd.C_drewN ?_ _) | (with_reducible refine Kd.C_drew ?_))); (case side2 => exact HC1.out); rintro e w46 ⟨rfl, hb⟩; have n0_ := Aside0.mk (blk_below (g := gb190) (o := .cells #[.int .i64 a0_0, .int .i64 a0_1, .bool a0_2, .int .i64 a0_3, .int .i64 a0_4, .int .i64 a0_5, .int .i64 a0_6] 23 (0, 0)) (by (with_reducible repeat (first | refine blk_drewN ?_ _ | refine blk_drew ?_ | refine blk_alloc ?_ _)); exact BK190.out) hb); have n1_ := Aside0.mk (blk_below (g := gb191) (o := .cells #[.int .i64 a2_0, .int .i64 a2_1, .bool a2_2, .bool a2_3, .bool a2_4] 26 (0, 0)) (by (with_reducible repeat (first | refine blk_drewN ?_ _ | refine blk_drew ?_ | refine blk_alloc ?_ _)); exact BK191.out) hb); have n2_ := Aside0.mk (below_step (by repeat (first | (with_reducible first | exact HB.out | apply below_alloc | apply pw_below_drewN | apply below_drew1 | refine below_set ?_ GE190.out | refine below_set ?_ GE191.out) | exact HB.out)) hb); clear BK190; clear BK191; clear HB; have BK190 := n0_; have BK191 := n1_; have HB := n2_; clear n0_ n1_ n2_; (try clear hb); (try clear hb2); (try clear hk); (try clear hi); have hcz47_0 : w46.cell? ⟨gb191, 0, none⟩ = some (.int .i64 a2_0) := (blk_cell BK191.out 0).trans rfl; have hcz47_1 : w46.cell? ⟨gb191, 1, none⟩ = some (.int .i64 a2_1) := (blk_cell BK191.out 1).trans rfl; have hcz47_2 : w46.cell? ⟨gb191, 2, none⟩ = some (.bool a2_2) := (blk_cell BK191.out 2).trans rfl; have hcz47_3 : w46.cell? ⟨gb191, 3, none⟩ = some (.bool a2_3) := (blk_cell BK191.out 3).trans rfl; have hcz47_4 : w46.cell? ⟨gb191, 4, none⟩ = some (.bool a2_4) := (blk_cell BK191.out 4).trans rfl; have hfz47_0 := blk_frozen BK191.out 0; have hfz47_1 := blk_frozen BK191.out 1; have hfz47_2 := blk_frozen BK191.out 2; have hfz47_3 := blk_frozen BK191.out 3; have hfz47_4 := blk_frozen BK191.out 4))
                      repeat (go_quiet (first | (go_at_call 14; (with_reducible refine (sackbutref18_form.calls a0_0 a0_1 a0_2 a0_3 a0_4 a0_5 a0_6 t194 t195 _ A21.out).mono ?_); rintro e w45 ⟨rfl, hb⟩; have n0_ := Aside0.mk (blk_below (g := gb190) (o := .cells #[.int .i64 a0_0, .int .i64 a0_1, .bool a0_2, .int .i64 a0_3, .int .i64 a0_4, .int .i64 a0_5, .int .i64 a0_6] 23 (0, 0)) (by (with_reducible repeat (first | refine blk_drewN ?_ _ | refine blk_drew ?_ | refine blk_alloc ?_ _)); exact BK190.out) hb); have n1_ := Aside0.mk (blk_below (g := gb191) (o := .cells #[.int .i64 a2_0, .int .i64 a2_1, .bool a2_2, .bool a2_3, .bool a2_4] 26 (0, 0)) (by (with_reducible repeat (first | refine blk_drewN ?_ _ | refine blk_drew ?_ | refine blk_alloc ?_ _)); exact BK191.out) hb); have n2_ := Aside0.mk (below_step (by repeat (first | (with_reducible first | exact HB.out | apply below_alloc | apply pw_below_drewN | apply below_drew1 | refine below_set ?_ GE190.out | refine below_set ?_ GE191.out) | exact HB.out)) hb); clear BK190; clear BK191; clear HB; have BK190 := n0_; have BK191 := n1_; have HB := n2_; clear n0_ n1_ n2_; (try clear hb); (try clear hb2); (try clear hk); (try clear hi)) | (go_at_call 13; (with_reducible refine (sackbutref05_Check.calls k1 t194 t195 _ _ l1 t196 _ ?side1 ?side2 A22.out).mono ?_); (case side1 => repeat (first | exact (Kd.C_below HR1.out HB.out) | (with_reducible refine Kd.C_alloc ?_ _) | (with_reducible refine Kd.C_drewN ?_ _) | (with_reducible refine Kd.C_drew ?_))); (case side2 => exact HC1.out); rintro e w46 ⟨rfl, hb⟩; have n0_ := Aside0.mk (blk_below (g := gb190) (o := .cells #[.int .i64 a0_0, .int .i64 a0_1, .bool a0_2, .int .i64 a0_3, .int .i64 a0_4, .int .i64 a0_5, .int .i64 a0_6] 23 (0, 0)) (by (with_reducible repeat (first | refine blk_drewN ?_ _ | refine blk_drew ?_ | refine blk_alloc ?_ _)); exact BK190.out) hb); have n1_ := Aside0.mk (blk_below (g := gb191) (o := .cells #[.int .i64 a2_0, .int .i64 a2_1, .bool a2_2, .bool a2_3, .bool a2_4] 26 (0, 0)) (by (with_reducible repeat (first | refine blk_drewN ?_ _ | refine blk_drew ?_ | refine blk_alloc ?_ _)); exact BK191.out) hb); have n2_ := Aside0.mk (below_step (by repeat (first | (with_reducible first | exact HB.out | apply below_alloc | apply pw_below_drewN | apply below_drew1 | refine below_set ?_ GE190.out | refine below_set ?_ GE191.out) | exact HB.out)) hb); clear BK190; clear BK191; clear HB; have BK190 := n0_; have BK191 := n1_; have HB := n2_; clear n0_ n1_ n2_; (try clear hb); (try clear hb2); (try clear hk); (try clear hi); have hcz47_0 : w46.cell? ⟨gb191, 0, none⟩ = some (.int .i64 a2_0) := (blk_cell BK191.out 0).trans rfl; have hcz47_1 : w46.cell? ⟨gb191, 1, none⟩ = some (.int .i64 a2_1) := (blk_cell BK191.out 1).trans rfl; have hcz47_2 : w46.cell? ⟨gb191, 2, none⟩ = some (.bool a2_2) := (blk_cell BK191.out 2).trans rfl; have hcz47_3 : w46.cell? ⟨gb191, 3, none⟩ = some (.bool a2_3) := (blk_cell BK191.out 3).trans rfl; have hcz47_4 : w46.cell? ⟨gb191, 4, none⟩ = some (.bool a2_4) := (blk_cell BK191.out 4).trans rfl; have hfz47_0 := blk_frozen BK191.out 0; have hfz47_1 := blk_frozen BK191.out 1; have hfz47_2 := blk_frozen BK191.out 2; have hfz47_3 := blk_frozen BK191.out 3; have hfz47_4 := blk_frozen BK191.out 4)); try go_wp2_with (first | (go_at_call 14; (with_reducible refine (sackbutref18_form.calls a0_0 a0_1 a0_2 a0_3 a0_4 a0_5 a0_6 t194 t195 _ A21.out).mono ?_); rintro e w45 ⟨rfl, hb⟩; have n0_ := Aside0.mk (blk_below (g := gb190) (o := .cells #[.int .i64 a0_0, .int .i64 a0_1, .bool a0_2, .int .i64 a0_3, .int .i64 a0_4, .int .i64 a0_5, .int .i64 a0_6] 23 (0, 0)) (by (with_reducible repeat (first | refine blk_drewN ?_ _ | refine blk_drew ?_ | refine blk_alloc ?_ _)); exact BK190.out) hb); have n1_ := Aside0.mk (blk_below (g := gb191) (o := .cells #[.int .i64 a2_0, .int .i64 a2_1, .bool a2_2, .bool a2_3, .bool a2_4] 26 (0, 0)) (by (with_reducible repeat (first | refine blk_drewN ?_ _ | refine blk_drew ?_ | refine blk_alloc ?_ _)); exact BK191.out) hb); have n2_ := Aside0.mk (below_step (by repeat (first | (with_reducible first | exact HB.out | apply below_alloc | apply pw_below_drewN | apply below_drew1 | refine below_set ?_ GE190.out | refine below_set ?_ GE191.out) | exact HB.out)) hb); clear BK190; clear BK191; clear HB; have BK190 := n0_; have BK191 := n1_; have HB := n2_; clear n0_ n1_ n2_; (try clear hb); (try clear hb2); (try clear hk); (try clear hi)) | (go_at_call 13; (with_reducible refine (sackbutref05_Check.calls k1 t194 t195 _ _ l1 t196 _ ?side1 ?side2 A22.out).mono ?_); (case side1 => repeat (first | exact (Kd.C_below HR1.out HB.out) | (with_reducible refine Kd.C_alloc ?_ _) | (with_reducible refine Kd.C_drewN ?_ _) | (with_reducible refine Kd.C_drew ?_))); (case side2 => exact HC1.out); rintro e w46 ⟨rfl, hb⟩; have n0_ := Aside0.mk (blk_below (g := gb190) (o := .cells #[.int .i64 a0_0, .int .i64 a0_1, .bool a0_2, .int .i64 a0_3, .int .i64 a0_4, .int .i64 a0_5, .int .i64 a0_6] 23 (0, 0)) (by (with_reducible repeat (first | refine blk_drewN ?_ _ | refine blk_drew ?_ | refine blk_alloc ?_ _)); exact BK190.out) hb); have n1_ := Aside0.mk (blk_below (g := gb191) (o := .cells #[.int .i64 a2_0, .int .i64 a2_1, .bool a2_2, .bool a2_3, .bool a2_4] 26 (0, 0)) (by (with_reducible repeat (first | refine blk_drewN ?_ _ | refine blk_drew ?_ | refine blk_alloc ?_ _)); exact BK191.out) hb); have n2_ := Aside0.mk (below_step (by repeat (first | (with_reducible first | exact HB.out | apply below_alloc | apply pw_below_drewN | apply below_drew1 | refine below_set ?_ GE190.out | refine below_set ?_ GE191.out) | exact HB.out)) hb); clear BK190; clear BK191; clear HB; have BK190 := n0_; have BK191 := n1_; have HB := n2_; clear n0_ n1_ n2_; (try clear hb); (try clear hb2); (try clear hk); (try clear hi); have hcz47_0 : w46.cell? ⟨gb191, 0, none⟩ = some (.int .i64 a2_0) := (blk_cell BK191.out 0).trans rfl; have hcz47_1 : w46.cell? ⟨gb191, 1, none⟩ = some (.int .i64 a2_1) := (blk_cell BK191.out 1).trans rfl; have hcz47_2 : w46.cell? ⟨gb191, 2, none⟩ = some (.bool a2_2) := (blk_cell BK191.out 2).trans rfl; have hcz47_3 : w46.cell? ⟨gb191, 3, none⟩ = some (.bool a2_3) := (blk_cell BK191.out 3).trans rfl; have hcz47_4 : w46.cell? ⟨gb191, 4, none⟩ = some (.bool a2_4) := (blk_cell BK191.out 4).trans rfl; have hfz47_0 := blk_frozen BK191.out 0; have hfz47_1 := blk_frozen BK191.out 1; have hfz47_2 := blk_frozen BK191.out 2; have hfz47_3 := blk_frozen BK191.out 3; have hfz47_4 := blk_frozen BK191.out 4)))
                      go_ret
                      exact ⟨by first | rfl | (simp [errW_none, errW_some] <;> rfl) | (simp [*, errW_none, errW_some] <;> rfl), by repeat (first | (with_reducible first | exact HB.out | apply below_alloc | apply pw_below_drewN | apply below_drew1 | refine below_set ?_ GE190.out | refine below_set ?_ GE191.out) | exact HB.out)⟩
                    · rw [if_neg c42] at H
                      have c42b0 : decide (4 < a2_1) = false := decide_eq_false c42
                      clear c42
                      obtain rfl := Option.some.inj H
                      have hnb48 := NB190_191.out
                      have hnc48 := NB191_190.out
                      have hcz49_0 : wr.cell? ⟨gb190, 0, none⟩ = some (.int .i64 a0_0) := (blk_cell BK190.out 0).trans rfl
                      have hcz49_1 : wr.cell? ⟨gb190, 1, none⟩ = some (.int .i64 a0_1) := (blk_cell BK190.out 1).trans rfl
                      have hcz49_2 : wr.cell? ⟨gb190, 2, none⟩ = some (.bool a0_2) := (blk_cell BK190.out 2).trans rfl
                      have hcz49_3 : wr.cell? ⟨gb190, 3, none⟩ = some (.int .i64 a0_3) := (blk_cell BK190.out 3).trans rfl
                      have hcz49_4 : wr.cell? ⟨gb190, 4, none⟩ = some (.int .i64 a0_4) := (blk_cell BK190.out 4).trans rfl
                      have hcz49_5 : wr.cell? ⟨gb190, 5, none⟩ = some (.int .i64 a0_5) := (blk_cell BK190.out 5).trans rfl
                      have hcz49_6 : wr.cell? ⟨gb190, 6, none⟩ = some (.int .i64 a0_6) := (blk_cell BK190.out 6).trans rfl
                      have hfz49_0 := blk_frozen BK190.out 0
                      have hfz49_1 := blk_frozen BK190.out 1
                      have hfz49_2 := blk_frozen BK190.out 2
                      have hfz49_3 := blk_frozen BK190.out 3
                      have hfz49_4 := blk_frozen BK190.out 4
                      have hfz49_5 := blk_frozen BK190.out 5
                      have hfz49_6 := blk_frozen BK190.out 6
                      go_wp2_with (first | (go_at_call 14; (with_reducible refine (sackbutref18_form.calls a0_0 a0_1 a0_2 a0_3 a0_4 a0_5 a0_6 t194 t195 _ A21.out).mono ?_); rintro e w50 ⟨rfl, hb⟩; have n0_ := Aside0.mk (blk_below (g := gb190) (o := .cells #[.int .i64 a0_0, .int .i64 a0_1, .bool a0_2, .int .i64 a0_3, .int .i64 a0_4, .int .i64 a0_5, .int .i64 a0_6] 23 (0, 0)) (by (with_reducible repeat (first | refine blk_drewN ?_ _ | refine blk_drew ?_ | refine blk_alloc ?_ _)); exact BK190.out) hb); have n1_ := Aside0.mk (blk_below (g := gb191) (o := .cells #[.int .i64 a2_0, .int .i64 a2_1, .bool a2_2, .bool a2_3, .bool a2_4] 26 (0, 0)) (by (with_reducible repeat (first | refine blk_drewN ?_ _ | refine blk_drew ?_ | refine blk_alloc ?_ _)); exact BK191.out) hb); have n2_ := Aside0.mk (below_step (by repeat (first | (with_reducible first | exact HB.out | apply below_alloc | apply pw_below_drewN | apply below_drew1 | refine below_set ?_ GE190.out | refine below_set ?_ GE191.out) | exact HB.out)) hb); clear BK190; clear BK191; clear HB; have BK190 := n0_; have BK191 := n1_; have HB := n2_; clear n0_ n1_ n2_; (try clear hb); (try clear hb2); (try clear hk); (try clear hi)) | (go_at_call 13; (with_reducible refine (sackbutref05_Check.calls k1 t194 t195 _ _ l1 t196 _ ?side1 ?side2 A22.out).mono ?_); (case side1 => repeat (first | exact (Kd.C_below HR1.out HB.out) | (with_reducible refine Kd.C_alloc ?_ _) | (with_reducible refine Kd.C_drewN ?_ _) | (with_reducible refine Kd.C_drew ?_))); (case side2 => exact HC1.out); rintro e w51 ⟨rfl, hb⟩; have n0_ := Aside0.mk (blk_below (g := gb190) (o := .cells #[.int .i64 a0_0, .int .i64 a0_1, .bool a0_2, .int .i64 a0_3, .int .i64 a0_4, .int .i64 a0_5, .int .i64 a0_6] 23 (0, 0)) (by (with_reducible repeat (first | refine blk_drewN ?_ _ | refine blk_drew ?_ | refine blk_alloc ?_ _)); exact BK190.out) hb); have n1_ := Aside0.mk (blk_below (g := gb191) (o := .cells #[.int .i64 a2_0, .int .i64 a2_1, .bool a2_2, .bool a2_3, .bool a2_4] 26 (0, 0)) (by (with_reducible repeat (first | refine blk_drewN ?_ _ | refine blk_drew ?_ | refine blk_alloc ?_ _)); exact BK191.out) hb); have n2_ := Aside0.mk (below_step (by repeat (first | (with_reducible first | exact HB.out | apply below_alloc | apply pw_below_drewN | apply below_drew1 | refine below_set ?_ GE190.out | refine below_set ?_ GE191.out) | exact HB.out)) hb); clear BK190; clear BK191; clear HB; have BK190 := n0_; have BK191 := n1_; have HB := n2_; clear n0_ n1_ n2_; (try clear hb); (try clear hb2); (try clear hk); (try clear hi); have hcz52_0 : w51.cell? ⟨gb191, 0, none⟩ = some (.int .i64 a2_0) := (blk_cell BK191.out 0).trans rfl; have hcz52_1 : w51.cell? ⟨gb191, 1, none⟩ = some (.int .i64 a2_1) := (blk_cell BK191.out 1).trans rfl; have hcz52_2 : w51.cell? ⟨gb191, 2, none⟩ = some (.bool a2_2) := (blk_cell BK191.out 2).trans rfl; have hcz52_3 : w51.cell? ⟨gb191, 3, none⟩ = some (.bool a2_3) := (blk_cell BK191.out 3).trans rfl; have hcz52_4 : w51.cell? ⟨gb191, 4, none⟩ = some (.bool a2_4) := (blk_cell BK191.out 4).trans rfl; have hfz52_0 := blk_frozen BK191.out 0; have hfz52_1 := blk_frozen BK191.out 1; have hfz52_2 := blk_frozen BK191.out 2; have hfz52_3 := blk_frozen BK191.out 3; have hfz52_4 := blk_frozen BK191.out 4))
                      repeat (go_quiet (first | (go_at_call 14; (with_reducible refine (sackbutref18_form.calls a0_0 a0_1 a0_2 a0_3 a0_4 a0_5 a0_6 t194 t195 _ A21.out).mono ?_); rintro e w50 ⟨rfl, hb⟩; have n0_ := Aside0.mk (blk_below (g := gb190) (o := .cells #[.int .i64 a0_0, .int .i64 a0_1, .bool a0_2, .int .i64 a0_3, .int .i64 a0_4, .int .i64 a0_5, .int .i64 a0_6] 23 (0, 0)) (by (with_reducible repeat (first | refine blk_drewN ?_ _ | refine blk_drew ?_ | refine blk_alloc ?_ _)); exact BK190.out) hb); have n1_ := Aside0.mk (blk_below (g := gb191) (o := .cells #[.int .i64 a2_0, .int .i64 a2_1, .bool a2_2, .bool a2_3, .bool a2_4] 26 (0, 0)) (by (with_reducible repeat (first | refine blk_drewN ?_ _ | refine blk_drew ?_ | refine blk_alloc ?_ _)); exact BK191.out) hb); have n2_ := Aside0.mk (below_step (by repeat (first | (with_reducible first | exact HB.out | apply below_alloc | apply pw_below_drewN | apply below_drew1 | refine below_set ?_ GE190.out | refine below_set ?_ GE191.out) | exact HB.out)) hb); clear BK190; clear BK191; clear HB; have BK190 := n0_; have BK191 := n1_; have HB := n2_; clear n0_ n1_ n2_; (try clear hb); (try clear hb2); (try clear hk); (try clear hi)) | (go_at_call 13; (with_reducible refine (sackbutref05_Check.calls k1 t194 t195 _ _ l1 t196 _ ?side1 ?side2 A22.out).mono ?_); (case side1 => repeat (first | exact (Kd.C_below HR1.out HB.out) | (with_reducible refine Kd.C_alloc ?_ _) | (with_reducible refine Kd.C_drewN ?_ _) | (with_reducible refine Kd.C_drew ?_))); (case side2 => exact HC1.out); rintro e w51 ⟨rfl, hb⟩; have n0_ := Aside0.mk (blk_below (g := gb190) (o := .cells #[.int .i64 a0_0, .int .i64 a0_1, .bool a0_2, .int .i64 a0_3, .int .i64 a0_4, .int .i64 a0_5, .int .i64 a0_6] 23 (0, 0)) (by (with_reducible repeat (first | refine blk_drewN ?_ _ | refine blk_drew ?_ | refine blk_alloc ?_ _)); exact BK190.out) hb); have n1_ := Aside0.mk (blk_below (g := gb191) (o := .cells #[.int .i64 a2_0, .int .i64 a2_1, .bool a2_2, .bool a2_3, .bool a2_4] 26 (0, 0)) (by (with_reducible repeat (first | refine blk_drewN ?_ _ | refine blk_drew ?_ | refine blk_alloc ?_ _)); exact BK191.out) hb); have n2_ := Aside0.mk (below_step (by repeat (first | (with_reducible first | exact HB.out | apply below_alloc | apply pw_below_drewN | apply below_drew1 | refine below_set ?_ GE190.out | refine below_set ?_ GE191.out) | exact HB.out)) hb); clear BK190; clear BK191; clear HB; have BK190 := n0_; have BK191 := n1_; have HB := n2_; clear n0_ n1_ n2_; (try clear hb); (try clear hb2); (try clear hk); (try clear hi); have hcz52_0 : w51.cell? ⟨gb191, 0, none⟩ = some (.int .i64 a2_0) := (blk_cell BK191.out 0).trans rfl; have hcz52_1 : w51.cell? ⟨gb191, 1, none⟩ = some (.int .i64 a2_1) := (blk_cell BK191.out 1).trans rfl; have hcz52_2 : w51.cell? ⟨gb191, 2, none⟩ = some (.bool a2_2) := (blk_cell BK191.out 2).trans rfl; have hcz52_3 : w51.cell? ⟨gb191, 3, none⟩ = some (.bool a2_3) := (blk_cell BK191.out 3).trans rfl; have hcz52_4 : w51.cell? ⟨gb191, 4, none⟩ = some (.bool a2_4) := (blk_cell BK191.out 4).trans rfl; have hfz52_0 := blk_frozen BK191.out 0; have hfz52_1 := blk_frozen BK191.out 1; have hfz52_2 := blk_frozen BK191.out 2; have hfz52_3 := blk_frozen BK191.out 3; have hfz52_4 := blk_frozen BK191.out 4)); try go_wp2_with (first | (go_at_call 14; (with_reducible refine (sackbutref18_form.calls a0_0 a0_1 a0_2 a0_3 a0_4 a0_5 a0_6 t194 t195 _ A21.out).mono ?_); rintro e w50 ⟨rfl, hb⟩; have n0_ := Aside0.mk (blk_below (g := gb190) (o := .cells #[.int .i64 a0_0, .int .i64 a0_1, .bool a0_2, .int .i64 a0_3, .int .i64 a0_4, .int .i64 a0_5, .int .i64 a0_6] 23 (0, 0)) (by (with_reducible repeat (first | refine blk_drewN ?_ _ | refine blk_drew ?_ | refine blk_alloc ?_ _)); exact BK190.out) hb); have n1_ := Aside0.mk (blk_below (g := gb191) (o := .cells #[.int .i64 a2_0, .int .i64 a2_1, .bool a2_2, .bool a2_3, .bool a2_4] 26 (0, 0)) (by (with_reducible repeat (first | refine blk_drewN ?_ _ | refine blk_drew ?_ | refine blk_alloc ?_ _)); exact BK191.out) hb); have n2_ := Aside0.mk (below_step (by repeat (first | (with_reducible first | exact HB.out | apply below_alloc | apply pw_below_drewN | apply below_drew1 | refine below_set ?_ GE190.out | refine below_set ?_ GE191.out) | exact HB.out)) hb); clear BK190; clear BK191; clear HB; have BK190 := n0_; have BK191 := n1_; have HB := n2_; clear n0_ n1_ n2_; (try clear hb); (try clear hb2); (try clear hk); (try clear hi)) | (go_at_call 13; (with_reducible refine (sackbutref05_Check.calls k1 t194 t195 _ _ l1 t196 _ ?side1 ?side2 A22.out).mono ?_); (case side1 => repeat (first | exact (Kd.C_below HR1.out HB.out) | (with_reducible refine Kd.C_alloc ?_ _) | (with_reducible refine Kd.C_drewN ?_ _) | (with_reducible refine Kd.C_drew ?_))); (case side2 => exact HC1.out); rintro e w51 ⟨rfl, hb⟩; have n0_ := Aside0.mk (blk_below (g := gb190) (o := .cells #[.int .i64 a0_0, .int .i64 a0_1, .bool a0_2, .int .i64 a0_3, .int .i64 a0_4, .int .i64 a0_5, .int .i64 a0_6] 23 (0, 0)) (by (with_reducible repeat (first | refine blk_drewN ?_ _ | refine blk_drew ?_ | refine blk_alloc ?_ _)); exact BK190.out) hb); have n1_ := Aside0.mk (blk_below (g := gb191) (o := .cells #[.int .i64 a2_0, .int .i64 a2_1, .bool a2_2, .bool a2_3, .bool a2_4] 26 (0, 0)) (by (with_reducible repeat (first | refine blk_drewN ?_ _ | refine blk_drew ?_ | refine blk_alloc ?_ _)); exact BK191.out) hb); have n2_ := Aside0.mk (below_step (by repeat (first | (with_reducible first | exact HB.out | apply below_alloc | apply pw_below_drewN | apply below_drew1 | refine below_set ?_ GE190.out | refine below_set ?_ GE191.out) | exact HB.out)) hb); clear BK190; clear BK191; clear HB; have BK190 := n0_; have BK191 := n1_; have HB := n2_; clear n0_ n1_ n2_; (try clear hb); (try clear hb2); (try clear hk); (try clear hi); have hcz52_0 : w51.cell? ⟨gb191, 0, none⟩ = some (.int .i64 a2_0) := (blk_cell BK191.out 0).trans rfl; have hcz52_1 : w51.cell? ⟨gb191, 1, none⟩ = some (.int .i64 a2_1) := (blk_cell BK191.out 1).trans rfl; have hcz52_2 : w51.cell? ⟨gb191, 2, none⟩ = some (.bool a2_2) := (blk_cell BK191.out 2).trans rfl; have hcz52_3 : w51.cell? ⟨gb191, 3, none⟩ = some (.bool a2_3) := (blk_cell BK191.out 3).trans rfl; have hcz52_4 : w51.cell? ⟨gb191, 4, none⟩ = some (.bool a2_4) := (blk_cell BK191.out 4).trans rfl; have hfz52_0 := blk_frozen BK191.out 0; have hfz52_1 := blk_frozen BK191.out 1; have hfz52_2 := blk_frozen BK191.out 2; have hfz52_3 := blk_frozen BK191.out 3; have hfz52_4 := blk_frozen BK191.out 4)))
                      go_ret
                      exact ⟨by first | rfl | (simp [errW_none, errW_some] <;> rfl) | (simp [*, errW_none, errW_some] <;> rfl), by repeat (first | (with_reducible first | exact HB.out | apply below_alloc | apply pw_below_drewN | apply below_drew1 | refine below_set ?_ GE190.out | refine below_set ?_ GE191.out) | exact HB.out)⟩
            · rw [if_neg c23] at H
              have c23b0 : (t196 == 0) = false := beq_eq_false_iff_ne.mpr c23
              have c23b1 : (t196 != 0) = true := bne_iff_ne.mpr c23
              obtain rfl := Option.some.inj H
              have hnb53 := NB190_191.out
              have hnc53 := NB191_190.out
              have hcz54_0 : wr.cell? ⟨gb190, 0, none⟩ = some (.int .i64 a0_0) := (blk_cell BK190.out 0).trans rfl
              have hcz54_1 : wr.cell? ⟨gb190, 1, none⟩ = some (.int .i64 a0_1) := (blk_cell BK190.out 1).trans rfl
              have hcz54_2 : wr.cell? ⟨gb190, 2, none⟩ = some (.bool a0_2) := (blk_cell BK190.out 2).trans rfl
              have hcz54_3 : wr.cell? ⟨gb190, 3, none⟩ = some (.int .i64 a0_3) := (blk_cell BK190.out 3).trans rfl
              have hcz54_4 : wr.cell? ⟨gb190, 4, none⟩ = some (.int .i64 a0_4) := (blk_cell BK190.out 4).trans rfl
              have hcz54_5 : wr.cell? ⟨gb190, 5, none⟩ = some (.int .i64 a0_5) := (blk_cell BK190.out 5).trans rfl
              have hcz54_6 : wr.cell? ⟨gb190, 6, none⟩ = some (.int .i64 a0_6) := (blk_cell BK190.out 6).trans rfl
              have hfz54_0 := blk_frozen BK190.out 0
              have hfz54_1 := blk_frozen BK190.out 1
              have hfz54_2 := blk_frozen BK190.out 2
              have hfz54_3 := blk_frozen BK190.out 3
              have hfz54_4 := blk_frozen BK190.out 4
              have hfz54_5 := blk_frozen BK190.out 5
              have hfz54_6 := blk_frozen BK190.out 6
              go_wp2_with (first | (go_at_call 14; (with_reducible refine (sackbutref18_form.calls a0_0 a0_1 a0_2 a0_3 a0_4 a0_5 a0_6 t194 t195 _ A21.out).mono ?_); rintro e w55 ⟨rfl, hb⟩; have n0_ := Aside0.mk (blk_below (g := gb190) (o := .cells #[.int .i64 a0_0, .int .i64 a0_1, .bool a0_2, .int .i64 a0_3, .int .i64 a0_4, .int .i64 a0_5, .int .i64 a0_6] 23 (0, 0)) (by (with_reducible repeat (first | refine blk_drewN ?_ _ | refine blk_drew ?_ | refine blk_alloc ?_ _)); exact BK190.out) hb); have n1_ := Aside0.mk (blk_below (g := gb191) (o := .cells #[.int .i64 a2_0, .int .i64 a2_1, .bool a2_2, .bool a2_3, .bool a2_4] 26 (0, 0)) (by (with_reducible repeat (first | refine blk_drewN ?_ _ | refine blk_drew ?_ | refine blk_alloc ?_ _)); exact BK191.out) hb); have n2_ := Aside0.mk (below_step (by repeat (first | (with_reducible first | exact HB.out | apply below_alloc | apply pw_below_drewN | apply below_drew1 | refine below_set ?_ GE190.out | refine below_set ?_ GE191.out) | exact HB.out)) hb); clear BK190; clear BK191; clear HB; have BK190 := n0_; have BK191 := n1_; have HB := n2_; clear n0_ n1_ n2_; (try clear hb); (try clear hb2); (try clear hk); (try clear hi)) | (go_at_call 13; (with_reducible refine (sackbutref05_Check.calls k1 t194 t195 _ _ l1 t196 _ ?side1 ?side2 A22.out).mono ?_); (case side1 => repeat (first | exact (Kd.C_below HR1.out HB.out) | (with_reducible refine Kd.C_alloc ?_ _) | (with_reducible refine Kd.C_drewN ?_ _) | (with_reducible refine Kd.C_drew ?_))); (case side2 => exact HC1.out); rintro e w56 ⟨rfl, hb⟩; have n0_ := Aside0.mk (blk_below (g := gb190) (o := .cells #[.int .i64 a0_0, .int .i64 a0_1, .bool a0_2, .int .i64 a0_3, .int .i64 a0_4, .int .i64 a0_5, .int .i64 a0_6] 23 (0, 0)) (by (with_reducible repeat (first | refine blk_drewN ?_ _ | refine blk_drew ?_ | refine blk_alloc ?_ _)); exact BK190.out) hb); have n1_ := Aside0.mk (blk_below (g := gb191) (o := .cells #[.int .i64 a2_0, .int .i64 a2_1, .bool a2_2, .bool a2_3, .bool a2_4] 26 (0, 0)) (by (with_reducible repeat (first | refine blk_drewN ?_ _ | refine blk_drew ?_ | refine blk_alloc ?_ _)); exact BK191.out) hb); have n2_ := Aside0.mk (below_step (by repeat (first | (with_reducible first | exact HB.out | apply below_alloc | apply pw_below_drewN | apply below_drew1 | refine below_set ?_ GE190.out | refine below_set ?_ GE191.out) | exact HB.out)) hb); clear BK190; clear BK191; clear HB; have BK190 := n0_; have BK191 := n1_; have HB := n2_; clear n0_ n1_ n2_; (try clear hb); (try clear hb2); (try clear hk); (try clear hi)))
              repeat (go_quiet (first | (go_at_call 14; (with_reducible refine (sackbutref18_form.calls a0_0 a0_1 a0_2 a0_3 a0_4 a0_5 a0_6 t194 t195 _ A21.out).mono ?_); rintro e w55 ⟨rfl, hb⟩; have n0_ := Aside0.mk (blk_below (g := gb190) (o := .cells #[.int .i64 a0_0, .int .i64 a0_1, .bool a0_2, .int .i64 a0_3, .int .i64 a0_4, .int .i64 a0_5, .int .i64 a0_6] 23 (0, 0)) (by (with_reducible repeat (first | refine blk_drewN ?_ _ | refine blk_drew ?_ | refine blk_alloc ?_ _)); exact BK190.out) hb); have n1_ := Aside0.mk (blk_below (g := gb191) (o := .cells #[.int .i64 a2_0, .int .i64 a2_1, .bool a2_2, .bool a2_3, .bool a2_4] 26 (0, 0)) (by (with_reducible repeat (first | refine blk_drewN ?_ _ | refine blk_drew ?_ | refine blk_alloc ?_ _)); exact BK191.out) hb); have n2_ := Aside0.mk (below_step (by repeat (first | (with_reducible first | exact HB.out | apply below_alloc | apply pw_below_drewN | apply below_drew1 | refine below_set ?_ GE190.out | refine below_set ?_ GE191.out) | exact HB.out)) hb); clear BK190; clear BK191; clear HB; have BK190 := n0_; have BK191 := n1_; have HB := n2_; clear n0_ n1_ n2_; (try clear hb); (try clear hb2); (try clear hk); (try clear hi)) | (go_at_call 13; (with_reducible refine (sackbutref05_Check.calls k1 t194 t195 _ _ l1 t196 _ ?side1 ?side2 A22.out).mono ?_); (case side1 => repeat (first | exact (Kd.C_below HR1.out HB.out) | (with_reducible refine Kd.C_alloc ?_ _) | (with_reducible refine Kd.C_drewN ?_ _) | (with_reducible refine Kd.C_drew ?_))); (case side2 => exact HC1.out); rintro e w56 ⟨rfl, hb⟩; have n0_ := Aside0.mk (blk_below (g := gb190) (o := .cells #[.int .i64 a0_0, .int .i64 a0_1, .bool a0_2, .int .i64 a0_3, .int .i64 a0_4, .int .i64 a0_5, .int .i64 a0_6] 23 (0, 0)) (by (with_reducible repeat (first | refine blk_drewN ?_ _ | refine blk_drew ?_ | refine blk_alloc ?_ _)); exact BK190.out) hb); have n1_ := Aside0.mk (blk_below (g := gb191) (o := .cells #[.int .i64 a2_0, .int .i64 a2_1, .bool a2_2, .bool a2_3, .bool a2_4] 26 (0, 0)) (by (with_reducible repeat (first | refine blk_drewN ?_ _ | refine blk_drew ?_ | refine blk_alloc ?_ _)); exact BK191.out) hb); have n2_ := Aside0.mk (below_step (by repeat (first | (with_reducible first | exact HB.out | apply below_alloc | apply pw_below_drewN | apply below_drew1 | refine below_set ?_ GE190.out | refine below_set ?_ GE191.out) | exact HB.out)) hb); clear BK190; clear BK191; clear HB; have BK190 := n0_; have BK191 := n1_; have HB := n2_; clear n0_ n1_ n2_; (try clear hb); (try clear hb2); (try clear hk); (try clear hi))); try go_wp2_with (first | (go_at_call 14; (with_reducible refine (sackbutref18_form.calls a0_0 a0_1 a0_2 a0_3 a0_4 a0_5 a0_6 t194 t195 _ A21.out).mono ?_); rintro e w55 ⟨rfl, hb⟩; have n0_ := Aside0.mk (blk_below (g := gb190) (o := .cells #[.int .i64 a0_0, .int .i64 a0_1, .bool a0_2, .int .i64 a0_3, .int .i64 a0_4, .int .i64 a0_5, .int .i64 a0_6] 23 (0, 0)) (by (with_reducible repeat (first | refine blk_drewN ?_ _ | refine blk_drew ?_ | refine blk_alloc ?_ _)); exact BK190.out) hb); have n1_ := Aside0.mk (blk_below (g := gb191) (o := .cells #[.int .i64 a2_0, .int .i64 a2_1, .bool a2_2, .bool a2_3, .bool a2_4] 26 (0, 0)) (by (with_reducible repeat (first | refine blk_drewN ?_ _ | refine blk_drew ?_ | refine blk_alloc ?_ _)); exact BK191.out) hb); have n2_ := Aside0.mk (below_step (by repeat (first | (with_reducible first | exact HB.out | apply below_alloc | apply pw_below_drewN | apply below_drew1 | refine below_set ?_ GE190.out | refine below_set ?_ GE191.out) | exact HB.out)) hb); clear BK190; clear BK191; clear HB; have BK190 := n0_; have BK191 := n1_; have HB := n2_; clear n0_ n1_ n2_; (try clear hb); (try clear hb2); (try clear hk); (try clear hi)) | (go_at_call 13; (with_reducible refine (sackbutref05_Check.calls k1 t194 t195 _ _ l1 t196 _ ?side1 ?side2 A22.out).mono ?_); (case side1 => repeat (first | exact (Kd.C_below HR1.out HB.out) | (with_reducible refine Kd.C_alloc ?_ _) | (with_reducible refine Kd.C_drewN ?_ _) | (with_reducible refine Kd.C_drew ?_))); (case side2 => exact HC1.out); rintro e w56 ⟨rfl, hb⟩; have n0_ := Aside0.mk (blk_below (g := gb190) (o := .cells #[.int .i64 a0_0, .int .i64 a0_1, .bool a0_2, .int .i64 a0_3, .int .i64 a0_4, .int .i64 a0_5, .int .i64 a0_6] 23 (0, 0)) (by (with_reducible repeat (first | refine blk_drewN ?_ _ | refine blk_drew ?_ | refine blk_alloc ?_ _)); exact BK190.out) hb); have n1_ := Aside0.mk (blk_below (g := gb191) (o := .cells #[.int .i64 a2_0, .int .i64 a2_1, .bool a2_2, .bool a2_3, .bool a2_4] 26 (0, 0)) (by (with_reducible repeat (first | refine blk_drewN ?_ _ | refine blk_drew ?_ | refine blk_alloc ?_ _)); exact BK191.out) hb); have n2_ := Aside0.mk (below_step (by repeat (first | (with_reducible first | exact HB.out | apply below_alloc | apply pw_below_drewN | apply below_drew1 | refine below_set ?_ GE190.out | refine below_set ?_ GE191.out) | exact HB.out)) hb); clear BK190; clear BK191; clear HB; have BK190 := n0_; have BK191 := n1_; have HB := n2_; clear n0_ n1_ n2_; (try clear hb); (try clear hb2); (try clear hk); (try clear hi))))
              go_ret
              exact ⟨by first | rfl | (simp [errW_none, errW_some] <;> rfl) | (simp [*, errW_none, errW_some] <;> rfl), by repeat (first | (with_reducible first | exact HB.out | apply below_alloc | apply pw_below_drewN | apply below_drew1 | refine below_set ?_ GE190.out | refine below_set ?_ GE191.out) | exact HB.out)⟩
    · rw [if_neg c6] at H
      have c6b0 : ((l1.length : Int) == a0_0) = false := beq_eq_false_iff_ne.mpr c6
      have c6b1 : ((l1.length : Int) != a0_0) = true := bne_iff_ne.mpr c6
      obtain rfl := Option.some.inj H
      go_enter Tryz.func7, Tryz.ntmps7
      go_wp2_with (first | ((with_reducible refine gate_dst (N := 3) rfl ?_); refine box_event ?hg (N := 3) ?hd (cs := #[.int .i64 a0_0, .int .i64 a0_1, .bool a0_2, .int .i64 a0_3, .int .i64 a0_4, .int .i64 a0_5, .int .i64 a0_6]) (t := 23) ?hr ?_; (case hd => rfl); (case hg => rfl); (case hr => first | (go_simp; done) | (go_simp; rfl)); intro gb190 hg w57 hbox hb; have n0_ := Aside0.mk (below_step (by repeat (first | (with_reducible first | exact HB.out | apply below_alloc | apply pw_below_drewN | apply below_drew1) | exact HB.out)) hb); have n1_ := Aside0.mk (hbox); have n2_ := Aside0.mk ((by rw [hg]; exact (below_size (by repeat (first | (with_reducible first | exact HB.out | apply below_alloc | apply pw_below_drewN | apply below_drew1) | exact HB.out))) : w.heap.size ≤ gb190)); have n3_ := Aside0.mk ((by rw [hg]; exact (below_size (by repeat (first | (with_reducible first | exact HB.out | apply below_alloc | apply pw_below_drewN | apply below_drew1) | exact HB.out))) : w.heap.size ≤ gb190)); clear HB; have HB := n0_; have BK190 := n1_; have GW190 := n2_; have GE190 := n3_; clear n0_ n1_ n2_ n3_; clear hb hbox hg) | ((with_reducible refine gate_dst (N := 5) rfl ?_); refine box_event ?hg (N := 5) ?hd (cs := #[.int .i64 a2_0, .int .i64 a2_1, .bool a2_2, .bool a2_3, .bool a2_4]) (t := 26) ?hr ?_; (case hd => rfl); (case hg => rfl); (case hr => first | (go_simp; done) | (go_simp; rfl)); intro gb191 hg w58 hbox hb; have n0_ := Aside0.mk (blk_below (g := gb190) (o := .cells #[.int .i64 a0_0, .int .i64 a0_1, .bool a0_2, .int .i64 a0_3, .int .i64 a0_4, .int .i64 a0_5, .int .i64 a0_6] 23 (0, 0)) (by (with_reducible repeat (first | refine blk_drewN ?_ _ | refine blk_drew ?_ | refine blk_alloc ?_ _)); exact BK190.out) hb); have n1_ := Aside0.mk (below_step (by repeat (first | (with_reducible first | exact HB.out | apply below_alloc | apply pw_below_drewN | apply below_drew1 | refine below_set ?_ GE190.out) | exact HB.out)) hb); have n2_ := Aside0.mk (hbox); have n3_ := Aside0.mk ((by rw [hg]; exact (below_size (by repeat (first | (with_reducible first | exact HB.out | apply below_alloc | apply pw_below_drewN | apply below_drew1 | refine below_set ?_ GE190.out) | exact HB.out))) : w.heap.size ≤ gb191)); have n4_ := Aside0.mk ((by rw [hg]; exact (below_size (by repeat (first | (with_reducible first | exact HB.out | apply below_alloc | apply pw_below_drewN | apply below_drew1 | refine below_set ?_ GE190.out) | exact HB.out))) : w.heap.size ≤ gb191)); have n5_ := Aside0.mk ((by rw [hg]; exact Nat.ne_of_lt (blk_lt (g := gb190) (o := .cells #[.int .i64 a0_0, .int .i64 a0_1, .bool a0_2, .int .i64 a0_3, .int .i64 a0_4, .int .i64 a0_5, .int .i64 a0_6] 23 (0, 0)) (by (with_reducible repeat (first | refine blk_drewN ?_ _ | refine blk_drew ?_ | refine blk_alloc ?_ _)); exact BK190.out)) : gb190 ≠ gb191)); have n6_ := Aside0.mk ((by rw [hg]; exact Nat.ne_of_gt (blk_lt (g := gb190) (o := .cells #[.int .i64 a0_0, .int .i64 a0_1, .bool a0_2, .int .i64 a0_3, .int .i64 a0_4, .int .i64 a0_5, .int .i64 a0_6] 23 (0, 0)) (by (with_reducible repeat (first | refine blk_drewN ?_ _ | refine blk_drew ?_ | refine blk_alloc ?_ _)); exact BK190.out)) : gb191 ≠ gb190)); clear BK190; clear HB; have BK190 := n0_; have HB := n1_; have BK191 := n2_; have GW191 := n3_; have GE191 := n4_; have NB190_191 := n5_; have NB191_190 := n6_; clear n0_ n1_ n2_ n3_ n4_ n5_ n6_; clear hb hbox hg; have hnb59 := NB190_191.out; have hnc59 := NB191_190.out; have hcz60_0 : w58.cell? ⟨gb190, 0, none⟩ = some (.int .i64 a0_0) := (blk_cell BK190.out 0).trans rfl; have hcz60_1 : w58.cell? ⟨gb190, 1, none⟩ = some (.int .i64 a0_1) := (blk_cell BK190.out 1).trans rfl; have hcz60_2 : w58.cell? ⟨gb190, 2, none⟩ = some (.bool a0_2) := (blk_cell BK190.out 2).trans rfl; have hcz60_3 : w58.cell? ⟨gb190, 3, none⟩ = some (.int .i64 a0_3) := (blk_cell BK190.out 3).trans rfl; have hcz60_4 : w58.cell? ⟨gb190, 4, none⟩ = some (.int .i64 a0_4) := (blk_cell BK190.out 4).trans rfl; have hcz60_5 : w58.cell? ⟨gb190, 5, none⟩ = some (.int .i64 a0_5) := (blk_cell BK190.out 5).trans rfl; have hcz60_6 : w58.cell? ⟨gb190, 6, none⟩ = some (.int .i64 a0_6) := (blk_cell BK190.out 6).trans rfl; have hfz60_0 := blk_frozen BK190.out 0; have hfz60_1 := blk_frozen BK190.out 1; have hfz60_2 := blk_frozen BK190.out 2; have hfz60_3 := blk_frozen BK190.out 3; have hfz60_4 := blk_frozen BK190.out 4; have hfz60_5 := blk_frozen BK190.out 5; have hfz60_6 := blk_frozen BK190.out 6) | (go_at_call 12; (with_reducible refine (sackbutref16_Good.calls a0_0 a0_1 a0_2 a0_3 a0_4 a0_5 a0_6 true _ A4.out).mono ?_); rintro e w61 ⟨rfl, hb⟩; have n0_ := Aside0.mk (blk_below (g := gb190) (o := .cells #[.int .i64 a0_0, .int .i64 a0_1, .bool a0_2, .int .i64 a0_3, .int .i64 a0_4, .int .i64 a0_5, .int .i64 a0_6] 23 (0, 0)) (by (with_reducible repeat (first | refine blk_drewN ?_ _ | refine blk_drew ?_ | refine blk_alloc ?_ _)); exact BK190.out) hb); have n1_ := Aside0.mk (blk_below (g := gb191) (o := .cells #[.int .i64 a2_0, .int .i64 a2_1, .bool a2_2, .bool a2_3, .bool a2_4] 26 (0, 0)) (by (with_reducible repeat (first | refine blk_drewN ?_ _ | refine blk_drew ?_ | refine blk_alloc ?_ _)); exact BK191.out) hb); have n2_ := Aside0.mk (below_step (by repeat (first | (with_reducible first | exact HB.out | apply below_alloc | apply pw_below_drewN | apply below_drew1 | refine below_set ?_ GE190.out | refine below_set ?_ GE191.out) | exact HB.out)) hb); clear BK190; clear BK191; clear HB; have BK190 := n0_; have BK191 := n1_; have HB := n2_; clear n0_ n1_ n2_; (try clear hb); (try clear hb2); (try clear hk); (try clear hi); have hcz62_0 : w61.cell? ⟨gb190, 0, none⟩ = some (.int .i64 a0_0) := (blk_cell BK190.out 0).trans rfl; have hcz62_1 : w61.cell? ⟨gb190, 1, none⟩ = some (.int .i64 a0_1) := (blk_cell BK190.out 1).trans rfl; have hcz62_2 : w61.cell? ⟨gb190, 2, none⟩ = some (.bool a0_2) := (blk_cell BK190.out 2).trans rfl; have hcz62_3 : w61.cell? ⟨gb190, 3, none⟩ = some (.int .i64 a0_3) := (blk_cell BK190.out 3).trans rfl; have hcz62_4 : w61.cell? ⟨gb190, 4, none⟩ = some (.int .i64 a0_4) := (blk_cell BK190.out 4).trans rfl; have hcz62_5 : w61.cell? ⟨gb190, 5, none⟩ = some (.int .i64 a0_5) := (blk_cell BK190.out 5).trans rfl; have hcz62_6 : w61.cell? ⟨gb190, 6, none⟩ = some (.int .i64 a0_6) := (blk_cell BK190.out 6).trans rfl; have hfz62_0 := blk_frozen BK190.out 0; have hfz62_1 := blk_frozen BK190.out 1; have hfz62_2 := blk_frozen BK190.out 2; have hfz62_3 := blk_frozen BK190.out 3; have hfz62_4 := blk_frozen BK190.out 4; have hfz62_5 := blk_frozen BK190.out 5; have hfz62_6 := blk_frozen BK190.out 6))
      repeat (go_quiet (first | ((with_reducible refine gate_dst (N := 3) rfl ?_); refine box_event ?hg (N := 3) ?hd (cs := #[.int .i64 a0_0, .int .i64 a0_1, .bool a0_2, .int .i64 a0_3, .int .i64 a0_4, .int .i64 a0_5, .int .i64 a0_6]) (t := 23) ?hr ?_; (case hd => rfl); (case hg => rfl); (case hr => first | (go_simp; done) | (go_simp; rfl)); intro gb190 hg w57 hbox hb; have n0_ := Aside0.mk (below_step (by repeat (first | (with_reducible first | exact HB.out | apply below_alloc | apply pw_below_drewN | apply below_drew1) | exact HB.out)) hb); have n1_ := Aside0.mk (hbox); have n2_ := Aside0.mk ((by rw [hg]; exact (below_size (by repeat (first | (with_reducible first | exact HB.out | apply below_alloc | apply pw_below_drewN | apply below_drew1) | exact HB.out))) : w.heap.size ≤ gb190)); have n3_ := Aside0.mk ((by rw [hg]; exact (below_size (by repeat (first | (with_reducible first | exact HB.out | apply below_alloc | apply pw_below_drewN | apply below_drew1) | exact HB.out))) : w.heap.size ≤ gb190)); clear HB; have HB := n0_; have BK190 := n1_; have GW190 := n2_; have GE190 := n3_; clear n0_ n1_ n2_ n3_; clear hb hbox hg) | ((with_reducible refine gate_dst (N := 5) rfl ?_); refine box_event ?hg (N := 5) ?hd (cs := #[.int .i64 a2_0, .int .i64 a2_1, .bool a2_2, .bool a2_3, .bool a2_4]) (t := 26) ?hr ?_; (case hd => rfl); (case hg => rfl); (case hr => first | (go_simp; done) | (go_simp; rfl)); intro gb191 hg w58 hbox hb; have n0_ := Aside0.mk (blk_below (g := gb190) (o := .cells #[.int .i64 a0_0, .int .i64 a0_1, .bool a0_2, .int .i64 a0_3, .int .i64 a0_4, .int .i64 a0_5, .int .i64 a0_6] 23 (0, 0)) (by (with_reducible repeat (first | refine blk_drewN ?_ _ | refine blk_drew ?_ | refine blk_alloc ?_ _)); exact BK190.out) hb); have n1_ := Aside0.mk (below_step (by repeat (first | (with_reducible first | exact HB.out | apply below_alloc | apply pw_below_drewN | apply below_drew1 | refine below_set ?_ GE190.out) | exact HB.out)) hb); have n2_ := Aside0.mk (hbox); have n3_ := Aside0.mk ((by rw [hg]; exact (below_size (by repeat (first | (with_reducible first | exact HB.out | apply below_alloc | apply pw_below_drewN | apply below_drew1 | refine below_set ?_ GE190.out) | exact HB.out))) : w.heap.size ≤ gb191)); have n4_ := Aside0.mk ((by rw [hg]; exact (below_size (by repeat (first | (with_reducible first | exact HB.out | apply below_alloc | apply pw_below_drewN | apply below_drew1 | refine below_set ?_ GE190.out) | exact HB.out))) : w.heap.size ≤ gb191)); have n5_ := Aside0.mk ((by rw [hg]; exact Nat.ne_of_lt (blk_lt (g := gb190) (o := .cells #[.int .i64 a0_0, .int .i64 a0_1, .bool a0_2, .int .i64 a0_3, .int .i64 a0_4, .int .i64 a0_5, .int .i64 a0_6] 23 (0, 0)) (by (with_reducible repeat (first | refine blk_drewN ?_ _ | refine blk_drew ?_ | refine blk_alloc ?_ _)); exact BK190.out)) : gb190 ≠ gb191)); have n6_ := Aside0.mk ((by rw [hg]; exact Nat.ne_of_gt (blk_lt (g := gb190) (o := .cells #[.int .i64 a0_0, .int .i64 a0_1, .bool a0_2, .int .i64 a0_3, .int .i64 a0_4, .int .i64 a0_5, .int .i64 a0_6] 23 (0, 0)) (by (with_reducible repeat (first | refine blk_drewN ?_ _ | refine blk_drew ?_ | refine blk_alloc ?_ _)); exact BK190.out)) : gb191 ≠ gb190)); clear BK190; clear HB; have BK190 := n0_; have HB := n1_; have BK191 := n2_; have GW191 := n3_; have GE191 := n4_; have NB190_191 := n5_; have NB191_190 := n6_; clear n0_ n1_ n2_ n3_ n4_ n5_ n6_; clear hb hbox hg; have hnb59 := NB190_191.out; have hnc59 := NB191_190.out; have hcz60_0 : w58.cell? ⟨gb190, 0, none⟩ = some (.int .i64 a0_0) := (blk_cell BK190.out 0).trans rfl; have hcz60_1 : w58.cell? ⟨gb190, 1, none⟩ = some (.int .i64 a0_1) := (blk_cell BK190.out 1).trans rfl; have hcz60_2 : w58.cell? ⟨gb190, 2, none⟩ = some (.bool a0_2) := (blk_cell BK190.out 2).trans rfl; have hcz60_3 : w58.cell? ⟨gb190, 3, none⟩ = some (.int .i64 a0_3) := (blk_cell BK190.out 3).trans rfl; have hcz60_4 : w58.cell? ⟨gb190, 4, none⟩ = some (.int .i64 a0_4) := (blk_cell BK190.out 4).trans rfl; have hcz60_5 : w58.cell? ⟨gb190, 5, none⟩ = some (.int .i64 a0_5) := (blk_cell BK190.out 5).trans rfl; have hcz60_6 : w58.cell? ⟨gb190, 6, none⟩ = some (.int .i64 a0_6) := (blk_cell BK190.out 6).trans rfl; have hfz60_0 := blk_frozen BK190.out 0; have hfz60_1 := blk_frozen BK190.out 1; have hfz60_2 := blk_frozen BK190.out 2; have hfz60_3 := blk_frozen BK190.out 3; have hfz60_4 := blk_frozen BK190.out 4; have hfz60_5 := blk_frozen BK190.out 5; have hfz60_6 := blk_frozen BK190.out 6) | (go_at_call 12; (with_reducible refine (sackbutref16_Good.calls a0_0 a0_1 a0_2 a0_3 a0_4 a0_5 a0_6 true _ A4.out).mono ?_); rintro e w61 ⟨rfl, hb⟩; have n0_ := Aside0.mk (blk_below (g := gb190) (o := .cells #[.int .i64 a0_0, .int .i64 a0_1, .bool a0_2, .int .i64 a0_3, .int .i64 a0_4, .int .i64 a0_5, .int .i64 a0_6] 23 (0, 0)) (by (with_reducible repeat (first | refine blk_drewN ?_ _ | refine blk_drew ?_ | refine blk_alloc ?_ _)); exact BK190.out) hb); have n1_ := Aside0.mk (blk_below (g := gb191) (o := .cells #[.int .i64 a2_0, .int .i64 a2_1, .bool a2_2, .bool a2_3, .bool a2_4] 26 (0, 0)) (by (with_reducible repeat (first | refine blk_drewN ?_ _ | refine blk_drew ?_ | refine blk_alloc ?_ _)); exact BK191.out) hb); have n2_ := Aside0.mk (below_step (by repeat (first | (with_reducible first | exact HB.out | apply below_alloc | apply pw_below_drewN | apply below_drew1 | refine below_set ?_ GE190.out | refine below_set ?_ GE191.out) | exact HB.out)) hb); clear BK190; clear BK191; clear HB; have BK190 := n0_; have BK191 := n1_; have HB := n2_; clear n0_ n1_ n2_; (try clear hb); (try clear hb2); (try clear hk); (try clear hi); have hcz62_0 : w61.cell? ⟨gb190, 0, none⟩ = some (.int .i64 a0_0) := (blk_cell BK190.out 0).trans rfl; have hcz62_1 : w61.cell? ⟨gb190, 1, none⟩ = some (.int .i64 a0_1) := (blk_cell BK190.out 1).trans rfl; have hcz62_2 : w61.cell? ⟨gb190, 2, none⟩ = some (.bool a0_2) := (blk_cell BK190.out 2).trans rfl; have hcz62_3 : w61.cell? ⟨gb190, 3, none⟩ = some (.int .i64 a0_3) := (blk_cell BK190.out 3).trans rfl; have hcz62_4 : w61.cell? ⟨gb190, 4, none⟩ = some (.int .i64 a0_4) := (blk_cell BK190.out 4).trans rfl; have hcz62_5 : w61.cell? ⟨gb190, 5, none⟩ = some (.int .i64 a0_5) := (blk_cell BK190.out 5).trans rfl; have hcz62_6 : w61.cell? ⟨gb190, 6, none⟩ = some (.int .i64 a0_6) := (blk_cell BK190.out 6).trans rfl; have hfz62_0 := blk_frozen BK190.out 0; have hfz62_1 := blk_frozen BK190.out 1; have hfz62_2 := blk_frozen BK190.out 2; have hfz62_3 := blk_frozen BK190.out 3; have hfz62_4 := blk_frozen BK190.out 4; have hfz62_5 := blk_frozen BK190.out 5; have hfz62_6 := blk_frozen BK190.out 6)); try go_wp2_with (first | ((with_reducible refine gate_dst (N := 3) rfl ?_); refine box_event ?hg (N := 3) ?hd (cs := #[.int .i64 a0_0, .int .i64 a0_1, .bool a0_2, .int .i64 a0_3, .int .i64 a0_4, .int .i64 a0_5, .int .i64 a0_6]) (t := 23) ?hr ?_; (case hd => rfl); (case hg => rfl); (case hr => first | (go_simp; done) | (go_simp; rfl)); intro gb190 hg w57 hbox hb; have n0_ := Aside0.mk (below_step (by repeat (first | (with_reducible first | exact HB.out | apply below_alloc | apply pw_below_drewN | apply below_drew1) | exact HB.out)) hb); have n1_ := Aside0.mk (hbox); have n2_ := Aside0.mk ((by rw [hg]; exact (below_size (by repeat (first | (with_reducible first | exact HB.out | apply below_alloc | apply pw_below_drewN | apply below_drew1) | exact HB.out))) : w.heap.size ≤ gb190)); have n3_ := Aside0.mk ((by rw [hg]; exact (below_size (by repeat (first | (with_reducible first | exact HB.out | apply below_alloc | apply pw_below_drewN | apply below_drew1) | exact HB.out))) : w.heap.size ≤ gb190)); clear HB; have HB := n0_; have BK190 := n1_; have GW190 := n2_; have GE190 := n3_; clear n0_ n1_ n2_ n3_; clear hb hbox hg) | ((with_reducible refine gate_dst (N := 5) rfl ?_); refine box_event ?hg (N := 5) ?hd (cs := #[.int .i64 a2_0, .int .i64 a2_1, .bool a2_2, .bool a2_3, .bool a2_4]) (t := 26) ?hr ?_; (case hd => rfl); (case hg => rfl); (case hr => first | (go_simp; done) | (go_simp; rfl)); intro gb191 hg w58 hbox hb; have n0_ := Aside0.mk (blk_below (g := gb190) (o := .cells #[.int .i64 a0_0, .int .i64 a0_1, .bool a0_2, .int .i64 a0_3, .int .i64 a0_4, .int .i64 a0_5, .int .i64 a0_6] 23 (0, 0)) (by (with_reducible repeat (first | refine blk_drewN ?_ _ | refine blk_drew ?_ | refine blk_alloc ?_ _)); exact BK190.out) hb); have n1_ := Aside0.mk (below_step (by repeat (first | (with_reducible first | exact HB.out | apply below_alloc | apply pw_below_drewN | apply below_drew1 | refine below_set ?_ GE190.out) | exact HB.out)) hb); have n2_ := Aside0.mk (hbox); have n3_ := Aside0.mk ((by rw [hg]; exact (below_size (by repeat (first | (with_reducible first | exact HB.out | apply below_alloc | apply pw_below_drewN | apply below_drew1 | refine below_set ?_ GE190.out) | exact HB.out))) : w.heap.size ≤ gb191)); have n4_ := Aside0.mk ((by rw [hg]; exact (below_size (by repeat (first | (with_reducible first | exact HB.out | apply below_alloc | apply pw_below_drewN | apply below_drew1 | refine below_set ?_ GE190.out) | exact HB.out))) : w.heap.size ≤ gb191)); have n5_ := Aside0.mk ((by rw [hg]; exact Nat.ne_of_lt (blk_lt (g := gb190) (o := .cells #[.int .i64 a0_0, .int .i64 a0_1, .bool a0_2, .int .i64 a0_3, .int .i64 a0_4, .int .i64 a0_5, .int .i64 a0_6] 23 (0, 0)) (by (with_reducible repeat (first | refine blk_drewN ?_ _ | refine blk_drew ?_ | refine blk_alloc ?_ _)); exact BK190.out)) : gb190 ≠ gb191)); have n6_ := Aside0.mk ((by rw [hg]; exact Nat.ne_of_gt (blk_lt (g := gb190) (o := .cells #[.int .i64 a0_0, .int .i64 a0_1, .bool a0_2, .int .i64 a0_3, .int .i64 a0_4, .int .i64 a0_5, .int .i64 a0_6] 23 (0, 0)) (by (with_reducible repeat (first | refine blk_drewN ?_ _ | refine blk_drew ?_ | refine blk_alloc ?_ _)); exact BK190.out)) : gb191 ≠ gb190)); clear BK190; clear HB; have BK190 := n0_; have HB := n1_; have BK191 := n2_; have GW191 := n3_; have GE191 := n4_; have NB190_191 := n5_; have NB191_190 := n6_; clear n0_ n1_ n2_ n3_ n4_ n5_ n6_; clear hb hbox hg; have hnb59 := NB190_191.out; have hnc59 := NB191_190.out; have hcz60_0 : w58.cell? ⟨gb190, 0, none⟩ = some (.int .i64 a0_0) := (blk_cell BK190.out 0).trans rfl; have hcz60_1 : w58.cell? ⟨gb190, 1, none⟩ = some (.int .i64 a0_1) := (blk_cell BK190.out 1).trans rfl; have hcz60_2 : w58.cell? ⟨gb190, 2, none⟩ = some (.bool a0_2) := (blk_cell BK190.out 2).trans rfl; have hcz60_3 : w58.cell? ⟨gb190, 3, none⟩ = some (.int .i64 a0_3) := (blk_cell BK190.out 3).trans rfl; have hcz60_4 : w58.cell? ⟨gb190, 4, none⟩ = some (.int .i64 a0_4) := (blk_cell BK190.out 4).trans rfl; have hcz60_5 : w58.cell? ⟨gb190, 5, none⟩ = some (.int .i64 a0_5) := (blk_cell BK190.out 5).trans rfl; have hcz60_6 : w58.cell? ⟨gb190, 6, none⟩ = some (.int .i64 a0_6) := (blk_cell BK190.out 6).trans rfl; have hfz60_0 := blk_frozen BK190.out 0; have hfz60_1 := blk_frozen BK190.out 1; have hfz60_2 := blk_frozen BK190.out 2; have hfz60_3 := blk_frozen BK190.out 3; have hfz60_4 := blk_frozen BK190.out 4; have hfz60_5 := blk_frozen BK190.out 5; have hfz60_6 := blk_frozen BK190.out 6) | (go_at_call 12; (with_reducible refine (sackbutref16_Good.calls a0_0 a0_1 a0_2 a0_3 a0_4 a0_5 a0_6 true _ A4.out).mono ?_); rintro e w61 ⟨rfl, hb⟩; have n0_ := Aside0.mk (blk_below (g := gb190) (o := .cells #[.int .i64 a0_0, .int .i64 a0_1, .bool a0_2, .int .i64 a0_3, .int .i64 a0_4, .int .i64 a0_5, .int .i64 a0_6] 23 (0, 0)) (by (with_reducible repeat (first | refine blk_drewN ?_ _ | refine blk_drew ?_ | refine blk_alloc ?_ _)); exact BK190.out) hb); have n1_ := Aside0.mk (blk_below (g := gb191) (o := .cells #[.int .i64 a2_0, .int .i64 a2_1, .bool a2_2, .bool a2_3, .bool a2_4] 26 (0, 0)) (by (with_reducible repeat (first | refine blk_drewN ?_ _ | refine blk_drew ?_ | refine blk_alloc ?_ _)); exact BK191.out) hb); have n2_ := Aside0.mk (below_step (by repeat (first | (with_reducible first | exact HB.out | apply below_alloc | apply pw_below_drewN | apply below_drew1 | refine below_set ?_ GE190.out | refine below_set ?_ GE191.out) | exact HB.out)) hb); clear BK190; clear BK191; clear HB; have BK190 := n0_; have BK191 := n1_; have HB := n2_; clear n0_ n1_ n2_; (try clear hb); (try clear hb2); (try clear hk); (try clear hi); have hcz62_0 : w61.cell? ⟨gb190, 0, none⟩ = some (.int .i64 a0_0) := (blk_cell BK190.out 0).trans rfl; have hcz62_1 : w61.cell? ⟨gb190, 1, none⟩ = some (.int .i64 a0_1) := (blk_cell BK190.out 1).trans rfl; have hcz62_2 : w61.cell? ⟨gb190, 2, none⟩ = some (.bool a0_2) := (blk_cell BK190.out 2).trans rfl; have hcz62_3 : w61.cell? ⟨gb190, 3, none⟩ = some (.int .i64 a0_3) := (blk_cell BK190.out 3).trans rfl; have hcz62_4 : w61.cell? ⟨gb190, 4, none⟩ = some (.int .i64 a0_4) := (blk_cell BK190.out 4).trans rfl; have hcz62_5 : w61.cell? ⟨gb190, 5, none⟩ = some (.int .i64 a0_5) := (blk_cell BK190.out 5).trans rfl; have hcz62_6 : w61.cell? ⟨gb190, 6, none⟩ = some (.int .i64 a0_6) := (blk_cell BK190.out 6).trans rfl; have hfz62_0 := blk_frozen BK190.out 0; have hfz62_1 := blk_frozen BK190.out 1; have hfz62_2 := blk_frozen BK190.out 2; have hfz62_3 := blk_frozen BK190.out 3; have hfz62_4 := blk_frozen BK190.out 4; have hfz62_5 := blk_frozen BK190.out 5; have hfz62_6 := blk_frozen BK190.out 6)))
      go_ret
      exact ⟨by first | rfl | (simp [errW_none, errW_some] <;> rfl) | (simp [*, errW_none, errW_some] <;> rfl), by repeat (first | (with_reducible first | exact HB.out | apply below_alloc | apply pw_below_drewN | apply below_drew1 | refine below_set ?_ GE190.out | refine below_set ?_ GE191.out) | exact HB.out)⟩
  · replace c5 := Bool.eq_false_iff.mpr c5
    subst c5
    have H1 : (some 7) = some r := by rw [if_neg (show ¬ (false = true) by decide)] at H; exact H
    clear H
    have H := H1
    clear H1
    obtain rfl := Option.some.inj H
    go_enter Tryz.func7, Tryz.ntmps7
    go_wp2_with (first | ((with_reducible refine gate_dst (N := 3) rfl ?_); refine box_event ?hg (N := 3) ?hd (cs := #[.int .i64 a0_0, .int .i64 a0_1, .bool a0_2, .int .i64 a0_3, .int .i64 a0_4, .int .i64 a0_5, .int .i64 a0_6]) (t := 23) ?hr ?_; (case hd => rfl); (case hg => rfl); (case hr => first | (go_simp; done) | (go_simp; rfl)); intro gb190 hg w63 hbox hb; have n0_ := Aside0.mk (below_step (by repeat (first | (with_reducible first | exact HB.out | apply below_alloc | apply pw_below_drewN | apply below_drew1) | exact HB.out)) hb); have n1_ := Aside0.mk (hbox); have n2_ := Aside0.mk ((by rw [hg]; exact (below_size (by repeat (first | (with_reducible first | exact HB.out | apply below_alloc | apply pw_below_drewN | apply below_drew1) | exact HB.out))) : w.heap.size ≤ gb190)); have n3_ := Aside0.mk ((by rw [hg]; exact (below_size (by repeat (first | (with_reducible first | exact HB.out | apply below_alloc | apply pw_below_drewN | apply below_drew1) | exact HB.out))) : w.heap.size ≤ gb190)); clear HB; have HB := n0_; have BK190 := n1_; have GW190 := n2_; have GE190 := n3_; clear n0_ n1_ n2_ n3_; clear hb hbox hg) | ((with_reducible refine gate_dst (N := 5) rfl ?_); refine box_event ?hg (N := 5) ?hd (cs := #[.int .i64 a2_0, .int .i64 a2_1, .bool a2_2, .bool a2_3, .bool a2_4]) (t := 26) ?hr ?_; (case hd => rfl); (case hg => rfl); (case hr => first | (go_simp; done) | (go_simp; rfl)); intro gb191 hg w64 hbox hb; have n0_ := Aside0.mk (blk_below (g := gb190) (o := .cells #[.int .i64 a0_0, .int .i64 a0_1, .bool a0_2, .int .i64 a0_3, .int .i64 a0_4, .int .i64 a0_5, .int .i64 a0_6] 23 (0, 0)) (by (with_reducible repeat (first | refine blk_drewN ?_ _ | refine blk_drew ?_ | refine blk_alloc ?_ _)); exact BK190.out) hb); have n1_ := Aside0.mk (below_step (by repeat (first | (with_reducible first | exact HB.out | apply below_alloc | apply pw_below_drewN | apply below_drew1 | refine below_set ?_ GE190.out) | exact HB.out)) hb); have n2_ := Aside0.mk (hbox); have n3_ := Aside0.mk ((by rw [hg]; exact (below_size (by repeat (first | (with_reducible first | exact HB.out | apply below_alloc | apply pw_below_drewN | apply below_drew1 | refine below_set ?_ GE190.out) | exact HB.out))) : w.heap.size ≤ gb191)); have n4_ := Aside0.mk ((by rw [hg]; exact (below_size (by repeat (first | (with_reducible first | exact HB.out | apply below_alloc | apply pw_below_drewN | apply below_drew1 | refine below_set ?_ GE190.out) | exact HB.out))) : w.heap.size ≤ gb191)); have n5_ := Aside0.mk ((by rw [hg]; exact Nat.ne_of_lt (blk_lt (g := gb190) (o := .cells #[.int .i64 a0_0, .int .i64 a0_1, .bool a0_2, .int .i64 a0_3, .int .i64 a0_4, .int .i64 a0_5, .int .i64 a0_6] 23 (0, 0)) (by (with_reducible repeat (first | refine blk_drewN ?_ _ | refine blk_drew ?_ | refine blk_alloc ?_ _)); exact BK190.out)) : gb190 ≠ gb191)); have n6_ := Aside0.mk ((by rw [hg]; exact Nat.ne_of_gt (blk_lt (g := gb190) (o := .cells #[.int .i64 a0_0, .int .i64 a0_1, .bool a0_2, .int .i64 a0_3, .int .i64 a0_4, .int .i64 a0_5, .int .i64 a0_6] 23 (0, 0)) (by (with_reducible repeat (first | refine blk_drewN ?_ _ | refine blk_drew ?_ | refine blk_alloc ?_ _)); exact BK190.out)) : gb191 ≠ gb190)); clear BK190; clear HB; have BK190 := n0_; have HB := n1_; have BK191 := n2_; have GW191 := n3_; have GE191 := n4_; have NB190_191 := n5_; have NB191_190 := n6_; clear n0_ n1_ n2_ n3_ n4_ n5_ n6_; clear hb hbox hg; have hnb65 := NB190_191.out; have hnc65 := NB191_190.out; have hcz66_0 : w64.cell? ⟨gb190, 0, none⟩ = some (.int .i64 a0_0) := (blk_cell BK190.out 0).trans rfl; have hcz66_1 : w64.cell? ⟨gb190, 1, none⟩ = some (.int .i64 a0_1) := (blk_cell BK190.out 1).trans rfl; have hcz66_2 : w64.cell? ⟨gb190, 2, none⟩ = some (.bool a0_2) := (blk_cell BK190.out 2).trans rfl; have hcz66_3 : w64.cell? ⟨gb190, 3, none⟩ = some (.int .i64 a0_3) := (blk_cell BK190.out 3).trans rfl; have hcz66_4 : w64.cell? ⟨gb190, 4, none⟩ = some (.int .i64 a0_4) := (blk_cell BK190.out 4).trans rfl; have hcz66_5 : w64.cell? ⟨gb190, 5, none⟩ = some (.int .i64 a0_5) := (blk_cell BK190.out 5).trans rfl; have hcz66_6 : w64.cell? ⟨gb190, 6, none⟩ = some (.int .i64 a0_6) := (blk_cell BK190.out 6).trans rfl; have hfz66_0 := blk_frozen BK190.out 0; have hfz66_1 := blk_frozen BK190.out 1; have hfz66_2 := blk_frozen BK190.out 2; have hfz66_3 := blk_frozen BK190.out 3; have hfz66_4 := blk_frozen BK190.out 4; have hfz66_5 := blk_frozen BK190.out 5; have hfz66_6 := blk_frozen BK190.out 6) | (go_at_call 12; (with_reducible refine (sackbutref16_Good.calls a0_0 a0_1 a0_2 a0_3 a0_4 a0_5 a0_6 false _ A4.out).mono ?_); rintro e w67 ⟨rfl, hb⟩; have n0_ := Aside0.mk (blk_below (g := gb190) (o := .cells #[.int .i64 a0_0, .int .i64 a0_1, .bool a0_2, .int .i64 a0_3, .int .i64 a0_4, .int .i64 a0_5, .int .i64 a0_6] 23 (0, 0)) (by (with_reducible repeat (first | refine blk_drewN ?_ _ | refine blk_drew ?_ | refine blk_alloc ?_ _)); exact BK190.out) hb); have n1_ := Aside0.mk (blk_below (g := gb191) (o := .cells #[.int .i64 a2_0, .int .i64 a2_1, .bool a2_2, .bool a2_3, .bool a2_4] 26 (0, 0)) (by (with_reducible repeat (first | refine blk_drewN ?_ _ | refine blk_drew ?_ | refine blk_alloc ?_ _)); exact BK191.out) hb); have n2_ := Aside0.mk (below_step (by repeat (first | (with_reducible first | exact HB.out | apply below_alloc | apply pw_below_drewN | apply below_drew1 | refine below_set ?_ GE190.out | refine below_set ?_ GE191.out) | exact HB.out)) hb); clear BK190; clear BK191; clear HB; have BK190 := n0_; have BK191 := n1_; have HB := n2_; clear n0_ n1_ n2_; (try clear hb); (try clear hb2); (try clear hk); (try clear hi)))
    repeat (go_quiet (first | ((with_reducible refine gate_dst (N := 3) rfl ?_); refine box_event ?hg (N := 3) ?hd (cs := #[.int .i64 a0_0, .int .i64 a0_1, .bool a0_2, .int .i64 a0_3, .int .i64 a0_4, .int .i64 a0_5, .int .i64 a0_6]) (t := 23) ?hr ?_; (case hd => rfl); (case hg => rfl); (case hr => first | (go_simp; done) | (go_simp; rfl)); intro gb190 hg w63 hbox hb; have n0_ := Aside0.mk (below_step (by repeat (first | (with_reducible first | exact HB.out | apply below_alloc | apply pw_below_drewN | apply below_drew1) | exact HB.out)) hb); have n1_ := Aside0.mk (hbox); have n2_ := Aside0.mk ((by rw [hg]; exact (below_size (by repeat (first | (with_reducible first | exact HB.out | apply below_alloc | apply pw_below_drewN | apply below_drew1) | exact HB.out))) : w.heap.size ≤ gb190)); have n3_ := Aside0.mk ((by rw [hg]; exact (below_size (by repeat (first | (with_reducible first | exact HB.out | apply below_alloc | apply pw_below_drewN | apply below_drew1) | exact HB.out))) : w.heap.size ≤ gb190)); clear HB; have HB := n0_; have BK190 := n1_; have GW190 := n2_; have GE190 := n3_; clear n0_ n1_ n2_ n3_; clear hb hbox hg) | ((with_reducible refine gate_dst (N := 5) rfl ?_); refine box_event ?hg (N := 5) ?hd (cs := #[.int .i64 a2_0, .int .i64 a2_1, .bool a2_2, .bool a2_3, .bool a2_4]) (t := 26) ?hr ?_; (case hd => rfl); (case hg => rfl); (case hr => first | (go_simp; done) | (go_simp; rfl)); intro gb191 hg w64 hbox hb; have n0_ := Aside0.mk (blk_below (g := gb190) (o := .cells #[.int .i64 a0_0, .int .i64 a0_1, .bool a0_2, .int .i64 a0_3, .int .i64 a0_4, .int .i64 a0_5, .int .i64 a0_6] 23 (0, 0)) (by (with_reducible repeat (first | refine blk_drewN ?_ _ | refine blk_drew ?_ | refine blk_alloc ?_ _)); exact BK190.out) hb); have n1_ := Aside0.mk (below_step (by repeat (first | (with_reducible first | exact HB.out | apply below_alloc | apply pw_below_drewN | apply below_drew1 | refine below_set ?_ GE190.out) | exact HB.out)) hb); have n2_ := Aside0.mk (hbox); have n3_ := Aside0.mk ((by rw [hg]; exact (below_size (by repeat (first | (with_reducible first | exact HB.out | apply below_alloc | apply pw_below_drewN | apply below_drew1 | refine below_set ?_ GE190.out) | exact HB.out))) : w.heap.size ≤ gb191)); have n4_ := Aside0.mk ((by rw [hg]; exact (below_size (by repeat (first | (with_reducible first | exact HB.out | apply below_alloc | apply pw_below_drewN | apply below_drew1 | refine below_set ?_ GE190.out) | exact HB.out))) : w.heap.size ≤ gb191)); have n5_ := Aside0.mk ((by rw [hg]; exact Nat.ne_of_lt (blk_lt (g := gb190) (o := .cells #[.int .i64 a0_0, .int .i64 a0_1, .bool a0_2, .int .i64 a0_3, .int .i64 a0_4, .int .i64 a0_5, .int .i64 a0_6] 23 (0, 0)) (by (with_reducible repeat (first | refine blk_drewN ?_ _ | refine blk_drew ?_ | refine blk_alloc ?_ _)); exact BK190.out)) : gb190 ≠ gb191)); have n6_ := Aside0.mk ((by rw [hg]; exact Nat.ne_of_gt (blk_lt (g := gb190) (o := .cells #[.int .i64 a0_0, .int .i64 a0_1, .bool a0_2, .int .i64 a0_3, .int .i64 a0_4, .int .i64 a0_5, .int .i64 a0_6] 23 (0, 0)) (by (with_reducible repeat (first | refine blk_drewN ?_ _ | refine blk_drew ?_ | refine blk_alloc ?_ _)); exact BK190.out)) : gb191 ≠ gb190)); clear BK190; clear HB; have BK190 := n0_; have HB := n1_; have BK191 := n2_; have GW191 := n3_; have GE191 := n4_; have NB190_191 := n5_; have NB191_190 := n6_; clear n0_ n1_ n2_ n3_ n4_ n5_ n6_; clear hb hbox hg; have hnb65 := NB190_191.out; have hnc65 := NB191_190.out; have hcz66_0 : w64.cell? ⟨gb190, 0, none⟩ = some (.int .i64 a0_0) := (blk_cell BK190.out 0).trans rfl; have hcz66_1 : w64.cell? ⟨gb190, 1, none⟩ = some (.int .i64 a0_1) := (blk_cell BK190.out 1).trans rfl; have hcz66_2 : w64.cell? ⟨gb190, 2, none⟩ = some (.bool a0_2) := (blk_cell BK190.out 2).trans rfl; have hcz66_3 : w64.cell? ⟨gb190, 3, none⟩ = some (.int .i64 a0_3) := (blk_cell BK190.out 3).trans rfl; have hcz66_4 : w64.cell? ⟨gb190, 4, none⟩ = some (.int .i64 a0_4) := (blk_cell BK190.out 4).trans rfl; have hcz66_5 : w64.cell? ⟨gb190, 5, none⟩ = some (.int .i64 a0_5) := (blk_cell BK190.out 5).trans rfl; have hcz66_6 : w64.cell? ⟨gb190, 6, none⟩ = some (.int .i64 a0_6) := (blk_cell BK190.out 6).trans rfl; have hfz66_0 := blk_frozen BK190.out 0; have hfz66_1 := blk_frozen BK190.out 1; have hfz66_2 := blk_frozen BK190.out 2; have hfz66_3 := blk_frozen BK190.out 3; have hfz66_4 := blk_frozen BK190.out 4; have hfz66_5 := blk_frozen BK190.out 5; have hfz66_6 := blk_frozen BK190.out 6) | (go_at_call 12; (with_reducible refine (sackbutref16_Good.calls a0_0 a0_1 a0_2 a0_3 a0_4 a0_5 a0_6 false _ A4.out).mono ?_); rintro e w67 ⟨rfl, hb⟩; have n0_ := Aside0.mk (blk_below (g := gb190) (o := .cells #[.int .i64 a0_0, .int .i64 a0_1, .bool a0_2, .int .i64 a0_3, .int .i64 a0_4, .int .i64 a0_5, .int .i64 a0_6] 23 (0, 0)) (by (with_reducible repeat (first | refine blk_drewN ?_ _ | refine blk_drew ?_ | refine blk_alloc ?_ _)); exact BK190.out) hb); have n1_ := Aside0.mk (blk_below (g := gb191) (o := .cells #[.int .i64 a2_0, .int .i64 a2_1, .bool a2_2, .bool a2_3, .bool a2_4] 26 (0, 0)) (by (with_reducible repeat (first | refine blk_drewN ?_ _ | refine blk_drew ?_ | refine blk_alloc ?_ _)); exact BK191.out) hb); have n2_ := Aside0.mk (below_step (by repeat (first | (with_reducible first | exact HB.out | apply below_alloc | apply pw_below_drewN | apply below_drew1 | refine below_set ?_ GE190.out | refine below_set ?_ GE191.out) | exact HB.out)) hb); clear BK190; clear BK191; clear HB; have BK190 := n0_; have BK191 := n1_; have HB := n2_; clear n0_ n1_ n2_; (try clear hb); (try clear hb2); (try clear hk); (try clear hi))); try go_wp2_with (first | ((with_reducible refine gate_dst (N := 3) rfl ?_); refine box_event ?hg (N := 3) ?hd (cs := #[.int .i64 a0_0, .int .i64 a0_1, .bool a0_2, .int .i64 a0_3, .int .i64 a0_4, .int .i64 a0_5, .int .i64 a0_6]) (t := 23) ?hr ?_; (case hd => rfl); (case hg => rfl); (case hr => first | (go_simp; done) | (go_simp; rfl)); intro gb190 hg w63 hbox hb; have n0_ := Aside0.mk (below_step (by repeat (first | (with_reducible first | exact HB.out | apply below_alloc | apply pw_below_drewN | apply below_drew1) | exact HB.out)) hb); have n1_ := Aside0.mk (hbox); have n2_ := Aside0.mk ((by rw [hg]; exact (below_size (by repeat (first | (with_reducible first | exact HB.out | apply below_alloc | apply pw_below_drewN | apply below_drew1) | exact HB.out))) : w.heap.size ≤ gb190)); have n3_ := Aside0.mk ((by rw [hg]; exact (below_size (by repeat (first | (with_reducible first | exact HB.out | apply below_alloc | apply pw_below_drewN | apply below_drew1) | exact HB.out))) : w.heap.size ≤ gb190)); clear HB; have HB := n0_; have BK190 := n1_; have GW190 := n2_; have GE190 := n3_; clear n0_ n1_ n2_ n3_; clear hb hbox hg) | ((with_reducible refine gate_dst (N := 5) rfl ?_); refine box_event ?hg (N := 5) ?hd (cs := #[.int .i64 a2_0, .int .i64 a2_1, .bool a2_2, .bool a2_3, .bool a2_4]) (t := 26) ?hr ?_; (case hd => rfl); (case hg => rfl); (case hr => first | (go_simp; done) | (go_simp; rfl)); intro gb191 hg w64 hbox hb; have n0_ := Aside0.mk (blk_below (g := gb190) (o := .cells #[.int .i64 a0_0, .int .i64 a0_1, .bool a0_2, .int .i64 a0_3, .int .i64 a0_4, .int .i64 a0_5, .int .i64 a0_6] 23 (0, 0)) (by (with_reducible repeat (first | refine blk_drewN ?_ _ | refine blk_drew ?_ | refine blk_alloc ?_ _)); exact BK190.out) hb); have n1_ := Aside0.mk (below_step (by repeat (first | (with_reducible first | exact HB.out | apply below_alloc | apply pw_below_drewN | apply below_drew1 | refine below_set ?_ GE190.out) | exact HB.out)) hb); have n2_ := Aside0.mk (hbox); have n3_ := Aside0.mk ((by rw [hg]; exact (below_size (by repeat (first | (with_reducible first | exact HB.out | apply below_alloc | apply pw_below_drewN | apply below_drew1 | refine below_set ?_ GE190.out) | exact HB.out))) : w.heap.size ≤ gb191)); have n4_ := Aside0.mk ((by rw [hg]; exact (below_size (by repeat (first | (with_reducible first | exact HB.out | apply below_alloc | apply pw_below_drewN | apply below_drew1 | refine below_set ?_ GE190.out) | exact HB.out))) : w.heap.size ≤ gb191)); have n5_ := Aside0.mk ((by rw [hg]; exact Nat.ne_of_lt (blk_lt (g := gb190) (o := .cells #[.int .i64 a0_0, .int .i64 a0_1, .bool a0_2, .int .i64 a0_3, .int .i64 a0_4, .int .i64 a0_5, .int .i64 a0_6] 23 (0, 0)) (by (with_reducible repeat (first | refine blk_drewN ?_ _ | refine blk_drew ?_ | refine blk_alloc ?_ _)); exact BK190.out)) : gb190 ≠ gb191)); have n6_ := Aside0.mk ((by rw [hg]; exact Nat.ne_of_gt (blk_lt (g := gb190) (o := .cells #[.int .i64 a0_0, .int .i64 a0_1, .bool a0_2, .int .i64 a0_3, .int .i64 a0_4, .int .i64 a0_5, .int .i64 a0_6] 23 (0, 0)) (by (with_reducible repeat (first | refine blk_drewN ?_ _ | refine blk_drew ?_ | refine blk_alloc ?_ _)); exact BK190.out)) : gb191 ≠ gb190)); clear BK190; clear HB; have BK190 := n0_; have HB := n1_; have BK191 := n2_; have GW191 := n3_; have GE191 := n4_; have NB190_191 := n5_; have NB191_190 := n6_; clear n0_ n1_ n2_ n3_ n4_ n5_ n6_; clear hb hbox hg; have hnb65 := NB190_191.out; have hnc65 := NB191_190.out; have hcz66_0 : w64.cell? ⟨gb190, 0, none⟩ = some (.int .i64 a0_0) := (blk_cell BK190.out 0).trans rfl; have hcz66_1 : w64.cell? ⟨gb190, 1, none⟩ = some (.int .i64 a0_1) := (blk_cell BK190.out 1).trans rfl; have hcz66_2 : w64.cell? ⟨gb190, 2, none⟩ = some (.bool a0_2) := (blk_cell BK190.out 2).trans rfl; have hcz66_3 : w64.cell? ⟨gb190, 3, none⟩ = some (.int .i64 a0_3) := (blk_cell BK190.out 3).trans rfl; have hcz66_4 : w64.cell? ⟨gb190, 4, none⟩ = some (.int .i64 a0_4) := (blk_cell BK190.out 4).trans rfl; have hcz66_5 : w64.cell? ⟨gb190, 5, none⟩ = some (.int .i64 a0_5) := (blk_cell BK190.out 5).trans rfl; have hcz66_6 : w64.cell? ⟨gb190, 6, none⟩ = some (.int .i64 a0_6) := (blk_cell BK190.out 6).trans rfl; have hfz66_0 := blk_frozen BK190.out 0; have hfz66_1 := blk_frozen BK190.out 1; have hfz66_2 := blk_frozen BK190.out 2; have hfz66_3 := blk_frozen BK190.out 3; have hfz66_4 := blk_frozen BK190.out 4; have hfz66_5 := blk_frozen BK190.out 5; have hfz66_6 := blk_frozen BK190.out 6) | (go_at_call 12; (with_reducible refine (sackbutref16_Good.calls a0_0 a0_1 a0_2 a0_3 a0_4 a0_5 a0_6 false _ A4.out).mono ?_); rintro e w67 ⟨rfl, hb⟩; have n0_ := Aside0.mk (blk_below (g := gb190) (o := .cells #[.int .i64 a0_0, .int .i64 a0_1, .bool a0_2, .int .i64 a0_3, .int .i64 a0_4, .int .i64 a0_5, .int .i64 a0_6] 23 (0, 0)) (by (with_reducible repeat (first | refine blk_drewN ?_ _ | refine blk_drew ?_ | refine blk_alloc ?_ _)); exact BK190.out) hb); have n1_ := Aside0.mk (blk_below (g := gb191) (o := .cells #[.int .i64 a2_0, .int .i64 a2_1, .bool a2_2, .bool a2_3, .bool a2_4] 26 (0, 0)) (by (with_reducible repeat (first | refine blk_drewN ?_ _ | refine blk_drew ?_ | refine blk_alloc ?_ _)); exact BK191.out) hb); have n2_ := Aside0.mk (below_step (by repeat (first | (with_reducible first | exact HB.out | apply below_alloc | apply pw_below_drewN | apply below_drew1 | refine below_set ?_ GE190.out | refine below_set ?_ GE191.out) | exact HB.out)) hb); clear BK190; clear BK191; clear HB; have BK190 := n0_; have BK191 := n1_; have HB := n2_; clear n0_ n1_ n2_; (try clear hb); (try clear hb2); (try clear hk); (try clear hi))))
    go_ret
    exact ⟨by first | rfl | (simp [errW_none, errW_some] <;> rfl) | (simp [*, errW_none, errW_some] <;> rfl), by repeat (first | (with_reducible first | exact HB.out | apply below_alloc | apply pw_below_drewN | apply below_drew1 | refine below_set ?_ GE190.out | refine below_set ?_ GE191.out) | exact HB.out)⟩

end Go.Proofs.YtkolmgkbdhbmhaaGreatDoor.HT2

namespace Go.Proofs.YtkolmgkbdhbmhaaGreatDoor.PackSpec
open Go Go.RowKit Go.Proofs.YtkolmgkbdhbmhaaGreatDoor.HT2 Go.Proofs.YtkolmgkbdhbmhaaGreatDoorW.PrintWords Go.Proofs.YtkolmgkbdhbmhaaGreatDoorW.PrintLast

theorem wrap_id {x : Int} (h0 : -9223372036854775808 ≤ x) (h1 : x < 9223372036854775808) : wrap64 x = x := by unfold wrap64; omega
theorem rd_nat (l : List Int) (i : Nat) (h : i < l.length) : rd l (i : Int) = l[i] := by
  unfold rd; rw [Int.toNat_natCast, List.getD_eq_getElem?_getD, List.getElem?_eq_getElem h]; rfl
theorem rd1_nat (l : List (List Int)) (i : Nat) (h : i < l.length) : rd_L1 l (i : Int) = l[i] := by
  unfold rd_L1; rw [Int.toNat_natCast, List.getD_eq_getElem?_getD, List.getElem?_eq_getElem h]; rfl
/-- One more than the greatest sample of a form. -/
def lim (a : Int) : Int := if a = 8 then 128 else if a = 16 then 32768 else 8388608
def GoodF (a : Int) : Prop := a = 8 ∨ a = 16 ∨ a = 24
instance (a : Int) : Decidable (GoodF a) := by unfold GoodF; infer_instance
theorem power7 : ∀ K, 30 ≤ K → sackbutref01_Power.f K (wrap64 (8 - 1)) = some 128 := by
  intro K hK; obtain ⟨K, rfl⟩ : ∃ m, K = m + 30 := ⟨K - 30, by omega⟩
  rw [show wrap64 (8 - 1) = 7 by decide +kernel]
  simp [sackbutref01_Power.f, sackbutref01_Power.l0, wrap64]
theorem power15 : ∀ K, 30 ≤ K → sackbutref01_Power.f K (wrap64 (16 - 1)) = some 32768 := by
  intro K hK; obtain ⟨K, rfl⟩ : ∃ m, K = m + 30 := ⟨K - 30, by omega⟩
  rw [show wrap64 (16 - 1) = 15 by decide +kernel]
  simp [sackbutref01_Power.f, sackbutref01_Power.l0, wrap64]
theorem power23 : ∀ K, 30 ≤ K → sackbutref01_Power.f K (wrap64 (24 - 1)) = some 8388608 := by
  intro K hK; obtain ⟨K, rfl⟩ : ∃ m, K = m + 30 := ⟨K - 30, by omega⟩
  rw [show wrap64 (24 - 1) = 23 by decide +kernel]
  simp [sackbutref01_Power.f, sackbutref01_Power.l0, wrap64]
theorem power_lim {a : Int} (h : GoodF a) (K : Nat) (hK : 30 ≤ K) : sackbutref01_Power.f K (wrap64 (a - 1)) = some (lim a) := by
  rcases h with rfl | rfl | rfl
  · exact power7 K hK
  · exact power15 K hK
  · exact power23 K hK
theorem lim_neg {a : Int} (h : GoodF a) : wrap64 (-lim a) = -lim a := by rcases h with rfl | rfl | rfl <;> decide +kernel
theorem ref_has {a : Int} (h : GoodF a) (v : Int) (K : Nat) (hK : 30 ≤ K) : sackbutref05_Has.f K a v = some (decide (-lim a ≤ v ∧ v < lim a)) := by
  unfold sackbutref05_Has.f
  rw [power_lim h K hK, Option.bind_some, Option.bind_some, lim_neg h]
  by_cases h1 : v ≥ -lim a <;> simp [h1]
theorem form_has {a : Int} (h : GoodF a) (b : Bool) (v : Int) : pack_Form_Has.f a b v = some (decide (-lim a ≤ v ∧ v < lim a)) := by
  unfold pack_Form_Has.f
  have h0 : 0 ≤ wrap64 (a - 1) := by rcases h with rfl | rfl | rfl <;> decide +kernel
  have h1 : shl .i64 (-1) (wrap64 (a - 1)) = -lim a := by rcases h with rfl | rfl | rfl <;> decide +kernel
  have h2 : shl .i64 1 (wrap64 (a - 1)) = lim a := by rcases h with rfl | rfl | rfl <;> decide +kernel
  rw [if_pos h0, h1, h2]
  by_cases h3 : v ≥ -lim a <;> simp [h3]
theorem good_ref (a : Int) (b : Bool) : sackbutref05_Good.f a b = some (decide (GoodF a)) := by
  unfold sackbutref05_Good.f GoodF
  by_cases h : a = 8 <;> by_cases h' : a = 16 <;> simp [h, h']
  rfl
theorem good_form (a : Int) (b : Bool) : pack_Form_Good.f a b = some (decide (GoodF a)) := by
  unfold pack_Form_Good.f GoodF
  by_cases h : a = 8 <;> by_cases h' : a = 16 <;> simp [h, h']
  rfl

/-- What a form asks of the channels. -/
structure Fits (a : Int) (l : List (List Int)) (c : Nat) : Prop where
  good : GoodF a
  one : 1 ≤ l.length
  eight : l.length ≤ 8
  same : ∀ x ∈ l, x.length = c
  most : c ≤ 1048576
  has : ∀ x ∈ l, ∀ v ∈ x, -lim a ≤ v ∧ v < lim a
end Go.Proofs.YtkolmgkbdhbmhaaGreatDoor.PackSpec

namespace Go.Proofs.YtkolmgkbdhbmhaaGreatDoor.PackDoc
open Go Go.RowKit Go.Proofs.YtkolmgkbdhbmhaaGreatDoor.HT2 Go.Proofs.YtkolmgkbdhbmhaaGreatDoor.PackSpec Go.Proofs.YtkolmgkbdhbmhaaGreatDoorW.PrintWords Go.Proofs.YtkolmgkbdhbmhaaGreatDoorW.PrintLast
/-! What is wrong with channels, told alike. -/
def fitB (a v : Int) : Bool := decide (-lim a ≤ v ∧ v < lim a)
def codeV (a : Int) (l : List (List Int)) : Int := if l.all (fun x => x.all (fitB a)) then 0 else 9
theorem codeV_cons (a : Int) (x : List Int) (l : List (List Int)) : codeV a (x :: l) = if x.all (fitB a) then codeV a l else 9 := by
  unfold codeV
  rw [List.all_cons]
  cases x.all (fitB a) <;> simp
def codeL (a : Int) (n : Int) (l m : List (List Int)) : Int := if m.all (fun x => decide ((x.length : Int) = n)) then codeV a l else 8
def codeC (a : Int) (l : List (List Int)) : Int := if GoodF a then (if 1 ≤ l.length ∧ l.length ≤ 8 then codeL a ((rd_L1 l 0).length : Int) l l else 8) else 7
theorem codeL_cons (a : Int) (n : Int) (l : List (List Int)) (x : List Int) (m : List (List Int)) : codeL a n l (x :: m) = if (x.length : Int) = n then codeL a n l m else 8 := by
  unfold codeL
  rw [List.all_cons]
  by_cases h : (x.length : Int) = n
  · rw [decide_eq_true h, Bool.true_and, if_pos h]
  · rw [decide_eq_false h, Bool.false_and, if_neg h]; rfl
theorem any_lacks {a : Int} (G : GoodF a) (b : Bool) (x : List Int) : pack_anyLacks.f x a b = some (!x.all (fitB a)) := by
  unfold pack_anyLacks.f
  have e : ∀ v, pack_Form_lacks.f a b v = some (!fitB a v) := fun v => by unfold pack_Form_lacks.f; rw [form_has G]; rfl
  rw [if_pos (by simp [e])]
  congr 1
  rw [List.not_all_eq_any_not]
  congr 1
  funext v
  rw [e]
  cases fitB a v <;> rfl
theorem pk_l1 {a : Int} (G : GoodF a) (b : Bool) (l : List (List Int)) (hl : l.length ≤ 12) : ∀ (d K i : Nat), i + d = l.length → d < K → pack_Check.l1 K l (l.length : Int) (i : Int) a b = some (codeV a (l.drop i)) := by
  intro d
  induction d with
  | zero =>
    intro K i hi hK
    obtain ⟨K, rfl⟩ : ∃ m, K = m + 1 := ⟨K - 1, by omega⟩
    simp only [pack_Check.l1]
    rw [if_neg (by omega), List.drop_eq_nil_of_le (by omega)]; rfl
  | succ d ih =>
    intro K i hi hK
    obtain ⟨K, rfl⟩ : ∃ m, K = m + 1 := ⟨K - 1, by omega⟩
    have hi' : i < l.length := by omega
    simp only [pack_Check.l1]
    rw [if_pos (by omega), if_pos (by omega), if_pos (by omega), rd1_nat l i hi', any_lacks G, Option.bind_some, List.drop_eq_getElem_cons hi', codeV_cons, wrap_id (by omega) (by omega)]
    have := ih K (i + 1) (by omega) (by omega)
    rw [show ((i + 1 : Nat) : Int) = (i : Int) + 1 by omega] at this
    rw [this]
    cases l[i].all (fitB a) <;> rfl
theorem pk_l0 {a : Int} (G : GoodF a) (b : Bool) (l : List (List Int)) (h1 : 1 ≤ l.length) (hl : l.length ≤ 12) : ∀ (d K i : Nat), i + d = l.length → d + 20 < K → pack_Check.l0 K l l (l.length : Int) (i : Int) a b = some (codeL a ((rd_L1 l 0).length : Int) l (l.drop i)) := by
  intro d
  induction d with
  | zero =>
    intro K i hi hK
    obtain ⟨K, rfl⟩ : ∃ m, K = m + 1 := ⟨K - 1, by omega⟩
    simp only [pack_Check.l0]
    have := pk_l1 G b l hl l.length K 0 (by omega) (by omega)
    rw [show ((0 : Nat) : Int) = 0 from rfl] at this
    rw [if_neg (by omega), List.drop_eq_nil_of_le (by omega), this]; rfl
  | succ d ih =>
    intro K i hi hK
    obtain ⟨K, rfl⟩ : ∃ m, K = m + 1 := ⟨K - 1, by omega⟩
    have hi' : i < l.length := by omega
    simp only [pack_Check.l0]
    rw [if_pos (by omega), if_pos (by omega), if_pos (by omega), if_pos (by omega), rd1_nat l i hi', List.drop_eq_getElem_cons hi', codeL_cons, wrap_id (by omega) (by omega)]
    have := ih K (i + 1) (by omega) (by omega)
    rw [show ((i + 1 : Nat) : Int) = (i : Int) + 1 by omega] at this
    rw [this]
    split <;> rfl
theorem head_len (l : List (List Int)) (h1 : 1 ≤ l.length) (hr : ∀ x ∈ l, x.length ≤ 300) : (rd_L1 l 0).length ≤ 300 := by
  have z0 := rd1_nat l 0 (by omega)
  rw [show ((0 : Nat) : Int) = 0 from rfl] at z0
  rw [z0]; exact hr _ (List.getElem_mem _)
theorem pk_check (a : Int) (b : Bool) (l : List (List Int)) (hl : l.length ≤ 12) (hr : ∀ x ∈ l, x.length ≤ 300) (K : Nat) (hK : 100 ≤ K) : pack_Check.f K a b l = some (codeC a l) := by
  unfold pack_Check.f codeC
  rw [good_form, Option.bind_some]
  by_cases G : GoodF a
  · rw [decide_eq_true G, if_pos rfl, if_pos G]
    by_cases h : 1 ≤ l.length ∧ l.length ≤ 8
    · have hc : pack_count.f (l.length : Int) = some true := by unfold pack_count.f; rw [if_pos (by omega), decide_eq_true (by omega)]
      have := head_len l h.1 hr
      rw [hc, Option.bind_some, if_pos rfl, if_pos (by omega), if_neg (by omega), if_pos h]
      have := pk_l0 G b l h.1 hl l.length K 0 (by omega) (by omega)
      simpa using this
    · have hc : pack_count.f (l.length : Int) = some false := by
        unfold pack_count.f
        by_cases h2 : (l.length : Int) ≥ 1
        · rw [if_pos h2, decide_eq_false (by omega)]
        · rw [if_neg h2]
      rw [hc, Option.bind_some, if_neg (by decide), if_neg h]
  · rw [decide_eq_false G, if_neg (by decide), if_neg G]
theorem rk_l2 {a : Int} (G : GoodF a) (b : Bool) (l : List (List Int)) (i : Nat) (hi : i < l.length) (hl : l.length ≤ 12) (hr : l[i].length ≤ 300) (R : Nat) (hR30 : 30 ≤ R) (c : Int)
    (hR : ∀ K, R ≤ K → sackbutref05_Check.l1 K l (l.length : Int) (((i + 1 : Nat) : Int)) a b = some c) :
    ∀ (d K j : Nat), j + d = l[i].length → d + R + 1 ≤ K → sackbutref05_Check.l2 K l (i : Int) (l.length : Int) (i : Int) (l[i].length : Int) (j : Int) a b = some (if (l[i].drop j).all (fitB a) then c else 9) := by
  intro d
  induction d with
  | zero =>
    intro K j hj hK
    obtain ⟨K, rfl⟩ : ∃ m, K = m + 1 := ⟨K - 1, by omega⟩
    simp only [sackbutref05_Check.l2]
    rw [if_neg (by omega), wrap_id (by omega) (by omega), List.drop_eq_nil_of_le (by omega)]
    have e := hR K (by omega)
    rw [show ((i + 1 : Nat) : Int) = (i : Int) + 1 by omega] at e
    rw [e]; rfl
  | succ d ih =>
    intro K j hj hK
    obtain ⟨K, rfl⟩ : ∃ m, K = m + 1 := ⟨K - 1, by omega⟩
    have hj' : j < l[i].length := by omega
    simp only [sackbutref05_Check.l2]
    rw [if_pos (by omega), if_pos (by omega), if_pos (by omega), if_pos (by omega), rd1_nat l i hi, if_pos (by omega), rd_nat _ j hj', ref_has G _ K (by omega), Option.bind_some, List.drop_eq_getElem_cons hj', List.all_cons, wrap_id (by omega) (by omega)]
    have e := ih K (j + 1) (by omega) (by omega)
    rw [show ((j + 1 : Nat) : Int) = (j : Int) + 1 by omega] at e
    rw [e]
    show (if fitB a l[i][j] = true then _ else _) = _
    cases fitB a l[i][j] <;> simp
theorem rk_l1 {a : Int} (G : GoodF a) (b : Bool) (l : List (List Int)) (hl : l.length ≤ 12) (hr : ∀ x ∈ l, x.length ≤ 300) :
    ∀ (d K i : Nat), i + d = l.length → d * 310 + 50 ≤ K → sackbutref05_Check.l1 K l (l.length : Int) (i : Int) a b = some (codeV a (l.drop i)) := by
  intro d
  induction d with
  | zero =>
    intro K i hi hK
    obtain ⟨K, rfl⟩ : ∃ m, K = m + 1 := ⟨K - 1, by omega⟩
    simp only [sackbutref05_Check.l1]
    rw [if_neg (by omega), List.drop_eq_nil_of_le (by omega)]; rfl
  | succ d ih =>
    intro K i hi hK
    obtain ⟨K, rfl⟩ : ∃ m, K = m + 1 := ⟨K - 1, by omega⟩
    have hi' : i < l.length := by omega
    have hl' := hr _ (List.getElem_mem hi')
    simp only [sackbutref05_Check.l1]
    rw [if_pos (by omega), if_pos (by omega), if_pos (by omega), rd1_nat l i hi', List.drop_eq_getElem_cons hi', codeV_cons]
    have e := rk_l2 G b l i hi' hl hl' (d * 310 + 50) (by omega) _ (fun K hK => ih K (i + 1) (by omega) hK) l[i].length K 0 (by omega) (by omega)
    rw [show ((0 : Nat) : Int) = 0 from rfl] at e
    rw [e, List.drop_zero]
theorem rk_l0 {a : Int} (G : GoodF a) (b : Bool) (l : List (List Int)) (h1 : 1 ≤ l.length) (hl : l.length ≤ 12) (hr : ∀ x ∈ l, x.length ≤ 300) :
    ∀ (d K i : Nat), i + d = l.length → d + 5000 ≤ K → sackbutref05_Check.l0 K l (l.length : Int) (i : Int) a b = some (codeL a ((rd_L1 l 0).length : Int) l (l.drop i)) := by
  intro d
  induction d with
  | zero =>
    intro K i hi hK
    obtain ⟨K, rfl⟩ : ∃ m, K = m + 1 := ⟨K - 1, by omega⟩
    simp only [sackbutref05_Check.l0]
    have e := rk_l1 G b l hl hr l.length K 0 (by omega) (by omega)
    rw [show ((0 : Nat) : Int) = 0 from rfl] at e
    rw [if_neg (by omega), List.drop_eq_nil_of_le (by omega), e]; rfl
  | succ d ih =>
    intro K i hi hK
    obtain ⟨K, rfl⟩ : ∃ m, K = m + 1 := ⟨K - 1, by omega⟩
    have hi' : i < l.length := by omega
    have hl' := hr _ (List.getElem_mem hi')
    simp only [sackbutref05_Check.l0]
    rw [if_pos (by omega), if_pos (by omega), if_pos (by omega), if_pos (by omega), rd1_nat l i hi', List.drop_eq_getElem_cons hi', codeL_cons]
    have e := ih K (i + 1) (by omega) (by omega)
    rw [show ((i + 1 : Nat) : Int) = (i : Int) + 1 by omega] at e
    by_cases he : (l[i].length : Int) = ((rd_L1 l 0).length : Int)
    · rw [if_pos he, if_neg (by omega), wrap_id (by omega) (by omega), e, if_pos he]
    · rw [if_neg he, if_neg he]
theorem rk_check (a : Int) (b : Bool) (l : List (List Int)) (hl : l.length ≤ 12) (hr : ∀ x ∈ l, x.length ≤ 300) (K : Nat) (hK : 6000 ≤ K) : sackbutref05_Check.f K a b l = some (codeC a l) := by
  unfold sackbutref05_Check.f codeC
  rw [good_ref, Option.bind_some]
  by_cases G : GoodF a
  · rw [decide_eq_true G, if_pos rfl, if_pos G]
    obtain ⟨K, rfl⟩ : ∃ m, K = m + 1 := ⟨K - 1, by omega⟩
    by_cases h1 : (l.length : Int) < 1
    · rw [if_pos h1, if_neg (by omega)]; simp only [sackbutref05_Check.j0, if_true]
    · rw [if_neg h1]; simp only [sackbutref05_Check.j0]
      by_cases h8 : (l.length : Int) > 8
      · rw [if_pos (by simpa using h8), if_neg (by omega)]
      · rw [if_neg (by simpa using h8), if_pos (by omega)]
        have e := rk_l0 G b l (by omega) hl hr l.length K 0 (by omega) (by omega)
        rw [show ((0 : Nat) : Int) = 0 from rfl] at e
        rw [e, List.drop_zero]
  · rw [decide_eq_false G, if_neg (by decide), if_neg G]
end Go.Proofs.YtkolmgkbdhbmhaaGreatDoor.PackDoc

namespace Go.Proofs.YtkolmgkbdhbmhaaGreatDoor.TopSpec
open Go Go.RowKit Go.Proofs.YtkolmgkbdhbmhaaGreatDoor.HT2 Go.Proofs.YtkolmgkbdhbmhaaGreatDoor.PackSpec Go.Proofs.YtkolmgkbdhbmhaaGreatDoorW.PrintWords Go.Proofs.YtkolmgkbdhbmhaaGreatDoorW.PrintLast
def GoodC (a0 a1 a3 a4 a5 a6 : Int) : Prop := (1 ≤ a0 ∧ a0 ≤ 8) ∧ GoodF a1 ∧ (1 ≤ a3 ∧ a3 ≤ 16777215) ∧ (16 ≤ a4 ∧ a4 ≤ 1024) ∧ Int.tmod a4 16 = 0 ∧ (0 ≤ a5 ∧ a5 ≤ 255) ∧ (0 ≤ a6 ∧ a6 ≤ 1048576)
instance (a0 a1 a3 a4 a5 a6 : Int) : Decidable (GoodC a0 a1 a3 a4 a5 a6) := by unfold GoodC; infer_instance
theorem within_spec (x lo hi : Int) : head_within.f x lo hi = some (decide (lo ≤ x ∧ x ≤ hi)) := by
  unfold head_within.f
  by_cases h : x ≥ lo
  · rw [if_pos h]; congr 1; rw [decide_eq_decide]; omega
  · rw [if_neg h]; congr 1; symm; rw [decide_eq_false_iff_not]; omega
theorem ite_and {p : Prop} [Decidable p] {o : Option Bool} {q : Prop} [Decidable q] (h : p → o = some (decide q)) : (if decide p = true then o else some false) = some (decide (p ∧ q)) := by
  by_cases hp : p
  · rw [if_pos (decide_eq_true hp), h hp]; congr 1; rw [decide_eq_decide]; exact ⟨fun x => ⟨hp, x⟩, fun x => x.2⟩
  · rw [if_neg (by simpa using hp)]; congr 1; symm; rw [decide_eq_false_iff_not]; exact fun x => hp x.1
theorem ite_and' {p : Prop} [Decidable p] {o : Option Bool} {q : Prop} [Decidable q] (h : p → o = some (decide q)) : (if p then o else some false) = some (decide (p ∧ q)) := by
  by_cases hp : p
  · rw [if_pos hp, h hp]; congr 1; rw [decide_eq_decide]; exact ⟨fun x => ⟨hp, x⟩, fun x => x.2⟩
  · rw [if_neg hp]; congr 1; symm; rw [decide_eq_false_iff_not]; exact fun x => hp x.1
theorem head_good (a0 a1 : Int) (a2 : Bool) (a3 a4 a5 a6 : Int) : head_Good.f a0 a1 a2 a3 a4 a5 a6 = some (decide (GoodC a0 a1 a3 a4 a5 a6)) := by
  unfold head_Good.f GoodC
  rw [within_spec, Option.bind_some]
  refine ite_and (fun _ => ?_)
  unfold head_Form.f
  rw [Option.bind_some, good_form, Option.bind_some]
  refine ite_and (fun _ => ?_)
  rw [within_spec, Option.bind_some]
  refine ite_and (fun _ => ?_)
  rw [within_spec, Option.bind_some]
  refine ite_and (fun _ => ?_)
  refine ite_and' (fun _ => ?_)
  rw [within_spec, Option.bind_some]
  refine ite_and (fun _ => ?_)
  rw [within_spec, Option.bind_some]
theorem ref_good (a0 a1 : Int) (a2 : Bool) (a3 a4 a5 a6 : Int) : sackbutref16_Good.f a0 a1 a2 a3 a4 a5 a6 = some (decide (GoodC a0 a1 a3 a4 a5 a6)) := by
  unfold sackbutref16_Good.f
  congr 1
  rw [Bool.eq_iff_iff, decide_eq_true_iff]
  unfold GoodC GoodF
  generalize Int.tmod a4 16 = t
  simp only [Bool.and_eq_true, Bool.or_eq_true, Bool.not_eq_true', decide_eq_true_eq, decide_eq_false_iff_not, beq_iff_eq]
  omega

end Go.Proofs.YtkolmgkbdhbmhaaGreatDoor.TopSpec

