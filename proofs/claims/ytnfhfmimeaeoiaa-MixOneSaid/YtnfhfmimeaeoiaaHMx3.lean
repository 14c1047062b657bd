/- What the Go functions come to, as plain Lean functions, and that their calls do just that: written by this project's own program (hp.sh); conditions: those of each theorem. -/
import Derived.Test.YtnfhfmimeaeoiaaHMx0
import Derived.Shelf.Abstract
namespace Go.Proofs.Ytnfhfmimeaeoiaa.HM
open Go.RowKit Go.Proofs.YtnfhfmimeaeoiaaW.PrintWords Go.Proofs.YtnfhfmimeaeoiaaW.PrintLast Go.Proofs.YtnfhfmimeaeoiaaW.PrintMore
attribute [local go_sem] max2_int min2_int max_two min_two max_three min_three max_four min_four   -- for this text's walks alone
set_option linter.unusedVariables false
set_option linter.unusedSimpArgs false

/-! ### slices_IndexFunc_int_int_44: function 44, by hand -/
/-- Where the first number of which p holds stands, or -1. -/
def idxOf (p : Int → Bool) : List Int → Nat → Int
  | [], _ => -1
  | x :: l, i => if p x then (i : Int) else idxOf p l (i + 1)
theorem idxOf_any (p : Int → Bool) (l : List Int) (i : Nat) : decide (0 ≤ idxOf p l i) = l.any p := by
  induction l generalizing i with
  | nil => simp [idxOf]
  | cons x l ih =>
    by_cases h : p x = true
    · simp [idxOf, h]
    · simp only [Bool.not_eq_true] at h
      rw [idxOf, h, if_neg (by decide), ih, List.any_cons, h, Bool.false_or]
theorem idxOf_hit (p : Int → Bool) : ∀ (l : List Int) (k i : Nat) (h : k < l.length), (∀ j, (hj : j < k) → p (l[j]'(by omega)) = false) → p l[k] = true → idxOf p l i = ((i + k : Nat) : Int)
  | x :: l, 0, i, _, _, h => by rw [idxOf, show p x = true from h]; rfl
  | x :: l, k + 1, i, hk, hj, h => by
    have h0 : p x = false := hj 0 (by omega)
    rw [idxOf, h0, if_neg (by decide), idxOf_hit p l k (i + 1) (by simpa using hk) (fun j hj' => hj (j + 1) (by omega)) h]
    omega
theorem idxOf_miss (p : Int → Bool) : ∀ (l : List Int) (i : Nat), (∀ j, (hj : j < l.length) → p l[j] = false) → idxOf p l i = -1
  | [], _, _ => rfl
  | x :: l, i, h => by
    have h0 : p x = false := h 0 (by simp)
    rw [idxOf, h0, if_neg (by decide), idxOf_miss p l (i + 1) (fun j hj => h (j + 1) (by simpa using hj))]
theorem c_reads {k : IntKind} {w : World} {A : Option Addr} {n : Nat} {xs : List Int} (h : Kd.C (Kd.int k) w A n xs) : ReadsInt w k A n xs := Kd.reads_of_C (enc := Value.int k) (d := (0 : Int)) (h1 := fun _ => rfl) h
structure AsideI (p : Prop) : Prop where mk :: (out : p)
set_option maxHeartbeats 2000000 in
theorem slices_IndexFunc_int.gives (p : Int → Bool) (g : Nat) (lb : Array Value) (eg : ∀ args w, (callFunc g args).run Try.prog w = .ok (.enter g args) w) (A0 : Option Addr) (c0 : Nat) (l0 : List Int) (w : World) (hr0 : Kd.C (Kd.int .i64) w A0 l0.length l0)
    (hp : ∀ (x : Int) (q : Nat), x ∈ l0 → Calls Try.prog g (#[.int .i64 x] ++ lb) (w.drewN q) fun e w' => e = .returned (.bool (p x)) ∧ ∃ q', w' = (w.drewN q).drewN q') :
    Calls Try.prog 44 #[.slice A0 l0.length c0, .func (.func g) #[] lb] w fun e w' => e = .returned (.int .i64 (idxOf p l0 0)) ∧ ∃ q, w' = w.drewN q := by
  have hr := c_reads hr0
  have hbig : l0.length ≤ 9223372036854775807 := hr.2.1
  obtain ⟨n, hn⟩ : ∃ n, n = l0.length := ⟨_, rfl⟩
  have HN := AsideI.mk hn
  have HR := AsideI.mk hr
  have HP := AsideI.mk hp
  rw [← hn] at hbig
  rw [← hn]
  clear hr hn hp hr0
  go_enter Try.func44, Try.ntmps44
  go_wp2
  go_loopg [5, 8] n (fun gg _ s8 wr => ∃ kk q : Nat, kk ≤ n ∧ n - kk ≤ gg ∧ s8 = .int .i64 kk ∧ wr = w.drewN q ∧ AsideI (∀ j, (hj : j < kk) → ∀ hl : j < l0.length, p l0[j] = false))
  case atStart => exact ⟨0, 0, Nat.zero_le _, by omega, rfl, rfl, ⟨fun j hj => absurd hj (Nat.not_lt_zero _)⟩⟩
  case round =>
    obtain ⟨kk, q, hkk, hg, rfl, rfl, A⟩ := hrel
    by_cases hlt : kk < n
    · have hltz : (kk : Int) < (n : Int) := by omega
      have hl : kk < l0.length := by have := HN.out; omega
      obtain ⟨ad, rfl, hcell⟩ := ReadsInt.at_ HR.out (kk : Int) (by omega) (by have := HN.out; omega)
      have hy0 : rd l0 (kk : Int) = l0[kk] := by
        unfold rd
        rw [Int.toNat_natCast, List.getD_eq_getElem?_getD, List.getElem?_eq_getElem hl]
        rfl
      rw [hy0, Int.toNat_natCast] at hcell
      have hcall := fun q => HP.out l0[kk] q (List.getElem_mem hl)
      have A2 := AsideI.mk (show ∀ b, p l0[kk] = b → p l0[kk] = b from fun _ h => h)
      generalize hy : l0[kk] = y at hcell hcall A2
      have B := AsideI.mk hy
      clear hy hy0
      cases hq : p y with
      | true =>
        rw [hq] at hcall
        have Q := AsideI.mk hq
        clear hq
        go_wp2_with (go_at_fn g; refine (hcall _).mono ?_; rintro e w' ⟨rfl, q', rfl⟩)
        go_ret
        refine ⟨?_, ?_⟩
        · rw [idxOf_hit p l0 kk 0 hl (fun j hj => A.out j hj (by omega)) (by rw [B.out]; exact Q.out), Nat.zero_add]
          rfl
        · first | exact ⟨_, rfl⟩ | exact ⟨_, World.drewN_drewN ..⟩
      | false =>
        rw [hq] at hcall
        have Q := AsideI.mk hq
        clear hq
        go_wp2_with (go_at_fn g; refine (hcall _).mono ?_; rintro e w' ⟨rfl, q', rfl⟩)
        go_roundg (n - (kk + 1))
        case measure => omega
        case rel =>
          refine ⟨kk + 1, _, by omega, by omega, by go_num, rfl, ⟨fun j hj hl' => ?_⟩⟩
          by_cases e : j = kk
          · subst e
            rw [B.out]; exact Q.out
          · exact A.out j (by omega) hl'
    · have hltz : ¬ (kk : Int) < (n : Int) := by omega
      have : kk = n := by omega
      subst this
      go_wp2
      go_ret
      refine ⟨?_, q, rfl⟩
      rw [idxOf_miss p l0 0 (fun j hj => A.out j (by have := HN.out; omega) hj)]
      rfl

set_option maxHeartbeats 2000000 in
theorem slices_IndexFunc_int.givesB (p : Int → Bool) (g : Nat) (bnd : Array Value) (eg : ∀ args w, (callFunc g args).run Try.prog w = .ok (.enter g args) w) (A0 : Option Addr) (c0 : Nat) (l0 : List Int) (w : World) (hr0 : Kd.C (Kd.int .i64) w A0 l0.length l0)
    (hp : ∀ (x : Int) (W : World), x ∈ l0 → Below w.heap.size w W → Calls Try.prog g (bnd ++ #[.int .i64 x]) W fun e W' => e = .returned (.bool (p x)) ∧ Below W.heap.size W W') :
    Calls Try.prog 44 #[.slice A0 l0.length c0, .func (.func g) bnd #[]] w fun e w' => e = .returned (.int .i64 (idxOf p l0 0)) ∧ Below w.heap.size w w' := by
  have hr := c_reads hr0
  have hbig : l0.length ≤ 9223372036854775807 := hr.2.1
  obtain ⟨n, hn⟩ : ∃ n, n = l0.length := ⟨_, rfl⟩
  have HN := AsideI.mk hn
  have HR := AsideI.mk hr
  have HP := AsideI.mk hp
  rw [← hn] at hbig
  rw [← hn]
  clear hr hn hp hr0
  go_enter Try.func44, Try.ntmps44
  go_wp2
  go_loopg [5, 8] n (fun gg _ s8 wr => ∃ kk : Nat, kk ≤ n ∧ n - kk ≤ gg ∧ s8 = .int .i64 kk ∧ AsideI (Below w.heap.size w wr) ∧ AsideI (∀ j, (hj : j < kk) → ∀ hl : j < l0.length, p l0[j] = false))
  case atStart => exact ⟨0, Nat.zero_le _, by omega, rfl, ⟨Below.refl _ _⟩, ⟨fun j hj => absurd hj (Nat.not_lt_zero _)⟩⟩
  case round =>
    obtain ⟨kk, hkk, hg, rfl, HB, A⟩ := hrel
    by_cases hlt : kk < n
    · have hltz : (kk : Int) < (n : Int) := by omega
      have hl : kk < l0.length := by have := HN.out; omega
      obtain ⟨ad, rfl, hcell⟩ := ReadsInt.at_ HR.out (kk : Int) (by omega) (by have := HN.out; omega)
      have hy0 : rd l0 (kk : Int) = l0[kk] := by
        unfold rd
        rw [Int.toNat_natCast, List.getD_eq_getElem?_getD, List.getElem?_eq_getElem hl]
        rfl
      rw [hy0, Int.toNat_natCast] at hcell
      replace hcell := pw_cell_below HB.out hcell
      have hcall := HP.out l0[kk] wr (List.getElem_mem hl) HB.out
      have A2 := AsideI.mk (show ∀ b, p l0[kk] = b → p l0[kk] = b from fun _ h => h)
      generalize hy : l0[kk] = y at hcell hcall A2
      have B := AsideI.mk hy
      clear hy hy0
      cases hq : p y with
      | true =>
        rw [hq] at hcall
        have Q := AsideI.mk hq
        clear hq
        go_wp2_with (go_at_fn g; refine hcall.mono ?_; rintro e w' ⟨rfl, hb1⟩)
        go_ret
        refine ⟨?_, ?_⟩
        · rw [idxOf_hit p l0 kk 0 hl (fun j hj => A.out j hj (by omega)) (by rw [B.out]; exact Q.out), Nat.zero_add]
          rfl
        · exact below_step HB.out hb1
      | false =>
        rw [hq] at hcall
        have Q := AsideI.mk hq
        clear hq
        go_wp2_with (go_at_fn g; refine hcall.mono ?_; rintro e w' ⟨rfl, hb1⟩)
        go_roundg (n - (kk + 1))
        case measure => omega
        case rel =>
          refine ⟨kk + 1, by omega, by omega, by go_num, ⟨below_step HB.out hb1⟩, ⟨fun j hj hl' => ?_⟩⟩
          by_cases e : j = kk
          · subst e
            rw [B.out]; exact Q.out
          · exact A.out j (by omega) hl'
    · have hltz : ¬ (kk : Int) < (n : Int) := by omega
      have : kk = n := by omega
      subst this
      go_wp2
      go_ret
      refine ⟨?_, HB.out⟩
      rw [idxOf_miss p l0 0 (fun j hj => A.out j (by have := HN.out; omega) hj)]
      rfl

end Go.Proofs.Ytnfhfmimeaeoiaa.HM
