/- What the Go functions come to, as plain Lean functions, and that their calls do just that: written by this project's own program (hp.sh); conditions: those of each theorem. -/
import Derived.Test.YtnfhfmimeaeoiaaHMx0
import Derived.Shelf.Abstract
namespace Go.Proofs.Ytnfhfmimeaeoiaa.HM
open Go.RowKit Go.Proofs.YtnfhfmimeaeoiaaW.PrintWords Go.Proofs.YtnfhfmimeaeoiaaW.PrintLast Go.Proofs.YtnfhfmimeaeoiaaW.PrintMore
attribute [local go_sem] max2_int min2_int max_two min_two max_three min_three max_four min_four   -- for this text's walks alone
set_option linter.unusedVariables false
set_option linter.unusedSimpArgs false

/-! ### slices_IndexFunc_int_int_41: function 41, by hand -/
/-- Where the first number of which p holds stands, or -1. -/
def idxOfR (p : List Int → Bool) : List (List Int) → Nat → Int
  | [], _ => -1
  | x :: l, i => if p x then (i : Int) else idxOfR p l (i + 1)
theorem idxOfR_any (p : List Int → Bool) (l : List (List Int)) (i : Nat) : decide (0 ≤ idxOfR p l i) = l.any p := by
  induction l generalizing i with
  | nil => simp [idxOfR]
  | cons x l ih =>
    by_cases h : p x = true
    · simp [idxOfR, h]
    · simp only [Bool.not_eq_true] at h
      rw [idxOfR, h, if_neg (by decide), ih, List.any_cons, h, Bool.false_or]
theorem idxOfR_hit (p : List Int → Bool) : ∀ (l : List (List Int)) (k i : Nat) (h : k < l.length), (∀ j, (hj : j < k) → p (l[j]'(by omega)) = false) → p l[k] = true → idxOfR p l i = ((i + k : Nat) : Int)
  | x :: l, 0, i, _, _, h => by rw [idxOfR, show p x = true from h]; rfl
  | x :: l, k + 1, i, hk, hj, h => by
    have h0 : p x = false := hj 0 (by omega)
    rw [idxOfR, h0, if_neg (by decide), idxOfR_hit p l k (i + 1) (by simpa using hk) (fun j hj' => hj (j + 1) (by omega)) h]
    omega
theorem idxOfR_miss (p : List Int → Bool) : ∀ (l : List (List Int)) (i : Nat), (∀ j, (hj : j < l.length) → p l[j] = false) → idxOfR p l i = -1
  | [], _, _ => rfl
  | x :: l, i, h => by
    have h0 : p x = false := h 0 (by simp)
    rw [idxOfR, h0, if_neg (by decide), idxOfR_miss p l (i + 1) (fun j hj => h (j + 1) (by simpa using hj))]
theorem row_at {e : Nat} {w : World} {A : Option Addr} {n : Nat} {xs : List (List Int)} (h : Kd.C (Kd.slice e (Kd.int .i64)) w A n xs) (i : Nat) (hi : i < xs.length) : ∃ ad A' c, A = some ad ∧ w.cell? (ad.add i) = some (.slice A' xs[i].length c) ∧ xs[i].length ≤ c ∧ Kd.C (Kd.int .i64) w A' xs[i].length xs[i] := by
  obtain ⟨ad, e, hc⟩ := h.2.2 (by have := h.1; omega)
  obtain ⟨c, hs, hr, hcell⟩ := hc i _ (List.getElem?_eq_getElem hi)
  obtain ⟨A', cc, rfl, hl, hC⟩ := hr
  refine ⟨ad, A', cc, e, ?_, hl, hC⟩
  have h1 := hcell 0 _ rfl
  rw [show i * (Kd.slice _ (Kd.int .i64)).sz + 0 = i by show i * 1 + 0 = i; omega] at h1
  exact h1
structure AsideIR (p : Prop) : Prop where mk :: (out : p)
set_option maxHeartbeats 2000000 in
theorem slices_IndexFunc_rows.gives (p : List Int → Bool) (g : Nat) (lb : Array Value) (eg : ∀ args w, (callFunc g args).run Try.prog w = .ok (.enter g args) w) (A0 : Option Addr) (c0 : Nat) (l0 : List (List Int)) (w : World) (hr0 : Kd.C (Kd.slice 3 (Kd.int .i64)) w A0 l0.length l0)
    (hp : ∀ (x : List Int) (A' : Option Addr) (c : Nat) (W : World), x ∈ l0 → Below w.heap.size w W → Kd.C (Kd.int .i64) W A' x.length x → x.length ≤ c → Calls Try.prog g (#[.slice A' x.length c] ++ lb) W fun e W' => e = .returned (.bool (p x)) ∧ Below W.heap.size W W') :
    Calls Try.prog 41 #[.slice A0 l0.length c0, .func (.func g) #[] lb] w fun e w' => e = .returned (.int .i64 (idxOfR p l0 0)) ∧ Below w.heap.size w w' := by
  have hr := hr0
  have hbig : l0.length ≤ 9223372036854775807 := hr.2.1
  obtain ⟨n, hn⟩ : ∃ n, n = l0.length := ⟨_, rfl⟩
  have HN := AsideIR.mk hn
  have HR := AsideIR.mk hr
  have HP := AsideIR.mk hp
  rw [← hn] at hbig
  rw [← hn]
  clear hr hn hp hr0
  go_enter Try.func41, Try.ntmps41
  go_wp2
  go_loopg [5, 8] n (fun gg _ s8 wr => ∃ kk : Nat, kk ≤ n ∧ n - kk ≤ gg ∧ s8 = .int .i64 kk ∧ AsideIR (Below w.heap.size w wr) ∧ AsideIR (∀ j, (hj : j < kk) → ∀ hl : j < l0.length, p l0[j] = false))
  case atStart => exact ⟨0, Nat.zero_le _, by omega, rfl, ⟨Below.refl _ _⟩, ⟨fun j hj => absurd hj (Nat.not_lt_zero _)⟩⟩
  case round =>
    obtain ⟨kk, hkk, hg, rfl, HB, A⟩ := hrel
    by_cases hlt : kk < n
    · have hltz : (kk : Int) < (n : Int) := by omega
      have hl : kk < l0.length := by have := HN.out; omega
      obtain ⟨ad, A', c', rfl, hcell, hle, hC⟩ := row_at HR.out kk hl
      replace hcell := pw_cell_below HB.out hcell
      have hcall := HP.out l0[kk] A' c' wr (List.getElem_mem hl) HB.out (Kd.C_below hC HB.out) hle
      clear hC hle
      have A2 := AsideIR.mk (show ∀ b, p l0[kk] = b → p l0[kk] = b from fun _ h => h)
      generalize hy : l0[kk] = y at hcell hcall A2
      generalize y.length = ny at hcell hcall
      have B := AsideIR.mk hy
      clear hy
      cases hq : p y with
      | true =>
        rw [hq] at hcall
        have Q := AsideIR.mk hq
        clear hq
        go_wp2_with (go_at_fn g; refine hcall.mono ?_; rintro e w' ⟨rfl, hb1⟩)
        go_ret
        refine ⟨?_, ?_⟩
        · rw [idxOfR_hit p l0 kk 0 hl (fun j hj => A.out j hj (by omega)) (by rw [B.out]; exact Q.out), Nat.zero_add]
          rfl
        · exact below_step HB.out hb1
      | false =>
        rw [hq] at hcall
        have Q := AsideIR.mk hq
        clear hq
        go_wp2_with (go_at_fn g; refine hcall.mono ?_; rintro e w' ⟨rfl, hb1⟩)
        go_roundg (n - (kk + 1))
        case measure => omega
        case rel =>
          refine ⟨kk + 1, by omega, by omega, by go_num, ⟨below_step HB.out hb1⟩, ⟨fun j hj hl' => ?_⟩⟩
          by_cases e : j = kk
          · subst e
            rw [B.out]; exact Q.out
          · exact A.out j (by omega) hl'
    · have hltz : ¬ (kk : Int) < (n : Int) := by omega
      have : kk = n := by omega
      subst this
      go_wp2
      go_ret
      refine ⟨?_, HB.out⟩
      rw [idxOfR_miss p l0 0 (fun j hj => A.out j (by have := HN.out; omega) hj)]
      rfl

end Go.Proofs.Ytnfhfmimeaeoiaa.HM
