/- VaultUnpacks: what the claim's theorem reaches of this seat's texts, part 8, put together by this project's own program (bale.py); conditions: those of each theorem. -/
import Derived.Test.YtibmccacebhhkaaDoorVVaultUnpacks5
import Derived.Shelf.Abstract
import Derived.OwnWalk
namespace Go.Proofs.YtibmccacebhhkaaDoor.HV
open Go.RowKit Go.Proofs.YtibmccacebhhkaaDoorW.PrintWords Go.Proofs.YtibmccacebhhkaaDoorW.PrintLast Go.Proofs.YtibmccacebhhkaaDoorW.PrintMore
attribute [local go_sem] max2_int min2_int max_two min_two max_three min_three max_four min_four   -- for this text's walks alone
set_option linter.unusedVariables false
set_option linter.unusedSimpArgs false

/-! ### vault_cursor_take: function 48, by hand -/
structure AsideCu (p : Prop) : Prop where mk :: (out : p)
/-- A cursor over a row that lies elsewhere: where it stands, and whether more was asked for than there is. -/
def CuAt (w : World) (p : Nat) (A : Option Addr) (n c a : Nat) (s : Bool) : Prop := w.heap[p]? = some (.cells #[.slice A n c, .int .i64 a, .bool s] 90 (0, 0))
/-- Where a cursor over n bytes stands behind taking k. -/
def tk (n : Nat) (s : Nat × Bool) (k : Nat) : Nat × Bool := if s.2 = true ∨ n < s.1 + k then (s.1, true) else (s.1 + k, false)
/-- What it takes. -/
def tkB (b : List Int) (s : Nat × Bool) (k : Nat) : List Int := if s.2 = true ∨ b.length < s.1 + k then [] else (b.drop s.1).take k
theorem cu_cells {w : World} {p t : Nat} {x y z : Value} (h : w.heap[p]? = some (.cells #[x, y, z] t (0, 0))) : w.cell? ⟨p, 0, none⟩ = some x ∧ w.cell? ⟨p, 1, none⟩ = some y ∧ w.cell? ⟨p, 2, none⟩ = some z ∧ w.frozen? ⟨p, 1, none⟩ = false ∧ w.frozen? ⟨p, 2, none⟩ = false := by
  refine ⟨?_, ?_, ?_, ?_, ?_⟩ <;> simp [World.cell?, World.frozen?, h]
theorem cu_lt {w : World} {p : Nat} {A : Option Addr} {n c a : Nat} {s : Bool} (h : CuAt w p A n c a s) : p < w.heap.size := (Array.getElem?_eq_some_iff.1 h).1
theorem C_cut {w : World} {A : Option Addr} {n : Nat} {xs : List Int} (h : Kd.C (Kd.int .u8) w A n xs) (a k : Nat) (hk : a + k ≤ n) : Kd.C (Kd.int .u8) w (if a + k = a then A else A.map (·.add a)) k ((xs.drop a).take k) := by
  have hn : xs.length = n := h.1
  refine ⟨by rw [List.length_take, List.length_drop]; omega, by have := h.2.1; omega, fun hk0 => ?_⟩
  obtain ⟨ad, e, hc⟩ := h.2.2 (by omega)
  refine ⟨ad.add a, by rw [if_neg (by omega), e]; rfl, fun j q hj => ?_⟩
  rw [List.getElem?_take] at hj
  split at hj
  · rw [List.getElem?_drop] at hj
    obtain ⟨cs, h1, h2, h3⟩ := hc (a + j) q hj
    refine ⟨cs, h1, h2, fun i u hu => ?_⟩
    rw [add_add]
    have := h3 i u hu
    have hsz : (Kd.int .u8).sz = 1 := rfl
    rw [hsz, Nat.mul_one] at this ⊢
    rwa [← Nat.add_assoc]
  · cases hj
theorem C_take {w : World} {A : Option Addr} {n : Nat} {xs : List Int} (h : Kd.C (Kd.int .u8) w A n xs) (m : Nat) (hm : m ≤ n) : Kd.C (Kd.int .u8) w A m (xs.take m) := by
  have hn : xs.length = n := h.1
  refine ⟨by rw [List.length_take]; omega, by have := h.2.1; omega, fun h0 => ?_⟩
  obtain ⟨ad, e, hc⟩ := h.2.2 (by omega)
  refine ⟨ad, e, fun j p hj => hc j p ?_⟩
  rw [List.getElem?_take] at hj
  split at hj
  · exact hj
  · cases hj
theorem cu_step {w : World} {p : Nat} {A : Option Addr} {n c a : Nat} {s : Bool} {B : Nat} (h : CuAt w p A n c a s) (hB : B ≤ p) (m j : Nat) (b : Nat) (s' : Bool) (q : Nat) (u : Value) (hq : (q = 1 ∧ u = .int .i64 b ∧ s' = s) ∨ (q = 2 ∧ u = .bool s' ∧ b = a)) :
    CuAt (((w.drewN m).setCell ⟨p, q, none⟩ u).drewN j) p A n c b s' ∧ Below B w (((w.drewN m).setCell ⟨p, q, none⟩ u).drewN j) ∧ KeepBut w (((w.drewN m).setCell ⟨p, q, none⟩ u).drewN j) p none := by
  have h1 : (w.drewN m).heap[p]? = some (.cells #[.slice A n c, .int .i64 a, .bool s] 90 (0, 0)) := blk_drewN h m
  refine ⟨?_, ?_, ?_⟩
  · refine blk_drewN ?_ j
    have h2 := blk_set h1 q u
    rcases hq with ⟨rfl, rfl, rfl⟩ | ⟨rfl, rfl, rfl⟩
    · exact h2
    · exact h2
  · exact pw_below_drewN ((pw_below_drewN (Below.refl _ _) m).setCell (p := ⟨p, q, none⟩) hB _) j
  · have hk : KeepBut w (w.drewN m) p none := ⟨by simp, fun i hi _ _ => by simp⟩
    have hk2 := hk.set_ q u
    exact ⟨by rw [World.heap_drewN]; exact hk2.1, fun i hi h3 h4 => by have := hk2.2 i hi h3 h4; rw [World.heap_drewN]; exact this⟩
set_option maxRecDepth 100000 in
set_option maxHeartbeats 2000000 in
theorem vault_take.fits (p : Nat) (A : Option Addr) (n c a k : Nat) (B : Nat) (w : World) (h : CuAt w p A n c a false) (hB : B ≤ p) (hc : n ≤ c) (hn : n ≤ 9223372036854775807) (hk : a + k ≤ n) :
    Calls Tryd.prog 48 #[.pointer (some ⟨p, 0, none⟩), .int .i64 k] w fun e w' => e = .returned (.slice (if a + k = a then A else A.map (·.add a)) k k) ∧ CuAt w' p A n c (a + k) false ∧ Below B w w' ∧ KeepBut w w' p none := by
  obtain ⟨A', hA'⟩ : ∃ A', A' = (if a + k = a then A else A.map (·.add a)) := ⟨_, rfl⟩
  have hcut : ∀ W : World, (Instr.slice 22 (.slice A n c) (some (.int .i64 (a : Int))) (some (.int .i64 ((a + k : Nat) : Int))) (some (.int .i64 ((a + k : Nat) : Int)))).run Tryd.prog W = .ok (.slice A' k k) W := by
    intro W
    have hs : (sizeOf 5).run Tryd.prog W = .ok 1 W := by kernel_rfl
    rw [run_slice_lhm W 22 A n c Tryd.underlying22 .i64 .i64 .i64 (a : Int) ((a + k : Nat) : Int) ((a + k : Nat) : Int) (by omega) (by omega) (by omega) (by omega)]
    rw [show Tryd.prog.elem 22 = 5 by kernel_rfl, hs]
    simp only [Result.andThen, sliced, Int.toNat_natCast, Nat.mul_one, hA', Nat.add_sub_cancel_left]
  rw [← hA']
  clear hA'
  obtain ⟨m, hm⟩ : ∃ m, m = a + k := ⟨_, rfl⟩
  rw [← hm] at hcut hk ⊢
  obtain ⟨f0, f1, f2, z1, _⟩ := cu_cells h
  have H := AsideCu.mk h
  have hd : decide ((k : Int) > (n : Int) - (a : Int)) = false := decide_eq_false (by omega)
  have hd2 : decide ((n : Int) - (a : Int) < (k : Int)) = false := decide_eq_false (by omega)
  have hw1 : IntKind.i64.wrap ((n : Int) - (a : Int)) = (n : Int) - (a : Int) := by rw [IntKind.wrap_i64]; omega
  have hs : (a : Int) + (k : Int) = (m : Int) := by omega
  have hw2 : IntKind.i64.wrap ((m : Int) - (k : Int)) = (a : Int) := by rw [IntKind.wrap_i64]; omega
  have hb1 : (0 : Int) ≤ (a : Int) + k := by omega
  have hb2 : (a : Int) + k ≤ 9223372036854775807 := by omega
  have HM := AsideCu.mk hm
  clear h hm
  go_enter Tryd.func48, Tryd.ntmps48
  go_wp2
  go_quiet (fail)
  go_wp2
  obtain ⟨W, hW⟩ : ∃ W, W = (w.drewN nq).setCell ⟨p, 1, none⟩ (Value.int IntKind.i64 (m : Int)) := ⟨_, rfl⟩
  rw [← hW]
  have hC1 : CuAt W p A n c m false := by
    rw [hW]
    exact (cu_step H.out hB nq 0 m false 1 _ (.inl ⟨rfl, rfl, rfl⟩)).1
  have HW := AsideCu.mk hW
  obtain ⟨e0, e1, e2, _, _⟩ := cu_cells hC1
  clear hW hC1 f0 f1 f2 hd hd2 hb1 hb2 hs
  go_quiet (fail)
  go_wp2
  go_ret
  refine ⟨rfl, ?_⟩
  rw [HW.out]
  exact cu_step H.out hB _ _ m false 1 _ (.inl ⟨rfl, rfl, rfl⟩)
set_option maxRecDepth 100000 in
set_option maxHeartbeats 2000000 in
theorem vault_take.lacks (p : Nat) (A : Option Addr) (n c a k : Nat) (B : Nat) (w : World) (h : CuAt w p A n c a false) (hB : B ≤ p) (hn : n ≤ 9223372036854775807) (han : a ≤ n) (hk : n < a + k) :
    Calls Tryd.prog 48 #[.pointer (some ⟨p, 0, none⟩), .int .i64 k] w fun e w' => e = .returned (.slice none 0 0) ∧ CuAt w' p A n c a true ∧ Below B w w' ∧ KeepBut w w' p none := by
  obtain ⟨f0, f1, f2, z1, _⟩ := cu_cells h
  have H := AsideCu.mk h
  have hd : decide ((k : Int) > (n : Int) - (a : Int)) = true := decide_eq_true (by omega)
  have hd2 : decide ((n : Int) - (a : Int) < (k : Int)) = true := decide_eq_true (by omega)
  have hw1 : IntKind.i64.wrap ((n : Int) - (a : Int)) = (n : Int) - (a : Int) := by rw [IntKind.wrap_i64]; omega
  clear h
  go_enter Tryd.func48, Tryd.ntmps48
  go_wp2
  go_quiet (fail)
  go_wp2
  go_ret
  exact ⟨rfl, cu_step H.out hB nq 0 a true 2 _ (.inr ⟨rfl, rfl, rfl⟩)⟩
set_option maxRecDepth 100000 in
set_option maxHeartbeats 2000000 in
theorem vault_take.over (p : Nat) (A : Option Addr) (n c a k : Nat) (B : Nat) (w : World) (h : CuAt w p A n c a true) (hB : B ≤ p) :
    Calls Tryd.prog 48 #[.pointer (some ⟨p, 0, none⟩), .int .i64 k] w fun e w' => e = .returned (.slice none 0 0) ∧ CuAt w' p A n c a true ∧ Below B w w' ∧ KeepBut w w' p none := by
  obtain ⟨f0, f1, f2, z1, _⟩ := cu_cells h
  have H := AsideCu.mk h
  clear h
  go_enter Tryd.func48, Tryd.ntmps48
  go_wp2
  go_quiet (fail)
  go_wp2
  go_ret
  exact ⟨rfl, cu_step H.out hB nq 0 a true 2 _ (.inr ⟨rfl, rfl, rfl⟩)⟩
theorem C_none {w : World} : Kd.C (Kd.int .u8) w none 0 ([] : List Int) := ⟨rfl, by omega, fun h => absurd h (by omega)⟩
/-- Taking, whatever the cursor and the number. -/
theorem vault_take.gives (p : Nat) (A : Option Addr) (b : List Int) (n c : Nat) (s : Nat × Bool) (k : Nat) (B : Nat) (w : World) (h : CuAt w p A n c s.1 s.2) (hB : B ≤ p) (hc : n ≤ c) (hn : n ≤ 9223372036854775807) (hs : s.1 ≤ n) (hb : b.length = n) :
    Calls Tryd.prog 48 #[.pointer (some ⟨p, 0, none⟩), .int .i64 k] w fun e w' => ∃ A', e = .returned (.slice A' (tkB b s k).length (tkB b s k).length) ∧ (∀ W, Kd.C (Kd.int .u8) W A n b → Kd.C (Kd.int .u8) W A' (tkB b s k).length (tkB b s k)) ∧ CuAt w' p A n c (tk n s k).1 (tk n s k).2 ∧ Below B w w' ∧ KeepBut w w' p none := by
  obtain ⟨a, q⟩ := s
  cases q with
  | true =>
    have e1 : tkB b (a, true) k = [] := by simp [tkB]
    have e2 : tk n (a, true) k = (a, true) := by simp [tk]
    rw [e1, e2]
    exact (vault_take.over p A n c a k B w h hB).mono fun e w' ⟨he, hr⟩ => ⟨none, he, fun W _ => C_none, hr⟩
  | false =>
    by_cases hk : a + k ≤ n
    · have e1 : tkB b (a, false) k = (b.drop a).take k := by simp [tkB]; intro; omega
      have e2 : tk n (a, false) k = (a + k, false) := if_neg (by simp; omega)
      have el : ((b.drop a).take k).length = k := by rw [List.length_take, List.length_drop]; omega
      rw [e1, e2, el]
      exact (vault_take.fits p A n c a k B w h hB hc hn hk).mono fun e w' ⟨he, hr⟩ => ⟨_, he, fun W hW => C_cut hW a k hk, hr⟩
    · have e1 : tkB b (a, false) k = [] := by simp [tkB]; intro; omega
      have e2 : tk n (a, false) k = (a, true) := if_pos (by simp; omega)
      rw [e1, e2]
      exact (vault_take.lacks p A n c a k B w h hB hn hs (by omega)).mono fun e w' ⟨he, hr⟩ => ⟨none, he, fun W _ => C_none, hr⟩
theorem tk_le {n : Nat} {s : Nat × Bool} (k : Nat) (h : s.1 ≤ n) : (tk n s k).1 ≤ n := by
  unfold tk
  split
  · exact h
  · rename_i hh
    simp only [not_or] at hh
    show s.1 + k ≤ n
    omega
theorem tkB_le (b : List Int) (s : Nat × Bool) (k : Nat) : (tkB b s k).length ≤ k := by
  unfold tkB
  split
  · exact Nat.zero_le _
  · rw [List.length_take]; omega
theorem tkB_mem {b : List Int} {s : Nat × Bool} {k : Nat} {x : Int} (h : x ∈ tkB b s k) : x ∈ b := by
  unfold tkB at h
  split at h
  · cases h
  · exact List.mem_of_mem_drop (List.mem_of_mem_take h)

end Go.Proofs.YtibmccacebhhkaaDoor.HV

namespace Go.Proofs.YtibmccacebhhkaaDoor.HV
open Go.RowKit Go.Proofs.YtibmccacebhhkaaDoorW.PrintWords Go.Proofs.YtibmccacebhhkaaDoorW.PrintLast Go.Proofs.YtibmccacebhhkaaDoorW.PrintMore
attribute [local go_sem] max2_int min2_int max_two min_two max_three min_three max_four min_four   -- for this text's walks alone
set_option linter.unusedVariables false
set_option linter.unusedSimpArgs false

/-! ### slices_Grow_byte_byte: function 52, by hand -/
theorem C_part {w : World} {A A' : Option Addr} {n : Nat} {xs : List Int} (h : Kd.C (Kd.int .u8) w A n xs) (a k : Nat) (hk : a + k ≤ n) (hA : 0 < k → A' = A.map (·.add a)) : Kd.C (Kd.int .u8) w A' k ((xs.drop a).take k) := by
  have hn : xs.length = n := h.1
  refine ⟨by rw [List.length_take, List.length_drop]; omega, by have := h.2.1; omega, fun hk0 => ?_⟩
  obtain ⟨ad, e, hc⟩ := h.2.2 (by omega)
  refine ⟨ad.add a, by rw [hA hk0, e]; rfl, fun j q hj => ?_⟩
  rw [List.getElem?_take] at hj
  split at hj
  · rw [List.getElem?_drop] at hj
    obtain ⟨cs, h1, h2, h3⟩ := hc (a + j) q hj
    refine ⟨cs, h1, h2, fun i u hu => ?_⟩
    rw [add_add]
    have := h3 i u hu
    have hsz : (Kd.int .u8).sz = 1 := rfl
    rw [hsz, Nat.mul_one] at this ⊢
    rwa [← Nat.add_assoc]
  · cases hj
set_option maxRecDepth 100000 in
theorem cut_mid (A : Option Addr) (n c l h : Nat) (hl : l ≤ h) (hh : h ≤ n) (hc : n ≤ c) :
    ∃ A', (∀ W : World, (Instr.slice 22 (.slice A n c) (some (.int .i64 (l : Int))) (some (.int .i64 (h : Int))) none).run Tryd.prog W = .ok (.slice A' (h - l) (c - l)) W) ∧ ∀ (W : World) (xs : List Int), Kd.C (Kd.int .u8) W A n xs → Kd.C (Kd.int .u8) W A' (h - l) ((xs.drop l).take (h - l)) := by
  refine ⟨if c = l then A else A.map (·.add l), fun W => ?_, fun W xs hx => C_part hx l (h - l) (by omega) (fun h0 => by rw [if_neg (by omega)])⟩
  have hs : (sizeOf 5).run Tryd.prog W = .ok 1 W := by kernel_rfl
  rw [run_slice_lh W 22 A n c Tryd.underlying22 .i64 .i64 (l : Int) (h : Int) (by omega) (by omega) (by omega)]
  rw [show Tryd.prog.elem 22 = 5 by kernel_rfl, hs]
  simp only [Result.andThen, sliced, Int.toNat_natCast, Nat.mul_one]
set_option maxRecDepth 100000 in
theorem cut_from (A : Option Addr) (n c l : Nat) (hl : l ≤ n) (hc : n ≤ c) :
    ∃ A', (∀ W : World, (Instr.slice 22 (.slice A n c) (some (.int .i64 (l : Int))) none none).run Tryd.prog W = .ok (.slice A' (n - l) (c - l)) W) ∧ ∀ (W : World) (xs : List Int), Kd.C (Kd.int .u8) W A n xs → Kd.C (Kd.int .u8) W A' (n - l) (xs.drop l) := by
  refine ⟨if c = l then A else A.map (·.add l), fun W => ?_, fun W xs hx => ?_⟩
  · have hs : (sizeOf 5).run Tryd.prog W = .ok 1 W := by kernel_rfl
    rw [run_slice_l W 22 A n c Tryd.underlying22 .i64 (l : Int) (by omega) (by omega)]
    rw [show Tryd.prog.elem 22 = 5 by kernel_rfl, hs]
    simp only [Result.andThen, sliced, Int.toNat_natCast, Nat.mul_one]
  · have h1 := C_part (A' := if c = l then A else A.map (·.add l)) hx l (n - l) (by omega) (fun h0 => by rw [if_neg (by omega)])
    rwa [List.take_of_length_le (by rw [List.length_drop, hx.1]; exact Nat.le_refl _)] at h1
theorem C_elem {w : World} {A : Option Addr} {n : Nat} {xs : List Int} (h : Kd.C (Kd.int .u8) w A n xs) (i : Nat) (hi : i < n) : ∃ ad, A = some ad ∧ w.cell? (ad.add i) = some (.int .u8 (xs.getD i 0)) := by
  obtain ⟨ad, e, hc⟩ := Kd.at_int h (i : Int) (by omega) (by omega)
  refine ⟨ad, e, ?_⟩
  rw [Int.toNat_natCast] at hc
  exact hc

end Go.Proofs.YtibmccacebhhkaaDoor.HV

