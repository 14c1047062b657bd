/- What the Go functions come to, as plain Lean functions, and that their calls do just that: written by this project's own program (hp.sh); conditions: those of each theorem. -/
import Derived.Test.YtnfhfmimeaeoiaaHMx0
import Derived.Test.YtnfhfmimeaeoiaaHMx1
import Derived.Test.YtnfhfmimeaeoiaaHMx11
import Derived.Test.YtnfhfmimeaeoiaaHMx14
import Derived.Shelf.Abstract
import Derived.OwnWalk
import Derived.LoopN
namespace Go.Proofs.Ytnfhfmimeaeoiaa.HM
open Go.RowKit Go.Proofs.YtnfhfmimeaeoiaaW.PrintWords Go.Proofs.YtnfhfmimeaeoiaaW.PrintLast Go.Proofs.YtnfhfmimeaeoiaaW.PrintMore
attribute [local go_sem] max2_int min2_int max_two min_two max_three min_three max_four min_four   -- for this text's walks alone
set_option linter.unusedVariables false
set_option linter.unusedSimpArgs false

/-! ### sackbutlaw22_MixOne: function 7, by hand -/
structure AsideO (p : Prop) : Prop where mk :: (out : p)
def oneB (k : Nat) (l : List Int) (b : Int) : Bool :=
  match mix_Add.f k [l] b, mix_Add.f k [l, List.replicate l.length 0] b with
  | some (o, e), some (o2, e2) => decide (e = 0 ∧ e2 = 0 ∧ o2 = o ∧ o.length = l.length ∧ sackbutref01_Same.f k o o = some true ∧ ∀ i, i < l.length → sackbutref22_Cut.f k (rd l (i : Int)) b = some (rd o (i : Int)))
  | _, _ => false
def sackbutlaw22_MixOne.f (k : Nat) (l0 : List Int) (a1 : Int) : Option Bool :=
  if 0 ≤ a1 ∧ a1 < 256 ∧ sackbutlaw22_awake.f k = some true then
    if 100 < l0.length then some true
    else match sackbutref20_Check.f k l0 with
      | none => none
      | some e => if e = 0 then (if oneB k l0 (2 + a1 % 25) = true then some true else none) else some true
  else none
/-- A row of rows whose values stand in its cells. -/
theorem rows_of {w : World} {g n : Nat} {xs : List (List Int)} (hl : xs.length = n) (hn : n ≤ 1000)
    (hv : ∀ j (hj : j < xs.length), ∃ A' c, w.cell? ⟨g, j, none⟩ = some (.slice A' xs[j].length c) ∧ xs[j].length ≤ c ∧ Kd.C (Kd.int .i64) w A' xs[j].length xs[j]) : Kd.C (Kd.slice 3 (Kd.int .i64)) w (some ⟨g, 0, none⟩) n xs := by
  refine ⟨hl, by omega, fun _ => ⟨⟨g, 0, none⟩, rfl, fun j p hj => ?_⟩⟩
  obtain ⟨hjl, rfl⟩ := List.getElem?_eq_some_iff.1 hj
  obtain ⟨A', c, h1, h2, h3⟩ := hv j hjl
  refine ⟨[.slice A' xs[j].length c], rfl, ⟨A', c, rfl, h2, h3⟩, fun i u hu => ?_⟩
  match i, hu with
  | 0, hu =>
    obtain rfl := Option.some.inj hu
    rw [show (⟨g, 0, none⟩ : Addr).add (j * (Kd.slice 3 (Kd.int .i64)).sz + 0) = ⟨g, j, none⟩ by show (⟨g, 0, none⟩ : Addr).add (j * 1 + 0) = _; simp [Go.Addr.add]; omega]
    exact h1
set_option maxHeartbeats 1000000 in
theorem one_skip (k : Nat) (A0 : Option Addr) (c0 : Nat) (l0 : List Int) (t : Nat) (w : World) (hr0 : Kd.C (Kd.int .i64) w A0 l0.length l0) (hc0 : l0.length ≤ c0) (ht : t < 256) (haw : sackbutlaw22_awake.f k = some true) (hs : 100 < l0.length ∨ ∃ e, sackbutref20_Check.f k l0 = some e ∧ e ≠ 0) :
    Calls Try.prog 7 #[.slice A0 l0.length c0, .int .u8 (t : Int)] w fun e w' => e = .returned (.bool true) ∧ Below w.heap.size w w' := by
  have HW := AsideO.mk (fun W => sackbutlaw22_awake.calls k true W haw)
  have htz : (0 : Int) ≤ (t : Int) ∧ (t : Int) < 256 := by omega
  clear haw
  by_cases h100 : 100 < l0.length
  · generalize l0.length = n at *
    have hgt : (100 : Int) < (n : Int) := by omega
    clear hs hr0 hc0
    go_enter Try.func7, Try.ntmps7
    go_wp2_with (first | (go_at_call 9; have hX := HB1.out; clear hX; refine (HW.out _).mono ?_; rintro e w1 ⟨rfl, hd⟩; have HB2 := AsideO.mk (below_step HB1.out hd); clear hd) | (go_at_call 9; refine (HW.out _).mono ?_; rintro e w1 ⟨rfl, hd⟩; have HB1 := AsideO.mk hd; clear hd))
    go_ret
    exact ⟨rfl, HB2.out⟩
  · obtain ⟨e, he, hne⟩ := hs.resolve_left h100
    have HC := AsideO.mk (fun (W : World) (hW : Below w.heap.size w W) => sackbutref20_Check.calls k A0 c0 l0 e W (Kd.C_below hr0 hW) hc0 he)
    have hb1 : (e == 0) = false := beq_eq_false_iff_ne.mpr hne
    have hb2 : (e != 0) = true := bne_iff_ne.mpr hne
    clear hs hr0 hc0 hne he
    generalize l0.length = n at *
    have hgt : ¬ (100 : Int) < (n : Int) := by omega
    go_enter Try.func7, Try.ntmps7
    go_wp2_with (first | (go_at_call 9; have hX := HBC.out; clear hX; refine (HW.out _).mono ?_; rintro e w1 ⟨rfl, hd⟩; have HB2 := AsideO.mk (below_step HBC.out hd); clear hd) | (go_at_call 9; refine (HW.out _).mono ?_; rintro e w1 ⟨rfl, hd⟩; have HB1 := AsideO.mk hd; clear hd) | (go_at_call 10; refine (HC.out _ HB1.out).mono ?_; rintro e1 w2 ⟨rfl, hd⟩; have HBC := AsideO.mk (below_step HB1.out hd.below); clear hd))
    go_ret
    exact ⟨rfl, HB2.out⟩
set_option maxRecDepth 100000 in
set_option maxHeartbeats 1000000 in
theorem one_main (k : Nat) (A0 : Option Addr) (c0 : Nat) (l0 : List Int) (t : Nat) (w : World) (hr0 : Kd.C (Kd.int .i64) w A0 l0.length l0) (hc0 : l0.length ≤ c0) (ht : t < 256) (haw : sackbutlaw22_awake.f k = some true) (hl : l0.length ≤ 100) (hck : sackbutref20_Check.f k l0 = some 0) (hone : oneB k l0 (2 + (t : Int) % 25) = true) :
    Calls Try.prog 7 #[.slice A0 l0.length c0, .int .u8 (t : Int)] w fun e w' => e = .returned (.bool true) ∧ Below w.heap.size w w' := by
  have HW := AsideO.mk (fun W => sackbutlaw22_awake.calls k true W haw)
  have HC := AsideO.mk (fun (W : World) (hW : Below w.heap.size w W) => sackbutref20_Check.calls k A0 c0 l0 0 W (Kd.C_below hr0 hW) hc0 hck)
  obtain ⟨o, hA, hB, hol, hS, hcut⟩ : ∃ o, mix_Add.f k [l0] (2 + (t : Int) % 25) = some (o, 0) ∧ mix_Add.f k [l0, List.replicate l0.length 0] (2 + (t : Int) % 25) = some (o, 0) ∧ o.length = l0.length ∧ sackbutref01_Same.f k o o = some true ∧ ∀ i, i < l0.length → sackbutref22_Cut.f k (rd l0 (i : Int)) (2 + (t : Int) % 25) = some (rd o (i : Int)) := by
    unfold oneB at hone
    split at hone
    · rename_i o e o2 e2 h1 h2
      obtain ⟨rfl, rfl, rfl, h3, h4, h5⟩ := of_decide_eq_true hone
      exact ⟨_, h1, h2, h3, h4, h5⟩
    · cases hone
  have htz : (0 : Int) ≤ (t : Int) ∧ (t : Int) < 256 := by omega
  have CA := AsideO.mk (fun (g c : Nat) (W : World) (hW : Below w.heap.size w W) (hg : W.cell? ⟨g, 0, none⟩ = some (.slice A0 l0.length c0)) (hc : 1 ≤ c) => (show Calls Try.prog 16 #[.slice (some ⟨g, 0, none⟩) 1 c, .int .i64 (2 + (t : Int) % 25)] W fun e w' => ∃ v0_ : Value, e = .returned (.tuple #[v0_, .int .i64 0]) ∧ Kd.R (Kd.int .i64) 3 w' W.heap.size (fun _ => True) v0_ o ∧ Below W.heap.size W w' from mix_Add.calls k (some ⟨g, 0, none⟩) c [l0] (2 + (t : Int) % 25) o 0 W (rows_of rfl (by simp) (fun j hj => by
    match j, hj with
    | 0, _ => exact ⟨A0, c0, hg, hc0, Kd.C_below hr0 hW⟩)) hc hA))
  have CB := AsideO.mk (fun (g c : Nat) (A2 : Option Addr) (c2 : Nat) (W : World) (hW : Below w.heap.size w W) (hg : W.cell? ⟨g, 0, none⟩ = some (.slice A0 l0.length c0)) (hg2 : W.cell? ⟨g, 1, none⟩ = some (.slice A2 l0.length c2)) (hc2 : l0.length ≤ c2) (hC2 : Kd.C (Kd.int .i64) W A2 l0.length (List.replicate l0.length 0)) (hc : 2 ≤ c) => (show Calls Try.prog 16 #[.slice (some ⟨g, 0, none⟩) 2 c, .int .i64 (2 + (t : Int) % 25)] W fun e w' => ∃ v0_ : Value, e = .returned (.tuple #[v0_, .int .i64 0]) ∧ Kd.R (Kd.int .i64) 3 w' W.heap.size (fun _ => True) v0_ o ∧ Below W.heap.size W w' from mix_Add.calls k (some ⟨g, 0, none⟩) c [l0, List.replicate l0.length 0] (2 + (t : Int) % 25) o 0 W (rows_of rfl (by simp) (fun j hj => by
    match j, hj with
    | 0, _ => exact ⟨A0, c0, hg, hc0, Kd.C_below hr0 hW⟩
    | 1, _ =>
      refine ⟨A2, c2, ?_, ?_, ?_⟩
      · show W.cell? ⟨g, 1, none⟩ = some (Value.slice A2 (List.replicate l0.length (0 : Int)).length c2); rw [List.length_replicate]; exact hg2
      · show (List.replicate l0.length (0 : Int)).length ≤ c2; rw [List.length_replicate]; exact hc2
      · show Kd.C (Kd.int .i64) W A2 (List.replicate l0.length (0 : Int)).length (List.replicate l0.length 0); rw [List.length_replicate]; exact hC2)) hc hB))
  have CS := AsideO.mk (fun (A c : _) (A' : Option Addr) (c' : Nat) (W : World) (h1 : Kd.C (Kd.int .i64) W A o.length o) (h2 : o.length ≤ c) (h3 : Kd.C (Kd.int .i64) W A' o.length o) (h4 : o.length ≤ c') => sackbutref01_Same.calls k A c o A' c' o true W h1 h2 h3 h4 hS)
  have CC := AsideO.mk (fun (i : Nat) (W : World) (hi : i < l0.length) => sackbutref22_Cut.calls k (rd l0 (i : Int)) (2 + (t : Int) % 25) (rd o (i : Int)) W (hcut i hi))
  have HOL := AsideO.mk hol
  have HR := AsideO.mk hr0
  clear haw hck hone hA hB hS hcut
  rw [hol] at CS
  clear hol hr0
  obtain ⟨n, hn⟩ : ∃ n, l0.length = n := ⟨_, rfl⟩
  have HN := AsideO.mk hn
  have HOL2 : AsideO (o.length = n) := ⟨by rw [HOL.out]; exact hn⟩
  rw [hn] at CA CB CS CC HC hc0 hl ⊢
  clear hn
  have hgt : ¬ (100 : Int) < (n : Int) := by omega
  have hinfo : ((Try.prog).info? 3).map (fun i => (i.zero, i.size, i.bytes)) = some (some (.int .i64 0), 1, 8) := by kernel_rfl
  have HI := AsideO.mk hinfo
  clear hinfo
  have hn00 : (0 : Int) ≤ (n : Int) := by omega
  have hn08 : (n : Int).toNat * 8 ≤ 281474976710656 := by omega
  have HM0 := AsideO.mk hn00
  have HM8 := AsideO.mk hn08
  clear hn00 hn08
  go_enter Try.func7, Try.ntmps7
  go_wp2_with (first | (go_at_call 9; refine (HW.out _).mono ?_; rintro e w1 ⟨rfl, hd⟩; have HB1 := AsideO.mk hd; clear hd) | (go_at_call 10; refine (HC.out _ HB1.out).mono ?_; rintro e1 w2 ⟨rfl, hd⟩; have HB2 := AsideO.mk (below_step HB1.out hd.below); clear hd) | (go_at_call 16; have hX := HB6.out; clear hX; refine (CB.out w6.heap.size 2 A40 c40 _ (below_alloc HB6.out _) (by refine (World.cell?_alloc_at _ _ _ _ ?_).trans rfl; rfl) (by refine (World.cell?_alloc_at _ _ _ _ ?_).trans rfl; rfl) HL40.out (Kd.C_alloc HC40.out _) (by omega)).mono ?_; rintro e8 w8 ⟨v8, rfl, ho, hb⟩; obtain ⟨A8, c8, e8⟩ := Kd.R_slice ho; rw [HOL2.out] at e8; subst e8; have HO8 := AsideO.mk ho; have HP5 := AsideO.mk (Kd.R_below (Kd.R_alloc HO6.out _) hb); have HB8 := AsideO.mk (below_step (below_alloc HB6.out _) hb); clear ho hb) | (go_at_call 16; refine (CA.out w2.heap.size 1 _ (below_alloc HB2.out _) (by refine (World.cell?_alloc_at _ _ _ _ ?_).trans rfl; rfl) (by omega)).mono ?_; rintro e5 w5 ⟨v5, rfl, ho, hb⟩; obtain ⟨A5, c5, e5⟩ := Kd.R_slice ho; rw [HOL2.out] at e5; subst e5; have HO5 := AsideO.mk ho; have HB5 := AsideO.mk (below_step (below_alloc HB2.out _) hb); clear ho hb) | ((with_reducible refine gate_dst (N := 40) rfl ?_); refine Kd.R_make (Kd.int .i64) w.heap.size 3 rfl (N := 40) rfl 22 _ _ rfl (n : Int) rfl rfl Try.underlying22 (.int .i64 0) 8 HI.out rfl (by decide) (by omega) (0 : Int) (ok := fun _ => True) (okp := fun _ => True) rfl (fun _ h => h) trivial HM0.out HM8.out HB5.out HB5.out.size ?_; intro v40 w6 hR6 hb6 hg6 hat6; rw [Int.toNat_natCast] at hR6; obtain ⟨A40, c40, e40⟩ := Kd.R_slice hR6; rw [List.length_replicate] at e40; subst e40; have HL40 := AsideO.mk (Kd.R_reads' hR6).2.1; have HC40 := AsideO.mk (by have h := (Kd.R_reads' hR6).2.2; rw [List.length_replicate] at h; exact h); have HO6 := AsideO.mk (Kd.R_grown HO5.out hg6 (fun k _ => by simp)); have HB6 := AsideO.mk hb6; clear hR6 hb6 hg6 hat6) | (go_at_call 12; with_reducible refine (CS.out A5 c5 A8 c8 _ ?s1 ?s2 ?s3 ?s4).mono ?_; (case s1 => have h := (Kd.R_reads' HP5.out).2.2; rw [HOL2.out] at h; exact h); (case s2 => exact (Kd.R_reads' HP5.out).2.1); (case s3 => have h := (Kd.R_reads' HO8.out).2.2; rw [HOL2.out] at h; exact h); (case s4 => exact (Kd.R_reads' HO8.out).2.1); rintro e10 w10 ⟨rfl, hd⟩; have HP10 := AsideO.mk (Kd.R_below HP5.out hd.below); have HB10 := AsideO.mk (below_step HB8.out hd.below); clear hd))
  go_loopg [67] n (fun gg v67 w' => ∃ i : Nat, v67 = .int .i64 (i : Int) ∧ AsideO (i ≤ n) ∧ AsideO (n - i ≤ gg) ∧ AsideO (Kd.R (Kd.int .i64) 3 w' (w2.alloc (.cells #[.slice A0 n c0] 22)).heap.size (fun _ => True) (.slice A5 n c5) o) ∧ AsideO (Below w.heap.size w w'))
  case atStart => exact ⟨0, rfl, ⟨Nat.zero_le _⟩, ⟨by omega⟩, ⟨HP10.out⟩, ⟨HB10.out⟩⟩
  case round =>
    obtain ⟨i, rfl, HII, HGG, HPR, HBr⟩ := hrel
    by_cases hlt : i < n
    · have hltz : (i : Int) < (n : Int) := by omega
      have hi0 : (0 : Int) ≤ (i : Int) := by omega
      obtain ⟨adl, rfl, hcl⟩ := Kd.at_int HR.out (i : Int) hi0 (by rw [HN.out]; exact hltz)
      replace hcl := pw_cell_below HBr.out hcl
      obtain ⟨ado, rfl, hco⟩ := Kd.at_int (Kd.R_reads' HPR.out).2.2 (i : Int) hi0 (by rw [HOL2.out]; exact hltz)
      rw [Int.toNat_natCast] at hcl hco
      have CCi := AsideO.mk (fun W => CC.out i W hlt)
      have HCO := AsideO.mk hco
      generalize rd l0 (i : Int) = y at *
      generalize rd o (i : Int) = z at *
      go_wp2
      refine start_ (n := 8) (S := fun w' => w'.cell? (ado.add i) = some (.int .i64 z)) (ds := []) #[false, false, false, false, false, false, false, false] (by kernel_rfl) rfl rfl (HCO.out) (fun hHeld => ?_)
      refine pure_ (i := 0) (N := some 72) (v := ?_) (a' := ?_) #[true, false, false, false, false, false, false, false] rfl rfl (by kernel_rfl) (fun _ _ _ h => h) (Or.inl ⟨by rfl, ?_⟩) ?_ ?_
      rotate_left
      · intro w'
        go_simp
        with_reducible rfl
      rotate_left
      · simp only [Act.put, List.setIfInBounds_toArray, List.set_cons_zero, List.set_cons_succ, i64_w, i32_w]
        rfl
      refine pure_ (i := 1) (N := some 73) (v := ?_) (a' := ?_) #[true, true, false, false, false, false, false, false] rfl rfl (by kernel_rfl) (fun _ _ _ h => h) (Or.inl ⟨by rfl, ?_⟩) ?_ ?_
      rotate_left
      · intro w'
        go_simp
        with_reducible rfl
      rotate_left
      · simp only [Act.put, List.setIfInBounds_toArray, List.set_cons_zero, List.set_cons_succ, i64_w, i32_w]
        rfl
      refine pure_ (i := 2) (N := some 74) (v := ?_) (a' := ?_) #[true, true, true, false, false, false, false, false] rfl rfl (by kernel_rfl) (fun _ _ _ h => h) (Or.inl ⟨by rfl, ?_⟩) ?_ ?_
      rotate_left
      · intro w'
        go_simp
        with_reducible rfl
      rotate_left
      · simp only [Act.put, List.setIfInBounds_toArray, List.set_cons_zero, List.set_cons_succ, i64_w, i32_w]
        rfl
      refine pure_ (i := 4) (N := some 76) (v := ?_) (a' := ?_) #[true, true, true, false, true, false, false, false] rfl rfl (by kernel_rfl) (fun _ _ _ h => h) (Or.inl ⟨by rfl, ?_⟩) ?_ ?_
      rotate_left
      · intro w'
        go_simp
        with_reducible rfl
      rotate_left
      · simp only [Act.put, List.setIfInBounds_toArray, List.set_cons_zero, List.set_cons_succ, i64_w, i32_w]
        rfl
      refine pure_ (i := 5) (N := some 77) (v := ?_) (a' := ?_) #[true, true, true, false, true, true, false, false] rfl rfl (by kernel_rfl) (fun _ _ _ h => h) (Or.inl ⟨by rfl, ?_⟩) ?_ ?_
      rotate_left
      · intro w'
        go_simp
        with_reducible rfl
      rotate_left
      · simp only [Act.put, List.setIfInBounds_toArray, List.set_cons_zero, List.set_cons_succ, i64_w, i32_w]
        rfl
      refine take_ (i := 3) (N := some 75) (v := ?_) (a' := ?_) #[true, true, true, true, true, true, false, false] rfl rfl (by kernel_rfl) (fun _ _ _ h => h) (Or.inl ⟨by rfl, ?_⟩) hHeld ?_ ?_
      rotate_left
      · intro w' s0
        go_simp
        with_reducible rfl
      rotate_left
      · simp only [Act.put, List.setIfInBounds_toArray, List.set_cons_zero, List.set_cons_succ, i64_w, i32_w]
        rfl
      refine one_ (i := 6) (N := some 78) #[true, true, true, true, true, true, true, false] rfl rfl (by kernel_rfl) (by decide) (fun K hK => ?_)
      refine goes_ Try.func18 (by kernel_rfl) rfl #[.int .i64 y, .int .i64 (2 + (t : Int) % 25)] (by rfl) rfl rfl (by simp only [List.map_toArray, List.map_cons, List.map_nil]; rfl) ?_
      with_reducible refine (CCi.out _).mono ?_
      rintro e wq ⟨rfl, hdq⟩
      refine ⟨_, rfl, ?_⟩
      refine hK.out _ _ (pw_cell_below (w := wr.drew) hdq.below HCO.out) (fun hHeld => ?_)
      clear hK K
      refine norm_ (a' := ?_) ?_ ?_
      rotate_left
      · show Act.put _ (some 78) _ = _
        simp only [Act.put, List.setIfInBounds_toArray, List.set_cons_zero, List.set_cons_succ, i64_w, i32_w]
        rfl
      refine pure_ (i := 7) (N := some 79) (v := ?_) (a' := ?_) #[true, true, true, true, true, true, true, true] rfl rfl (by kernel_rfl) (fun _ _ _ h => h) (Or.inl ⟨by rfl, ?_⟩) ?_ ?_
      rotate_left
      · intro w'
        go_simp
        with_reducible rfl
      rotate_left
      · simp only [Act.put, List.setIfInBounds_toArray, List.set_cons_zero, List.set_cons_succ, i64_w, i32_w]
        rfl
      refine done_ (by kernel_rfl) ?_
      have HPR2 := AsideO.mk (Kd.R_below (Kd.R_drew HPR.out) hdq.below)
      have HB2q := AsideO.mk (below_step (below_drew HBr.out) hdq.below)
      clear hdq
      go_wp2
      go_roundg (n - (i + 1))
      case measure => have := HGG.out; omega
      case rel => exact ⟨i + 1, by go_num, ⟨by omega⟩, ⟨by have := HGG.out; omega⟩, ⟨HPR2.out⟩, ⟨HB2q.out⟩⟩
    · have hltz : ¬ (i : Int) < (n : Int) := by omega
      go_wp2
      go_ret
      exact ⟨rfl, HBr.out⟩
theorem sackbutlaw22_MixOne.calls (k : Nat) (A0 : Option Addr) (c0 : Nat) (l0 : List Int) (a1 : Int) (r : Bool) (w : World) (hr0 : Kd.C (Kd.int .i64) w A0 l0.length l0) (hc0 : l0.length ≤ c0) (h : sackbutlaw22_MixOne.f k l0 a1 = some r) :
    Calls Try.prog 7 #[.slice A0 l0.length c0, .int .u8 a1] w fun e w' => e = .returned (.bool r) ∧ Below w.heap.size w w' := by
  unfold sackbutlaw22_MixOne.f at h
  split at h
  · rename_i h0
    obtain ⟨g1, g2, g3⟩ := h0
    obtain ⟨t, rfl⟩ : ∃ t : Nat, a1 = (t : Int) := ⟨a1.toNat, by omega⟩
    split at h
    · rename_i hn
      obtain rfl := Option.some.inj h
      exact one_skip k A0 c0 l0 t w hr0 hc0 (by omega) g3 (.inl hn)
    · rename_i hn
      split at h
      · cases h
      · rename_i e he
        split at h
        · rename_i he0
          subst he0
          split at h
          · rename_i hb
            obtain rfl := Option.some.inj h
            exact one_main k A0 c0 l0 t w hr0 hc0 (by omega) g3 (by omega) he hb
          · cases h
        · rename_i he0
          obtain rfl := Option.some.inj h
          exact one_skip k A0 c0 l0 t w hr0 hc0 (by omega) g3 (.inr ⟨e, he, he0⟩)
  · cases h

end Go.Proofs.Ytnfhfmimeaeoiaa.HM
