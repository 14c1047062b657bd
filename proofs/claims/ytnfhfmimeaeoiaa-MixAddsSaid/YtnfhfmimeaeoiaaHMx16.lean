/- What the Go functions come to, as plain Lean functions, and that their calls do just that: written by this project's own program (hp.sh); conditions: those of each theorem. -/
import Derived.Test.YtnfhfmimeaeoiaaHMx0
import Derived.Test.YtnfhfmimeaeoiaaHMx11
import Derived.Test.YtnfhfmimeaeoiaaHMx12
import Derived.Test.YtnfhfmimeaeoiaaHMx14
import Derived.Test.YtnfhfmimeaeoiaaHMx15
import Derived.Shelf.Abstract
import Derived.OwnWalk
import Derived.LoopN
namespace Go.Proofs.Ytnfhfmimeaeoiaa.HM
open Go.RowKit Go.Proofs.YtnfhfmimeaeoiaaW.PrintWords Go.Proofs.YtnfhfmimeaeoiaaW.PrintLast Go.Proofs.YtnfhfmimeaeoiaaW.PrintMore
attribute [local go_sem] max2_int min2_int max_two min_two max_three min_three max_four min_four   -- for this text's walks alone
set_option linter.unusedVariables false
set_option linter.unusedSimpArgs false

/-! ### sackbutlaw22_MixAdds: function 6, by hand -/
structure AsideB (p : Prop) : Prop where mk :: (out : p)
/-- Which channel comes at a place, when they are turned. -/
def turnIx (n t i : Nat) : Nat := n - 1 - (i + t) % n
def turned (l : List (List Int)) (t : Nat) : List (List Int) := (List.range l.length).map fun i => l.getD (turnIx l.length t i) []
def manyB (c : List Int) : Bool := decide ((100 : Int) < (c.length : Int))
def addsB (k : Nat) (l : List (List Int)) (a1 : Int) (t : Nat) : Bool :=
  match mix_Add.f k l a1, sackbutref22_Add.f k l a1, mix_Add.f k (turned l t) a1 with
  | some (o, e), some (o2, e2), some (o3, e3) => decide (o2 = o ∧ e2 = e ∧ o3 = o ∧ ((e3 == 0) = (e == 0)) ∧ sackbutref01_Same.f k o o = some true)
  | _, _, _ => false
def sackbutlaw22_MixAdds.f (k : Nat) (l0 : List (List Int)) (a1 : Int) (a2 : Int) : Option Bool :=
  if 0 ≤ a2 ∧ a2 < 256 ∧ sackbutlaw22_awake.f k = some true then
    if 12 < l0.length then some true
    else if l0.any manyB = true then some true
    else if addsB k l0 a1 a2.toNat = true then some true else none
  else none
/-- A row that holds the values of rows is read as these rows. -/
theorem rows_read {w : World} {A : Option Addr} {n : Nat} {vals : List (List Value)} {xs : List (List Int)} (h : Kd.C (Kd.raw 1) w A n vals) (hl : xs.length = n)
    (hv : ∀ j (hj : j < xs.length), ∃ A' c, vals[j]? = some [.slice A' xs[j].length c] ∧ xs[j].length ≤ c ∧ Kd.C (Kd.int .i64) w A' xs[j].length xs[j]) : Kd.C (Kd.slice 3 (Kd.int .i64)) w A n xs := by
  refine ⟨hl, h.2.1, fun hn => ?_⟩
  obtain ⟨ad, e, hc⟩ := h.2.2 hn
  refine ⟨ad, e, fun j p hj => ?_⟩
  obtain ⟨hjl, rfl⟩ := List.getElem?_eq_some_iff.1 hj
  obtain ⟨A', c, hv1, hv2, hv3⟩ := hv j hjl
  obtain ⟨cs, h1, h2, h3⟩ := hc j _ hv1
  have h2' : cs = [.slice A' xs[j].length c] := h2.1
  refine ⟨cs, h1, ⟨A', c, h2', hv2, hv3⟩, h3⟩
set_option maxHeartbeats 1000000 in
theorem adds_many (k : Nat) (A0 : Option Addr) (n c0 : Nat) (a1 a2 : Int) (w : World) (haw : sackbutlaw22_awake.f k = some true) (hn : 12 < n) :
    Calls Try.prog 6 #[.slice A0 n c0, .int .i64 a1, .int .u8 a2] w fun e w' => e = .returned (.bool true) ∧ Below w.heap.size w w' := by
  have HW := AsideB.mk (fun W => sackbutlaw22_awake.calls k true W haw)
  have hgt : (12 : Int) < (n : Int) := by omega
  clear haw
  go_enter Try.func6, Try.ntmps6
  go_wp2_with (first | (go_at_call 9; refine (HW.out _).mono ?_; rintro e w1 ⟨rfl, hd⟩; first | (have HB2 := AsideB.mk (below_step HB1.out hd); clear hd) | (have HB1 := AsideB.mk hd; clear hd)))
  go_ret
  exact ⟨rfl, HB2.out⟩
theorem turned_get (l : List (List Int)) (t i : Nat) (h : i < (turned l t).length) (h2 : turnIx l.length t i < l.length) : (turned l t)[i] = l[turnIx l.length t i] := by
  simp only [turned, List.getElem_map, List.getElem_range, List.getD_eq_getElem?_getD, List.getElem?_eq_getElem h2]; rfl
theorem turnIx_lt {n t i : Nat} (h : 0 < n) : turnIx n t i < n := by unfold turnIx; have := Nat.mod_lt (i + t) h; omega
set_option maxRecDepth 100000 in
set_option maxHeartbeats 4000000 in
theorem adds_main (k : Nat) (A0 : Option Addr) (c0 : Nat) (l0 : List (List Int)) (a1 : Int) (t : Nat) (w : World) (hr0 : Kd.C (Kd.slice 3 (Kd.int .i64)) w A0 l0.length l0) (hc0 : l0.length ≤ c0) (haw : sackbutlaw22_awake.f k = some true) (hl : l0.length ≤ 12) (ht : t < 256) (hend : l0.any manyB = true ∨ addsB k l0 a1 t = true) :
    Calls Try.prog 6 #[.slice A0 l0.length c0, .int .i64 a1, .int .u8 (t : Int)] w fun e w' => e = .returned (.bool true) ∧ Below w.heap.size w w' := by
  have HW := AsideB.mk (fun W => sackbutlaw22_awake.calls k true W haw)
  have hvf : ∃ vf : Nat → Value, ∀ q (h : q < l0.length), ∃ A' c, vf q = .slice A' l0[q].length c ∧ l0[q].length ≤ c ∧ Kd.C (Kd.int .i64) w A' l0[q].length l0[q] ∧ ∃ ad, A0 = some ad ∧ w.cell? (ad.add q) = some (vf q) := by
    refine ⟨fun q => ((A0.bind fun ad => w.cell? (ad.add q)).getD undef), fun q h => ?_⟩
    obtain ⟨ad, A', c, rfl, h1, h2, h3⟩ := row_at hr0 q h
    have e : ((some ad).bind fun ad => w.cell? (ad.add q)).getD undef = .slice A' l0[q].length c := by
      show (w.cell? (ad.add q)).getD undef = _
      rw [h1]; rfl
    exact ⟨A', c, e, h2, h3, ad, rfl, by rw [h1]; exact congrArg some e.symm⟩
  obtain ⟨vf, hvf⟩ := hvf
  have HVF := AsideB.mk hvf
  have HEND := AsideB.mk hend
  have HR := AsideB.mk hr0
  clear haw hvf hend hr0
  obtain ⟨n, hn⟩ : ∃ n, l0.length = n := ⟨_, rfl⟩
  have HN := AsideB.mk hn
  have HC0 := AsideB.mk hc0
  rw [hn] at hl ⊢
  clear hn hc0
  have hgt : ¬ (12 : Int) < (n : Int) := by omega
  have htw : wrap64 (t : Int) = (t : Int) := by unfold wrap64; omega
  have info22 : ((Try.prog).info? 22).map (fun i => (i.zero, i.size, i.bytes)) = some (some (.slice none 0 0), 1, 24) := by kernel_rfl
  have HINFO := AsideB.mk info22
  clear info22
  go_enter Try.func6, Try.ntmps6
  go_wp2_with (go_at_call 9; refine (HW.out _).mono ?_; rintro e w1 ⟨rfl, hd⟩; have HB1 := AsideB.mk hd; clear hd)
  go_loopg [7, 25] n (fun gg v7 v25 w' => ∃ j : Nat, v25 = .int .i64 (j : Int) ∧ AsideB (j ≤ n) ∧ AsideB (n - j ≤ gg) ∧ AsideB (∀ i (h : i < l0.length), i < j → l0[i].length ≤ 100) ∧ AsideB ((Kd.raw 1).R 22 w' w.heap.size (fun _ => True) v7 ((List.range j).map fun i => [vf (turnIx n t i)])) ∧ AsideB (Below w.heap.size w w'))
  case atStart => exact ⟨0, rfl, ⟨Nat.zero_le _⟩, ⟨by omega⟩, ⟨fun i _ h => absurd h (by omega)⟩, ⟨Kd.R_nil _ _ _ _ _⟩, ⟨HB1.out⟩⟩
  case round =>
    obtain ⟨j, rfl, HJ, HGG, HLE, HRW, HBr⟩ := hrel
    clear HB1
    by_cases hlt : j < n
    · have hltz : (j : Int) < (n : Int) := by omega
      have hjl : j < l0.length := by have := HN.out; omega
      obtain ⟨A', c', e1, e2, e3, ad, rfl, hcj⟩ := HVF.out j hjl
      rw [e1] at hcj
      replace hcj := pw_cell_below HBr.out hcj
      clear e1 e2 e3
      have HLJ := AsideB.mk (show ∀ m, l0[j].length = m → l0[j].length = m from fun _ h => h)
      obtain ⟨nj, hnj⟩ : ∃ nj, l0[j].length = nj := ⟨_, rfl⟩
      rw [hnj] at hcj
      have HNJ := AsideB.mk hnj
      clear hnj HLJ
      by_cases h100 : 100 < nj
      · have h100z : (100 : Int) < (nj : Int) := by omega
        go_wp2
        go_ret
        exact ⟨rfl, HBr.out⟩
      · have h100z : ¬ (100 : Int) < (nj : Int) := by omega
        obtain ⟨n1, hn1⟩ : ∃ n1, n - 1 = n1 := ⟨_, rfl⟩
        have e1 : wrap64 ((n : Int) - 1) = (n1 : Int) := by unfold wrap64; omega
        obtain ⟨jt, hjt⟩ : ∃ jt, j + t = jt := ⟨_, rfl⟩
        have e2 : wrap64 ((j : Int) + (t : Int)) = (jt : Int) := by unfold wrap64; omega
        obtain ⟨rm, hrm⟩ : ∃ rm, jt % n = rm := ⟨_, rfl⟩
        have hrl : rm < n := by rw [← hrm]; exact Nat.mod_lt _ (by omega)
        have e3 : Int.tmod (jt : Int) (n : Int) = (rm : Int) := by
          have h2 : Int.tmod (jt : Int) (n : Int) = ((jt % n : Nat) : Int) := rfl
          rw [h2, hrm]
        obtain ⟨ix, hix⟩ : ∃ ix, n1 - rm = ix := ⟨_, rfl⟩
        have e4 : wrap64 ((n1 : Int) - (rm : Int)) = (ix : Int) := by unfold wrap64; omega
        have e5 : ((j : Int) + (t : Int)) % (n : Int) = (rm : Int) := by rw [← hrm, ← hjt]; rfl
        have ez : wrap64 ((n : Int) - 1 - ((j : Int) + (t : Int)) % (n : Int)) = (ix : Int) := by rw [e5]; unfold wrap64; omega
        clear e1 e2 e3 e4 e5
        have hixl : ix < n := by omega
        have hixz : (ix : Int) < (n : Int) := by omega
        have hnz : ¬ (n = 0) := by omega
        have htix : turnIx n t j = ix := by unfold turnIx; rw [hjt, hrm, hn1, hix]
        have HTIX := AsideB.mk htix
        have hixl0 : ix < l0.length := by have := HN.out; omega
        obtain ⟨A2, c2, q1, q2, q3, ad2, qe, hci⟩ := HVF.out ix hixl0
        injection qe with qe
        subst qe
        have HQ1 := AsideB.mk q1
        rw [q1] at hci
        obtain ⟨ni, hni⟩ : ∃ ni, l0[ix].length = ni := ⟨_, rfl⟩
        rw [hni] at hci
        have HNI := AsideB.mk hni
        replace hci := pw_cell_below HBr.out hci
        clear q1 q2 q3 hn1 hjt hrm hix htix hni
        have hM : (Kd.raw 1).M wr w.heap.size (fun _ => False) [.slice A2 ni c2] [.slice A2 ni c2] := ⟨rfl, rfl, fun u hu => by rw [List.mem_singleton.1 hu]; rfl⟩
        have HM := AsideB.mk hM
        have hlen8 : (((List.range j).map fun i => [vf (turnIx n t i)]).length + 1) * 24 ≤ 140737488355328 := by rw [List.length_map, List.length_range]; omega
        have HL8 := AsideB.mk hlen8
        clear hM hlen8
        go_wp2_with ((with_reducible refine gate_builtin (b := .append) (xs := #[.tmp 34, .tmp 49]) rfl ?_); at_builtin; refine Kd.R_append (Kd.raw 1) (w0 := w) w.heap.size rfl (.tmp 34) (.tmp 49) 38 22 (.slice none 0 0) 24 rfl Try.underlying38 HINFO.out rfl (by decide) (by decide) u7 ((List.range j).map fun i => [vf (turnIx n t i)]) [.slice A2 ni c2] [.slice A2 ni c2] (fun _ => True) (fun _ => False) rfl rfl HM.out (fun _ h => h.elim) (fun _ _ => trivial) HRW.out HBr.out HBr.out.size HL8.out ?_; intro v8 w8 hR8 hb8 hg8 hat8; have HR8 := AsideB.mk hR8; have HB8 := AsideB.mk hb8; clear hR8 hb8 hg8 hat8)
        go_roundg (n - (j + 1))
        case measure => have := HGG.out; omega
        case rel =>
          refine ⟨j + 1, by go_num, ⟨by omega⟩, ⟨by have := HGG.out; omega⟩, ⟨fun i h hi => ?_⟩, ⟨?_⟩, ⟨HB8.out⟩⟩
          · by_cases e : i = j
            · subst e; rw [HNJ.out]; omega
            · exact HLE.out i h (by omega)
          · rw [List.range_succ, List.map_append, List.map_singleton, HTIX.out, HQ1.out, HNI.out]
            exact HR8.out
    · have hltz : ¬ (j : Int) < (n : Int) := by omega
      have hjn : j = n := by have := HJ.out; omega
      have hmany : l0.any manyB = false := by
        rw [List.any_eq_false]
        intro x hx
        obtain ⟨i, hi, rfl⟩ := List.mem_iff_getElem.1 hx
        have h1 := HLE.out i hi (by have := HN.out; omega)
        unfold manyB
        simp; omega
      have hab : addsB k l0 a1 t = true := by
        rcases HEND.out with h | h
        · rw [hmany] at h; cases h
        · exact h
      obtain ⟨o, e, e3, hA, hB, hC, hzz, hS⟩ : ∃ o e e3, mix_Add.f k l0 a1 = some (o, e) ∧ sackbutref22_Add.f k l0 a1 = some (o, e) ∧ mix_Add.f k (turned l0 t) a1 = some (o, e3) ∧ ((e3 == 0) = (e == 0)) ∧ sackbutref01_Same.f k o o = some true := by
        unfold addsB at hab
        split at hab
        · rename_i o e o2 e2 o3 e3 h1 h2 h3
          obtain ⟨rfl, rfl, rfl, h4, h5⟩ := of_decide_eq_true hab
          exact ⟨_, _, _, h1, h2, h3, h4, h5⟩
        · cases hab
      have CA := AsideB.mk (fun (W : World) (hW : Below w.heap.size w W) => by have h := mix_Add.calls k A0 c0 l0 a1 o e W (Kd.C_below HR.out hW) HC0.out hA; rw [HN.out] at h; exact h)
      have CB := AsideB.mk (fun (W : World) (hW : Below w.heap.size w W) => by have h := sackbutref22_Add.calls k A0 c0 l0 a1 o e W (Kd.C_below HR.out hW) HC0.out hB; rw [HN.out] at h; exact h)
      have htl : (turned l0 t).length = n := by unfold turned; rw [List.length_map, List.length_range, HN.out]
      have CC := AsideB.mk (fun (A7 : Option Addr) (c7 : Nat) (W : World) (hc7 : n ≤ c7) (hC7 : Kd.C (Kd.slice 3 (Kd.int .i64)) W A7 n (turned l0 t)) => by have h := mix_Add.calls k A7 c7 (turned l0 t) a1 o e3 W (by rw [htl]; exact hC7) (by rw [htl]; exact hc7) hC; rw [htl] at h; exact h)
      have CS := AsideB.mk (fun (A c : _) (A' : Option Addr) (c' : Nat) (W : World) (h1 : Kd.C (Kd.int .i64) W A o.length o) (h2 : o.length ≤ c) (h3 : Kd.C (Kd.int .i64) W A' o.length o) (h4 : o.length ≤ c') => sackbutref01_Same.calls k A c o A' c' o true W h1 h2 h3 h4 hS)
      obtain ⟨A7, c7, e7⟩ := Kd.R_slice HRW.out
      have hl7 : ((List.range j).map fun i => [vf (turnIx n t i)]).length = n := by rw [List.length_map, List.length_range, hjn]
      have HRW2 := HRW.out
      rw [e7, hl7] at HRW2
      rw [hl7] at e7
      subst e7
      obtain ⟨-, hc7, hC7⟩ := Kd.R_reads' HRW2
      rw [hl7] at hC7
      have HC7 := AsideB.mk (rows_read (xs := turned l0 t) (Kd.C_below (w := wr) hC7 (Below.refl _ _)) htl (fun i hi => by
        have hi2 : i < n := by rw [htl] at hi; exact hi
        have hq : turnIx l0.length t i < l0.length := turnIx_lt (by have := HN.out; omega)
        obtain ⟨B1, d1, p1, p2, p3, _⟩ := HVF.out (turnIx l0.length t i) hq
        rw [turned_get l0 t i hi hq]
        refine ⟨B1, d1, ?_, p2, Kd.C_below p3 HBr.out⟩
        rw [List.getElem?_map, List.getElem?_range (by omega), ← p1, ← HN.out]
        rfl))
      have HCC7 := AsideB.mk hc7
      have HZZ := AsideB.mk hzz
      clear hzz hC7 HRW HRW2 hA hB hC hS hab hmany hjn htl hl7 hc7
      generalize hol : o.length = no at *
      obtain ⟨bz, hb1z, hb2z⟩ : ∃ bz, (e == 0) = bz ∧ (e3 == 0) = bz := ⟨_, rfl, HZZ.out⟩
      go_wp2_with (first | (go_at_call 16; have hX := HW6.out; clear hX; with_reducible refine (CC.out A7 c7 _ HCC7.out (Kd.C_below HC7.out HW6.out)).mono ?_; rintro e8 w8 ⟨v13, rfl, ho, hb⟩; obtain ⟨A13, c13, e13⟩ := Kd.R_slice ho; rw [hol] at e13; subst e13; have HO13 := AsideB.mk ho; have HQ9 := AsideB.mk (Kd.R_below HP9.out hb); have HQ11 := AsideB.mk (Kd.R_below HO11.out hb); have HB8 := AsideB.mk (below_step HB6.out hb); clear ho hb) | (go_at_call 16; refine (CA.out _ HBr.out).mono ?_; rintro e5 w5 ⟨v9, rfl, ho, hb⟩; obtain ⟨A9, c9, e9⟩ := Kd.R_slice ho; rw [hol] at e9; subst e9; have HO9 := AsideB.mk ho; have HB5 := AsideB.mk (below_step HBr.out hb); have HW5 := AsideB.mk hb; clear ho hb) | (go_at_call 17; refine (CB.out _ HB5.out).mono ?_; rintro e6 w6 ⟨v11, rfl, ho, hb⟩; obtain ⟨A11, c11, e11⟩ := Kd.R_slice ho; rw [hol] at e11; subst e11; have HO11 := AsideB.mk ho; have HP9 := AsideB.mk (Kd.R_below HO9.out hb); have HB6 := AsideB.mk (below_step HB5.out hb); have HW6 := AsideB.mk (below_step HW5.out hb); clear ho hb) | (go_at_call 12; have hX := HT13.out; clear hX; with_reducible refine (CS.out A13 c13 A9 c9 _ ?s1 ?s2 ?s3 ?s4).mono ?_; (case s1 => have h := (Kd.R_reads' HT13.out).2.2; rw [hol] at h; exact h); (case s2 => exact (Kd.R_reads' HT13.out).2.1); (case s3 => have h := (Kd.R_reads' HT9.out).2.2; rw [hol] at h; exact h); (case s4 => exact (Kd.R_reads' HT9.out).2.1); rintro e12 w12 ⟨rfl, hd⟩; have HB12 := AsideB.mk (below_step HB10.out hd.below); clear hd) | (go_at_call 12; with_reducible refine (CS.out A9 c9 A11 c11 _ ?s1 ?s2 ?s3 ?s4).mono ?_; (case s1 => have h := (Kd.R_reads' HQ9.out).2.2; rw [hol] at h; exact h); (case s2 => exact (Kd.R_reads' HQ9.out).2.1); (case s3 => have h := (Kd.R_reads' HQ11.out).2.2; rw [hol] at h; exact h); (case s4 => exact (Kd.R_reads' HQ11.out).2.1); rintro e10 w10 ⟨rfl, hd⟩; have HT9 := AsideB.mk (Kd.R_below HQ9.out hd.below); have HT13 := AsideB.mk (Kd.R_below HO13.out hd.below); have HB10 := AsideB.mk (below_step HB8.out hd.below); clear hd))
      go_ret
      exact ⟨rfl, HB12.out⟩
theorem sackbutlaw22_MixAdds.calls (k : Nat) (A0 : Option Addr) (c0 : Nat) (l0 : List (List Int)) (a1 : Int) (a2 : Int) (r : Bool) (w : World) (hr0 : Kd.C (Kd.slice 3 (Kd.int .i64)) w A0 l0.length l0) (hc0 : l0.length ≤ c0) (h : sackbutlaw22_MixAdds.f k l0 a1 a2 = some r) :
    Calls Try.prog 6 #[.slice A0 l0.length c0, .int .i64 a1, .int .u8 a2] w fun e w' => e = .returned (.bool r) ∧ Below w.heap.size w w' := by
  unfold sackbutlaw22_MixAdds.f at h
  split at h
  · rename_i h0
    obtain ⟨g1, g2, g3⟩ := h0
    obtain ⟨t, rfl⟩ : ∃ t : Nat, a2 = (t : Int) := ⟨a2.toNat, by omega⟩
    rw [Int.toNat_natCast] at h
    split at h
    · rename_i hn
      obtain rfl := Option.some.inj h
      exact adds_many k A0 l0.length c0 a1 t w g3 hn
    · rename_i hn
      split at h
      · rename_i hm
        obtain rfl := Option.some.inj h
        exact adds_main k A0 c0 l0 a1 t w hr0 hc0 g3 (by omega) (by omega) (.inl hm)
      · split at h
        · rename_i hb
          obtain rfl := Option.some.inj h
          exact adds_main k A0 c0 l0 a1 t w hr0 hc0 g3 (by omega) (by omega) (.inr hb)
        · cases h
  · cases h

end Go.Proofs.Ytnfhfmimeaeoiaa.HM
