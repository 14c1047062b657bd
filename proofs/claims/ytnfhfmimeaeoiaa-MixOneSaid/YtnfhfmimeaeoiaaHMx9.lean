/- What the Go functions come to, as plain Lean functions, and that their calls do just that: written by this project's own program (hp.sh); conditions: those of each theorem. -/
import Derived.Test.YtnfhfmimeaeoiaaHMx0
import Derived.Test.YtnfhfmimeaeoiaaHMx8
import Derived.Shelf.Abstract
namespace Go.Proofs.Ytnfhfmimeaeoiaa.HM
open Go.RowKit Go.Proofs.YtnfhfmimeaeoiaaW.PrintWords Go.Proofs.YtnfhfmimeaeoiaaW.PrintLast Go.Proofs.YtnfhfmimeaeoiaaW.PrintMore
attribute [local go_sem] max2_int min2_int max_two min_two max_three min_three max_four min_four   -- for this text's walks alone
set_option linter.unusedVariables false
set_option linter.unusedSimpArgs false

/-! ### mix_each: function 25, by hand -/
/-- A method at a value of its own, as the program holds it. -/
def fvEnc (f : Nat × Int) : Value := .func (.func f.1) #[.int .i64 f.2] #[]
def mapAt (g : Int → Option Int) : Nat → Nat → List Int → Option (List Int)
  | 0, _, l => some l
  | d + 1, j, l => (g (rd l (j : Int))).bind fun y => mapAt g d (j + 1) (l.set j y)
def eachA (st : Nat × Int → Int → Option Int) (n : Nat) : List (Nat × Int) → List Int → Option (List Int)
  | [], l => some l
  | f :: fs, l => (mapAt (st f) n 0 l).bind (eachA st n fs)
set_option maxHeartbeats 4000000 in
theorem mix_each.gives (st : Nat × Int → Int → Option Int) (fs : List (Nat × Int)) (l0 r : List Int) (A0 : Option Addr) (c0 b c1 : Nat) (w : World) (hr0 : Kd.C (Kd.int .i64) w A0 l0.length l0) (hc0 : l0.length ≤ c0) (hlen : l0.length < 17592186044416) (hfs : fs.length ≤ 1000)
    (hcell : ∀ i (h : i < fs.length), w.cell? ⟨b, i, none⟩ = some (fvEnc fs[i]))
    (eg : ∀ f ∈ fs, ∀ args w, (callFunc f.1 args).run Try.prog w = .ok (.enter f.1 args) w)
    (hst : ∀ f ∈ fs, ∀ x y W, st f x = some y → Calls Try.prog f.1 #[.int .i64 f.2, .int .i64 x] W fun e W' => e = .returned (.int .i64 y) ∧ Below W.heap.size W W')
    (h : eachA st l0.length fs l0 = some r) :
    Calls Try.prog 25 #[.slice A0 l0.length c0, .slice (some ⟨b, 0, none⟩) fs.length c1] w fun e w' => ∃ v0_ : Value, e = .returned (v0_) ∧ Kd.R (Kd.int .i64) 3 w' w.heap.size (fun _ => True) v0_ r ∧ Below w.heap.size w w' := by
  have hclone := slices_Clone_int.calls A0 c0 l0 l0 w hr0 hc0 (by unfold slices_Clone_int.f; rw [if_pos hlen])
  have hnl := Aside0.mk (rfl : l0.length = l0.length)
  obtain ⟨n, hn⟩ : ∃ n, n = l0.length := ⟨_, rfl⟩
  obtain ⟨m, hm⟩ : ∃ m, m = fs.length := ⟨_, rfl⟩
  have HN := Aside0.mk hn
  have HM := Aside0.mk hm
  have HE := Aside0.mk h
  have HC := Aside0.mk hcell
  have HG := Aside0.mk eg
  have HS := Aside0.mk hst
  have HL := Aside0.mk hlen
  rw [← hm] at hfs ⊢
  rw [← hn] at hclone ⊢
  have hnb : n < 17592186044416 := by rw [hn]; exact hlen
  clear hr0 hc0 hlen hcell eg hst h hn hm hnl
  go_enter Try.func25, Try.ntmps25
  go_wp2_with (go_at_call 40; refine hclone.mono ?_; rintro e w1 ⟨v1, rfl, ho1, hb1⟩; obtain ⟨A1, k1, rfl⟩ := Kd.R_slice ho1; rw [← HN.out] at ho1 ⊢; have HO := Aside0.mk ho1; have HB := Aside0.mk hb1; clear ho1 hb1)
  go_loopg [13] m (fun gg s13 wr => ∃ (i : Nat) (cur : List Int), i ≤ m ∧ m - i ≤ gg ∧ s13 = .int .i64 i ∧ Aside0 (cur.length = n) ∧ Aside0 (eachA st n (fs.drop i) cur = some r) ∧ Aside0 (Kd.R (Kd.int .i64) 3 wr w.heap.size (fun _ => True) (.slice A1 n k1) cur) ∧ Aside0 (Below w.heap.size w wr))
  case atStart => exact ⟨0, l0, Nat.zero_le _, by omega, rfl, ⟨HN.out.symm⟩, ⟨by rw [List.drop_zero, HN.out]; exact HE.out⟩, HO, HB⟩
  case round =>
    clear HO HB HE
    obtain ⟨i, cur, him, hg, rfl, HLc, HEc, HO, HB⟩ := hrel
    by_cases hlt : i < m
    · have hltz : (i : Int) < (m : Int) := by omega
      have hif : i < fs.length := by have := HM.out; omega
      have hmem : fs[i] ∈ fs := List.getElem_mem hif
      have hcb := HC.out i hif
      have hcw := (HB.out.cell (World.block_lt_of_cell? w _ hcb)).trans hcb
      have hE2 := HEc.out
      rw [List.drop_eq_getElem_cons hif] at hE2
      have hG2 := HG.out _ hmem
      have hS2 := HS.out _ hmem
      generalize fs[i] = f at hcw hE2 hG2 hS2
      obtain ⟨g, bn⟩ := f
      simp only [fvEnc] at hcw
      simp only at hG2 hS2
      simp only [eachA] at hE2
      have HE2 := Aside0.mk hE2
      have HS2 := Aside0.mk hS2
      clear hE2 hS2 hcb hmem HEc hif
      go_wp2
      go_loopg [19] n (fun gg s19 wq => ∃ (j : Nat) (cur2 : List Int), j ≤ n ∧ n - j ≤ gg ∧ s19 = .int .i64 j ∧ Aside0 (cur2.length = n) ∧ Aside0 ((mapAt (st (g, bn)) (n - j) j cur2).bind (eachA st n (List.drop (i + 1) fs)) = some r) ∧ Aside0 (Kd.R (Kd.int .i64) 3 wq w.heap.size (fun _ => True) (.slice A1 n k1) cur2) ∧ Aside0 (Below w.heap.size w wq))
      case atStart => exact ⟨0, cur, Nat.zero_le _, by omega, rfl, HLc, HE2, HO, HB⟩
      case round =>
        clear HO HB HE2 HLc
        obtain ⟨j, cur2, hjn, hg2, rfl, HLc, HE2, HO, HB⟩ := hrel
        by_cases hlt2 : j < n
        · have hltz2 : (j : Int) < (n : Int) := by omega
          have hE3 := HE2.out
          obtain ⟨d, hd⟩ : ∃ d, n - j = d + 1 := ⟨n - j - 1, by omega⟩
          have hd1 : n - (j + 1) = d := by omega
          rw [hd] at hE3
          simp only [mapAt] at hE3
          rw [Option.bind_assoc] at hE3
          obtain ⟨y, hy, hE4⟩ := Option.bind_eq_some_iff.mp hE3
          have HE4 := Aside0.mk hE4
          have HY := Aside0.mk hy
          clear hE3 hE4 hy HE2
          obtain ⟨go, co, eo, gb, gl, cl, HGo⟩ := Kd.R_form HO.out (by have := HLc.out; omega)
          injection eo with ea en ec
          subst ea ec
          clear en
          have HW := Aside0.mk HO.out
          obtain ⟨hx, hf⟩ := Kd.R_celln 0 HO.out (j : Int) (by omega) (by omega)
          rw [Int.toNat_natCast] at hx hf
          have hxx : wr.cell? ⟨go, j, none⟩ = some (.int .i64 (rd cur2 (j : Int))) := hx
          clear hx
          have hcall := HS2.out _ _ wr HY.out
          go_wp2_with (go_at_fn g; refine hcall.mono ?_; rintro e w2 ⟨rfl, hb2⟩; obtain ⟨hx2, hf2⟩ := Kd.R_celln 0 (Kd.R_below HO.out hb2) (j : Int) (by omega) (by omega); rw [Int.toNat_natCast] at hx2 hf2)
          go_roundg (n - (j + 1))
          case measure => omega
          case rel =>
            have hput := Kd.R_putn (Kd.R_below HO.out hb2) (j : Int) y
            rw [Int.toNat_natCast] at hput
            exact ⟨j + 1, cur2.set j y, by omega, by omega, by go_num, ⟨by rw [List.length_set]; exact HLc.out⟩, ⟨by rw [hd1]; exact HE4.out⟩, ⟨hput⟩, ⟨below_set (below_step HB.out hb2) gb⟩⟩
        · have hltz2 : ¬ (j : Int) < (n : Int) := by omega
          have : j = n := by omega
          subst this
          have hE3 := HE2.out
          rw [Nat.sub_self] at hE3
          simp only [mapAt, Option.bind_some] at hE3
          have HE3 := Aside0.mk hE3
          clear hE3 HE2
          go_wp2
          go_roundg (m - (i + 1))
          case measure => omega
          case rel => exact ⟨i + 1, cur2, by omega, by omega, by go_num, HLc, HE3, HO, HB⟩
    · have hltz : ¬ (i : Int) < (m : Int) := by omega
      have : i = m := by omega
      subst this
      have hE2 := HEc.out
      rw [List.drop_eq_nil_of_le (by have := HM.out; omega)] at hE2
      obtain rfl := Option.some.inj hE2
      clear hE2
      go_wp2
      go_ret
      exact ⟨_, rfl, HO.out, HB.out⟩

end Go.Proofs.Ytnfhfmimeaeoiaa.HM
