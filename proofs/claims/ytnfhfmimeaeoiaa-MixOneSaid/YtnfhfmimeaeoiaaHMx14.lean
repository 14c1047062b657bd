/- What the Go functions come to, as plain Lean functions, and that their calls do just that: written by this project's own program (hp.sh); conditions: those of each theorem. -/
import Derived.Test.YtnfhfmimeaeoiaaHMx0
import Derived.Test.YtnfhfmimeaeoiaaHMx1
import Derived.Test.YtnfhfmimeaeoiaaHMx7
import Derived.Test.YtnfhfmimeaeoiaaHMx9
import Derived.Test.YtnfhfmimeaeoiaaHMx10
import Derived.Test.YtnfhfmimeaeoiaaHMx12
import Derived.Test.YtnfhfmimeaeoiaaHMx13
import Derived.Shelf.Abstract
import Derived.OwnWalk
import Derived.LoopN
namespace Go.Proofs.Ytnfhfmimeaeoiaa.HM
open Go.RowKit Go.Proofs.YtnfhfmimeaeoiaaW.PrintWords Go.Proofs.YtnfhfmimeaeoiaaW.PrintLast Go.Proofs.YtnfhfmimeaeoiaaW.PrintMore
attribute [local go_sem] max2_int min2_int max_two min_two max_three min_three max_four min_four   -- for this text's walks alone
set_option linter.unusedVariables false
set_option linter.unusedSimpArgs false

/-! ### mix_Add: function 16, by hand -/

structure AsideA (p : Prop) : Prop where mk :: (out : p)
/-- A channel added to the sums from a place on. -/
def addAt (c : List Int) : Nat → Nat → List Int → List Int
  | 0, _, s => s
  | d + 1, i, s => addAt c d (i + 1) (s.set i (wrap64 (rd s (i : Int) + rd c (i : Int))))
theorem addAt_length (c : List Int) : ∀ d i s, (addAt c d i s).length = s.length
  | 0, _, _ => rfl
  | d + 1, i, s => by rw [addAt, addAt_length c d, List.length_set]
def addGo (k : Nat) : List (List Int) → List Int → Option (List Int × Int)
  | [], s => some (s, 0)
  | c :: cs, s => (mix_check.f k c true).bind fun e => if e = 0 then addGo k cs (addAt c s.length 0 s) else some ([], e)
theorem addGo_mono (k : Nat) : ∀ l s, LeO (addGo k l s) (addGo (k + 1) l s)
  | [], s => LeO.refl _
  | c :: cs, s => by
    unfold addGo
    exact LeO.bind (mix_check.mono _ _ _) (fun e => LeO.ite (addGo_mono k cs _) (LeO.refl _))
theorem add_zero_ (ad : Addr) : ad.add 0 = ad := by simp [Addr.add]
theorem add1_calls (A : Option Addr) (n c : Nat) (W : World) : Calls Try.prog 33 #[.slice A n c] W fun e W' => e = .returned (.bool (decide ((65536 : Int) < (n : Int)))) ∧ Below W.heap.size W W' := by
  by_cases h : (65536 : Int) < (n : Int)
  · have hb : decide ((65536 : Int) < (n : Int)) = true := decide_eq_true h
    go_enter Try.func33, Try.ntmps33
    go_wp2
    go_ret
    exact ⟨by simp [h], Below.refl _ _⟩
  · have hb : decide ((65536 : Int) < (n : Int)) = false := decide_eq_false h
    go_enter Try.func33, Try.ntmps33
    go_wp2
    go_ret
    exact ⟨by simp [h], Below.refl _ _⟩
theorem add2_calls (A : Option Addr) (n c b : Nat) (ad : Addr) (m c0 : Nat) (A' : Option Addr) (n0 c' : Nat) (hm : 0 < m) (W : World) (hb : W.cell? ⟨b, 0, none⟩ = some (.slice (some ad) m c0)) (h0 : W.cell? ad = some (.slice A' n0 c')) :
    Calls Try.prog 34 #[.slice A n c, .pointer (some ⟨b, 0, none⟩)] W fun e W' => e = .returned (.bool (decide ((n : Int) ≠ (n0 : Int)))) ∧ Below W.heap.size W W' := by
  have hmi : (0 : Int) < (m : Int) := by omega
  by_cases h : (n : Int) = (n0 : Int)
  · have h1 : ((n : Int) == (n0 : Int)) = true := beq_iff_eq.mpr h
    have h2 : ((n : Int) != (n0 : Int)) = false := bne_eq_false_iff_eq.mpr h
    have H := AsideA.mk h
    clear h
    go_enter Try.func34, Try.ntmps34
    go_wp2
    go_ret
    exact ⟨by rw [decide_eq_false (by rw [H.out]; simp)]; rfl, Below.refl _ _⟩
  · have h1 : ((n : Int) == (n0 : Int)) = false := beq_eq_false_iff_ne.mpr h
    have h2 : ((n : Int) != (n0 : Int)) = true := bne_iff_ne.mpr h
    have H := AsideA.mk h
    clear h
    go_enter Try.func34, Try.ntmps34
    go_wp2
    go_ret
    exact ⟨by rw [decide_eq_true H.out]; rfl, Below.refl _ _⟩
def longB (c : List Int) : Bool := decide ((65536 : Int) < (c.length : Int))
def unlikeB (n : Nat) (c : List Int) : Bool := decide ((c.length : Int) ≠ (n : Int))
def mix_Add.f (k : Nat) (l0 : List (List Int)) (a1 : Int) : Option (List Int × Int) := (mix_width_good.f a1).bind fun g => (if g = true then mix_within.f (l0.length : Int) 1 8 else some false).bind fun t => if t = true then (if l0.any longB = true then some ([], 1) else (if l0.any (unlikeB (l0.headD []).length) = true then some ([], 8) else (addGo k l0 (List.replicate (l0.headD []).length 0)).bind fun r => if r.2 = 0 then (eachA stMix r.1.length [(27, a1)] r.1).bind fun z => some (z, 0) else some ([], r.2))) else some ([], 1)
theorem mix_Add.mono : ∀ a0 a1 k, LeO (mix_Add.f k a0 a1) (mix_Add.f (k + 1) a0 a1) := by
  intro a0 a1 k
  unfold mix_Add.f
  refine LeO.bind (LeO.refl _) (fun g => LeO.bind (LeO.refl _) (fun t => LeO.ite (LeO.ite (LeO.refl _) (LeO.ite (LeO.refl _) (LeO.bind (addGo_mono k _ _) (fun r => LeO.refl _)))) (LeO.refl _)))
theorem any31 (A0 : Option Addr) (c0 : Nat) (l0 : List (List Int)) (w : World) (hr0 : Kd.C (Kd.slice 3 (Kd.int .i64)) w A0 l0.length l0) :
    Calls Try.prog 32 #[.slice A0 l0.length c0, .func (.func 33) #[] #[]] w fun e w' => e = .returned (.bool (l0.any longB)) ∧ Below w.heap.size w w' :=
  slices_ContainsFunc_rows.gives longB 33 #[] (enters_of Try.func33 (by kernel_rfl) rfl) A0 c0 l0 w hr0 (fun x A' c W _ _ _ _ => add1_calls A' x.length c W)
theorem any32 (ad : Addr) (c0 b : Nat) (l0 : List (List Int)) (hl : 0 < l0.length) (w : World) (hr0 : Kd.C (Kd.slice 3 (Kd.int .i64)) w (some ad) l0.length l0) (hb : w.cell? ⟨b, 0, none⟩ = some (.slice (some ad) l0.length c0)) :
    Calls Try.prog 32 #[.slice (some ad) l0.length c0, .func (.func 34) #[] #[.pointer (some ⟨b, 0, none⟩)]] w fun e w' => e = .returned (.bool (l0.any (unlikeB (l0.headD []).length))) ∧ Below w.heap.size w w' := by
  obtain ⟨ad', A1, c1, e, h0, _, _⟩ := row_at hr0 0 hl
  injection e with e
  subst e
  rw [add_zero_] at h0
  have eh : (l0.headD []) = l0[0] := by cases l0 with | nil => simp at hl | cons x l => rfl
  rw [eh]
  refine slices_ContainsFunc_rows.gives (unlikeB l0[0].length) 34 #[.pointer (some ⟨b, 0, none⟩)] (enters_of Try.func34 (by kernel_rfl) rfl) (some ad) c0 l0 w hr0 (fun x A' c W _ hW _ _ => ?_)
  exact add2_calls A' x.length c b ad l0.length c0 A1 l0[0].length c1 hl W (pw_cell_below hW hb) (pw_cell_below hW h0)
set_option maxRecDepth 100000 in
set_option maxHeartbeats 4000000 in
theorem add_main (k : Nat) (ad : Addr) (c0 : Nat) (l0 : List (List Int)) (a1 : Int) (r1 : List Int) (r2 : Int) (w : World) (hr0 : Kd.C (Kd.slice 3 (Kd.int .i64)) w (some ad) l0.length l0) (hc0 : l0.length ≤ c0) (hg : mix_width_good.f a1 = some true) (ht : mix_within.f (l0.length : Int) 1 8 = some true) (h1 : 1 ≤ l0.length ∧ l0.length ≤ 8) (ha : l0.any longB = false) (hu : l0.any (unlikeB (l0.headD []).length) = false)
    (h : ((addGo k l0 (List.replicate (l0.headD []).length 0)).bind fun r => if r.2 = 0 then (eachA stMix r.1.length [(27, a1)] r.1).bind fun z => some (z, 0) else some ([], r.2)) = some (r1, r2)) :
    Calls Try.prog 16 #[.slice (some ad) l0.length c0, .int .i64 a1] w fun e w' => ∃ v0_ : Value, e = .returned (.tuple #[v0_, .int .i64 r2]) ∧ Kd.R (Kd.int .i64) 3 w' w.heap.size (fun _ => True) v0_ r1 ∧ Below w.heap.size w w' := by
  have HG := AsideA.mk (fun W => mix_width_good.calls a1 true W hg)
  have HT := AsideA.mk (fun W => mix_within.calls (l0.length : Int) 1 8 true W ht)
  have HA := AsideA.mk (fun (W : World) (hW : Below w.heap.size w W) => by have h := any31 (some ad) c0 l0 W (Kd.C_below hr0 hW); rw [ha] at h; exact h)
  have HU := AsideA.mk (fun (b : Nat) (W : World) (hW : Below w.heap.size w W) (hb : W.cell? ⟨b, 0, none⟩ = some (.slice (some ad) l0.length c0)) => by have h := any32 ad c0 b l0 h1.1 W (Kd.C_below hr0 hW) hb; rw [hu] at h; exact h)
  obtain ⟨ad0, A1, c1, e0, hz, hle0, hC0⟩ := row_at hr0 0 h1.1
  injection e0 with e0
  subst e0
  rw [add_zero_] at hz
  have eh : (l0.headD []) = l0[0] := by cases l0 with | nil => simp at h1 | cons x l => rfl
  have hsame : ∀ x ∈ l0, x.length = l0[0].length := fun x hx => by
    have h2 := List.any_eq_false.1 hu x hx
    rw [eh] at h2
    unfold unlikeB at h2
    simp at h2
    omega
  have hlong : l0[0].length ≤ 65536 := by
    have h2 := List.any_eq_false.1 ha _ (List.getElem_mem h1.1)
    unfold longB at h2
    simp at h2
    omega
  rw [eh] at h
  clear hu ha hg ht eh hle0 hC0
  obtain ⟨n0, hn0⟩ : ∃ n0, l0[0].length = n0 := ⟨_, rfl⟩
  rw [hn0] at hz hsame hlong h
  clear hn0
  have HZ := AsideA.mk hz
  have HSM := AsideA.mk hsame
  have HR := AsideA.mk hr0
  have HH := AsideA.mk h
  clear h hr0 hz hsame
  obtain ⟨n, hn⟩ : ∃ n, l0.length = n := ⟨_, rfl⟩
  have HN := AsideA.mk hn
  rw [hn] at h1 hc0 HT HA HU ⊢
  clear hn
  obtain ⟨h1a, h1b⟩ := h1
  have hmi : (0 : Int) < (n : Int) := by omega
  go_enter Try.func16, Try.ntmps16
  have hinfo : ((Try.prog).info? 3).map (fun i => (i.zero, i.size, i.bytes)) = some (some (.int .i64 0), 1, 8) := by kernel_rfl
  have HI := AsideA.mk hinfo
  clear hinfo
  have hn00 : (0 : Int) ≤ (n0 : Int) := by omega
  have hn08 : (n0 : Int).toNat * 8 ≤ 281474976710656 := by omega
  have HM0 := AsideA.mk hn00
  have HM8 := AsideA.mk hn08
  clear hn00 hn08
  go_wp2_with (first | ((with_reducible refine gate_dst (N := 2) rfl ?_); refine box_event ?hg (N := 2) ?hd (cs := #[.slice (some ad) n c0]) (t := 38) ?hr ?_; (case hd => rfl); (case hg => rfl); (case hr => first | (go_simp; done) | (go_simp; rfl)); intro g1 hg1 wx hbox1 hb1; clear hg1; have HX0 := AsideA.mk hbox1; have HB0 := AsideA.mk hb1; have f0 := (blk_cell HX0.out 0).trans rfl; clear hbox1 hb1) | (go_at_call 24; refine (HG.out _).mono ?_; rintro e w1 ⟨rfl, hd⟩; have HX1 := AsideA.mk (blk_below HX0.out hd.below); have HB1 := AsideA.mk (below_step HB0.out hd.below); clear f0 hd; have f0 := (blk_cell HX1.out 0).trans rfl) | (go_at_call 31; refine (HT.out _).mono ?_; rintro e w2 ⟨rfl, hd⟩; have HX2 := AsideA.mk (blk_below HX1.out hd.below); have HB2 := AsideA.mk (below_step HB1.out hd.below); clear f0 hd; have f0 := (blk_cell HX2.out 0).trans rfl) | (go_at_call 32; refine (HA.out _ HB2.out).mono ?_; rintro e w3 ⟨rfl, hd⟩; have HX3 := AsideA.mk (blk_below HX2.out hd); have HB3 := AsideA.mk (below_step HB2.out hd); clear f0 hd; have f0 := (blk_cell HX3.out 0).trans rfl) | (go_at_call 32; refine (HU.out g1 _ HB3.out ((blk_cell HX3.out 0).trans rfl)).mono ?_; rintro e w4 ⟨rfl, hd⟩; have HX4 := AsideA.mk (blk_below HX3.out hd); have HB4 := AsideA.mk (below_step HB3.out hd); clear f0 hd; have f0 := (blk_cell HX4.out 0).trans rfl; have fz := pw_cell_below HB4.out HZ.out) | ((with_reducible refine gate_dst (N := 34) rfl ?_); refine Kd.R_make (Kd.int .i64) w.heap.size 3 rfl (N := 34) rfl 22 _ _ rfl (n0 : Int) rfl rfl Try.underlying22 (.int .i64 0) 8 HI.out rfl (by decide) (by omega) (0 : Int) (ok := fun _ => True) (okp := fun _ => True) rfl (fun _ h => h) trivial HM0.out HM8.out HB4.out HB4.out.size ?_; intro v5 w5 hR5 hb5 hg5 hat5; have HR5 := AsideA.mk hR5; have HB5 := AsideA.mk hb5; have HAT := AsideA.mk hat5; have HX5 := AsideA.mk (blk_grown HX4.out hg5 (by simp)); clear f0 hR5 hb5 hg5 hat5; have f0 := (blk_cell HX5.out 0).trans rfl))
  obtain ⟨A5, c5, e5⟩ := Kd.R_slice HR5.out
  obtain ⟨b5, hb5, hb5w⟩ := HAT.out
  subst e5
  cases A5 with
  | none => simp [Value.ownBlock] at hb5
  | some ad5 =>
  obtain ⟨gS, rfl⟩ := Kd.R_head HR5.out
  have hlS : (List.replicate (n0 : Int).toNat (0 : Int)).length = n0 := by rw [List.length_replicate, Int.toNat_natCast]
  rw [hlS]
  have hR6 := HR5.out
  rw [hlS] at hR6
  rw [Int.toNat_natCast] at hR6
  have hgS : w.heap.size ≤ gS := Kd.R_base hR6 gS rfl
  have HR6 := AsideA.mk hR6
  have HGS := AsideA.mk hgS
  clear hR6 hgS HR5 HAT hb5 hb5w hlS
  obtain ⟨rA, hgo, hrA⟩ := Option.bind_eq_some_iff.1 HH.out
  have HRA := AsideA.mk hrA
  have HGO := AsideA.mk hgo
  clear hrA hgo
  go_loopg [37] n (fun gg v37 w' => ∃ (j : Nat) (s : List Int), v37 = .int .i64 (j : Int) ∧ AsideA (j ≤ n) ∧ AsideA (n - j ≤ gg) ∧ AsideA (s.length = n0) ∧ AsideA (addGo k (l0.drop j) s = some rA) ∧ AsideA (Kd.R (Kd.int .i64) 3 w' w.heap.size (fun _ => True) (.slice (some ⟨gS, 0, none⟩) n0 c5) s) ∧ AsideA (Below w.heap.size w w'))
  case atStart => exact ⟨0, _, rfl, ⟨Nat.zero_le _⟩, ⟨by omega⟩, ⟨List.length_replicate ..⟩, ⟨HGO.out⟩, ⟨HR6.out⟩, ⟨HB5.out⟩⟩
  case round =>
    obtain ⟨j, s, rfl, HJ, HGG, HSL, HJO, HSR, HBr⟩ := hrel
    clear HR6 HB5 f0 HX5
    by_cases hlt : j < n
    · have hltz : (j : Int) < (n : Int) := by omega
      have hjl : j < l0.length := by have := HN.out; omega
      obtain ⟨ad', A', c', e', hcj, hlej, hCj⟩ := row_at HR.out j hjl
      injection e' with e'
      subst e'
      replace hcj := pw_cell_below HBr.out hcj
      have hxl := HSM.out _ (List.getElem_mem hjl)
      have hgoj := HJO.out
      rw [List.drop_eq_getElem_cons hjl, addGo] at hgoj
      obtain ⟨e, hce, hrest⟩ := Option.bind_eq_some_iff.1 hgoj
      generalize hcc : l0[j] = cj at *
      rw [hxl] at hcj hlej hCj
      have HCK := AsideA.mk (fun (W : World) (hW : Below w.heap.size w W) => by have h := mix_check.calls k A' c' cj true e W (Kd.C_below (by rw [hxl]; exact hCj) hW) (by rw [hxl]; exact hlej) hce; rw [hxl] at h; exact h)
      have HCJ := AsideA.mk hCj
      have HXL := AsideA.mk hxl
      have HRS := AsideA.mk hrest
      clear hgoj hce hcc hCj hlej hxl hrest
      by_cases he : e = 0
      · have he1 : (e == 0) = true := beq_iff_eq.mpr he
        have he2 : (e != 0) = false := bne_eq_false_iff_eq.mpr he
        have hrs := HRS.out
        rw [if_pos he] at hrs
        have HRS2 := AsideA.mk hrs
        clear he hrs HRS
        go_wp2_with (go_at_call 22; refine (HCK.out _ HBr.out).mono ?_; rintro e1 w7 ⟨rfl, hd⟩; have HR7 := AsideA.mk (Kd.R_below HSR.out hd.below); have HB7 := AsideA.mk (below_step HBr.out hd.below); clear hd)
        go_loopg [48] n0 (fun gg2 v48 w' => ∃ (i : Nat) (s' : List Int), v48 = .int .i64 (i : Int) ∧ AsideA (i ≤ n0) ∧ AsideA (n0 - i ≤ gg2) ∧ AsideA (s'.length = n0) ∧ AsideA (addAt cj (n0 - i) i s' = addAt cj s.length 0 s) ∧ AsideA (Kd.R (Kd.int .i64) 3 w' w.heap.size (fun _ => True) (.slice (some ⟨gS, 0, none⟩) n0 c5) s') ∧ AsideA (Below w.heap.size w w'))
        case atStart => exact ⟨0, s, rfl, ⟨Nat.zero_le _⟩, ⟨by omega⟩, ⟨HSL.out⟩, ⟨by rw [HSL.out]; rfl⟩, ⟨HR7.out⟩, ⟨HB7.out⟩⟩
        case round =>
          obtain ⟨i, s', rfl, HI2, HGG2, HSL2, HAD, HSR2, HBi⟩ := hrel
          clear HR7 HB7 hcj
          by_cases hlt2 : i < n0
          · have hltz2 : (i : Int) < (n0 : Int) := by omega
            have hi0 : (0 : Int) ≤ (i : Int) := by omega
            obtain ⟨adc, rfl, hcc⟩ := Kd.at_int HCJ.out (i : Int) hi0 hltz2
            replace hcc := pw_cell_below HBi.out hcc
            obtain ⟨ads, es, hss⟩ := Kd.at_int (Kd.R_reads' HSR2.out).2.2 (i : Int) hi0 (by rw [HSL2.out]; exact hltz2)
            injection es with es
            subst es
            have hfr : wr.frozen? ⟨gS, i, none⟩ = false := by
              obtain ⟨cells, hc⟩ := Kd.R_typed HSR2.out gS rfl
              exact blk_frozen hc i
            rw [Int.toNat_natCast] at hcc hss
            rw [show (⟨gS, 0, none⟩ : Addr).add i = ⟨gS, i, none⟩ by simp [Go.Addr.add]; omega] at hss
            have HNX := AsideA.mk (show addAt cj (n0 - (i + 1)) (i + 1) (s'.set i (wrap64 (rd s' (i : Int) + rd cj (i : Int)))) = addAt cj s.length 0 s by
              have h := HAD.out
              rw [show n0 - i = (n0 - (i + 1)) + 1 by omega, addAt] at h
              exact h)
            generalize rd cj (i : Int) = y at *
            generalize rd s' (i : Int) = z at *
            go_wp2
            go_roundg (n0 - (i + 1))
            case measure => have := HGG2.out; omega
            case rel =>
              have hput := (Kd.R_put (xs := s') (cap := c5) (by rw [HSL2.out]; exact HSR2.out) (i : Int) (wrap64 (z + y))).1
              rw [HSL2.out, Int.toNat_natCast] at hput
              exact ⟨i + 1, _, by go_num, ⟨by omega⟩, ⟨by have := HGG2.out; omega⟩, ⟨by rw [List.length_set]; exact HSL2.out⟩, ⟨HNX.out⟩, ⟨hput⟩, ⟨Below.setCell (p := ⟨gS, i, none⟩) HBi.out HGS.out _⟩⟩
          · have hltz2 : ¬ (i : Int) < (n0 : Int) := by omega
            have hin : i = n0 := by have := HI2.out; omega
            have hsf : s' = addAt cj s.length 0 s := by
              have h := HAD.out
              rw [hin, Nat.sub_self] at h
              exact h
            have HSF := AsideA.mk hsf
            clear hsf hin
            go_wp2
            go_roundg (n - (j + 1))
            case measure => have := HGG.out; omega
            case rel => exact ⟨j + 1, s', by go_num, ⟨by omega⟩, ⟨by have := HGG.out; omega⟩, ⟨HSL2.out⟩, ⟨by rw [HSF.out]; exact HRS2.out⟩, ⟨HSR2.out⟩, ⟨HBi.out⟩⟩
      · have he1 : (e == 0) = false := beq_eq_false_iff_ne.mpr he
        have he2 : (e != 0) = true := bne_iff_ne.mpr he
        have hrs := HRS.out
        rw [if_neg he] at hrs
        injection hrs with hrs
        subst hrs
        have hra := HRA.out
        rw [if_neg he] at hra
        injection hra with hra
        injection hra with hra1 hra2
        subst hra1
        subst hra2
        clear he HRS HRA
        go_wp2_with (go_at_call 22; refine (HCK.out _ HBr.out).mono ?_; rintro e1 w7 ⟨rfl, hd⟩; have HB7 := AsideA.mk (below_step HBr.out hd.below); clear hd)
        go_ret2
        exact ⟨_, rfl, Kd.R_nil _ _ _ _ _, HB7.out⟩
    · have hltz : ¬ (j : Int) < (n : Int) := by omega
      have hjn : j = n := by have := HJ.out; omega
      have hz2 : eachA stMix s.length [(27, a1)] s = some r1 ∧ r2 = 0 := by
        have h := HJO.out
        rw [List.drop_eq_nil_of_le (by have := HN.out; omega), addGo] at h
        have h2 := HRA.out
        rw [← Option.some.inj h, if_pos rfl] at h2
        obtain ⟨z, hz, hq⟩ := Option.bind_eq_some_iff.1 h2
        injection hq with hq
        injection hq with hq1 hq2
        subst hq1
        exact ⟨hz, hq2.symm⟩
      obtain ⟨hz3, rfl⟩ := hz2
      have HE := AsideA.mk (fun (b c1 : Nat) (W : World) (hW : Below w.heap.size w W) (hR : Kd.R (Kd.int .i64) 3 W w.heap.size (fun _ => True) (.slice (some ⟨gS, 0, none⟩) n0 c5) s) (hc : W.cell? ⟨b, 0, none⟩ = some (fvEnc (27, a1))) => by
        obtain ⟨q1, q2, q3⟩ := Kd.R_reads' hR
        have h := mix_each.gives stMix [(27, a1)] s r1 (some ⟨gS, 0, none⟩) c5 b c1 W q3 (by omega) (by have := HSL.out; omega) (by simp) (fun i hi => by match i, hi with | 0, _ => exact hc) (stMix_eg _ (by simp)) (stMix_calls _ (by simp)) hz3
        rw [HSL.out] at h
        exact h)
      clear hz3 hjn
      go_wp2_with (go_at_call 25; refine (HE.out wr.heap.size 1 _ (below_alloc HBr.out _) (Kd.R_alloc HSR.out _) (by refine (World.cell?_alloc_at _ _ _ _ ?_).trans rfl; rfl)).mono ?_; rintro e4 w8 ⟨v8, rfl, ho8, hb8⟩; have HO8 := AsideA.mk (Kd.R_lower ho8 (below_size (below_alloc HBr.out _))); have HB8 := AsideA.mk (below_step (below_alloc HBr.out _) hb8); clear ho8 hb8)
      go_ret2
      exact ⟨_, rfl, HO8.out, HB8.out⟩
set_option maxHeartbeats 1000000 in
theorem add_e1 (A0 : Option Addr) (n c0 : Nat) (a1 : Int) (w : World) (hg : mix_width_good.f a1 = some false) :
    Calls Try.prog 16 #[.slice A0 n c0, .int .i64 a1] w fun e w' => e = .returned (.tuple #[.slice none 0 0, .int .i64 1]) ∧ Below w.heap.size w w' := by
  have HG := AsideA.mk (fun W => mix_width_good.calls a1 false W hg)
  clear hg
  go_enter Try.func16, Try.ntmps16
  go_wp2_with (first | ((with_reducible refine gate_dst (N := 2) rfl ?_); refine box_event ?hg (N := 2) ?hd (cs := #[.slice A0 n c0]) (t := 38) ?hr ?_; (case hd => rfl); (case hg => rfl); (case hr => first | (go_simp; done) | (go_simp; rfl)); intro g1 hg1 wx hbox1 hb1; clear hg1; have HX0 := AsideA.mk hbox1; have HB0 := AsideA.mk hb1; have f0 := (blk_cell HX0.out 0).trans rfl; clear hbox1 hb1) | (go_at_call 24; refine (HG.out _).mono ?_; rintro e w1 ⟨rfl, hd⟩; have HX1 := AsideA.mk (blk_below HX0.out hd.below); have HB1 := AsideA.mk (below_step HB0.out hd.below); clear f0 hd; have f0 := (blk_cell HX1.out 0).trans rfl))
  go_ret2
  exact ⟨rfl, HB1.out⟩
set_option maxHeartbeats 1000000 in
theorem add_e2 (A0 : Option Addr) (n c0 : Nat) (a1 : Int) (w : World) (hg : mix_width_good.f a1 = some true) (ht : mix_within.f (n : Int) 1 8 = some false) :
    Calls Try.prog 16 #[.slice A0 n c0, .int .i64 a1] w fun e w' => e = .returned (.tuple #[.slice none 0 0, .int .i64 1]) ∧ Below w.heap.size w w' := by
  have HG := AsideA.mk (fun W => mix_width_good.calls a1 true W hg)
  have HT := AsideA.mk (fun W => mix_within.calls (n : Int) 1 8 false W ht)
  clear hg ht
  go_enter Try.func16, Try.ntmps16
  go_wp2_with (first | ((with_reducible refine gate_dst (N := 2) rfl ?_); refine box_event ?hg (N := 2) ?hd (cs := #[.slice A0 n c0]) (t := 38) ?hr ?_; (case hd => rfl); (case hg => rfl); (case hr => first | (go_simp; done) | (go_simp; rfl)); intro g1 hg1 wx hbox1 hb1; clear hg1; have HX0 := AsideA.mk hbox1; have HB0 := AsideA.mk hb1; have f0 := (blk_cell HX0.out 0).trans rfl; clear hbox1 hb1) | (go_at_call 24; refine (HG.out _).mono ?_; rintro e w1 ⟨rfl, hd⟩; have HX1 := AsideA.mk (blk_below HX0.out hd.below); have HB1 := AsideA.mk (below_step HB0.out hd.below); clear f0 hd; have f0 := (blk_cell HX1.out 0).trans rfl) | (go_at_call 31; refine (HT.out _).mono ?_; rintro e w2 ⟨rfl, hd⟩; have HX2 := AsideA.mk (blk_below HX1.out hd.below); have HB2 := AsideA.mk (below_step HB1.out hd.below); clear f0 hd; have f0 := (blk_cell HX2.out 0).trans rfl))
  go_ret2
  exact ⟨rfl, HB2.out⟩
set_option maxHeartbeats 1000000 in
theorem add_e3 (A0 : Option Addr) (c0 : Nat) (l0 : List (List Int)) (a1 : Int) (w : World) (hr0 : Kd.C (Kd.slice 3 (Kd.int .i64)) w A0 l0.length l0) (hg : mix_width_good.f a1 = some true) (ht : mix_within.f (l0.length : Int) 1 8 = some true) (ha : l0.any longB = true) :
    Calls Try.prog 16 #[.slice A0 l0.length c0, .int .i64 a1] w fun e w' => e = .returned (.tuple #[.slice none 0 0, .int .i64 1]) ∧ Below w.heap.size w w' := by
  have HG := AsideA.mk (fun W => mix_width_good.calls a1 true W hg)
  have HT := AsideA.mk (fun W => mix_within.calls (l0.length : Int) 1 8 true W ht)
  have HA := AsideA.mk (fun (W : World) (hW : Below w.heap.size w W) => by have h := any31 A0 c0 l0 W (Kd.C_below hr0 hW); rw [ha] at h; exact h)
  clear hg ht ha hr0
  generalize l0.length = n at *
  go_enter Try.func16, Try.ntmps16
  go_wp2_with (first | ((with_reducible refine gate_dst (N := 2) rfl ?_); refine box_event ?hg (N := 2) ?hd (cs := #[.slice A0 n c0]) (t := 38) ?hr ?_; (case hd => rfl); (case hg => rfl); (case hr => first | (go_simp; done) | (go_simp; rfl)); intro g1 hg1 wx hbox1 hb1; clear hg1; have HX0 := AsideA.mk hbox1; have HB0 := AsideA.mk hb1; have f0 := (blk_cell HX0.out 0).trans rfl; clear hbox1 hb1) | (go_at_call 24; refine (HG.out _).mono ?_; rintro e w1 ⟨rfl, hd⟩; have HX1 := AsideA.mk (blk_below HX0.out hd.below); have HB1 := AsideA.mk (below_step HB0.out hd.below); clear f0 hd; have f0 := (blk_cell HX1.out 0).trans rfl) | (go_at_call 31; refine (HT.out _).mono ?_; rintro e w2 ⟨rfl, hd⟩; have HX2 := AsideA.mk (blk_below HX1.out hd.below); have HB2 := AsideA.mk (below_step HB1.out hd.below); clear f0 hd; have f0 := (blk_cell HX2.out 0).trans rfl) | (go_at_call 32; refine (HA.out _ HB2.out).mono ?_; rintro e w3 ⟨rfl, hd⟩; have HX3 := AsideA.mk (blk_below HX2.out hd); have HB3 := AsideA.mk (below_step HB2.out hd); clear f0 hd; have f0 := (blk_cell HX3.out 0).trans rfl))
  go_ret2
  exact ⟨rfl, HB3.out⟩
set_option maxHeartbeats 1000000 in
theorem add_e4 (ad : Addr) (c0 : Nat) (l0 : List (List Int)) (a1 : Int) (w : World) (hr0 : Kd.C (Kd.slice 3 (Kd.int .i64)) w (some ad) l0.length l0) (h1 : 0 < l0.length) (hg : mix_width_good.f a1 = some true) (ht : mix_within.f (l0.length : Int) 1 8 = some true) (ha : l0.any longB = false) (hu : l0.any (unlikeB (l0.headD []).length) = true) :
    Calls Try.prog 16 #[.slice (some ad) l0.length c0, .int .i64 a1] w fun e w' => e = .returned (.tuple #[.slice none 0 0, .int .i64 8]) ∧ Below w.heap.size w w' := by
  have HG := AsideA.mk (fun W => mix_width_good.calls a1 true W hg)
  have HT := AsideA.mk (fun W => mix_within.calls (l0.length : Int) 1 8 true W ht)
  have HA := AsideA.mk (fun (W : World) (hW : Below w.heap.size w W) => by have h := any31 (some ad) c0 l0 W (Kd.C_below hr0 hW); rw [ha] at h; exact h)
  have HU := AsideA.mk (fun (b : Nat) (W : World) (hW : Below w.heap.size w W) (hb : W.cell? ⟨b, 0, none⟩ = some (.slice (some ad) l0.length c0)) => by have h := any32 ad c0 b l0 h1 W (Kd.C_below hr0 hW) hb; rw [hu] at h; exact h)
  clear hg ht ha hr0 hu
  generalize l0.length = n at *
  go_enter Try.func16, Try.ntmps16
  go_wp2_with (first | ((with_reducible refine gate_dst (N := 2) rfl ?_); refine box_event ?hg (N := 2) ?hd (cs := #[.slice (some ad) n c0]) (t := 38) ?hr ?_; (case hd => rfl); (case hg => rfl); (case hr => first | (go_simp; done) | (go_simp; rfl)); intro g1 hg1 wx hbox1 hb1; clear hg1; have HX0 := AsideA.mk hbox1; have HB0 := AsideA.mk hb1; have f0 := (blk_cell HX0.out 0).trans rfl; clear hbox1 hb1) | (go_at_call 24; refine (HG.out _).mono ?_; rintro e w1 ⟨rfl, hd⟩; have HX1 := AsideA.mk (blk_below HX0.out hd.below); have HB1 := AsideA.mk (below_step HB0.out hd.below); clear f0 hd; have f0 := (blk_cell HX1.out 0).trans rfl) | (go_at_call 31; refine (HT.out _).mono ?_; rintro e w2 ⟨rfl, hd⟩; have HX2 := AsideA.mk (blk_below HX1.out hd.below); have HB2 := AsideA.mk (below_step HB1.out hd.below); clear f0 hd; have f0 := (blk_cell HX2.out 0).trans rfl) | (go_at_call 32; refine (HA.out _ HB2.out).mono ?_; rintro e w3 ⟨rfl, hd⟩; have HX3 := AsideA.mk (blk_below HX2.out hd); have HB3 := AsideA.mk (below_step HB2.out hd); clear f0 hd; have f0 := (blk_cell HX3.out 0).trans rfl) | (go_at_call 32; refine (HU.out g1 _ HB3.out ((blk_cell HX3.out 0).trans rfl)).mono ?_; rintro e w4 ⟨rfl, hd⟩; have HX4 := AsideA.mk (blk_below HX3.out hd); have HB4 := AsideA.mk (below_step HB3.out hd); clear f0 hd; have f0 := (blk_cell HX4.out 0).trans rfl))
  go_ret2
  exact ⟨rfl, HB4.out⟩
theorem mix_Add.calls (k : Nat) (A0 : Option Addr) (c0 : Nat) (l0 : List (List Int)) (a1 : Int) (r1 : List Int) (r2 : Int) (w : World) (hr0 : Kd.C (Kd.slice 3 (Kd.int .i64)) w A0 l0.length l0) (hc0 : l0.length ≤ c0) (h : mix_Add.f k l0 a1 = some (r1, r2)) :
    Calls Try.prog 16 #[.slice A0 l0.length c0, .int .i64 a1] w fun e w' => ∃ v0_ : Value, e = .returned (.tuple #[v0_, .int .i64 r2]) ∧ Kd.R (Kd.int .i64) 3 w' w.heap.size (fun _ => True) v0_ r1 ∧ Below w.heap.size w w' := by
  have bad : ∀ {c : Int} {w0 : World}, (Calls Try.prog 16 #[.slice A0 l0.length c0, .int .i64 a1] w0 fun e w' => e = .returned (.tuple #[.slice none 0 0, .int .i64 c]) ∧ Below w0.heap.size w0 w') →
      Calls Try.prog 16 #[.slice A0 l0.length c0, .int .i64 a1] w0 fun e w' => ∃ v0_ : Value, e = .returned (.tuple #[v0_, .int .i64 c]) ∧ Kd.R (Kd.int .i64) 3 w' w0.heap.size (fun _ => True) v0_ [] ∧ Below w0.heap.size w0 w' :=
    fun h => h.mono (fun e w' hw => ⟨_, hw.1, Kd.R_nil _ _ _ _ _, hw.2⟩)
  unfold mix_Add.f at h
  obtain ⟨g, hg, h1⟩ := Option.bind_eq_some_iff.mp h
  obtain ⟨t, ht, h2⟩ := Option.bind_eq_some_iff.mp h1
  clear h h1
  cases g with
  | false =>
    rw [if_neg (by decide)] at ht
    obtain rfl := Option.some.inj ht
    rw [if_neg (by decide)] at h2
    injection h2 with h3
    injection h3 with h4 h5
    subst h4 h5
    exact bad (add_e1 A0 l0.length c0 a1 w hg)
  | true =>
    rw [if_pos rfl] at ht
    cases t with
    | false =>
      rw [if_neg (by decide)] at h2
      injection h2 with h3
      injection h3 with h4 h5
      subst h4 h5
      exact bad (add_e2 A0 l0.length c0 a1 w hg ht)
    | true =>
      rw [if_pos rfl] at h2
      have hn : 1 ≤ l0.length ∧ l0.length ≤ 8 := by
        unfold mix_within.f at ht
        split at ht
        · have := of_decide_eq_true (Option.some.inj ht)
          omega
        · cases ht
      cases ha : l0.any longB with
      | true =>
        rw [ha, if_pos rfl] at h2
        injection h2 with h3
        injection h3 with h4 h5
        subst h4 h5
        exact bad (add_e3 A0 c0 l0 a1 w hr0 hg ht ha)
      | false =>
        rw [ha, if_neg (by decide)] at h2
        obtain ⟨ad, rfl, _⟩ := hr0.2.2 (by omega)
        cases hu : l0.any (unlikeB (l0.headD []).length) with
        | true =>
          rw [hu, if_pos rfl] at h2
          injection h2 with h3
          injection h3 with h4 h5
          subst h4 h5
          exact bad (add_e4 ad c0 l0 a1 w hr0 (by omega) hg ht ha hu)
        | false =>
          rw [hu, if_neg (by decide)] at h2
          exact add_main k ad c0 l0 a1 r1 r2 w hr0 hc0 hg ht hn ha hu h2

end Go.Proofs.Ytnfhfmimeaeoiaa.HM
