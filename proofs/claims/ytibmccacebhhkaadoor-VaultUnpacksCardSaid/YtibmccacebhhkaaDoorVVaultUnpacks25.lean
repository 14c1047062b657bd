/- VaultUnpacks: what the claim's theorem reaches of this seat's texts, part 25, put together by this project's own program (bale.py); conditions: those of each theorem. -/
import Derived.Test.YtibmccacebhhkaaDoorVVaultUnpacks5
import Derived.Test.YtibmccacebhhkaaDoorVVaultUnpacks12
import Derived.Test.YtibmccacebhhkaaDoorVVaultUnpacks15
import Derived.Test.YtibmccacebhhkaaDoorVVaultUnpacks16
import Derived.Test.YtibmccacebhhkaaDoorVVaultUnpacks20
import Derived.Test.YtibmccacebhhkaaDoorVVaultUnpacks22
import Derived.Test.YtibmccacebhhkaaDoorVVaultUnpacks23
import Derived.Test.YtibmccacebhhkaaDoorVVaultUnpacks24
import Derived.Lib.BufferOwn
import Derived.LoopTactic
import Derived.OwnWalk
import Derived.Shelf.Abstract
namespace Go.Proofs.YtibmccacebhhkaaDoor.HV
open Go.RowKit Go.Proofs.YtibmccacebhhkaaDoorW.PrintWords Go.Proofs.YtibmccacebhhkaaDoorW.PrintLast Go.Proofs.YtibmccacebhhkaaDoorW.PrintMore
attribute [local go_sem] max2_int min2_int max_two min_two max_three min_three max_four min_four
set_option linter.unusedVariables false
set_option linter.unusedSimpArgs false
structure AsideVU (p : Prop) : Prop where mk :: (out : p)
set_option maxRecDepth 100000 in
set_option maxHeartbeats 2000000 in
theorem law25_unpacks.long (A : Option Addr) (n c : Nat) (w : World) (hG : GL w) (h : 2000 < n) :
    Calls Tryd.prog 5 #[.slice A n c] w fun e w' => e = .returned (.bool true) ∧ Below w.heap.size w w' := by
  have HAW := AsideVU.mk (fun (W : World) (hW : Below w.heap.size w W) => law25_awake.gives W (hG.of_below hW))
  have HB0 := AsideVU.mk (Below.refl w.heap.size w)
  have hi : (2000 : Int) < (n : Int) := by omega
  have hd : decide ((2000 : Int) < (n : Int)) = true := decide_eq_true hi
  have tok1 : True := trivial
  clear hG h
  go_enter Tryd.func5, Tryd.ntmps5
  go_wp2_with (first | (go_at_call 8; have _t := tok1; (with_reducible refine (HAW.out _ HB0.out).mono ?_); clear tok1 _t; rintro e w1 ⟨rfl, hb⟩; have HB1 := AsideVU.mk hb; clear hb) | (go_at_call 8; (with_reducible refine (HAW.out _ HB1.out).mono ?_); rintro e w2 ⟨rfl, hb⟩; have HB2 := AsideVU.mk (below_step HB1.out hb); clear hb))
  go_ret
  exact ⟨rfl, HB2.out⟩
theorem item_cells {w : World} {p t : Nat} {x y : Value} (h : w.heap[p]? = some (.cells #[x, y] t (0, 0))) : w.cell? ⟨p, 0, none⟩ = some x ∧ w.cell? ⟨p, 1, none⟩ = some y := by
  constructor <;> simp [World.cell?, h]
set_option maxRecDepth 100000 in
set_option maxHeartbeats 4000000 in
theorem law25_unpacks.main (A : Option Addr) (b : List Int) (n c : Nat) (w : World) (hG : GL w) (hc : n ≤ c) (hn : n ≤ 2000) (hR : Kd.C (Kd.int .u8) w A n b) (hby : ∀ x ∈ b, 0 ≤ x ∧ x < 256) :
    Calls Tryd.prog 5 #[.slice A n c] w fun e w' => e = .returned (.bool true) ∧ Below w.heap.size w w' := by
  have hbn : b.length = n := hR.1
  have hcs1 : ∀ l : List Int, (∀ x ∈ l, 0 ≤ x ∧ x < 256) → l.length ≤ n → toll_Sum.f 5000 l = some (csC l) ∧ 0 ≤ csC l ∧ csC l < 4294967296 := fun l hl hm => ⟨csC_toll l hl 5000 (by omega) (by omega), csC_range l hl⟩
  have hcs2 : ∀ l : List Int, (∀ x ∈ l, 0 ≤ x ∧ x < 256) → l.length ≤ n → sackbutref04_Sum.f 5000 l = some (csC l) ∧ 0 ≤ csC l ∧ csC l < 4294967296 := fun l hl hm => ⟨csC_ref l hl 5000 (by omega) (by omega), csC_range l hl⟩
  have hback := fun l h => VaultBack2.pack_unpack csC b hby l h
  obtain ⟨r, hr⟩ : ∃ r, VaultUnp.unpackV csC b = r := ⟨_, rfl⟩
  rw [hr] at hback
  obtain ⟨l, code⟩ := r
  have hlen : l.length ≤ 255 := VaultUnp.unpack_len csC b hby l code hr
  obtain ⟨j, hj⟩ : ∃ j, l.length = j := ⟨_, rfl⟩
  have HJ := AsideVU.mk hj
  have HAW := AsideVU.mk (fun (W : World) (hW : Below w.heap.size w W) => law25_awake.gives W (hG.of_below hW))
  have HUN : AsideVU (∀ (W : World) (A3 : Option Addr) (c3 : Nat), Below w.heap.size w W → n ≤ c3 → Kd.C (Kd.int .u8) W A3 n b → Calls Tryd.prog 17 #[.slice A3 n c3] W fun e w' => ∃ A5 c5, e = .returned (.tuple #[.slice A5 j c5, .int .i64 code]) ∧ Kd.S k49 49 w' W.heap.size (fun _ => True) (.slice A5 j c5) l ∧ Below W.heap.size W w') := by
    refine ⟨fun W A3 c3 hW h3 hC => ?_⟩
    refine (vault_unpack.gives 5000 csC A3 b n c3 W (hG.of_below hW) h3 (by omega) (by omega) hC hby hcs1).mono fun e w' h => ?_
    rw [hr] at h
    obtain ⟨v, he, hS, hb⟩ := h
    obtain ⟨A5, c5, ev⟩ := Kd.S_slice hS
    dsimp only at ev he hS
    rw [hj] at ev
    rw [ev] at hS
    exact ⟨A5, c5, by rw [he, ev], hS, hb⟩
  have HRU : AsideVU (∀ (W : World), Below w.heap.size w W → Calls Tryd.prog 20 #[.slice A n c] W fun e w' => ∃ A6 c6, e = .returned (.tuple #[.slice A6 j c6, .int .i64 code]) ∧ Kd.N k57 57 w' W.heap.size (fun k => k < w.heap.size ∨ W.heap.size ≤ k) (.slice A6 j c6) (l.map toI) ∧ Below W.heap.size W w') := by
    refine ⟨fun W hW => ?_⟩
    refine (ref_unpack.gives 5000 csC (fun k => k < w.heap.size) A b n c W (fun k hk => Nat.lt_of_lt_of_le hk hW.size) hc (by omega) (Kd.F_below (Kd.C_F (Kd.heap_int .u8) hR) hW) hby hcs2 (fun l hl hb => VaultNum.number_be l hl hb 5000 (by omega)) (fun s hs => VaultNum.right_named s hs 5000 (by omega))).mono fun e w' h => ?_
    rw [hr] at h
    obtain ⟨v, he, hN, hb⟩ := h
    obtain ⟨A6, c6, ev⟩ := Kd.N_slice hN
    dsimp only at ev he hN
    rw [List.length_map, hj] at ev
    rw [ev] at hN
    exact ⟨A6, c6, by rw [he, ev], hN, hb⟩
  have HREF : AsideVU (∀ (W : World) (A5 : Option Addr) (c5 b5 : Nat), Kd.S k49 49 W b5 (fun _ => True) (.slice A5 j c5) l → Calls Tryd.prog 14 #[.slice A5 j c5] W fun e w' => ∃ A2 c2, e = .returned (.slice A2 j c2) ∧ j ≤ c2 ∧ Kd.C k57 w' A2 j (l.map toI) ∧ Below W.heap.size W w') := by
    refine ⟨fun W A5 c5 b5 h => ?_⟩
    have h1 := law25_ref.gives 5000 _ A5 c5 l W (by omega) (by omega) (Kd.S_V (by rw [hj]; exact h))
    rwa [hj] at h1
  have HSM : AsideVU (∀ (W : World) (A8 : Option Addr) (c8 : Nat) (A9 : Option Addr) (c9 : Nat), j ≤ c8 → j ≤ c9 → Kd.C k57 W A8 j (l.map toI) → Kd.C k57 W A9 j (l.map toI) → Calls Tryd.prog 19 #[.slice A8 j c8, .slice A9 j c9] W fun e w' => e = .returned (.bool true) ∧ Below W.heap.size W w') := by
    refine ⟨fun W A8 c8 A9 c9 h8 h9 hC8 hC9 => ?_⟩
    have h := sackbutref25_Same.calls 5000 A8 c8 (l.map toI) A9 c9 (l.map toI) true W (by rw [List.length_map, hj]; exact hC8) (by rw [List.length_map, hj]; exact h8) (by rw [List.length_map, hj]; exact hC9) (by rw [List.length_map, hj]; exact h9) (VaultPk.same_spec _ (by rw [List.length_map]; omega) 5000 (by rw [List.length_map]; omega))
    rw [List.length_map, hj] at h
    exact h.mono fun e w' h => ⟨h.1, h.2.below⟩
  have HRP : AsideVU (code = 0 → ∀ (W : World) (A6 : Option Addr) (c6 : Nat), j ≤ c6 → Kd.C k57 W A6 j (l.map toI) → Calls Tryd.prog 18 #[.slice A6 j c6] W fun e w' => ∃ A7 c7, e = .returned (.slice A7 n c7) ∧ Kd.C (Kd.int .u8) w' A7 n b ∧ Below W.heap.size W w') := by
    refine ⟨fun hcode W A6 c6 h6 hC => ?_⟩
    subst hcode
    obtain ⟨hpb, hl100, hx⟩ := hback l rfl
    have hFl : (fstS csC l.length l).length ≤ n ∧ ∀ y ∈ fstS csC l.length l, 0 ≤ y ∧ y < 256 := by
      have h1 : packS csC l = fstS csC l.length l ++ (bigL (csC (fstS csC l.length l)) 4 ++ allS l) := rfl
      rw [hpb] at h1
      refine ⟨by rw [← hbn, h1, List.length_append]; omega, fun y hy => hby y (by rw [h1]; exact List.mem_append_left _ hy)⟩
    have hxb : ∀ x ∈ l, ∀ y ∈ x.f1, 0 ≤ y ∧ y < 256 := by
      intro x hxm y hy
      refine hby y ?_
      rw [← hpb]
      unfold packS allS
      exact List.mem_append_right _ (List.mem_append_right _ (List.mem_flatMap.2 ⟨x, hxm, hy⟩))
    have hxl : ∀ x ∈ l, x.f1.length ≤ n := fun x hxm => by have := (hx x hxm).2; omega
    have h := ref_pack.gives 5000 csC A6 c6 l W (by omega) (by rw [hj]; exact hC) hl100 (fun x hxm => (hx x hxm).1) (fun x hxm => by have := hxl x hxm; omega) (fun x hxm => ⟨(hcs2 x.f1 (hxb x hxm) (hxl x hxm)).1, (hcs2 x.f1 (hxb x hxm) (hxl x hxm)).2.1, (hcs2 x.f1 (hxb x hxm) (hxl x hxm)).2.2, VaultPk.ref_big3 _ (by omega) (by have := hxl x hxm; omega) 5000 (by omega), VaultPk.ref_big4 _ (hcs2 x.f1 (hxb x hxm) (hxl x hxm)).2.1 (hcs2 x.f1 (hxb x hxm) (hxl x hxm)).2.2 5000 (by omega)⟩) ⟨(hcs2 _ hFl.2 hFl.1).1, (hcs2 _ hFl.2 hFl.1).2.1, (hcs2 _ hFl.2 hFl.1).2.2, VaultPk.ref_big4 _ (hcs2 _ hFl.2 hFl.1).2.1 (hcs2 _ hFl.2 hFl.1).2.2 5000 (by omega)⟩
    rw [hj, hpb] at h
    refine h.mono fun e w' ⟨v, he, hr, hb⟩ => ?_
    obtain ⟨A7, c7, ev⟩ := Kd.R_slice hr
    rw [ev] at hr
    have hC7 := (Kd.R_reads' hr).2.2
    rw [hbn] at ev hC7
    exact ⟨A7, c7, by rw [he, ev], hC7, hb⟩
  have HB0 := AsideVU.mk (Below.refl w.heap.size w)
  have HR := AsideVU.mk hR
  have HBN := AsideVU.mk hbn
  have hj255 : j ≤ 255 := by omega
  have HCV := AsideVU.mk (fun (W : World) (A' : Option Addr) (c' : Nat) (h : Kd.C (Kd.int .u8) W A' n b) => Kd.C_string (P := Tryd.prog) (c := c') Tryd.underlying22 Tryd.underlying5 Tryd.underlying9 h)
  have hinfo : ((Tryd.prog).info? 5).map (fun i => (i.zero, i.size, i.bytes)) = some (some (.int .u8 0), 1, 1) := by kernel_rfl
  have HI := AsideVU.mk hinfo
  generalize strOfNums b = bs at HCV
  have hi : ¬ (2000 : Int) < (n : Int) := by omega
  have hd : decide ((2000 : Int) < (n : Int)) = false := decide_eq_false hi
  clear hG hR hby hcs1 hcs2 hback hr hlen hj hbn hinfo
  go_enter Tryd.func5, Tryd.ntmps5
  go_upto_region 4 with (first | (go_at_call 8; (with_reducible refine (HAW.out _ HB0.out).mono ?_); rintro e w1 ⟨rfl, hb⟩; have HB1 := AsideVU.mk hb; clear hb) | ((with_reducible refine gate_dst (N := 19) rfl ?_); refine Kd.R_lit (Kd.int .u8) _ 5 ?hg (N := 19) ?hd (xs := ([] : List Int)) (inner := []) (ok := fun _ => True) (okp := fun _ => True) ?hr ?hp (fun _ hk => hk) trivial (Below.refl _ _) (Nat.le_refl _) (by simp) ?_; (case hd => rfl); (case hg => rfl); (case hr => first | (go_simp; done) | (go_simp; rfl)); (case hp => exact Reps.none _ _); intro v2 w2 ho hb hg_ hnew_; clear hg_ hnew_; have HO2 := AsideVU.mk (Kd.R_lower ho HB1.out.size); have HB2 := AsideVU.mk (below_step HB1.out hb); clear ho hb) | (at_builtin; refine Kd.R_append_rows (Kd.int .u8) (w0 := w) w.heap.size rfl (.tmp 19) (.tmp 20) 22 5 (.int .u8 0) 1 rfl Tryd.underlying22 HI.out rfl (by decide) (by decide) v2 [] b A n c (fun _ => True) (fun _ => False) rfl rfl HO2.out (Kd.C_below HR.out HB2.out) (fun _ _ h => h) (fun _ hk => hk.elim) (fun _ _ => trivial) HB2.out HB2.out.size ?aL ?_; (case aL => simp; omega); intro v3 w3 ho hb hg hat; rw [List.nil_append] at ho; have HO3 := AsideVU.mk ho; have HB3 := AsideVU.mk hb; clear ho hb hg hat))
  obtain ⟨A3, c3, e3⟩ := Kd.R_slice HO3.out
  rw [HBN.out] at e3
  subst e3
  have hO3 := Kd.R_reads' HO3.out
  rw [HBN.out] at hO3
  have HC3 := AsideVU.mk hO3
  clear hO3
  have tok1 : True := trivial
  go_upto_region 8 with (first | (go_at_call 17; have _t := tok1; (with_reducible refine (HUN.out _ A3 c3 HB3.out HC3.out.2.1 HC3.out.2.2).mono ?_); clear tok1 _t; rintro e w4 ⟨A5, c5, rfl, hS, hb⟩; have HB4 := AsideVU.mk (below_step HB3.out hb); have HK4 := AsideVU.mk hb; have HS4 := AsideVU.mk (Kd.S_mono (ok' := fun k => w3.heap.size ≤ k ∧ k < w4.heap.size) (Kd.S_bound hS) (fun k hk => ⟨hk.2.1, hk.2.2.1⟩)); clear hS hb) | (go_at_call 20; (with_reducible refine (HRU.out _ HB4.out).mono ?_); rintro e w5 ⟨A6, c6, rfl, hN, hb⟩; have HB5 := AsideVU.mk (below_step HB4.out hb); have HK5 := AsideVU.mk (below_step HK4.out hb); have HS5 := AsideVU.mk (Kd.S_below HS4.out hb); have HN5 := AsideVU.mk hN; clear hN hb) | (go_at_call 14; (with_reducible refine (HREF.out _ A5 c5 w3.heap.size (Kd.S_mono HS5.out (fun _ _ => trivial))).mono ?_); rintro e w6 ⟨A8, c8, rfl, hc8, hC8, hb⟩; have HB6 := AsideVU.mk (below_step HB5.out hb); have HK6 := AsideVU.mk (below_step HK5.out hb); have HS6 := AsideVU.mk (Kd.S_below HS5.out hb); have HN6 := AsideVU.mk (Kd.N_below HN5.out hb); have HC8 := AsideVU.mk (And.intro hc8 hC8); clear hc8 hC8 hb) | (go_at_call 19; (with_reducible refine (HSM.out _ A8 c8 A6 c6 HC8.out.1 (Kd.N_reads' HN6.out).2.1 HC8.out.2 (by have h := Kd.N_reads' HN6.out; have h2 := h.2.2; rwa [← h.1] at h2)).mono ?_); rintro e w7 ⟨rfl, hb⟩; have HB7 := AsideVU.mk (below_step HB6.out hb); have HK7 := AsideVU.mk (below_step HK6.out hb); have HS7 := AsideVU.mk (Kd.S_below HS6.out hb); have HN7 := AsideVU.mk (Kd.N_below HN6.out hb); clear hb))
  have HSZ : AsideVU (w.heap.size ≤ w3.heap.size) := ⟨HB3.out.size⟩
  generalize w4.heap.size = g4 at HS7 HN7
  clear HAW HUN HRU HREF HSM HB1 HB2 HO2 HO3 HB4 HB5 HB6 HK4 HK5 HK6 HS4 HS5 HS6 HN5 HN6 HC8 HB0
  go_wp2_with (fail)
  go_loopw [44] (fun u wr => ∃ (i : Nat) (L : List S49), i ≤ j ∧ u = .int .i64 i ∧ AsideVU (Below w3.heap.size w3 wr ∧ Below w.heap.size w wr) ∧ AsideVU (L.length = j) ∧ AsideVU (Kd.S k49 49 wr w3.heap.size (fun k => w3.heap.size ≤ k ∧ k < g4) (.slice A5 j c5) L) ∧ AsideVU (Kd.N k57 57 wr g4 (fun k => k < w.heap.size ∨ g4 ≤ k) (.slice A6 j c6) (l.map toI))) (fun u _ => j - (intOf u).toNat)
  case atStart => exact ⟨0, l, Nat.zero_le _, rfl, ⟨HK7.out, HB7.out⟩, HJ, HS7, HN7⟩
  case round =>
    clear HS7 HN7 HK7 HB7
    obtain ⟨wo, hwo⟩ : ∃ wo, wo = wr := ⟨_, rfl⟩
    subst hwo
    obtain ⟨i, L, hij, rfl, HBr, HLr, HSr, HNr⟩ := hrel
    by_cases hlt : i < j
    · obtain ⟨ad, A1', c1', ea, _, _, _, _⟩ := at_T49 (Kd.S_reads' HSr.out).2.2 (i : Int) (by omega) (by rw [HLr.out]; omega)
      subst ea
      obtain ⟨oki, cl, hcl, hM, hcc, hoki, hbk⟩ := Kd.S_borrow HSr.out z49 (i : Int) (by omega) (by omega)
      obtain ⟨v1, rfl, hV1⟩ := k49_openM hM
      rw [Int.toNat_natCast] at hcc hV1 hbk
      have x0 : wo.cell? (ad.add (i * 2)) = some (.string (L.getD i z49).f0) := hcc 0 _ rfl
      have x1 : wo.cell? (ad.add (i * 2 + 1)) = some v1 := hcc 1 _ rfl
      rw [add_field _ _ 1 (by omega)] at x1
      obtain ⟨nx, hnx⟩ : ∃ nx, (L.getD i z49).f1.length = nx := ⟨_, rfl⟩
      obtain ⟨A1, c1, e1⟩ := Kd.R_slice hV1
      rw [hnx] at e1
      subst e1
      have HV0 := AsideVU.mk hV1
      have hnxm : nx ≤ 9223372036854775807 := by have h := (Kd.R_reads' hV1).2.2.2.1; omega
      have HNX := AsideVU.mk hnx
      have HBK := AsideVU.mk (fun (wi : World) (ys : List Int) (hg : wo.grownBy wi (Value.slice A1 nx c1).ownBlock) (hr : Kd.R (Kd.int .u8) 5 wi w3.heap.size oki (.slice A1 nx c1) ys) => hbk (x' := (⟨(L.getD i z49).f0, ys⟩ : S49)) hg (fun k hk => hr.1 k hk) (k49_mkM _ _ _ (⟨(L.getD i z49).f0, ys⟩ : S49) hr))
      have HOK := AsideVU.mk hoki
      generalize (L.getD i z49).f0 = nm at x0 HBK
      generalize (L.getD i z49).f1 = xs at HV0 HNX
      clear hcc hM hcl hoki hbk hV1 hnx
      have hi0 : (0 : Int) ≤ (i : Int) := by omega
      have hi1 : (i : Int) < (j : Int) := by omega
      have HAL := AsideVU.mk (below_alloc (Below.refl wo.heap.size wo) (.cells #[.string nm, .slice A1 nx c1] 49 (0, 0)))
      have HBL := AsideVU.mk (blk_new wo (.cells #[.string nm, .slice A1 nx c1] 49 (0, 0)))
      go_wp2_with (fail)
      generalize wo.alloc (.cells #[.string nm, .slice A1 nx c1] 49 (0, 0)) = W1 at *
      obtain ⟨gb, hgb⟩ : ∃ gb, wo.heap.size = gb := ⟨_, rfl⟩
      have HGB := AsideVU.mk hgb
      rw [hgb] at HBL ⊢
      clear hgb
      have HG1 := AsideVU.mk (grown_of_below HAL.out (Value.slice A1 nx c1).ownBlock)
      have HV1 := AsideVU.mk (Kd.R_below HV0.out HAL.out)
      have hne : some gb ≠ (Value.slice A1 nx c1).ownBlock := fun e => by have := Kd.R_lt HV0.out gb e.symm; rw [HGB.out] at this; omega
      have HNE := AsideVU.mk hne
      clear hne x0 x1 HAL
      go_loopw [51] (fun u wi => ∃ (t : Nat) (ys : List Int), t ≤ nx ∧ u = .int .i64 t ∧ AsideVU (ys.length = nx) ∧ AsideVU (wo.grownBy wi (Value.slice A1 nx c1).ownBlock) ∧ AsideVU (Kd.R (Kd.int .u8) 5 wi w3.heap.size oki (.slice A1 nx c1) ys) ∧ AsideVU (wi.heap[gb]? = some (.cells #[.string nm, .slice A1 nx c1] 49 (0, 0)))) (fun u _ => nx - (intOf u).toNat)
      case atStart => exact ⟨0, xs, Nat.zero_le _, rfl, HNX, HG1, HV1, HBL⟩
      case round =>
        clear HG1 HV1 HBL HV0 HNX
        obtain ⟨t, ys, ht, rfl, HLY, HGi, HVi, HBi⟩ := hrel
        have HBW := AsideVU.mk (pw_below_grown HBr.out.1 _ HBr.out.1.size HGi.out (fun k hk => Kd.R_base HVi.out k hk))
        by_cases hlt2 : t < nx
        · obtain ⟨ad1, e1, hcell⟩ := Kd.at_int (Kd.R_reads' HVi.out).2.2 (t : Int) (by omega) (by rw [HLY.out]; omega)
          obtain ⟨g1, cap1, e2, _, _, _⟩ := Kd.R_form HVi.out (by rw [HLY.out]; omega)
          injection e2 with e2 _ e2c
          subst e2
          subst e2c
          obtain rfl : (⟨g1, 0, none⟩ : Addr) = ad1 := by injection e1
          rw [Int.toNat_natCast] at hcell
          obtain ⟨f0, f1⟩ := item_cells HBi.out
          clear e1
          generalize rd ys (t : Int) = y at hcell
          have ti0 : (0 : Int) ≤ (t : Int) := by omega
          have ti1 : (t : Int) < (nx : Int) := by omega
          have hrow : (Value.slice (some ⟨g1, 0, none⟩) nx c1).ownBlock = some g1 := by simp [Value.ownBlock]
          have HROW := AsideVU.mk hrow
          have hadd : (⟨g1, 0, none⟩ : Addr).add t = ⟨g1, t, none⟩ := by
            simp only [Addr.add, Nat.zero_add]
            split
            · next h0 => rw [h0]
            · rfl
          have hcell' : wr.cell? ⟨g1, t, none⟩ = some (.int .u8 y) := by rw [← hadd]; exact hcell
          have HADD := AsideVU.mk hadd
          clear hadd
          have HCL := AsideVU.mk hcell'
          clear hrow hcell'
          go_wp2_with ((with_reducible refine gate_store (t := 5) (p := 57) rfl ?_); refine Kd.R_store (Kd.int .u8) (w0 := w3) w3.heap.size rfl rfl 5 (.tmp 57) (.const (.int .u8 7)) rfl 5 (o' := t) (t : Int) 0 ys 7 (.int .u8 7) [.int .u8 7] [.int .u8 y] oki (fun _ => False) ?ad ?of rfl rfl ?inf ?one HVi.out ti0 ti1 rfl ?cc (by decide) ?mm (fun _ h => h.elim) HBW.out ?_; (case ad => first | rfl | (show Value.pointer (some ((⟨g1, 0, none⟩ : Addr).add t)) = _; rw [HADD.out])); (case of => show t = (t : Int).toNat * 1 + 0; omega); (case inf => kernel_rfl); (case one => intro q hq; simp at hq; subst hq; rfl); (case cc => intro jj u hu; cases jj with | zero => (injection hu with hu; subst hu; show wr.cell? ⟨g1, (t : Int).toNat * 1 + 0, none⟩ = _; rw [Int.toNat_natCast, Nat.mul_one, Nat.add_zero]; exact HCL.out) | succ jj => simp at hu); (case mm => exact (show Kd.M (Kd.int .u8) _ _ _ 7 [.int .u8 7] from rfl)); intro w9 ho hb hg; have HV9 := AsideVU.mk ho; have HG9 := AsideVU.mk (World.grownBy.trans HGi.out (by rw [HROW.out]; exact hg)); have HB9 := AsideVU.mk (blk_grown HBi.out hg (by have h := HNE.out; rwa [HROW.out] at h)); clear ho hb hg)
          go_roundw
          case rel => exact ⟨t + 1, _, by omega, by go_num, ⟨by rw [List.length_set]; exact HLY.out⟩, HG9, HV9, HB9⟩
          case measure => simp [intOf]; omega
        · obtain rfl : t = nx := by omega
          have HSn := AsideVU.mk (HBK.out wr ys HGi.out HVi.out)
          have HB2 := AsideVU.mk (pw_below_grown HBr.out.2 _ HBr.out.2.size HGi.out (fun k hk => Nat.le_trans HSZ.out (Kd.R_base HVi.out k hk)))
          have HN2 := AsideVU.mk (Kd.N_grown HNr.out HGi.out (fun k hk e => by have h1 := (HOK.out k (HVi.out.1 k e.symm)).1; have h2 := HSZ.out; omega))
          clear hlt2 ht
          go_wp2_with (fail)
          exact ⟨⟨i + 1, L.set i ⟨nm, ys⟩, by omega, by go_num, ⟨HBW.out, HB2.out⟩, ⟨by rw [List.length_set]; exact HLr.out⟩, HSn, HN2⟩, by simp [intOf]; omega⟩
    · obtain rfl : j = i := by omega
      have HA17 := AsideVU.mk (below_drew HBr.out.1)
      have HB17 := AsideVU.mk (below_drew HBr.out.2)
      have hN := Kd.N_reads' (Kd.N_drew HNr.out)
      have hCN := hN.2.2
      rw [← hN.1] at hCN
      have HC17 := AsideVU.mk hCN
      have HC6 := AsideVU.mk hN.2.1
      have hcvA := HCV.out _ A3 c3 (Kd.C_below HC3.out.2.2 HA17.out)
      have hcvB := HCV.out _ A c (Kd.C_below HR.out HB17.out)
      have hq : (bs.toList == bs.toList) = true := beq_self_eq_true _
      clear hN hCN HBr HLr HSr HNr hlt hij HI
      by_cases hcode : code = 0
      · subst hcode
        go_upto_region 17 with (fail)
        refine start_ (n := 18) (S := fun w' => (convert 22 9 (.slice A3 n c3)).run Tryd.prog w' = .ok (.string bs) w' ∧ (convert 22 9 (.slice A n c)).run Tryd.prog w' = .ok (.string bs) w' ∧ AsideVU (Below w3.heap.size w3 w') ∧ AsideVU (Below w.heap.size w w') ∧ AsideVU (Kd.C k57 w' A6 j (l.map toI))) (ds := []) #[false, false, false, false, false, false, false, false, false, false, false, false, false, false, false, false, false, false] (by kernel_rfl) rfl rfl ⟨hcvA, hcvB, HA17, HB17, HC17⟩ (fun hHeld => ?_)
        refine pure_ (i := 0) (N := some 60) (v := ?_) (a' := ?_) #[true, false, false, false, false, false, false, false, false, false, false, false, false, false, false, false, false, false] rfl rfl (by kernel_rfl) (fun _ _ _ h => h) (Or.inl ⟨by rfl, ?_⟩) ?_ ?_
        rotate_left
        · intro w'
          go_simp
          with_reducible rfl
        rotate_left
        · simp only [Act.put, List.setIfInBounds_toArray, List.set_cons_zero, List.set_cons_succ, i64_w, i32_w]
          rfl
        refine pure_ (i := 2) (N := some 62) (v := ?_) (a' := ?_) #[true, false, true, false, false, false, false, false, false, false, false, false, false, false, false, false, false, false] rfl rfl (by kernel_rfl) (fun _ _ _ h => h) (Or.inl ⟨by rfl, ?_⟩) ?_ ?_
        rotate_left
        · intro w'
          go_simp
          with_reducible rfl
        rotate_left
        · simp only [Act.put, List.setIfInBounds_toArray, List.set_cons_zero, List.set_cons_succ, i64_w, i32_w]
          rfl
        refine take_ (i := 1) (N := some 61) (v := ?_) (a' := ?_) #[true, true, true, false, false, false, false, false, false, false, false, false, false, false, false, false, false, false] rfl rfl (by kernel_rfl) (fun _ _ _ h => h) (Or.inl ⟨by rfl, ?_⟩) hHeld ?_ ?_
        rotate_left
        · rintro w' ⟨s0, s1, s2, s3, s4⟩
          go_simp
          with_reducible rfl
        rotate_left
        · simp only [Act.put, List.setIfInBounds_toArray, List.set_cons_zero, List.set_cons_succ, i64_w, i32_w]
          rfl
        refine take_ (i := 3) (N := some 63) (v := ?_) (a' := ?_) #[true, true, true, true, false, false, false, false, false, false, false, false, false, false, false, false, false, false] rfl rfl (by kernel_rfl) (fun _ _ _ h => h) (Or.inl ⟨by rfl, ?_⟩) hHeld ?_ ?_
        rotate_left
        · rintro w' ⟨s0, s1, s2, s3, s4⟩
          go_simp
          with_reducible rfl
        rotate_left
        · simp only [Act.put, List.setIfInBounds_toArray, List.set_cons_zero, List.set_cons_succ, i64_w, i32_w]
          rfl
        refine pure_ (i := 4) (N := some 64) (v := ?_) (a' := ?_) #[true, true, true, true, true, false, false, false, false, false, false, false, false, false, false, false, false, false] rfl rfl (by kernel_rfl) (fun _ _ _ h => h) (Or.inl ⟨by rfl, ?_⟩) ?_ ?_
        rotate_left
        · intro w'
          go_simp
          with_reducible rfl
        rotate_left
        · simp only [Act.put, List.setIfInBounds_toArray, List.set_cons_zero, List.set_cons_succ, i64_w, i32_w]
          rfl
        refine pure_ (i := 5) (N := some 65) (v := ?_) (a' := ?_) #[true, true, true, true, true, true, false, false, false, false, false, false, false, false, false, false, false, false] rfl rfl (by kernel_rfl) (fun _ _ _ h => h) (Or.inl ⟨by rfl, ?_⟩) ?_ ?_
        rotate_left
        · intro w'
          go_simp
          with_reducible rfl
        rotate_left
        · simp only [Act.put, List.setIfInBounds_toArray, List.set_cons_zero, List.set_cons_succ, i64_w, i32_w]
          rfl
        refine pure_ (i := 6) (N := some 66) (v := ?_) (a' := ?_) #[true, true, true, true, true, true, true, false, false, false, false, false, false, false, false, false, false, false] rfl rfl (by kernel_rfl) (fun _ _ _ h => h) (Or.inl ⟨by rfl, ?_⟩) ?_ ?_
        rotate_left
        · intro w'
          go_simp
          with_reducible rfl
        rotate_left
        · simp only [Act.put, List.setIfInBounds_toArray, List.set_cons_zero, List.set_cons_succ, i64_w, i32_w]
          rfl
        refine pure_ (i := 7) (N := some 67) (v := ?_) (a' := ?_) #[true, true, true, true, true, true, true, true, false, false, false, false, false, false, false, false, false, false] rfl rfl (by kernel_rfl) (fun _ _ _ h => h) (Or.inl ⟨by rfl, ?_⟩) ?_ ?_
        rotate_left
        · intro w'
          go_simp
          with_reducible rfl
        rotate_left
        · simp only [Act.put, List.setIfInBounds_toArray, List.set_cons_zero, List.set_cons_succ, i64_w, i32_w]
          rfl
        refine pure_ (i := 8) (N := some 68) (v := ?_) (a' := ?_) #[true, true, true, true, true, true, true, true, true, false, false, false, false, false, false, false, false, false] rfl rfl (by kernel_rfl) (fun _ _ _ h => h) (Or.inl ⟨by rfl, ?_⟩) ?_ ?_
        rotate_left
        · intro w'
          go_simp
          with_reducible rfl
        rotate_left
        · simp only [Act.put, List.setIfInBounds_toArray, List.set_cons_zero, List.set_cons_succ, i64_w, i32_w]
          rfl
        refine pure_ (i := 9) (N := some 69) (v := ?_) (a' := ?_) #[true, true, true, true, true, true, true, true, true, true, false, false, false, false, false, false, false, false] rfl rfl (by kernel_rfl) (fun _ _ _ h => h) (Or.inl ⟨by rfl, ?_⟩) ?_ ?_
        rotate_left
        · intro w'
          go_simp
          with_reducible rfl
        rotate_left
        · simp only [Act.put, List.setIfInBounds_toArray, List.set_cons_zero, List.set_cons_succ, i64_w, i32_w]
          rfl
        refine pure_ (i := 12) (N := some 72) (v := ?_) (a' := ?_) #[true, true, true, true, true, true, true, true, true, true, false, false, true, false, false, false, false, false] rfl rfl (by kernel_rfl) (fun _ _ _ h => h) (Or.inl ⟨by rfl, ?_⟩) ?_ ?_
        rotate_left
        · intro w'
          go_simp
          with_reducible rfl
        rotate_left
        · simp only [Act.put, List.setIfInBounds_toArray, List.set_cons_zero, List.set_cons_succ, i64_w, i32_w]
          rfl
        refine take_ (i := 13) (N := some 73) (v := ?_) (a' := ?_) #[true, true, true, true, true, true, true, true, true, true, false, false, true, true, false, false, false, false] rfl rfl (by kernel_rfl) (fun _ _ _ h => h) (Or.inl ⟨by rfl, ?_⟩) hHeld ?_ ?_
        rotate_left
        · rintro w' ⟨s0, s1, s2, s3, s4⟩
          go_simp
          with_reducible rfl
        rotate_left
        · simp only [Act.put, List.setIfInBounds_toArray, List.set_cons_zero, List.set_cons_succ, i64_w, i32_w]
          rfl
        refine one_ (i := 10) (N := some 70) #[true, true, true, true, true, true, true, true, true, true, true, false, true, true, false, false, false, false] rfl rfl (by kernel_rfl) (by decide) (fun K hK => ?_)
        refine goes_ Tryd.func18 (by kernel_rfl) rfl #[.slice A6 j c6] (by rfl) rfl rfl (by simp only [List.map_toArray, List.map_cons, List.map_nil]; rfl) ?_
        with_reducible refine (HRP.out rfl _ A6 c6 HC6.out hHeld.2.2.2.2.out).mono ?_
        rintro e w20 ⟨A7, c7, rfl, hC7, hb⟩
        refine ⟨_, rfl, ?_⟩
        have hcv20 := HCV.out _ A7 c7 hC7
        clear hC7
        refine hK.out _ _ ⟨HCV.out _ A3 c3 (Kd.C_below HC3.out.2.2 (below_step hHeld.2.2.1.out hb)), HCV.out _ A c (Kd.C_below HR.out (below_step hHeld.2.2.2.1.out hb)), ⟨below_step hHeld.2.2.1.out hb⟩, ⟨below_step hHeld.2.2.2.1.out hb⟩, ⟨Kd.C_below hHeld.2.2.2.2.out hb⟩⟩ (fun hHeld => ?_)
        clear hK K
        refine norm_ (a' := ?_) ?_ ?_
        rotate_left
        · show Act.put _ (some 70) _ = _
          simp only [Act.put, List.setIfInBounds_toArray, List.set_cons_zero, List.set_cons_succ, i64_w, i32_w]
          rfl
        refine one_ (i := 11) (N := some 71) #[true, true, true, true, true, true, true, true, true, true, true, true, true, true, false, false, false, false] rfl rfl (by kernel_rfl) (by decide) (fun K hK => ?_)
        refine value_ (w1 := ?_) (v := ?_) (by rfl) rfl ?_ ?_
        rotate_left 2
        · go_simp
          constructor
          · rfl
          · rfl
        refine hK.out _ _ ⟨hHeld.1, hHeld.2.1, hHeld.2.2.1, hHeld.2.2.2.1, hHeld.2.2.2.2⟩ (fun hHeld => ?_)
        clear hK K
        refine norm_ (a' := ?_) ?_ ?_
        rotate_left
        · show Act.put _ (some 71) _ = _
          simp only [Act.put, List.setIfInBounds_toArray, List.set_cons_zero, List.set_cons_succ, i64_w, i32_w]
          rfl
        refine pure_ (i := 14) (N := some 74) (v := ?_) (a' := ?_) #[true, true, true, true, true, true, true, true, true, true, true, true, true, true, true, false, false, false] rfl rfl (by kernel_rfl) (fun _ _ _ h => h) (Or.inl ⟨by rfl, ?_⟩) ?_ ?_
        rotate_left
        · intro w'
          go_simp
          with_reducible rfl
        rotate_left
        · simp only [Act.put, List.setIfInBounds_toArray, List.set_cons_zero, List.set_cons_succ, i64_w, i32_w]
          rfl
        refine pure_ (i := 15) (N := some 75) (v := ?_) (a' := ?_) #[true, true, true, true, true, true, true, true, true, true, true, true, true, true, true, true, false, false] rfl rfl (by kernel_rfl) (fun _ _ _ h => h) (Or.inl ⟨by rfl, ?_⟩) ?_ ?_
        rotate_left
        · intro w'
          go_simp
          with_reducible rfl
        rotate_left
        · simp only [Act.put, List.setIfInBounds_toArray, List.set_cons_zero, List.set_cons_succ, i64_w, i32_w]
          rfl
        refine pure_ (i := 16) (N := some 76) (v := ?_) (a' := ?_) #[true, true, true, true, true, true, true, true, true, true, true, true, true, true, true, true, true, false] rfl rfl (by kernel_rfl) (fun _ _ _ h => h) (Or.inl ⟨by rfl, ?_⟩) ?_ ?_
        rotate_left
        · intro w'
          go_simp
          with_reducible rfl
        rotate_left
        · simp only [Act.put, List.setIfInBounds_toArray, List.set_cons_zero, List.set_cons_succ, i64_w, i32_w]
          rfl
        refine pure_ (i := 17) (N := some 2) (v := ?_) (a' := ?_) #[true, true, true, true, true, true, true, true, true, true, true, true, true, true, true, true, true, true] rfl rfl (by kernel_rfl) (fun _ _ _ h => h) (Or.inl ⟨by rfl, ?_⟩) ?_ ?_
        rotate_left
        · intro w'
          go_simp
          with_reducible rfl
        rotate_left
        · simp only [Act.put, List.setIfInBounds_toArray, List.set_cons_zero, List.set_cons_succ, i64_w, i32_w]
          rfl
        refine done_ (by kernel_rfl) ?_
        go_wp2_with (fail)
        go_ret
        exact ⟨rfl, hHeld.2.2.2.1.out⟩
      · have hne : (code != 0) = true := bne_iff_ne.mpr hcode
        have hne2 : (code == 0) = false := beq_eq_false_iff_ne.mpr hcode
        clear hcode HRP
        go_upto_region 17 with (fail)
        refine start_ (n := 18) (S := fun w' => (convert 22 9 (.slice A3 n c3)).run Tryd.prog w' = .ok (.string bs) w' ∧ (convert 22 9 (.slice A n c)).run Tryd.prog w' = .ok (.string bs) w' ∧ AsideVU (Below w3.heap.size w3 w') ∧ AsideVU (Below w.heap.size w w') ∧ AsideVU (Kd.C k57 w' A6 j (l.map toI))) (ds := []) #[false, false, false, false, false, false, false, false, false, false, false, false, false, false, false, false, false, false] (by kernel_rfl) rfl rfl ⟨hcvA, hcvB, HA17, HB17, HC17⟩ (fun hHeld => ?_)
        refine pure_ (i := 0) (N := some 60) (v := ?_) (a' := ?_) #[true, false, false, false, false, false, false, false, false, false, false, false, false, false, false, false, false, false] rfl rfl (by kernel_rfl) (fun _ _ _ h => h) (Or.inl ⟨by rfl, ?_⟩) ?_ ?_
        rotate_left
        · intro w'
          go_simp
          with_reducible rfl
        rotate_left
        · simp only [Act.put, List.setIfInBounds_toArray, List.set_cons_zero, List.set_cons_succ, i64_w, i32_w]
          rfl
        refine pure_ (i := 2) (N := some 62) (v := ?_) (a' := ?_) #[true, false, true, false, false, false, false, false, false, false, false, false, false, false, false, false, false, false] rfl rfl (by kernel_rfl) (fun _ _ _ h => h) (Or.inl ⟨by rfl, ?_⟩) ?_ ?_
        rotate_left
        · intro w'
          go_simp
          with_reducible rfl
        rotate_left
        · simp only [Act.put, List.setIfInBounds_toArray, List.set_cons_zero, List.set_cons_succ, i64_w, i32_w]
          rfl
        refine take_ (i := 1) (N := some 61) (v := ?_) (a' := ?_) #[true, true, true, false, false, false, false, false, false, false, false, false, false, false, false, false, false, false] rfl rfl (by kernel_rfl) (fun _ _ _ h => h) (Or.inl ⟨by rfl, ?_⟩) hHeld ?_ ?_
        rotate_left
        · rintro w' ⟨s0, s1, s2, s3, s4⟩
          go_simp
          with_reducible rfl
        rotate_left
        · simp only [Act.put, List.setIfInBounds_toArray, List.set_cons_zero, List.set_cons_succ, i64_w, i32_w]
          rfl
        refine take_ (i := 3) (N := some 63) (v := ?_) (a' := ?_) #[true, true, true, true, false, false, false, false, false, false, false, false, false, false, false, false, false, false] rfl rfl (by kernel_rfl) (fun _ _ _ h => h) (Or.inl ⟨by rfl, ?_⟩) hHeld ?_ ?_
        rotate_left
        · rintro w' ⟨s0, s1, s2, s3, s4⟩
          go_simp
          with_reducible rfl
        rotate_left
        · simp only [Act.put, List.setIfInBounds_toArray, List.set_cons_zero, List.set_cons_succ, i64_w, i32_w]
          rfl
        refine pure_ (i := 4) (N := some 64) (v := ?_) (a' := ?_) #[true, true, true, true, true, false, false, false, false, false, false, false, false, false, false, false, false, false] rfl rfl (by kernel_rfl) (fun _ _ _ h => h) (Or.inl ⟨by rfl, ?_⟩) ?_ ?_
        rotate_left
        · intro w'
          go_simp
          with_reducible rfl
        rotate_left
        · simp only [Act.put, List.setIfInBounds_toArray, List.set_cons_zero, List.set_cons_succ, i64_w, i32_w]
          rfl
        refine pure_ (i := 5) (N := some 65) (v := ?_) (a' := ?_) #[true, true, true, true, true, true, false, false, false, false, false, false, false, false, false, false, false, false] rfl rfl (by kernel_rfl) (fun _ _ _ h => h) (Or.inl ⟨by rfl, ?_⟩) ?_ ?_
        rotate_left
        · intro w'
          go_simp
          with_reducible rfl
        rotate_left
        · simp only [Act.put, List.setIfInBounds_toArray, List.set_cons_zero, List.set_cons_succ, i64_w, i32_w]
          rfl
        refine pure_ (i := 6) (N := some 66) (v := ?_) (a' := ?_) #[true, true, true, true, true, true, true, false, false, false, false, false, false, false, false, false, false, false] rfl rfl (by kernel_rfl) (fun _ _ _ h => h) (Or.inl ⟨by rfl, ?_⟩) ?_ ?_
        rotate_left
        · intro w'
          go_simp
          with_reducible rfl
        rotate_left
        · simp only [Act.put, List.setIfInBounds_toArray, List.set_cons_zero, List.set_cons_succ, i64_w, i32_w]
          rfl
        refine pure_ (i := 7) (N := some 67) (v := ?_) (a' := ?_) #[true, true, true, true, true, true, true, true, false, false, false, false, false, false, false, false, false, false] rfl rfl (by kernel_rfl) (fun _ _ _ h => h) (Or.inl ⟨by rfl, ?_⟩) ?_ ?_
        rotate_left
        · intro w'
          go_simp
          with_reducible rfl
        rotate_left
        · simp only [Act.put, List.setIfInBounds_toArray, List.set_cons_zero, List.set_cons_succ, i64_w, i32_w]
          rfl
        refine pure_ (i := 8) (N := some 68) (v := ?_) (a' := ?_) #[true, true, true, true, true, true, true, true, true, false, false, false, false, false, false, false, false, false] rfl rfl (by kernel_rfl) (fun _ _ _ h => h) (Or.inl ⟨by rfl, ?_⟩) ?_ ?_
        rotate_left
        · intro w'
          go_simp
          with_reducible rfl
        rotate_left
        · simp only [Act.put, List.setIfInBounds_toArray, List.set_cons_zero, List.set_cons_succ, i64_w, i32_w]
          rfl
        refine pure_ (i := 9) (N := some 69) (v := undef) (a' := ?_) #[true, true, true, true, true, true, true, true, true, true, false, false, false, false, false, false, false, false] rfl rfl (by kernel_rfl) (fun _ _ _ h => h) (Or.inr ⟨by rfl, rfl⟩) ?_ ?_
        rotate_left
        · simp only [Act.put, List.setIfInBounds_toArray, List.set_cons_zero, List.set_cons_succ, i64_w, i32_w]
          rfl
        refine pure_ (i := 10) (N := some 70) (v := undef) (a' := ?_) #[true, true, true, true, true, true, true, true, true, true, true, false, false, false, false, false, false, false] rfl rfl (by kernel_rfl) (fun _ _ _ h => h) (Or.inr ⟨by rfl, rfl⟩) ?_ ?_
        rotate_left
        · simp only [Act.put, List.setIfInBounds_toArray, List.set_cons_zero, List.set_cons_succ, i64_w, i32_w]
          rfl
        refine pure_ (i := 11) (N := some 71) (v := undef) (a' := ?_) #[true, true, true, true, true, true, true, true, true, true, true, true, false, false, false, false, false, false] rfl rfl (by kernel_rfl) (fun _ _ _ h => h) (Or.inr ⟨by rfl, rfl⟩) ?_ ?_
        rotate_left
        · simp only [Act.put, List.setIfInBounds_toArray, List.set_cons_zero, List.set_cons_succ, i64_w, i32_w]
          rfl
        refine pure_ (i := 12) (N := some 72) (v := undef) (a' := ?_) #[true, true, true, true, true, true, true, true, true, true, true, true, true, false, false, false, false, false] rfl rfl (by kernel_rfl) (fun _ _ _ h => h) (Or.inr ⟨by rfl, rfl⟩) ?_ ?_
        rotate_left
        · simp only [Act.put, List.setIfInBounds_toArray, List.set_cons_zero, List.set_cons_succ, i64_w, i32_w]
          rfl
        refine pure_ (i := 13) (N := some 73) (v := undef) (a' := ?_) #[true, true, true, true, true, true, true, true, true, true, true, true, true, true, false, false, false, false] rfl rfl (by kernel_rfl) (fun _ _ _ h => h) (Or.inr ⟨by rfl, rfl⟩) ?_ ?_
        rotate_left
        · simp only [Act.put, List.setIfInBounds_toArray, List.set_cons_zero, List.set_cons_succ, i64_w, i32_w]
          rfl
        refine pure_ (i := 14) (N := some 74) (v := undef) (a' := ?_) #[true, true, true, true, true, true, true, true, true, true, true, true, true, true, true, false, false, false] rfl rfl (by kernel_rfl) (fun _ _ _ h => h) (Or.inr ⟨by rfl, rfl⟩) ?_ ?_
        rotate_left
        · simp only [Act.put, List.setIfInBounds_toArray, List.set_cons_zero, List.set_cons_succ, i64_w, i32_w]
          rfl
        refine pure_ (i := 15) (N := some 75) (v := ?_) (a' := ?_) #[true, true, true, true, true, true, true, true, true, true, true, true, true, true, true, true, false, false] rfl rfl (by kernel_rfl) (fun _ _ _ h => h) (Or.inl ⟨by rfl, ?_⟩) ?_ ?_
        rotate_left
        · intro w'
          go_simp
          with_reducible rfl
        rotate_left
        · simp only [Act.put, List.setIfInBounds_toArray, List.set_cons_zero, List.set_cons_succ, i64_w, i32_w]
          rfl
        refine pure_ (i := 16) (N := some 76) (v := ?_) (a' := ?_) #[true, true, true, true, true, true, true, true, true, true, true, true, true, true, true, true, true, false] rfl rfl (by kernel_rfl) (fun _ _ _ h => h) (Or.inl ⟨by rfl, ?_⟩) ?_ ?_
        rotate_left
        · intro w'
          go_simp
          with_reducible rfl
        rotate_left
        · simp only [Act.put, List.setIfInBounds_toArray, List.set_cons_zero, List.set_cons_succ, i64_w, i32_w]
          rfl
        refine pure_ (i := 17) (N := some 2) (v := ?_) (a' := ?_) #[true, true, true, true, true, true, true, true, true, true, true, true, true, true, true, true, true, true] rfl rfl (by kernel_rfl) (fun _ _ _ h => h) (Or.inl ⟨by rfl, ?_⟩) ?_ ?_
        rotate_left
        · intro w'
          go_simp
          with_reducible rfl
        rotate_left
        · simp only [Act.put, List.setIfInBounds_toArray, List.set_cons_zero, List.set_cons_succ, i64_w, i32_w]
          rfl
        refine done_ (by kernel_rfl) ?_
        go_wp2_with (fail)
        go_ret
        exact ⟨rfl, hHeld.2.2.2.1.out⟩
/-- The law, for the rows: true at every list of bytes. -/
def sackbutlaw25_VaultUnpacks.f (l0 : List Int) : Option Bool := if l0.all (fun x => decide (0 ≤ x ∧ x < 256)) = true then some true else none
theorem sackbutlaw25_VaultUnpacks.calls (A0 : Option Addr) (c0 : Nat) (l0 : List Int) (r : Bool) (w : World) (hr0 : Kd.C (Kd.int .u8) w A0 l0.length l0) (hc0 : l0.length ≤ c0) (hG : GL w) (h : sackbutlaw25_VaultUnpacks.f l0 = some r) :
    Calls Tryd.prog 5 #[.slice A0 l0.length c0] w fun e w' => e = .returned (.bool r) ∧ Below w.heap.size w w' := by
  unfold sackbutlaw25_VaultUnpacks.f at h
  split at h
  next hd =>
    cases h
    simp only [List.all_eq_true, decide_eq_true_eq] at hd
    by_cases hl : 2000 < l0.length
    · exact law25_unpacks.long A0 l0.length c0 w hG hl
    · exact law25_unpacks.main A0 l0 l0.length c0 w hG hc0 (by omega) hr0 hd
  next => cases h

end Go.Proofs.YtibmccacebhhkaaDoor.HV

namespace Go.Proofs.YtibmccacebhhkaaDoor.Pure
open Go Go.RowKit Go.Proofs.YtibmccacebhhkaaDoor.HV Go.Proofs.YtibmccacebhhkaaDoorW.PrintWords Go.Proofs.YtibmccacebhhkaaDoorW.PrintLast
/-- VaultUnpacks: the law in numbers and lists alone. -/
def PureGVaultUnpacks : Prop := ∀ (l0 : List (Int)), l0.length ≤ 9223372036854775807 → (∀ x ∈ l0, (Lit.int .u8 x).wf = true) → sackbutlaw25_VaultUnpacks.f l0 = some true
end Go.Proofs.YtibmccacebhhkaaDoor.Pure

namespace Go.Proofs.YtibmccacebhhkaaDoor.Pure
open Go Go.RowKit Go.Proofs.YtibmccacebhhkaaDoor.HV Go.Proofs.YtibmccacebhhkaaDoorW.PrintWords Go.Proofs.YtibmccacebhhkaaDoorW.PrintLast
theorem VaultUnpacks : PureGVaultUnpacks := by
  intro l0 _ h0
  unfold sackbutlaw25_VaultUnpacks.f
  rw [if_pos]
  simp only [List.all_eq_true, decide_eq_true_eq]
  exact fun x hx => TollSpec.wf_u8 (h0 x hx)
end Go.Proofs.YtibmccacebhhkaaDoor.Pure

