/- VaultUnpacks: what the claim's theorem reaches of this seat's texts, part 24, put together by this project's own program (bale.py); conditions: those of each theorem. -/
import Derived.Test.YtibmccacebhhkaaDoorVVaultUnpacks5
import Derived.Test.YtibmccacebhhkaaDoorVVaultUnpacks7
import Derived.Test.YtibmccacebhhkaaDoorVVaultUnpacks10
import Derived.Test.YtibmccacebhhkaaDoorVVaultUnpacks12
import Derived.Test.YtibmccacebhhkaaDoorVVaultUnpacks13
import Derived.Test.YtibmccacebhhkaaDoorVVaultUnpacks14
import Derived.Test.YtibmccacebhhkaaDoorVVaultUnpacks15
import Derived.Test.YtibmccacebhhkaaDoorVVaultUnpacks16
import Derived.Test.YtibmccacebhhkaaDoorVVaultUnpacks19
import Derived.Test.YtibmccacebhhkaaDoorVVaultUnpacks20
import Derived.Test.YtibmccacebhhkaaDoorVVaultUnpacks23
import Derived.Shelf.Abstract
import Derived.OwnWalk
import Derived.LoopTactic
namespace Go.Proofs.YtibmccacebhhkaaDoor.HV
open Go.RowKit Go.Proofs.YtibmccacebhhkaaDoorW.PrintWords Go.Proofs.YtibmccacebhhkaaDoorW.PrintLast Go.Proofs.YtibmccacebhhkaaDoorW.PrintMore
attribute [local go_sem] max2_int min2_int max_two min_two max_three min_three max_four min_four   -- for this text's walks alone
set_option linter.unusedVariables false
set_option linter.unusedSimpArgs false

/-! ### sackbutlaw25_VaultNames: function 3, by hand -/
structure AsideLN (p : Prop) : Prop where mk :: (out : p)
/-- The sum of bytes, as a number. -/
def csC (l : List Int) : Int := ((TollMath.crc l : Nat) : Int)
theorem csC_range (l : List Int) (h : ∀ x ∈ l, 0 ≤ x ∧ x < 256) : 0 ≤ csC l ∧ csC l < 4294967296 := by
  have := TollMath.crc_lt l h
  unfold csC
  omega
theorem csC_toll (l : List Int) (h : ∀ x ∈ l, 0 ≤ x ∧ x < 256) (K : Nat) (hK : l.length < K) (hK2 : K ≤ 1000000) : toll_Sum.f K l = some (csC l) := TollSpec.sum_spec l h (by omega) K hK
theorem csC_ref (l : List Int) (h : ∀ x ∈ l, 0 ≤ x ∧ x < 256) (K : Nat) (hK : l.length + 20 < K) (hl : l.length ≤ 100000) : sackbutref04_Sum.f K l = some (csC l) := TollSpec.ref_sum_spec l h hl K hK
end Go.Proofs.YtibmccacebhhkaaDoor.HV

namespace Go.Proofs.YtibmccacebhhkaaDoor.HV
open Go.RowKit Go.Proofs.YtibmccacebhhkaaDoorW.PrintWords Go.Proofs.YtibmccacebhhkaaDoorW.PrintLast Go.Proofs.YtibmccacebhhkaaDoorW.PrintMore
attribute [local go_sem] max2_int min2_int max_two min_two max_three min_three max_four min_four
set_option linter.unusedVariables false
set_option linter.unusedSimpArgs false
structure AsideRp (p : Prop) : Prop where mk :: (out : p)
/-- An item, as the document has it. -/
def toI (x : S49) : S57 := ⟨x.f0, x.f1⟩
theorem toI_get (L : List S49) (i : Nat) (hi : i < L.length) : rd_T57 (L.map toI) (i : Int) = toI (L.getD i z49) := by
  unfold rd_T57
  rw [Int.toNat_natCast, List.getD_eq_getElem?_getD, List.getElem?_map, List.getD_eq_getElem?_getD, List.getElem?_eq_getElem hi]
  rfl
theorem fst_next (cs : List Int → Int) (n : Nat) {L : List S49} {i : Nat} (h : i < L.length) : fstS cs n (L.take (i + 1)) = ((((fstS cs n (L.take i) ++ [((L.getD i z49).f0.size : Int)]) ++ bytesOf (L.getD i z49).f0) ++ bigL (L.getD i z49).f1.length 3) ++ bigL (cs (L.getD i z49).f1) 4) := by
  rw [fstS_step cs n h]
  simp
open Go.Proofs.YtibmccacebhhkaaDoor.AnyOrder Go.Proofs.YtibmccacebhhkaaDoor.AnyLit Go.Proofs.YtibmccacebhhkaaDoor.AnyFresh in
set_option maxRecDepth 100000 in
set_option maxHeartbeats 4000000 in
theorem ref_pack.gives (kk : Nat) (cs : List Int → Int) (A : Option Addr) (c : Nat) (L : List S49) (w : World) (hc : L.length ≤ c) (hR : Kd.C k57 w A L.length (L.map toI)) (hl : L.length ≤ 100)
    (hnm : ∀ x ∈ L, x.f0.size ≤ 255) (hit : ∀ x ∈ L, x.f1.length ≤ 10000)
    (hix : ∀ x ∈ L, sackbutref04_Sum.f kk x.f1 = some (cs x.f1) ∧ 0 ≤ cs x.f1 ∧ cs x.f1 < 4294967296 ∧ sackbutref25_big.f kk (x.f1.length : Int) 3 = some (bigL (x.f1.length : Int) 3) ∧ sackbutref25_big.f kk (cs x.f1) 4 = some (bigL (cs x.f1) 4))
    (hff : sackbutref04_Sum.f kk (fstS cs L.length L) = some (cs (fstS cs L.length L)) ∧ 0 ≤ cs (fstS cs L.length L) ∧ cs (fstS cs L.length L) < 4294967296 ∧ sackbutref25_big.f kk (cs (fstS cs L.length L)) 4 = some (bigL (cs (fstS cs L.length L)) 4)) :
    Calls Tryd.prog 18 #[.slice A L.length c] w fun e w' => ∃ v, e = .returned v ∧ Kd.R (Kd.int .u8) 5 w' w.heap.size (fun _ => True) v (packS cs L) ∧ Below w.heap.size w w' := by
  have HR := AsideRp.mk hR
  have HNM := AsideRp.mk hnm
  have HIT := AsideRp.mk hit
  have HIX := AsideRp.mk hix
  have HFF := AsideRp.mk hff
  obtain ⟨n, hn⟩ : ∃ n, L.length = n := ⟨_, rfl⟩
  have HN := AsideRp.mk hn
  rw [hn] at HR HFF hc hl ⊢
  have hinfo : ((Tryd.prog).info? 5).map (fun i => (i.zero, i.size, i.bytes)) = some (some (.int .u8 0), 1, 1) := by kernel_rfl
  have HI := AsideRp.mk hinfo
  have HALn : AsideRp (∀ i, (allS (L.take i)).length ≤ 1000000) := ⟨fun i => by
    have h1 := flat_len (fun x : S49 => x.f1) 10000 (L.take i) (fun x hx => HIT.out x (List.mem_of_mem_take hx))
    have h2 : (L.take i).length ≤ 100 := by rw [List.length_take, HN.out]; omega
    unfold allS
    omega⟩
  have HFLn : AsideRp (∀ i, (fstS cs n (L.take i)).length ≤ 26305) := ⟨fun i => fstS_length cs n _ (by rw [List.length_take, HN.out]; omega) (fun x hx => HNM.out x (List.mem_of_mem_take hx))⟩
  clear hR hnm hit hix hff hn hinfo
  go_enter Tryd.func18, Tryd.ntmps18
  have HB1 := AsideRp.mk (Below.refl w.heap.size w)
  obtain ⟨w5, hcv0, hMk, hMR⟩ := conv_lit2 (P := Tryd.prog) (lit_made (B := w.heap.size) 5 (w := w) [83, 75, 66, 86] (Nat.le_refl _)) Tryd.underlying22 Tryd.underlying5
  have hcv : (convert 22 22 (.slice (some ⟨w.heap.size, 0, none⟩) 4 4)).run Tryd.prog (w.alloc (.cells #[.int .u8 83, .int .u8 75, .int .u8 66, .int .u8 86] 5)) = .ok (.slice (some ⟨w.heap.size, 0, none⟩) 4 4) w5 := hcv0
  have HMR := AsideRp.mk hMR
  have HB5 := AsideRp.mk (((Below.refl w.heap.size w).alloc (Nat.le_refl _) _).trans hMk.below)
  have hw8 : (n : Int) % 256 = (n : Int) := by omega
  clear hcv0 hMk hMR
  have HROW := AsideRp.mk (LitIs.row (lit_made (B := w5.heap.size) 5 (w := w5) [(n : Int)] (Nat.le_refl _)) (by simp))
  go_upto_region 3 with (at_builtin; refine wpList_plain rfl (fun K hK => ?_); refine anyAppendLit (B := w.heap.size) (xs := [83, 75, 66, 86]) (ys := [(n : Int)]) (.tmp 7) (.tmp 11) rfl Tryd.underlying22 HI.out rfl rfl (HMR.out.block (fun g c hg => Below.heap_alloc _ _ g (blk_lt hg))) (by simp) HROW.out (by simp) (Nat.le_trans HB5.out.size (by rw [show (w5.alloc _).heap.size = w5.heap.size + 1 from Array.size_push _]; omega)) (by simp) (fun v1 w7 hg hf => hK _ _ ?_); have HG7 := AsideRp.mk hg; have HF7 := AsideRp.mk hf; clear hg hf hK K)
  clear hcv hw8
  have HB7 := AsideRp.mk (below_step (below_alloc HB5.out _) HG7.out)
  have HO7 := AsideRp.mk (show Kd.R (Kd.int .u8) 5 w7 w.heap.size (fun k => True ∧ some k ≠ (Value.slice none 0 0).ownBlock) v1 (fstS cs n (L.take 0)) from Kd.R_apart_nil HF7.out.1)
  clear HG7 HF7 HROW HMR HB5 HB1
  go_wp2_with (fail)
  go_loopw [3, 4, 15] (fun f a v wr => ∃ i : Nat, i ≤ n ∧ v = .int .i64 i ∧ AsideRp (Below w.heap.size w wr) ∧ AsideRp (Kd.R (Kd.int .u8) 5 wr w.heap.size (fun k => True ∧ some k ≠ a.ownBlock) f (fstS cs n (L.take i))) ∧ AsideRp (Kd.R (Kd.int .u8) 5 wr w.heap.size (fun _ => True) a (allS (L.take i)))) (fun _ _ v _ => n - (intOf v).toNat)
  case atStart => exact ⟨0, Nat.zero_le _, rfl, HB7, HO7, ⟨Kd.R_nil _ _ _ _ _⟩⟩
  case round =>
    clear HB7 HO7
    obtain ⟨i, hi, rfl, HBr, HFr, HAr⟩ := hrel
    by_cases hlt : i < n
    · obtain ⟨ad, A1, c1, e, hx0, hx1, hlc, hCx⟩ := at_T57 HR.out (i : Int) (by omega) (by omega)
      subst e
      rw [toI_get L i (by rw [HN.out]; exact hlt), Int.toNat_natCast] at hx0 hx1
      rw [toI_get L i (by rw [HN.out]; exact hlt)] at hlc hCx
      have hmem : L.getD i z49 ∈ L := by rw [List.getD_eq_getElem?_getD, List.getElem?_eq_getElem (by rw [HN.out]; exact hlt)]; exact List.getElem_mem _
      have hsn := HNM.out _ hmem
      have hsi := HIT.out _ hmem
      obtain ⟨hcx, hcx0, hcx1, hb3, hb4⟩ := HIX.out _ hmem
      have hst := fst_next cs n (L := L) (i := i) (by rw [HN.out]; exact hlt)
      have hsa := allS_step (L := L) (i := i) (by rw [HN.out]; exact hlt)
      change w.cell? (ad.add (i * 2)) = some (.string (L.getD i z49).f0) at hx0
      change w.cell? ⟨(ad.add (i * 2)).block, (ad.add (i * 2)).off + 1, none⟩ = some (.slice A1 (L.getD i z49).f1.length c1) at hx1
      change (L.getD i z49).f1.length ≤ c1 at hlc
      change Kd.C (Kd.int .u8) w A1 (L.getD i z49).f1.length (L.getD i z49).f1 at hCx
      generalize (L.getD i z49).f0 = nm at *
      generalize (L.getD i z49).f1 = xs at *
      obtain ⟨nx, hnx⟩ : ∃ nx, xs.length = nx := ⟨_, rfl⟩
      rw [hnx] at hx1 hlc hCx hsi hst hb3
      have hFl := HFLn.out i
      have hAl := HALn.out i
      generalize cs xs = y at *
      have HSUM := AsideRp.mk (fun (W : World) (hW : Below w.heap.size w W) => (show Calls Tryd.prog 25 #[.slice A1 nx c1] W fun e w' => e = .returned (.int .u32 y) ∧ Drawn0 W w' from by
        have h := sackbutref04_Sum.calls kk A1 c1 xs y W (by rw [hnx]; exact Kd.C_below hCx hW) (by rw [hnx]; exact hlc) hcx
        rw [hnx] at h
        exact h))
      have HSZ := AsideRp.mk (show nm.size ≤ 9223372036854775807 by omega)
      have HB3n := AsideRp.mk hb3
      have HB4n := AsideRp.mk hb4
      have HSA := AsideRp.mk hsa
      have HST := AsideRp.mk hst
      have hw8n : (nm.size : Int) % 256 = (nm.size : Int) := by omega
      have hw8u : IntKind.u8.wrap (nm.size : Int) = (nm.size : Int) := by rw [IntKind.wrap_u8]; exact hw8n
      have hwy : IntKind.i64.wrap y = y := by rw [IntKind.wrap_i64]; omega
      have HY := AsideRp.mk (And.intro hwy (And.intro hw8n hw8u))
      have hbl := World.block_lt_of_cell? w _ hx0
      have HLEN : AsideRp ((fstS cs n (L.take i)).length ≤ 26305 ∧ (allS (L.take i)).length ≤ 1000000 ∧ nm.size ≤ 255 ∧ nx ≤ 10000 ∧ (bytesOf nm).length = nm.size ∧ xs.length = nx) := ⟨hFl, hAl, hsn, hsi, bytesOf_length nm, hnx⟩
      have i0 : (0 : Int) ≤ (i : Int) := by omega
      have i1 : (i : Int) < (n : Int) := by omega
      have hcxx := AsideRp.mk hCx
      clear hmem hsn hsi hst hsa hcx hcx0 hcx1 hb3 hb4 hFl hAl hnx hwy hw8n hw8u hCx
      go_upto_region 6 with (fail)
      obtain ⟨V, hVd⟩ : ∃ V : Nat → Prop, V = fun k => some k = u4.ownBlock := ⟨_, rfl⟩
      have hAV : Kd.R (Kd.int .u8) 5 wr w.heap.size V u4 (allS (L.take i)) := R_ok HAr.out (fun k hk => by rw [hVd]; exact hk.symm)
      have hV : ∀ k, V k → k < wr.heap.size := fun k hk => by rw [hVd] at hk; exact Kd.R_lt HAr.out k hk.symm
      have hFO : Kd.R (Kd.int .u8) 5 wr.drew w.heap.size (fun _ => True) u3 (fstS cs n (L.take i)) ∧ ∀ k, u3.ownBlock = some k → k < wr.heap.size ∧ ¬ V k := ⟨Kd.R_drew (Kd.R_mono HFr.out (fun _ _ => trivial)), fun k hk => ⟨Kd.R_lt HFr.out k hk, fun h => by rw [hVd] at h; exact (HFr.out.1 k hk).2 h⟩⟩
      have HVD := AsideRp.mk hVd
      clear hVd
      have hX0 := pw_cell_below HBr.out hx0
      have hX1 := pw_cell_below HBr.out hx1
      generalize hF0 : fstS cs n (L.take i) = F0 at hFO HLEN HST
      have HF0 := AsideRp.mk hF0
      generalize hA0 : allS (L.take i) = AL0 at hAV HLEN HSA
      have HA0 := AsideRp.mk hA0
      clear hF0 hA0 HFr HAr
      refine Go.Proofs.YtibmccacebhhkaaDoor.AnyFresh.region_kinds true (by kernel_rfl) (w.heap.size) (wr.heap.size) V 5 (fun W => wr.heap.size ≤ W.heap.size ∧ W.cell? (ad.add (i * 2)) = some (.string nm) ∧ W.cell? ⟨(ad.add (i * 2)).block, (ad.add (i * 2)).off + 1, none⟩ = some (.slice A1 nx c1) ∧ Kd.R (Kd.int .u8) 5 W w.heap.size V u4 AL0) [.make, .make, .make, .make, .make, .make, .make, .make, .make, .appOld, .make, .make, .make, .make, .make, .make, .app, .make] [.val (u3), .val (.slice (some ad) n c), .val (.int .i64 (i : Int)), .val (.pointer (some (ad.add (i * 2)))), .val (.pointer (some (ad.add (i * 2)))), .val (.string nm), .val (.int .i64 ((nm.size : Int))), .val (.int .u8 (nm.size : Int)), .fresh ([(nm.size : Int)]), .own ((F0 ++ [(nm.size : Int)])), .val (.slice (some ad) n c), .val (.int .i64 (i : Int)), .val (.pointer (some (ad.add (i * 2)))), .val (.pointer (some (ad.add (i * 2)))), .val (.string nm), .fresh (bytesOf nm), .own (((F0 ++ [(nm.size : Int)]) ++ bytesOf nm)), .own (((F0 ++ [(nm.size : Int)]) ++ bytesOf nm))] [.free, .free, .free, .free, .free, .free, .free, .free, .fresh, .other, .free, .free, .free, .free, .free, .fresh, .other, .other] [(.old (F0), u3)] [.other] [[9]] [0, 0, 0, 6, 14, 30, 62, 126, 254, 511, 0, 0, 3072, 7168, 15360, 31744, 65535, 131071] [[], [], [], [(1, 19), (2, 20)], [(3, 21)], [(4, 22)], [(5, 23)], [(6, 24)], [(7, 25)], [(0, 18), (8, 26)], [], [], [(10, 28), (11, 29)], [(12, 30)], [(13, 31)], [(14, 32)], [(9, 27), (15, 33)], [(16, 34)]] [[3], [0], [5], [], [], [], [], [], [], [], [0], [5], [], [], [], [], [], []] (fun vs => [(18, vs 0), (19, vs 1), (20, vs 2), (21, vs 3), (22, vs 4), (23, vs 5), (24, vs 6), (25, vs 7), (26, vs 8), (27, vs 9), (28, vs 10), (29, vs 11), (30, vs 12), (31, vs 13), (32, vs 14), (33, vs 15), (34, vs 16), (3, vs 17)]) rfl rfl (by kernel_rfl) (fun _ => rfl) (HBr.out) (HBr.out.size) (⟨Nat.le_refl _, hX0, hX1, Kd.R_drew hAV⟩) (fun g W W' hB hg hX => ⟨Nat.le_trans hX.1 (Go.Proofs.YtibmccacebhhkaaDoor.AnyFresh.GK.size hB hg), Go.Proofs.YtibmccacebhhkaaDoor.AnyFresh.GK.cell hB hg hbl hX.2.1, Go.Proofs.YtibmccacebhhkaaDoor.AnyFresh.GK.cell (a := ⟨(ad.add (i * 2)).block, (ad.add (i * 2)).off + 1, none⟩) hB hg hbl hX.2.2.1, Go.Proofs.YtibmccacebhhkaaDoor.AnyFresh.GK.keepV hB hg hX.2.2.2⟩) ?hini ?_ ?_
      case hini =>
        intro x hx
        rcases x with _ | x
        · exact hFO
        · exact absurd hx (by simp)
      refine ⟨?_, ?_, ?_, ?_, ?_, ?_, ?_, ?_, ?_, ?_, ?_, ?_, ?_, ?_, ?_, ?_, ?_, ?_, trivial⟩
      · intro a w1 hJ hD hE hS K hK
        obtain ⟨hJ1, hJ2, hXN, hc0, hc1, hXA⟩ := hJ
        have d_3 : a.tmps.getD 3 undef = u3 := hS 3 (by simp)
        clear hD hS hE
        refine wp_value (v := u3) (w1 := w1) ?_ (hK _ _ (Below.refl _ _) rfl)
        clear hK
        go_simp
      · intro a w1 hJ hD hE hS K hK
        obtain ⟨hJ1, hJ2, hXN, hc0, hc1, hXA⟩ := hJ
        have d_0 : a.tmps.getD 0 undef = .slice (some ad) n c := hS 0 (by simp)
        clear hD hS hE
        refine wp_value (v := .slice (some ad) n c) (w1 := w1) ?_ (hK _ _ (Below.refl _ _) rfl)
        clear hK
        go_simp
      · intro a w1 hJ hD hE hS K hK
        obtain ⟨hJ1, hJ2, hXN, hc0, hc1, hXA⟩ := hJ
        have d_5 : a.tmps.getD 5 undef = .int .i64 (i : Int) := hS 5 (by simp)
        clear hD hS hE
        refine wp_value (v := .int .i64 (i : Int)) (w1 := w1) ?_ (hK _ _ (Below.refl _ _) rfl)
        clear hK
        go_simp
      · intro a w1 hJ hD hE hS K hK
        obtain ⟨hJ1, hJ2, hXN, hc0, hc1, hXA⟩ := hJ
        have d_19 : a.tmps.getD 19 undef = .slice (some ad) n c := hD (1, 19) (by simp)
        have d_20 : a.tmps.getD 20 undef = .int .i64 (i : Int) := hD (2, 20) (by simp)
        clear hD hS hE
        refine wp_value (v := .pointer (some (ad.add (i * 2)))) (w1 := w1) ?_ (hK _ _ (Below.refl _ _) rfl)
        clear hK
        go_simp
      · intro a w1 hJ hD hE hS K hK
        obtain ⟨hJ1, hJ2, hXN, hc0, hc1, hXA⟩ := hJ
        have d_21 : a.tmps.getD 21 undef = .pointer (some (ad.add (i * 2))) := hD (3, 21) (by simp)
        clear hD hS hE
        refine wp_value (v := .pointer (some (ad.add (i * 2)))) (w1 := w1) ?_ (hK _ _ (Below.refl _ _) rfl)
        clear hK
        go_simp
      · intro a w1 hJ hD hE hS K hK
        obtain ⟨hJ1, hJ2, hXN, hc0, hc1, hXA⟩ := hJ
        have d_22 : a.tmps.getD 22 undef = .pointer (some (ad.add (i * 2))) := hD (4, 22) (by simp)
        clear hD hS hE
        refine wp_value (v := .string nm) (w1 := w1) ?_ (hK _ _ (Below.refl _ _) rfl)
        clear hK
        go_simp
      · intro a w1 hJ hD hE hS K hK
        obtain ⟨hJ1, hJ2, hXN, hc0, hc1, hXA⟩ := hJ
        have d_23 : a.tmps.getD 23 undef = .string nm := hD (5, 23) (by simp)
        clear hD hS hE
        refine wp_value (v := .int .i64 ((nm.size : Int))) (w1 := w1) ?_ (hK _ _ (Below.refl _ _) rfl)
        clear hK
        go_simp
      · intro a w1 hJ hD hE hS K hK
        obtain ⟨hJ1, hJ2, hXN, hc0, hc1, hXA⟩ := hJ
        have d_24 : a.tmps.getD 24 undef = .int .i64 ((nm.size : Int)) := hD (6, 24) (by simp)
        clear hD hS hE
        obtain ⟨hwy, hw8n, hw8u⟩ := HY.out
        refine wp_value (v := .int .u8 (nm.size : Int)) (w1 := w1) ?_ (hK _ _ (Below.refl _ _) rfl)
        clear hK
        go_simp
      · intro a w1 hJ hD hE hS K hK
        obtain ⟨hJ1, hJ2, hXN, hc0, hc1, hXA⟩ := hJ
        have d_25 : a.tmps.getD 25 undef = .int .u8 (nm.size : Int) := hD (7, 25) (by simp)
        clear hD hS hE
        have hlit := FreshIs.of_row ((lit_made (B := w1.heap.size) 5 (w := w1) [(nm.size : Int)] (Nat.le_refl _)).row (by simp)) hXN
        refine wp_value (v := .slice (some ⟨w1.heap.size, 0, none⟩) 1 1) (w1 := w1.alloc (.cells (List.map (Value.int .u8) [(nm.size : Int)]).toArray 5)) ?_ (hK _ _ ((Below.refl _ _).alloc (Nat.le_refl _) _) hlit)
        clear hK hlit
        rw [Array.getD_eq_getD_getElem?] at d_25
        go_simp
      · intro a w1 hJ hD hE hS K hK
        obtain ⟨hJ1, hJ2, hXN, hc0, hc1, hXA⟩ := hJ
        have d_18 : a.tmps.getD 18 undef = u3 := hD (0, 18) (by simp)
        have d_26 : Go.Proofs.YtibmccacebhhkaaDoor.AnyFresh.FK.holds (w.heap.size) (wr.heap.size) V 5 (.fresh ([(nm.size : Int)])) (a.tmps.getD 26 undef) w1 := hD (8, 26) (by simp)
        have i_0 : Go.Proofs.YtibmccacebhhkaaDoor.AnyFresh.FK.holds (w.heap.size) (wr.heap.size) V 5 (.old (F0)) (u3) w1 := hE 0 (by decide)
        clear hD hS hE
        refine appendOld (xs := F0) (ys := [(nm.size : Int)]) rfl (.tmp 18) (.tmp 26) rfl Tryd.underlying22 HI.out d_18 rfl hV hXN i_0 (FreshIs.row d_26) hJ2 ?hl (fun v1 w2 hg hf => hK v1 w2 hg hf)
        case hl => (try simp only [List.length_append, List.length_cons, List.length_nil]); have := HLEN.out; omega
      · intro a w1 hJ hD hE hS K hK
        obtain ⟨hJ1, hJ2, hXN, hc0, hc1, hXA⟩ := hJ
        have d_0 : a.tmps.getD 0 undef = .slice (some ad) n c := hS 0 (by simp)
        clear hD hS hE
        refine wp_value (v := .slice (some ad) n c) (w1 := w1) ?_ (hK _ _ (Below.refl _ _) rfl)
        clear hK
        go_simp
      · intro a w1 hJ hD hE hS K hK
        obtain ⟨hJ1, hJ2, hXN, hc0, hc1, hXA⟩ := hJ
        have d_5 : a.tmps.getD 5 undef = .int .i64 (i : Int) := hS 5 (by simp)
        clear hD hS hE
        refine wp_value (v := .int .i64 (i : Int)) (w1 := w1) ?_ (hK _ _ (Below.refl _ _) rfl)
        clear hK
        go_simp
      · intro a w1 hJ hD hE hS K hK
        obtain ⟨hJ1, hJ2, hXN, hc0, hc1, hXA⟩ := hJ
        have d_28 : a.tmps.getD 28 undef = .slice (some ad) n c := hD (10, 28) (by simp)
        have d_29 : a.tmps.getD 29 undef = .int .i64 (i : Int) := hD (11, 29) (by simp)
        clear hD hS hE
        refine wp_value (v := .pointer (some (ad.add (i * 2)))) (w1 := w1) ?_ (hK _ _ (Below.refl _ _) rfl)
        clear hK
        go_simp
      · intro a w1 hJ hD hE hS K hK
        obtain ⟨hJ1, hJ2, hXN, hc0, hc1, hXA⟩ := hJ
        have d_30 : a.tmps.getD 30 undef = .pointer (some (ad.add (i * 2))) := hD (12, 30) (by simp)
        clear hD hS hE
        refine wp_value (v := .pointer (some (ad.add (i * 2)))) (w1 := w1) ?_ (hK _ _ (Below.refl _ _) rfl)
        clear hK
        go_simp
      · intro a w1 hJ hD hE hS K hK
        obtain ⟨hJ1, hJ2, hXN, hc0, hc1, hXA⟩ := hJ
        have d_31 : a.tmps.getD 31 undef = .pointer (some (ad.add (i * 2))) := hD (13, 31) (by simp)
        clear hD hS hE
        refine wp_value (v := .string nm) (w1 := w1) ?_ (hK _ _ (Below.refl _ _) rfl)
        clear hK
        go_simp
      · intro a w1 hJ hD hE hS K hK
        obtain ⟨hJ1, hJ2, hXN, hc0, hc1, hXA⟩ := hJ
        have d_32 : a.tmps.getD 32 undef = .string nm := hD (14, 32) (by simp)
        clear hD hS hE
        have hr := print_bytes (P := Tryd.prog) 9 22 5 Tryd.underlying9 Tryd.underlying22 Tryd.underlying5 nm w1
        have hrow := FreshIs.of_row (bytes_row (e := 5) w1 nm HSZ.out) hXN
        refine wp_value ?_ (hK (.slice (some ⟨w1.heap.size, 0, none⟩) nm.size (grownCap w1 nm.size 0 5)) (Lib.bytesWorld w1 5 nm) (bytes_below (Below.refl _ _) (Nat.le_refl _) _ _) hrow)
        clear hK hrow
        go_simp
      · intro a w1 hJ hD hE hS K hK
        obtain ⟨hJ1, hJ2, hXN, hc0, hc1, hXA⟩ := hJ
        have d_27 : Go.Proofs.YtibmccacebhhkaaDoor.AnyFresh.FK.holds (w.heap.size) (wr.heap.size) V 5 (.own ((F0 ++ [(nm.size : Int)]))) (a.tmps.getD 27 undef) w1 := hD (9, 27) (by simp)
        have d_33 : Go.Proofs.YtibmccacebhhkaaDoor.AnyFresh.FK.holds (w.heap.size) (wr.heap.size) V 5 (.fresh (bytesOf nm)) (a.tmps.getD 33 undef) w1 := hD (15, 33) (by simp)
        clear hD hS hE
        refine appendOwn (xs := (F0 ++ [(nm.size : Int)])) (ys := bytesOf nm) rfl (.tmp 27) (.tmp 33) rfl Tryd.underlying22 HI.out rfl rfl hV hXN d_27 (FreshIs.row d_33) hJ2 ?hl (fun v1 w2 hg hf => hK v1 w2 hg hf)
        case hl => (try simp only [List.length_append, List.length_cons, List.length_nil]); have := HLEN.out; omega
      · intro a w1 hJ hD hE hS K hK
        obtain ⟨hJ1, hJ2, hXN, hc0, hc1, hXA⟩ := hJ
        have d_34 : Go.Proofs.YtibmccacebhhkaaDoor.AnyFresh.FK.holds (w.heap.size) (wr.heap.size) V 5 (.own (((F0 ++ [(nm.size : Int)]) ++ bytesOf nm))) (a.tmps.getD 34 undef) w1 := hD (16, 34) (by simp)
        clear hD hS hE
        refine wp_value (v := a.tmps.getD 34 undef) (w1 := w1) ?_ (hK _ _ (Below.refl _ _) d_34)
        clear hK d_34
        go_simp
      · intro vs w20 hB20 hX20 hF20
        have h20 := hF20 17 (by decide) (by kernel_rfl)
        clear hF20
        obtain ⟨hXN, hX0', hX1', hAV2⟩ := hX20
        change Kd.R (Kd.int .u8) 5 w20 w.heap.size (fun _ => True) (vs 17) ((F0 ++ [(nm.size : Int)]) ++ bytesOf nm) ∧ ∀ k, (vs 17).ownBlock = some k → ¬ V k at h20
        generalize vs 17 = f17 at h20 ⊢
        have hV2 : ∀ k, V k → k < w20.heap.size := fun k hk => Nat.lt_of_lt_of_le (hV k hk) hXN
        have hFO2 : Kd.R (Kd.int .u8) 5 w20.drew w.heap.size (fun _ => True) f17 ((F0 ++ [(nm.size : Int)]) ++ bytesOf nm) ∧ ∀ k, f17.ownBlock = some k → k < w20.heap.size ∧ ¬ V k := ⟨Kd.R_drew h20.1, fun k hk => ⟨Kd.R_lt h20.1 k hk, h20.2 k hk⟩⟩
        clear h20 hAV hV hFO hX0 hX1 hXN
        generalize hF1 : (F0 ++ [(nm.size : Int)]) ++ bytesOf nm = F1 at hFO2 HST
        have HLEN1 : AsideRp (F1.length ≤ 26600) := ⟨by rw [← hF1, List.length_append, List.length_append]; have := HLEN.out; simp; omega⟩
        clear hF1
        simp only [putL, Act.put, List.setIfInBounds_toArray, List.set_cons_zero, List.set_cons_succ]
        go_upto_region 7 with (fail)
        refine Go.Proofs.YtibmccacebhhkaaDoor.AnyFresh.region_kinds true (by kernel_rfl) (w.heap.size) (w20.heap.size) V 5 (fun W => w20.heap.size ≤ W.heap.size ∧ W.cell? (ad.add (i * 2)) = some (.string nm) ∧ W.cell? ⟨(ad.add (i * 2)).block, (ad.add (i * 2)).off + 1, none⟩ = some (.slice A1 nx c1) ∧ Kd.R (Kd.int .u8) 5 W w.heap.size V u4 AL0) [.make, .make, .make, .make, .make, .make, .make, .make, .appOld, .make, .make, .make, .make, .make, .make, .make, .make, .app, .make] [.val (f17), .val (.slice (some ad) n c), .val (.int .i64 (i : Int)), .val (.pointer (some (ad.add (i * 2)))), .val (.pointer (some ⟨(ad.add (i * 2)).block, (ad.add (i * 2)).off + 1, none⟩)), .val (.slice A1 nx c1), .val (.int .i64 ((nx : Int))), .fresh (bigL (nx : Int) 3), .own ((F1 ++ bigL (nx : Int) 3)), .val (.slice (some ad) n c), .val (.int .i64 (i : Int)), .val (.pointer (some (ad.add (i * 2)))), .val (.pointer (some ⟨(ad.add (i * 2)).block, (ad.add (i * 2)).off + 1, none⟩)), .val (.slice A1 nx c1), .val (.int .u32 y), .val (.int .i64 (y)), .fresh (bigL y 4), .own (((F1 ++ bigL (nx : Int) 3) ++ bigL y 4)), .own (((F1 ++ bigL (nx : Int) 3) ++ bigL y 4))] [.free, .free, .free, .free, .free, .free, .free, .fresh, .other, .free, .free, .free, .free, .free, .free, .free, .fresh, .other, .other] [(.old (F1), f17)] [.other] [[8]] [0, 0, 0, 6, 14, 30, 62, 126, 255, 0, 0, 1536, 3584, 7680, 16383, 32767, 65535, 131071, 262143] [[], [], [], [(1, 36), (2, 37)], [(3, 38)], [(4, 39)], [(5, 40)], [(6, 41)], [(0, 35), (7, 42)], [], [], [(9, 44), (10, 45)], [(11, 46)], [(12, 47)], [(13, 48)], [(14, 49)], [(15, 50)], [(8, 43), (16, 51)], [(17, 52)]] [[3], [0], [5], [], [], [], [], [], [], [0], [5], [], [], [], [], [], [], [], []] (fun vs => [(35, vs 0), (36, vs 1), (37, vs 2), (38, vs 3), (39, vs 4), (40, vs 5), (41, vs 6), (42, vs 7), (43, vs 8), (44, vs 9), (45, vs 10), (46, vs 11), (47, vs 12), (48, vs 13), (49, vs 14), (50, vs 15), (51, vs 16), (52, vs 17), (3, vs 18)]) rfl rfl (by kernel_rfl) (fun _ => rfl) (hB20) (hB20.size) (⟨Nat.le_refl _, hX0', hX1', Kd.R_drew hAV2⟩) (fun g W W' hB hg hX => ⟨Nat.le_trans hX.1 (Go.Proofs.YtibmccacebhhkaaDoor.AnyFresh.GK.size hB hg), Go.Proofs.YtibmccacebhhkaaDoor.AnyFresh.GK.cell hB hg hbl hX.2.1, Go.Proofs.YtibmccacebhhkaaDoor.AnyFresh.GK.cell (a := ⟨(ad.add (i * 2)).block, (ad.add (i * 2)).off + 1, none⟩) hB hg hbl hX.2.2.1, Go.Proofs.YtibmccacebhhkaaDoor.AnyFresh.GK.keepV hB hg hX.2.2.2⟩) ?hini ?_ ?_
        case hini =>
          intro x hx
          rcases x with _ | x
          · exact hFO2
          · exact absurd hx (by simp)
        refine ⟨?_, ?_, ?_, ?_, ?_, ?_, ?_, ?_, ?_, ?_, ?_, ?_, ?_, ?_, ?_, ?_, ?_, ?_, ?_, trivial⟩
        · intro a w1 hJ hD hE hS K hK
          obtain ⟨hJ1, hJ2, hXN, hc0, hc1, hXA⟩ := hJ
          have d_3 : a.tmps.getD 3 undef = f17 := hS 3 (by simp)
          clear hD hS hE
          refine wp_value (v := f17) (w1 := w1) ?_ (hK _ _ (Below.refl _ _) rfl)
          clear hK
          go_simp
        · intro a w1 hJ hD hE hS K hK
          obtain ⟨hJ1, hJ2, hXN, hc0, hc1, hXA⟩ := hJ
          have d_0 : a.tmps.getD 0 undef = .slice (some ad) n c := hS 0 (by simp)
          clear hD hS hE
          refine wp_value (v := .slice (some ad) n c) (w1 := w1) ?_ (hK _ _ (Below.refl _ _) rfl)
          clear hK
          go_simp
        · intro a w1 hJ hD hE hS K hK
          obtain ⟨hJ1, hJ2, hXN, hc0, hc1, hXA⟩ := hJ
          have d_5 : a.tmps.getD 5 undef = .int .i64 (i : Int) := hS 5 (by simp)
          clear hD hS hE
          refine wp_value (v := .int .i64 (i : Int)) (w1 := w1) ?_ (hK _ _ (Below.refl _ _) rfl)
          clear hK
          go_simp
        · intro a w1 hJ hD hE hS K hK
          obtain ⟨hJ1, hJ2, hXN, hc0, hc1, hXA⟩ := hJ
          have d_36 : a.tmps.getD 36 undef = .slice (some ad) n c := hD (1, 36) (by simp)
          have d_37 : a.tmps.getD 37 undef = .int .i64 (i : Int) := hD (2, 37) (by simp)
          clear hD hS hE
          refine wp_value (v := .pointer (some (ad.add (i * 2)))) (w1 := w1) ?_ (hK _ _ (Below.refl _ _) rfl)
          clear hK
          go_simp
        · intro a w1 hJ hD hE hS K hK
          obtain ⟨hJ1, hJ2, hXN, hc0, hc1, hXA⟩ := hJ
          have d_38 : a.tmps.getD 38 undef = .pointer (some (ad.add (i * 2))) := hD (3, 38) (by simp)
          clear hD hS hE
          refine wp_value (v := .pointer (some ⟨(ad.add (i * 2)).block, (ad.add (i * 2)).off + 1, none⟩)) (w1 := w1) ?_ (hK _ _ (Below.refl _ _) rfl)
          clear hK
          go_simp
        · intro a w1 hJ hD hE hS K hK
          obtain ⟨hJ1, hJ2, hXN, hc0, hc1, hXA⟩ := hJ
          have d_39 : a.tmps.getD 39 undef = .pointer (some ⟨(ad.add (i * 2)).block, (ad.add (i * 2)).off + 1, none⟩) := hD (4, 39) (by simp)
          clear hD hS hE
          refine wp_value (v := .slice A1 nx c1) (w1 := w1) ?_ (hK _ _ (Below.refl _ _) rfl)
          clear hK
          go_simp
        · intro a w1 hJ hD hE hS K hK
          obtain ⟨hJ1, hJ2, hXN, hc0, hc1, hXA⟩ := hJ
          have d_40 : a.tmps.getD 40 undef = .slice A1 nx c1 := hD (5, 40) (by simp)
          clear hD hS hE
          refine wp_value (v := .int .i64 ((nx : Int))) (w1 := w1) ?_ (hK _ _ (Below.refl _ _) rfl)
          clear hK
          go_simp
        · intro a w1 hJ hD hE hS K hK
          obtain ⟨hJ1, hJ2, hXN, hc0, hc1, hXA⟩ := hJ
          have d_41 : a.tmps.getD 41 undef = .int .i64 ((nx : Int)) := hD (6, 41) (by simp)
          clear hD hS hE
          refine wp_call Tryd.func35 (by kernel_rfl) rfl #[.int .i64 (nx : Int), .int .i64 3] rfl (by simp only [List.map_toArray, List.map_cons, List.map_nil, Act.eval, d_41]) ?_
          refine (sackbutref25_big.calls kk (nx : Int) 3 (bigL (nx : Int) 3) w1 HB3n.out).mono ?_
          rintro e w2 ⟨v, rfl, ho, hb⟩
          exact ⟨v, rfl, hK v w2 hb (FreshIs.of_R ho hXN)⟩
        · intro a w1 hJ hD hE hS K hK
          obtain ⟨hJ1, hJ2, hXN, hc0, hc1, hXA⟩ := hJ
          have d_35 : a.tmps.getD 35 undef = f17 := hD (0, 35) (by simp)
          have d_42 : Go.Proofs.YtibmccacebhhkaaDoor.AnyFresh.FK.holds (w.heap.size) (w20.heap.size) V 5 (.fresh (bigL (nx : Int) 3)) (a.tmps.getD 42 undef) w1 := hD (7, 42) (by simp)
          have i_0 : Go.Proofs.YtibmccacebhhkaaDoor.AnyFresh.FK.holds (w.heap.size) (w20.heap.size) V 5 (.old (F1)) (f17) w1 := hE 0 (by decide)
          clear hD hS hE
          refine appendOld (xs := F1) (ys := bigL (nx : Int) 3) rfl (.tmp 35) (.tmp 42) rfl Tryd.underlying22 HI.out d_35 rfl hV2 hXN i_0 (FreshIs.row d_42) hJ2 ?hl (fun v1 w2 hg hf => hK v1 w2 hg hf)
          case hl => (try simp only [List.length_append, List.length_cons, List.length_nil]); (try rw [bigL_length]); (try rw [bigL_length]); have := HLEN1.out; omega
        · intro a w1 hJ hD hE hS K hK
          obtain ⟨hJ1, hJ2, hXN, hc0, hc1, hXA⟩ := hJ
          have d_0 : a.tmps.getD 0 undef = .slice (some ad) n c := hS 0 (by simp)
          clear hD hS hE
          refine wp_value (v := .slice (some ad) n c) (w1 := w1) ?_ (hK _ _ (Below.refl _ _) rfl)
          clear hK
          go_simp
        · intro a w1 hJ hD hE hS K hK
          obtain ⟨hJ1, hJ2, hXN, hc0, hc1, hXA⟩ := hJ
          have d_5 : a.tmps.getD 5 undef = .int .i64 (i : Int) := hS 5 (by simp)
          clear hD hS hE
          refine wp_value (v := .int .i64 (i : Int)) (w1 := w1) ?_ (hK _ _ (Below.refl _ _) rfl)
          clear hK
          go_simp
        · intro a w1 hJ hD hE hS K hK
          obtain ⟨hJ1, hJ2, hXN, hc0, hc1, hXA⟩ := hJ
          have d_44 : a.tmps.getD 44 undef = .slice (some ad) n c := hD (9, 44) (by simp)
          have d_45 : a.tmps.getD 45 undef = .int .i64 (i : Int) := hD (10, 45) (by simp)
          clear hD hS hE
          refine wp_value (v := .pointer (some (ad.add (i * 2)))) (w1 := w1) ?_ (hK _ _ (Below.refl _ _) rfl)
          clear hK
          go_simp
        · intro a w1 hJ hD hE hS K hK
          obtain ⟨hJ1, hJ2, hXN, hc0, hc1, hXA⟩ := hJ
          have d_46 : a.tmps.getD 46 undef = .pointer (some (ad.add (i * 2))) := hD (11, 46) (by simp)
          clear hD hS hE
          refine wp_value (v := .pointer (some ⟨(ad.add (i * 2)).block, (ad.add (i * 2)).off + 1, none⟩)) (w1 := w1) ?_ (hK _ _ (Below.refl _ _) rfl)
          clear hK
          go_simp
        · intro a w1 hJ hD hE hS K hK
          obtain ⟨hJ1, hJ2, hXN, hc0, hc1, hXA⟩ := hJ
          have d_47 : a.tmps.getD 47 undef = .pointer (some ⟨(ad.add (i * 2)).block, (ad.add (i * 2)).off + 1, none⟩) := hD (12, 47) (by simp)
          clear hD hS hE
          refine wp_value (v := .slice A1 nx c1) (w1 := w1) ?_ (hK _ _ (Below.refl _ _) rfl)
          clear hK
          go_simp
        · intro a w1 hJ hD hE hS K hK
          obtain ⟨hJ1, hJ2, hXN, hc0, hc1, hXA⟩ := hJ
          have d_48 : a.tmps.getD 48 undef = .slice A1 nx c1 := hD (13, 48) (by simp)
          clear hD hS hE
          refine wp_call Tryd.func25 (by kernel_rfl) rfl #[.slice A1 nx c1] rfl (by simp only [List.map_toArray, List.map_cons, List.map_nil, Act.eval, d_48]) ?_
          refine (HSUM.out w1 hJ1).mono ?_
          rintro e w2 ⟨rfl, hd⟩
          exact ⟨_, rfl, hK _ w2 hd.below rfl⟩
        · intro a w1 hJ hD hE hS K hK
          obtain ⟨hJ1, hJ2, hXN, hc0, hc1, hXA⟩ := hJ
          have d_49 : a.tmps.getD 49 undef = .int .u32 y := hD (14, 49) (by simp)
          clear hD hS hE
          obtain ⟨hwy, hw8n, hw8u⟩ := HY.out
          refine wp_value (v := .int .i64 y) (w1 := w1) ?_ (hK _ _ (Below.refl _ _) rfl)
          clear hK
          go_simp
        · intro a w1 hJ hD hE hS K hK
          obtain ⟨hJ1, hJ2, hXN, hc0, hc1, hXA⟩ := hJ
          have d_50 : a.tmps.getD 50 undef = .int .i64 (y) := hD (15, 50) (by simp)
          clear hD hS hE
          refine wp_call Tryd.func35 (by kernel_rfl) rfl #[.int .i64 y, .int .i64 4] rfl (by simp only [List.map_toArray, List.map_cons, List.map_nil, Act.eval, d_50]) ?_
          refine (sackbutref25_big.calls kk y 4 (bigL y 4) w1 HB4n.out).mono ?_
          rintro e w2 ⟨v, rfl, ho, hb⟩
          exact ⟨v, rfl, hK v w2 hb (FreshIs.of_R ho hXN)⟩
        · intro a w1 hJ hD hE hS K hK
          obtain ⟨hJ1, hJ2, hXN, hc0, hc1, hXA⟩ := hJ
          have d_43 : Go.Proofs.YtibmccacebhhkaaDoor.AnyFresh.FK.holds (w.heap.size) (w20.heap.size) V 5 (.own ((F1 ++ bigL (nx : Int) 3))) (a.tmps.getD 43 undef) w1 := hD (8, 43) (by simp)
          have d_51 : Go.Proofs.YtibmccacebhhkaaDoor.AnyFresh.FK.holds (w.heap.size) (w20.heap.size) V 5 (.fresh (bigL y 4)) (a.tmps.getD 51 undef) w1 := hD (16, 51) (by simp)
          clear hD hS hE
          refine appendOwn (xs := (F1 ++ bigL (nx : Int) 3)) (ys := bigL y 4) rfl (.tmp 43) (.tmp 51) rfl Tryd.underlying22 HI.out rfl rfl hV2 hXN d_43 (FreshIs.row d_51) hJ2 ?hl (fun v1 w2 hg hf => hK v1 w2 hg hf)
          case hl => (try simp only [List.length_append, List.length_cons, List.length_nil]); (try rw [bigL_length]); (try rw [bigL_length]); have := HLEN1.out; omega
        · intro a w1 hJ hD hE hS K hK
          obtain ⟨hJ1, hJ2, hXN, hc0, hc1, hXA⟩ := hJ
          have d_52 : Go.Proofs.YtibmccacebhhkaaDoor.AnyFresh.FK.holds (w.heap.size) (w20.heap.size) V 5 (.own (((F1 ++ bigL (nx : Int) 3) ++ bigL y 4))) (a.tmps.getD 52 undef) w1 := hD (17, 52) (by simp)
          clear hD hS hE
          refine wp_value (v := a.tmps.getD 52 undef) (w1 := w1) ?_ (hK _ _ (Below.refl _ _) d_52)
          clear hK d_52
          go_simp
        · intro vs w30 hB30 hX30 hF30
          have h30 := hF30 18 (by decide) (by kernel_rfl)
          clear hF30
          obtain ⟨hXN, _, hX1'', hAV3⟩ := hX30
          change Kd.R (Kd.int .u8) 5 w30 w.heap.size (fun _ => True) (vs 18) ((F1 ++ bigL (nx : Int) 3) ++ bigL y 4) ∧ ∀ k, (vs 18).ownBlock = some k → ¬ V k at h30
          rw [← HST.out] at h30
          generalize vs 18 = f18 at h30 ⊢
          have HF30 : AsideRp (Kd.R (Kd.int .u8) 5 w30 w.heap.size (fun k => True ∧ some k ≠ u4.ownBlock) f18 (fstS cs n (L.take (i + 1)))) := ⟨R_ok h30.1 (fun k hk => ⟨trivial, fun h => h30.2 k hk (by rw [HVD.out]; exact h)⟩)⟩
          have HA30 := AsideRp.mk (Kd.R_mono (ok' := fun _ => True) hAV3 (fun _ _ => trivial))
          have HB30 := AsideRp.mk hB30
          have HC30 := AsideRp.mk (Kd.C_below hcxx.out hB30)
          clear h30 hAV2 hAV3 hFO2 hV2 hX0' hX1' hXN hB20 hB30 HSUM
          simp only [putL, Act.put, List.setIfInBounds_toArray, List.set_cons_zero, List.set_cons_succ]
          go_wp2_with (at_builtin; refine Kd.R_append_rows (Kd.int .u8) (w0 := w) w.heap.size rfl (.tmp 53) (.tmp 58) 22 5 (.int .u8 0) 1 rfl Tryd.underlying22 HI.out rfl (by decide) (by decide) u4 AL0 xs A1 nx c1 (fun _ => True) (fun _ => False) rfl rfl HA30.out HC30.out (fun _ _ h => h) (fun _ hk => hk.elim) (fun _ _ => trivial) HB30.out HB30.out.size ?aL ?_; (case aL => have := HLEN.out; omega); intro v9 w9 ho hb hg hat; rw [← HSA.out] at ho; have HA9 := AsideRp.mk ho; have HB9 := AsideRp.mk hb; have HF9 := AsideRp.mk (Kd.R_after HF30.out hg hat); clear ho hb hg hat)
          go_roundw
          case rel => exact ⟨i + 1, by omega, by go_num, HB9, HF9, HA9⟩
          case measure => simp [intOf]; omega
    · obtain rfl : i = n := by omega
      clear hi hlt
      rw [List.take_of_length_le (by rw [HN.out]; exact Nat.le_refl _)] at HFr HAr
      have hFl := HFLn.out i
      have hAl := HALn.out i
      rw [List.take_of_length_le (by rw [HN.out]; exact Nat.le_refl _)] at hFl hAl
      have hpk : packS cs L = (fstS cs i L ++ bigL (cs (fstS cs i L)) 4) ++ allS L := by unfold packS; rw [HN.out]; simp
      have HPK := AsideRp.mk hpk
      obtain ⟨hcx, hcx0, hcx1, hb4⟩ := HFF.out
      generalize fstS cs i L = F at *
      generalize allS L = Al at *
      generalize cs F = y at *
      obtain ⟨AF, cF, eF⟩ := Kd.R_slice HFr.out
      obtain ⟨Aa, ca, ea⟩ := Kd.R_slice HAr.out
      obtain ⟨nF, hnF⟩ : ∃ nF, F.length = nF := ⟨_, rfl⟩
      obtain ⟨na, hna⟩ : ∃ na, Al.length = na := ⟨_, rfl⟩
      rw [hnF] at eF
      rw [hna] at ea
      subst eF ea
      have hCF := Kd.R_reads' HFr.out
      rw [hnF] at hCF
      have HSUM := AsideRp.mk (show Calls Tryd.prog 25 #[.slice AF nF cF] wr fun e w' => e = .returned (.int .u32 y) ∧ Drawn0 wr w' from by
        have h := sackbutref04_Sum.calls kk AF cF F y wr (by rw [hnF]; exact hCF.2.2) (by rw [hnF]; exact hCF.2.1) hcx
        rw [hnF] at h
        exact h)
      have HBG := AsideRp.mk (fun W => sackbutref25_big.calls kk y 4 (bigL y 4) W hb4)
      have HF0 := AsideRp.mk (Kd.R_mono (ok' := fun _ => True) HFr.out (fun _ _ => trivial))
      have HA0 : AsideRp (Kd.R (Kd.int .u8) 5 wr w.heap.size (fun k => True ∧ some k ≠ (Value.slice AF nF cF).ownBlock) (.slice Aa na ca) Al) := ⟨R_ok HAr.out (fun k hk => ⟨trivial, fun h => (HFr.out.1 k h.symm).2 hk.symm⟩)⟩
      have hwy : IntKind.i64.wrap y = y := by rw [IntKind.wrap_i64]; omega
      have hwy0 : 0 ≤ y := hcx0
      have hwy1 : y ≤ 4294967295 := by omega
      have HLEN : AsideRp (F.length ≤ 26305 ∧ Al.length ≤ 1000000 ∧ F.length = nF ∧ Al.length = na) := ⟨hFl, hAl, hnF, hna⟩
      clear hFl hAl hpk hcx hcx0 hcx1 hb4 hnF hna hCF HFr HAr
      go_wp2_with (first | (go_at_call 25; (with_reducible refine HSUM.out.mono ?_); rintro e w12 ⟨rfl, hd⟩; have HB12 := AsideRp.mk (below_step HBr.out hd.below); have HF1 := AsideRp.mk (Kd.R_below HF0.out hd.below); have HA1 := AsideRp.mk (Kd.R_below HA0.out hd.below); clear hd) | (go_at_call 35; (with_reducible refine (HBG.out _).mono ?_); rintro e w13 ⟨vb, rfl, ho, hb⟩; have HB13 := AsideRp.mk (below_step HB12.out hb); have HF2 := AsideRp.mk (Kd.R_below HF1.out hb); have HA2 := AsideRp.mk (Kd.R_below HA1.out hb); obtain ⟨Ab, cb, eb⟩ := Kd.R_slice ho; rw [bigL_length] at eb; subst eb; have HRB := AsideRp.mk (Kd.R_reads' ho).2.2; clear ho hb) | (at_builtin; refine Kd.R_append_rows (Kd.int .u8) (w0 := w) w.heap.size rfl (.tmp 61) (.tmp 65) 22 5 (.int .u8 0) 1 rfl Tryd.underlying22 HI.out rfl (by decide) (by decide) (.slice AF nF cF) F (bigL y 4) Ab 4 cb (fun _ => True) (fun _ => False) rfl rfl HF2.out (by have h := HRB.out; rwa [bigL_length] at h) (fun _ _ h => h) (fun _ hk => hk.elim) (fun _ _ => trivial) HB13.out HB13.out.size ?aL ?_; (case aL => have := HLEN.out; omega); intro v14 w14 ho hb hg hat; have HF3 := AsideRp.mk ho; have HB14 := AsideRp.mk hb; have HA3 := AsideRp.mk (Kd.R_mono (ok' := fun _ => True) (Kd.R_after HA2.out hg hat) (fun _ _ => trivial)); clear ho hb hg hat) | (at_builtin; refine Kd.R_append_rows (Kd.int .u8) (w0 := w) w.heap.size rfl (.tmp 66) (.tmp 67) 22 5 (.int .u8 0) 1 rfl Tryd.underlying22 HI.out rfl (by decide) (by decide) v14 (F ++ bigL y 4) Al Aa na ca (fun _ => True) (fun _ => False) rfl rfl HF3.out (by have h := (Kd.R_reads' HA3.out).2.2; rwa [HLEN.out.2.2.2] at h) (fun _ _ h => h) (fun _ hk => hk.elim) (fun _ _ => trivial) HB14.out HB14.out.size ?aL2 ?_; (case aL2 => rw [List.length_append, bigL_length]; have := HLEN.out; omega); intro v15 w15 ho hb hg hat; have HF4 := AsideRp.mk ho; have HB15 := AsideRp.mk hb; clear ho hb hg hat))
      go_ret
      exact ⟨_, rfl, by rw [HPK.out]; exact HF4.out, HB15.out⟩

end Go.Proofs.YtibmccacebhhkaaDoor.HV

namespace Go.Proofs.YtibmccacebhhkaaDoor.HV
open Go.RowKit Go.Proofs.YtibmccacebhhkaaDoorW.PrintWords Go.Proofs.YtibmccacebhhkaaDoorW.PrintLast Go.Proofs.YtibmccacebhhkaaDoorW.PrintMore
attribute [local go_sem] max2_int min2_int max_two min_two max_three min_three max_four min_four
set_option linter.unusedVariables false
set_option linter.unusedSimpArgs false
structure AsideRg (p : Prop) : Prop where mk :: (out : p)
end Go.Proofs.YtibmccacebhhkaaDoor.HV

namespace Go.Proofs.YtibmccacebhhkaaDoor.VaultBack
set_option linter.unusedVariables false
open Go Go.RowKit Go.Proofs.YtibmccacebhhkaaDoor.HV Go.Proofs.YtibmccacebhhkaaDoor.VaultItems Go.Proofs.YtibmccacebhhkaaDoor.VaultUnp Go.Proofs.YtibmccacebhhkaaDoorW.PrintWords Go.Proofs.YtibmccacebhhkaaDoorW.PrintLast

def entV (cs : List Int → Int) (x : S49) : S67 := ⟨x.f0, (x.f1.length : Int), cs x.f1⟩
structure Fits (cs : List Int → Int) (L : List S49) : Prop where
  good : goodI L = true
  nm : ∀ x ∈ L, x.f0.size ≤ 255
  len : ∀ x ∈ L, x.f1.length < 16777216
  sum : ∀ x ∈ L, 0 ≤ cs x.f1 ∧ cs x.f1 < 4294967296
end Go.Proofs.YtibmccacebhhkaaDoor.VaultBack

namespace Go.Proofs.YtibmccacebhhkaaDoor.VaultPk
set_option linter.unusedVariables false
open Go Go.RowKit Go.Proofs.YtibmccacebhhkaaDoor.HV Go.Proofs.YtibmccacebhhkaaDoor.BitStr Go.Proofs.YtibmccacebhhkaaDoorW.PrintWords Go.Proofs.YtibmccacebhhkaaDoorW.PrintLast
theorem putL_bytes4 (v : Nat) : putL 32 v = bits8 [v / 16777216 % 256, v / 65536 % 256, v / 256 % 256, v % 256] := by
  have h := putL_add 8 24 v
  rw [show (8 + 24 : Nat) = 32 from rfl] at h
  rw [h, putL_bytes3, ← putL_mod 8, show (2 : Nat) ^ 24 = 16777216 from rfl, show (2 : Nat) ^ 8 = 256 from rfl]
  rfl
theorem ref_big3 (n : Int) (h0 : 0 ≤ n) (h1 : n < 16777216) (K : Nat) (hK : 100 ≤ K) : sackbutref25_big.f K n 3 = some (bigL n 3) := by
  obtain ⟨v, rfl⟩ : ∃ v : Nat, n = (v : Int) := ⟨n.toNat, by omega⟩
  unfold sackbutref25_big.f
  rw [show wrap64 (8 * 3) = ((24 : Nat) : Int) by unfold wrap64; omega, put_spec 24 v K (by omega) (by omega) (by omega), Option.bind_some, putL_bytes3, bytes_spec _ (by simp) (by intro x hx; simp at hx; omega) K (by simp; omega), Option.bind_some]
  simp [bigL]
theorem ref_big4 (n : Int) (h0 : 0 ≤ n) (h1 : n < 4294967296) (K : Nat) (hK : 100 ≤ K) : sackbutref25_big.f K n 4 = some (bigL n 4) := by
  obtain ⟨v, rfl⟩ : ∃ v : Nat, n = (v : Int) := ⟨n.toNat, by omega⟩
  unfold sackbutref25_big.f
  rw [show wrap64 (8 * 4) = ((32 : Nat) : Int) by unfold wrap64; omega, put_spec 32 v K (by omega) (by omega) (by omega), Option.bind_some, putL_bytes4, bytes_spec _ (by simp) (by intro x hx; simp at hx; omega) K (by simp; omega), Option.bind_some]
  simp [bigL]
/-! ### loops over items -/
theorem rd_item (L : List S49) (i : Nat) : rd_T49 L (i : Int) = L.getD i z49 := by unfold rd_T49; rw [Int.toNat_natCast]
def fewI (x : S49) : Bool := decide (x.f0.size ≤ 60) && decide (x.f1.length ≤ 100)
def fewB (L : List S49) : Bool := L.all fewI && decide (L.length ≤ 110)
theorem few_loop (L : List S49) (hl : L.length ≤ 9223372036854775807) : ∀ (d i K : Nat), i + d = L.length → d < K → sackbutlaw25_few.l0 K L L (L.length : Int) (i : Int) = some ((L.drop i).all fewI && decide (L.length ≤ 110))
  | 0, i, K, h, hK => by
    obtain ⟨K, rfl⟩ : ∃ m, K = m + 1 := ⟨K - 1, by omega⟩
    simp only [sackbutlaw25_few.l0]
    rw [if_neg (by omega), List.drop_of_length_le (by omega), List.all_nil, Bool.true_and]
    congr 1
    exact decide_eq_decide.2 (by omega)
  | d + 1, i, K, h, hK => by
    obtain ⟨K, rfl⟩ : ∃ m, K = m + 1 := ⟨K - 1, by omega⟩
    have hi : i < L.length := by omega
    have hg : L.getD i z49 = L[i] := by rw [List.getD_eq_getElem?_getD, List.getElem?_eq_getElem hi]; rfl
    simp only [sackbutlaw25_few.l0]
    rw [if_pos (by omega), if_pos (by omega), if_pos (by omega), rd_item, hg, List.drop_eq_getElem_cons hi, List.all_cons]
    by_cases h1 : L[i].f0.size ≤ 60
    · rw [if_neg (by omega)]
      by_cases h2 : L[i].f1.length ≤ 100
      · rw [if_neg (by omega), show wrap64 ((i : Int) + 1) = ((i + 1 : Nat) : Int) by unfold wrap64; omega, few_loop L hl d (i + 1) K (by omega) (by omega)]
        simp [fewI, h1, h2]
      · rw [if_pos (by omega)]
        simp [fewI, h2]
    · rw [if_pos (by omega)]
      simp [fewI, h1]
theorem few_spec (L : List S49) (hl : L.length ≤ 9223372036854775807) (K : Nat) (hK : L.length < K) : sackbutlaw25_few.f K L = some (fewB L) := by
  have := few_loop L hl L.length 0 K (by omega) hK
  rw [List.drop_zero] at this
  unfold sackbutlaw25_few.f fewB
  exact this
theorem ref_loop (L : List S49) (hl : L.length ≤ 100000) : ∀ (d i K : Nat), i + d = L.length → d < K → sackbutlaw25_ref.l0 K ((L.take i).map toI) L (L.length : Int) (i : Int) = some (L.map toI)
  | 0, i, K, h, hK => by
    obtain ⟨K, rfl⟩ : ∃ m, K = m + 1 := ⟨K - 1, by omega⟩
    simp only [sackbutlaw25_ref.l0]
    rw [if_neg (by omega), List.take_of_length_le (by omega)]
  | d + 1, i, K, h, hK => by
    obtain ⟨K, rfl⟩ : ∃ m, K = m + 1 := ⟨K - 1, by omega⟩
    have hi : i < L.length := by omega
    have hg : L.getD i z49 = L[i] := by rw [List.getD_eq_getElem?_getD, List.getElem?_eq_getElem hi]; rfl
    simp only [sackbutlaw25_ref.l0]
    rw [if_pos (by omega), if_pos (by omega), if_pos (by omega), if_pos (by rw [List.length_map, List.length_take]; omega), rd_item, hg, show wrap64 ((i : Int) + 1) = ((i + 1 : Nat) : Int) by unfold wrap64; omega]
    have e : (L.take i).map toI ++ [(⟨L[i].f0, L[i].f1⟩ : S57)] = (L.take (i + 1)).map toI := by
      rw [List.take_succ_eq_append_getElem hi, List.map_append]
      rfl
    rw [e]
    exact ref_loop L hl d (i + 1) K (by omega) (by omega)
theorem ref_spec (L : List S49) (hl : L.length ≤ 100000) (K : Nat) (hK : L.length < K) : sackbutlaw25_ref.f K L = some (L.map toI) := ref_loop L hl L.length 0 K (by omega) hK
theorem same_loop (L : List S57) (hl : L.length ≤ 100000) : ∀ (d i K : Nat), i + d = L.length → d < K → sackbutref25_Same.l0 K L L (L.length : Int) (i : Int) = some true
  | 0, i, K, h, hK => by
    obtain ⟨K, rfl⟩ : ∃ m, K = m + 1 := ⟨K - 1, by omega⟩
    simp only [sackbutref25_Same.l0]
    rw [if_neg (by omega)]
  | d + 1, i, K, h, hK => by
    obtain ⟨K, rfl⟩ : ∃ m, K = m + 1 := ⟨K - 1, by omega⟩
    simp only [sackbutref25_Same.l0]
    rw [if_pos (by omega), if_pos (by omega), if_pos (by omega), if_pos (by omega), if_pos trivial, if_pos trivial, show wrap64 ((i : Int) + 1) = ((i + 1 : Nat) : Int) by unfold wrap64; omega]
    exact same_loop L hl d (i + 1) K (by omega) (by omega)
theorem same_spec (L : List S57) (hl : L.length ≤ 100000) (K : Nat) (hK : L.length < K) : sackbutref25_Same.f K L L = some true := by
  unfold sackbutref25_Same.f
  rw [if_pos rfl]
  exact same_loop L hl L.length 0 K (by omega) hK
end Go.Proofs.YtibmccacebhhkaaDoor.VaultPk

namespace Go.Proofs.YtibmccacebhhkaaDoor.HV
open Go.RowKit Go.Proofs.YtibmccacebhhkaaDoorW.PrintWords Go.Proofs.YtibmccacebhhkaaDoorW.PrintLast Go.Proofs.YtibmccacebhhkaaDoorW.PrintMore
attribute [local go_sem] max2_int min2_int max_two min_two max_three min_three max_four min_four
set_option linter.unusedVariables false
set_option linter.unusedSimpArgs false
structure AsideVP (p : Prop) : Prop where mk :: (out : p)
/-- 'ref' at a row that is read. -/
theorem law25_ref.gives (K : Nat) (P : Nat → Prop) (A : Option Addr) (c : Nat) (L : List S49) (W : World) (hl : L.length ≤ 100000) (hK : L.length < K) (hV : Kd.V k49 49 W W.heap.size P (.slice A L.length c) L) :
    Calls Tryd.prog 14 #[.slice A L.length c] W fun e w' => ∃ A2 c2, e = .returned (.slice A2 L.length c2) ∧ L.length ≤ c2 ∧ Kd.C k57 w' A2 L.length (L.map toI) ∧ Below W.heap.size W w' := by
  refine (sackbutlaw25_ref.calls K P A c L (L.map toI) W hV (VaultPk.ref_spec L hl K hK)).mono fun e w' ⟨v, he, hN, hb⟩ => ?_
  obtain ⟨A2, c2, ev⟩ := Kd.N_slice hN
  rw [ev] at hN
  obtain ⟨_, h2, h3⟩ := Kd.N_reads' hN
  rw [List.length_map] at ev h2 h3
  exact ⟨A2, c2, by rw [he, ev], h2, h3, hb⟩
end Go.Proofs.YtibmccacebhhkaaDoor.HV

namespace Go.Proofs.YtibmccacebhhkaaDoor.HV
open Go.RowKit Go.Proofs.YtibmccacebhhkaaDoorW.PrintWords Go.Proofs.YtibmccacebhhkaaDoorW.PrintLast Go.Proofs.YtibmccacebhhkaaDoorW.PrintMore
attribute [local go_sem] max2_int min2_int max_two min_two max_three min_three max_four min_four
set_option linter.unusedVariables false
set_option linter.unusedSimpArgs false
structure AsideRj (p : Prop) : Prop where mk :: (out : p)
/-- What the document's answer gives: bytes that lay there before, and the error. -/
def ItemPost2 (A : Option Addr) (n : Nat) (b : List Int) (w : World) (r : List Int × Int) (e : Ending) (w' : World) : Prop := ∃ A' c', e = .returned (.tuple #[.slice A' r.1.length c', .int .i64 r.2]) ∧ r.1.length ≤ c' ∧ (∀ W : World, Kd.C (Kd.int .u8) W A n b → Kd.C (Kd.int .u8) W A' r.1.length r.1) ∧ Below w.heap.size w w'
theorem item_err2 {A : Option Addr} {n : Nat} {b : List Int} {w w' : World} {x : Int} (h : Below w.heap.size w w') : ItemPost2 A n b w ([], x) (.returned (.tuple #[.slice none 0 0, .int .i64 x])) w' := ⟨none, 0, rfl, Nat.le_refl _, fun _ _ => C_none, h⟩
theorem item_ok2 {A : Option Addr} {n : Nat} {b : List Int} {w w' : World} {r : List Int} {k c' : Nat} {A' : Option Addr} (hl : r.length = k) (hc : k ≤ c') (hC : ∀ W : World, Kd.C (Kd.int .u8) W A n b → Kd.C (Kd.int .u8) W A' k r) (h : Below w.heap.size w w') : ItemPost2 A n b w (r, 0) (.returned (.tuple #[.slice A' k c', .int .i64 0])) w' := by
  subst hl
  exact ⟨A', c', rfl, hc, hC, h⟩
set_option maxRecDepth 100000 in
set_option maxHeartbeats 4000000 in
theorem ref_item2.gives (K : Nat) (cs : List Int → Int) (A : Option Addr) (b : List Int) (n c : Nat) (AL : Option Addr) (cL j : Nat) (L : List S67) (a i : Nat) (w0 w : World) (hB : Below w0.heap.size w0 w) (hc : n ≤ c) (hn : n ≤ 1000000) (hR : Kd.C (Kd.int .u8) w0 A n b) (hby : ∀ x ∈ b, 0 ≤ x ∧ x < 256) (hS : VaultItems.Sized L) (hi : i < j) (ha : a ≤ n) (hRL : Kd.C k31 w AL j (L.map toR))
    (hcs : ∀ l : List Int, (∀ x ∈ l, 0 ≤ x ∧ x < 256) → l.length ≤ n → sackbutref04_Sum.f K l = some (cs l) ∧ 0 ≤ cs l ∧ cs l < 4294967296) :
    Calls Tryd.prog 36 #[.slice A n c, .slice AL j cL, .int .i64 (a : Int), .int .i64 (i : Int)] w (ItemPost2 A n b w (VaultItems.itemE cs L (b.drop a) i)) := by
  have hbn : b.length = n := hR.1
  have hj : L.length = j := by have := hRL.1; rwa [List.length_map] at this
  have hi255 : i ≤ 255 := by have := hS.1; omega
  have HSZ := AsideRj.mk (fun (t : Nat) (ht : t < j) => hS.2 _ (VaultItems.mem_get (L := L) (i := t) (by omega)))
  have HST := AsideRj.mk (fun (t : Nat) (ht : t < j) => VaultItems.sumE_step L t (by omega))
  have HSM := AsideRj.mk (fun (t : Nat) => VaultItems.sum_small hS t)
  have HRD := AsideRj.mk (fun (t : Nat) (ht : t < j) => toR_get L t (by omega))
  have HRL := AsideRj.mk hRL
  have HR := AsideRj.mk hR
  have HBB := AsideRj.mk hB
  have HBY := AsideRj.mk hby
  have HCS := AsideRj.mk hcs
  have HBN := AsideRj.mk hbn
  have hs0 : VaultItems.sumE (L.take 0) = 0 := rfl
  have HS0 := AsideRj.mk hs0
  clear hRL hR hB hby hcs hS hj hbn hs0
  go_enter Tryd.func36, Tryd.ntmps36
  go_wp2
  go_loop [2, 10] (fun u v => ∃ t : Nat, t ≤ i ∧ v = .int .i64 t ∧ u = .int .i64 ((a : Int) + VaultItems.sumE (L.take t))) (fun _ v => i - (intOf v).toNat)
  case atStart => exact ⟨0, Nat.zero_le _, rfl, by rw [HS0.out]; simp⟩
  case round =>
    obtain ⟨t, ht, rfl, rfl⟩ := hrel
    by_cases hlt : t < i
    · obtain ⟨ad, e, _, f1, _⟩ := at_T31 HRL.out (t : Int) (by omega) (by omega)
      subst e
      rw [HRD.out t (by omega), Int.toNat_natCast] at f1
      have f1' : w.cell? ⟨(ad.add (t * 3)).block, (ad.add (t * 3)).off + 1, none⟩ = some (.int .i64 (L.getD t z67).f1) := f1
      clear f1
      have HN := AsideRj.mk (HST.out t (by omega))
      obtain ⟨z0, z1, _⟩ := HSZ.out t (by omega)
      obtain ⟨s0, s1⟩ := HSM.out t
      generalize (L.getD t z67).f1 = z at *
      generalize VaultItems.sumE (L.take t) = q at *
      go_wp2
      go_round
      case rel => exact ⟨t + 1, by omega, by go_num, by rw [HN.out]; first | rfl | (congr 1; omega)⟩
      case measure => simp [intOf]; omega
    · obtain rfl : t = i := by omega
      obtain ⟨ad, e, _, f1, f2⟩ := at_T31 HRL.out (t : Int) (by omega) (by omega)
      subst e
      rw [HRD.out t (by omega), Int.toNat_natCast] at f1 f2
      have f1' : w.cell? ⟨(ad.add (t * 3)).block, (ad.add (t * 3)).off + 1, none⟩ = some (.int .i64 (L.getD t z67).f1) := f1
      have f2' : w.cell? ⟨(ad.add (t * 3)).block, (ad.add (t * 3)).off + 2, none⟩ = some (.int .i64 (L.getD t z67).f2) := f2
      clear f1 f2
      obtain ⟨z0, z1, z2, z3⟩ := HSZ.out t (by omega)
      obtain ⟨s0, s1⟩ := HSM.out t
      obtain ⟨f, hf⟩ : ∃ f : Nat, VaultItems.sumE (L.take t) = (f : Int) := ⟨(VaultItems.sumE (L.take t)).toNat, by omega⟩
      obtain ⟨s, hs⟩ : ∃ s : Nat, (L.getD t z67).f1 = (s : Int) := ⟨(L.getD t z67).f1.toNat, by omega⟩
      obtain ⟨sm, hm⟩ : ∃ sm, (L.getD t z67).f2 = sm := ⟨_, rfl⟩
      have HIT := AsideRj.mk (item_eq cs L (b.drop a) t hf hs hm)
      rw [hf] at s0 s1 ⊢
      rw [hs] at f1' z0 z1
      rw [hm] at f2' z2 z3
      clear hf hs hm ht hlt
      have HB0 := AsideRj.mk (Below.refl w.heap.size w)
      obtain ⟨p, hp⟩ : ∃ p : Int, (a : Int) + (f : Int) = p := ⟨_, rfl⟩
      obtain ⟨z, hz⟩ : ∃ z : Int, (s : Int) = z := ⟨_, rfl⟩
      rw [hp]
      rw [hz] at f1' z0 z1
      have p0 : 0 ≤ p := by omega
      have p1 : p ≤ 4279190080 := by omega
      by_cases hlen : n < a + f + s
      · have hr : VaultItems.itemE cs L (b.drop a) t = ([], 3) := by rw [HIT.out, if_pos (by rw [List.length_drop, HBN.out]; omega)]
        have HRR := AsideRj.mk hr
        have hgt : (n : Int) < p + z := by omega
        clear hr HIT hp hz hlen s0 s1
        go_wp2
        go_ret2
        rw [HRR.out]
        exact item_err2 HB0.out
      · obtain ⟨A5, h5, r5⟩ := cut_mid A n c (a + f) (a + f + s) (by omega) (by omega) hc
        rw [show a + f + s - (a + f) = s by omega] at h5 r5
        have hol : ((b.drop (a + f)).take s).length = s := by rw [List.length_take, List.length_drop, HBN.out]; omega
        have hob : ∀ x ∈ (b.drop (a + f)).take s, 0 ≤ x ∧ x < 256 := fun x hx => HBY.out x (List.mem_of_mem_drop (List.mem_of_mem_take hx))
        obtain ⟨q1, q2, q3⟩ := HCS.out _ hob (by rw [hol]; omega)
        have hC5 := r5 _ _ HR.out
        have HSUM : AsideRj (∀ W : World, Below w.heap.size w W → Calls Tryd.prog 25 #[.slice A5 s (c - (a + f))] W fun e w' => e = .returned (.int .u32 (cs ((b.drop (a + f)).take s))) ∧ Drawn0 W w') := by
          refine ⟨fun W hW => ?_⟩
          have h := sackbutref04_Sum.calls K A5 (c - (a + f)) ((b.drop (a + f)).take s) _ W (by rw [hol]; exact Kd.C_below hC5 (below_then HBB.out HBB.out.size hW)) (by rw [hol]; omega) q1
          rwa [hol] at h
        have hr : VaultItems.itemE cs L (b.drop a) t = if cs ((b.drop (a + f)).take s) = sm then ((b.drop (a + f)).take s, 0) else ([], 13) := by
          rw [HIT.out, if_neg (by rw [List.length_drop, HBN.out]; omega), List.drop_drop]
        have HRR := AsideRj.mk hr
        have HC5 := AsideRj.mk (And.intro hol (fun (W : World) (h : Kd.C (Kd.int .u8) W A n b) => r5 W b h))
        generalize cs ((b.drop (a + f)).take s) = y at *
        generalize (b.drop (a + f)).take s = out at *
        clear hr HIT hob q1 r5 hC5 hol
        obtain ⟨cc, hcc⟩ : ∃ cc, c - (a + f) = cc := ⟨_, rfl⟩
        have hsc : s ≤ cc := by omega
        rw [hcc] at h5 HSUM
        clear hcc
        have e1 : ((a + f : Nat) : Int) = p := by omega
        have e2 : ((a + f + s : Nat) : Int) = p + z := by omega
        rw [e1, e2] at h5
        have hk1 : p + z ≤ (n : Int) := by omega
        clear e1 e2 hp hz hlen s0 s1
        go_upto_region 8 with (fail)
        have HSd := AsideRj.mk (below_drew HB0.out)
        have f2d := pw_cell_below HSd.out f2'
        have hwy : IntKind.i64.wrap y = y := by rw [IntKind.wrap_i64]; omega
        have hwy2 : wrap64 y = y := by unfold wrap64; omega
        have ti0 : (0 : Int) ≤ (t : Int) := by omega
        have ti1 : (t : Int) < (j : Int) := by omega
        by_cases hxy : y = sm
        · have hne : (y != sm) = false := bne_eq_false_iff_eq.mpr hxy
          have hne3 : (y == sm) = true := beq_iff_eq.mpr hxy
          have HXY := AsideRj.mk hxy
          clear hxy
          refine start_ (n := 9) (S := fun w' => w'.cell? ⟨(ad.add (t * 3)).block, (ad.add (t * 3)).off + 2, none⟩ = some (.int .i64 sm) ∧ AsideRj (Below w.heap.size w w')) (ds := []) #[false, false, false, false, false, false, false, false, false] (by kernel_rfl) rfl rfl ⟨f2d, HSd⟩ (fun hHeld => ?_)
          refine pure_ (i := 0) (N := some 44) (v := ?_) (a' := ?_) #[true, false, false, false, false, false, false, false, false] rfl rfl (by kernel_rfl) (fun _ _ _ h => h) (Or.inl ⟨by rfl, ?_⟩) ?_ ?_
          rotate_left
          · intro w'
            go_simp
            with_reducible rfl
          rotate_left
          · simp only [Act.put, List.setIfInBounds_toArray, List.set_cons_zero, List.set_cons_succ, i64_w, i32_w]
            rfl
          refine pure_ (i := 3) (N := some 47) (v := ?_) (a' := ?_) #[true, false, false, true, false, false, false, false, false] rfl rfl (by kernel_rfl) (fun _ _ _ h => h) (Or.inl ⟨by rfl, ?_⟩) ?_ ?_
          rotate_left
          · intro w'
            go_simp
            with_reducible rfl
          rotate_left
          · simp only [Act.put, List.setIfInBounds_toArray, List.set_cons_zero, List.set_cons_succ, i64_w, i32_w]
            rfl
          refine pure_ (i := 4) (N := some 48) (v := ?_) (a' := ?_) #[true, false, false, true, true, false, false, false, false] rfl rfl (by kernel_rfl) (fun _ _ _ h => h) (Or.inl ⟨by rfl, ?_⟩) ?_ ?_
          rotate_left
          · intro w'
            go_simp
            with_reducible rfl
          rotate_left
          · simp only [Act.put, List.setIfInBounds_toArray, List.set_cons_zero, List.set_cons_succ, i64_w, i32_w]
            rfl
          refine pure_ (i := 5) (N := some 49) (v := ?_) (a' := ?_) #[true, false, false, true, true, true, false, false, false] rfl rfl (by kernel_rfl) (fun _ _ _ h => h) (Or.inl ⟨by rfl, ?_⟩) ?_ ?_
          rotate_left
          · intro w'
            go_simp
            with_reducible rfl
          rotate_left
          · simp only [Act.put, List.setIfInBounds_toArray, List.set_cons_zero, List.set_cons_succ, i64_w, i32_w]
            rfl
          refine pure_ (i := 6) (N := some 50) (v := ?_) (a' := ?_) #[true, false, false, true, true, true, true, false, false] rfl rfl (by kernel_rfl) (fun _ _ _ h => h) (Or.inl ⟨by rfl, ?_⟩) ?_ ?_
          rotate_left
          · intro w'
            go_simp
            with_reducible rfl
          rotate_left
          · simp only [Act.put, List.setIfInBounds_toArray, List.set_cons_zero, List.set_cons_succ, i64_w, i32_w]
            rfl
          refine take_ (i := 7) (N := some 51) (v := ?_) (a' := ?_) #[true, false, false, true, true, true, true, true, false] rfl rfl (by kernel_rfl) (fun _ _ _ h => h) (Or.inl ⟨by rfl, ?_⟩) hHeld ?_ ?_
          rotate_left
          · rintro w' ⟨s0, s1⟩
            go_simp
            with_reducible rfl
          rotate_left
          · simp only [Act.put, List.setIfInBounds_toArray, List.set_cons_zero, List.set_cons_succ, i64_w, i32_w]
            rfl
          refine one_ (i := 1) (N := some 45) #[true, true, false, true, true, true, true, true, false] rfl rfl (by kernel_rfl) (by decide) (fun K hK => ?_)
          refine goes_ Tryd.func25 (by kernel_rfl) rfl #[.slice A5 s cc] (by rfl) rfl rfl (by simp only [List.map_toArray, List.map_cons, List.map_nil]; rfl) ?_
          with_reducible refine (HSUM.out _ hHeld.2.out).mono ?_
          rintro e w3 ⟨rfl, hd⟩
          refine ⟨_, rfl, ?_⟩
          refine hK.out _ _ ⟨pw_cell_below hd.below hHeld.1, ⟨below_step hHeld.2.out hd.below⟩⟩ (fun hHeld => ?_)
          clear hK K
          refine norm_ (a' := ?_) ?_ ?_
          rotate_left
          · show Act.put _ (some 45) _ = _
            simp only [Act.put, List.setIfInBounds_toArray, List.set_cons_zero, List.set_cons_succ, i64_w, i32_w]
            rfl
          refine pure_ (i := 2) (N := some 46) (v := ?_) (a' := ?_) #[true, true, true, true, true, true, true, true, false] rfl rfl (by kernel_rfl) (fun _ _ _ h => h) (Or.inl ⟨by rfl, ?_⟩) ?_ ?_
          rotate_left
          · intro w'
            go_simp
            with_reducible rfl
          rotate_left
          · simp only [Act.put, List.setIfInBounds_toArray, List.set_cons_zero, List.set_cons_succ, i64_w, i32_w]
            rfl
          refine pure_ (i := 8) (N := some 52) (v := ?_) (a' := ?_) #[true, true, true, true, true, true, true, true, true] rfl rfl (by kernel_rfl) (fun _ _ _ h => h) (Or.inl ⟨by rfl, ?_⟩) ?_ ?_
          rotate_left
          · intro w'
            go_simp
            with_reducible rfl
          rotate_left
          · simp only [Act.put, List.setIfInBounds_toArray, List.set_cons_zero, List.set_cons_succ, i64_w, i32_w]
            rfl
          refine done_ (by kernel_rfl) ?_
          go_wp2_with (fail)
          go_ret2
          rw [HRR.out, if_pos HXY.out]
          exact item_ok2 HC5.out.1 hsc HC5.out.2 hHeld.2.out
        · have hne : (y != sm) = true := bne_iff_ne.mpr hxy
          have hne3 : (y == sm) = false := beq_eq_false_iff_ne.mpr hxy
          have HXY := AsideRj.mk hxy
          clear hxy
          refine start_ (n := 9) (S := fun w' => w'.cell? ⟨(ad.add (t * 3)).block, (ad.add (t * 3)).off + 2, none⟩ = some (.int .i64 sm) ∧ AsideRj (Below w.heap.size w w')) (ds := []) #[false, false, false, false, false, false, false, false, false] (by kernel_rfl) rfl rfl ⟨f2d, HSd⟩ (fun hHeld => ?_)
          refine pure_ (i := 0) (N := some 44) (v := ?_) (a' := ?_) #[true, false, false, false, false, false, false, false, false] rfl rfl (by kernel_rfl) (fun _ _ _ h => h) (Or.inl ⟨by rfl, ?_⟩) ?_ ?_
          rotate_left
          · intro w'
            go_simp
            with_reducible rfl
          rotate_left
          · simp only [Act.put, List.setIfInBounds_toArray, List.set_cons_zero, List.set_cons_succ, i64_w, i32_w]
            rfl
          refine pure_ (i := 3) (N := some 47) (v := ?_) (a' := ?_) #[true, false, false, true, false, false, false, false, false] rfl rfl (by kernel_rfl) (fun _ _ _ h => h) (Or.inl ⟨by rfl, ?_⟩) ?_ ?_
          rotate_left
          · intro w'
            go_simp
            with_reducible rfl
          rotate_left
          · simp only [Act.put, List.setIfInBounds_toArray, List.set_cons_zero, List.set_cons_succ, i64_w, i32_w]
            rfl
          refine pure_ (i := 4) (N := some 48) (v := ?_) (a' := ?_) #[true, false, false, true, true, false, false, false, false] rfl rfl (by kernel_rfl) (fun _ _ _ h => h) (Or.inl ⟨by rfl, ?_⟩) ?_ ?_
          rotate_left
          · intro w'
            go_simp
            with_reducible rfl
          rotate_left
          · simp only [Act.put, List.setIfInBounds_toArray, List.set_cons_zero, List.set_cons_succ, i64_w, i32_w]
            rfl
          refine pure_ (i := 5) (N := some 49) (v := ?_) (a' := ?_) #[true, false, false, true, true, true, false, false, false] rfl rfl (by kernel_rfl) (fun _ _ _ h => h) (Or.inl ⟨by rfl, ?_⟩) ?_ ?_
          rotate_left
          · intro w'
            go_simp
            with_reducible rfl
          rotate_left
          · simp only [Act.put, List.setIfInBounds_toArray, List.set_cons_zero, List.set_cons_succ, i64_w, i32_w]
            rfl
          refine pure_ (i := 6) (N := some 50) (v := ?_) (a' := ?_) #[true, false, false, true, true, true, true, false, false] rfl rfl (by kernel_rfl) (fun _ _ _ h => h) (Or.inl ⟨by rfl, ?_⟩) ?_ ?_
          rotate_left
          · intro w'
            go_simp
            with_reducible rfl
          rotate_left
          · simp only [Act.put, List.setIfInBounds_toArray, List.set_cons_zero, List.set_cons_succ, i64_w, i32_w]
            rfl
          refine take_ (i := 7) (N := some 51) (v := ?_) (a' := ?_) #[true, false, false, true, true, true, true, true, false] rfl rfl (by kernel_rfl) (fun _ _ _ h => h) (Or.inl ⟨by rfl, ?_⟩) hHeld ?_ ?_
          rotate_left
          · rintro w' ⟨s0, s1⟩
            go_simp
            with_reducible rfl
          rotate_left
          · simp only [Act.put, List.setIfInBounds_toArray, List.set_cons_zero, List.set_cons_succ, i64_w, i32_w]
            rfl
          refine one_ (i := 1) (N := some 45) #[true, true, false, true, true, true, true, true, false] rfl rfl (by kernel_rfl) (by decide) (fun K hK => ?_)
          refine goes_ Tryd.func25 (by kernel_rfl) rfl #[.slice A5 s cc] (by rfl) rfl rfl (by simp only [List.map_toArray, List.map_cons, List.map_nil]; rfl) ?_
          with_reducible refine (HSUM.out _ hHeld.2.out).mono ?_
          rintro e w3 ⟨rfl, hd⟩
          refine ⟨_, rfl, ?_⟩
          refine hK.out _ _ ⟨pw_cell_below hd.below hHeld.1, ⟨below_step hHeld.2.out hd.below⟩⟩ (fun hHeld => ?_)
          clear hK K
          refine norm_ (a' := ?_) ?_ ?_
          rotate_left
          · show Act.put _ (some 45) _ = _
            simp only [Act.put, List.setIfInBounds_toArray, List.set_cons_zero, List.set_cons_succ, i64_w, i32_w]
            rfl
          refine pure_ (i := 2) (N := some 46) (v := ?_) (a' := ?_) #[true, true, true, true, true, true, true, true, false] rfl rfl (by kernel_rfl) (fun _ _ _ h => h) (Or.inl ⟨by rfl, ?_⟩) ?_ ?_
          rotate_left
          · intro w'
            go_simp
            with_reducible rfl
          rotate_left
          · simp only [Act.put, List.setIfInBounds_toArray, List.set_cons_zero, List.set_cons_succ, i64_w, i32_w]
            rfl
          refine pure_ (i := 8) (N := some 52) (v := ?_) (a' := ?_) #[true, true, true, true, true, true, true, true, true] rfl rfl (by kernel_rfl) (fun _ _ _ h => h) (Or.inl ⟨by rfl, ?_⟩) ?_ ?_
          rotate_left
          · intro w'
            go_simp
            with_reducible rfl
          rotate_left
          · simp only [Act.put, List.setIfInBounds_toArray, List.set_cons_zero, List.set_cons_succ, i64_w, i32_w]
            rfl
          refine done_ (by kernel_rfl) ?_
          go_wp2_with (fail)
          go_ret2
          rw [HRR.out, if_neg HXY.out]
          exact item_err2 hHeld.2.out
structure AsideRu (p : Prop) : Prop where mk :: (out : p)
/-- What unpacking gives, as the document has it: items whose bytes lay there before, and the error. -/
def RUnPost (w : World) (P0 : Nat → Prop) (r : List S49 × Int) (e : Ending) (w' : World) : Prop := ∃ v, e = .returned (.tuple #[v, .int .i64 r.2]) ∧ Kd.N k57 57 w' w.heap.size (fun k => P0 k ∨ w.heap.size ≤ k) v (r.1.map toI) ∧ Below w.heap.size w w'
theorem runpack_err {w w' : World} {P0 : Nat → Prop} {x : Int} (h : Below w.heap.size w w') : RUnPost w P0 ([], x) (.returned (.tuple #[.slice none 0 0, .int .i64 x])) w' := ⟨_, rfl, Kd.N_nil _ _ _ _ _, h⟩
theorem info_itemD : (Tryd.prog.info? 57).map (fun i => (i.zero, i.size, i.bytes)) = some (some (.agg #[(.string ⟨#[]⟩), (.slice none 0 0)]), 2, 40) := by kernel_rfl
set_option maxRecDepth 100000 in
set_option maxHeartbeats 4000000 in
theorem ref_unpack.gives (K : Nat) (cs : List Int → Int) (P0 : Nat → Prop) (A : Option Addr) (b : List Int) (n c : Nat) (w : World) (hP : ∀ k, P0 k → k < w.heap.size) (hc : n ≤ c) (hn : n ≤ 1000000) (hF : Kd.F (Kd.int .u8) w P0 A n b) (hby : ∀ x ∈ b, 0 ≤ x ∧ x < 256)
    (hcs : ∀ l : List Int, (∀ x ∈ l, 0 ≤ x ∧ x < 256) → l.length ≤ n → sackbutref04_Sum.f K l = some (cs l) ∧ 0 ≤ cs l ∧ cs l < 4294967296)
    (hnum : ∀ l : List Int, l.length ≤ 4 → (∀ x ∈ l, 0 ≤ x ∧ x < 256) → sackbutref25_number.f K l = some (beL l)) (hri : ∀ s : ByteArray, s.size ≤ 1000 → sackbutref25_Right.f K s [] = some (namedB s)) :
    Calls Tryd.prog 20 #[.slice A n c] w (RUnPost w P0 (VaultUnp.unpackV cs b)) := by
  have hR := Kd.F_now hF
  have hbn : b.length = n := hR.1
  obtain ⟨at_, hro, hrest, _⟩ := VaultOpen.open_eq cs b hby
  have HOP := AsideRu.mk (ref_open.gives K cs A b n c w hc hn hR hby (fun m hm => hcs (b.take m) (fun x hx => hby x (List.mem_of_mem_take hx)) (by rw [List.length_take]; omega)) hnum hri)
  rw [hro] at HOP
  have hS := VaultItems.open_sized cs b hby
  obtain ⟨r, hr⟩ : ∃ r, openS cs b = r := ⟨_, rfl⟩
  rw [hr] at HOP hS hrest
  obtain ⟨L, rest, code⟩ := r
  dsimp only at hS hrest HOP
  have HO := AsideRu.mk hr
  have HRS := AsideRu.mk hrest
  obtain ⟨j, hj⟩ : ∃ j, L.length = j := ⟨_, rfl⟩
  have hj255 : j ≤ 255 := by rw [← hj]; exact hS.1
  have HJ := AsideRu.mk hj
  have HIT := AsideRu.mk (fun (W : World) (hW : Below w.heap.size w W) (AL : Option Addr) (cL t : Nat) (ht : t < j) (ha : at_ ≤ n) (hRL : Kd.C k31 W AL j (L.map toR)) => ref_item2.gives K cs A b n c AL cL j L at_ t w W hW hc hn hR hby hS ht ha hRL hcs)
  have HBN := AsideRu.mk hbn
  have HRD := AsideRu.mk (fun (t : Nat) (ht : t < j) => toR_get L t (by omega))
  have HSZ := AsideRu.mk (fun (t : Nat) (ht : t < j) => hS.2 _ (VaultItems.mem_get (L := L) (i := t) (by omega)))
  have HST := AsideRu.mk (fun (t : Nat) (ht : t < j) => VaultItems.sumE_step L t (by omega))
  have HSM := AsideRu.mk (fun (t : Nat) => VaultItems.sum_small hS t)
  have HTT : AsideRu (VaultItems.sumE (L.take j) = VaultItems.sumE L) := ⟨by rw [← hj, List.take_length]⟩
  have HS0 := AsideRu.mk (show VaultItems.sumE (L.take 0) = 0 from rfl)
  have HF := AsideRu.mk hF
  have HP := AsideRu.mk hP
  clear hR hF hP hby hcs hS hr hj hnum hri hro hrest hbn
  go_enter Tryd.func20, Tryd.ntmps20
  go_upto_region 2 with (go_at_call 9; (with_reducible refine (HOP.out).mono ?_); rintro e w1 ⟨v, rfl, hrow, hb⟩; obtain ⟨AL, cL, ev⟩ := Kd.R_slice hrow; rw [List.length_map, HJ.out] at ev; subst ev; have HRL := AsideRu.mk (Kd.R_reads' hrow).2.2; have HB1 := AsideRu.mk hb; clear hrow hb)
  by_cases hcode : code = 0
  · subst hcode
    obtain ⟨ha, hrs⟩ := HRS.out rfl
    rw [HBN.out] at ha
    have hrl : rest.length = n - at_ := by rw [hrs, List.length_drop, HBN.out]
    have HRS2 := AsideRu.mk (And.intro hrs hrl)
    clear hrs hrl
    rw [List.length_map, HJ.out] at HRL
    go_wp2_with (fail)
    go_loop [7, 25] (fun u v => ∃ t : Nat, t ≤ j ∧ v = .int .i64 t ∧ u = .int .i64 ((at_ : Int) + VaultItems.sumE (L.take t))) (fun _ v => j - (intOf v).toNat)
    case atStart => exact ⟨0, Nat.zero_le _, rfl, by rw [HS0.out]; simp⟩
    case round =>
      obtain ⟨t, ht, rfl, rfl⟩ := hrel
      by_cases hlt : t < j
      · obtain ⟨ad, e, _, f1, _⟩ := at_T31 HRL.out (t : Int) (by omega) (by omega)
        subst e
        rw [HRD.out t hlt, Int.toNat_natCast] at f1
        have f1' : w1.cell? ⟨(ad.add (t * 3)).block, (ad.add (t * 3)).off + 1, none⟩ = some (.int .i64 (L.getD t z67).f1) := f1
        clear f1
        have HN := AsideRu.mk (HST.out t hlt)
        obtain ⟨z0, z1, _⟩ := HSZ.out t hlt
        obtain ⟨s0, s1⟩ := HSM.out t
        generalize (L.getD t z67).f1 = z at *
        generalize VaultItems.sumE (L.take t) = q at *
        go_wp2
        go_round
        case rel => exact ⟨t + 1, by omega, by go_num, by rw [HN.out]; first | rfl | (congr 1; omega)⟩
        case measure => simp [intOf]; omega
      · obtain rfl : t = j := by omega
        rw [HTT.out]
        obtain ⟨s0, s1⟩ := HSM.out t
        rw [HTT.out] at s0 s1
        obtain ⟨T, hT⟩ : ∃ T, VaultItems.sumE L = T := ⟨_, rfl⟩
        rw [hT] at s0 s1 ⊢
        obtain ⟨p, hp⟩ : ∃ p : Int, (at_ : Int) + T = p := ⟨_, rfl⟩
        rw [hp]
        by_cases hgt : (n : Int) < p
        · have hr3 := VaultUnp.unpackV_short HO.out (by rw [hT, HRS2.out.2]; omega)
          have HRR := AsideRu.mk hr3
          clear hr3 hp hT s0 s1 hlt ht
          go_wp2_with (fail)
          go_ret2
          rw [HRR.out]
          exact runpack_err HB1.out
        · by_cases hls : p < (n : Int)
          · have hr3 := VaultUnp.unpackV_more HO.out (by rw [hT, HRS2.out.2]; omega)
            have HRR := AsideRu.mk hr3
            clear hr3 hp hT s0 s1 hlt ht
            go_wp2_with (fail)
            go_ret2
            rw [HRR.out]
            exact runpack_err HB1.out
          · have hr3 := VaultUnp.unpackV_fit HO.out (by rw [hT, HRS2.out.2]; omega)
            have HRR := AsideRu.mk hr3
            have HBR := AsideRu.mk (Below.refl w1.heap.size w1)
            clear hr3 hp hT s0 s1 hlt ht
            go_wp2_with (fail)
            go_loopw [9, 46] (fun v u wr => ∃ (i : Nat) (l : List S49), i ≤ t ∧ u = .int .i64 i ∧ AsideRu (VaultUnp.itemsE cs L rest i = (l, 0)) ∧ AsideRu (Below w.heap.size w wr ∧ Below w1.heap.size w1 wr) ∧ AsideRu (Kd.N k57 57 wr w1.heap.size (fun k => P0 k ∨ w.heap.size ≤ k) v (l.map toI))) (fun _ u _ => t - (intOf u).toNat)
            case atStart => exact ⟨0, [], Nat.zero_le _, rfl, ⟨rfl⟩, ⟨HB1.out, HBR.out⟩, ⟨Kd.N_nil _ _ _ _ _⟩⟩
            case round =>
              obtain ⟨i, l, hi, rfl, HI, HBr, HNr⟩ := hrel
              by_cases hlt2 : i < t
              · have hRLr := Kd.C_below HRL.out HBr.out.2
                obtain ⟨ad, e, f0, _, _⟩ := at_T31 hRLr (i : Int) (by omega) (by omega)
                subst e
                rw [HRD.out i hlt2, Int.toNat_natCast] at f0
                have f0' : wr.cell? (ad.add (i * 3)) = some (.string (L.getD i z67).f0) := f0
                clear f0
                have HI2 := HIT.out wr HBr.out.1 (some ad) cL i hlt2 ha hRLr
                rw [← HRS2.out.1] at HI2
                have HI3 := AsideRu.mk HI2
                clear HI2
                obtain ⟨r, hr⟩ : ∃ r, VaultItems.itemE cs L rest i = r := ⟨_, rfl⟩
                rw [hr] at HI3
                obtain ⟨r1, r2⟩ := r
                have HN0 := AsideRu.mk (fun (h : r2 = 0) => VaultUnp.itemsE_ok HI.out (hr.trans (by rw [h])))
                have HN1 := AsideRu.mk (fun (h : r2 ≠ 0) => VaultUnp.itemsE_bad HI.out hr h (t - (i + 1)))
                rw [show i + 1 + (t - (i + 1)) = t by omega] at HN1
                have HLE := AsideRu.mk (VaultUnp.itemsE_len HI.out)
                clear hr hRLr
                generalize (L.getD i z67).f0 = nm at *
                go_upto_region 19 with (go_at_call 36; refine (HI3.out).mono ?_; rintro e w2 ⟨A4, c4, rfl, hcc, hC4, hb4⟩; have HX := AsideRu.mk (And.intro hcc (And.intro hC4 hb4)); have HB2 := AsideRu.mk (below_step HBr.out.1 hb4); have HB3 := AsideRu.mk (below_step HBr.out.2 hb4); have HN2 := AsideRu.mk (Kd.N_below HNr.out hb4); have f0'' := pw_cell_below hb4 f0'; clear hcc hC4 hb4 f0')
                by_cases hr2 : r2 = 0
                · subst hr2
                  have HNX := AsideRu.mk (HN0.out rfl)
                  clear HN0 HN1
                  have HFC : AsideRu (Kd.F (Kd.int .u8) w2 (fun k => (P0 k ∨ w.heap.size ≤ k) ∧ some k ≠ (u9 : Value).ownBlock) A4 r1.length r1) := ⟨Kd.F_mono (Kd.F_imp (Kd.F_below HF.out HB2.out) (fun W' h => HX.out.2.1 W' h)) (fun k hk => ⟨.inl hk, fun e => by have h1 := Kd.N_base HN2.out k e.symm; have h2 := HP.out k hk; have h3 := HB1.out.size; omega⟩)⟩
                  go_wp2_with ((with_reducible refine gate_dst (N := 69) rfl ?_); refine Kd.N_append k57 (w0 := w1) w1.heap.size rfl (.tmp 60) (.tmp 68) 37 57 (.agg #[(.string ⟨#[]⟩), (.slice none 0 0)]) 40 rfl Tryd.underlying37 info_itemD rfl (by decide) (by omega) u9 (l.map toI) (⟨nm, r1⟩ : S57) [.string nm, .slice A4 r1.length c4] (fun k => P0 k ∨ w.heap.size ≤ k) (fun k => (P0 k ∨ w.heap.size ≤ k) ∧ some k ≠ (u9 : Value).ownBlock) rfl rfl ?aP (fun _ hk => hk) ?aF ?aO ?aB ?aS ?aL ?_; (case aP => exact k57_mkF _ _ (⟨nm, r1⟩ : S57) HX.out.1 HFC.out); (case aF => exact (fun k hk => .inr (Nat.le_trans HB2.out.size hk))); (case aO => exact HN2.out); (case aB => exact HB3.out); (case aS => exact HB3.out.size); (case aL => rw [List.length_map, HLE.out]; omega); intro v9 w9 ho hb hgr _; have HN9 := AsideRu.mk ho; have HB10 := AsideRu.mk hb; have HB9 := AsideRu.mk (below_step HB1.out hb); clear ho hb hgr)
                  go_roundw
                  case rel => exact ⟨i + 1, _, by omega, by go_num, HNX, ⟨HB9.out, HB10.out⟩, ⟨by rw [List.map_append]; exact HN9.out⟩⟩
                  case measure => simp [intOf]; omega
                · have hne : (r2 != 0) = true := bne_iff_ne.mpr hr2
                  have hne2 : (r2 == 0) = false := beq_eq_false_iff_ne.mpr hr2
                  have HNB := AsideRu.mk (HN1.out hr2)
                  clear HN0 HN1
                  go_wp2_with (fail)
                  go_ret2
                  rw [HRR.out, HJ.out, HNB.out]
                  exact runpack_err HB2.out
              · obtain rfl : i = t := by omega
                go_wp2_with (fail)
                go_ret2
                rw [HRR.out, HJ.out, HI.out]
                exact ⟨_, rfl, Kd.N_lower HNr.out HB1.out.size, HBr.out.1⟩
  · have hne : (code != 0) = true := bne_iff_ne.mpr hcode
    have hne2 : (code == 0) = false := beq_eq_false_iff_ne.mpr hcode
    go_wp2_with (fail)
    go_ret2
    rw [VaultUnp.unpackV_bad HO.out hcode]
    exact runpack_err HB1.out

end Go.Proofs.YtibmccacebhhkaaDoor.HV

namespace Go.Proofs.YtibmccacebhhkaaDoor.VaultBack2
set_option linter.unusedVariables false
open Go Go.RowKit Go.Proofs.YtibmccacebhhkaaDoor.HV Go.Proofs.YtibmccacebhhkaaDoor.VaultItems Go.Proofs.YtibmccacebhhkaaDoor.VaultUnp Go.Proofs.YtibmccacebhhkaaDoor.VaultBack Go.Proofs.YtibmccacebhhkaaDoorW.PrintWords Go.Proofs.YtibmccacebhhkaaDoorW.PrintLast

def Bs (l : List Int) : Prop := ∀ x ∈ l, 0 ≤ x ∧ x < 256
theorem big_be3 : ∀ l : List Int, Bs l → l.length = 3 → bigL (beL l) 3 = l
  | [x, y, z], h, _ => by
    have hx := h x (by simp)
    have hy := h y (by simp)
    have hz := h z (by simp)
    show [(((0 * 256 + x) * 256 + y) * 256 + z) / 256 ^ 2 % 256, (((0 * 256 + x) * 256 + y) * 256 + z) / 256 ^ 1 % 256, (((0 * 256 + x) * 256 + y) * 256 + z) / 256 ^ 0 % 256] = [x, y, z]
    rw [show (256 : Int) ^ 2 = 65536 from rfl, show (256 : Int) ^ 1 = 256 from rfl, show (256 : Int) ^ 0 = 1 from rfl]
    congr 1
    · omega
    · congr 1
      · omega
      · congr 1
        omega
theorem big_be4 : ∀ l : List Int, Bs l → l.length = 4 → bigL (beL l) 4 = l
  | [x, y, z, u], h, _ => by
    have hx := h x (by simp)
    have hy := h y (by simp)
    have hz := h z (by simp)
    have hu := h u (by simp)
    show [((((0 * 256 + x) * 256 + y) * 256 + z) * 256 + u) / 256 ^ 3 % 256, ((((0 * 256 + x) * 256 + y) * 256 + z) * 256 + u) / 256 ^ 2 % 256, ((((0 * 256 + x) * 256 + y) * 256 + z) * 256 + u) / 256 ^ 1 % 256, ((((0 * 256 + x) * 256 + y) * 256 + z) * 256 + u) / 256 ^ 0 % 256] = [x, y, z, u]
    rw [show (256 : Int) ^ 3 = 16777216 from rfl, show (256 : Int) ^ 2 = 65536 from rfl, show (256 : Int) ^ 1 = 256 from rfl, show (256 : Int) ^ 0 = 1 from rfl]
    congr 1
    · omega
    · congr 1
      · omega
      · congr 1
        · omega
        · congr 1
          omega
theorem bytes_back (l : List Int) (h : Bs l) : bytesOf (strOfNums l) = l := by
  unfold bytesOf
  rw [← ByteArray.toList_eq, VaultOpen.strOfNums_list, List.map_map]
  conv => rhs; rw [← List.map_id l]
  refine List.map_congr_left (fun x hx => ?_)
  exact VaultOpen.u8_back x (h x hx)
theorem str_len (l : List Int) : (strOfNums l).size = l.length := by simp [strOfNums, ByteArray.size]
/-- An entry's bytes. -/
def encR (e : S31) : List Int := [(e.f0.size : Int)] ++ bytesOf e.f0 ++ bigL e.f1 3 ++ bigL e.f2 4
theorem take_more (b : List Int) (a k : Nat) : b.take (a + k) = b.take a ++ (b.drop a).take k := List.take_add
theorem ents_enc (b : List Int) (hb : Bs b) (h5 : 5 ≤ b.length) : ∀ (j : Nat) (M : List S31) (a : Nat), rEnts b j = some (M, a) → a ≤ b.length ∧ b.take a = b.take 5 ++ M.flatMap encR ∧ M.length = j
  | 0, M, a, h => by
    cases h
    exact ⟨h5, by simp, rfl⟩
  | j + 1, M, a, h => by
    have h' : (rEnts b j).bind _ = some (M, a) := h
    cases hr : rEnts b j with
    | none => rw [hr] at h'; cases h'
    | some p =>
      obtain ⟨M0, a0⟩ := p
      rw [hr, Option.bind_some] at h'
      dsimp only at h'
      split at h'
      next hfit =>
        obtain ⟨i1, i2, i3⟩ := ents_enc b hb h5 j M0 a0 hr
        obtain ⟨f1, f2⟩ := hfit
        simp only [Option.some.injEq, Prod.mk.injEq] at h'
        obtain ⟨rfl, rfl⟩ := h'
        have hx := hb (b.getD a0 0) (by rw [List.getD_eq_getElem?_getD, List.getElem?_eq_getElem f1]; exact List.getElem_mem _)
        obtain ⟨k, hk⟩ : ∃ k, (b.getD a0 0).toNat = k := ⟨_, rfl⟩
        rw [hk] at f2 ⊢
        have hki : b.getD a0 0 = (k : Int) := by omega
        have hd : b.drop a0 = (k : Int) :: b.drop (a0 + 1) := by
          rw [List.drop_eq_getElem_cons f1]
          congr 1
          rw [← hki, List.getD_eq_getElem?_getD, List.getElem?_eq_getElem f1]
          rfl
        have hbn : Bs ((b.drop (a0 + 1)).take k) := fun x hx => hb x (List.mem_of_mem_drop (List.mem_of_mem_take hx))
        have hb3 : Bs ((b.drop (a0 + 1 + k)).take 3) := fun x hx => hb x (List.mem_of_mem_drop (List.mem_of_mem_take hx))
        have hb4 : Bs (((b.drop (a0 + 1 + k)).drop 3).take 4) := fun x hx => hb x (List.mem_of_mem_drop (List.mem_of_mem_drop (List.mem_of_mem_take hx)))
        have l1 : ((b.drop (a0 + 1)).take k).length = k := by rw [List.length_take, List.length_drop]; omega
        have l3 : ((b.drop (a0 + 1 + k)).take 3).length = 3 := by rw [List.length_take, List.length_drop]; omega
        have l4 : (((b.drop (a0 + 1 + k)).drop 3).take 4).length = 4 := by rw [List.length_take, List.length_drop, List.length_drop]; omega
        refine ⟨by omega, ?_, by rw [List.length_append, i3]; rfl⟩
        have e1 : (b.drop a0).take (k + 8) = (k : Int) :: ((b.drop (a0 + 1)).take k ++ ((b.drop (a0 + 1 + k)).take 3 ++ ((b.drop (a0 + 1 + k)).drop 3).take 4)) := by
          rw [hd, show k + 8 = (k + 7) + 1 by omega, List.take_succ_cons, take_more (b.drop (a0 + 1)) k 7, List.drop_drop, take_more (b.drop (a0 + 1 + k)) 3 4]
        rw [show a0 + k + 8 = a0 + (k + 8) by omega, take_more b a0 (k + 8), i2, e1, List.flatMap_append, List.append_assoc]
        congr 1
        congr 1
        unfold encR
        simp only [List.flatMap_cons, List.flatMap_nil, List.append_nil]
        rw [str_len, l1, bytes_back _ hbn, big_be3 _ hb3 l3, big_be4 _ hb4 l4]
        simp
      next => cases h'
theorem items_back (cs : List Int → Int) (E : List S67) (hS : Sized E) (rest : List Int) : ∀ (i : Nat), i ≤ E.length → ∀ l, itemsE cs E rest i = (l, 0) → l.map (entV cs) = E.take i ∧ allS l = rest.take (sumE (E.take i)).toNat
  | 0, _, l, h => by cases h; exact ⟨rfl, rfl⟩
  | i + 1, hi, l, h => by
    obtain ⟨p, hp⟩ : ∃ p, itemsE cs E rest i = p := ⟨_, rfl⟩
    obtain ⟨l0, c0⟩ := p
    obtain ⟨q, hq⟩ : ∃ q, itemE cs E rest i = q := ⟨_, rfl⟩
    obtain ⟨r, c⟩ := q
    by_cases h0 : c0 = 0
    · subst h0
      by_cases h1 : c = 0
      · subst h1
        rw [itemsE_ok hp hq] at h
        simp only [Prod.mk.injEq, and_true] at h
        subst h
        obtain ⟨i1, i2⟩ := items_back cs E hS rest i (by omega) l0 hp
        have hlt : i < E.length := by omega
        have hm := hS.2 _ (mem_get hlt)
        have hs := sum_small hS i
        have hstep := sumE_step E i hlt
        unfold itemE at hq
        obtain ⟨f, hf⟩ : ∃ f : Nat, sumE (E.take i) = (f : Int) := ⟨(sumE (E.take i)).toNat, by omega⟩
        obtain ⟨s, hsz⟩ : ∃ s : Nat, (E.getD i z67).f1 = (s : Int) := ⟨(E.getD i z67).f1.toNat, by omega⟩
        rw [hf, hsz] at hq
        rw [hf] at i2
        rw [hstep, hf, hsz]
        simp only [Int.toNat_natCast] at hq i2
        split at hq
        · simp at hq
        · next hfit =>
          split at hq
          · next hcs =>
            simp only [Prod.mk.injEq, and_true] at hq
            subst hq
            have hrl : ((rest.drop f).take s).length = s := by rw [List.length_take, List.length_drop]; omega
            constructor
            · rw [List.map_append, i1, List.take_succ_eq_append_getElem hlt]
              congr 1
              show [entV cs _] = _
              unfold entV
              dsimp only
              rw [hrl, hcs, ← hsz]
              congr 1
              rw [List.getD_eq_getElem?_getD, List.getElem?_eq_getElem hlt]
              rfl
            · unfold allS at i2 ⊢
              rw [List.flatMap_append, i2, show ((f : Int) + (s : Int)).toNat = f + s by omega, take_more rest f s]
              simp
          · simp at hq
      · rw [show i + 1 = i + 1 + 0 from rfl, itemsE_bad hp hq h1 0] at h
        simp only [Prod.mk.injEq] at h
        exact absurd h.2 h1
    · simp only [itemsE, hp] at h
      rw [if_pos h0] at h
      simp only [Prod.mk.injEq] at h
      exact absurd h.2 h0
theorem flat_enc (cs : List Int → Int) (l : List S49) : ((l.map (entV cs)).map toR).flatMap encR = l.flatMap (itS cs) := by
  rw [List.map_map, List.flatMap_map]
  rfl
/-- Unpacked, and packed again. -/
theorem pack_unpack (cs : List Int → Int) (b : List Int) (hb : Bs b) (l : List S49) (h : unpackV cs b = (l, 0)) : packS cs l = b ∧ l.length ≤ 100 ∧ ∀ x ∈ l, x.f0.size ≤ 255 ∧ x.f1.length ≤ b.length := by
  have hS := open_sized cs b hb
  have hg := open_good cs b
  obtain ⟨at_, h1, h2, _⟩ := VaultOpen.open_eq cs b hb
  obtain ⟨r, hr⟩ : ∃ r, openS cs b = r := ⟨_, rfl⟩
  rw [hr] at h1 h2 hS hg
  obtain ⟨E, rest, code⟩ := r
  dsimp only at h1 h2 hS hg
  by_cases hc : code = 0
  · subst hc
    obtain ⟨ha, hrest⟩ := h2 rfl
    by_cases hlt : (rest.length : Int) < sumE E
    · rw [unpackV_short hr hlt] at h
      simp at h
    · by_cases hgt : sumE E < (rest.length : Int)
      · rw [unpackV_more hr hgt] at h
        simp at h
      · have hfit : sumE E = (rest.length : Int) := by omega
        rw [unpackV_fit hr hfit] at h
        obtain ⟨i1, i2⟩ := items_back cs E hS rest E.length (Nat.le_refl _) l h
        rw [List.take_length] at i1 i2
        rw [hfit, Int.toNat_natCast, List.take_length] at i2
        have hlE : l.length = E.length := itemsE_len h
        unfold rOpen at h1
        split at h1
        · simp at h1
        · next hm =>
          split at h1
          · simp at h1
          · next h5 =>
            split at h1
            · simp at h1
            · next p hp =>
              obtain ⟨M, a⟩ := p
              obtain ⟨e1, e2, e3⟩ := ents_enc b hb (by omega) _ M a hp
              have esm := rEnts_small b hb _ _ hp
              dsimp only at h1 esm
              unfold rTail at h1
              split at h1
              · simp at h1
              · next h4 =>
                split at h1
                · next hcs =>
                  split at h1
                  · simp only [Prod.mk.injEq] at h1
                    obtain ⟨rfl, h3, _⟩ := h1
                    have hat : at_ = a + 4 := by omega
                    subst hat
                    have hm4 := hb (b.getD 4 0) (by rw [List.getD_eq_getElem?_getD, List.getElem?_eq_getElem (by omega)]; exact List.getElem_mem _)
                    have hcnt : b.getD 4 0 = (l.length : Int) := by rw [hlE]; rw [List.length_map] at e3; omega
                    have hb5 : b.take 5 = [83, 75, 66, 86, (l.length : Int)] := by
                      have hmag : b.take 4 = [83, 75, 66, 86] := by
                        have hm' : rMag b = true := by simpa using hm
                        unfold rMag at hm'
                        rw [beq_iff_eq] at hm'
                        rw [hm', List.take_of_length_le (by simp; omega)]
                      rw [show (5 : Nat) = 4 + 1 from rfl, List.take_succ_eq_append_getElem (by omega), hmag, ← hcnt, List.getD_eq_getElem?_getD, List.getElem?_eq_getElem (by omega)]
                      rfl
                    have hF : fstS cs l.length l = b.take a := by
                      rw [e2, hb5, ← i1, flat_enc]
                      rfl
                    have hbig : bigL (cs (b.take a)) 4 = (b.drop a).take 4 := by
                      rw [← hcs]
                      exact big_be4 _ (fun x hx => hb x (List.mem_of_mem_drop (List.mem_of_mem_take hx))) (by rw [List.length_take, List.length_drop]; omega)
                    refine ⟨?_, ?_, fun x hx => ⟨?_, ?_⟩⟩
                    · unfold packS
                      rw [hF, hbig, i2, hrest, ← List.drop_drop, List.take_append_drop, List.take_append_drop]
                    · rw [hlE]
                      refine Nat.le_of_not_lt (fun h100 => ?_)
                      unfold goodE at hg
                      rw [List.all_eq_true] at hg
                      have := hg 100 (List.mem_range.2 h100)
                      unfold okAt at this
                      simp at this
                    · have hx2 : toR (entV cs x) ∈ E.map toR := by rw [← i1]; exact List.mem_map_of_mem (List.mem_map_of_mem hx)
                      exact esm _ hx2
                    · have h6 : x.f1.length ≤ (allS l).length := by
                        unfold allS
                        obtain ⟨s1, s2, rfl⟩ := List.append_of_mem hx
                        rw [List.flatMap_append, List.flatMap_cons, List.length_append, List.length_append]
                        omega
                      rw [i2, hrest, List.length_drop] at h6
                      omega
                  · simp at h1
                · simp at h1
  · rw [unpackV_bad hr hc] at h
    simp only [Prod.mk.injEq] at h
    exact absurd h.2 hc
end Go.Proofs.YtibmccacebhhkaaDoor.VaultBack2
namespace Go.Proofs.YtibmccacebhhkaaDoor.VaultUnp
open Go Go.RowKit Go.Proofs.YtibmccacebhhkaaDoor.HV Go.Proofs.YtibmccacebhhkaaDoor.VaultItems
theorem unpack_len (cs : List Int → Int) (b : List Int) (hb : ∀ x ∈ b, 0 ≤ x ∧ x < 256) (l : List S49) (code : Int) (h : unpackV cs b = (l, code)) : l.length ≤ 255 := by
  have hS := open_sized cs b hb
  unfold unpackV at h
  split at h
  · cases h
    simp
  · split at h
    · cases h
      simp
    · split at h
      · cases h
        simp
      · have key : ∀ i, (itemsE cs (openS cs b).1 (openS cs b).2.1 i).1.length ≤ i := by
          intro i
          induction i with
          | zero => exact Nat.le_refl _
          | succ i ih =>
            simp only [itemsE]
            split
            · omega
            · split
              · simp only [List.length_append, List.length_singleton]; omega
              · simp
        have := key (openS cs b).1.length
        rw [h] at this
        have := hS.1
        dsimp only at *
        omega
end Go.Proofs.YtibmccacebhhkaaDoor.VaultUnp

