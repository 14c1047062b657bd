/- VaultPacks: what the claim's theorem reaches of this seat's texts, part 24, put together by this project's own program (bale.py); conditions: those of each theorem. -/
import Derived.Test.YtibmccacebhhkaaDoorVVaultPacks5
import Derived.Test.YtibmccacebhhkaaDoorVVaultPacks7
import Derived.Test.YtibmccacebhhkaaDoorVVaultPacks10
import Derived.Test.YtibmccacebhhkaaDoorVVaultPacks12
import Derived.Test.YtibmccacebhhkaaDoorVVaultPacks13
import Derived.Test.YtibmccacebhhkaaDoorVVaultPacks14
import Derived.Test.YtibmccacebhhkaaDoorVVaultPacks15
import Derived.Test.YtibmccacebhhkaaDoorVVaultPacks16
import Derived.Test.YtibmccacebhhkaaDoorVVaultPacks19
import Derived.Test.YtibmccacebhhkaaDoorVVaultPacks20
import Derived.Test.YtibmccacebhhkaaDoorVVaultPacks22
import Derived.Test.YtibmccacebhhkaaDoorVVaultPacks23
import Derived.Shelf.Abstract
import Derived.OwnWalk
import Derived.LoopTactic
namespace Go.Proofs.YtibmccacebhhkaaDoor.HV
open Go.RowKit Go.Proofs.YtibmccacebhhkaaDoorW.PrintWords Go.Proofs.YtibmccacebhhkaaDoorW.PrintLast Go.Proofs.YtibmccacebhhkaaDoorW.PrintMore
attribute [local go_sem] max2_int min2_int max_two min_two max_three min_three max_four min_four   -- for this text's walks alone
set_option linter.unusedVariables false
set_option linter.unusedSimpArgs false

/-! ### sackbutlaw25_VaultNames: function 3, by hand -/
structure AsideLN (p : Prop) : Prop where mk :: (out : p)
/-- The sum of bytes, as a number. -/
def csC (l : List Int) : Int := ((TollMath.crc l : Nat) : Int)
theorem csC_range (l : List Int) (h : ∀ x ∈ l, 0 ≤ x ∧ x < 256) : 0 ≤ csC l ∧ csC l < 4294967296 := by
  have := TollMath.crc_lt l h
  unfold csC
  omega
theorem csC_toll (l : List Int) (h : ∀ x ∈ l, 0 ≤ x ∧ x < 256) (K : Nat) (hK : l.length < K) (hK2 : K ≤ 1000000) : toll_Sum.f K l = some (csC l) := TollSpec.sum_spec l h (by omega) K hK
theorem csC_ref (l : List Int) (h : ∀ x ∈ l, 0 ≤ x ∧ x < 256) (K : Nat) (hK : l.length + 20 < K) (hl : l.length ≤ 100000) : sackbutref04_Sum.f K l = some (csC l) := TollSpec.ref_sum_spec l h hl K hK
end Go.Proofs.YtibmccacebhhkaaDoor.HV

namespace Go.Proofs.YtibmccacebhhkaaDoor.HV
open Go.RowKit Go.Proofs.YtibmccacebhhkaaDoorW.PrintWords Go.Proofs.YtibmccacebhhkaaDoorW.PrintLast Go.Proofs.YtibmccacebhhkaaDoorW.PrintMore
attribute [local go_sem] max2_int min2_int max_two min_two max_three min_three max_four min_four
set_option linter.unusedVariables false
set_option linter.unusedSimpArgs false
structure AsideRp (p : Prop) : Prop where mk :: (out : p)
/-- An item, as the document has it. -/
def toI (x : S49) : S57 := ⟨x.f0, x.f1⟩
theorem toI_get (L : List S49) (i : Nat) (hi : i < L.length) : rd_T57 (L.map toI) (i : Int) = toI (L.getD i z49) := by
  unfold rd_T57
  rw [Int.toNat_natCast, List.getD_eq_getElem?_getD, List.getElem?_map, List.getD_eq_getElem?_getD, List.getElem?_eq_getElem hi]
  rfl
theorem fst_next (cs : List Int → Int) (n : Nat) {L : List S49} {i : Nat} (h : i < L.length) : fstS cs n (L.take (i + 1)) = ((((fstS cs n (L.take i) ++ [((L.getD i z49).f0.size : Int)]) ++ bytesOf (L.getD i z49).f0) ++ bigL (L.getD i z49).f1.length 3) ++ bigL (cs (L.getD i z49).f1) 4) := by
  rw [fstS_step cs n h]
  simp
open Go.Proofs.YtibmccacebhhkaaDoor.AnyOrder Go.Proofs.YtibmccacebhhkaaDoor.AnyLit Go.Proofs.YtibmccacebhhkaaDoor.AnyFresh in
set_option maxRecDepth 100000 in
set_option maxHeartbeats 4000000 in
theorem ref_pack.gives (kk : Nat) (cs : List Int → Int) (A : Option Addr) (c : Nat) (L : List S49) (w : World) (hc : L.length ≤ c) (hR : Kd.C k57 w A L.length (L.map toI)) (hl : L.length ≤ 100)
    (hnm : ∀ x ∈ L, x.f0.size ≤ 255) (hit : ∀ x ∈ L, x.f1.length ≤ 10000)
    (hix : ∀ x ∈ L, sackbutref04_Sum.f kk x.f1 = some (cs x.f1) ∧ 0 ≤ cs x.f1 ∧ cs x.f1 < 4294967296 ∧ sackbutref25_big.f kk (x.f1.length : Int) 3 = some (bigL (x.f1.length : Int) 3) ∧ sackbutref25_big.f kk (cs x.f1) 4 = some (bigL (cs x.f1) 4))
    (hff : sackbutref04_Sum.f kk (fstS cs L.length L) = some (cs (fstS cs L.length L)) ∧ 0 ≤ cs (fstS cs L.length L) ∧ cs (fstS cs L.length L) < 4294967296 ∧ sackbutref25_big.f kk (cs (fstS cs L.length L)) 4 = some (bigL (cs (fstS cs L.length L)) 4)) :
    Calls Tryd.prog 18 #[.slice A L.length c] w fun e w' => ∃ v, e = .returned v ∧ Kd.R (Kd.int .u8) 5 w' w.heap.size (fun _ => True) v (packS cs L) ∧ Below w.heap.size w w' := by
  have HR := AsideRp.mk hR
  have HNM := AsideRp.mk hnm
  have HIT := AsideRp.mk hit
  have HIX := AsideRp.mk hix
  have HFF := AsideRp.mk hff
  obtain ⟨n, hn⟩ : ∃ n, L.length = n := ⟨_, rfl⟩
  have HN := AsideRp.mk hn
  rw [hn] at HR HFF hc hl ⊢
  have hinfo : ((Tryd.prog).info? 5).map (fun i => (i.zero, i.size, i.bytes)) = some (some (.int .u8 0), 1, 1) := by kernel_rfl
  have HI := AsideRp.mk hinfo
  have HALn : AsideRp (∀ i, (allS (L.take i)).length ≤ 1000000) := ⟨fun i => by
    have h1 := flat_len (fun x : S49 => x.f1) 10000 (L.take i) (fun x hx => HIT.out x (List.mem_of_mem_take hx))
    have h2 : (L.take i).length ≤ 100 := by rw [List.length_take, HN.out]; omega
    unfold allS
    omega⟩
  have HFLn : AsideRp (∀ i, (fstS cs n (L.take i)).length ≤ 26305) := ⟨fun i => fstS_length cs n _ (by rw [List.length_take, HN.out]; omega) (fun x hx => HNM.out x (List.mem_of_mem_take hx))⟩
  clear hR hnm hit hix hff hn hinfo
  go_enter Tryd.func18, Tryd.ntmps18
  have HB1 := AsideRp.mk (Below.refl w.heap.size w)
  obtain ⟨w5, hcv0, hMk, hMR⟩ := conv_lit2 (P := Tryd.prog) (lit_made (B := w.heap.size) 5 (w := w) [83, 75, 66, 86] (Nat.le_refl _)) Tryd.underlying22 Tryd.underlying5
  have hcv : (convert 22 22 (.slice (some ⟨w.heap.size, 0, none⟩) 4 4)).run Tryd.prog (w.alloc (.cells #[.int .u8 83, .int .u8 75, .int .u8 66, .int .u8 86] 5)) = .ok (.slice (some ⟨w.heap.size, 0, none⟩) 4 4) w5 := hcv0
  have HMR := AsideRp.mk hMR
  have HB5 := AsideRp.mk (((Below.refl w.heap.size w).alloc (Nat.le_refl _) _).trans hMk.below)
  have hw8 : (n : Int) % 256 = (n : Int) := by omega
  clear hcv0 hMk hMR
  have HROW := AsideRp.mk (LitIs.row (lit_made (B := w5.heap.size) 5 (w := w5) [(n : Int)] (Nat.le_refl _)) (by simp))
  go_upto_region 3 with (at_builtin; refine wpList_plain rfl (fun K hK => ?_); refine anyAppendLit (B := w.heap.size) (xs := [83, 75, 66, 86]) (ys := [(n : Int)]) (.tmp 7) (.tmp 11) rfl Tryd.underlying22 HI.out rfl rfl (HMR.out.block (fun g c hg => Below.heap_alloc _ _ g (blk_lt hg))) (by simp) HROW.out (by simp) (Nat.le_trans HB5.out.size (by rw [show (w5.alloc _).heap.size = w5.heap.size + 1 from Array.size_push _]; omega)) (by simp) (fun v1 w7 hg hf => hK _ _ ?_); have HG7 := AsideRp.mk hg; have HF7 := AsideRp.mk hf; clear hg hf hK K)
  clear hcv hw8
  have HB7 := AsideRp.mk (below_step (below_alloc HB5.out _) HG7.out)
  have HO7 := AsideRp.mk (show Kd.R (Kd.int .u8) 5 w7 w.heap.size (fun k => True ∧ some k ≠ (Value.slice none 0 0).ownBlock) v1 (fstS cs n (L.take 0)) from Kd.R_apart_nil HF7.out.1)
  clear HG7 HF7 HROW HMR HB5 HB1
  go_wp2_with (fail)
  go_loopw [3, 4, 15] (fun f a v wr => ∃ i : Nat, i ≤ n ∧ v = .int .i64 i ∧ AsideRp (Below w.heap.size w wr) ∧ AsideRp (Kd.R (Kd.int .u8) 5 wr w.heap.size (fun k => True ∧ some k ≠ a.ownBlock) f (fstS cs n (L.take i))) ∧ AsideRp (Kd.R (Kd.int .u8) 5 wr w.heap.size (fun _ => True) a (allS (L.take i)))) (fun _ _ v _ => n - (intOf v).toNat)
  case atStart => exact ⟨0, Nat.zero_le _, rfl, HB7, HO7, ⟨Kd.R_nil _ _ _ _ _⟩⟩
  case round =>
    clear HB7 HO7
    obtain ⟨i, hi, rfl, HBr, HFr, HAr⟩ := hrel
    by_cases hlt : i < n
    · obtain ⟨ad, A1, c1, e, hx0, hx1, hlc, hCx⟩ := at_T57 HR.out (i : Int) (by omega) (by omega)
      subst e
      rw [toI_get L i (by rw [HN.out]; exact hlt), Int.toNat_natCast] at hx0 hx1
      rw [toI_get L i (by rw [HN.out]; exact hlt)] at hlc hCx
      have hmem : L.getD i z49 ∈ L := by rw [List.getD_eq_getElem?_getD, List.getElem?_eq_getElem (by rw [HN.out]; exact hlt)]; exact List.getElem_mem _
      have hsn := HNM.out _ hmem
      have hsi := HIT.out _ hmem
      obtain ⟨hcx, hcx0, hcx1, hb3, hb4⟩ := HIX.out _ hmem
      have hst := fst_next cs n (L := L) (i := i) (by rw [HN.out]; exact hlt)
      have hsa := allS_step (L := L) (i := i) (by rw [HN.out]; exact hlt)
      change w.cell? (ad.add (i * 2)) = some (.string (L.getD i z49).f0) at hx0
      change w.cell? ⟨(ad.add (i * 2)).block, (ad.add (i * 2)).off + 1, none⟩ = some (.slice A1 (L.getD i z49).f1.length c1) at hx1
      change (L.getD i z49).f1.length ≤ c1 at hlc
      change Kd.C (Kd.int .u8) w A1 (L.getD i z49).f1.length (L.getD i z49).f1 at hCx
      generalize (L.getD i z49).f0 = nm at *
      generalize (L.getD i z49).f1 = xs at *
      obtain ⟨nx, hnx⟩ : ∃ nx, xs.length = nx := ⟨_, rfl⟩
      rw [hnx] at hx1 hlc hCx hsi hst hb3
      have hFl := HFLn.out i
      have hAl := HALn.out i
      generalize cs xs = y at *
      have HSUM := AsideRp.mk (fun (W : World) (hW : Below w.heap.size w W) => (show Calls Tryd.prog 25 #[.slice A1 nx c1] W fun e w' => e = .returned (.int .u32 y) ∧ Drawn0 W w' from by
        have h := sackbutref04_Sum.calls kk A1 c1 xs y W (by rw [hnx]; exact Kd.C_below hCx hW) (by rw [hnx]; exact hlc) hcx
        rw [hnx] at h
        exact h))
      have HSZ := AsideRp.mk (show nm.size ≤ 9223372036854775807 by omega)
      have HB3n := AsideRp.mk hb3
      have HB4n := AsideRp.mk hb4
      have HSA := AsideRp.mk hsa
      have HST := AsideRp.mk hst
      have hw8n : (nm.size : Int) % 256 = (nm.size : Int) := by omega
      have hw8u : IntKind.u8.wrap (nm.size : Int) = (nm.size : Int) := by rw [IntKind.wrap_u8]; exact hw8n
      have hwy : IntKind.i64.wrap y = y := by rw [IntKind.wrap_i64]; omega
      have HY := AsideRp.mk (And.intro hwy (And.intro hw8n hw8u))
      have hbl := World.block_lt_of_cell? w _ hx0
      have HLEN : AsideRp ((fstS cs n (L.take i)).length ≤ 26305 ∧ (allS (L.take i)).length ≤ 1000000 ∧ nm.size ≤ 255 ∧ nx ≤ 10000 ∧ (bytesOf nm).length = nm.size ∧ xs.length = nx) := ⟨hFl, hAl, hsn, hsi, bytesOf_length nm, hnx⟩
      have i0 : (0 : Int) ≤ (i : Int) := by omega
      have i1 : (i : Int) < (n : Int) := by omega
      have hcxx := AsideRp.mk hCx
      clear hmem hsn hsi hst hsa hcx hcx0 hcx1 hb3 hb4 hFl hAl hnx hwy hw8n hw8u hCx
      go_upto_region 6 with (fail)
      obtain ⟨V, hVd⟩ : ∃ V : Nat → Prop, V = fun k => some k = u4.ownBlock := ⟨_, rfl⟩
      have hAV : Kd.R (Kd.int .u8) 5 wr w.heap.size V u4 (allS (L.take i)) := R_ok HAr.out (fun k hk => by rw [hVd]; exact hk.symm)
      have hV : ∀ k, V k → k < wr.heap.size := fun k hk => by rw [hVd] at hk; exact Kd.R_lt HAr.out k hk.symm
      have hFO : Kd.R (Kd.int .u8) 5 wr.drew w.heap.size (fun _ => True) u3 (fstS cs n (L.take i)) ∧ ∀ k, u3.ownBlock = some k → k < wr.heap.size ∧ ¬ V k := ⟨Kd.R_drew (Kd.R_mono HFr.out (fun _ _ => trivial)), fun k hk => ⟨Kd.R_lt HFr.out k hk, fun h => by rw [hVd] at h; exact (HFr.out.1 k hk).2 h⟩⟩
      have HVD := AsideRp.mk hVd
      clear hVd
      have hX0 := pw_cell_below HBr.out hx0
      have hX1 := pw_cell_below HBr.out hx1
      generalize hF0 : fstS cs n (L.take i) = F0 at hFO HLEN HST
      have HF0 := AsideRp.mk hF0
      generalize hA0 : allS (L.take i) = AL0 at hAV HLEN HSA
      have HA0 := AsideRp.mk hA0
      clear hF0 hA0 HFr HAr
      refine Go.Proofs.YtibmccacebhhkaaDoor.AnyFresh.region_kinds true (by kernel_rfl) (w.heap.size) (wr.heap.size) V 5 (fun W => wr.heap.size ≤ W.heap.size ∧ W.cell? (ad.add (i * 2)) = some (.string nm) ∧ W.cell? ⟨(ad.add (i * 2)).block, (ad.add (i * 2)).off + 1, none⟩ = some (.slice A1 nx c1) ∧ Kd.R (Kd.int .u8) 5 W w.heap.size V u4 AL0) [.make, .make, .make, .make, .make, .make, .make, .make, .make, .appOld, .make, .make, .make, .make, .make, .make, .app, .make] [.val (u3), .val (.slice (some ad) n c), .val (.int .i64 (i : Int)), .val (.pointer (some (ad.add (i * 2)))), .val (.pointer (some (ad.add (i * 2)))), .val (.string nm), .val (.int .i64 ((nm.size : Int))), .val (.int .u8 (nm.size : Int)), .fresh ([(nm.size : Int)]), .own ((F0 ++ [(nm.size : Int)])), .val (.slice (some ad) n c), .val (.int .i64 (i : Int)), .val (.pointer (some (ad.add (i * 2)))), .val (.pointer (some (ad.add (i * 2)))), .val (.string nm), .fresh (bytesOf nm), .own (((F0 ++ [(nm.size : Int)]) ++ bytesOf nm)), .own (((F0 ++ [(nm.size : Int)]) ++ bytesOf nm))] [.free, .free, .free, .free, .free, .free, .free, .free, .fresh, .other, .free, .free, .free, .free, .free, .fresh, .other, .other] [(.old (F0), u3)] [.other] [[9]] [0, 0, 0, 6, 14, 30, 62, 126, 254, 511, 0, 0, 3072, 7168, 15360, 31744, 65535, 131071] [[], [], [], [(1, 19), (2, 20)], [(3, 21)], [(4, 22)], [(5, 23)], [(6, 24)], [(7, 25)], [(0, 18), (8, 26)], [], [], [(10, 28), (11, 29)], [(12, 30)], [(13, 31)], [(14, 32)], [(9, 27), (15, 33)], [(16, 34)]] [[3], [0], [5], [], [], [], [], [], [], [], [0], [5], [], [], [], [], [], []] (fun vs => [(18, vs 0), (19, vs 1), (20, vs 2), (21, vs 3), (22, vs 4), (23, vs 5), (24, vs 6), (25, vs 7), (26, vs 8), (27, vs 9), (28, vs 10), (29, vs 11), (30, vs 12), (31, vs 13), (32, vs 14), (33, vs 15), (34, vs 16), (3, vs 17)]) rfl rfl (by kernel_rfl) (fun _ => rfl) (HBr.out) (HBr.out.size) (⟨Nat.le_refl _, hX0, hX1, Kd.R_drew hAV⟩) (fun g W W' hB hg hX => ⟨Nat.le_trans hX.1 (Go.Proofs.YtibmccacebhhkaaDoor.AnyFresh.GK.size hB hg), Go.Proofs.YtibmccacebhhkaaDoor.AnyFresh.GK.cell hB hg hbl hX.2.1, Go.Proofs.YtibmccacebhhkaaDoor.AnyFresh.GK.cell (a := ⟨(ad.add (i * 2)).block, (ad.add (i * 2)).off + 1, none⟩) hB hg hbl hX.2.2.1, Go.Proofs.YtibmccacebhhkaaDoor.AnyFresh.GK.keepV hB hg hX.2.2.2⟩) ?hini ?_ ?_
      case hini =>
        intro x hx
        rcases x with _ | x
        · exact hFO
        · exact absurd hx (by simp)
      refine ⟨?_, ?_, ?_, ?_, ?_, ?_, ?_, ?_, ?_, ?_, ?_, ?_, ?_, ?_, ?_, ?_, ?_, ?_, trivial⟩
      · intro a w1 hJ hD hE hS K hK
        obtain ⟨hJ1, hJ2, hXN, hc0, hc1, hXA⟩ := hJ
        have d_3 : a.tmps.getD 3 undef = u3 := hS 3 (by simp)
        clear hD hS hE
        refine wp_value (v := u3) (w1 := w1) ?_ (hK _ _ (Below.refl _ _) rfl)
        clear hK
        go_simp
      · intro a w1 hJ hD hE hS K hK
        obtain ⟨hJ1, hJ2, hXN, hc0, hc1, hXA⟩ := hJ
        have d_0 : a.tmps.getD 0 undef = .slice (some ad) n c := hS 0 (by simp)
        clear hD hS hE
        refine wp_value (v := .slice (some ad) n c) (w1 := w1) ?_ (hK _ _ (Below.refl _ _) rfl)
        clear hK
        go_simp
      · intro a w1 hJ hD hE hS K hK
        obtain ⟨hJ1, hJ2, hXN, hc0, hc1, hXA⟩ := hJ
        have d_5 : a.tmps.getD 5 undef = .int .i64 (i : Int) := hS 5 (by simp)
        clear hD hS hE
        refine wp_value (v := .int .i64 (i : Int)) (w1 := w1) ?_ (hK _ _ (Below.refl _ _) rfl)
        clear hK
        go_simp
      · intro a w1 hJ hD hE hS K hK
        obtain ⟨hJ1, hJ2, hXN, hc0, hc1, hXA⟩ := hJ
        have d_19 : a.tmps.getD 19 undef = .slice (some ad) n c := hD (1, 19) (by simp)
        have d_20 : a.tmps.getD 20 undef = .int .i64 (i : Int) := hD (2, 20) (by simp)
        clear hD hS hE
        refine wp_value (v := .pointer (some (ad.add (i * 2)))) (w1 := w1) ?_ (hK _ _ (Below.refl _ _) rfl)
        clear hK
        go_simp
      · intro a w1 hJ hD hE hS K hK
        obtain ⟨hJ1, hJ2, hXN, hc0, hc1, hXA⟩ := hJ
        have d_21 : a.tmps.getD 21 undef = .pointer (some (ad.add (i * 2))) := hD (3, 21) (by simp)
        clear hD hS hE
        refine wp_value (v := .pointer (some (ad.add (i * 2)))) (w1 := w1) ?_ (hK _ _ (Below.refl _ _) rfl)
        clear hK
        go_simp
      · intro a w1 hJ hD hE hS K hK
        obtain ⟨hJ1, hJ2, hXN, hc0, hc1, hXA⟩ := hJ
        have d_22 : a.tmps.getD 22 undef = .pointer (some (ad.add (i * 2))) := hD (4, 22) (by simp)
        clear hD hS hE
        refine wp_value (v := .string nm) (w1 := w1) ?_ (hK _ _ (Below.refl _ _) rfl)
        clear hK
        go_simp
      · intro a w1 hJ hD hE hS K hK
        obtain ⟨hJ1, hJ2, hXN, hc0, hc1, hXA⟩ := hJ
        have d_23 : a.tmps.getD 23 undef = .string nm := hD (5, 23) (by simp)
        clear hD hS hE
        refine wp_value (v := .int .i64 ((nm.size : Int))) (w1 := w1) ?_ (hK _ _ (Below.refl _ _) rfl)
        clear hK
        go_simp
      · intro a w1 hJ hD hE hS K hK
        obtain ⟨hJ1, hJ2, hXN, hc0, hc1, hXA⟩ := hJ
        have d_24 : a.tmps.getD 24 undef = .int .i64 ((nm.size : Int)) := hD (6, 24) (by simp)
        clear hD hS hE
        obtain ⟨hwy, hw8n, hw8u⟩ := HY.out
        refine wp_value (v := .int .u8 (nm.size : Int)) (w1 := w1) ?_ (hK _ _ (Below.refl _ _) rfl)
        clear hK
        go_simp
      · intro a w1 hJ hD hE hS K hK
        obtain ⟨hJ1, hJ2, hXN, hc0, hc1, hXA⟩ := hJ
        have d_25 : a.tmps.getD 25 undef = .int .u8 (nm.size : Int) := hD (7, 25) (by simp)
        clear hD hS hE
        have hlit := FreshIs.of_row ((lit_made (B := w1.heap.size) 5 (w := w1) [(nm.size : Int)] (Nat.le_refl _)).row (by simp)) hXN
        refine wp_value (v := .slice (some ⟨w1.heap.size, 0, none⟩) 1 1) (w1 := w1.alloc (.cells (List.map (Value.int .u8) [(nm.size : Int)]).toArray 5)) ?_ (hK _ _ ((Below.refl _ _).alloc (Nat.le_refl _) _) hlit)
        clear hK hlit
        rw [Array.getD_eq_getD_getElem?] at d_25
        go_simp
      · intro a w1 hJ hD hE hS K hK
        obtain ⟨hJ1, hJ2, hXN, hc0, hc1, hXA⟩ := hJ
        have d_18 : a.tmps.getD 18 undef = u3 := hD (0, 18) (by simp)
        have d_26 : Go.Proofs.YtibmccacebhhkaaDoor.AnyFresh.FK.holds (w.heap.size) (wr.heap.size) V 5 (.fresh ([(nm.size : Int)])) (a.tmps.getD 26 undef) w1 := hD (8, 26) (by simp)
        have i_0 : Go.Proofs.YtibmccacebhhkaaDoor.AnyFresh.FK.holds (w.heap.size) (wr.heap.size) V 5 (.old (F0)) (u3) w1 := hE 0 (by decide)
        clear hD hS hE
        refine appendOld (xs := F0) (ys := [(nm.size : Int)]) rfl (.tmp 18) (.tmp 26) rfl Tryd.underlying22 HI.out d_18 rfl hV hXN i_0 (FreshIs.row d_26) hJ2 ?hl (fun v1 w2 hg hf => hK v1 w2 hg hf)
        case hl => (try simp only [List.length_append, List.length_cons, List.length_nil]); have := HLEN.out; omega
      · intro a w1 hJ hD hE hS K hK
        obtain ⟨hJ1, hJ2, hXN, hc0, hc1, hXA⟩ := hJ
        have d_0 : a.tmps.getD 0 undef = .slice (some ad) n c := hS 0 (by simp)
        clear hD hS hE
        refine wp_value (v := .slice (some ad) n c) (w1 := w1) ?_ (hK _ _ (Below.refl _ _) rfl)
        clear hK
        go_simp
      · intro a w1 hJ hD hE hS K hK
        obtain ⟨hJ1, hJ2, hXN, hc0, hc1, hXA⟩ := hJ
        have d_5 : a.tmps.getD 5 undef = .int .i64 (i : Int) := hS 5 (by simp)
        clear hD hS hE
        refine wp_value (v := .int .i64 (i : Int)) (w1 := w1) ?_ (hK _ _ (Below.refl _ _) rfl)
        clear hK
        go_simp
      · intro a w1 hJ hD hE hS K hK
        obtain ⟨hJ1, hJ2, hXN, hc0, hc1, hXA⟩ := hJ
        have d_28 : a.tmps.getD 28 undef = .slice (some ad) n c := hD (10, 28) (by simp)
        have d_29 : a.tmps.getD 29 undef = .int .i64 (i : Int) := hD (11, 29) (by simp)
        clear hD hS hE
        refine wp_value (v := .pointer (some (ad.add (i * 2)))) (w1 := w1) ?_ (hK _ _ (Below.refl _ _) rfl)
        clear hK
        go_simp
      · intro a w1 hJ hD hE hS K hK
        obtain ⟨hJ1, hJ2, hXN, hc0, hc1, hXA⟩ := hJ
        have d_30 : a.tmps.getD 30 undef = .pointer (some (ad.add (i * 2))) := hD (12, 30) (by simp)
        clear hD hS hE
        refine wp_value (v := .pointer (some (ad.add (i * 2)))) (w1 := w1) ?_ (hK _ _ (Below.refl _ _) rfl)
        clear hK
        go_simp
      · intro a w1 hJ hD hE hS K hK
        obtain ⟨hJ1, hJ2, hXN, hc0, hc1, hXA⟩ := hJ
        have d_31 : a.tmps.getD 31 undef = .pointer (some (ad.add (i * 2))) := hD (13, 31) (by simp)
        clear hD hS hE
        refine wp_value (v := .string nm) (w1 := w1) ?_ (hK _ _ (Below.refl _ _) rfl)
        clear hK
        go_simp
      · intro a w1 hJ hD hE hS K hK
        obtain ⟨hJ1, hJ2, hXN, hc0, hc1, hXA⟩ := hJ
        have d_32 : a.tmps.getD 32 undef = .string nm := hD (14, 32) (by simp)
        clear hD hS hE
        have hr := print_bytes (P := Tryd.prog) 9 22 5 Tryd.underlying9 Tryd.underlying22 Tryd.underlying5 nm w1
        have hrow := FreshIs.of_row (bytes_row (e := 5) w1 nm HSZ.out) hXN
        refine wp_value ?_ (hK (.slice (some ⟨w1.heap.size, 0, none⟩) nm.size (grownCap w1 nm.size 0 5)) (Lib.bytesWorld w1 5 nm) (bytes_below (Below.refl _ _) (Nat.le_refl _) _ _) hrow)
        clear hK hrow
        go_simp
      · intro a w1 hJ hD hE hS K hK
        obtain ⟨hJ1, hJ2, hXN, hc0, hc1, hXA⟩ := hJ
        have d_27 : Go.Proofs.YtibmccacebhhkaaDoor.AnyFresh.FK.holds (w.heap.size) (wr.heap.size) V 5 (.own ((F0 ++ [(nm.size : Int)]))) (a.tmps.getD 27 undef) w1 := hD (9, 27) (by simp)
        have d_33 : Go.Proofs.YtibmccacebhhkaaDoor.AnyFresh.FK.holds (w.heap.size) (wr.heap.size) V 5 (.fresh (bytesOf nm)) (a.tmps.getD 33 undef) w1 := hD (15, 33) (by simp)
        clear hD hS hE
        refine appendOwn (xs := (F0 ++ [(nm.size : Int)])) (ys := bytesOf nm) rfl (.tmp 27) (.tmp 33) rfl Tryd.underlying22 HI.out rfl rfl hV hXN d_27 (FreshIs.row d_33) hJ2 ?hl (fun v1 w2 hg hf => hK v1 w2 hg hf)
        case hl => (try simp only [List.length_append, List.length_cons, List.length_nil]); have := HLEN.out; omega
      · intro a w1 hJ hD hE hS K hK
        obtain ⟨hJ1, hJ2, hXN, hc0, hc1, hXA⟩ := hJ
        have d_34 : Go.Proofs.YtibmccacebhhkaaDoor.AnyFresh.FK.holds (w.heap.size) (wr.heap.size) V 5 (.own (((F0 ++ [(nm.size : Int)]) ++ bytesOf nm))) (a.tmps.getD 34 undef) w1 := hD (16, 34) (by simp)
        clear hD hS hE
        refine wp_value (v := a.tmps.getD 34 undef) (w1 := w1) ?_ (hK _ _ (Below.refl _ _) d_34)
        clear hK d_34
        go_simp
      · intro vs w20 hB20 hX20 hF20
        have h20 := hF20 17 (by decide) (by kernel_rfl)
        clear hF20
        obtain ⟨hXN, hX0', hX1', hAV2⟩ := hX20
        change Kd.R (Kd.int .u8) 5 w20 w.heap.size (fun _ => True) (vs 17) ((F0 ++ [(nm.size : Int)]) ++ bytesOf nm) ∧ ∀ k, (vs 17).ownBlock = some k → ¬ V k at h20
        generalize vs 17 = f17 at h20 ⊢
        have hV2 : ∀ k, V k → k < w20.heap.size := fun k hk => Nat.lt_of_lt_of_le (hV k hk) hXN
        have hFO2 : Kd.R (Kd.int .u8) 5 w20.drew w.heap.size (fun _ => True) f17 ((F0 ++ [(nm.size : Int)]) ++ bytesOf nm) ∧ ∀ k, f17.ownBlock = some k → k < w20.heap.size ∧ ¬ V k := ⟨Kd.R_drew h20.1, fun k hk => ⟨Kd.R_lt h20.1 k hk, h20.2 k hk⟩⟩
        clear h20 hAV hV hFO hX0 hX1 hXN
        generalize hF1 : (F0 ++ [(nm.size : Int)]) ++ bytesOf nm = F1 at hFO2 HST
        have HLEN1 : AsideRp (F1.length ≤ 26600) := ⟨by rw [← hF1, List.length_append, List.length_append]; have := HLEN.out; simp; omega⟩
        clear hF1
        simp only [putL, Act.put, List.setIfInBounds_toArray, List.set_cons_zero, List.set_cons_succ]
        go_upto_region 7 with (fail)
        refine Go.Proofs.YtibmccacebhhkaaDoor.AnyFresh.region_kinds true (by kernel_rfl) (w.heap.size) (w20.heap.size) V 5 (fun W => w20.heap.size ≤ W.heap.size ∧ W.cell? (ad.add (i * 2)) = some (.string nm) ∧ W.cell? ⟨(ad.add (i * 2)).block, (ad.add (i * 2)).off + 1, none⟩ = some (.slice A1 nx c1) ∧ Kd.R (Kd.int .u8) 5 W w.heap.size V u4 AL0) [.make, .make, .make, .make, .make, .make, .make, .make, .appOld, .make, .make, .make, .make, .make, .make, .make, .make, .app, .make] [.val (f17), .val (.slice (some ad) n c), .val (.int .i64 (i : Int)), .val (.pointer (some (ad.add (i * 2)))), .val (.pointer (some ⟨(ad.add (i * 2)).block, (ad.add (i * 2)).off + 1, none⟩)), .val (.slice A1 nx c1), .val (.int .i64 ((nx : Int))), .fresh (bigL (nx : Int) 3), .own ((F1 ++ bigL (nx : Int) 3)), .val (.slice (some ad) n c), .val (.int .i64 (i : Int)), .val (.pointer (some (ad.add (i * 2)))), .val (.pointer (some ⟨(ad.add (i * 2)).block, (ad.add (i * 2)).off + 1, none⟩)), .val (.slice A1 nx c1), .val (.int .u32 y), .val (.int .i64 (y)), .fresh (bigL y 4), .own (((F1 ++ bigL (nx : Int) 3) ++ bigL y 4)), .own (((F1 ++ bigL (nx : Int) 3) ++ bigL y 4))] [.free, .free, .free, .free, .free, .free, .free, .fresh, .other, .free, .free, .free, .free, .free, .free, .free, .fresh, .other, .other] [(.old (F1), f17)] [.other] [[8]] [0, 0, 0, 6, 14, 30, 62, 126, 255, 0, 0, 1536, 3584, 7680, 16383, 32767, 65535, 131071, 262143] [[], [], [], [(1, 36), (2, 37)], [(3, 38)], [(4, 39)], [(5, 40)], [(6, 41)], [(0, 35), (7, 42)], [], [], [(9, 44), (10, 45)], [(11, 46)], [(12, 47)], [(13, 48)], [(14, 49)], [(15, 50)], [(8, 43), (16, 51)], [(17, 52)]] [[3], [0], [5], [], [], [], [], [], [], [0], [5], [], [], [], [], [], [], [], []] (fun vs => [(35, vs 0), (36, vs 1), (37, vs 2), (38, vs 3), (39, vs 4), (40, vs 5), (41, vs 6), (42, vs 7), (43, vs 8), (44, vs 9), (45, vs 10), (46, vs 11), (47, vs 12), (48, vs 13), (49, vs 14), (50, vs 15), (51, vs 16), (52, vs 17), (3, vs 18)]) rfl rfl (by kernel_rfl) (fun _ => rfl) (hB20) (hB20.size) (⟨Nat.le_refl _, hX0', hX1', Kd.R_drew hAV2⟩) (fun g W W' hB hg hX => ⟨Nat.le_trans hX.1 (Go.Proofs.YtibmccacebhhkaaDoor.AnyFresh.GK.size hB hg), Go.Proofs.YtibmccacebhhkaaDoor.AnyFresh.GK.cell hB hg hbl hX.2.1, Go.Proofs.YtibmccacebhhkaaDoor.AnyFresh.GK.cell (a := ⟨(ad.add (i * 2)).block, (ad.add (i * 2)).off + 1, none⟩) hB hg hbl hX.2.2.1, Go.Proofs.YtibmccacebhhkaaDoor.AnyFresh.GK.keepV hB hg hX.2.2.2⟩) ?hini ?_ ?_
        case hini =>
          intro x hx
          rcases x with _ | x
          · exact hFO2
          · exact absurd hx (by simp)
        refine ⟨?_, ?_, ?_, ?_, ?_, ?_, ?_, ?_, ?_, ?_, ?_, ?_, ?_, ?_, ?_, ?_, ?_, ?_, ?_, trivial⟩
        · intro a w1 hJ hD hE hS K hK
          obtain ⟨hJ1, hJ2, hXN, hc0, hc1, hXA⟩ := hJ
          have d_3 : a.tmps.getD 3 undef = f17 := hS 3 (by simp)
          clear hD hS hE
          refine wp_value (v := f17) (w1 := w1) ?_ (hK _ _ (Below.refl _ _) rfl)
          clear hK
          go_simp
        · intro a w1 hJ hD hE hS K hK
          obtain ⟨hJ1, hJ2, hXN, hc0, hc1, hXA⟩ := hJ
          have d_0 : a.tmps.getD 0 undef = .slice (some ad) n c := hS 0 (by simp)
          clear hD hS hE
          refine wp_value (v := .slice (some ad) n c) (w1 := w1) ?_ (hK _ _ (Below.refl _ _) rfl)
          clear hK
          go_simp
        · intro a w1 hJ hD hE hS K hK
          obtain ⟨hJ1, hJ2, hXN, hc0, hc1, hXA⟩ := hJ
          have d_5 : a.tmps.getD 5 undef = .int .i64 (i : Int) := hS 5 (by simp)
          clear hD hS hE
          refine wp_value (v := .int .i64 (i : Int)) (w1 := w1) ?_ (hK _ _ (Below.refl _ _) rfl)
          clear hK
          go_simp
        · intro a w1 hJ hD hE hS K hK
          obtain ⟨hJ1, hJ2, hXN, hc0, hc1, hXA⟩ := hJ
          have d_36 : a.tmps.getD 36 undef = .slice (some ad) n c := hD (1, 36) (by simp)
          have d_37 : a.tmps.getD 37 undef = .int .i64 (i : Int) := hD (2, 37) (by simp)
          clear hD hS hE
          refine wp_value (v := .pointer (some (ad.add (i * 2)))) (w1 := w1) ?_ (hK _ _ (Below.refl _ _) rfl)
          clear hK
          go_simp
        · intro a w1 hJ hD hE hS K hK
          obtain ⟨hJ1, hJ2, hXN, hc0, hc1, hXA⟩ := hJ
          have d_38 : a.tmps.getD 38 undef = .pointer (some (ad.add (i * 2))) := hD (3, 38) (by simp)
          clear hD hS hE
          refine wp_value (v := .pointer (some ⟨(ad.add (i * 2)).block, (ad.add (i * 2)).off + 1, none⟩)) (w1 := w1) ?_ (hK _ _ (Below.refl _ _) rfl)
          clear hK
          go_simp
        · intro a w1 hJ hD hE hS K hK
          obtain ⟨hJ1, hJ2, hXN, hc0, hc1, hXA⟩ := hJ
          have d_39 : a.tmps.getD 39 undef = .pointer (some ⟨(ad.add (i * 2)).block, (ad.add (i * 2)).off + 1, none⟩) := hD (4, 39) (by simp)
          clear hD hS hE
          refine wp_value (v := .slice A1 nx c1) (w1 := w1) ?_ (hK _ _ (Below.refl _ _) rfl)
          clear hK
          go_simp
        · intro a w1 hJ hD hE hS K hK
          obtain ⟨hJ1, hJ2, hXN, hc0, hc1, hXA⟩ := hJ
          have d_40 : a.tmps.getD 40 undef = .slice A1 nx c1 := hD (5, 40) (by simp)
          clear hD hS hE
          refine wp_value (v := .int .i64 ((nx : Int))) (w1 := w1) ?_ (hK _ _ (Below.refl _ _) rfl)
          clear hK
          go_simp
        · intro a w1 hJ hD hE hS K hK
          obtain ⟨hJ1, hJ2, hXN, hc0, hc1, hXA⟩ := hJ
          have d_41 : a.tmps.getD 41 undef = .int .i64 ((nx : Int)) := hD (6, 41) (by simp)
          clear hD hS hE
          refine wp_call Tryd.func35 (by kernel_rfl) rfl #[.int .i64 (nx : Int), .int .i64 3] rfl (by simp only [List.map_toArray, List.map_cons, List.map_nil, Act.eval, d_41]) ?_
          refine (sackbutref25_big.calls kk (nx : Int) 3 (bigL (nx : Int) 3) w1 HB3n.out).mono ?_
          rintro e w2 ⟨v, rfl, ho, hb⟩
          exact ⟨v, rfl, hK v w2 hb (FreshIs.of_R ho hXN)⟩
        · intro a w1 hJ hD hE hS K hK
          obtain ⟨hJ1, hJ2, hXN, hc0, hc1, hXA⟩ := hJ
          have d_35 : a.tmps.getD 35 undef = f17 := hD (0, 35) (by simp)
          have d_42 : Go.Proofs.YtibmccacebhhkaaDoor.AnyFresh.FK.holds (w.heap.size) (w20.heap.size) V 5 (.fresh (bigL (nx : Int) 3)) (a.tmps.getD 42 undef) w1 := hD (7, 42) (by simp)
          have i_0 : Go.Proofs.YtibmccacebhhkaaDoor.AnyFresh.FK.holds (w.heap.size) (w20.heap.size) V 5 (.old (F1)) (f17) w1 := hE 0 (by decide)
          clear hD hS hE
          refine appendOld (xs := F1) (ys := bigL (nx : Int) 3) rfl (.tmp 35) (.tmp 42) rfl Tryd.underlying22 HI.out d_35 rfl hV2 hXN i_0 (FreshIs.row d_42) hJ2 ?hl (fun v1 w2 hg hf => hK v1 w2 hg hf)
          case hl => (try simp only [List.length_append, List.length_cons, List.length_nil]); (try rw [bigL_length]); (try rw [bigL_length]); have := HLEN1.out; omega
        · intro a w1 hJ hD hE hS K hK
          obtain ⟨hJ1, hJ2, hXN, hc0, hc1, hXA⟩ := hJ
          have d_0 : a.tmps.getD 0 undef = .slice (some ad) n c := hS 0 (by simp)
          clear hD hS hE
          refine wp_value (v := .slice (some ad) n c) (w1 := w1) ?_ (hK _ _ (Below.refl _ _) rfl)
          clear hK
          go_simp
        · intro a w1 hJ hD hE hS K hK
          obtain ⟨hJ1, hJ2, hXN, hc0, hc1, hXA⟩ := hJ
          have d_5 : a.tmps.getD 5 undef = .int .i64 (i : Int) := hS 5 (by simp)
          clear hD hS hE
          refine wp_value (v := .int .i64 (i : Int)) (w1 := w1) ?_ (hK _ _ (Below.refl _ _) rfl)
          clear hK
          go_simp
        · intro a w1 hJ hD hE hS K hK
          obtain ⟨hJ1, hJ2, hXN, hc0, hc1, hXA⟩ := hJ
          have d_44 : a.tmps.getD 44 undef = .slice (some ad) n c := hD (9, 44) (by simp)
          have d_45 : a.tmps.getD 45 undef = .int .i64 (i : Int) := hD (10, 45) (by simp)
          clear hD hS hE
          refine wp_value (v := .pointer (some (ad.add (i * 2)))) (w1 := w1) ?_ (hK _ _ (Below.refl _ _) rfl)
          clear hK
          go_simp
        · intro a w1 hJ hD hE hS K hK
          obtain ⟨hJ1, hJ2, hXN, hc0, hc1, hXA⟩ := hJ
          have d_46 : a.tmps.getD 46 undef = .pointer (some (ad.add (i * 2))) := hD (11, 46) (by simp)
          clear hD hS hE
          refine wp_value (v := .pointer (some ⟨(ad.add (i * 2)).block, (ad.add (i * 2)).off + 1, none⟩)) (w1 := w1) ?_ (hK _ _ (Below.refl _ _) rfl)
          clear hK
          go_simp
        · intro a w1 hJ hD hE hS K hK
          obtain ⟨hJ1, hJ2, hXN, hc0, hc1, hXA⟩ := hJ
          have d_47 : a.tmps.getD 47 undef = .pointer (some ⟨(ad.add (i * 2)).block, (ad.add (i * 2)).off + 1, none⟩) := hD (12, 47) (by simp)
          clear hD hS hE
          refine wp_value (v := .slice A1 nx c1) (w1 := w1) ?_ (hK _ _ (Below.refl _ _) rfl)
          clear hK
          go_simp
        · intro a w1 hJ hD hE hS K hK
          obtain ⟨hJ1, hJ2, hXN, hc0, hc1, hXA⟩ := hJ
          have d_48 : a.tmps.getD 48 undef = .slice A1 nx c1 := hD (13, 48) (by simp)
          clear hD hS hE
          refine wp_call Tryd.func25 (by kernel_rfl) rfl #[.slice A1 nx c1] rfl (by simp only [List.map_toArray, List.map_cons, List.map_nil, Act.eval, d_48]) ?_
          refine (HSUM.out w1 hJ1).mono ?_
          rintro e w2 ⟨rfl, hd⟩
          exact ⟨_, rfl, hK _ w2 hd.below rfl⟩
        · intro a w1 hJ hD hE hS K hK
          obtain ⟨hJ1, hJ2, hXN, hc0, hc1, hXA⟩ := hJ
          have d_49 : a.tmps.getD 49 undef = .int .u32 y := hD (14, 49) (by simp)
          clear hD hS hE
          obtain ⟨hwy, hw8n, hw8u⟩ := HY.out
          refine wp_value (v := .int .i64 y) (w1 := w1) ?_ (hK _ _ (Below.refl _ _) rfl)
          clear hK
          go_simp
        · intro a w1 hJ hD hE hS K hK
          obtain ⟨hJ1, hJ2, hXN, hc0, hc1, hXA⟩ := hJ
          have d_50 : a.tmps.getD 50 undef = .int .i64 (y) := hD (15, 50) (by simp)
          clear hD hS hE
          refine wp_call Tryd.func35 (by kernel_rfl) rfl #[.int .i64 y, .int .i64 4] rfl (by simp only [List.map_toArray, List.map_cons, List.map_nil, Act.eval, d_50]) ?_
          refine (sackbutref25_big.calls kk y 4 (bigL y 4) w1 HB4n.out).mono ?_
          rintro e w2 ⟨v, rfl, ho, hb⟩
          exact ⟨v, rfl, hK v w2 hb (FreshIs.of_R ho hXN)⟩
        · intro a w1 hJ hD hE hS K hK
          obtain ⟨hJ1, hJ2, hXN, hc0, hc1, hXA⟩ := hJ
          have d_43 : Go.Proofs.YtibmccacebhhkaaDoor.AnyFresh.FK.holds (w.heap.size) (w20.heap.size) V 5 (.own ((F1 ++ bigL (nx : Int) 3))) (a.tmps.getD 43 undef) w1 := hD (8, 43) (by simp)
          have d_51 : Go.Proofs.YtibmccacebhhkaaDoor.AnyFresh.FK.holds (w.heap.size) (w20.heap.size) V 5 (.fresh (bigL y 4)) (a.tmps.getD 51 undef) w1 := hD (16, 51) (by simp)
          clear hD hS hE
          refine appendOwn (xs := (F1 ++ bigL (nx : Int) 3)) (ys := bigL y 4) rfl (.tmp 43) (.tmp 51) rfl Tryd.underlying22 HI.out rfl rfl hV2 hXN d_43 (FreshIs.row d_51) hJ2 ?hl (fun v1 w2 hg hf => hK v1 w2 hg hf)
          case hl => (try simp only [List.length_append, List.length_cons, List.length_nil]); (try rw [bigL_length]); (try rw [bigL_length]); have := HLEN1.out; omega
        · intro a w1 hJ hD hE hS K hK
          obtain ⟨hJ1, hJ2, hXN, hc0, hc1, hXA⟩ := hJ
          have d_52 : Go.Proofs.YtibmccacebhhkaaDoor.AnyFresh.FK.holds (w.heap.size) (w20.heap.size) V 5 (.own (((F1 ++ bigL (nx : Int) 3) ++ bigL y 4))) (a.tmps.getD 52 undef) w1 := hD (17, 52) (by simp)
          clear hD hS hE
          refine wp_value (v := a.tmps.getD 52 undef) (w1 := w1) ?_ (hK _ _ (Below.refl _ _) d_52)
          clear hK d_52
          go_simp
        · intro vs w30 hB30 hX30 hF30
          have h30 := hF30 18 (by decide) (by kernel_rfl)
          clear hF30
          obtain ⟨hXN, _, hX1'', hAV3⟩ := hX30
          change Kd.R (Kd.int .u8) 5 w30 w.heap.size (fun _ => True) (vs 18) ((F1 ++ bigL (nx : Int) 3) ++ bigL y 4) ∧ ∀ k, (vs 18).ownBlock = some k → ¬ V k at h30
          rw [← HST.out] at h30
          generalize vs 18 = f18 at h30 ⊢
          have HF30 : AsideRp (Kd.R (Kd.int .u8) 5 w30 w.heap.size (fun k => True ∧ some k ≠ u4.ownBlock) f18 (fstS cs n (L.take (i + 1)))) := ⟨R_ok h30.1 (fun k hk => ⟨trivial, fun h => h30.2 k hk (by rw [HVD.out]; exact h)⟩)⟩
          have HA30 := AsideRp.mk (Kd.R_mono (ok' := fun _ => True) hAV3 (fun _ _ => trivial))
          have HB30 := AsideRp.mk hB30
          have HC30 := AsideRp.mk (Kd.C_below hcxx.out hB30)
          clear h30 hAV2 hAV3 hFO2 hV2 hX0' hX1' hXN hB20 hB30 HSUM
          simp only [putL, Act.put, List.setIfInBounds_toArray, List.set_cons_zero, List.set_cons_succ]
          go_wp2_with (at_builtin; refine Kd.R_append_rows (Kd.int .u8) (w0 := w) w.heap.size rfl (.tmp 53) (.tmp 58) 22 5 (.int .u8 0) 1 rfl Tryd.underlying22 HI.out rfl (by decide) (by decide) u4 AL0 xs A1 nx c1 (fun _ => True) (fun _ => False) rfl rfl HA30.out HC30.out (fun _ _ h => h) (fun _ hk => hk.elim) (fun _ _ => trivial) HB30.out HB30.out.size ?aL ?_; (case aL => have := HLEN.out; omega); intro v9 w9 ho hb hg hat; rw [← HSA.out] at ho; have HA9 := AsideRp.mk ho; have HB9 := AsideRp.mk hb; have HF9 := AsideRp.mk (Kd.R_after HF30.out hg hat); clear ho hb hg hat)
          go_roundw
          case rel => exact ⟨i + 1, by omega, by go_num, HB9, HF9, HA9⟩
          case measure => simp [intOf]; omega
    · obtain rfl : i = n := by omega
      clear hi hlt
      rw [List.take_of_length_le (by rw [HN.out]; exact Nat.le_refl _)] at HFr HAr
      have hFl := HFLn.out i
      have hAl := HALn.out i
      rw [List.take_of_length_le (by rw [HN.out]; exact Nat.le_refl _)] at hFl hAl
      have hpk : packS cs L = (fstS cs i L ++ bigL (cs (fstS cs i L)) 4) ++ allS L := by unfold packS; rw [HN.out]; simp
      have HPK := AsideRp.mk hpk
      obtain ⟨hcx, hcx0, hcx1, hb4⟩ := HFF.out
      generalize fstS cs i L = F at *
      generalize allS L = Al at *
      generalize cs F = y at *
      obtain ⟨AF, cF, eF⟩ := Kd.R_slice HFr.out
      obtain ⟨Aa, ca, ea⟩ := Kd.R_slice HAr.out
      obtain ⟨nF, hnF⟩ : ∃ nF, F.length = nF := ⟨_, rfl⟩
      obtain ⟨na, hna⟩ : ∃ na, Al.length = na := ⟨_, rfl⟩
      rw [hnF] at eF
      rw [hna] at ea
      subst eF ea
      have hCF := Kd.R_reads' HFr.out
      rw [hnF] at hCF
      have HSUM := AsideRp.mk (show Calls Tryd.prog 25 #[.slice AF nF cF] wr fun e w' => e = .returned (.int .u32 y) ∧ Drawn0 wr w' from by
        have h := sackbutref04_Sum.calls kk AF cF F y wr (by rw [hnF]; exact hCF.2.2) (by rw [hnF]; exact hCF.2.1) hcx
        rw [hnF] at h
        exact h)
      have HBG := AsideRp.mk (fun W => sackbutref25_big.calls kk y 4 (bigL y 4) W hb4)
      have HF0 := AsideRp.mk (Kd.R_mono (ok' := fun _ => True) HFr.out (fun _ _ => trivial))
      have HA0 : AsideRp (Kd.R (Kd.int .u8) 5 wr w.heap.size (fun k => True ∧ some k ≠ (Value.slice AF nF cF).ownBlock) (.slice Aa na ca) Al) := ⟨R_ok HAr.out (fun k hk => ⟨trivial, fun h => (HFr.out.1 k h.symm).2 hk.symm⟩)⟩
      have hwy : IntKind.i64.wrap y = y := by rw [IntKind.wrap_i64]; omega
      have hwy0 : 0 ≤ y := hcx0
      have hwy1 : y ≤ 4294967295 := by omega
      have HLEN : AsideRp (F.length ≤ 26305 ∧ Al.length ≤ 1000000 ∧ F.length = nF ∧ Al.length = na) := ⟨hFl, hAl, hnF, hna⟩
      clear hFl hAl hpk hcx hcx0 hcx1 hb4 hnF hna hCF HFr HAr
      go_wp2_with (first | (go_at_call 25; (with_reducible refine HSUM.out.mono ?_); rintro e w12 ⟨rfl, hd⟩; have HB12 := AsideRp.mk (below_step HBr.out hd.below); have HF1 := AsideRp.mk (Kd.R_below HF0.out hd.below); have HA1 := AsideRp.mk (Kd.R_below HA0.out hd.below); clear hd) | (go_at_call 35; (with_reducible refine (HBG.out _).mono ?_); rintro e w13 ⟨vb, rfl, ho, hb⟩; have HB13 := AsideRp.mk (below_step HB12.out hb); have HF2 := AsideRp.mk (Kd.R_below HF1.out hb); have HA2 := AsideRp.mk (Kd.R_below HA1.out hb); obtain ⟨Ab, cb, eb⟩ := Kd.R_slice ho; rw [bigL_length] at eb; subst eb; have HRB := AsideRp.mk (Kd.R_reads' ho).2.2; clear ho hb) | (at_builtin; refine Kd.R_append_rows (Kd.int .u8) (w0 := w) w.heap.size rfl (.tmp 61) (.tmp 65) 22 5 (.int .u8 0) 1 rfl Tryd.underlying22 HI.out rfl (by decide) (by decide) (.slice AF nF cF) F (bigL y 4) Ab 4 cb (fun _ => True) (fun _ => False) rfl rfl HF2.out (by have h := HRB.out; rwa [bigL_length] at h) (fun _ _ h => h) (fun _ hk => hk.elim) (fun _ _ => trivial) HB13.out HB13.out.size ?aL ?_; (case aL => have := HLEN.out; omega); intro v14 w14 ho hb hg hat; have HF3 := AsideRp.mk ho; have HB14 := AsideRp.mk hb; have HA3 := AsideRp.mk (Kd.R_mono (ok' := fun _ => True) (Kd.R_after HA2.out hg hat) (fun _ _ => trivial)); clear ho hb hg hat) | (at_builtin; refine Kd.R_append_rows (Kd.int .u8) (w0 := w) w.heap.size rfl (.tmp 66) (.tmp 67) 22 5 (.int .u8 0) 1 rfl Tryd.underlying22 HI.out rfl (by decide) (by decide) v14 (F ++ bigL y 4) Al Aa na ca (fun _ => True) (fun _ => False) rfl rfl HF3.out (by have h := (Kd.R_reads' HA3.out).2.2; rwa [HLEN.out.2.2.2] at h) (fun _ _ h => h) (fun _ hk => hk.elim) (fun _ _ => trivial) HB14.out HB14.out.size ?aL2 ?_; (case aL2 => rw [List.length_append, bigL_length]; have := HLEN.out; omega); intro v15 w15 ho hb hg hat; have HF4 := AsideRp.mk ho; have HB15 := AsideRp.mk hb; clear ho hb hg hat))
      go_ret
      exact ⟨_, rfl, by rw [HPK.out]; exact HF4.out, HB15.out⟩

end Go.Proofs.YtibmccacebhhkaaDoor.HV

namespace Go.Proofs.YtibmccacebhhkaaDoor.HV
open Go.RowKit Go.Proofs.YtibmccacebhhkaaDoorW.PrintWords Go.Proofs.YtibmccacebhhkaaDoorW.PrintLast Go.Proofs.YtibmccacebhhkaaDoorW.PrintMore
attribute [local go_sem] max2_int min2_int max_two min_two max_three min_three max_four min_four
set_option linter.unusedVariables false
set_option linter.unusedSimpArgs false
structure AsideRg (p : Prop) : Prop where mk :: (out : p)
set_option maxRecDepth 100000 in
set_option maxHeartbeats 4000000 in
theorem ref_good.gives (K : Nat) (A : Option Addr) (c : Nat) (L : List S49) (w : World) (hR : Kd.C k57 w A L.length (L.map toI)) (hri : ∀ x ∈ L, sackbutref25_Right.f K x.f0 x.f1 = some (rightB x.f0 x.f1.length)) :
    Calls Tryd.prog 13 #[.slice A L.length c] w fun e w' => e = .returned (.bool (goodI L)) ∧ Below w.heap.size w w' := by
  have HR := AsideRg.mk hR
  have HRI := AsideRg.mk hri
  obtain ⟨j, hj⟩ : ∃ j, L.length = j := ⟨_, rfl⟩
  have hjm : j ≤ 9223372036854775807 := by have := hR.2.1; omega
  rw [hj]
  have HLL := AsideRg.mk hj
  have HB0 := AsideRg.mk (Below.refl w.heap.size w)
  clear hR hj hri
  go_enter Tryd.func13, Tryd.ntmps13
  go_wp2_with (fail)
  go_loopw [6] (fun v wr => ∃ i : Nat, i ≤ j ∧ v = .int .i64 i ∧ AsideRg (∀ t, t < i → okI L t = true) ∧ AsideRg (Below w.heap.size w wr)) (fun v _ => j - (intOf v).toNat)
  case atStart => exact ⟨0, Nat.zero_le _, rfl, ⟨fun t h => absurd h (Nat.not_lt_zero _)⟩, HB0⟩
  case round =>
    clear HB0
    obtain ⟨i, hi, rfl, HA, HB⟩ := hrel
    by_cases hlt : i < j
    · have hC := Kd.C_below HR.out HB.out
      rw [HLL.out] at hC
      obtain ⟨ad, A1, c1, e, hx0, hx1, hlc, hCx⟩ := at_T57 hC (i : Int) (by omega) (by omega)
      subst e
      rw [toI_get L i (by rw [HLL.out]; exact hlt), Int.toNat_natCast] at hx0 hx1
      rw [toI_get L i (by rw [HLL.out]; exact hlt)] at hlc hCx
      change wr.cell? (ad.add (i * 2)) = some (.string (L.getD i z49).f0) at hx0
      change wr.cell? ⟨(ad.add (i * 2)).block, (ad.add (i * 2)).off + 1, none⟩ = some (.slice A1 (L.getD i z49).f1.length c1) at hx1
      change (L.getD i z49).f1.length ≤ c1 at hlc
      change Kd.C (Kd.int .u8) wr A1 (L.getD i z49).f1.length (L.getD i z49).f1 at hCx
      have hmem : L.getD i z49 ∈ L := by rw [List.getD_eq_getElem?_getD, List.getElem?_eq_getElem (by rw [HLL.out]; exact hlt)]; exact List.getElem_mem _
      have hok : okI L i = (rightB (L.getD i z49).f0 (L.getD i z49).f1.length && (decide (i = 0) || Op.bytesLess (L.getD (i - 1) z49).f0.toList (L.getD i z49).f0.toList)) := rfl
      have hri := HRI.out _ hmem
      have HRIG := AsideRg.mk (fun (W : World) (hW : Below wr.heap.size wr W) => sackbutref25_Right.calls K (L.getD i z49).f0 A1 c1 (L.getD i z49).f1 _ W (Kd.C_below hCx hW) hlc hri)
      generalize (L.getD i z49).f0 = xx at *
      generalize (L.getD i z49).f1 = xs at *
      obtain ⟨nx, hnx⟩ : ∃ nx, xs.length = nx := ⟨_, rfl⟩
      rw [hnx] at hx1 hok HRIG
      have i0 : (0 : Int) ≤ (i : Int) := by omega
      have i1 : (i : Int) < (j : Int) := by omega
      have hx0d := pw_cell_below (below_drew (Below.refl wr.heap.size wr)) hx0
      have hx1d := pw_cell_below (below_drew (Below.refl wr.heap.size wr)) hx1
      have HBd := AsideRg.mk (below_drew (Below.refl wr.heap.size wr))
      clear hri hmem hC hlc hCx hnx
      go_upto_region 4 with (fail)
      clear hx0 hx1
      cases hn : rightB xx nx with
      | false =>
        rw [hn] at HRIG hok
        have HOK := AsideRg.mk hok
        clear hn hok
        refine start_ (n := 24) (S := fun w' => w'.cell? (ad.add (i * 2)) = some (.string xx) ∧ w'.cell? ⟨(ad.add (i * 2)).block, (ad.add (i * 2)).off + 1, none⟩ = some (.slice A1 nx c1) ∧ AsideRg (Below wr.heap.size wr w')) (ds := []) #[false, false, false, false, false, false, false, false, false, false, false, false, false, false, false, false, false, false, false, false, false, false, false, false] (by kernel_rfl) rfl rfl ⟨hx0d, hx1d, HBd⟩ (fun hHeld => ?_)
        refine pure_ (i := 0) (N := some 9) (v := ?_) (a' := ?_) #[true, false, false, false, false, false, false, false, false, false, false, false, false, false, false, false, false, false, false, false, false, false, false, false] rfl rfl (by kernel_rfl) (fun _ _ _ h => h) (Or.inl ⟨by rfl, ?_⟩) ?_ ?_
        rotate_left
        · intro w'
          go_simp
          with_reducible rfl
        rotate_left
        · simp only [Act.put, List.setIfInBounds_toArray, List.set_cons_zero, List.set_cons_succ, i64_w, i32_w]
          rfl
        refine pure_ (i := 1) (N := some 10) (v := ?_) (a' := ?_) #[true, true, false, false, false, false, false, false, false, false, false, false, false, false, false, false, false, false, false, false, false, false, false, false] rfl rfl (by kernel_rfl) (fun _ _ _ h => h) (Or.inl ⟨by rfl, ?_⟩) ?_ ?_
        rotate_left
        · intro w'
          go_simp
          with_reducible rfl
        rotate_left
        · simp only [Act.put, List.setIfInBounds_toArray, List.set_cons_zero, List.set_cons_succ, i64_w, i32_w]
          rfl
        refine pure_ (i := 2) (N := some 11) (v := ?_) (a' := ?_) #[true, true, true, false, false, false, false, false, false, false, false, false, false, false, false, false, false, false, false, false, false, false, false, false] rfl rfl (by kernel_rfl) (fun _ _ _ h => h) (Or.inl ⟨by rfl, ?_⟩) ?_ ?_
        rotate_left
        · intro w'
          go_simp
          with_reducible rfl
        rotate_left
        · simp only [Act.put, List.setIfInBounds_toArray, List.set_cons_zero, List.set_cons_succ, i64_w, i32_w]
          rfl
        refine take_ (i := 3) (N := some 12) (v := ?_) (a' := ?_) #[true, true, true, true, false, false, false, false, false, false, false, false, false, false, false, false, false, false, false, false, false, false, false, false] rfl rfl (by kernel_rfl) (fun _ _ _ h => h) (Or.inl ⟨by rfl, ?_⟩) hHeld ?_ ?_
        rotate_left
        · rintro w' ⟨s0, s1, s2⟩
          go_simp
          with_reducible rfl
        rotate_left
        · simp only [Act.put, List.setIfInBounds_toArray, List.set_cons_zero, List.set_cons_succ, i64_w, i32_w]
          rfl
        refine one_ (i := 4) (N := some 13) #[true, true, true, true, true, false, false, false, false, false, false, false, false, false, false, false, false, false, false, false, false, false, false, false] rfl rfl (by kernel_rfl) (by decide) (fun K hK => ?_)
        refine goes_ Tryd.func24 (by kernel_rfl) rfl #[.agg #[.string xx, .slice A1 nx c1]] (by rfl) rfl rfl (by simp only [List.map_toArray, List.map_cons, List.map_nil]; rfl) ?_
        with_reducible refine (HRIG.out _ hHeld.2.2.out).mono ?_
        rintro e w19 ⟨rfl, hb⟩
        refine ⟨_, rfl, ?_⟩
        refine hK.out _ _ ⟨pw_cell_below hb hHeld.1, pw_cell_below hb hHeld.2.1, ⟨below_step hHeld.2.2.out hb⟩⟩ (fun hHeld => ?_)
        clear hK K
        refine norm_ (a' := ?_) ?_ ?_
        rotate_left
        · show Act.put _ (some 13) _ = _
          simp only [Act.put, List.setIfInBounds_toArray, List.set_cons_zero, List.set_cons_succ, i64_w, i32_w]
          rfl
        refine pure_ (i := 5) (N := some 14) (v := ?_) (a' := ?_) #[true, true, true, true, true, true, false, false, false, false, false, false, false, false, false, false, false, false, false, false, false, false, false, false] rfl rfl (by kernel_rfl) (fun _ _ _ h => h) (Or.inl ⟨by rfl, ?_⟩) ?_ ?_
        rotate_left
        · intro w'
          go_simp
          with_reducible rfl
        rotate_left
        · simp only [Act.put, List.setIfInBounds_toArray, List.set_cons_zero, List.set_cons_succ, i64_w, i32_w]
          rfl
        refine pure_ (i := 6) (N := some 15) (v := ?_) (a' := ?_) #[true, true, true, true, true, true, true, false, false, false, false, false, false, false, false, false, false, false, false, false, false, false, false, false] rfl rfl (by kernel_rfl) (fun _ _ _ h => h) (Or.inl ⟨by rfl, ?_⟩) ?_ ?_
        rotate_left
        · intro w'
          go_simp
          with_reducible rfl
        rotate_left
        · simp only [Act.put, List.setIfInBounds_toArray, List.set_cons_zero, List.set_cons_succ, i64_w, i32_w]
          rfl
        refine pure_ (i := 7) (N := some 16) (v := undef) (a' := ?_) #[true, true, true, true, true, true, true, true, false, false, false, false, false, false, false, false, false, false, false, false, false, false, false, false] rfl rfl (by kernel_rfl) (fun _ _ _ h => h) (Or.inr ⟨by rfl, rfl⟩) ?_ ?_
        rotate_left
        · simp only [Act.put, List.setIfInBounds_toArray, List.set_cons_zero, List.set_cons_succ, i64_w, i32_w]
          rfl
        refine pure_ (i := 8) (N := some 17) (v := undef) (a' := ?_) #[true, true, true, true, true, true, true, true, true, false, false, false, false, false, false, false, false, false, false, false, false, false, false, false] rfl rfl (by kernel_rfl) (fun _ _ _ h => h) (Or.inr ⟨by rfl, rfl⟩) ?_ ?_
        rotate_left
        · simp only [Act.put, List.setIfInBounds_toArray, List.set_cons_zero, List.set_cons_succ, i64_w, i32_w]
          rfl
        refine pure_ (i := 9) (N := some 18) (v := undef) (a' := ?_) #[true, true, true, true, true, true, true, true, true, true, false, false, false, false, false, false, false, false, false, false, false, false, false, false] rfl rfl (by kernel_rfl) (fun _ _ _ h => h) (Or.inr ⟨by rfl, rfl⟩) ?_ ?_
        rotate_left
        · simp only [Act.put, List.setIfInBounds_toArray, List.set_cons_zero, List.set_cons_succ, i64_w, i32_w]
          rfl
        refine pure_ (i := 10) (N := some 19) (v := undef) (a' := ?_) #[true, true, true, true, true, true, true, true, true, true, true, false, false, false, false, false, false, false, false, false, false, false, false, false] rfl rfl (by kernel_rfl) (fun _ _ _ h => h) (Or.inr ⟨by rfl, rfl⟩) ?_ ?_
        rotate_left
        · simp only [Act.put, List.setIfInBounds_toArray, List.set_cons_zero, List.set_cons_succ, i64_w, i32_w]
          rfl
        refine pure_ (i := 11) (N := some 20) (v := undef) (a' := ?_) #[true, true, true, true, true, true, true, true, true, true, true, true, false, false, false, false, false, false, false, false, false, false, false, false] rfl rfl (by kernel_rfl) (fun _ _ _ h => h) (Or.inr ⟨by rfl, rfl⟩) ?_ ?_
        rotate_left
        · simp only [Act.put, List.setIfInBounds_toArray, List.set_cons_zero, List.set_cons_succ, i64_w, i32_w]
          rfl
        refine pure_ (i := 12) (N := some 21) (v := undef) (a' := ?_) #[true, true, true, true, true, true, true, true, true, true, true, true, true, false, false, false, false, false, false, false, false, false, false, false] rfl rfl (by kernel_rfl) (fun _ _ _ h => h) (Or.inr ⟨by rfl, rfl⟩) ?_ ?_
        rotate_left
        · simp only [Act.put, List.setIfInBounds_toArray, List.set_cons_zero, List.set_cons_succ, i64_w, i32_w]
          rfl
        refine pure_ (i := 13) (N := some 22) (v := undef) (a' := ?_) #[true, true, true, true, true, true, true, true, true, true, true, true, true, true, false, false, false, false, false, false, false, false, false, false] rfl rfl (by kernel_rfl) (fun _ _ _ h => h) (Or.inr ⟨by rfl, rfl⟩) ?_ ?_
        rotate_left
        · simp only [Act.put, List.setIfInBounds_toArray, List.set_cons_zero, List.set_cons_succ, i64_w, i32_w]
          rfl
        refine pure_ (i := 14) (N := some 23) (v := undef) (a' := ?_) #[true, true, true, true, true, true, true, true, true, true, true, true, true, true, true, false, false, false, false, false, false, false, false, false] rfl rfl (by kernel_rfl) (fun _ _ _ h => h) (Or.inr ⟨by rfl, rfl⟩) ?_ ?_
        rotate_left
        · simp only [Act.put, List.setIfInBounds_toArray, List.set_cons_zero, List.set_cons_succ, i64_w, i32_w]
          rfl
        refine pure_ (i := 15) (N := some 24) (v := undef) (a' := ?_) #[true, true, true, true, true, true, true, true, true, true, true, true, true, true, true, true, false, false, false, false, false, false, false, false] rfl rfl (by kernel_rfl) (fun _ _ _ h => h) (Or.inr ⟨by rfl, rfl⟩) ?_ ?_
        rotate_left
        · simp only [Act.put, List.setIfInBounds_toArray, List.set_cons_zero, List.set_cons_succ, i64_w, i32_w]
          rfl
        refine pure_ (i := 16) (N := some 25) (v := undef) (a' := ?_) #[true, true, true, true, true, true, true, true, true, true, true, true, true, true, true, true, true, false, false, false, false, false, false, false] rfl rfl (by kernel_rfl) (fun _ _ _ h => h) (Or.inr ⟨by rfl, rfl⟩) ?_ ?_
        rotate_left
        · simp only [Act.put, List.setIfInBounds_toArray, List.set_cons_zero, List.set_cons_succ, i64_w, i32_w]
          rfl
        refine pure_ (i := 17) (N := some 26) (v := undef) (a' := ?_) #[true, true, true, true, true, true, true, true, true, true, true, true, true, true, true, true, true, true, false, false, false, false, false, false] rfl rfl (by kernel_rfl) (fun _ _ _ h => h) (Or.inr ⟨by rfl, rfl⟩) ?_ ?_
        rotate_left
        · simp only [Act.put, List.setIfInBounds_toArray, List.set_cons_zero, List.set_cons_succ, i64_w, i32_w]
          rfl
        refine pure_ (i := 18) (N := some 27) (v := undef) (a' := ?_) #[true, true, true, true, true, true, true, true, true, true, true, true, true, true, true, true, true, true, true, false, false, false, false, false] rfl rfl (by kernel_rfl) (fun _ _ _ h => h) (Or.inr ⟨by rfl, rfl⟩) ?_ ?_
        rotate_left
        · simp only [Act.put, List.setIfInBounds_toArray, List.set_cons_zero, List.set_cons_succ, i64_w, i32_w]
          rfl
        refine pure_ (i := 19) (N := some 28) (v := undef) (a' := ?_) #[true, true, true, true, true, true, true, true, true, true, true, true, true, true, true, true, true, true, true, true, false, false, false, false] rfl rfl (by kernel_rfl) (fun _ _ _ h => h) (Or.inr ⟨by rfl, rfl⟩) ?_ ?_
        rotate_left
        · simp only [Act.put, List.setIfInBounds_toArray, List.set_cons_zero, List.set_cons_succ, i64_w, i32_w]
          rfl
        refine pure_ (i := 20) (N := some 29) (v := undef) (a' := ?_) #[true, true, true, true, true, true, true, true, true, true, true, true, true, true, true, true, true, true, true, true, true, false, false, false] rfl rfl (by kernel_rfl) (fun _ _ _ h => h) (Or.inr ⟨by rfl, rfl⟩) ?_ ?_
        rotate_left
        · simp only [Act.put, List.setIfInBounds_toArray, List.set_cons_zero, List.set_cons_succ, i64_w, i32_w]
          rfl
        refine pure_ (i := 21) (N := some 30) (v := undef) (a' := ?_) #[true, true, true, true, true, true, true, true, true, true, true, true, true, true, true, true, true, true, true, true, true, true, false, false] rfl rfl (by kernel_rfl) (fun _ _ _ h => h) (Or.inr ⟨by rfl, rfl⟩) ?_ ?_
        rotate_left
        · simp only [Act.put, List.setIfInBounds_toArray, List.set_cons_zero, List.set_cons_succ, i64_w, i32_w]
          rfl
        refine pure_ (i := 22) (N := some 31) (v := undef) (a' := ?_) #[true, true, true, true, true, true, true, true, true, true, true, true, true, true, true, true, true, true, true, true, true, true, true, false] rfl rfl (by kernel_rfl) (fun _ _ _ h => h) (Or.inr ⟨by rfl, rfl⟩) ?_ ?_
        rotate_left
        · simp only [Act.put, List.setIfInBounds_toArray, List.set_cons_zero, List.set_cons_succ, i64_w, i32_w]
          rfl
        refine pure_ (i := 23) (N := some 32) (v := ?_) (a' := ?_) #[true, true, true, true, true, true, true, true, true, true, true, true, true, true, true, true, true, true, true, true, true, true, true, true] rfl rfl (by kernel_rfl) (fun _ _ _ h => h) (Or.inl ⟨by rfl, ?_⟩) ?_ ?_
        rotate_left
        · intro w'
          go_simp
          with_reducible rfl
        rotate_left
        · simp only [Act.put, List.setIfInBounds_toArray, List.set_cons_zero, List.set_cons_succ, i64_w, i32_w]
          rfl
        refine done_ (by kernel_rfl) ?_
        go_wp2_with (fail)
        go_ret
        rw [goodI_false (i := i) (by rw [HLL.out]; exact hlt) (by rw [HOK.out]; simp)]
        exact ⟨rfl, below_step HB.out hHeld.2.2.out⟩
      | true =>
        rw [hn] at HRIG hok
        clear hn
        rcases Nat.eq_zero_or_pos i with h0 | h0
        · have c0 : decide (0 < (i : Int)) = false := decide_eq_false (by omega)
          have c0n : decide (0 < i) = false := decide_eq_false (by omega)
          have c0m : ¬ (0 : Int) < (i : Int) := by omega
          rw [decide_eq_true h0] at hok
          clear h0
          have HOK := AsideRg.mk hok
          clear hok
          refine start_ (n := 24) (S := fun w' => w'.cell? (ad.add (i * 2)) = some (.string xx) ∧ w'.cell? ⟨(ad.add (i * 2)).block, (ad.add (i * 2)).off + 1, none⟩ = some (.slice A1 nx c1) ∧ AsideRg (Below wr.heap.size wr w')) (ds := []) #[false, false, false, false, false, false, false, false, false, false, false, false, false, false, false, false, false, false, false, false, false, false, false, false] (by kernel_rfl) rfl rfl ⟨hx0d, hx1d, HBd⟩ (fun hHeld => ?_)
          refine pure_ (i := 0) (N := some 9) (v := ?_) (a' := ?_) #[true, false, false, false, false, false, false, false, false, false, false, false, false, false, false, false, false, false, false, false, false, false, false, false] rfl rfl (by kernel_rfl) (fun _ _ _ h => h) (Or.inl ⟨by rfl, ?_⟩) ?_ ?_
          rotate_left
          · intro w'
            go_simp
            with_reducible rfl
          rotate_left
          · simp only [Act.put, List.setIfInBounds_toArray, List.set_cons_zero, List.set_cons_succ, i64_w, i32_w]
            rfl
          refine pure_ (i := 1) (N := some 10) (v := ?_) (a' := ?_) #[true, true, false, false, false, false, false, false, false, false, false, false, false, false, false, false, false, false, false, false, false, false, false, false] rfl rfl (by kernel_rfl) (fun _ _ _ h => h) (Or.inl ⟨by rfl, ?_⟩) ?_ ?_
          rotate_left
          · intro w'
            go_simp
            with_reducible rfl
          rotate_left
          · simp only [Act.put, List.setIfInBounds_toArray, List.set_cons_zero, List.set_cons_succ, i64_w, i32_w]
            rfl
          refine pure_ (i := 2) (N := some 11) (v := ?_) (a' := ?_) #[true, true, true, false, false, false, false, false, false, false, false, false, false, false, false, false, false, false, false, false, false, false, false, false] rfl rfl (by kernel_rfl) (fun _ _ _ h => h) (Or.inl ⟨by rfl, ?_⟩) ?_ ?_
          rotate_left
          · intro w'
            go_simp
            with_reducible rfl
          rotate_left
          · simp only [Act.put, List.setIfInBounds_toArray, List.set_cons_zero, List.set_cons_succ, i64_w, i32_w]
            rfl
          refine take_ (i := 3) (N := some 12) (v := ?_) (a' := ?_) #[true, true, true, true, false, false, false, false, false, false, false, false, false, false, false, false, false, false, false, false, false, false, false, false] rfl rfl (by kernel_rfl) (fun _ _ _ h => h) (Or.inl ⟨by rfl, ?_⟩) hHeld ?_ ?_
          rotate_left
          · rintro w' ⟨s0, s1, s2⟩
            go_simp
            with_reducible rfl
          rotate_left
          · simp only [Act.put, List.setIfInBounds_toArray, List.set_cons_zero, List.set_cons_succ, i64_w, i32_w]
            rfl
          refine one_ (i := 4) (N := some 13) #[true, true, true, true, true, false, false, false, false, false, false, false, false, false, false, false, false, false, false, false, false, false, false, false] rfl rfl (by kernel_rfl) (by decide) (fun K hK => ?_)
          refine goes_ Tryd.func24 (by kernel_rfl) rfl #[.agg #[.string xx, .slice A1 nx c1]] (by rfl) rfl rfl (by simp only [List.map_toArray, List.map_cons, List.map_nil]; rfl) ?_
          with_reducible refine (HRIG.out _ hHeld.2.2.out).mono ?_
          rintro e w19 ⟨rfl, hb⟩
          refine ⟨_, rfl, ?_⟩
          refine hK.out _ _ ⟨pw_cell_below hb hHeld.1, pw_cell_below hb hHeld.2.1, ⟨below_step hHeld.2.2.out hb⟩⟩ (fun hHeld => ?_)
          clear hK K
          refine norm_ (a' := ?_) ?_ ?_
          rotate_left
          · show Act.put _ (some 13) _ = _
            simp only [Act.put, List.setIfInBounds_toArray, List.set_cons_zero, List.set_cons_succ, i64_w, i32_w]
            rfl
          refine pure_ (i := 5) (N := some 14) (v := ?_) (a' := ?_) #[true, true, true, true, true, true, false, false, false, false, false, false, false, false, false, false, false, false, false, false, false, false, false, false] rfl rfl (by kernel_rfl) (fun _ _ _ h => h) (Or.inl ⟨by rfl, ?_⟩) ?_ ?_
          rotate_left
          · intro w'
            go_simp
            with_reducible rfl
          rotate_left
          · simp only [Act.put, List.setIfInBounds_toArray, List.set_cons_zero, List.set_cons_succ, i64_w, i32_w]
            rfl
          refine pure_ (i := 6) (N := some 15) (v := ?_) (a' := ?_) #[true, true, true, true, true, true, true, false, false, false, false, false, false, false, false, false, false, false, false, false, false, false, false, false] rfl rfl (by kernel_rfl) (fun _ _ _ h => h) (Or.inl ⟨by rfl, ?_⟩) ?_ ?_
          rotate_left
          · intro w'
            go_simp
            with_reducible rfl
          rotate_left
          · simp only [Act.put, List.setIfInBounds_toArray, List.set_cons_zero, List.set_cons_succ, i64_w, i32_w]
            rfl
          refine pure_ (i := 7) (N := some 16) (v := ?_) (a' := ?_) #[true, true, true, true, true, true, true, true, false, false, false, false, false, false, false, false, false, false, false, false, false, false, false, false] rfl rfl (by kernel_rfl) (fun _ _ _ h => h) (Or.inl ⟨by rfl, ?_⟩) ?_ ?_
          rotate_left
          · intro w'
            go_simp
            with_reducible rfl
          rotate_left
          · simp only [Act.put, List.setIfInBounds_toArray, List.set_cons_zero, List.set_cons_succ, i64_w, i32_w]
            rfl
          refine pure_ (i := 8) (N := some 17) (v := ?_) (a' := ?_) #[true, true, true, true, true, true, true, true, true, false, false, false, false, false, false, false, false, false, false, false, false, false, false, false] rfl rfl (by kernel_rfl) (fun _ _ _ h => h) (Or.inl ⟨by rfl, ?_⟩) ?_ ?_
          rotate_left
          · intro w'
            go_simp
            with_reducible rfl
          rotate_left
          · simp only [Act.put, List.setIfInBounds_toArray, List.set_cons_zero, List.set_cons_succ, i64_w, i32_w]
            rfl
          refine pure_ (i := 9) (N := some 18) (v := ?_) (a' := ?_) #[true, true, true, true, true, true, true, true, true, true, false, false, false, false, false, false, false, false, false, false, false, false, false, false] rfl rfl (by kernel_rfl) (fun _ _ _ h => h) (Or.inl ⟨by rfl, ?_⟩) ?_ ?_
          rotate_left
          · intro w'
            go_simp
            with_reducible rfl
          rotate_left
          · simp only [Act.put, List.setIfInBounds_toArray, List.set_cons_zero, List.set_cons_succ, i64_w, i32_w]
            rfl
          refine pure_ (i := 10) (N := some 19) (v := undef) (a' := ?_) #[true, true, true, true, true, true, true, true, true, true, true, false, false, false, false, false, false, false, false, false, false, false, false, false] rfl rfl (by kernel_rfl) (fun _ _ _ h => h) (Or.inr ⟨by rfl, rfl⟩) ?_ ?_
          rotate_left
          · simp only [Act.put, List.setIfInBounds_toArray, List.set_cons_zero, List.set_cons_succ, i64_w, i32_w]
            rfl
          refine pure_ (i := 11) (N := some 20) (v := undef) (a' := ?_) #[true, true, true, true, true, true, true, true, true, true, true, true, false, false, false, false, false, false, false, false, false, false, false, false] rfl rfl (by kernel_rfl) (fun _ _ _ h => h) (Or.inr ⟨by rfl, rfl⟩) ?_ ?_
          rotate_left
          · simp only [Act.put, List.setIfInBounds_toArray, List.set_cons_zero, List.set_cons_succ, i64_w, i32_w]
            rfl
          refine pure_ (i := 12) (N := some 21) (v := undef) (a' := ?_) #[true, true, true, true, true, true, true, true, true, true, true, true, true, false, false, false, false, false, false, false, false, false, false, false] rfl rfl (by kernel_rfl) (fun _ _ _ h => h) (Or.inr ⟨by rfl, rfl⟩) ?_ ?_
          rotate_left
          · simp only [Act.put, List.setIfInBounds_toArray, List.set_cons_zero, List.set_cons_succ, i64_w, i32_w]
            rfl
          refine pure_ (i := 13) (N := some 22) (v := undef) (a' := ?_) #[true, true, true, true, true, true, true, true, true, true, true, true, true, true, false, false, false, false, false, false, false, false, false, false] rfl rfl (by kernel_rfl) (fun _ _ _ h => h) (Or.inr ⟨by rfl, rfl⟩) ?_ ?_
          rotate_left
          · simp only [Act.put, List.setIfInBounds_toArray, List.set_cons_zero, List.set_cons_succ, i64_w, i32_w]
            rfl
          refine pure_ (i := 14) (N := some 23) (v := undef) (a' := ?_) #[true, true, true, true, true, true, true, true, true, true, true, true, true, true, true, false, false, false, false, false, false, false, false, false] rfl rfl (by kernel_rfl) (fun _ _ _ h => h) (Or.inr ⟨by rfl, rfl⟩) ?_ ?_
          rotate_left
          · simp only [Act.put, List.setIfInBounds_toArray, List.set_cons_zero, List.set_cons_succ, i64_w, i32_w]
            rfl
          refine pure_ (i := 15) (N := some 24) (v := undef) (a' := ?_) #[true, true, true, true, true, true, true, true, true, true, true, true, true, true, true, true, false, false, false, false, false, false, false, false] rfl rfl (by kernel_rfl) (fun _ _ _ h => h) (Or.inr ⟨by rfl, rfl⟩) ?_ ?_
          rotate_left
          · simp only [Act.put, List.setIfInBounds_toArray, List.set_cons_zero, List.set_cons_succ, i64_w, i32_w]
            rfl
          refine pure_ (i := 16) (N := some 25) (v := undef) (a' := ?_) #[true, true, true, true, true, true, true, true, true, true, true, true, true, true, true, true, true, false, false, false, false, false, false, false] rfl rfl (by kernel_rfl) (fun _ _ _ h => h) (Or.inr ⟨by rfl, rfl⟩) ?_ ?_
          rotate_left
          · simp only [Act.put, List.setIfInBounds_toArray, List.set_cons_zero, List.set_cons_succ, i64_w, i32_w]
            rfl
          refine pure_ (i := 17) (N := some 26) (v := undef) (a' := ?_) #[true, true, true, true, true, true, true, true, true, true, true, true, true, true, true, true, true, true, false, false, false, false, false, false] rfl rfl (by kernel_rfl) (fun _ _ _ h => h) (Or.inr ⟨by rfl, rfl⟩) ?_ ?_
          rotate_left
          · simp only [Act.put, List.setIfInBounds_toArray, List.set_cons_zero, List.set_cons_succ, i64_w, i32_w]
            rfl
          refine pure_ (i := 18) (N := some 27) (v := undef) (a' := ?_) #[true, true, true, true, true, true, true, true, true, true, true, true, true, true, true, true, true, true, true, false, false, false, false, false] rfl rfl (by kernel_rfl) (fun _ _ _ h => h) (Or.inr ⟨by rfl, rfl⟩) ?_ ?_
          rotate_left
          · simp only [Act.put, List.setIfInBounds_toArray, List.set_cons_zero, List.set_cons_succ, i64_w, i32_w]
            rfl
          refine pure_ (i := 19) (N := some 28) (v := undef) (a' := ?_) #[true, true, true, true, true, true, true, true, true, true, true, true, true, true, true, true, true, true, true, true, false, false, false, false] rfl rfl (by kernel_rfl) (fun _ _ _ h => h) (Or.inr ⟨by rfl, rfl⟩) ?_ ?_
          rotate_left
          · simp only [Act.put, List.setIfInBounds_toArray, List.set_cons_zero, List.set_cons_succ, i64_w, i32_w]
            rfl
          refine pure_ (i := 20) (N := some 29) (v := undef) (a' := ?_) #[true, true, true, true, true, true, true, true, true, true, true, true, true, true, true, true, true, true, true, true, true, false, false, false] rfl rfl (by kernel_rfl) (fun _ _ _ h => h) (Or.inr ⟨by rfl, rfl⟩) ?_ ?_
          rotate_left
          · simp only [Act.put, List.setIfInBounds_toArray, List.set_cons_zero, List.set_cons_succ, i64_w, i32_w]
            rfl
          refine pure_ (i := 21) (N := some 30) (v := undef) (a' := ?_) #[true, true, true, true, true, true, true, true, true, true, true, true, true, true, true, true, true, true, true, true, true, true, false, false] rfl rfl (by kernel_rfl) (fun _ _ _ h => h) (Or.inr ⟨by rfl, rfl⟩) ?_ ?_
          rotate_left
          · simp only [Act.put, List.setIfInBounds_toArray, List.set_cons_zero, List.set_cons_succ, i64_w, i32_w]
            rfl
          refine pure_ (i := 22) (N := some 31) (v := ?_) (a' := ?_) #[true, true, true, true, true, true, true, true, true, true, true, true, true, true, true, true, true, true, true, true, true, true, true, false] rfl rfl (by kernel_rfl) (fun _ _ _ h => h) (Or.inl ⟨by rfl, ?_⟩) ?_ ?_
          rotate_left
          · intro w'
            go_simp
            with_reducible rfl
          rotate_left
          · simp only [Act.put, List.setIfInBounds_toArray, List.set_cons_zero, List.set_cons_succ, i64_w, i32_w]
            rfl
          refine pure_ (i := 23) (N := some 32) (v := ?_) (a' := ?_) #[true, true, true, true, true, true, true, true, true, true, true, true, true, true, true, true, true, true, true, true, true, true, true, true] rfl rfl (by kernel_rfl) (fun _ _ _ h => h) (Or.inl ⟨by rfl, ?_⟩) ?_ ?_
          rotate_left
          · intro w'
            go_simp
            with_reducible rfl
          rotate_left
          · simp only [Act.put, List.setIfInBounds_toArray, List.set_cons_zero, List.set_cons_succ, i64_w, i32_w]
            rfl
          refine done_ (by kernel_rfl) ?_
          go_wp2_with (fail)
          go_roundw
          case rel => exact ⟨i + 1, by omega, by go_num, ⟨goI_all HA.out (by rw [HOK.out]; simp)⟩, ⟨below_step HB.out hHeld.2.2.out⟩⟩
          case measure => simp [intOf]; omega
        · have hz : wrap64 ((i : Int) - 1) = ((i - 1 : Nat) : Int) := by unfold wrap64; omega
          obtain ⟨z, hzz⟩ : ∃ z : Int, ((i - 1 : Nat) : Int) = z := ⟨_, rfl⟩
          rw [hzz] at hz
          have hzw : IntKind.i64.wrap ((i : Int) - 1) = z := (i64_w _).trans hz
          have p0 : 0 ≤ z := by omega
          have q0 : z < (j : Int) := by omega
          have c0 : decide (0 < (i : Int)) = true := decide_eq_true (by omega)
          have c0n : decide (0 < i) = true := decide_eq_true h0
          have hC := Kd.C_below HR.out (below_step HB.out HBd.out)
          rw [HLL.out] at hC
          obtain ⟨ad', A2, c2, e', hy0, _, _, _⟩ := at_T57 hC z p0 (by omega)
          obtain rfl : ad = ad' := by injection e'
          have hrd : rd_T57 (L.map toI) z = toI (L.getD (i - 1) z49) := by rw [← hzz]; exact toI_get L (i - 1) (by rw [HLL.out]; omega)
          rw [hrd] at hy0
          change _ = some (Value.string (L.getD (i - 1) z49).f0) at hy0
          generalize (L.getD (i - 1) z49).f0 = yy at hok hy0
          have HI := AsideRg.mk h0
          have p1 := eq_true p0
          have q4 := eq_true q0
          clear hC e' hrd h0 p0 q0 hzz
          cases hl : Op.bytesLess yy.toList xx.toList with
          | false =>
            rw [hl, decide_eq_false (by have := HI.out; omega)] at hok
            have HOK := AsideRg.mk hok
            clear hok
            refine start_ (n := 24) (S := fun w' => w'.cell? (ad.add (i * 2)) = some (.string xx) ∧ w'.cell? ⟨(ad.add (i * 2)).block, (ad.add (i * 2)).off + 1, none⟩ = some (.slice A1 nx c1) ∧ w'.cell? (ad.add (z.toNat * 2)) = some (.string yy) ∧ AsideRg (Below wr.heap.size wr w')) (ds := []) #[false, false, false, false, false, false, false, false, false, false, false, false, false, false, false, false, false, false, false, false, false, false, false, false] (by kernel_rfl) rfl rfl ⟨hx0d, hx1d, hy0, HBd⟩ (fun hHeld => ?_)
            refine pure_ (i := 0) (N := some 9) (v := ?_) (a' := ?_) #[true, false, false, false, false, false, false, false, false, false, false, false, false, false, false, false, false, false, false, false, false, false, false, false] rfl rfl (by kernel_rfl) (fun _ _ _ h => h) (Or.inl ⟨by rfl, ?_⟩) ?_ ?_
            rotate_left
            · intro w'
              go_simp
              with_reducible rfl
            rotate_left
            · simp only [Act.put, List.setIfInBounds_toArray, List.set_cons_zero, List.set_cons_succ, i64_w, i32_w]
              rfl
            refine pure_ (i := 1) (N := some 10) (v := ?_) (a' := ?_) #[true, true, false, false, false, false, false, false, false, false, false, false, false, false, false, false, false, false, false, false, false, false, false, false] rfl rfl (by kernel_rfl) (fun _ _ _ h => h) (Or.inl ⟨by rfl, ?_⟩) ?_ ?_
            rotate_left
            · intro w'
              go_simp
              with_reducible rfl
            rotate_left
            · simp only [Act.put, List.setIfInBounds_toArray, List.set_cons_zero, List.set_cons_succ, i64_w, i32_w]
              rfl
            refine pure_ (i := 2) (N := some 11) (v := ?_) (a' := ?_) #[true, true, true, false, false, false, false, false, false, false, false, false, false, false, false, false, false, false, false, false, false, false, false, false] rfl rfl (by kernel_rfl) (fun _ _ _ h => h) (Or.inl ⟨by rfl, ?_⟩) ?_ ?_
            rotate_left
            · intro w'
              go_simp
              with_reducible rfl
            rotate_left
            · simp only [Act.put, List.setIfInBounds_toArray, List.set_cons_zero, List.set_cons_succ, i64_w, i32_w]
              rfl
            refine take_ (i := 3) (N := some 12) (v := ?_) (a' := ?_) #[true, true, true, true, false, false, false, false, false, false, false, false, false, false, false, false, false, false, false, false, false, false, false, false] rfl rfl (by kernel_rfl) (fun _ _ _ h => h) (Or.inl ⟨by rfl, ?_⟩) hHeld ?_ ?_
            rotate_left
            · rintro w' ⟨s0, s1, s2, s3⟩
              go_simp
              with_reducible rfl
            rotate_left
            · simp only [Act.put, List.setIfInBounds_toArray, List.set_cons_zero, List.set_cons_succ, i64_w, i32_w]
              rfl
            refine one_ (i := 4) (N := some 13) #[true, true, true, true, true, false, false, false, false, false, false, false, false, false, false, false, false, false, false, false, false, false, false, false] rfl rfl (by kernel_rfl) (by decide) (fun K hK => ?_)
            refine goes_ Tryd.func24 (by kernel_rfl) rfl #[.agg #[.string xx, .slice A1 nx c1]] (by rfl) rfl rfl (by simp only [List.map_toArray, List.map_cons, List.map_nil]; rfl) ?_
            with_reducible refine (HRIG.out _ hHeld.2.2.2.out).mono ?_
            rintro e w19 ⟨rfl, hb⟩
            refine ⟨_, rfl, ?_⟩
            refine hK.out _ _ ⟨pw_cell_below hb hHeld.1, pw_cell_below hb hHeld.2.1, pw_cell_below hb hHeld.2.2.1, ⟨below_step hHeld.2.2.2.out hb⟩⟩ (fun hHeld => ?_)
            clear hK K
            refine norm_ (a' := ?_) ?_ ?_
            rotate_left
            · show Act.put _ (some 13) _ = _
              simp only [Act.put, List.setIfInBounds_toArray, List.set_cons_zero, List.set_cons_succ, i64_w, i32_w]
              rfl
            refine pure_ (i := 5) (N := some 14) (v := ?_) (a' := ?_) #[true, true, true, true, true, true, false, false, false, false, false, false, false, false, false, false, false, false, false, false, false, false, false, false] rfl rfl (by kernel_rfl) (fun _ _ _ h => h) (Or.inl ⟨by rfl, ?_⟩) ?_ ?_
            rotate_left
            · intro w'
              go_simp
              with_reducible rfl
            rotate_left
            · simp only [Act.put, List.setIfInBounds_toArray, List.set_cons_zero, List.set_cons_succ, i64_w, i32_w]
              rfl
            refine pure_ (i := 6) (N := some 15) (v := ?_) (a' := ?_) #[true, true, true, true, true, true, true, false, false, false, false, false, false, false, false, false, false, false, false, false, false, false, false, false] rfl rfl (by kernel_rfl) (fun _ _ _ h => h) (Or.inl ⟨by rfl, ?_⟩) ?_ ?_
            rotate_left
            · intro w'
              go_simp
              with_reducible rfl
            rotate_left
            · simp only [Act.put, List.setIfInBounds_toArray, List.set_cons_zero, List.set_cons_succ, i64_w, i32_w]
              rfl
            refine pure_ (i := 7) (N := some 16) (v := ?_) (a' := ?_) #[true, true, true, true, true, true, true, true, false, false, false, false, false, false, false, false, false, false, false, false, false, false, false, false] rfl rfl (by kernel_rfl) (fun _ _ _ h => h) (Or.inl ⟨by rfl, ?_⟩) ?_ ?_
            rotate_left
            · intro w'
              go_simp
              with_reducible rfl
            rotate_left
            · simp only [Act.put, List.setIfInBounds_toArray, List.set_cons_zero, List.set_cons_succ, i64_w, i32_w]
              rfl
            refine pure_ (i := 8) (N := some 17) (v := ?_) (a' := ?_) #[true, true, true, true, true, true, true, true, true, false, false, false, false, false, false, false, false, false, false, false, false, false, false, false] rfl rfl (by kernel_rfl) (fun _ _ _ h => h) (Or.inl ⟨by rfl, ?_⟩) ?_ ?_
            rotate_left
            · intro w'
              go_simp
              with_reducible rfl
            rotate_left
            · simp only [Act.put, List.setIfInBounds_toArray, List.set_cons_zero, List.set_cons_succ, i64_w, i32_w]
              rfl
            refine pure_ (i := 9) (N := some 18) (v := ?_) (a' := ?_) #[true, true, true, true, true, true, true, true, true, true, false, false, false, false, false, false, false, false, false, false, false, false, false, false] rfl rfl (by kernel_rfl) (fun _ _ _ h => h) (Or.inl ⟨by rfl, ?_⟩) ?_ ?_
            rotate_left
            · intro w'
              go_simp
              with_reducible rfl
            rotate_left
            · simp only [Act.put, List.setIfInBounds_toArray, List.set_cons_zero, List.set_cons_succ, i64_w, i32_w]
              rfl
            refine pure_ (i := 10) (N := some 19) (v := ?_) (a' := ?_) #[true, true, true, true, true, true, true, true, true, true, true, false, false, false, false, false, false, false, false, false, false, false, false, false] rfl rfl (by kernel_rfl) (fun _ _ _ h => h) (Or.inl ⟨by rfl, ?_⟩) ?_ ?_
            rotate_left
            · intro w'
              go_simp
              with_reducible rfl
            rotate_left
            · simp only [Act.put, List.setIfInBounds_toArray, List.set_cons_zero, List.set_cons_succ, i64_w, i32_w]
              rfl
            refine pure_ (i := 11) (N := some 20) (v := ?_) (a' := ?_) #[true, true, true, true, true, true, true, true, true, true, true, true, false, false, false, false, false, false, false, false, false, false, false, false] rfl rfl (by kernel_rfl) (fun _ _ _ h => h) (Or.inl ⟨by rfl, ?_⟩) ?_ ?_
            rotate_left
            · intro w'
              go_simp
              with_reducible rfl
            rotate_left
            · simp only [Act.put, List.setIfInBounds_toArray, List.set_cons_zero, List.set_cons_succ, i64_w, i32_w]
              rfl
            refine pure_ (i := 12) (N := some 21) (v := ?_) (a' := ?_) #[true, true, true, true, true, true, true, true, true, true, true, true, true, false, false, false, false, false, false, false, false, false, false, false] rfl rfl (by kernel_rfl) (fun _ _ _ h => h) (Or.inl ⟨by rfl, ?_⟩) ?_ ?_
            rotate_left
            · intro w'
              go_simp
              with_reducible rfl
            rotate_left
            · simp only [Act.put, List.setIfInBounds_toArray, List.set_cons_zero, List.set_cons_succ, i64_w, i32_w]
              rfl
            refine pure_ (i := 13) (N := some 22) (v := ?_) (a' := ?_) #[true, true, true, true, true, true, true, true, true, true, true, true, true, true, false, false, false, false, false, false, false, false, false, false] rfl rfl (by kernel_rfl) (fun _ _ _ h => h) (Or.inl ⟨by rfl, ?_⟩) ?_ ?_
            rotate_left
            · intro w'
              go_simp
              with_reducible rfl
            rotate_left
            · simp only [Act.put, List.setIfInBounds_toArray, List.set_cons_zero, List.set_cons_succ, i64_w, i32_w]
              rfl
            refine pure_ (i := 14) (N := some 23) (v := ?_) (a' := ?_) #[true, true, true, true, true, true, true, true, true, true, true, true, true, true, true, false, false, false, false, false, false, false, false, false] rfl rfl (by kernel_rfl) (fun _ _ _ h => h) (Or.inl ⟨by rfl, ?_⟩) ?_ ?_
            rotate_left
            · intro w'
              go_simp
              with_reducible rfl
            rotate_left
            · simp only [Act.put, List.setIfInBounds_toArray, List.set_cons_zero, List.set_cons_succ, i64_w, i32_w]
              rfl
            refine pure_ (i := 16) (N := some 25) (v := ?_) (a' := ?_) #[true, true, true, true, true, true, true, true, true, true, true, true, true, true, true, false, true, false, false, false, false, false, false, false] rfl rfl (by kernel_rfl) (fun _ _ _ h => h) (Or.inl ⟨by rfl, ?_⟩) ?_ ?_
            rotate_left
            · intro w'
              go_simp
              with_reducible rfl
            rotate_left
            · simp only [Act.put, List.setIfInBounds_toArray, List.set_cons_zero, List.set_cons_succ, i64_w, i32_w]
              rfl
            refine pure_ (i := 17) (N := some 26) (v := ?_) (a' := ?_) #[true, true, true, true, true, true, true, true, true, true, true, true, true, true, true, false, true, true, false, false, false, false, false, false] rfl rfl (by kernel_rfl) (fun _ _ _ h => h) (Or.inl ⟨by rfl, ?_⟩) ?_ ?_
            rotate_left
            · intro w'
              go_simp
              with_reducible rfl
            rotate_left
            · simp only [Act.put, List.setIfInBounds_toArray, List.set_cons_zero, List.set_cons_succ, i64_w, i32_w]
              rfl
            refine pure_ (i := 18) (N := some 27) (v := ?_) (a' := ?_) #[true, true, true, true, true, true, true, true, true, true, true, true, true, true, true, false, true, true, true, false, false, false, false, false] rfl rfl (by kernel_rfl) (fun _ _ _ h => h) (Or.inl ⟨by rfl, ?_⟩) ?_ ?_
            rotate_left
            · intro w'
              go_simp
              with_reducible rfl
            rotate_left
            · simp only [Act.put, List.setIfInBounds_toArray, List.set_cons_zero, List.set_cons_succ, i64_w, i32_w]
              rfl
            refine pure_ (i := 19) (N := some 28) (v := ?_) (a' := ?_) #[true, true, true, true, true, true, true, true, true, true, true, true, true, true, true, false, true, true, true, true, false, false, false, false] rfl rfl (by kernel_rfl) (fun _ _ _ h => h) (Or.inl ⟨by rfl, ?_⟩) ?_ ?_
            rotate_left
            · intro w'
              go_simp
              with_reducible rfl
            rotate_left
            · simp only [Act.put, List.setIfInBounds_toArray, List.set_cons_zero, List.set_cons_succ, i64_w, i32_w]
              rfl
            refine take_ (i := 15) (N := some 24) (v := ?_) (a' := ?_) #[true, true, true, true, true, true, true, true, true, true, true, true, true, true, true, true, true, true, true, true, false, false, false, false] rfl rfl (by kernel_rfl) (fun _ _ _ h => h) (Or.inl ⟨by rfl, ?_⟩) hHeld ?_ ?_
            rotate_left
            · rintro w' ⟨s0, s1, s2, s3⟩
              go_simp
              with_reducible rfl
            rotate_left
            · simp only [Act.put, List.setIfInBounds_toArray, List.set_cons_zero, List.set_cons_succ, i64_w, i32_w]
              rfl
            refine take_ (i := 20) (N := some 29) (v := ?_) (a' := ?_) #[true, true, true, true, true, true, true, true, true, true, true, true, true, true, true, true, true, true, true, true, true, false, false, false] rfl rfl (by kernel_rfl) (fun _ _ _ h => h) (Or.inl ⟨by rfl, ?_⟩) hHeld ?_ ?_
            rotate_left
            · rintro w' ⟨s0, s1, s2, s3⟩
              go_simp
              with_reducible rfl
            rotate_left
            · simp only [Act.put, List.setIfInBounds_toArray, List.set_cons_zero, List.set_cons_succ, i64_w, i32_w]
              rfl
            refine pure_ (i := 21) (N := some 30) (v := ?_) (a' := ?_) #[true, true, true, true, true, true, true, true, true, true, true, true, true, true, true, true, true, true, true, true, true, true, false, false] rfl rfl (by kernel_rfl) (fun _ _ _ h => h) (Or.inl ⟨by rfl, ?_⟩) ?_ ?_
            rotate_left
            · intro w'
              go_simp
              with_reducible rfl
            rotate_left
            · simp only [Act.put, List.setIfInBounds_toArray, List.set_cons_zero, List.set_cons_succ, i64_w, i32_w]
              rfl
            refine pure_ (i := 22) (N := some 31) (v := ?_) (a' := ?_) #[true, true, true, true, true, true, true, true, true, true, true, true, true, true, true, true, true, true, true, true, true, true, true, false] rfl rfl (by kernel_rfl) (fun _ _ _ h => h) (Or.inl ⟨by rfl, ?_⟩) ?_ ?_
            rotate_left
            · intro w'
              go_simp
              with_reducible rfl
            rotate_left
            · simp only [Act.put, List.setIfInBounds_toArray, List.set_cons_zero, List.set_cons_succ, i64_w, i32_w]
              rfl
            refine pure_ (i := 23) (N := some 32) (v := ?_) (a' := ?_) #[true, true, true, true, true, true, true, true, true, true, true, true, true, true, true, true, true, true, true, true, true, true, true, true] rfl rfl (by kernel_rfl) (fun _ _ _ h => h) (Or.inl ⟨by rfl, ?_⟩) ?_ ?_
            rotate_left
            · intro w'
              go_simp
              with_reducible rfl
            rotate_left
            · simp only [Act.put, List.setIfInBounds_toArray, List.set_cons_zero, List.set_cons_succ, i64_w, i32_w]
              rfl
            refine done_ (by kernel_rfl) ?_
            go_wp2_with (fail)
            go_ret
            rw [goodI_false (i := i) (by rw [HLL.out]; exact hlt) (by rw [HOK.out]; simp)]
            exact ⟨rfl, below_step HB.out hHeld.2.2.2.out⟩
          | true =>
            rw [hl] at hok
            have HOK := AsideRg.mk hok
            clear hok
            refine start_ (n := 24) (S := fun w' => w'.cell? (ad.add (i * 2)) = some (.string xx) ∧ w'.cell? ⟨(ad.add (i * 2)).block, (ad.add (i * 2)).off + 1, none⟩ = some (.slice A1 nx c1) ∧ w'.cell? (ad.add (z.toNat * 2)) = some (.string yy) ∧ AsideRg (Below wr.heap.size wr w')) (ds := []) #[false, false, false, false, false, false, false, false, false, false, false, false, false, false, false, false, false, false, false, false, false, false, false, false] (by kernel_rfl) rfl rfl ⟨hx0d, hx1d, hy0, HBd⟩ (fun hHeld => ?_)
            refine pure_ (i := 0) (N := some 9) (v := ?_) (a' := ?_) #[true, false, false, false, false, false, false, false, false, false, false, false, false, false, false, false, false, false, false, false, false, false, false, false] rfl rfl (by kernel_rfl) (fun _ _ _ h => h) (Or.inl ⟨by rfl, ?_⟩) ?_ ?_
            rotate_left
            · intro w'
              go_simp
              with_reducible rfl
            rotate_left
            · simp only [Act.put, List.setIfInBounds_toArray, List.set_cons_zero, List.set_cons_succ, i64_w, i32_w]
              rfl
            refine pure_ (i := 1) (N := some 10) (v := ?_) (a' := ?_) #[true, true, false, false, false, false, false, false, false, false, false, false, false, false, false, false, false, false, false, false, false, false, false, false] rfl rfl (by kernel_rfl) (fun _ _ _ h => h) (Or.inl ⟨by rfl, ?_⟩) ?_ ?_
            rotate_left
            · intro w'
              go_simp
              with_reducible rfl
            rotate_left
            · simp only [Act.put, List.setIfInBounds_toArray, List.set_cons_zero, List.set_cons_succ, i64_w, i32_w]
              rfl
            refine pure_ (i := 2) (N := some 11) (v := ?_) (a' := ?_) #[true, true, true, false, false, false, false, false, false, false, false, false, false, false, false, false, false, false, false, false, false, false, false, false] rfl rfl (by kernel_rfl) (fun _ _ _ h => h) (Or.inl ⟨by rfl, ?_⟩) ?_ ?_
            rotate_left
            · intro w'
              go_simp
              with_reducible rfl
            rotate_left
            · simp only [Act.put, List.setIfInBounds_toArray, List.set_cons_zero, List.set_cons_succ, i64_w, i32_w]
              rfl
            refine take_ (i := 3) (N := some 12) (v := ?_) (a' := ?_) #[true, true, true, true, false, false, false, false, false, false, false, false, false, false, false, false, false, false, false, false, false, false, false, false] rfl rfl (by kernel_rfl) (fun _ _ _ h => h) (Or.inl ⟨by rfl, ?_⟩) hHeld ?_ ?_
            rotate_left
            · rintro w' ⟨s0, s1, s2, s3⟩
              go_simp
              with_reducible rfl
            rotate_left
            · simp only [Act.put, List.setIfInBounds_toArray, List.set_cons_zero, List.set_cons_succ, i64_w, i32_w]
              rfl
            refine one_ (i := 4) (N := some 13) #[true, true, true, true, true, false, false, false, false, false, false, false, false, false, false, false, false, false, false, false, false, false, false, false] rfl rfl (by kernel_rfl) (by decide) (fun K hK => ?_)
            refine goes_ Tryd.func24 (by kernel_rfl) rfl #[.agg #[.string xx, .slice A1 nx c1]] (by rfl) rfl rfl (by simp only [List.map_toArray, List.map_cons, List.map_nil]; rfl) ?_
            with_reducible refine (HRIG.out _ hHeld.2.2.2.out).mono ?_
            rintro e w19 ⟨rfl, hb⟩
            refine ⟨_, rfl, ?_⟩
            refine hK.out _ _ ⟨pw_cell_below hb hHeld.1, pw_cell_below hb hHeld.2.1, pw_cell_below hb hHeld.2.2.1, ⟨below_step hHeld.2.2.2.out hb⟩⟩ (fun hHeld => ?_)
            clear hK K
            refine norm_ (a' := ?_) ?_ ?_
            rotate_left
            · show Act.put _ (some 13) _ = _
              simp only [Act.put, List.setIfInBounds_toArray, List.set_cons_zero, List.set_cons_succ, i64_w, i32_w]
              rfl
            refine pure_ (i := 5) (N := some 14) (v := ?_) (a' := ?_) #[true, true, true, true, true, true, false, false, false, false, false, false, false, false, false, false, false, false, false, false, false, false, false, false] rfl rfl (by kernel_rfl) (fun _ _ _ h => h) (Or.inl ⟨by rfl, ?_⟩) ?_ ?_
            rotate_left
            · intro w'
              go_simp
              with_reducible rfl
            rotate_left
            · simp only [Act.put, List.setIfInBounds_toArray, List.set_cons_zero, List.set_cons_succ, i64_w, i32_w]
              rfl
            refine pure_ (i := 6) (N := some 15) (v := ?_) (a' := ?_) #[true, true, true, true, true, true, true, false, false, false, false, false, false, false, false, false, false, false, false, false, false, false, false, false] rfl rfl (by kernel_rfl) (fun _ _ _ h => h) (Or.inl ⟨by rfl, ?_⟩) ?_ ?_
            rotate_left
            · intro w'
              go_simp
              with_reducible rfl
            rotate_left
            · simp only [Act.put, List.setIfInBounds_toArray, List.set_cons_zero, List.set_cons_succ, i64_w, i32_w]
              rfl
            refine pure_ (i := 7) (N := some 16) (v := ?_) (a' := ?_) #[true, true, true, true, true, true, true, true, false, false, false, false, false, false, false, false, false, false, false, false, false, false, false, false] rfl rfl (by kernel_rfl) (fun _ _ _ h => h) (Or.inl ⟨by rfl, ?_⟩) ?_ ?_
            rotate_left
            · intro w'
              go_simp
              with_reducible rfl
            rotate_left
            · simp only [Act.put, List.setIfInBounds_toArray, List.set_cons_zero, List.set_cons_succ, i64_w, i32_w]
              rfl
            refine pure_ (i := 8) (N := some 17) (v := ?_) (a' := ?_) #[true, true, true, true, true, true, true, true, true, false, false, false, false, false, false, false, false, false, false, false, false, false, false, false] rfl rfl (by kernel_rfl) (fun _ _ _ h => h) (Or.inl ⟨by rfl, ?_⟩) ?_ ?_
            rotate_left
            · intro w'
              go_simp
              with_reducible rfl
            rotate_left
            · simp only [Act.put, List.setIfInBounds_toArray, List.set_cons_zero, List.set_cons_succ, i64_w, i32_w]
              rfl
            refine pure_ (i := 9) (N := some 18) (v := ?_) (a' := ?_) #[true, true, true, true, true, true, true, true, true, true, false, false, false, false, false, false, false, false, false, false, false, false, false, false] rfl rfl (by kernel_rfl) (fun _ _ _ h => h) (Or.inl ⟨by rfl, ?_⟩) ?_ ?_
            rotate_left
            · intro w'
              go_simp
              with_reducible rfl
            rotate_left
            · simp only [Act.put, List.setIfInBounds_toArray, List.set_cons_zero, List.set_cons_succ, i64_w, i32_w]
              rfl
            refine pure_ (i := 10) (N := some 19) (v := ?_) (a' := ?_) #[true, true, true, true, true, true, true, true, true, true, true, false, false, false, false, false, false, false, false, false, false, false, false, false] rfl rfl (by kernel_rfl) (fun _ _ _ h => h) (Or.inl ⟨by rfl, ?_⟩) ?_ ?_
            rotate_left
            · intro w'
              go_simp
              with_reducible rfl
            rotate_left
            · simp only [Act.put, List.setIfInBounds_toArray, List.set_cons_zero, List.set_cons_succ, i64_w, i32_w]
              rfl
            refine pure_ (i := 11) (N := some 20) (v := ?_) (a' := ?_) #[true, true, true, true, true, true, true, true, true, true, true, true, false, false, false, false, false, false, false, false, false, false, false, false] rfl rfl (by kernel_rfl) (fun _ _ _ h => h) (Or.inl ⟨by rfl, ?_⟩) ?_ ?_
            rotate_left
            · intro w'
              go_simp
              with_reducible rfl
            rotate_left
            · simp only [Act.put, List.setIfInBounds_toArray, List.set_cons_zero, List.set_cons_succ, i64_w, i32_w]
              rfl
            refine pure_ (i := 12) (N := some 21) (v := ?_) (a' := ?_) #[true, true, true, true, true, true, true, true, true, true, true, true, true, false, false, false, false, false, false, false, false, false, false, false] rfl rfl (by kernel_rfl) (fun _ _ _ h => h) (Or.inl ⟨by rfl, ?_⟩) ?_ ?_
            rotate_left
            · intro w'
              go_simp
              with_reducible rfl
            rotate_left
            · simp only [Act.put, List.setIfInBounds_toArray, List.set_cons_zero, List.set_cons_succ, i64_w, i32_w]
              rfl
            refine pure_ (i := 13) (N := some 22) (v := ?_) (a' := ?_) #[true, true, true, true, true, true, true, true, true, true, true, true, true, true, false, false, false, false, false, false, false, false, false, false] rfl rfl (by kernel_rfl) (fun _ _ _ h => h) (Or.inl ⟨by rfl, ?_⟩) ?_ ?_
            rotate_left
            · intro w'
              go_simp
              with_reducible rfl
            rotate_left
            · simp only [Act.put, List.setIfInBounds_toArray, List.set_cons_zero, List.set_cons_succ, i64_w, i32_w]
              rfl
            refine pure_ (i := 14) (N := some 23) (v := ?_) (a' := ?_) #[true, true, true, true, true, true, true, true, true, true, true, true, true, true, true, false, false, false, false, false, false, false, false, false] rfl rfl (by kernel_rfl) (fun _ _ _ h => h) (Or.inl ⟨by rfl, ?_⟩) ?_ ?_
            rotate_left
            · intro w'
              go_simp
              with_reducible rfl
            rotate_left
            · simp only [Act.put, List.setIfInBounds_toArray, List.set_cons_zero, List.set_cons_succ, i64_w, i32_w]
              rfl
            refine pure_ (i := 16) (N := some 25) (v := ?_) (a' := ?_) #[true, true, true, true, true, true, true, true, true, true, true, true, true, true, true, false, true, false, false, false, false, false, false, false] rfl rfl (by kernel_rfl) (fun _ _ _ h => h) (Or.inl ⟨by rfl, ?_⟩) ?_ ?_
            rotate_left
            · intro w'
              go_simp
              with_reducible rfl
            rotate_left
            · simp only [Act.put, List.setIfInBounds_toArray, List.set_cons_zero, List.set_cons_succ, i64_w, i32_w]
              rfl
            refine pure_ (i := 17) (N := some 26) (v := ?_) (a' := ?_) #[true, true, true, true, true, true, true, true, true, true, true, true, true, true, true, false, true, true, false, false, false, false, false, false] rfl rfl (by kernel_rfl) (fun _ _ _ h => h) (Or.inl ⟨by rfl, ?_⟩) ?_ ?_
            rotate_left
            · intro w'
              go_simp
              with_reducible rfl
            rotate_left
            · simp only [Act.put, List.setIfInBounds_toArray, List.set_cons_zero, List.set_cons_succ, i64_w, i32_w]
              rfl
            refine pure_ (i := 18) (N := some 27) (v := ?_) (a' := ?_) #[true, true, true, true, true, true, true, true, true, true, true, true, true, true, true, false, true, true, true, false, false, false, false, false] rfl rfl (by kernel_rfl) (fun _ _ _ h => h) (Or.inl ⟨by rfl, ?_⟩) ?_ ?_
            rotate_left
            · intro w'
              go_simp
              with_reducible rfl
            rotate_left
            · simp only [Act.put, List.setIfInBounds_toArray, List.set_cons_zero, List.set_cons_succ, i64_w, i32_w]
              rfl
            refine pure_ (i := 19) (N := some 28) (v := ?_) (a' := ?_) #[true, true, true, true, true, true, true, true, true, true, true, true, true, true, true, false, true, true, true, true, false, false, false, false] rfl rfl (by kernel_rfl) (fun _ _ _ h => h) (Or.inl ⟨by rfl, ?_⟩) ?_ ?_
            rotate_left
            · intro w'
              go_simp
              with_reducible rfl
            rotate_left
            · simp only [Act.put, List.setIfInBounds_toArray, List.set_cons_zero, List.set_cons_succ, i64_w, i32_w]
              rfl
            refine take_ (i := 15) (N := some 24) (v := ?_) (a' := ?_) #[true, true, true, true, true, true, true, true, true, true, true, true, true, true, true, true, true, true, true, true, false, false, false, false] rfl rfl (by kernel_rfl) (fun _ _ _ h => h) (Or.inl ⟨by rfl, ?_⟩) hHeld ?_ ?_
            rotate_left
            · rintro w' ⟨s0, s1, s2, s3⟩
              go_simp
              with_reducible rfl
            rotate_left
            · simp only [Act.put, List.setIfInBounds_toArray, List.set_cons_zero, List.set_cons_succ, i64_w, i32_w]
              rfl
            refine take_ (i := 20) (N := some 29) (v := ?_) (a' := ?_) #[true, true, true, true, true, true, true, true, true, true, true, true, true, true, true, true, true, true, true, true, true, false, false, false] rfl rfl (by kernel_rfl) (fun _ _ _ h => h) (Or.inl ⟨by rfl, ?_⟩) hHeld ?_ ?_
            rotate_left
            · rintro w' ⟨s0, s1, s2, s3⟩
              go_simp
              with_reducible rfl
            rotate_left
            · simp only [Act.put, List.setIfInBounds_toArray, List.set_cons_zero, List.set_cons_succ, i64_w, i32_w]
              rfl
            refine pure_ (i := 21) (N := some 30) (v := ?_) (a' := ?_) #[true, true, true, true, true, true, true, true, true, true, true, true, true, true, true, true, true, true, true, true, true, true, false, false] rfl rfl (by kernel_rfl) (fun _ _ _ h => h) (Or.inl ⟨by rfl, ?_⟩) ?_ ?_
            rotate_left
            · intro w'
              go_simp
              with_reducible rfl
            rotate_left
            · simp only [Act.put, List.setIfInBounds_toArray, List.set_cons_zero, List.set_cons_succ, i64_w, i32_w]
              rfl
            refine pure_ (i := 22) (N := some 31) (v := ?_) (a' := ?_) #[true, true, true, true, true, true, true, true, true, true, true, true, true, true, true, true, true, true, true, true, true, true, true, false] rfl rfl (by kernel_rfl) (fun _ _ _ h => h) (Or.inl ⟨by rfl, ?_⟩) ?_ ?_
            rotate_left
            · intro w'
              go_simp
              with_reducible rfl
            rotate_left
            · simp only [Act.put, List.setIfInBounds_toArray, List.set_cons_zero, List.set_cons_succ, i64_w, i32_w]
              rfl
            refine pure_ (i := 23) (N := some 32) (v := ?_) (a' := ?_) #[true, true, true, true, true, true, true, true, true, true, true, true, true, true, true, true, true, true, true, true, true, true, true, true] rfl rfl (by kernel_rfl) (fun _ _ _ h => h) (Or.inl ⟨by rfl, ?_⟩) ?_ ?_
            rotate_left
            · intro w'
              go_simp
              with_reducible rfl
            rotate_left
            · simp only [Act.put, List.setIfInBounds_toArray, List.set_cons_zero, List.set_cons_succ, i64_w, i32_w]
              rfl
            refine done_ (by kernel_rfl) ?_
            go_wp2_with (fail)
            go_roundw
            case rel => exact ⟨i + 1, by omega, by go_num, ⟨goI_all HA.out (by rw [HOK.out]; simp)⟩, ⟨below_step HB.out hHeld.2.2.2.out⟩⟩
            case measure => simp [intOf]; omega
    · obtain rfl : i = j := by omega
      have HGE := AsideRg.mk (goodI_end (L := L) (by rw [HLL.out]; exact HA.out))
      clear hi hlt
      by_cases h100 : i ≤ 100
      · have c1 : decide ((i : Int) ≤ 100) = true := decide_eq_true (by omega)
        go_wp2_with (fail)
        go_ret
        rw [HGE.out, HLL.out, decide_eq_true h100]
        exact ⟨rfl, HB.out⟩
      · have c1 : decide ((i : Int) ≤ 100) = false := decide_eq_false (by omega)
        go_wp2_with (fail)
        go_ret
        rw [HGE.out, HLL.out, decide_eq_false h100]
        exact ⟨rfl, HB.out⟩

end Go.Proofs.YtibmccacebhhkaaDoor.HV

namespace Go.Proofs.YtibmccacebhhkaaDoor.VaultBack
set_option linter.unusedVariables false
open Go Go.RowKit Go.Proofs.YtibmccacebhhkaaDoor.HV Go.Proofs.YtibmccacebhhkaaDoor.VaultItems Go.Proofs.YtibmccacebhhkaaDoor.VaultUnp Go.Proofs.YtibmccacebhhkaaDoorW.PrintWords Go.Proofs.YtibmccacebhhkaaDoorW.PrintLast

theorem beL3 (u : Int) (h0 : 0 ≤ u) (h1 : u < 16777216) : beL (bigL u 3) = u := by
  show ((0 * 256 + u / 256 ^ 2 % 256) * 256 + u / 256 ^ 1 % 256) * 256 + u / 256 ^ 0 % 256 = u
  rw [show (256 : Int) ^ 2 = 65536 from rfl, show (256 : Int) ^ 1 = 256 from rfl, show (256 : Int) ^ 0 = 1 from rfl]
  omega
theorem beL4 (u : Int) (h0 : 0 ≤ u) (h1 : u < 4294967296) : beL (bigL u 4) = u := by
  show (((0 * 256 + u / 256 ^ 3 % 256) * 256 + u / 256 ^ 2 % 256) * 256 + u / 256 ^ 1 % 256) * 256 + u / 256 ^ 0 % 256 = u
  rw [show (256 : Int) ^ 3 = 16777216 from rfl, show (256 : Int) ^ 2 = 65536 from rfl, show (256 : Int) ^ 1 = 256 from rfl, show (256 : Int) ^ 0 = 1 from rfl]
  omega
theorem name_back (s : ByteArray) : strOfNums (bytesOf s) = s := by
  refine ByteArray.ext (Array.toList_inj.1 ?_)
  rw [← ByteArray.toList_eq, VaultOpen.strOfNums_list]
  unfold bytesOf
  rw [List.map_map]
  conv => rhs; rw [← List.map_id s.data.toList]
  refine List.map_congr_left (fun x _ => ?_)
  show UInt8.ofNat ((x.toNat : Int)).toNat = x
  rw [Int.toNat_natCast]
  exact UInt8.ofNat_toNat
/-- An item's entry. -/
def entD (cs : List Int → Int) (x : S49) : S31 := ⟨x.f0, (x.f1.length : Int), cs x.f1⟩
def entV (cs : List Int → Int) (x : S49) : S67 := ⟨x.f0, (x.f1.length : Int), cs x.f1⟩
theorem entV_toR (cs : List Int → Int) (L : List S49) : (L.map (entV cs)).map toR = L.map (entD cs) := by rw [List.map_map]; rfl
theorem toR_inj {a b : List S67} (h : a.map toR = b.map toR) : a = b := by
  refine (List.map_inj_right (fun x y hxy => ?_)).mp h
  obtain ⟨x0, x1, x2⟩ := x
  obtain ⟨y0, y1, y2⟩ := y
  unfold toR at hxy
  cases hxy
  rfl
structure Fits (cs : List Int → Int) (L : List S49) : Prop where
  good : goodI L = true
  nm : ∀ x ∈ L, x.f0.size ≤ 255
  len : ∀ x ∈ L, x.f1.length < 16777216
  sum : ∀ x ∈ L, 0 ≤ cs x.f1 ∧ cs x.f1 < 4294967296
theorem fst_take (cs : List Int → Int) (n : Nat) {L : List S49} {i : Nat} (h : i < L.length) : fstS cs n (L.take (i + 1)) = fstS cs n (L.take i) ++ itS cs (L.getD i z49) := by
  unfold fstS
  rw [take_snocI h, List.flatMap_append]
  simp
theorem fst_split (cs : List Int → Int) (n : Nat) {L : List S49} {i : Nat} (h : i < L.length) : fstS cs n L = fstS cs n (L.take i) ++ (itS cs (L.getD i z49) ++ (L.drop (i + 1)).flatMap (itS cs)) := by
  have e : L = L.take (i + 1) ++ L.drop (i + 1) := (List.take_append_drop (i + 1) L).symm
  conv => lhs; rw [e]
  rw [show fstS cs n (L.take (i + 1) ++ L.drop (i + 1)) = fstS cs n (L.take (i + 1)) ++ (L.drop (i + 1)).flatMap (itS cs) by unfold fstS; rw [List.flatMap_append, List.append_assoc], fst_take cs n h, List.append_assoc]
theorem rEnts_pack (cs : List Int → Int) (L : List S49) (hF : Fits cs L) (n : Nat) (T : List Int) : ∀ j, j ≤ L.length → rEnts (fstS cs n L ++ T) j = some ((L.take j).map (entD cs), (fstS cs n (L.take j)).length)
  | 0, _ => rfl
  | j + 1, h => by
    have hj : j < L.length := by omega
    have hm : L.getD j z49 ∈ L := by rw [List.getD_eq_getElem?_getD, List.getElem?_eq_getElem hj]; exact List.getElem_mem _
    have hnm := hF.nm _ hm
    have hln := hF.len _ hm
    obtain ⟨hs0, hs1⟩ := hF.sum _ hm
    have hb : fstS cs n L ++ T = fstS cs n (L.take j) ++ (itS cs (L.getD j z49) ++ ((L.drop (j + 1)).flatMap (itS cs) ++ T)) := by rw [fst_split cs n hj]; simp only [List.append_assoc]
    show (rEnts (fstS cs n L ++ T) j).bind _ = _
    rw [rEnts_pack cs L hF n T j (by omega), Option.bind_some, fst_take cs n hj, take_snocI hj, List.map_append]
    rw [hb]
    generalize (L.drop (j + 1)).flatMap (itS cs) ++ T = T2
    generalize fstS cs n (L.take j) = P
    generalize (L.take j).map (entD cs) = M
    generalize L.getD j z49 = x at *
    obtain ⟨nm, xs⟩ := x
    dsimp only at hnm hln hs0 hs1 ⊢
    have hit : itS cs ⟨nm, xs⟩ = (nm.size : Int) :: (bytesOf nm ++ (bigL (xs.length : Int) 3 ++ bigL (cs xs) 4)) := by unfold itS; simp
    have hlen : (itS cs ⟨nm, xs⟩).length = nm.size + 8 := by
      rw [hit, List.length_cons, List.length_append, List.length_append, bigL_length, bigL_length, bytesOf_length]
    have hk : (P ++ (itS cs ⟨nm, xs⟩ ++ T2)).getD P.length 0 = (nm.size : Int) := by
      rw [List.getD_eq_getElem?_getD, List.getElem?_append_right (Nat.le_refl _), Nat.sub_self, hit]
      rfl
    rw [hk, Int.toNat_natCast, if_pos (by rw [List.length_append, List.length_append, hlen]; omega)]
    have d1 : (P ++ (itS cs ⟨nm, xs⟩ ++ T2)).drop (P.length + 1) = bytesOf nm ++ (bigL (xs.length : Int) 3 ++ (bigL (cs xs) 4 ++ T2)) := by
      rw [← List.drop_drop, List.drop_left, hit]
      simp
    have d2 : (P ++ (itS cs ⟨nm, xs⟩ ++ T2)).drop (P.length + 1 + nm.size) = bigL (xs.length : Int) 3 ++ (bigL (cs xs) 4 ++ T2) := by
      rw [← List.drop_drop, d1, List.drop_left' (bytesOf_length nm)]
    rw [d1, d2, List.take_left' (bytesOf_length nm), List.take_left' (bigL_length _ 3), List.drop_left' (bigL_length _ 3), List.take_left' (bigL_length _ 4), name_back, beL3 _ (by omega) (by omega), beL4 _ hs0 hs1, List.length_append, hlen]
    simp only [Option.some.injEq, Prod.mk.injEq]
    exact ⟨rfl, by omega⟩
theorem good_lt {L : List S49} (h : goodI L = true) : L.length ≤ 100 ∧ ∀ i, i < L.length → okI L i = true := by
  unfold goodI at h
  simp only [Bool.and_eq_true, List.all_eq_true, decide_eq_true_eq] at h
  exact ⟨h.2, fun i hi => h.1 i (List.mem_range.2 hi)⟩
theorem entD_get (cs : List Int → Int) (L : List S49) (i : Nat) (hi : i < L.length) : ((L.map (entD cs)).getD i z31).f0 = (L.getD i z49).f0 := by
  rw [List.getD_eq_getElem?_getD, List.getElem?_map, List.getD_eq_getElem?_getD, List.getElem?_eq_getElem hi]
  rfl
theorem goodR_pack (cs : List Int → Int) (L : List S49) (h : goodI L = true) : goodR (L.map (entD cs)) = true := by
  obtain ⟨h1, h2⟩ := good_lt h
  unfold goodR
  rw [List.all_eq_true]
  intro i hi
  rw [List.mem_range, List.length_map] at hi
  have := h2 i hi
  unfold okI rightB at this
  unfold okR
  simp only [Bool.and_eq_true, decide_eq_true_eq] at this ⊢
  rw [entD_get cs L i hi]
  refine ⟨⟨this.1.1, ?_⟩, by omega⟩
  by_cases h0 : i = 0
  · simp [h0]
  · rw [entD_get cs L (i - 1) (by omega)]
    exact this.2
theorem rOpen_pack (cs : List Int → Int) (L : List S49) (hF : Fits cs L) (hc : 0 ≤ cs (fstS cs L.length L) ∧ cs (fstS cs L.length L) < 4294967296) : rOpen cs (packS cs L) = (L.map (entD cs), (((fstS cs L.length L).length + 4 : Nat) : Int), 0) := by
  have hl := (good_lt hF.good).1
  have hr := rEnts_pack cs L hF L.length (bigL (cs (fstS cs L.length L)) 4 ++ allS L) L.length (Nat.le_refl _)
  rw [List.take_length] at hr
  have h5 : 5 ≤ (fstS cs L.length L).length := by unfold fstS; rw [List.length_append]; show 5 ≤ 5 + _; omega
  have hm : rMag (packS cs L) = true := by
    unfold rMag packS fstS
    rw [List.take_of_length_le (show ([83, 75, 66, 86] : List Int).length ≤ _ by simp)]
    simp
  have h4 : (packS cs L).getD 4 0 = (L.length : Int) := by unfold packS fstS; simp
  unfold rOpen
  rw [if_neg (by rw [hm]; decide), if_neg (by unfold packS; rw [List.length_append]; omega), h4, Int.toNat_natCast]
  unfold packS
  rw [hr]
  dsimp only
  generalize fstS cs L.length L = F at *
  unfold rTail
  rw [if_neg (by rw [List.length_append, List.length_append, bigL_length]; omega), List.drop_left, List.take_left' (bigL_length _ 4), List.take_left, beL4 _ hc.1 hc.2, if_pos rfl, if_pos (goodR_pack cs L hF.good)]
theorem open_pack (cs : List Int → Int) (L : List S49) (hF : Fits cs L) (hc : 0 ≤ cs (fstS cs L.length L) ∧ cs (fstS cs L.length L) < 4294967296) (hby : ∀ x ∈ packS cs L, 0 ≤ x ∧ x < 256) : openS cs (packS cs L) = (L.map (entV cs), allS L, 0) := by
  obtain ⟨at_, h1, h2, _⟩ := VaultOpen.open_eq cs (packS cs L) hby
  rw [rOpen_pack cs L hF hc] at h1
  simp only [Prod.mk.injEq] at h1
  obtain ⟨e1, e2, e3⟩ := h1
  rw [← entV_toR] at e1
  obtain ⟨_, h2⟩ := h2 e3.symm
  have e4 : at_ = (fstS cs L.length L).length + 4 := by omega
  rw [e4] at h2
  have e5 : (packS cs L).drop ((fstS cs L.length L).length + 4) = allS L := by
    unfold packS
    rw [← List.drop_drop, List.drop_left, List.drop_left' (bigL_length _ 4)]
  rw [e5] at h2
  obtain ⟨r, hr⟩ : ∃ r, openS cs (packS cs L) = r := ⟨_, rfl⟩
  rw [hr] at e1 e3 h2
  rw [hr]
  obtain ⟨r1, r2, r3⟩ := r
  dsimp only at e1 e3 h2
  rw [toR_inj e1, h2, e3]
theorem sum_all (cs : List Int → Int) : ∀ L : List S49, sumE (L.map (entV cs)) = ((allS L).length : Int)
  | [] => rfl
  | x :: L => by
    have := sum_all cs L
    simp only [List.map_cons, sumE, this, allS, List.flatMap_cons, List.length_append, entV]
    omega
theorem item_pack (cs : List Int → Int) (L : List S49) (i : Nat) (hi : i < L.length) : itemE cs (L.map (entV cs)) (allS L) i = ((L.getD i z49).f1, 0) := by
  have hg : (L.map (entV cs)).getD i z67 = entV cs (L.getD i z49) := by
    rw [List.getD_eq_getElem?_getD, List.getElem?_map, List.getD_eq_getElem?_getD, List.getElem?_eq_getElem hi]
    rfl
  have hs : sumE ((L.map (entV cs)).take i) = ((allS (L.take i)).length : Int) := by rw [← List.map_take, sum_all]
  have ha : allS L = allS (L.take i) ++ ((L.getD i z49).f1 ++ allS (L.drop (i + 1))) := by
    have e : L = L.take (i + 1) ++ L.drop (i + 1) := (List.take_append_drop (i + 1) L).symm
    conv => lhs; rw [e]
    rw [show allS (L.take (i + 1) ++ L.drop (i + 1)) = allS (L.take (i + 1)) ++ allS (L.drop (i + 1)) by unfold allS; rw [List.flatMap_append], allS_step hi, List.append_assoc]
  unfold itemE
  rw [hg, hs, Int.toNat_natCast, ha]
  generalize allS (L.take i) = P
  generalize allS (L.drop (i + 1)) = T
  generalize L.getD i z49 = x
  show (if _ < P.length + ((x.f1.length : Int)).toNat then _ else _) = _
  rw [show (entV cs x).f1.toNat = x.f1.length from Int.toNat_natCast _, Int.toNat_natCast, if_neg (by rw [List.length_append, List.length_append]; omega), List.drop_left, List.take_left]
  exact if_pos rfl
theorem items_pack (cs : List Int → Int) (L : List S49) : ∀ i, i ≤ L.length → itemsE cs (L.map (entV cs)) (allS L) i = (L.take i, 0)
  | 0, _ => rfl
  | i + 1, h => by
    have hi : i < L.length := by omega
    rw [itemsE_ok (items_pack cs L i (by omega)) (item_pack cs L i hi), take_snocI hi]
    have hg : ((L.map (entV cs)).getD i z67).f0 = (L.getD i z49).f0 := by
      rw [List.getD_eq_getElem?_getD, List.getElem?_map, List.getD_eq_getElem?_getD, List.getElem?_eq_getElem hi]
      rfl
    rw [hg]
theorem unpack_pack (cs : List Int → Int) (L : List S49) (hF : Fits cs L) (hc : 0 ≤ cs (fstS cs L.length L) ∧ cs (fstS cs L.length L) < 4294967296) (hby : ∀ x ∈ packS cs L, 0 ≤ x ∧ x < 256) : unpackV cs (packS cs L) = (L, 0) := by
  rw [unpackV_fit (open_pack cs L hF hc hby) (sum_all cs L), List.length_map, items_pack cs L L.length (Nat.le_refl _), List.take_length]
end Go.Proofs.YtibmccacebhhkaaDoor.VaultBack

namespace Go.Proofs.YtibmccacebhhkaaDoor.VaultPk
set_option linter.unusedVariables false
open Go Go.RowKit Go.Proofs.YtibmccacebhhkaaDoor.HV Go.Proofs.YtibmccacebhhkaaDoor.BitStr Go.Proofs.YtibmccacebhhkaaDoorW.PrintWords Go.Proofs.YtibmccacebhhkaaDoorW.PrintLast
/-! ### numbers -/
theorem big_shr (n : Int) (i : Nat) (hi : i ≤ 3) : shr .i64 n (wrap64 (8 * (i : Int))) = n / 256 ^ i := by
  have : i = 0 ∨ i = 1 ∨ i = 2 ∨ i = 3 := by omega
  rcases this with rfl | rfl | rfl | rfl
  · rw [show wrap64 (8 * ((0 : Nat) : Int)) = 0 by unfold wrap64; omega]; rfl
  · rw [show wrap64 (8 * ((1 : Nat) : Int)) = 8 by unfold wrap64; omega]; rfl
  · rw [show wrap64 (8 * ((2 : Nat) : Int)) = 16 by unfold wrap64; omega]; rfl
  · rw [show wrap64 (8 * ((3 : Nat) : Int)) = 24 by unfold wrap64; omega]; rfl
theorem big_step (n : Int) (K : Nat) (acc : List Int) (hacc : acc.length ≤ 10) (i : Nat) (hi : i ≤ 3) : vault_big.l0 (K + 1) n acc (i : Int) = vault_big.l0 K n (acc ++ [n / 256 ^ i % 256]) ((i : Int) - 1) := by
  simp only [vault_big.l0]
  rw [if_pos (by omega), if_pos (by unfold wrap64; omega), if_pos (by omega), big_shr n i hi, show wrap64 ((i : Int) - 1) = (i : Int) - 1 by unfold wrap64; omega]
theorem big_end (n : Int) (K : Nat) (acc : List Int) : vault_big.l0 (K + 1) n acc (-1) = some acc := by
  simp only [vault_big.l0]
  rw [if_neg (by omega)]
theorem big3 (n : Int) (K : Nat) (hK : 10 ≤ K) : vault_big.f K n 3 = some (bigL n 3) := by
  obtain ⟨K, rfl⟩ : ∃ m, K = m + 1 + 1 + 1 + 1 := ⟨K - 4, by omega⟩
  unfold vault_big.f
  rw [show wrap64 (3 - 1) = ((2 : Nat) : Int) by unfold wrap64; omega, big_step n _ _ (by simp) 2 (by omega), show ((2 : Nat) : Int) - 1 = ((1 : Nat) : Int) by omega, big_step n _ _ (by simp) 1 (by omega), show ((1 : Nat) : Int) - 1 = ((0 : Nat) : Int) by omega, big_step n _ _ (by simp) 0 (by omega), show ((0 : Nat) : Int) - 1 = -1 by omega, big_end]
  rfl
theorem big4 (n : Int) (K : Nat) (hK : 10 ≤ K) : vault_big.f K n 4 = some (bigL n 4) := by
  obtain ⟨K, rfl⟩ : ∃ m, K = m + 1 + 1 + 1 + 1 + 1 := ⟨K - 5, by omega⟩
  unfold vault_big.f
  rw [show wrap64 (4 - 1) = ((3 : Nat) : Int) by unfold wrap64; omega, big_step n _ _ (by simp) 3 (by omega), show ((3 : Nat) : Int) - 1 = ((2 : Nat) : Int) by omega, big_step n _ _ (by simp) 2 (by omega), show ((2 : Nat) : Int) - 1 = ((1 : Nat) : Int) by omega, big_step n _ _ (by simp) 1 (by omega), show ((1 : Nat) : Int) - 1 = ((0 : Nat) : Int) by omega, big_step n _ _ (by simp) 0 (by omega), show ((0 : Nat) : Int) - 1 = -1 by omega, big_end]
  rfl
theorem putL_bytes4 (v : Nat) : putL 32 v = bits8 [v / 16777216 % 256, v / 65536 % 256, v / 256 % 256, v % 256] := by
  have h := putL_add 8 24 v
  rw [show (8 + 24 : Nat) = 32 from rfl] at h
  rw [h, putL_bytes3, ← putL_mod 8, show (2 : Nat) ^ 24 = 16777216 from rfl, show (2 : Nat) ^ 8 = 256 from rfl]
  rfl
theorem ref_big3 (n : Int) (h0 : 0 ≤ n) (h1 : n < 16777216) (K : Nat) (hK : 100 ≤ K) : sackbutref25_big.f K n 3 = some (bigL n 3) := by
  obtain ⟨v, rfl⟩ : ∃ v : Nat, n = (v : Int) := ⟨n.toNat, by omega⟩
  unfold sackbutref25_big.f
  rw [show wrap64 (8 * 3) = ((24 : Nat) : Int) by unfold wrap64; omega, put_spec 24 v K (by omega) (by omega) (by omega), Option.bind_some, putL_bytes3, bytes_spec _ (by simp) (by intro x hx; simp at hx; omega) K (by simp; omega), Option.bind_some]
  simp [bigL]
theorem ref_big4 (n : Int) (h0 : 0 ≤ n) (h1 : n < 4294967296) (K : Nat) (hK : 100 ≤ K) : sackbutref25_big.f K n 4 = some (bigL n 4) := by
  obtain ⟨v, rfl⟩ : ∃ v : Nat, n = (v : Int) := ⟨n.toNat, by omega⟩
  unfold sackbutref25_big.f
  rw [show wrap64 (8 * 4) = ((32 : Nat) : Int) by unfold wrap64; omega, put_spec 32 v K (by omega) (by omega) (by omega), Option.bind_some, putL_bytes4, bytes_spec _ (by simp) (by intro x hx; simp at hx; omega) K (by simp; omega), Option.bind_some]
  simp [bigL]
/-! ### loops over items -/
theorem rd_item (L : List S49) (i : Nat) : rd_T49 L (i : Int) = L.getD i z49 := by unfold rd_T49; rw [Int.toNat_natCast]
def fewI (x : S49) : Bool := decide (x.f0.size ≤ 60) && decide (x.f1.length ≤ 100)
def fewB (L : List S49) : Bool := L.all fewI && decide (L.length ≤ 110)
theorem few_loop (L : List S49) (hl : L.length ≤ 9223372036854775807) : ∀ (d i K : Nat), i + d = L.length → d < K → sackbutlaw25_few.l0 K L L (L.length : Int) (i : Int) = some ((L.drop i).all fewI && decide (L.length ≤ 110))
  | 0, i, K, h, hK => by
    obtain ⟨K, rfl⟩ : ∃ m, K = m + 1 := ⟨K - 1, by omega⟩
    simp only [sackbutlaw25_few.l0]
    rw [if_neg (by omega), List.drop_of_length_le (by omega), List.all_nil, Bool.true_and]
    congr 1
    exact decide_eq_decide.2 (by omega)
  | d + 1, i, K, h, hK => by
    obtain ⟨K, rfl⟩ : ∃ m, K = m + 1 := ⟨K - 1, by omega⟩
    have hi : i < L.length := by omega
    have hg : L.getD i z49 = L[i] := by rw [List.getD_eq_getElem?_getD, List.getElem?_eq_getElem hi]; rfl
    simp only [sackbutlaw25_few.l0]
    rw [if_pos (by omega), if_pos (by omega), if_pos (by omega), rd_item, hg, List.drop_eq_getElem_cons hi, List.all_cons]
    by_cases h1 : L[i].f0.size ≤ 60
    · rw [if_neg (by omega)]
      by_cases h2 : L[i].f1.length ≤ 100
      · rw [if_neg (by omega), show wrap64 ((i : Int) + 1) = ((i + 1 : Nat) : Int) by unfold wrap64; omega, few_loop L hl d (i + 1) K (by omega) (by omega)]
        simp [fewI, h1, h2]
      · rw [if_pos (by omega)]
        simp [fewI, h2]
    · rw [if_pos (by omega)]
      simp [fewI, h1]
theorem few_spec (L : List S49) (hl : L.length ≤ 9223372036854775807) (K : Nat) (hK : L.length < K) : sackbutlaw25_few.f K L = some (fewB L) := by
  have := few_loop L hl L.length 0 K (by omega) hK
  rw [List.drop_zero] at this
  unfold sackbutlaw25_few.f fewB
  exact this
theorem ref_loop (L : List S49) (hl : L.length ≤ 100000) : ∀ (d i K : Nat), i + d = L.length → d < K → sackbutlaw25_ref.l0 K ((L.take i).map toI) L (L.length : Int) (i : Int) = some (L.map toI)
  | 0, i, K, h, hK => by
    obtain ⟨K, rfl⟩ : ∃ m, K = m + 1 := ⟨K - 1, by omega⟩
    simp only [sackbutlaw25_ref.l0]
    rw [if_neg (by omega), List.take_of_length_le (by omega)]
  | d + 1, i, K, h, hK => by
    obtain ⟨K, rfl⟩ : ∃ m, K = m + 1 := ⟨K - 1, by omega⟩
    have hi : i < L.length := by omega
    have hg : L.getD i z49 = L[i] := by rw [List.getD_eq_getElem?_getD, List.getElem?_eq_getElem hi]; rfl
    simp only [sackbutlaw25_ref.l0]
    rw [if_pos (by omega), if_pos (by omega), if_pos (by omega), if_pos (by rw [List.length_map, List.length_take]; omega), rd_item, hg, show wrap64 ((i : Int) + 1) = ((i + 1 : Nat) : Int) by unfold wrap64; omega]
    have e : (L.take i).map toI ++ [(⟨L[i].f0, L[i].f1⟩ : S57)] = (L.take (i + 1)).map toI := by
      rw [List.take_succ_eq_append_getElem hi, List.map_append]
      rfl
    rw [e]
    exact ref_loop L hl d (i + 1) K (by omega) (by omega)
theorem ref_spec (L : List S49) (hl : L.length ≤ 100000) (K : Nat) (hK : L.length < K) : sackbutlaw25_ref.f K L = some (L.map toI) := ref_loop L hl L.length 0 K (by omega) hK
theorem same_loop (L : List S57) (hl : L.length ≤ 100000) : ∀ (d i K : Nat), i + d = L.length → d < K → sackbutref25_Same.l0 K L L (L.length : Int) (i : Int) = some true
  | 0, i, K, h, hK => by
    obtain ⟨K, rfl⟩ : ∃ m, K = m + 1 := ⟨K - 1, by omega⟩
    simp only [sackbutref25_Same.l0]
    rw [if_neg (by omega)]
  | d + 1, i, K, h, hK => by
    obtain ⟨K, rfl⟩ : ∃ m, K = m + 1 := ⟨K - 1, by omega⟩
    simp only [sackbutref25_Same.l0]
    rw [if_pos (by omega), if_pos (by omega), if_pos (by omega), if_pos (by omega), if_pos trivial, if_pos trivial, show wrap64 ((i : Int) + 1) = ((i + 1 : Nat) : Int) by unfold wrap64; omega]
    exact same_loop L hl d (i + 1) K (by omega) (by omega)
theorem same_spec (L : List S57) (hl : L.length ≤ 100000) (K : Nat) (hK : L.length < K) : sackbutref25_Same.f K L L = some true := by
  unfold sackbutref25_Same.f
  rw [if_pos rfl]
  exact same_loop L hl L.length 0 K (by omega) hK
theorem right_item (s : ByteArray) (xs : List Int) (hs : s.size ≤ 1000) (hx : xs.length ≤ 16777215) (K : Nat) (hK : 1001 < K) : sackbutref25_Right.f K s xs = some (rightB s xs.length) := by
  unfold sackbutref25_Right.f sackbutref23_Right.f
  have := VaultNum.right_loop s hs s.size K 0 (by omega) (by omega) (fun t _ h => absurd h (Nat.not_lt_zero _))
  rw [show ((0 : Nat) : Int) = 0 from rfl] at this
  rw [this, Option.bind_some]
  unfold rightB
  cases namedB s <;> simp
end Go.Proofs.YtibmccacebhhkaaDoor.VaultPk

namespace Go.Proofs.YtibmccacebhhkaaDoor.HV
open Go.RowKit Go.Proofs.YtibmccacebhhkaaDoorW.PrintWords Go.Proofs.YtibmccacebhhkaaDoorW.PrintLast Go.Proofs.YtibmccacebhhkaaDoorW.PrintMore
attribute [local go_sem] max2_int min2_int max_two min_two max_three min_three max_four min_four
set_option linter.unusedVariables false
set_option linter.unusedSimpArgs false
structure AsideVP (p : Prop) : Prop where mk :: (out : p)
theorem item_heap : Kd.Heap k49 := Kd.heap_iso _ (Kd.heap_pair Kd.heap_string (Kd.heap_slice 5 (Kd.heap_int .u8)))
/-- 'ref' at a row that is read. -/
theorem law25_ref.gives (K : Nat) (P : Nat → Prop) (A : Option Addr) (c : Nat) (L : List S49) (W : World) (hl : L.length ≤ 100000) (hK : L.length < K) (hV : Kd.V k49 49 W W.heap.size P (.slice A L.length c) L) :
    Calls Tryd.prog 14 #[.slice A L.length c] W fun e w' => ∃ A2 c2, e = .returned (.slice A2 L.length c2) ∧ L.length ≤ c2 ∧ Kd.C k57 w' A2 L.length (L.map toI) ∧ Below W.heap.size W w' := by
  refine (sackbutlaw25_ref.calls K P A c L (L.map toI) W hV (VaultPk.ref_spec L hl K hK)).mono fun e w' ⟨v, he, hN, hb⟩ => ?_
  obtain ⟨A2, c2, ev⟩ := Kd.N_slice hN
  rw [ev] at hN
  obtain ⟨_, h2, h3⟩ := Kd.N_reads' hN
  rw [List.length_map] at ev h2 h3
  exact ⟨A2, c2, by rw [he, ev], h2, h3, hb⟩
set_option maxRecDepth 100000 in
set_option maxHeartbeats 2000000 in
theorem law25_packs.many (A : Option Addr) (c : Nat) (L : List S49) (w : World) (hG : GL w) (hc : L.length ≤ c) (hR : Kd.C k49 w A L.length L) (hf : VaultPk.fewB L = false) :
    Calls Tryd.prog 4 #[.slice A L.length c] w fun e w' => e = .returned (.bool true) ∧ Below w.heap.size w w' := by
  have HAW := AsideVP.mk (fun (W : World) (hW : Below w.heap.size w W) => law25_awake.gives W (hG.of_below hW))
  have HFW := AsideVP.mk (fun (W : World) (hW : Below w.heap.size w W) => sackbutlaw25_few.calls (L.length + 1) A c L false W (Kd.C_below hR hW) hc (by rw [VaultPk.few_spec L hR.2.1 _ (Nat.lt_succ_self _), hf]))
  have HB0 := AsideVP.mk (Below.refl w.heap.size w)
  obtain ⟨n, hn⟩ : ∃ n, L.length = n := ⟨_, rfl⟩
  rw [hn] at HFW ⊢
  have tok1 : True := trivial
  clear hG hR hc hf hn
  go_enter Tryd.func4, Tryd.ntmps4
  go_wp2_with (first | (go_at_call 12; (with_reducible refine (HFW.out _ HB1.out).mono ?_); rintro e w2 ⟨rfl, hb⟩; have HB2 := AsideVP.mk (below_step HB1.out hb); clear hb) | (go_at_call 8; have _t := tok1; (with_reducible refine (HAW.out _ HB0.out).mono ?_); clear tok1 _t; rintro e w1 ⟨rfl, hb⟩; have HB1 := AsideVP.mk hb; clear hb) | (go_at_call 8; (with_reducible refine (HAW.out _ HB2.out).mono ?_); rintro e w3 ⟨rfl, hb⟩; have HB3 := AsideVP.mk (below_step HB2.out hb); clear hb))
  go_ret
  exact ⟨rfl, HB3.out⟩
theorem few_get {L : List S49} (h : VaultPk.fewB L = true) : L.length ≤ 110 ∧ ∀ x ∈ L, x.f0.size ≤ 60 ∧ x.f1.length ≤ 100 := by
  unfold VaultPk.fewB at h
  simp only [Bool.and_eq_true, List.all_eq_true, decide_eq_true_eq] at h
  refine ⟨h.2, fun x hx => ?_⟩
  have := h.1 x hx
  unfold VaultPk.fewI at this
  simpa only [Bool.and_eq_true, decide_eq_true_eq] using this
set_option maxRecDepth 100000 in
set_option maxHeartbeats 2000000 in
theorem law25_packs.bad (A : Option Addr) (c : Nat) (L : List S49) (w : World) (hG : GL w) (hc : L.length ≤ c) (hR : Kd.C k49 w A L.length L) (hf : VaultPk.fewB L = true) (hg : goodI L = false) :
    Calls Tryd.prog 4 #[.slice A L.length c] w fun e w' => e = .returned (.bool true) ∧ Below w.heap.size w w' := by
  obtain ⟨hl, hx⟩ := few_get hf
  have HAW := AsideVP.mk (fun (W : World) (hW : Below w.heap.size w W) => law25_awake.gives W (hG.of_below hW))
  have HFW := AsideVP.mk (fun (W : World) (hW : Below w.heap.size w W) => sackbutlaw25_few.calls (L.length + 1) A c L true W (Kd.C_below hR hW) hc (by rw [VaultPk.few_spec L hR.2.1 _ (Nat.lt_succ_self _), hf]))
  have HREF := AsideVP.mk (fun (W : World) (hW : Below w.heap.size w W) => law25_ref.gives 5000 _ A c L W (by omega) (by omega) (Kd.V_mk hc (Kd.F_below (Kd.C_F item_heap hR) hW)))
  have HRG := AsideVP.mk (fun (W : World) (A2 : Option Addr) (c2 : Nat) (h : Kd.C k57 W A2 L.length (L.map toI)) => ref_good.gives 5000 A2 c2 L W h (fun x hxm => VaultPk.right_item x.f0 x.f1 (by have := hx x hxm; omega) (by have := hx x hxm; omega) 5000 (by omega)))
  have HPK := AsideVP.mk (fun (W : World) (hW : Below w.heap.size w W) => vault_Pack.bad A c L W (Kd.C_below hR hW) hg)
  have HVG := AsideVP.mk (fun (W : World) (hW : Below w.heap.size w W) => vault_Good.gives A c L W (Kd.C_below hR hW))
  rw [hg] at HRG HVG
  have HB0 := AsideVP.mk (Below.refl w.heap.size w)
  obtain ⟨n, hn⟩ : ∃ n, L.length = n := ⟨_, rfl⟩
  rw [hn] at HFW HREF HRG HPK HVG ⊢
  clear hG hR hc hf hn hg hx hl
  go_enter Tryd.func4, Tryd.ntmps4
  go_wp2_with (first | (go_at_call 8; (with_reducible refine (HAW.out _ HB0.out).mono ?_); rintro e w1 ⟨rfl, hb⟩; have HB1 := AsideVP.mk hb; clear hb) | (go_at_call 12; (with_reducible refine (HFW.out _ HB1.out).mono ?_); rintro e w2 ⟨rfl, hb⟩; have HB2 := AsideVP.mk (below_step HB1.out hb); clear hb) | (go_at_call 14; (with_reducible refine (HREF.out _ HB2.out).mono ?_); rintro e w3 ⟨A3, c3, rfl, hc3, hC3, hb⟩; have HB3 := AsideVP.mk (below_step HB2.out hb); have HC3 := AsideVP.mk hC3; clear hb hc3 hC3) | (go_at_call 13; (with_reducible refine (HRG.out _ A3 c3 HC3.out).mono ?_); rintro e w4 ⟨rfl, hb⟩; have HB4 := AsideVP.mk (below_step HB3.out hb); clear hb) | (go_at_call 15; (with_reducible refine (HPK.out _ HB4.out).mono ?_); rintro e w5 ⟨rfl, hb⟩; have HB5 := AsideVP.mk (below_step HB4.out hb); clear hb) | (go_at_call 16; (with_reducible refine (HVG.out _ HB5.out).mono ?_); rintro e w6 ⟨rfl, hb⟩; have HB6 := AsideVP.mk (below_step HB5.out hb); clear hb))
  go_ret
  exact ⟨rfl, HB6.out⟩
set_option maxRecDepth 100000 in
set_option maxHeartbeats 4000000 in
theorem law25_packs.good (A : Option Addr) (c : Nat) (L : List S49) (w : World) (hG : GL w) (hc : L.length ≤ c) (hR : Kd.C k49 w A L.length L) (hf : VaultPk.fewB L = true) (hg : goodI L = true) (hby : ∀ x ∈ L, ∀ y ∈ x.f1, 0 ≤ y ∧ y < 256) :
    Calls Tryd.prog 4 #[.slice A L.length c] w fun e w' => e = .returned (.bool true) ∧ Below w.heap.size w w' := by
  obtain ⟨_, hx⟩ := few_get hf
  have hl : L.length ≤ 100 := (VaultBack.good_lt hg).1
  have hnm : ∀ x ∈ L, x.f0.size ≤ 255 := fun x h => by have := hx x h; omega
  have hfl := fstS_length csC L.length L hl hnm
  have hfb := fstS_bytes csC L.length (by omega) L hnm
  have hal := allS_length L hl (fun x h => by have := hx x h; omega)
  have hcr := csC_range (fstS csC L.length L) hfb
  have hpl : (packS csC L).length ≤ 130000 := by unfold packS; rw [List.length_append, List.length_append, bigL_length]; omega
  have hpb : ∀ y ∈ packS csC L, 0 ≤ y ∧ y < 256 := by
    intro y hy
    unfold packS at hy
    rcases List.mem_append.1 hy with hy | hy
    · exact hfb y hy
    · rcases List.mem_append.1 hy with hy | hy
      · exact bigL_bytes _ _ y hy
      · unfold allS at hy
        obtain ⟨x, hxm, hy⟩ := List.mem_flatMap.1 hy
        exact hby x hxm y hy
  have hun : VaultUnp.unpackV csC (packS csC L) = (L, 0) := VaultBack.unpack_pack csC L ⟨hg, hnm, fun x h => by have := hx x h; omega, fun x h => csC_range x.f1 (hby x h)⟩ hcr hpb
  have hcu : ∀ l : List Int, (∀ x ∈ l, 0 ≤ x ∧ x < 256) → l.length ≤ (packS csC L).length → toll_Sum.f 200000 l = some (csC l) ∧ 0 ≤ csC l ∧ csC l < 4294967296 := fun l h1 h2 => ⟨csC_toll l h1 200000 (by omega) (by omega), csC_range l h1⟩
  have HAW := AsideVP.mk (fun (W : World) (hW : Below w.heap.size w W) => law25_awake.gives W (hG.of_below hW))
  have HFW := AsideVP.mk (fun (W : World) (hW : Below w.heap.size w W) => sackbutlaw25_few.calls (L.length + 1) A c L true W (Kd.C_below hR hW) hc (by rw [VaultPk.few_spec L hR.2.1 _ (Nat.lt_succ_self _), hf]))
  have HREF := AsideVP.mk (fun (W : World) (hW : Below w.heap.size w W) => law25_ref.gives 5000 _ A c L W (by omega) (by omega) (Kd.V_mk hc (Kd.F_below (Kd.C_F item_heap hR) hW)))
  have HREF2 := AsideVP.mk (fun (W : World) (A5 : Option Addr) (c5 b5 : Nat) (h : Kd.S k49 49 W b5 (fun _ => True) (.slice A5 L.length c5) L) => law25_ref.gives 5000 _ A5 c5 L W (by omega) (by omega) (Kd.S_V h))
  have HRG := AsideVP.mk (fun (W : World) (A2 : Option Addr) (c2 : Nat) (h : Kd.C k57 W A2 L.length (L.map toI)) => ref_good.gives 5000 A2 c2 L W h (fun x hxm => VaultPk.right_item x.f0 x.f1 (by have := hx x hxm; omega) (by have := hx x hxm; omega) 5000 (by omega)))
  have HVG := AsideVP.mk (fun (W : World) (hW : Below w.heap.size w W) => vault_Good.gives A c L W (Kd.C_below hR hW))
  rw [hg] at HRG HVG
  have HPK : AsideVP (∀ W : World, Below w.heap.size w W → Calls Tryd.prog 15 #[.slice A L.length c] W fun e w' => ∃ A3 c3, e = .returned (.tuple #[.slice A3 (packS csC L).length c3, .int .i64 0]) ∧ (packS csC L).length ≤ c3 ∧ Kd.C (Kd.int .u8) w' A3 (packS csC L).length (packS csC L) ∧ Below W.heap.size W w') := by
    refine ⟨fun W hW => ?_⟩
    refine (vault_Pack.good 200000 csC A c L W (hG.of_below hW) hc (Kd.C_below hR hW) hg hl hnm (fun x h => by have := hx x h; omega) hby (fun x h => ⟨csC_toll x.f1 (hby x h) 200000 (by have := hx x h; omega) (by omega), (csC_range x.f1 (hby x h)).1, (csC_range x.f1 (hby x h)).2, VaultPk.big3 _ 200000 (by omega), VaultPk.big4 _ 200000 (by omega)⟩) ⟨csC_toll _ hfb 200000 (by omega) (by omega), hcr.1, hcr.2, VaultPk.big4 _ 200000 (by omega)⟩).mono fun e w' ⟨v, he, hr, hb⟩ => ?_
    obtain ⟨A3, c3, ev⟩ := Kd.R_slice hr
    rw [ev] at hr
    obtain ⟨_, h2, h3⟩ := Kd.R_reads' hr
    exact ⟨A3, c3, by rw [he, ev], h2, h3, hb⟩
  have HUN : AsideVP (∀ (W : World) (A3 : Option Addr) (c3 : Nat), Below w.heap.size w W → (packS csC L).length ≤ c3 → Kd.C (Kd.int .u8) W A3 (packS csC L).length (packS csC L) → Calls Tryd.prog 17 #[.slice A3 (packS csC L).length c3] W fun e w' => ∃ A5 c5, e = .returned (.tuple #[.slice A5 L.length c5, .int .i64 0]) ∧ Kd.S k49 49 w' W.heap.size (fun _ => True) (.slice A5 L.length c5) L ∧ Below W.heap.size W w') := by
    refine ⟨fun W A3 c3 hW h3 hC => ?_⟩
    refine (vault_unpack.gives 200000 csC A3 (packS csC L) (packS csC L).length c3 W (hG.of_below hW) h3 (by omega) (by omega) hC hpb hcu).mono fun e w' h => ?_
    rw [hun] at h
    obtain ⟨v, he, hS, hb⟩ := h
    obtain ⟨A5, c5, ev⟩ := Kd.S_slice hS
    dsimp only at ev he hS
    rw [ev] at hS
    exact ⟨A5, c5, by rw [he, ev], hS, hb⟩
  have HRP : AsideVP (∀ (W : World) (A6 : Option Addr) (c6 : Nat), L.length ≤ c6 → Kd.C k57 W A6 L.length (L.map toI) → Calls Tryd.prog 18 #[.slice A6 L.length c6] W fun e w' => ∃ A7 c7, e = .returned (.slice A7 (packS csC L).length c7) ∧ Kd.C (Kd.int .u8) w' A7 (packS csC L).length (packS csC L) ∧ Below W.heap.size W w') := by
    refine ⟨fun W A6 c6 h6 hC => ?_⟩
    refine (ref_pack.gives 200000 csC A6 c6 L W h6 hC hl hnm (fun x h => by have := hx x h; omega) (fun x h => ⟨csC_ref x.f1 (hby x h) 200000 (by have := hx x h; omega) (by have := hx x h; omega), (csC_range x.f1 (hby x h)).1, (csC_range x.f1 (hby x h)).2, VaultPk.ref_big3 _ (by omega) (by have := hx x h; omega) 200000 (by omega), VaultPk.ref_big4 _ (csC_range x.f1 (hby x h)).1 (csC_range x.f1 (hby x h)).2 200000 (by omega)⟩) ⟨csC_ref _ hfb 200000 (by omega) (by omega), hcr.1, hcr.2, VaultPk.ref_big4 _ hcr.1 hcr.2 200000 (by omega)⟩).mono fun e w' ⟨v, he, hr, hb⟩ => ?_
    obtain ⟨A7, c7, ev⟩ := Kd.R_slice hr
    rw [ev] at hr
    exact ⟨A7, c7, by rw [he, ev], (Kd.R_reads' hr).2.2, hb⟩
  have HSM : AsideVP (∀ (W : World) (A8 : Option Addr) (c8 : Nat) (A9 : Option Addr) (c9 : Nat), L.length ≤ c8 → L.length ≤ c9 → Kd.C k57 W A8 L.length (L.map toI) → Kd.C k57 W A9 L.length (L.map toI) → Calls Tryd.prog 19 #[.slice A8 L.length c8, .slice A9 L.length c9] W fun e w' => e = .returned (.bool true) ∧ Below W.heap.size W w') := by
    refine ⟨fun W A8 c8 A9 c9 h8 h9 hC8 hC9 => ?_⟩
    have h := sackbutref25_Same.calls 5000 A8 c8 (L.map toI) A9 c9 (L.map toI) true W (by rw [List.length_map]; exact hC8) (by rw [List.length_map]; exact h8) (by rw [List.length_map]; exact hC9) (by rw [List.length_map]; exact h9) (VaultPk.same_spec _ (by rw [List.length_map]; omega) 5000 (by rw [List.length_map]; omega))
    rw [List.length_map] at h
    exact h.mono fun e w' h => ⟨h.1, h.2.below⟩
  have HB0 := AsideVP.mk (Below.refl w.heap.size w)
  obtain ⟨n, hn⟩ : ∃ n, L.length = n := ⟨_, rfl⟩
  rw [hn] at HFW HREF HREF2 HRG HPK HVG HUN HRP HSM ⊢
  generalize packS csC L = b at *
  obtain ⟨m, hm⟩ : ∃ m, b.length = m := ⟨_, rfl⟩
  rw [hm] at HPK HUN HRP
  have HCV := AsideVP.mk (fun (W : World) (A' : Option Addr) (c' : Nat) (h : Kd.C (Kd.int .u8) W A' m b) => Kd.C_string (P := Tryd.prog) (c := c') Tryd.underlying22 Tryd.underlying5 Tryd.underlying9 h)
  generalize strOfNums b = bs at HCV
  clear hG hR hc hf hn hg hx hl hnm hfl hfb hal hcr hpl hpb hun hcu hby hm
  go_enter Tryd.func4, Tryd.ntmps4
  go_upto_region 10 with (first | (go_at_call 8; (with_reducible refine (HAW.out _ HB0.out).mono ?_); rintro e w1 ⟨rfl, hb⟩; have HB1 := AsideVP.mk hb; clear hb) | (go_at_call 12; (with_reducible refine (HFW.out _ HB1.out).mono ?_); rintro e w2 ⟨rfl, hb⟩; have HB2 := AsideVP.mk (below_step HB1.out hb); clear hb) | (go_at_call 14; (with_reducible refine (HREF.out _ HB2.out).mono ?_); rintro e w3 ⟨A3, c3, rfl, hc3, hC3, hb⟩; have HB3 := AsideVP.mk (below_step HB2.out hb); have HC3 := AsideVP.mk hC3; clear hb hc3 hC3) | (go_at_call 13; (with_reducible refine (HRG.out _ A3 c3 HC3.out).mono ?_); rintro e w4 ⟨rfl, hb⟩; have HB4 := AsideVP.mk (below_step HB3.out hb); clear hb) | (go_at_call 15; (with_reducible refine (HPK.out _ HB4.out).mono ?_); rintro e w5 ⟨A4, c4, rfl, hc4, hC4, hb⟩; have HB5 := AsideVP.mk (below_step HB4.out hb); have HC5 := AsideVP.mk (And.intro hc4 hC4); clear hb hc4 hC4) | (go_at_call 16; (with_reducible refine (HVG.out _ HB5.out).mono ?_); rintro e w6 ⟨rfl, hb⟩; have HB6 := AsideVP.mk (below_step HB5.out hb); have HC6 := AsideVP.mk (Kd.C_below HC5.out.2 hb); clear hb) | (go_at_call 17; (with_reducible refine (HUN.out _ A4 c4 HB6.out HC5.out.1 HC6.out).mono ?_); rintro e w7 ⟨A5, c5, rfl, hS5, hb⟩; have HB7 := AsideVP.mk (below_drew (below_step HB6.out hb)); have HC7 := AsideVP.mk (Kd.C_below HC6.out (below_drew hb)); have HS7 := AsideVP.mk (Kd.S_drew hS5); clear hb hS5))
  generalize w6.heap.size = g6 at HS7
  have hcv7 := HCV.out _ A4 c4 HC7.out
  have hq : (bs.toList == bs.toList) = true := beq_self_eq_true _
  refine start_ (n := 23) (S := fun w' => (convert 22 9 (.slice A4 m c4)).run Tryd.prog w' = .ok (.string bs) w' ∧ AsideVP (Below w.heap.size w w') ∧ AsideVP (Kd.S k49 49 w' g6 (fun _ => True) (.slice A5 n c5) L) ∧ AsideVP (Kd.C (Kd.int .u8) w' A4 m b)) (ds := []) #[false, false, false, false, false, false, false, false, false, false, false, false, false, false, false, false, false, false, false, false, false, false, false] (by kernel_rfl) rfl rfl ⟨hcv7, HB7, HS7, HC7⟩ (fun hHeld => ?_)
  refine pure_ (i := 0) (N := some 42) (v := ?_) (a' := ?_) #[true, false, false, false, false, false, false, false, false, false, false, false, false, false, false, false, false, false, false, false, false, false, false] rfl rfl (by kernel_rfl) (fun _ _ _ h => h) (Or.inl ⟨by rfl, ?_⟩) ?_ ?_
  rotate_left
  · intro w'
    go_simp
    with_reducible rfl
  rotate_left
  · simp only [Act.put, List.setIfInBounds_toArray, List.set_cons_zero, List.set_cons_succ, i64_w, i32_w]
    rfl
  refine pure_ (i := 1) (N := some 43) (v := ?_) (a' := ?_) #[true, true, false, false, false, false, false, false, false, false, false, false, false, false, false, false, false, false, false, false, false, false, false] rfl rfl (by kernel_rfl) (fun _ _ _ h => h) (Or.inl ⟨by rfl, ?_⟩) ?_ ?_
  rotate_left
  · intro w'
    go_simp
    with_reducible rfl
  rotate_left
  · simp only [Act.put, List.setIfInBounds_toArray, List.set_cons_zero, List.set_cons_succ, i64_w, i32_w]
    rfl
  refine pure_ (i := 2) (N := some 44) (v := ?_) (a' := ?_) #[true, true, true, false, false, false, false, false, false, false, false, false, false, false, false, false, false, false, false, false, false, false, false] rfl rfl (by kernel_rfl) (fun _ _ _ h => h) (Or.inl ⟨by rfl, ?_⟩) ?_ ?_
  rotate_left
  · intro w'
    go_simp
    with_reducible rfl
  rotate_left
  · simp only [Act.put, List.setIfInBounds_toArray, List.set_cons_zero, List.set_cons_succ, i64_w, i32_w]
    rfl
  refine pure_ (i := 3) (N := some 45) (v := ?_) (a' := ?_) #[true, true, true, true, false, false, false, false, false, false, false, false, false, false, false, false, false, false, false, false, false, false, false] rfl rfl (by kernel_rfl) (fun _ _ _ h => h) (Or.inl ⟨by rfl, ?_⟩) ?_ ?_
  rotate_left
  · intro w'
    go_simp
    with_reducible rfl
  rotate_left
  · simp only [Act.put, List.setIfInBounds_toArray, List.set_cons_zero, List.set_cons_succ, i64_w, i32_w]
    rfl
  refine pure_ (i := 5) (N := some 47) (v := ?_) (a' := ?_) #[true, true, true, true, false, true, false, false, false, false, false, false, false, false, false, false, false, false, false, false, false, false, false] rfl rfl (by kernel_rfl) (fun _ _ _ h => h) (Or.inl ⟨by rfl, ?_⟩) ?_ ?_
  rotate_left
  · intro w'
    go_simp
    with_reducible rfl
  rotate_left
  · simp only [Act.put, List.setIfInBounds_toArray, List.set_cons_zero, List.set_cons_succ, i64_w, i32_w]
    rfl
  refine take_ (i := 4) (N := some 46) (v := ?_) (a' := ?_) #[true, true, true, true, true, true, false, false, false, false, false, false, false, false, false, false, false, false, false, false, false, false, false] rfl rfl (by kernel_rfl) (fun _ _ _ h => h) (Or.inl ⟨by rfl, ?_⟩) hHeld ?_ ?_
  rotate_left
  · rintro w' ⟨s0, s1, s2, s3⟩
    go_simp
    with_reducible rfl
  rotate_left
  · simp only [Act.put, List.setIfInBounds_toArray, List.set_cons_zero, List.set_cons_succ, i64_w, i32_w]
    rfl
  refine one_ (i := 6) (N := some 48) #[true, true, true, true, true, true, true, false, false, false, false, false, false, false, false, false, false, false, false, false, false, false, false] rfl rfl (by kernel_rfl) (by decide) (fun K hK => ?_)
  refine goes_ Tryd.func14 (by kernel_rfl) rfl #[.slice A n c] (by rfl) rfl rfl (by simp only [List.map_toArray, List.map_cons, List.map_nil]; rfl) ?_
  with_reducible refine (HREF.out _ hHeld.2.1.out).mono ?_
  rintro e w10 ⟨A6, c6, rfl, hc6, hC6, hb⟩
  refine ⟨_, rfl, ?_⟩
  have HC6' := AsideVP.mk (And.intro hc6 hC6)
  clear hc6 hC6
  refine hK.out _ _ ⟨HCV.out _ A4 c4 (Kd.C_below hHeld.2.2.2.out hb), ⟨below_step hHeld.2.1.out hb⟩, ⟨Kd.S_below hHeld.2.2.1.out hb⟩, ⟨Kd.C_below hHeld.2.2.2.out hb⟩⟩ (fun hHeld => ?_)
  clear hK K
  refine norm_ (a' := ?_) ?_ ?_
  rotate_left
  · show Act.put _ (some 48) _ = _
    simp only [Act.put, List.setIfInBounds_toArray, List.set_cons_zero, List.set_cons_succ, i64_w, i32_w]
    rfl
  refine one_ (i := 7) (N := some 49) #[true, true, true, true, true, true, true, true, false, false, false, false, false, false, false, false, false, false, false, false, false, false, false] rfl rfl (by kernel_rfl) (by decide) (fun K hK => ?_)
  refine goes_ Tryd.func18 (by kernel_rfl) rfl #[.slice A6 n c6] (by rfl) rfl rfl (by simp only [List.map_toArray, List.map_cons, List.map_nil]; rfl) ?_
  with_reducible refine (HRP.out _ A6 c6 HC6'.out.1 HC6'.out.2).mono ?_
  rintro e w11 ⟨A7, c7, rfl, hC7, hb⟩
  refine ⟨_, rfl, ?_⟩
  have hcv11 := HCV.out _ A7 c7 hC7
  clear hC7
  refine hK.out _ _ ⟨HCV.out _ A4 c4 (Kd.C_below hHeld.2.2.2.out hb), ⟨below_step hHeld.2.1.out hb⟩, ⟨Kd.S_below hHeld.2.2.1.out hb⟩, ⟨Kd.C_below hHeld.2.2.2.out hb⟩⟩ (fun hHeld => ?_)
  clear hK K
  refine norm_ (a' := ?_) ?_ ?_
  rotate_left
  · show Act.put _ (some 49) _ = _
    simp only [Act.put, List.setIfInBounds_toArray, List.set_cons_zero, List.set_cons_succ, i64_w, i32_w]
    rfl
  refine one_ (i := 8) (N := some 50) #[true, true, true, true, true, true, true, true, true, false, false, false, false, false, false, false, false, false, false, false, false, false, false] rfl rfl (by kernel_rfl) (by decide) (fun K hK => ?_)
  refine value_ (w1 := ?_) (v := ?_) (by rfl) rfl ?_ ?_
  rotate_left 2
  · go_simp
    constructor
    · rfl
    · rfl
  refine hK.out _ _ ⟨hHeld.1, hHeld.2.1, hHeld.2.2.1, hHeld.2.2.2⟩ (fun hHeld => ?_)
  clear hK K
  refine norm_ (a' := ?_) ?_ ?_
  rotate_left
  · show Act.put _ (some 50) _ = _
    simp only [Act.put, List.setIfInBounds_toArray, List.set_cons_zero, List.set_cons_succ, i64_w, i32_w]
    rfl
  refine pure_ (i := 9) (N := some 51) (v := ?_) (a' := ?_) #[true, true, true, true, true, true, true, true, true, true, false, false, false, false, false, false, false, false, false, false, false, false, false] rfl rfl (by kernel_rfl) (fun _ _ _ h => h) (Or.inl ⟨by rfl, ?_⟩) ?_ ?_
  rotate_left
  · intro w'
    go_simp
    with_reducible rfl
  rotate_left
  · simp only [Act.put, List.setIfInBounds_toArray, List.set_cons_zero, List.set_cons_succ, i64_w, i32_w]
    rfl
  refine pure_ (i := 10) (N := some 52) (v := ?_) (a' := ?_) #[true, true, true, true, true, true, true, true, true, true, true, false, false, false, false, false, false, false, false, false, false, false, false] rfl rfl (by kernel_rfl) (fun _ _ _ h => h) (Or.inl ⟨by rfl, ?_⟩) ?_ ?_
  rotate_left
  · intro w'
    go_simp
    with_reducible rfl
  rotate_left
  · simp only [Act.put, List.setIfInBounds_toArray, List.set_cons_zero, List.set_cons_succ, i64_w, i32_w]
    rfl
  refine pure_ (i := 11) (N := some 53) (v := ?_) (a' := ?_) #[true, true, true, true, true, true, true, true, true, true, true, true, false, false, false, false, false, false, false, false, false, false, false] rfl rfl (by kernel_rfl) (fun _ _ _ h => h) (Or.inl ⟨by rfl, ?_⟩) ?_ ?_
  rotate_left
  · intro w'
    go_simp
    with_reducible rfl
  rotate_left
  · simp only [Act.put, List.setIfInBounds_toArray, List.set_cons_zero, List.set_cons_succ, i64_w, i32_w]
    rfl
  refine pure_ (i := 12) (N := some 54) (v := ?_) (a' := ?_) #[true, true, true, true, true, true, true, true, true, true, true, true, true, false, false, false, false, false, false, false, false, false, false] rfl rfl (by kernel_rfl) (fun _ _ _ h => h) (Or.inl ⟨by rfl, ?_⟩) ?_ ?_
  rotate_left
  · intro w'
    go_simp
    with_reducible rfl
  rotate_left
  · simp only [Act.put, List.setIfInBounds_toArray, List.set_cons_zero, List.set_cons_succ, i64_w, i32_w]
    rfl
  refine pure_ (i := 13) (N := some 55) (v := ?_) (a' := ?_) #[true, true, true, true, true, true, true, true, true, true, true, true, true, true, false, false, false, false, false, false, false, false, false] rfl rfl (by kernel_rfl) (fun _ _ _ h => h) (Or.inl ⟨by rfl, ?_⟩) ?_ ?_
  rotate_left
  · intro w'
    go_simp
    with_reducible rfl
  rotate_left
  · simp only [Act.put, List.setIfInBounds_toArray, List.set_cons_zero, List.set_cons_succ, i64_w, i32_w]
    rfl
  refine pure_ (i := 14) (N := some 56) (v := ?_) (a' := ?_) #[true, true, true, true, true, true, true, true, true, true, true, true, true, true, true, false, false, false, false, false, false, false, false] rfl rfl (by kernel_rfl) (fun _ _ _ h => h) (Or.inl ⟨by rfl, ?_⟩) ?_ ?_
  rotate_left
  · intro w'
    go_simp
    with_reducible rfl
  rotate_left
  · simp only [Act.put, List.setIfInBounds_toArray, List.set_cons_zero, List.set_cons_succ, i64_w, i32_w]
    rfl
  refine pure_ (i := 15) (N := some 57) (v := ?_) (a' := ?_) #[true, true, true, true, true, true, true, true, true, true, true, true, true, true, true, true, false, false, false, false, false, false, false] rfl rfl (by kernel_rfl) (fun _ _ _ h => h) (Or.inl ⟨by rfl, ?_⟩) ?_ ?_
  rotate_left
  · intro w'
    go_simp
    with_reducible rfl
  rotate_left
  · simp only [Act.put, List.setIfInBounds_toArray, List.set_cons_zero, List.set_cons_succ, i64_w, i32_w]
    rfl
  refine pure_ (i := 16) (N := some 58) (v := ?_) (a' := ?_) #[true, true, true, true, true, true, true, true, true, true, true, true, true, true, true, true, true, false, false, false, false, false, false] rfl rfl (by kernel_rfl) (fun _ _ _ h => h) (Or.inl ⟨by rfl, ?_⟩) ?_ ?_
  rotate_left
  · intro w'
    go_simp
    with_reducible rfl
  rotate_left
  · simp only [Act.put, List.setIfInBounds_toArray, List.set_cons_zero, List.set_cons_succ, i64_w, i32_w]
    rfl
  refine pure_ (i := 18) (N := some 60) (v := ?_) (a' := ?_) #[true, true, true, true, true, true, true, true, true, true, true, true, true, true, true, true, true, false, true, false, false, false, false] rfl rfl (by kernel_rfl) (fun _ _ _ h => h) (Or.inl ⟨by rfl, ?_⟩) ?_ ?_
  rotate_left
  · intro w'
    go_simp
    with_reducible rfl
  rotate_left
  · simp only [Act.put, List.setIfInBounds_toArray, List.set_cons_zero, List.set_cons_succ, i64_w, i32_w]
    rfl
  refine one_ (i := 17) (N := some 59) #[true, true, true, true, true, true, true, true, true, true, true, true, true, true, true, true, true, true, true, false, false, false, false] rfl rfl (by kernel_rfl) (by decide) (fun K hK => ?_)
  refine goes_ Tryd.func14 (by kernel_rfl) rfl #[.slice A5 n c5] (by rfl) rfl rfl (by simp only [List.map_toArray, List.map_cons, List.map_nil]; rfl) ?_
  with_reducible refine (HREF2.out _ A5 c5 g6 hHeld.2.2.1.out).mono ?_
  rintro e w12 ⟨A8, c8, rfl, hc8, hC8, hb⟩
  refine ⟨_, rfl, ?_⟩
  have HC8 := AsideVP.mk (And.intro hc8 hC8)
  clear hc8 hC8
  refine hK.out _ _ ⟨HCV.out _ A4 c4 (Kd.C_below hHeld.2.2.2.out hb), ⟨below_step hHeld.2.1.out hb⟩, ⟨Kd.S_below hHeld.2.2.1.out hb⟩, ⟨Kd.C_below hHeld.2.2.2.out hb⟩⟩ (fun hHeld => ?_)
  clear hK K
  refine norm_ (a' := ?_) ?_ ?_
  rotate_left
  · show Act.put _ (some 59) _ = _
    simp only [Act.put, List.setIfInBounds_toArray, List.set_cons_zero, List.set_cons_succ, i64_w, i32_w]
    rfl
  refine one_ (i := 19) (N := some 61) #[true, true, true, true, true, true, true, true, true, true, true, true, true, true, true, true, true, true, true, true, false, false, false] rfl rfl (by kernel_rfl) (by decide) (fun K hK => ?_)
  refine goes_ Tryd.func14 (by kernel_rfl) rfl #[.slice A n c] (by rfl) rfl rfl (by simp only [List.map_toArray, List.map_cons, List.map_nil]; rfl) ?_
  with_reducible refine (HREF.out _ hHeld.2.1.out).mono ?_
  rintro e w13 ⟨A9, c9, rfl, hc9, hC9, hb⟩
  refine ⟨_, rfl, ?_⟩
  have HC9 := AsideVP.mk (And.intro hc9 (And.intro hC9 (Kd.C_below HC8.out.2 hb)))
  clear hc9 hC9
  refine hK.out _ _ ⟨HCV.out _ A4 c4 (Kd.C_below hHeld.2.2.2.out hb), ⟨below_step hHeld.2.1.out hb⟩, ⟨Kd.S_below hHeld.2.2.1.out hb⟩, ⟨Kd.C_below hHeld.2.2.2.out hb⟩⟩ (fun hHeld => ?_)
  clear hK K
  refine norm_ (a' := ?_) ?_ ?_
  rotate_left
  · show Act.put _ (some 61) _ = _
    simp only [Act.put, List.setIfInBounds_toArray, List.set_cons_zero, List.set_cons_succ, i64_w, i32_w]
    rfl
  refine one_ (i := 20) (N := some 62) #[true, true, true, true, true, true, true, true, true, true, true, true, true, true, true, true, true, true, true, true, true, false, false] rfl rfl (by kernel_rfl) (by decide) (fun K hK => ?_)
  refine goes_ Tryd.func19 (by kernel_rfl) rfl #[.slice A8 n c8, .slice A9 n c9] (by rfl) rfl rfl (by simp only [List.map_toArray, List.map_cons, List.map_nil]; rfl) ?_
  with_reducible refine (HSM.out _ A8 c8 A9 c9 HC8.out.1 HC9.out.1 HC9.out.2.2 HC9.out.2.1).mono ?_
  rintro e w14 ⟨rfl, hb⟩
  refine ⟨_, rfl, ?_⟩
  refine hK.out _ _ ⟨HCV.out _ A4 c4 (Kd.C_below hHeld.2.2.2.out hb), ⟨below_step hHeld.2.1.out hb⟩, ⟨Kd.S_below hHeld.2.2.1.out hb⟩, ⟨Kd.C_below hHeld.2.2.2.out hb⟩⟩ (fun hHeld => ?_)
  clear hK K
  refine norm_ (a' := ?_) ?_ ?_
  rotate_left
  · show Act.put _ (some 62) _ = _
    simp only [Act.put, List.setIfInBounds_toArray, List.set_cons_zero, List.set_cons_succ, i64_w, i32_w]
    rfl
  refine pure_ (i := 21) (N := some 63) (v := ?_) (a' := ?_) #[true, true, true, true, true, true, true, true, true, true, true, true, true, true, true, true, true, true, true, true, true, true, false] rfl rfl (by kernel_rfl) (fun _ _ _ h => h) (Or.inl ⟨by rfl, ?_⟩) ?_ ?_
  rotate_left
  · intro w'
    go_simp
    with_reducible rfl
  rotate_left
  · simp only [Act.put, List.setIfInBounds_toArray, List.set_cons_zero, List.set_cons_succ, i64_w, i32_w]
    rfl
  refine pure_ (i := 22) (N := some 2) (v := ?_) (a' := ?_) #[true, true, true, true, true, true, true, true, true, true, true, true, true, true, true, true, true, true, true, true, true, true, true] rfl rfl (by kernel_rfl) (fun _ _ _ h => h) (Or.inl ⟨by rfl, ?_⟩) ?_ ?_
  rotate_left
  · intro w'
    go_simp
    with_reducible rfl
  rotate_left
  · simp only [Act.put, List.setIfInBounds_toArray, List.set_cons_zero, List.set_cons_succ, i64_w, i32_w]
    rfl
  refine done_ (by kernel_rfl) ?_
  go_wp2_with (fail)
  go_ret
  exact ⟨rfl, hHeld.2.1.out⟩
/-- The law, for the rows: true at every list of items of bytes. -/
def sackbutlaw25_VaultPacks.f (l0 : List S49) : Option Bool := if l0.all (fun x => x.f1.all fun y => decide (0 ≤ y ∧ y < 256)) = true then some true else none
theorem sackbutlaw25_VaultPacks.calls (A0 : Option Addr) (c0 : Nat) (l0 : List S49) (r : Bool) (w : World) (hr0 : Kd.C k49 w A0 l0.length l0) (hc0 : l0.length ≤ c0) (hG : GL w) (h : sackbutlaw25_VaultPacks.f l0 = some r) :
    Calls Tryd.prog 4 #[.slice A0 l0.length c0] w fun e w' => e = .returned (.bool r) ∧ Below w.heap.size w w' := by
  unfold sackbutlaw25_VaultPacks.f at h
  split at h
  next hd =>
    cases h
    simp only [List.all_eq_true, decide_eq_true_eq] at hd
    cases hf : VaultPk.fewB l0 with
    | false => exact law25_packs.many A0 c0 l0 w hG hc0 hr0 hf
    | true =>
      cases hg : goodI l0 with
      | false => exact law25_packs.bad A0 c0 l0 w hG hc0 hr0 hf hg
      | true => exact law25_packs.good A0 c0 l0 w hG hc0 hr0 hf hg hd
  next => cases h

end Go.Proofs.YtibmccacebhhkaaDoor.HV

namespace Go.Proofs.YtibmccacebhhkaaDoor.Pure
open Go Go.RowKit Go.Proofs.YtibmccacebhhkaaDoor.HV Go.Proofs.YtibmccacebhhkaaDoorW.PrintWords Go.Proofs.YtibmccacebhhkaaDoorW.PrintLast
/-- VaultPacks: the law in numbers and lists alone. -/
def PureGVaultPacks : Prop := ∀ (l0 : List (S49)), l0.length ≤ 9223372036854775807 → (∀ x ∈ l0, (x.f0.size ≤ 9223372036854775807 ∧ (∀ y ∈ x.f1, (Lit.int .u8 y).wf = true))) → sackbutlaw25_VaultPacks.f l0 = some true
end Go.Proofs.YtibmccacebhhkaaDoor.Pure

namespace Go.Proofs.YtibmccacebhhkaaDoor.Pure
open Go Go.RowKit Go.Proofs.YtibmccacebhhkaaDoor.HV Go.Proofs.YtibmccacebhhkaaDoorW.PrintWords Go.Proofs.YtibmccacebhhkaaDoorW.PrintLast
theorem VaultPacks : PureGVaultPacks := by
  intro l0 _ h0
  unfold sackbutlaw25_VaultPacks.f
  rw [if_pos]
  simp only [List.all_eq_true, decide_eq_true_eq]
  exact fun x hx y hy => TollSpec.wf_u8 ((h0 x hx).2 y hy)
end Go.Proofs.YtibmccacebhhkaaDoor.Pure

