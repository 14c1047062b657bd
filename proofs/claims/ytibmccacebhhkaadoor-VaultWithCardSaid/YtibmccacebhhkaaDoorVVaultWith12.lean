/- VaultWith: what the claim's theorem reaches of this seat's texts, part 12, put together by this project's own program (bale.py); conditions: those of each theorem. -/
import Derived.Test.YtibmccacebhhkaaDoorVVaultWith5
import Derived.Test.YtibmccacebhhkaaDoorVVaultWith6
import Derived.Test.YtibmccacebhhkaaDoorVVaultWith7
import Derived.Test.YtibmccacebhhkaaDoorVVaultWith8
import Derived.Test.YtibmccacebhhkaaDoorVVaultWith9
import Derived.Test.YtibmccacebhhkaaDoorVVaultWith11
import Derived.Shelf.Abstract
import Derived.OwnWalk
import Derived.LoopTactic
import Derived.WalkLawsBesides
import Derived.Lib.SlBytesConst
namespace Go.Proofs.YtibmccacebhhkaaDoor.HV
open Go.RowKit Go.Proofs.YtibmccacebhhkaaDoorW.PrintWords Go.Proofs.YtibmccacebhhkaaDoorW.PrintLast Go.Proofs.YtibmccacebhhkaaDoorW.PrintMore
attribute [local go_sem] max2_int min2_int max_two min_two max_three min_three max_four min_four   -- for this text's walks alone
set_option linter.unusedVariables false
set_option linter.unusedSimpArgs false

/-! ### vault_Pack: function 15, by hand -/
structure AsidePk (p : Prop) : Prop where mk :: (out : p)
/-- A number as so many bytes, the highest first. -/
def bigL (n : Int) : Nat → List Int
  | 0 => []
  | k + 1 => n / 256 ^ k % 256 :: bigL n k
theorem bigL_length (n : Int) : ∀ k, (bigL n k).length = k
  | 0 => rfl
  | k + 1 => by show (bigL n k).length + 1 = k + 1; rw [bigL_length n k]
theorem bigL_bytes (n : Int) : ∀ k, ∀ x ∈ bigL n k, 0 ≤ x ∧ x < 256
  | 0, x, h => by cases h
  | k + 1, x, h => by
    rcases List.mem_cons.1 h with rfl | h
    · omega
    · exact bigL_bytes n k x h
/-- What is told of an item. -/
def itS (cs : List Int → Int) (x : S49) : List Int := [(x.f0.size : Int)] ++ bytesOf x.f0 ++ bigL x.f1.length 3 ++ bigL (cs x.f1) 4
def fstS (cs : List Int → Int) (n : Nat) (L : List S49) : List Int := [83, 75, 66, 86, (n : Int)] ++ L.flatMap (itS cs)
def allS (L : List S49) : List Int := L.flatMap (fun x => x.f1)
/-- A vault's bytes. -/
def packS (cs : List Int → Int) (L : List S49) : List Int := fstS cs L.length L ++ (bigL (cs (fstS cs L.length L)) 4 ++ allS L)
theorem take_snocI {L : List S49} {i : Nat} (h : i < L.length) : L.take (i + 1) = L.take i ++ [L.getD i z49] := by
  rw [List.take_succ_eq_append_getElem h, List.getD_eq_getElem?_getD, List.getElem?_eq_getElem h]; rfl
theorem fstS_step (cs : List Int → Int) (n : Nat) {L : List S49} {i : Nat} (h : i < L.length) : fstS cs n (L.take (i + 1)) = [fstS cs n (L.take i), [((L.getD i z49).f0.size : Int)], bytesOf (L.getD i z49).f0, bigL (L.getD i z49).f1.length 3, bigL (cs (L.getD i z49).f1) 4].flatten := by
  rw [take_snocI h]
  simp [fstS, itS, List.flatMap_append]
theorem allS_step {L : List S49} {i : Nat} (h : i < L.length) : allS (L.take (i + 1)) = allS (L.take i) ++ (L.getD i z49).f1 := by
  rw [take_snocI h]
  simp [allS, List.flatMap_append]
theorem itS_length (cs : List Int → Int) (x : S49) (h : x.f0.size ≤ 255) : (itS cs x).length ≤ 263 := by
  unfold itS
  rw [List.length_append, List.length_append, List.length_append, bigL_length, bigL_length, bytesOf_length]
  simp
  omega
theorem flat_len {α : Type} (f : α → List Int) (m : Nat) : ∀ l : List α, (∀ x ∈ l, (f x).length ≤ m) → (l.flatMap f).length ≤ l.length * m
  | [], _ => by simp
  | x :: l, h => by
    have h1 := h x (by simp)
    have h2 := flat_len f m l (fun y hy => h y (by simp [hy]))
    rw [List.flatMap_cons, List.length_append, List.length_cons, Nat.succ_mul]
    omega
theorem fstS_length (cs : List Int → Int) (n : Nat) (L : List S49) (hl : L.length ≤ 100) (h : ∀ x ∈ L, x.f0.size ≤ 255) : (fstS cs n L).length ≤ 26305 := by
  have := flat_len (itS cs) 263 L (fun x hx => itS_length cs x (h x hx))
  unfold fstS
  rw [List.length_append]
  show 5 + (L.flatMap (itS cs)).length ≤ 26305
  omega
theorem allS_length (L : List S49) (hl : L.length ≤ 100) (h : ∀ x ∈ L, x.f1.length ≤ 1000) : (allS L).length ≤ 100000 := by
  have := flat_len (fun x : S49 => x.f1) 1000 L h
  unfold allS
  omega
theorem bytesOf_bytes (s : ByteArray) : ∀ x ∈ bytesOf s, 0 ≤ x ∧ x < 256 := by
  intro x hx
  unfold bytesOf at hx
  obtain ⟨b, _, rfl⟩ := List.mem_map.1 hx
  have := b.toNat_lt
  omega
theorem fstS_bytes (cs : List Int → Int) (n : Nat) (hn : n ≤ 255) (L : List S49) (h : ∀ x ∈ L, x.f0.size ≤ 255) : ∀ x ∈ fstS cs n L, 0 ≤ x ∧ x < 256 := by
  intro x hx
  unfold fstS at hx
  rcases List.mem_append.1 hx with hx | hx
  · simp at hx
    omega
  · obtain ⟨y, hy, hx⟩ := List.mem_flatMap.1 hx
    unfold itS at hx
    rcases List.mem_append.1 hx with hx | hx
    · rcases List.mem_append.1 hx with hx | hx
      · rcases List.mem_append.1 hx with hx | hx
        · simp at hx
          have := h y hy
          omega
        · exact bytesOf_bytes _ x hx
      · exact bigL_bytes _ _ x hx
    · exact bigL_bytes _ _ x hx
open Go.Proofs.YtibmccacebhhkaaDoor.AnyOrder Go.Proofs.YtibmccacebhhkaaDoor.AnyLit in
theorem bytes_row {e : Nat} (w : World) (s : ByteArray) (hs : s.size ≤ 9223372036854775807) : RowIs (Lib.bytesWorld w e s) (.slice (some ⟨w.heap.size, 0, none⟩) s.size (grownCap w s.size 0 e)) (bytesOf s) :=
  ⟨_, _, by rw [bytesOf_length], by rw [bytesOf_length]; exact grownCap_ge _ _ _ _, by rw [bytesOf_length]; exact Kd.C_of_reads (h1 := fun _ => rfl) (readsInt_of.1 (bytes_reads w e s hs))⟩
open Go.Proofs.YtibmccacebhhkaaDoor.AnyOrder Go.Proofs.YtibmccacebhhkaaDoor.AnyLit in
set_option maxRecDepth 100000 in
set_option maxHeartbeats 4000000 in
theorem vault_Pack.good (kk : Nat) (cs : List Int → Int) (A : Option Addr) (c : Nat) (L : List S49) (w : World) (hG : GL w) (hc : L.length ≤ c) (hR : Kd.C k49 w A L.length L) (hg : goodI L = true) (hl : L.length ≤ 100)
    (hnm : ∀ x ∈ L, x.f0.size ≤ 255) (hit : ∀ x ∈ L, x.f1.length ≤ 1000) (hby : ∀ x ∈ L, ∀ y ∈ x.f1, 0 ≤ y ∧ y < 256)
    (hix : ∀ x ∈ L, toll_Sum.f kk x.f1 = some (cs x.f1) ∧ 0 ≤ cs x.f1 ∧ cs x.f1 < 4294967296 ∧ vault_big.f kk (x.f1.length : Int) 3 = some (bigL (x.f1.length : Int) 3) ∧ vault_big.f kk (cs x.f1) 4 = some (bigL (cs x.f1) 4))
    (hff : toll_Sum.f kk (fstS cs L.length L) = some (cs (fstS cs L.length L)) ∧ 0 ≤ cs (fstS cs L.length L) ∧ cs (fstS cs L.length L) < 4294967296 ∧ vault_big.f kk (cs (fstS cs L.length L)) 4 = some (bigL (cs (fstS cs L.length L)) 4)) :
    Calls Tryd.prog 15 #[.slice A L.length c] w fun e w' => ∃ v, e = .returned (.tuple #[v, .int .i64 0]) ∧ Kd.R (Kd.int .u8) 5 w' w.heap.size (fun _ => True) v (packS cs L) ∧ Below w.heap.size w w' := by
  have HG := AsidePk.mk (vault_Good.gives A c L w hR)
  rw [hg] at HG
  have HGL := AsidePk.mk hG
  have HR := AsidePk.mk hR
  have HNM := AsidePk.mk hnm
  have HIT := AsidePk.mk hit
  have HBY := AsidePk.mk hby
  have HIX := AsidePk.mk hix
  have HFF := AsidePk.mk hff
  obtain ⟨n, hn⟩ : ∃ n, L.length = n := ⟨_, rfl⟩
  have HN := AsidePk.mk hn
  rw [hn] at HG HFF hc hl ⊢
  have hinfo : ((Tryd.prog).info? 5).map (fun i => (i.zero, i.size, i.bytes)) = some (some (.int .u8 0), 1, 1) := by kernel_rfl
  have HI := AsidePk.mk hinfo
  clear hG hR hg hnm hit hby hix hff hn hinfo
  go_enter Tryd.func15, Tryd.ntmps15
  go_upto_region 3 with (go_at_call 16; (with_reducible refine HG.out.mono ?_); rintro e w1 ⟨rfl, hb⟩; have HB1 := AsidePk.mk hb; clear hb)
  obtain ⟨w5, hcv0, hMk, hMR⟩ := conv_lit2 (P := Tryd.prog) (lit_made (B := w1.heap.size) 5 (w := w1) [83, 75, 66, 86] (Nat.le_refl _)) Tryd.underlying22 Tryd.underlying5
  have hcv : (convert 22 22 (.slice (some ⟨w1.heap.size, 0, none⟩) 4 4)).run Tryd.prog (w1.alloc (.cells #[.int .u8 83, .int .u8 75, .int .u8 66, .int .u8 86] 5)) = .ok (.slice (some ⟨w1.heap.size, 0, none⟩) 4 4) w5 := hcv0
  have HMR := AsidePk.mk hMR
  have HB5 := AsidePk.mk (((Below.refl w1.heap.size w1).alloc (Nat.le_refl _) _).trans hMk.below)
  have hw8 : (n : Int) % 256 = (n : Int) := by omega
  clear hcv0 hMk hMR
  have HROW := AsidePk.mk (LitIs.row (lit_made (B := w5.heap.size) 5 (w := w5) [(n : Int)] (Nat.le_refl _)) (by simp))
  go_upto_region 5 with (at_builtin; refine wpList_plain rfl (fun K hK => ?_); refine anyAppendLit (B := w1.heap.size) (xs := [83, 75, 66, 86]) (ys := [(n : Int)]) (.tmp 12) (.tmp 16) rfl Tryd.underlying22 HI.out rfl rfl (HMR.out.block (fun g c hg => Below.heap_alloc _ _ g (blk_lt hg))) (by simp) HROW.out (by simp) (Nat.le_trans HB5.out.size (by rw [show (w5.alloc _).heap.size = w5.heap.size + 1 from Array.size_push _]; omega)) (by simp) (fun v1 w7 hg hf => hK _ _ ?_); have HG7 := AsidePk.mk hg; have HF7 := AsidePk.mk hf; clear hg hf hK K)
  clear hcv hw8
  have HB7 := AsidePk.mk (below_step (below_alloc (below_step HB1.out HB5.out) _) HG7.out)
  have HO7 := AsidePk.mk (show Kd.R (Kd.int .u8) 5 w7 w.heap.size (fun k => True ∧ some k ≠ (Value.slice none 0 0).ownBlock) v1 (fstS cs n (L.take 0)) from Kd.R_apart_nil (Kd.R_lower HF7.out.1 HB1.out.size))
  clear HG7 HF7 HROW HMR HB5 HB1 HG
  go_wp2_with (fail)
  go_loopw [4, 5, 20] (fun f a v wr => ∃ i : Nat, i ≤ n ∧ v = .int .i64 i ∧ AsidePk (Below w.heap.size w wr) ∧ AsidePk (Kd.R (Kd.int .u8) 5 wr w.heap.size (fun k => True ∧ some k ≠ a.ownBlock) f (fstS cs n (L.take i))) ∧ AsidePk (Kd.R (Kd.int .u8) 5 wr w.heap.size (fun _ => True) a (allS (L.take i)))) (fun _ _ v _ => n - (intOf v).toNat)
  case atStart => exact ⟨0, Nat.zero_le _, rfl, HB7, HO7, ⟨Kd.R_nil _ _ _ _ _⟩⟩
  case round =>
    clear HB7 HO7
    obtain ⟨i, hi, rfl, HBr, HFr, HAr⟩ := hrel
    by_cases hlt : i < n
    · have hC := Kd.C_below HR.out HBr.out
      rw [HN.out] at hC
      obtain ⟨ad, A1, c1, e, hx0, hx1, hlc, hCx⟩ := at_T49 hC (i : Int) (by omega) (by omega)
      rw [Int.toNat_natCast] at hx0 hx1
      subst e
      have hrd : (rd_T49 L (i : Int)) = L.getD i z49 := by unfold rd_T49; rw [Int.toNat_natCast]
      have hmem : L.getD i z49 ∈ L := by rw [List.getD_eq_getElem?_getD, List.getElem?_eq_getElem (by rw [HN.out]; exact hlt)]; exact List.getElem_mem _
      have hsn := HNM.out _ hmem
      have hsi := HIT.out _ hmem
      obtain ⟨hcx, hcx0, hcx1, hb3, hb4⟩ := HIX.out _ hmem
      have hst := fstS_step cs n (L := L) (i := i) (by rw [HN.out]; exact hlt)
      have hsa := allS_step (L := L) (i := i) (by rw [HN.out]; exact hlt)
      rw [hrd] at hx0 hx1 hlc hCx
      generalize (L.getD i z49).f0 = nm at *
      generalize (L.getD i z49).f1 = xs at *
      obtain ⟨nx, hnx⟩ : ∃ nx, xs.length = nx := ⟨_, rfl⟩
      rw [hnx] at hx1 hlc hCx hsi hst hb3
      have hFl : (fstS cs n (L.take i)).length ≤ 26305 := fstS_length cs n _ (by rw [List.length_take]; omega) (fun x hx => HNM.out x (List.mem_of_mem_take hx))
      have hAl : (allS (L.take i)).length ≤ 100000 := allS_length _ (by rw [List.length_take]; omega) (fun x hx => HIT.out x (List.mem_of_mem_take hx))
      generalize cs xs = y at *
      have hb14 := below_alloc (Below.refl wr.heap.size wr) (.cells #[.string nm, .slice A1 nx c1] 49)
      have hX14 := blk_new wr (.cells #[.string nm, .slice A1 nx c1] 49)
      go_upto_region 8 with (fail)
      generalize wr.alloc (.cells #[.string nm, .slice A1 nx c1] 49) = w14 at hb14 hX14 ⊢
      generalize wr.heap.size = g at hX14 ⊢
      have hBw := below_step HBr.out (by have := hb14; exact this)
      have hF14 := Kd.R_below HFr.out hb14
      have hA14 := Kd.R_below HAr.out hb14
      have hC14 := Kd.C_below hCx hb14
      have hG14 := HGL.out.of_below hBw
      have HSUM := AsidePk.mk (fun (W : World) (hW : Below w14.heap.size w14 W) => (show Calls Tryd.prog 31 #[.slice A1 nx c1] W fun e w' => e = .returned (.int .u32 y) ∧ Below W.heap.size W w' from by
        have h := toll_Sum.calls kk A1 c1 xs y W (by rw [hnx]; exact Kd.C_below hC14 hW) (by rw [hnx]; exact hlc) (hG14.of_below hW) hcx
        rw [hnx] at h
        exact h))
      obtain ⟨LL, hLL⟩ : ∃ LL : List (List Int), LL = [fstS cs n (L.take i), [(nm.size : Int)], bytesOf nm, bigL (nx : Int) 3, bigL y 4] := ⟨_, rfl⟩
      have hLn : LL.length = 5 := by rw [hLL]; rfl
      have hcat : slices_Concat_byte_byte.f LL = some (fstS cs n (L.take (i + 1))) := by
        unfold slices_Concat_byte_byte.f
        rw [if_pos, hst, hLL]
        refine ⟨by rw [hLn]; omega, fun x hx => ?_⟩
        rw [hLL] at hx
        simp only [List.mem_cons, List.not_mem_nil, or_false] at hx
        rcases hx with rfl | rfl | rfl | rfl | rfl
        · omega
        · simp
        · rw [bytesOf_length]; omega
        · rw [bigL_length]; omega
        · rw [bigL_length]; omega
      have HLL := AsidePk.mk hLL
      have HLn := AsidePk.mk hLn
      have HCAT := AsidePk.mk hcat
      have HSA := AsidePk.mk hsa
      have HSZ := AsidePk.mk (show nm.size ≤ 9223372036854775807 by omega)
      have HAL := AsidePk.mk (And.intro hAl hsi)
      have HB3n := AsidePk.mk hb3
      have HB4n := AsidePk.mk hb4
      have hw8n : (nm.size : Int) % 256 = (nm.size : Int) := by omega
      have hw8u : IntKind.u8.wrap (nm.size : Int) = (nm.size : Int) := by rw [IntKind.wrap_u8]; exact hw8n
      have hwy : IntKind.i64.wrap y = y := by rw [IntKind.wrap_i64]; omega
      have HY := AsidePk.mk (And.intro hwy (And.intro hw8n hw8u))
      clear hrd hmem hsn hsi hst hsa hcx hcx0 hcx1 hb3 hb4 hFl hAl hcat hLL hLn hx0 hx1 hwy hw8n hw8u hC hCx
      generalize hR0 : fstS cs n (L.take (i + 1)) = R0 at HCAT
      have HR0 := AsidePk.mk hR0
      clear hR0
      generalize hFF : fstS cs n (L.take i) = F0 at hF14 HLL
      clear hFF
      refine region_kinds true (by kernel_rfl) (w14.heap.size) 5 (fun W => W.heap[g]? = some (.cells #[.string nm, .slice A1 nx c1] 49 (0, 0))) [.make, .make, .make, .make, .make, .make, .make, .make, .make, .make, .make, .make, .make, .make, .make, .make, .make, .make, .make, .make, .make] [.val (u4), .val (.pointer (some ⟨g, 0, none⟩)), .val (.string nm), .val (.int .i64 ((nm.size : Int))), .val (.int .u8 (nm.size : Int)), .row [(nm.size : Int)], .val (.pointer (some ⟨g, 0, none⟩)), .val (.string nm), .row (bytesOf nm), .val (.pointer (some ⟨g, 1, none⟩)), .val (.slice A1 nx c1), .val (.int .i64 ((nx : Int))), .row (bigL (nx : Int) 3), .val (.pointer (some ⟨g, 1, none⟩)), .val (.slice A1 nx c1), .val (.int .u32 y), .val (.int .i64 (y)), .row (bigL y 4), .rows LL, .own [] R0, .own [] R0] [.free, .free, .free, .free, .free, .row, .free, .free, .row, .free, .free, .free, .row, .free, .free, .free, .free, .row, .rows, .own [], .own []] [(.row F0, u4)] [.row] [[18]] [0, 0, 2, 6, 14, 30, 0, 64, 192, 0, 512, 1536, 3584, 0, 8192, 32256, 65024, 130560, 262143, 524287, 1048575] [[], [], [(1, 25)], [(2, 26)], [(3, 27)], [(4, 28)], [], [(6, 30)], [(7, 31)], [], [(9, 33)], [(10, 34)], [(11, 35)], [], [(13, 37)], [(14, 38)], [(15, 39)], [(16, 40)], [(0, 24), (5, 29), (8, 32), (12, 36), (17, 41)], [(18, 42)], [(19, 43)]] [[4], [7], [], [], [], [], [7], [], [], [7], [], [], [], [7], [], [], [], [], [], [], []] (fun vs => [(24, vs 0), (25, vs 1), (26, vs 2), (27, vs 3), (28, vs 4), (29, vs 5), (30, vs 6), (31, vs 7), (32, vs 8), (33, vs 9), (34, vs 10), (35, vs 11), (36, vs 12), (37, vs 13), (38, vs 14), (39, vs 15), (40, vs 16), (41, vs 17), (42, vs 18), (43, vs 19), (4, vs 20)]) rfl rfl (by kernel_rfl) (fun _ => rfl) (Below.refl _ _) (Nat.le_refl _) (blk_drew hX14) (fun g W W' hg hX => GK.other hg hX (by decide)) ?hini ?_ ?_
      case hini =>
        intro x hx
        rcases x with _ | x
        · exact row_of_R (Kd.R_drew hF14)
        · exact absurd hx (by simp)
      refine ⟨?_, ?_, ?_, ?_, ?_, ?_, ?_, ?_, ?_, ?_, ?_, ?_, ?_, ?_, ?_, ?_, ?_, ?_, ?_, ?_, ?_, trivial⟩
      · intro a w1 hJ hD hE hS K hK
        obtain ⟨hJ1, hJ2, hJ3⟩ := hJ
        have d_4 : a.tmps.getD 4 undef = u4 := hS 4 (by simp)
        clear hD hS hE
        refine wp_value (v := u4) (w1 := w1) ?_ (hK _ _ (Below.refl _ _) rfl)
        clear hK
        go_simp
      · intro a w1 hJ hD hE hS K hK
        obtain ⟨hJ1, hJ2, hJ3⟩ := hJ
        have d_7 : a.tmps.getD 7 undef = .pointer (some ⟨g, 0, none⟩) := hS 7 (by simp)
        clear hD hS hE
        refine wp_value (v := .pointer (some ⟨g, 0, none⟩)) (w1 := w1) ?_ (hK _ _ (Below.refl _ _) rfl)
        clear hK
        go_simp
      · intro a w1 hJ hD hE hS K hK
        obtain ⟨hJ1, hJ2, hJ3⟩ := hJ
        have d_25 : a.tmps.getD 25 undef = .pointer (some ⟨g, 0, none⟩) := hD (1, 25) (by simp)
        have f0 := (blk_cell hJ3 0).trans rfl
        have f1 := (blk_cell hJ3 1).trans rfl
        clear hD hS hE
        refine wp_value (v := .string nm) (w1 := w1) ?_ (hK _ _ (Below.refl _ _) rfl)
        clear hK
        go_simp
      · intro a w1 hJ hD hE hS K hK
        obtain ⟨hJ1, hJ2, hJ3⟩ := hJ
        have d_26 : a.tmps.getD 26 undef = .string nm := hD (2, 26) (by simp)
        clear hD hS hE
        refine wp_value (v := .int .i64 (nm.size : Int)) (w1 := w1) ?_ (hK _ _ (Below.refl _ _) rfl)
        clear hK
        go_simp
      · intro a w1 hJ hD hE hS K hK
        obtain ⟨hJ1, hJ2, hJ3⟩ := hJ
        have d_27 : a.tmps.getD 27 undef = .int .i64 ((nm.size : Int)) := hD (3, 27) (by simp)
        clear hD hS hE
        obtain ⟨hwy, hw8n, hw8u⟩ := HY.out
        refine wp_value (v := .int .u8 (nm.size : Int)) (w1 := w1) ?_ (hK _ _ (Below.refl _ _) rfl)
        clear hK
        go_simp
      · intro a w1 hJ hD hE hS K hK
        obtain ⟨hJ1, hJ2, hJ3⟩ := hJ
        have d_28 : a.tmps.getD 28 undef = .int .u8 (nm.size : Int) := hD (4, 28) (by simp)
        clear hD hS hE
        have hlit := (lit_made (B := w1.heap.size) 5 (w := w1) [(nm.size : Int)] (Nat.le_refl _)).row (by simp)
        refine wp_value (v := .slice (some ⟨w1.heap.size, 0, none⟩) 1 1) (w1 := w1.alloc (.cells (List.map (Value.int .u8) [(nm.size : Int)]).toArray 5)) ?_ (hK _ _ ((Below.refl _ _).alloc (Nat.le_refl _) _) hlit)
        clear hK hlit
        rw [Array.getD_eq_getD_getElem?] at d_28
        go_simp
      · intro a w1 hJ hD hE hS K hK
        obtain ⟨hJ1, hJ2, hJ3⟩ := hJ
        have d_7 : a.tmps.getD 7 undef = .pointer (some ⟨g, 0, none⟩) := hS 7 (by simp)
        clear hD hS hE
        refine wp_value (v := .pointer (some ⟨g, 0, none⟩)) (w1 := w1) ?_ (hK _ _ (Below.refl _ _) rfl)
        clear hK
        go_simp
      · intro a w1 hJ hD hE hS K hK
        obtain ⟨hJ1, hJ2, hJ3⟩ := hJ
        have d_30 : a.tmps.getD 30 undef = .pointer (some ⟨g, 0, none⟩) := hD (6, 30) (by simp)
        have f0 := (blk_cell hJ3 0).trans rfl
        have f1 := (blk_cell hJ3 1).trans rfl
        clear hD hS hE
        refine wp_value (v := .string nm) (w1 := w1) ?_ (hK _ _ (Below.refl _ _) rfl)
        clear hK
        go_simp
      · intro a w1 hJ hD hE hS K hK
        obtain ⟨hJ1, hJ2, hJ3⟩ := hJ
        have d_31 : a.tmps.getD 31 undef = .string nm := hD (7, 31) (by simp)
        clear hD hS hE
        have hr := print_bytes (P := Tryd.prog) 9 22 5 Tryd.underlying9 Tryd.underlying22 Tryd.underlying5 nm w1
        have hrow := bytes_row (e := 5) w1 nm HSZ.out
        refine wp_value ?_ (hK (.slice (some ⟨w1.heap.size, 0, none⟩) nm.size (grownCap w1 nm.size 0 5)) (Lib.bytesWorld w1 5 nm) (bytes_below (Below.refl _ _) (Nat.le_refl _) _ _) hrow)
        clear hK hrow
        go_simp
      · intro a w1 hJ hD hE hS K hK
        obtain ⟨hJ1, hJ2, hJ3⟩ := hJ
        have d_7 : a.tmps.getD 7 undef = .pointer (some ⟨g, 0, none⟩) := hS 7 (by simp)
        clear hD hS hE
        refine wp_value (v := .pointer (some ⟨g, 1, none⟩)) (w1 := w1) ?_ (hK _ _ (Below.refl _ _) rfl)
        clear hK
        go_simp
      · intro a w1 hJ hD hE hS K hK
        obtain ⟨hJ1, hJ2, hJ3⟩ := hJ
        have d_33 : a.tmps.getD 33 undef = .pointer (some ⟨g, 1, none⟩) := hD (9, 33) (by simp)
        have f0 := (blk_cell hJ3 0).trans rfl
        have f1 := (blk_cell hJ3 1).trans rfl
        clear hD hS hE
        refine wp_value (v := .slice A1 nx c1) (w1 := w1) ?_ (hK _ _ (Below.refl _ _) rfl)
        clear hK
        go_simp
      · intro a w1 hJ hD hE hS K hK
        obtain ⟨hJ1, hJ2, hJ3⟩ := hJ
        have d_34 : a.tmps.getD 34 undef = .slice A1 nx c1 := hD (10, 34) (by simp)
        clear hD hS hE
        refine wp_value (v := .int .i64 (nx : Int)) (w1 := w1) ?_ (hK _ _ (Below.refl _ _) rfl)
        clear hK
        go_simp
      · intro a w1 hJ hD hE hS K hK
        obtain ⟨hJ1, hJ2, hJ3⟩ := hJ
        have d_35 : a.tmps.getD 35 undef = .int .i64 ((nx : Int)) := hD (11, 35) (by simp)
        clear hD hS hE
        refine wp_call Tryd.func30 (by kernel_rfl) rfl #[.int .i64 (nx : Int), .int .i64 3] rfl (by simp only [List.map_toArray, List.map_cons, List.map_nil, Act.eval, d_35]) ?_
        refine (vault_big.calls kk (nx : Int) 3 (bigL (nx : Int) 3) w1 HB3n.out).mono ?_
        rintro e w2 ⟨v, rfl, ho, hb⟩
        exact ⟨v, rfl, hK v w2 hb (row_of_R ho)⟩
      · intro a w1 hJ hD hE hS K hK
        obtain ⟨hJ1, hJ2, hJ3⟩ := hJ
        have d_7 : a.tmps.getD 7 undef = .pointer (some ⟨g, 0, none⟩) := hS 7 (by simp)
        clear hD hS hE
        refine wp_value (v := .pointer (some ⟨g, 1, none⟩)) (w1 := w1) ?_ (hK _ _ (Below.refl _ _) rfl)
        clear hK
        go_simp
      · intro a w1 hJ hD hE hS K hK
        obtain ⟨hJ1, hJ2, hJ3⟩ := hJ
        have d_37 : a.tmps.getD 37 undef = .pointer (some ⟨g, 1, none⟩) := hD (13, 37) (by simp)
        have f0 := (blk_cell hJ3 0).trans rfl
        have f1 := (blk_cell hJ3 1).trans rfl
        clear hD hS hE
        refine wp_value (v := .slice A1 nx c1) (w1 := w1) ?_ (hK _ _ (Below.refl _ _) rfl)
        clear hK
        go_simp
      · intro a w1 hJ hD hE hS K hK
        obtain ⟨hJ1, hJ2, hJ3⟩ := hJ
        have d_38 : a.tmps.getD 38 undef = .slice A1 nx c1 := hD (14, 38) (by simp)
        clear hD hS hE
        refine wp_call Tryd.func31 (by kernel_rfl) rfl #[.slice A1 nx c1] rfl (by simp only [List.map_toArray, List.map_cons, List.map_nil, Act.eval, d_38]) ?_
        refine (HSUM.out w1 hJ1).mono ?_
        rintro e w2 ⟨rfl, hb⟩
        exact ⟨_, rfl, hK _ w2 hb rfl⟩
      · intro a w1 hJ hD hE hS K hK
        obtain ⟨hJ1, hJ2, hJ3⟩ := hJ
        have d_39 : a.tmps.getD 39 undef = .int .u32 y := hD (15, 39) (by simp)
        clear hD hS hE
        obtain ⟨hwy, hw8n, hw8u⟩ := HY.out
        refine wp_value (v := .int .i64 y) (w1 := w1) ?_ (hK _ _ (Below.refl _ _) rfl)
        clear hK
        go_simp
      · intro a w1 hJ hD hE hS K hK
        obtain ⟨hJ1, hJ2, hJ3⟩ := hJ
        have d_40 : a.tmps.getD 40 undef = .int .i64 (y) := hD (16, 40) (by simp)
        clear hD hS hE
        refine wp_call Tryd.func30 (by kernel_rfl) rfl #[.int .i64 y, .int .i64 4] rfl (by simp only [List.map_toArray, List.map_cons, List.map_nil, Act.eval, d_40]) ?_
        refine (vault_big.calls kk y 4 (bigL y 4) w1 HB4n.out).mono ?_
        rintro e w2 ⟨v, rfl, ho, hb⟩
        exact ⟨v, rfl, hK v w2 hb (row_of_R ho)⟩
      · intro a w1 hJ hD hE hS K hK
        obtain ⟨hJ1, hJ2, hJ3⟩ := hJ
        have d_24 : a.tmps.getD 24 undef = u4 := hD (0, 24) (by simp)
        have d_29 : FK.holds (w14.heap.size) 5 (.row [(nm.size : Int)]) (a.tmps.getD 29 undef) w1 := hD (5, 29) (by simp)
        have d_32 : FK.holds (w14.heap.size) 5 (.row (bytesOf nm)) (a.tmps.getD 32 undef) w1 := hD (8, 32) (by simp)
        have d_36 : FK.holds (w14.heap.size) 5 (.row (bigL (nx : Int) 3)) (a.tmps.getD 36 undef) w1 := hD (12, 36) (by simp)
        have d_41 : FK.holds (w14.heap.size) 5 (.row (bigL y 4)) (a.tmps.getD 41 undef) w1 := hD (17, 41) (by simp)
        have i_0 : FK.holds (w14.heap.size) 5 (.row F0) (u4) w1 := hE 0 (by decide)
        clear hD hS hE
        have r_24 : RowIs w1 (a.tmps.getD 24 undef) F0 := by rw [d_24]; exact i_0
        have r_29 : RowIs w1 (a.tmps.getD 29 undef) [(nm.size : Int)] := d_29
        have r_32 : RowIs w1 (a.tmps.getD 32 undef) (bytesOf nm) := d_32
        have r_36 : RowIs w1 (a.tmps.getD 36 undef) (bigL (nx : Int) 3) := d_36
        have r_41 : RowIs w1 (a.tmps.getD 41 undef) (bigL y 4) := d_41
        have hC := rows_made (e := 5) (E := 22) (RowsAre.cons r_24 (RowsAre.cons r_29 (RowsAre.cons r_32 (RowsAre.cons r_36 (RowsAre.cons r_41 (RowsAre.nil)))))) (by simp)
        obtain ⟨A24, c24, e24, _, _⟩ := r_24
        obtain ⟨A29, c29, e29, _, _⟩ := r_29
        obtain ⟨A32, c32, e32, _, _⟩ := r_32
        obtain ⟨A36, c36, e36, _, _⟩ := r_36
        obtain ⟨A41, c41, e41, _, _⟩ := r_41
        clear d_24 d_29 d_32 d_36 d_41
        refine wp_value (v := .slice (some ⟨w1.heap.size, 0, none⟩) 5 5) ?_ (hK _ _ ((Below.refl _ _).alloc (Nat.le_refl _) _) ⟨_, by rw [HLn.out]; rfl, by rw [← HLL.out] at hC; exact hC⟩)
        clear hK hC
        rw [Array.getD_eq_getD_getElem?] at e24
        rw [Array.getD_eq_getD_getElem?] at e29
        rw [Array.getD_eq_getD_getElem?] at e32
        rw [Array.getD_eq_getD_getElem?] at e36
        rw [Array.getD_eq_getD_getElem?] at e41
        go_simp
      · intro a w1 hJ hD hE hS K hK
        obtain ⟨hJ1, hJ2, hJ3⟩ := hJ
        have d_42 : FK.holds (w14.heap.size) 5 (.rows LL) (a.tmps.getD 42 undef) w1 := hD (18, 42) (by simp)
        clear hD hS hE
        obtain ⟨A, eA, hC⟩ := d_42
        refine wp_call Tryd.func29 (by kernel_rfl) rfl #[.slice A LL.length LL.length] rfl (by simp only [List.map_toArray, List.map_cons, List.map_nil, Act.eval, eA]) ?_
        refine (slices_Concat_byte_byte.calls A LL.length LL R0 w1 hC (Nat.le_refl _) HCAT.out).mono ?_
        rintro e w2 ⟨v, rfl, ho, hb⟩
        exact ⟨v, rfl, hK v w2 hb ⟨Kd.R_lower ho hJ2, R0, rfl⟩⟩
      · intro a w1 hJ hD hE hS K hK
        obtain ⟨hJ1, hJ2, hJ3⟩ := hJ
        have d_43 : FK.holds (w14.heap.size) 5 (.own [] R0) (a.tmps.getD 43 undef) w1 := hD (19, 43) (by simp)
        clear hD hS hE
        refine wp_value (v := a.tmps.getD 43 undef) (w1 := w1) ?_ (hK _ _ (Below.refl _ _) d_43)
        clear hK d_43
        go_simp
      · intro vs w20 hB20 hX20 hF20
        have h20 : Kd.R (Kd.int .u8) 5 w20 w14.heap.size (fun _ => True) (vs 20) R0 := (hF20 20 (by decide) (by kernel_rfl)).1
        clear hF20
        generalize vs 20 = f20 at h20 ⊢
        have HB20 := AsidePk.mk (below_step hBw hB20)
        have HA20 := AsidePk.mk (Kd.R_below hA14 hB20)
        have HF20 := AsidePk.mk (Kd.R_lower (Kd.R_newR h20 hA14) hBw.size)
        have HC20 := AsidePk.mk (Kd.C_below hC14 hB20)
        have HX20 := AsidePk.mk hX20
        have f0 := (blk_cell hX20 0).trans rfl
        have f1 := (blk_cell hX20 1).trans rfl
        clear h20 hB20 hX20 hb14 hX14 hBw hF14 hA14 hC14 hG14 HSUM HLL HLn HCAT HB3n HB4n HBr HFr HAr
        simp only [putL, Act.put, List.setIfInBounds_toArray, List.set_cons_zero, List.set_cons_succ]
        go_wp2_with (at_builtin; refine Kd.R_append_rows (Kd.int .u8) (w0 := w) w.heap.size rfl (.tmp 44) (.tmp 46) 22 5 (.int .u8 0) 1 rfl Tryd.underlying22 HI.out rfl (by decide) (by decide) u5 (allS (L.take i)) xs A1 nx c1 (fun _ => True) (fun _ => False) rfl rfl HA20.out HC20.out (fun _ _ h => h) (fun _ hk => hk.elim) (fun _ _ => trivial) HB20.out HB20.out.size ?aL ?_; (case aL => obtain ⟨_, _⟩ := HAL.out; omega); intro v9 w9 ho hb hg hat; rw [← HSA.out] at ho; have HA9 := AsidePk.mk ho; have HB9 := AsidePk.mk hb; have HF9 := AsidePk.mk (Kd.R_after HF20.out hg hat); clear ho hb hg hat)
        go_roundw
        case rel => exact ⟨i + 1, by omega, by go_num, HB9, ⟨by rw [HR0.out]; exact HF9.out⟩, HA9⟩
        case measure => simp [intOf]; omega
    · obtain rfl : i = n := by omega
      clear hi hlt
      rw [List.take_of_length_le (by rw [HN.out]; exact Nat.le_refl _)] at HFr HAr
      have hFb := fstS_bytes cs i (by omega) L HNM.out
      have hFl := fstS_length cs i L (by rw [HN.out]; exact hl) HNM.out
      have hAl := allS_length L (by rw [HN.out]; exact hl) HIT.out
      have hpk : packS cs L = [fstS cs i L, bigL (cs (fstS cs i L)) 4, allS L].flatten := by unfold packS; rw [HN.out]; simp
      obtain ⟨hcx, hcx0, hcx1, hb4⟩ := HFF.out
      generalize fstS cs i L = F at *
      generalize allS L = Al at *
      generalize cs F = y at *
      have hcat3 : slices_Concat_byte_byte.f [F, bigL y 4, Al] = some (packS cs L) := by
        unfold slices_Concat_byte_byte.f
        rw [if_pos, hpk]
        refine ⟨by simp, fun x hx => ?_⟩
        simp only [List.mem_cons, List.not_mem_nil, or_false] at hx
        rcases hx with rfl | rfl | rfl
        · omega
        · rw [bigL_length]; omega
        · omega
      obtain ⟨AF, cF, eF⟩ := Kd.R_slice HFr.out
      obtain ⟨Aa, ca, ea⟩ := Kd.R_slice HAr.out
      obtain ⟨nF, hnF⟩ : ∃ nF, F.length = nF := ⟨_, rfl⟩
      obtain ⟨na, hna⟩ : ∃ na, Al.length = na := ⟨_, rfl⟩
      rw [hnF] at eF
      rw [hna] at ea
      subst eF ea
      have hCF := Kd.R_reads' HFr.out
      rw [hnF] at hCF
      have HSUM := AsidePk.mk (show Calls Tryd.prog 31 #[.slice AF nF cF] wr fun e w' => e = .returned (.int .u32 y) ∧ Below wr.heap.size wr w' from by
        have h := toll_Sum.calls kk AF cF F y wr (by rw [hnF]; exact hCF.2.2) (by rw [hnF]; exact hCF.2.1) (HGL.out.of_below HBr.out) hcx
        rw [hnF] at h
        exact h)
      have HBG := AsidePk.mk (fun W => vault_big.calls kk y 4 (bigL y 4) W hb4)
      have HCC := AsidePk.mk (fun (W : World) (Ab : Option Addr) (cb : Nat) (hF : RowIs W (.slice AF nF cF) F) (hb : RowIs W (.slice Ab 4 cb) (bigL y 4)) (ha : RowIs W (.slice Aa na ca) Al) => (show Calls Tryd.prog 29 #[.slice (some ⟨W.heap.size, 0, none⟩) 3 3] (W.alloc (.cells #[.slice AF nF cF, .slice Ab 4 cb, .slice Aa na ca] 22)) _ from slices_Concat_byte_byte.calls (some ⟨W.heap.size, 0, none⟩) 3 [F, bigL y 4, Al] _ _ (rows_made (e := 5) (E := 22) (RowsAre.cons hF (RowsAre.cons hb (RowsAre.cons ha RowsAre.nil))) (by simp)) (Nat.le_refl _) hcat3))
      have HRF := AsidePk.mk (show RowIs wr (.slice AF nF cF) F from row_of_R HFr.out)
      have HRA := AsidePk.mk (show RowIs wr (.slice Aa na ca) Al from row_of_R HAr.out)
      have hwy : IntKind.i64.wrap y = y := by rw [IntKind.wrap_i64]; omega
      have hwy0 : 0 ≤ y := hcx0
      have hwy1 : y ≤ 4294967295 := by omega
      clear hFb hFl hAl hpk hcx hcx0 hcx1 hb4 hcat3 hnF hna hCF HFr HAr
      go_wp2_with (first | (go_at_call 31; (with_reducible refine HSUM.out.mono ?_); rintro e w12 ⟨rfl, hb⟩; have HB12 := AsidePk.mk (below_step HBr.out hb); have HRF2 := AsidePk.mk (HRF.out.below hb); have HRA2 := AsidePk.mk (HRA.out.below hb); clear hb) | (go_at_call 30; (with_reducible refine (HBG.out _).mono ?_); rintro e w13 ⟨vb, rfl, ho, hb⟩; have HB13 := AsidePk.mk (below_step HB12.out hb); have HRF3 := AsidePk.mk (HRF2.out.below hb); have HRA3 := AsidePk.mk (HRA2.out.below hb); obtain ⟨Ab, cb, eb⟩ := Kd.R_slice ho; rw [bigL_length] at eb; subst eb; have HRB := AsidePk.mk (show RowIs w13 (.slice Ab 4 cb) (bigL y 4) from row_of_R ho); clear ho hb) | (go_at_call 29; (with_reducible refine (HCC.out _ Ab cb HRF3.out HRB.out HRA3.out).mono ?_); rintro e w14 ⟨v14, rfl, ho, hb⟩; have HB14 := AsidePk.mk (below_step (below_alloc HB13.out _) hb); have HO14 := AsidePk.mk (Kd.R_lower ho (below_alloc HB13.out _).size); clear ho hb))
      go_ret2
      exact ⟨_, rfl, HO14.out, HB14.out⟩

end Go.Proofs.YtibmccacebhhkaaDoor.HV

namespace Go.Proofs.YtibmccacebhhkaaDoor.HV
open Go.RowKit Go.Proofs.YtibmccacebhhkaaDoorW.PrintWords Go.Proofs.YtibmccacebhhkaaDoorW.PrintLast Go.Proofs.YtibmccacebhhkaaDoorW.PrintMore
attribute [local go_sem] max2_int min2_int max_two min_two max_three min_three max_four min_four   -- for this text's walks alone
set_option linter.unusedVariables false
set_option linter.unusedSimpArgs false

/-! ### sackbutlaw25_awake: function 8, by hand -/
structure AsideAk (p : Prop) : Prop where mk :: (out : p)
theorem ak_sum : toll_Sum.f 50 [83, 75, 66, 86, 0] = some 1786461766 := by decide +kernel
theorem ak_ref : sackbutref04_Sum.f 50 [83, 75, 66, 86, 0] = some 1786461766 := by decide +kernel
theorem ak_big : vault_big.f 50 1786461766 4 = some [106, 123, 62, 70] := by decide +kernel
theorem ak_bigL : bigL 1786461766 4 = [106, 123, 62, 70] := by decide +kernel
theorem ak_pack : packS (fun _ => 1786461766) [] = [83, 75, 66, 86, 0, 106, 123, 62, 70] := by decide +kernel
theorem ak_eq : ((strOfNums [83, 75, 66, 86, 0, 106, 123, 62, 70]).toList == ((⟨#[83, 75, 66, 86, 0]⟩ : ByteArray) ++ strOfNums [106, 123, 62, 70]).toList) = true := by decide +kernel
theorem lit_row (W : World) (l : List Int) (m : Nat × Nat) (hl : l.length ≤ 9223372036854775807) : Kd.C (Kd.int .u8) (W.alloc (.cells (l.map (Value.int .u8)).toArray 5 m)) (some ⟨W.heap.size, 0, none⟩) l.length l := by
  have hh2 := blk_new W (.cells (l.map (Value.int .u8)).toArray 5 m)
  generalize W.alloc (.cells (l.map (Value.int .u8)).toArray 5 m) = W2 at hh2 ⊢
  refine ⟨rfl, hl, fun _ => ⟨_, rfl, fun j p hj => ⟨[.int .u8 p], rfl, rfl, fun i u hu => ?_⟩⟩⟩
  rcases i with _ | i
  · obtain rfl : u = .int .u8 p := by simpa using hu.symm
    have hsz : (Kd.int .u8).sz = 1 := rfl
    rw [hsz, Nat.mul_one, Nat.add_zero, add_plain]
    simp [World.cell?, hh2, hj]
  · simp at hu
set_option maxRecDepth 100000 in
set_option maxHeartbeats 4000000 in
theorem law25_awake.gives (w : World) (hG : GL w) :
    Calls Tryd.prog 8 #[] w fun e w' => e = .returned (.bool true) ∧ Below w.heap.size w w' := by
  have HPK : AsideAk (Calls Tryd.prog 15 #[.slice none 0 0] w fun e w' => ∃ v, e = .returned (.tuple #[v, .int .i64 0]) ∧ Kd.R (Kd.int .u8) 5 w' w.heap.size (fun _ => True) v [83, 75, 66, 86, 0, 106, 123, 62, 70] ∧ Below w.heap.size w w') := by
    have h := vault_Pack.good 50 (fun _ => 1786461766) none 0 [] w hG (Nat.le_refl _) (Kd.C_nil _ _) (by decide +kernel) (by simp) (by simp) (by simp) (by simp) (by simp) ⟨ak_sum, by decide, by decide, by rw [ak_bigL]; exact ak_big⟩
    rw [ak_pack] at h
    exact ⟨h⟩
  have HSU := AsideAk.mk (fun (W : World) => (show Calls Tryd.prog 25 #[.slice (some ⟨W.heap.size, 0, none⟩) 5 5] (W.alloc (.cells #[.int .u8 83, .int .u8 75, .int .u8 66, .int .u8 86, .int .u8 0] 5 (5, 6))) _ from sackbutref04_Sum.calls 50 (some ⟨W.heap.size, 0, none⟩) 5 [83, 75, 66, 86, 0] _ _ (lit_row W [83, 75, 66, 86, 0] (5, 6) (by simp)) (Nat.le_refl _) ak_ref))
  have kc := fun (w : World) (C : Array Value) (n c : Nat) => Lib.run_convert_bytes_const (P := Tryd.prog) w 22 5 C n c Tryd.underlying22 Tryd.underlying5
  have kd := fun (W : World) => (show (convert 22 9 (.slice (some ⟨W.heap.size, 0, none⟩) 4 4)).run Tryd.prog (W.alloc (.cells #[.int .u8 106, .int .u8 123, .int .u8 62, .int .u8 70] 5)) = _ from Kd.C_string (P := Tryd.prog) (c := 4) Tryd.underlying22 Tryd.underlying5 Tryd.underlying9 (lit_row W [106, 123, 62, 70] (0, 0) (by simp)))
  have hq := ak_eq
  clear hG
  go_enter Tryd.func8, Tryd.ntmps8
  go_upto_region 3 with (first | (go_at_call 15; (with_reducible refine HPK.out.mono ?_); rintro e w1 ⟨v1, rfl, ho, hb⟩; have HO1 := AsideAk.mk ho; have HB1 := AsideAk.mk hb; clear ho hb) | (go_at_call 25; (with_reducible refine (HSU.out _).mono ?_); rintro e w2 ⟨rfl, hd⟩; have HD2 := AsideAk.mk hd.below; clear hd))
  have hB2 := below_step (below_alloc HB1.out _) HD2.out
  have hO2 := Kd.R_below (Kd.R_alloc HO1.out (.cells #[.int .u8 83, .int .u8 75, .int .u8 66, .int .u8 86, .int .u8 0] 5 (5, 6))) HD2.out
  have HB2 := AsideAk.mk hB2
  obtain ⟨A1, c1, e1⟩ := Kd.R_slice hO2
  subst e1
  obtain ⟨_, _, hC2⟩ := Kd.R_reads' hO2
  have hcv : (convert 22 9 (.slice A1 9 c1)).run Tryd.prog w2 = _ := Kd.C_string (P := Tryd.prog) (c := c1) Tryd.underlying22 Tryd.underlying5 Tryd.underlying9 hC2
  clear hB2 hO2 hC2 kc
  go_wp2_with (fail)
  go_ret
  exact ⟨rfl, by repeat (first | exact HB2.out | apply below_alloc)⟩
end Go.Proofs.YtibmccacebhhkaaDoor.HV

namespace Go.Proofs.YtibmccacebhhkaaDoor.HV
open Go.RowKit Go.Proofs.YtibmccacebhhkaaDoorW.PrintWords Go.Proofs.YtibmccacebhhkaaDoorW.PrintLast Go.Proofs.YtibmccacebhhkaaDoorW.PrintMore
attribute [local go_sem] max2_int min2_int max_two min_two max_three min_three max_four min_four   -- for this text's walks alone
set_option linter.unusedVariables false
set_option linter.unusedSimpArgs false

/-! ### sackbutref25_Pack: function 18, by hand -/
structure AsideRp (p : Prop) : Prop where mk :: (out : p)
/-- An item, as the document has it. -/
def toI (x : S49) : S57 := ⟨x.f0, x.f1⟩
theorem toI_get (L : List S49) (i : Nat) (hi : i < L.length) : rd_T57 (L.map toI) (i : Int) = toI (L.getD i z49) := by
  unfold rd_T57
  rw [Int.toNat_natCast, List.getD_eq_getElem?_getD, List.getElem?_map, List.getD_eq_getElem?_getD, List.getElem?_eq_getElem hi]
  rfl
end Go.Proofs.YtibmccacebhhkaaDoor.HV

namespace Go.Proofs.YtibmccacebhhkaaDoor.HV
open Go.RowKit Go.Proofs.YtibmccacebhhkaaDoorW.PrintWords Go.Proofs.YtibmccacebhhkaaDoorW.PrintLast Go.Proofs.YtibmccacebhhkaaDoorW.PrintMore
attribute [local go_sem] max2_int min2_int max_two min_two max_three min_three max_four min_four   -- for this text's walks alone
set_option linter.unusedVariables false
set_option linter.unusedSimpArgs false

/-! ### sackbutref25_Good: function 13, by hand -/
structure AsideRg (p : Prop) : Prop where mk :: (out : p)
set_option maxRecDepth 100000 in
set_option maxHeartbeats 4000000 in
theorem ref_good.gives (K : Nat) (A : Option Addr) (c : Nat) (L : List S49) (w : World) (hR : Kd.C k57 w A L.length (L.map toI)) (hri : ∀ x ∈ L, sackbutref25_Right.f K x.f0 x.f1 = some (rightB x.f0 x.f1.length)) :
    Calls Tryd.prog 13 #[.slice A L.length c] w fun e w' => e = .returned (.bool (goodI L)) ∧ Below w.heap.size w w' := by
  have HR := AsideRg.mk hR
  have HRI := AsideRg.mk hri
  obtain ⟨j, hj⟩ : ∃ j, L.length = j := ⟨_, rfl⟩
  have hjm : j ≤ 9223372036854775807 := by have := hR.2.1; omega
  rw [hj]
  have HLL := AsideRg.mk hj
  have HB0 := AsideRg.mk (Below.refl w.heap.size w)
  clear hR hj hri
  go_enter Tryd.func13, Tryd.ntmps13
  go_wp2_with (fail)
  go_loopw [6] (fun v wr => ∃ i : Nat, i ≤ j ∧ v = .int .i64 i ∧ AsideRg (∀ t, t < i → okI L t = true) ∧ AsideRg (Below w.heap.size w wr)) (fun v _ => j - (intOf v).toNat)
  case atStart => exact ⟨0, Nat.zero_le _, rfl, ⟨fun t h => absurd h (Nat.not_lt_zero _)⟩, HB0⟩
  case round =>
    clear HB0
    obtain ⟨i, hi, rfl, HA, HB⟩ := hrel
    by_cases hlt : i < j
    · have hC := Kd.C_below HR.out HB.out
      rw [HLL.out] at hC
      obtain ⟨ad, A1, c1, e, hx0, hx1, hlc, hCx⟩ := at_T57 hC (i : Int) (by omega) (by omega)
      subst e
      rw [toI_get L i (by rw [HLL.out]; exact hlt), Int.toNat_natCast] at hx0 hx1
      rw [toI_get L i (by rw [HLL.out]; exact hlt)] at hlc hCx
      change wr.cell? (ad.add (i * 2)) = some (.string (L.getD i z49).f0) at hx0
      change wr.cell? ⟨(ad.add (i * 2)).block, (ad.add (i * 2)).off + 1, none⟩ = some (.slice A1 (L.getD i z49).f1.length c1) at hx1
      change (L.getD i z49).f1.length ≤ c1 at hlc
      change Kd.C (Kd.int .u8) wr A1 (L.getD i z49).f1.length (L.getD i z49).f1 at hCx
      have hmem : L.getD i z49 ∈ L := by rw [List.getD_eq_getElem?_getD, List.getElem?_eq_getElem (by rw [HLL.out]; exact hlt)]; exact List.getElem_mem _
      have hok : okI L i = (rightB (L.getD i z49).f0 (L.getD i z49).f1.length && (decide (i = 0) || Op.bytesLess (L.getD (i - 1) z49).f0.toList (L.getD i z49).f0.toList)) := rfl
      have hri := HRI.out _ hmem
      have HRIG := AsideRg.mk (fun (W : World) (hW : Below wr.heap.size wr W) => sackbutref25_Right.calls K (L.getD i z49).f0 A1 c1 (L.getD i z49).f1 _ W (Kd.C_below hCx hW) hlc hri)
      generalize (L.getD i z49).f0 = xx at *
      generalize (L.getD i z49).f1 = xs at *
      obtain ⟨nx, hnx⟩ : ∃ nx, xs.length = nx := ⟨_, rfl⟩
      rw [hnx] at hx1 hok HRIG
      have i0 : (0 : Int) ≤ (i : Int) := by omega
      have i1 : (i : Int) < (j : Int) := by omega
      have hx0d := pw_cell_below (below_drew (Below.refl wr.heap.size wr)) hx0
      have hx1d := pw_cell_below (below_drew (Below.refl wr.heap.size wr)) hx1
      have HBd := AsideRg.mk (below_drew (Below.refl wr.heap.size wr))
      clear hri hmem hC hlc hCx hnx
      go_upto_region 4 with (fail)
      clear hx0 hx1
      cases hn : rightB xx nx with
      | false =>
        rw [hn] at HRIG hok
        have HOK := AsideRg.mk hok
        clear hn hok
        refine start_ (n := 24) (S := fun w' => w'.cell? (ad.add (i * 2)) = some (.string xx) ∧ w'.cell? ⟨(ad.add (i * 2)).block, (ad.add (i * 2)).off + 1, none⟩ = some (.slice A1 nx c1) ∧ AsideRg (Below wr.heap.size wr w')) (ds := []) #[false, false, false, false, false, false, false, false, false, false, false, false, false, false, false, false, false, false, false, false, false, false, false, false] (by kernel_rfl) rfl rfl ⟨hx0d, hx1d, HBd⟩ (fun hHeld => ?_)
        refine pure_ (i := 0) (N := some 9) (v := ?_) (a' := ?_) #[true, false, false, false, false, false, false, false, false, false, false, false, false, false, false, false, false, false, false, false, false, false, false, false] rfl rfl (by kernel_rfl) (fun _ _ _ h => h) (Or.inl ⟨by rfl, ?_⟩) ?_ ?_
        rotate_left
        · intro w'
          go_simp
          with_reducible rfl
        rotate_left
        · simp only [Act.put, List.setIfInBounds_toArray, List.set_cons_zero, List.set_cons_succ, i64_w, i32_w]
          rfl
        refine pure_ (i := 1) (N := some 10) (v := ?_) (a' := ?_) #[true, true, false, false, false, false, false, false, false, false, false, false, false, false, false, false, false, false, false, false, false, false, false, false] rfl rfl (by kernel_rfl) (fun _ _ _ h => h) (Or.inl ⟨by rfl, ?_⟩) ?_ ?_
        rotate_left
        · intro w'
          go_simp
          with_reducible rfl
        rotate_left
        · simp only [Act.put, List.setIfInBounds_toArray, List.set_cons_zero, List.set_cons_succ, i64_w, i32_w]
          rfl
        refine pure_ (i := 2) (N := some 11) (v := ?_) (a' := ?_) #[true, true, true, false, false, false, false, false, false, false, false, false, false, false, false, false, false, false, false, false, false, false, false, false] rfl rfl (by kernel_rfl) (fun _ _ _ h => h) (Or.inl ⟨by rfl, ?_⟩) ?_ ?_
        rotate_left
        · intro w'
          go_simp
          with_reducible rfl
        rotate_left
        · simp only [Act.put, List.setIfInBounds_toArray, List.set_cons_zero, List.set_cons_succ, i64_w, i32_w]
          rfl
        refine take_ (i := 3) (N := some 12) (v := ?_) (a' := ?_) #[true, true, true, true, false, false, false, false, false, false, false, false, false, false, false, false, false, false, false, false, false, false, false, false] rfl rfl (by kernel_rfl) (fun _ _ _ h => h) (Or.inl ⟨by rfl, ?_⟩) hHeld ?_ ?_
        rotate_left
        · rintro w' ⟨s0, s1, s2⟩
          go_simp
          with_reducible rfl
        rotate_left
        · simp only [Act.put, List.setIfInBounds_toArray, List.set_cons_zero, List.set_cons_succ, i64_w, i32_w]
          rfl
        refine one_ (i := 4) (N := some 13) #[true, true, true, true, true, false, false, false, false, false, false, false, false, false, false, false, false, false, false, false, false, false, false, false] rfl rfl (by kernel_rfl) (by decide) (fun K hK => ?_)
        refine goes_ Tryd.func24 (by kernel_rfl) rfl #[.agg #[.string xx, .slice A1 nx c1]] (by rfl) rfl rfl (by simp only [List.map_toArray, List.map_cons, List.map_nil]; rfl) ?_
        with_reducible refine (HRIG.out _ hHeld.2.2.out).mono ?_
        rintro e w19 ⟨rfl, hb⟩
        refine ⟨_, rfl, ?_⟩
        refine hK.out _ _ ⟨pw_cell_below hb hHeld.1, pw_cell_below hb hHeld.2.1, ⟨below_step hHeld.2.2.out hb⟩⟩ (fun hHeld => ?_)
        clear hK K
        refine norm_ (a' := ?_) ?_ ?_
        rotate_left
        · show Act.put _ (some 13) _ = _
          simp only [Act.put, List.setIfInBounds_toArray, List.set_cons_zero, List.set_cons_succ, i64_w, i32_w]
          rfl
        refine pure_ (i := 5) (N := some 14) (v := ?_) (a' := ?_) #[true, true, true, true, true, true, false, false, false, false, false, false, false, false, false, false, false, false, false, false, false, false, false, false] rfl rfl (by kernel_rfl) (fun _ _ _ h => h) (Or.inl ⟨by rfl, ?_⟩) ?_ ?_
        rotate_left
        · intro w'
          go_simp
          with_reducible rfl
        rotate_left
        · simp only [Act.put, List.setIfInBounds_toArray, List.set_cons_zero, List.set_cons_succ, i64_w, i32_w]
          rfl
        refine pure_ (i := 6) (N := some 15) (v := ?_) (a' := ?_) #[true, true, true, true, true, true, true, false, false, false, false, false, false, false, false, false, false, false, false, false, false, false, false, false] rfl rfl (by kernel_rfl) (fun _ _ _ h => h) (Or.inl ⟨by rfl, ?_⟩) ?_ ?_
        rotate_left
        · intro w'
          go_simp
          with_reducible rfl
        rotate_left
        · simp only [Act.put, List.setIfInBounds_toArray, List.set_cons_zero, List.set_cons_succ, i64_w, i32_w]
          rfl
        refine pure_ (i := 7) (N := some 16) (v := undef) (a' := ?_) #[true, true, true, true, true, true, true, true, false, false, false, false, false, false, false, false, false, false, false, false, false, false, false, false] rfl rfl (by kernel_rfl) (fun _ _ _ h => h) (Or.inr ⟨by rfl, rfl⟩) ?_ ?_
        rotate_left
        · simp only [Act.put, List.setIfInBounds_toArray, List.set_cons_zero, List.set_cons_succ, i64_w, i32_w]
          rfl
        refine pure_ (i := 8) (N := some 17) (v := undef) (a' := ?_) #[true, true, true, true, true, true, true, true, true, false, false, false, false, false, false, false, false, false, false, false, false, false, false, false] rfl rfl (by kernel_rfl) (fun _ _ _ h => h) (Or.inr ⟨by rfl, rfl⟩) ?_ ?_
        rotate_left
        · simp only [Act.put, List.setIfInBounds_toArray, List.set_cons_zero, List.set_cons_succ, i64_w, i32_w]
          rfl
        refine pure_ (i := 9) (N := some 18) (v := undef) (a' := ?_) #[true, true, true, true, true, true, true, true, true, true, false, false, false, false, false, false, false, false, false, false, false, false, false, false] rfl rfl (by kernel_rfl) (fun _ _ _ h => h) (Or.inr ⟨by rfl, rfl⟩) ?_ ?_
        rotate_left
        · simp only [Act.put, List.setIfInBounds_toArray, List.set_cons_zero, List.set_cons_succ, i64_w, i32_w]
          rfl
        refine pure_ (i := 10) (N := some 19) (v := undef) (a' := ?_) #[true, true, true, true, true, true, true, true, true, true, true, false, false, false, false, false, false, false, false, false, false, false, false, false] rfl rfl (by kernel_rfl) (fun _ _ _ h => h) (Or.inr ⟨by rfl, rfl⟩) ?_ ?_
        rotate_left
        · simp only [Act.put, List.setIfInBounds_toArray, List.set_cons_zero, List.set_cons_succ, i64_w, i32_w]
          rfl
        refine pure_ (i := 11) (N := some 20) (v := undef) (a' := ?_) #[true, true, true, true, true, true, true, true, true, true, true, true, false, false, false, false, false, false, false, false, false, false, false, false] rfl rfl (by kernel_rfl) (fun _ _ _ h => h) (Or.inr ⟨by rfl, rfl⟩) ?_ ?_
        rotate_left
        · simp only [Act.put, List.setIfInBounds_toArray, List.set_cons_zero, List.set_cons_succ, i64_w, i32_w]
          rfl
        refine pure_ (i := 12) (N := some 21) (v := undef) (a' := ?_) #[true, true, true, true, true, true, true, true, true, true, true, true, true, false, false, false, false, false, false, false, false, false, false, false] rfl rfl (by kernel_rfl) (fun _ _ _ h => h) (Or.inr ⟨by rfl, rfl⟩) ?_ ?_
        rotate_left
        · simp only [Act.put, List.setIfInBounds_toArray, List.set_cons_zero, List.set_cons_succ, i64_w, i32_w]
          rfl
        refine pure_ (i := 13) (N := some 22) (v := undef) (a' := ?_) #[true, true, true, true, true, true, true, true, true, true, true, true, true, true, false, false, false, false, false, false, false, false, false, false] rfl rfl (by kernel_rfl) (fun _ _ _ h => h) (Or.inr ⟨by rfl, rfl⟩) ?_ ?_
        rotate_left
        · simp only [Act.put, List.setIfInBounds_toArray, List.set_cons_zero, List.set_cons_succ, i64_w, i32_w]
          rfl
        refine pure_ (i := 14) (N := some 23) (v := undef) (a' := ?_) #[true, true, true, true, true, true, true, true, true, true, true, true, true, true, true, false, false, false, false, false, false, false, false, false] rfl rfl (by kernel_rfl) (fun _ _ _ h => h) (Or.inr ⟨by rfl, rfl⟩) ?_ ?_
        rotate_left
        · simp only [Act.put, List.setIfInBounds_toArray, List.set_cons_zero, List.set_cons_succ, i64_w, i32_w]
          rfl
        refine pure_ (i := 15) (N := some 24) (v := undef) (a' := ?_) #[true, true, true, true, true, true, true, true, true, true, true, true, true, true, true, true, false, false, false, false, false, false, false, false] rfl rfl (by kernel_rfl) (fun _ _ _ h => h) (Or.inr ⟨by rfl, rfl⟩) ?_ ?_
        rotate_left
        · simp only [Act.put, List.setIfInBounds_toArray, List.set_cons_zero, List.set_cons_succ, i64_w, i32_w]
          rfl
        refine pure_ (i := 16) (N := some 25) (v := undef) (a' := ?_) #[true, true, true, true, true, true, true, true, true, true, true, true, true, true, true, true, true, false, false, false, false, false, false, false] rfl rfl (by kernel_rfl) (fun _ _ _ h => h) (Or.inr ⟨by rfl, rfl⟩) ?_ ?_
        rotate_left
        · simp only [Act.put, List.setIfInBounds_toArray, List.set_cons_zero, List.set_cons_succ, i64_w, i32_w]
          rfl
        refine pure_ (i := 17) (N := some 26) (v := undef) (a' := ?_) #[true, true, true, true, true, true, true, true, true, true, true, true, true, true, true, true, true, true, false, false, false, false, false, false] rfl rfl (by kernel_rfl) (fun _ _ _ h => h) (Or.inr ⟨by rfl, rfl⟩) ?_ ?_
        rotate_left
        · simp only [Act.put, List.setIfInBounds_toArray, List.set_cons_zero, List.set_cons_succ, i64_w, i32_w]
          rfl
        refine pure_ (i := 18) (N := some 27) (v := undef) (a' := ?_) #[true, true, true, true, true, true, true, true, true, true, true, true, true, true, true, true, true, true, true, false, false, false, false, false] rfl rfl (by kernel_rfl) (fun _ _ _ h => h) (Or.inr ⟨by rfl, rfl⟩) ?_ ?_
        rotate_left
        · simp only [Act.put, List.setIfInBounds_toArray, List.set_cons_zero, List.set_cons_succ, i64_w, i32_w]
          rfl
        refine pure_ (i := 19) (N := some 28) (v := undef) (a' := ?_) #[true, true, true, true, true, true, true, true, true, true, true, true, true, true, true, true, true, true, true, true, false, false, false, false] rfl rfl (by kernel_rfl) (fun _ _ _ h => h) (Or.inr ⟨by rfl, rfl⟩) ?_ ?_
        rotate_left
        · simp only [Act.put, List.setIfInBounds_toArray, List.set_cons_zero, List.set_cons_succ, i64_w, i32_w]
          rfl
        refine pure_ (i := 20) (N := some 29) (v := undef) (a' := ?_) #[true, true, true, true, true, true, true, true, true, true, true, true, true, true, true, true, true, true, true, true, true, false, false, false] rfl rfl (by kernel_rfl) (fun _ _ _ h => h) (Or.inr ⟨by rfl, rfl⟩) ?_ ?_
        rotate_left
        · simp only [Act.put, List.setIfInBounds_toArray, List.set_cons_zero, List.set_cons_succ, i64_w, i32_w]
          rfl
        refine pure_ (i := 21) (N := some 30) (v := undef) (a' := ?_) #[true, true, true, true, true, true, true, true, true, true, true, true, true, true, true, true, true, true, true, true, true, true, false, false] rfl rfl (by kernel_rfl) (fun _ _ _ h => h) (Or.inr ⟨by rfl, rfl⟩) ?_ ?_
        rotate_left
        · simp only [Act.put, List.setIfInBounds_toArray, List.set_cons_zero, List.set_cons_succ, i64_w, i32_w]
          rfl
        refine pure_ (i := 22) (N := some 31) (v := undef) (a' := ?_) #[true, true, true, true, true, true, true, true, true, true, true, true, true, true, true, true, true, true, true, true, true, true, true, false] rfl rfl (by kernel_rfl) (fun _ _ _ h => h) (Or.inr ⟨by rfl, rfl⟩) ?_ ?_
        rotate_left
        · simp only [Act.put, List.setIfInBounds_toArray, List.set_cons_zero, List.set_cons_succ, i64_w, i32_w]
          rfl
        refine pure_ (i := 23) (N := some 32) (v := ?_) (a' := ?_) #[true, true, true, true, true, true, true, true, true, true, true, true, true, true, true, true, true, true, true, true, true, true, true, true] rfl rfl (by kernel_rfl) (fun _ _ _ h => h) (Or.inl ⟨by rfl, ?_⟩) ?_ ?_
        rotate_left
        · intro w'
          go_simp
          with_reducible rfl
        rotate_left
        · simp only [Act.put, List.setIfInBounds_toArray, List.set_cons_zero, List.set_cons_succ, i64_w, i32_w]
          rfl
        refine done_ (by kernel_rfl) ?_
        go_wp2_with (fail)
        go_ret
        rw [goodI_false (i := i) (by rw [HLL.out]; exact hlt) (by rw [HOK.out]; simp)]
        exact ⟨rfl, below_step HB.out hHeld.2.2.out⟩
      | true =>
        rw [hn] at HRIG hok
        clear hn
        rcases Nat.eq_zero_or_pos i with h0 | h0
        · have c0 : decide (0 < (i : Int)) = false := decide_eq_false (by omega)
          have c0n : decide (0 < i) = false := decide_eq_false (by omega)
          have c0m : ¬ (0 : Int) < (i : Int) := by omega
          rw [decide_eq_true h0] at hok
          clear h0
          have HOK := AsideRg.mk hok
          clear hok
          refine start_ (n := 24) (S := fun w' => w'.cell? (ad.add (i * 2)) = some (.string xx) ∧ w'.cell? ⟨(ad.add (i * 2)).block, (ad.add (i * 2)).off + 1, none⟩ = some (.slice A1 nx c1) ∧ AsideRg (Below wr.heap.size wr w')) (ds := []) #[false, false, false, false, false, false, false, false, false, false, false, false, false, false, false, false, false, false, false, false, false, false, false, false] (by kernel_rfl) rfl rfl ⟨hx0d, hx1d, HBd⟩ (fun hHeld => ?_)
          refine pure_ (i := 0) (N := some 9) (v := ?_) (a' := ?_) #[true, false, false, false, false, false, false, false, false, false, false, false, false, false, false, false, false, false, false, false, false, false, false, false] rfl rfl (by kernel_rfl) (fun _ _ _ h => h) (Or.inl ⟨by rfl, ?_⟩) ?_ ?_
          rotate_left
          · intro w'
            go_simp
            with_reducible rfl
          rotate_left
          · simp only [Act.put, List.setIfInBounds_toArray, List.set_cons_zero, List.set_cons_succ, i64_w, i32_w]
            rfl
          refine pure_ (i := 1) (N := some 10) (v := ?_) (a' := ?_) #[true, true, false, false, false, false, false, false, false, false, false, false, false, false, false, false, false, false, false, false, false, false, false, false] rfl rfl (by kernel_rfl) (fun _ _ _ h => h) (Or.inl ⟨by rfl, ?_⟩) ?_ ?_
          rotate_left
          · intro w'
            go_simp
            with_reducible rfl
          rotate_left
          · simp only [Act.put, List.setIfInBounds_toArray, List.set_cons_zero, List.set_cons_succ, i64_w, i32_w]
            rfl
          refine pure_ (i := 2) (N := some 11) (v := ?_) (a' := ?_) #[true, true, true, false, false, false, false, false, false, false, false, false, false, false, false, false, false, false, false, false, false, false, false, false] rfl rfl (by kernel_rfl) (fun _ _ _ h => h) (Or.inl ⟨by rfl, ?_⟩) ?_ ?_
          rotate_left
          · intro w'
            go_simp
            with_reducible rfl
          rotate_left
          · simp only [Act.put, List.setIfInBounds_toArray, List.set_cons_zero, List.set_cons_succ, i64_w, i32_w]
            rfl
          refine take_ (i := 3) (N := some 12) (v := ?_) (a' := ?_) #[true, true, true, true, false, false, false, false, false, false, false, false, false, false, false, false, false, false, false, false, false, false, false, false] rfl rfl (by kernel_rfl) (fun _ _ _ h => h) (Or.inl ⟨by rfl, ?_⟩) hHeld ?_ ?_
          rotate_left
          · rintro w' ⟨s0, s1, s2⟩
            go_simp
            with_reducible rfl
          rotate_left
          · simp only [Act.put, List.setIfInBounds_toArray, List.set_cons_zero, List.set_cons_succ, i64_w, i32_w]
            rfl
          refine one_ (i := 4) (N := some 13) #[true, true, true, true, true, false, false, false, false, false, false, false, false, false, false, false, false, false, false, false, false, false, false, false] rfl rfl (by kernel_rfl) (by decide) (fun K hK => ?_)
          refine goes_ Tryd.func24 (by kernel_rfl) rfl #[.agg #[.string xx, .slice A1 nx c1]] (by rfl) rfl rfl (by simp only [List.map_toArray, List.map_cons, List.map_nil]; rfl) ?_
          with_reducible refine (HRIG.out _ hHeld.2.2.out).mono ?_
          rintro e w19 ⟨rfl, hb⟩
          refine ⟨_, rfl, ?_⟩
          refine hK.out _ _ ⟨pw_cell_below hb hHeld.1, pw_cell_below hb hHeld.2.1, ⟨below_step hHeld.2.2.out hb⟩⟩ (fun hHeld => ?_)
          clear hK K
          refine norm_ (a' := ?_) ?_ ?_
          rotate_left
          · show Act.put _ (some 13) _ = _
            simp only [Act.put, List.setIfInBounds_toArray, List.set_cons_zero, List.set_cons_succ, i64_w, i32_w]
            rfl
          refine pure_ (i := 5) (N := some 14) (v := ?_) (a' := ?_) #[true, true, true, true, true, true, false, false, false, false, false, false, false, false, false, false, false, false, false, false, false, false, false, false] rfl rfl (by kernel_rfl) (fun _ _ _ h => h) (Or.inl ⟨by rfl, ?_⟩) ?_ ?_
          rotate_left
          · intro w'
            go_simp
            with_reducible rfl
          rotate_left
          · simp only [Act.put, List.setIfInBounds_toArray, List.set_cons_zero, List.set_cons_succ, i64_w, i32_w]
            rfl
          refine pure_ (i := 6) (N := some 15) (v := ?_) (a' := ?_) #[true, true, true, true, true, true, true, false, false, false, false, false, false, false, false, false, false, false, false, false, false, false, false, false] rfl rfl (by kernel_rfl) (fun _ _ _ h => h) (Or.inl ⟨by rfl, ?_⟩) ?_ ?_
          rotate_left
          · intro w'
            go_simp
            with_reducible rfl
          rotate_left
          · simp only [Act.put, List.setIfInBounds_toArray, List.set_cons_zero, List.set_cons_succ, i64_w, i32_w]
            rfl
          refine pure_ (i := 7) (N := some 16) (v := ?_) (a' := ?_) #[true, true, true, true, true, true, true, true, false, false, false, false, false, false, false, false, false, false, false, false, false, false, false, false] rfl rfl (by kernel_rfl) (fun _ _ _ h => h) (Or.inl ⟨by rfl, ?_⟩) ?_ ?_
          rotate_left
          · intro w'
            go_simp
            with_reducible rfl
          rotate_left
          · simp only [Act.put, List.setIfInBounds_toArray, List.set_cons_zero, List.set_cons_succ, i64_w, i32_w]
            rfl
          refine pure_ (i := 8) (N := some 17) (v := ?_) (a' := ?_) #[true, true, true, true, true, true, true, true, true, false, false, false, false, false, false, false, false, false, false, false, false, false, false, false] rfl rfl (by kernel_rfl) (fun _ _ _ h => h) (Or.inl ⟨by rfl, ?_⟩) ?_ ?_
          rotate_left
          · intro w'
            go_simp
            with_reducible rfl
          rotate_left
          · simp only [Act.put, List.setIfInBounds_toArray, List.set_cons_zero, List.set_cons_succ, i64_w, i32_w]
            rfl
          refine pure_ (i := 9) (N := some 18) (v := ?_) (a' := ?_) #[true, true, true, true, true, true, true, true, true, true, false, false, false, false, false, false, false, false, false, false, false, false, false, false] rfl rfl (by kernel_rfl) (fun _ _ _ h => h) (Or.inl ⟨by rfl, ?_⟩) ?_ ?_
          rotate_left
          · intro w'
            go_simp
            with_reducible rfl
          rotate_left
          · simp only [Act.put, List.setIfInBounds_toArray, List.set_cons_zero, List.set_cons_succ, i64_w, i32_w]
            rfl
          refine pure_ (i := 10) (N := some 19) (v := undef) (a' := ?_) #[true, true, true, true, true, true, true, true, true, true, true, false, false, false, false, false, false, false, false, false, false, false, false, false] rfl rfl (by kernel_rfl) (fun _ _ _ h => h) (Or.inr ⟨by rfl, rfl⟩) ?_ ?_
          rotate_left
          · simp only [Act.put, List.setIfInBounds_toArray, List.set_cons_zero, List.set_cons_succ, i64_w, i32_w]
            rfl
          refine pure_ (i := 11) (N := some 20) (v := undef) (a' := ?_) #[true, true, true, true, true, true, true, true, true, true, true, true, false, false, false, false, false, false, false, false, false, false, false, false] rfl rfl (by kernel_rfl) (fun _ _ _ h => h) (Or.inr ⟨by rfl, rfl⟩) ?_ ?_
          rotate_left
          · simp only [Act.put, List.setIfInBounds_toArray, List.set_cons_zero, List.set_cons_succ, i64_w, i32_w]
            rfl
          refine pure_ (i := 12) (N := some 21) (v := undef) (a' := ?_) #[true, true, true, true, true, true, true, true, true, true, true, true, true, false, false, false, false, false, false, false, false, false, false, false] rfl rfl (by kernel_rfl) (fun _ _ _ h => h) (Or.inr ⟨by rfl, rfl⟩) ?_ ?_
          rotate_left
          · simp only [Act.put, List.setIfInBounds_toArray, List.set_cons_zero, List.set_cons_succ, i64_w, i32_w]
            rfl
          refine pure_ (i := 13) (N := some 22) (v := undef) (a' := ?_) #[true, true, true, true, true, true, true, true, true, true, true, true, true, true, false, false, false, false, false, false, false, false, false, false] rfl rfl (by kernel_rfl) (fun _ _ _ h => h) (Or.inr ⟨by rfl, rfl⟩) ?_ ?_
          rotate_left
          · simp only [Act.put, List.setIfInBounds_toArray, List.set_cons_zero, List.set_cons_succ, i64_w, i32_w]
            rfl
          refine pure_ (i := 14) (N := some 23) (v := undef) (a' := ?_) #[true, true, true, true, true, true, true, true, true, true, true, true, true, true, true, false, false, false, false, false, false, false, false, false] rfl rfl (by kernel_rfl) (fun _ _ _ h => h) (Or.inr ⟨by rfl, rfl⟩) ?_ ?_
          rotate_left
          · simp only [Act.put, List.setIfInBounds_toArray, List.set_cons_zero, List.set_cons_succ, i64_w, i32_w]
            rfl
          refine pure_ (i := 15) (N := some 24) (v := undef) (a' := ?_) #[true, true, true, true, true, true, true, true, true, true, true, true, true, true, true, true, false, false, false, false, false, false, false, false] rfl rfl (by kernel_rfl) (fun _ _ _ h => h) (Or.inr ⟨by rfl, rfl⟩) ?_ ?_
          rotate_left
          · simp only [Act.put, List.setIfInBounds_toArray, List.set_cons_zero, List.set_cons_succ, i64_w, i32_w]
            rfl
          refine pure_ (i := 16) (N := some 25) (v := undef) (a' := ?_) #[true, true, true, true, true, true, true, true, true, true, true, true, true, true, true, true, true, false, false, false, false, false, false, false] rfl rfl (by kernel_rfl) (fun _ _ _ h => h) (Or.inr ⟨by rfl, rfl⟩) ?_ ?_
          rotate_left
          · simp only [Act.put, List.setIfInBounds_toArray, List.set_cons_zero, List.set_cons_succ, i64_w, i32_w]
            rfl
          refine pure_ (i := 17) (N := some 26) (v := undef) (a' := ?_) #[true, true, true, true, true, true, true, true, true, true, true, true, true, true, true, true, true, true, false, false, false, false, false, false] rfl rfl (by kernel_rfl) (fun _ _ _ h => h) (Or.inr ⟨by rfl, rfl⟩) ?_ ?_
          rotate_left
          · simp only [Act.put, List.setIfInBounds_toArray, List.set_cons_zero, List.set_cons_succ, i64_w, i32_w]
            rfl
          refine pure_ (i := 18) (N := some 27) (v := undef) (a' := ?_) #[true, true, true, true, true, true, true, true, true, true, true, true, true, true, true, true, true, true, true, false, false, false, false, false] rfl rfl (by kernel_rfl) (fun _ _ _ h => h) (Or.inr ⟨by rfl, rfl⟩) ?_ ?_
          rotate_left
          · simp only [Act.put, List.setIfInBounds_toArray, List.set_cons_zero, List.set_cons_succ, i64_w, i32_w]
            rfl
          refine pure_ (i := 19) (N := some 28) (v := undef) (a' := ?_) #[true, true, true, true, true, true, true, true, true, true, true, true, true, true, true, true, true, true, true, true, false, false, false, false] rfl rfl (by kernel_rfl) (fun _ _ _ h => h) (Or.inr ⟨by rfl, rfl⟩) ?_ ?_
          rotate_left
          · simp only [Act.put, List.setIfInBounds_toArray, List.set_cons_zero, List.set_cons_succ, i64_w, i32_w]
            rfl
          refine pure_ (i := 20) (N := some 29) (v := undef) (a' := ?_) #[true, true, true, true, true, true, true, true, true, true, true, true, true, true, true, true, true, true, true, true, true, false, false, false] rfl rfl (by kernel_rfl) (fun _ _ _ h => h) (Or.inr ⟨by rfl, rfl⟩) ?_ ?_
          rotate_left
          · simp only [Act.put, List.setIfInBounds_toArray, List.set_cons_zero, List.set_cons_succ, i64_w, i32_w]
            rfl
          refine pure_ (i := 21) (N := some 30) (v := undef) (a' := ?_) #[true, true, true, true, true, true, true, true, true, true, true, true, true, true, true, true, true, true, true, true, true, true, false, false] rfl rfl (by kernel_rfl) (fun _ _ _ h => h) (Or.inr ⟨by rfl, rfl⟩) ?_ ?_
          rotate_left
          · simp only [Act.put, List.setIfInBounds_toArray, List.set_cons_zero, List.set_cons_succ, i64_w, i32_w]
            rfl
          refine pure_ (i := 22) (N := some 31) (v := ?_) (a' := ?_) #[true, true, true, true, true, true, true, true, true, true, true, true, true, true, true, true, true, true, true, true, true, true, true, false] rfl rfl (by kernel_rfl) (fun _ _ _ h => h) (Or.inl ⟨by rfl, ?_⟩) ?_ ?_
          rotate_left
          · intro w'
            go_simp
            with_reducible rfl
          rotate_left
          · simp only [Act.put, List.setIfInBounds_toArray, List.set_cons_zero, List.set_cons_succ, i64_w, i32_w]
            rfl
          refine pure_ (i := 23) (N := some 32) (v := ?_) (a' := ?_) #[true, true, true, true, true, true, true, true, true, true, true, true, true, true, true, true, true, true, true, true, true, true, true, true] rfl rfl (by kernel_rfl) (fun _ _ _ h => h) (Or.inl ⟨by rfl, ?_⟩) ?_ ?_
          rotate_left
          · intro w'
            go_simp
            with_reducible rfl
          rotate_left
          · simp only [Act.put, List.setIfInBounds_toArray, List.set_cons_zero, List.set_cons_succ, i64_w, i32_w]
            rfl
          refine done_ (by kernel_rfl) ?_
          go_wp2_with (fail)
          go_roundw
          case rel => exact ⟨i + 1, by omega, by go_num, ⟨goI_all HA.out (by rw [HOK.out]; simp)⟩, ⟨below_step HB.out hHeld.2.2.out⟩⟩
          case measure => simp [intOf]; omega
        · have hz : wrap64 ((i : Int) - 1) = ((i - 1 : Nat) : Int) := by unfold wrap64; omega
          obtain ⟨z, hzz⟩ : ∃ z : Int, ((i - 1 : Nat) : Int) = z := ⟨_, rfl⟩
          rw [hzz] at hz
          have hzw : IntKind.i64.wrap ((i : Int) - 1) = z := (i64_w _).trans hz
          have p0 : 0 ≤ z := by omega
          have q0 : z < (j : Int) := by omega
          have c0 : decide (0 < (i : Int)) = true := decide_eq_true (by omega)
          have c0n : decide (0 < i) = true := decide_eq_true h0
          have hC := Kd.C_below HR.out (below_step HB.out HBd.out)
          rw [HLL.out] at hC
          obtain ⟨ad', A2, c2, e', hy0, _, _, _⟩ := at_T57 hC z p0 (by omega)
          obtain rfl : ad = ad' := by injection e'
          have hrd : rd_T57 (L.map toI) z = toI (L.getD (i - 1) z49) := by rw [← hzz]; exact toI_get L (i - 1) (by rw [HLL.out]; omega)
          rw [hrd] at hy0
          change _ = some (Value.string (L.getD (i - 1) z49).f0) at hy0
          generalize (L.getD (i - 1) z49).f0 = yy at hok hy0
          have HI := AsideRg.mk h0
          have p1 := eq_true p0
          have q4 := eq_true q0
          clear hC e' hrd h0 p0 q0 hzz
          cases hl : Op.bytesLess yy.toList xx.toList with
          | false =>
            rw [hl, decide_eq_false (by have := HI.out; omega)] at hok
            have HOK := AsideRg.mk hok
            clear hok
            refine start_ (n := 24) (S := fun w' => w'.cell? (ad.add (i * 2)) = some (.string xx) ∧ w'.cell? ⟨(ad.add (i * 2)).block, (ad.add (i * 2)).off + 1, none⟩ = some (.slice A1 nx c1) ∧ w'.cell? (ad.add (z.toNat * 2)) = some (.string yy) ∧ AsideRg (Below wr.heap.size wr w')) (ds := []) #[false, false, false, false, false, false, false, false, false, false, false, false, false, false, false, false, false, false, false, false, false, false, false, false] (by kernel_rfl) rfl rfl ⟨hx0d, hx1d, hy0, HBd⟩ (fun hHeld => ?_)
            refine pure_ (i := 0) (N := some 9) (v := ?_) (a' := ?_) #[true, false, false, false, false, false, false, false, false, false, false, false, false, false, false, false, false, false, false, false, false, false, false, false] rfl rfl (by kernel_rfl) (fun _ _ _ h => h) (Or.inl ⟨by rfl, ?_⟩) ?_ ?_
            rotate_left
            · intro w'
              go_simp
              with_reducible rfl
            rotate_left
            · simp only [Act.put, List.setIfInBounds_toArray, List.set_cons_zero, List.set_cons_succ, i64_w, i32_w]
              rfl
            refine pure_ (i := 1) (N := some 10) (v := ?_) (a' := ?_) #[true, true, false, false, false, false, false, false, false, false, false, false, false, false, false, false, false, false, false, false, false, false, false, false] rfl rfl (by kernel_rfl) (fun _ _ _ h => h) (Or.inl ⟨by rfl, ?_⟩) ?_ ?_
            rotate_left
            · intro w'
              go_simp
              with_reducible rfl
            rotate_left
            · simp only [Act.put, List.setIfInBounds_toArray, List.set_cons_zero, List.set_cons_succ, i64_w, i32_w]
              rfl
            refine pure_ (i := 2) (N := some 11) (v := ?_) (a' := ?_) #[true, true, true, false, false, false, false, false, false, false, false, false, false, false, false, false, false, false, false, false, false, false, false, false] rfl rfl (by kernel_rfl) (fun _ _ _ h => h) (Or.inl ⟨by rfl, ?_⟩) ?_ ?_
            rotate_left
            · intro w'
              go_simp
              with_reducible rfl
            rotate_left
            · simp only [Act.put, List.setIfInBounds_toArray, List.set_cons_zero, List.set_cons_succ, i64_w, i32_w]
              rfl
            refine take_ (i := 3) (N := some 12) (v := ?_) (a' := ?_) #[true, true, true, true, false, false, false, false, false, false, false, false, false, false, false, false, false, false, false, false, false, false, false, false] rfl rfl (by kernel_rfl) (fun _ _ _ h => h) (Or.inl ⟨by rfl, ?_⟩) hHeld ?_ ?_
            rotate_left
            · rintro w' ⟨s0, s1, s2, s3⟩
              go_simp
              with_reducible rfl
            rotate_left
            · simp only [Act.put, List.setIfInBounds_toArray, List.set_cons_zero, List.set_cons_succ, i64_w, i32_w]
              rfl
            refine one_ (i := 4) (N := some 13) #[true, true, true, true, true, false, false, false, false, false, false, false, false, false, false, false, false, false, false, false, false, false, false, false] rfl rfl (by kernel_rfl) (by decide) (fun K hK => ?_)
            refine goes_ Tryd.func24 (by kernel_rfl) rfl #[.agg #[.string xx, .slice A1 nx c1]] (by rfl) rfl rfl (by simp only [List.map_toArray, List.map_cons, List.map_nil]; rfl) ?_
            with_reducible refine (HRIG.out _ hHeld.2.2.2.out).mono ?_
            rintro e w19 ⟨rfl, hb⟩
            refine ⟨_, rfl, ?_⟩
            refine hK.out _ _ ⟨pw_cell_below hb hHeld.1, pw_cell_below hb hHeld.2.1, pw_cell_below hb hHeld.2.2.1, ⟨below_step hHeld.2.2.2.out hb⟩⟩ (fun hHeld => ?_)
            clear hK K
            refine norm_ (a' := ?_) ?_ ?_
            rotate_left
            · show Act.put _ (some 13) _ = _
              simp only [Act.put, List.setIfInBounds_toArray, List.set_cons_zero, List.set_cons_succ, i64_w, i32_w]
              rfl
            refine pure_ (i := 5) (N := some 14) (v := ?_) (a' := ?_) #[true, true, true, true, true, true, false, false, false, false, false, false, false, false, false, false, false, false, false, false, false, false, false, false] rfl rfl (by kernel_rfl) (fun _ _ _ h => h) (Or.inl ⟨by rfl, ?_⟩) ?_ ?_
            rotate_left
            · intro w'
              go_simp
              with_reducible rfl
            rotate_left
            · simp only [Act.put, List.setIfInBounds_toArray, List.set_cons_zero, List.set_cons_succ, i64_w, i32_w]
              rfl
            refine pure_ (i := 6) (N := some 15) (v := ?_) (a' := ?_) #[true, true, true, true, true, true, true, false, false, false, false, false, false, false, false, false, false, false, false, false, false, false, false, false] rfl rfl (by kernel_rfl) (fun _ _ _ h => h) (Or.inl ⟨by rfl, ?_⟩) ?_ ?_
            rotate_left
            · intro w'
              go_simp
              with_reducible rfl
            rotate_left
            · simp only [Act.put, List.setIfInBounds_toArray, List.set_cons_zero, List.set_cons_succ, i64_w, i32_w]
              rfl
            refine pure_ (i := 7) (N := some 16) (v := ?_) (a' := ?_) #[true, true, true, true, true, true, true, true, false, false, false, false, false, false, false, false, false, false, false, false, false, false, false, false] rfl rfl (by kernel_rfl) (fun _ _ _ h => h) (Or.inl ⟨by rfl, ?_⟩) ?_ ?_
            rotate_left
            · intro w'
              go_simp
              with_reducible rfl
            rotate_left
            · simp only [Act.put, List.setIfInBounds_toArray, List.set_cons_zero, List.set_cons_succ, i64_w, i32_w]
              rfl
            refine pure_ (i := 8) (N := some 17) (v := ?_) (a' := ?_) #[true, true, true, true, true, true, true, true, true, false, false, false, false, false, false, false, false, false, false, false, false, false, false, false] rfl rfl (by kernel_rfl) (fun _ _ _ h => h) (Or.inl ⟨by rfl, ?_⟩) ?_ ?_
            rotate_left
            · intro w'
              go_simp
              with_reducible rfl
            rotate_left
            · simp only [Act.put, List.setIfInBounds_toArray, List.set_cons_zero, List.set_cons_succ, i64_w, i32_w]
              rfl
            refine pure_ (i := 9) (N := some 18) (v := ?_) (a' := ?_) #[true, true, true, true, true, true, true, true, true, true, false, false, false, false, false, false, false, false, false, false, false, false, false, false] rfl rfl (by kernel_rfl) (fun _ _ _ h => h) (Or.inl ⟨by rfl, ?_⟩) ?_ ?_
            rotate_left
            · intro w'
              go_simp
              with_reducible rfl
            rotate_left
            · simp only [Act.put, List.setIfInBounds_toArray, List.set_cons_zero, List.set_cons_succ, i64_w, i32_w]
              rfl
            refine pure_ (i := 10) (N := some 19) (v := ?_) (a' := ?_) #[true, true, true, true, true, true, true, true, true, true, true, false, false, false, false, false, false, false, false, false, false, false, false, false] rfl rfl (by kernel_rfl) (fun _ _ _ h => h) (Or.inl ⟨by rfl, ?_⟩) ?_ ?_
            rotate_left
            · intro w'
              go_simp
              with_reducible rfl
            rotate_left
            · simp only [Act.put, List.setIfInBounds_toArray, List.set_cons_zero, List.set_cons_succ, i64_w, i32_w]
              rfl
            refine pure_ (i := 11) (N := some 20) (v := ?_) (a' := ?_) #[true, true, true, true, true, true, true, true, true, true, true, true, false, false, false, false, false, false, false, false, false, false, false, false] rfl rfl (by kernel_rfl) (fun _ _ _ h => h) (Or.inl ⟨by rfl, ?_⟩) ?_ ?_
            rotate_left
            · intro w'
              go_simp
              with_reducible rfl
            rotate_left
            · simp only [Act.put, List.setIfInBounds_toArray, List.set_cons_zero, List.set_cons_succ, i64_w, i32_w]
              rfl
            refine pure_ (i := 12) (N := some 21) (v := ?_) (a' := ?_) #[true, true, true, true, true, true, true, true, true, true, true, true, true, false, false, false, false, false, false, false, false, false, false, false] rfl rfl (by kernel_rfl) (fun _ _ _ h => h) (Or.inl ⟨by rfl, ?_⟩) ?_ ?_
            rotate_left
            · intro w'
              go_simp
              with_reducible rfl
            rotate_left
            · simp only [Act.put, List.setIfInBounds_toArray, List.set_cons_zero, List.set_cons_succ, i64_w, i32_w]
              rfl
            refine pure_ (i := 13) (N := some 22) (v := ?_) (a' := ?_) #[true, true, true, true, true, true, true, true, true, true, true, true, true, true, false, false, false, false, false, false, false, false, false, false] rfl rfl (by kernel_rfl) (fun _ _ _ h => h) (Or.inl ⟨by rfl, ?_⟩) ?_ ?_
            rotate_left
            · intro w'
              go_simp
              with_reducible rfl
            rotate_left
            · simp only [Act.put, List.setIfInBounds_toArray, List.set_cons_zero, List.set_cons_succ, i64_w, i32_w]
              rfl
            refine pure_ (i := 14) (N := some 23) (v := ?_) (a' := ?_) #[true, true, true, true, true, true, true, true, true, true, true, true, true, true, true, false, false, false, false, false, false, false, false, false] rfl rfl (by kernel_rfl) (fun _ _ _ h => h) (Or.inl ⟨by rfl, ?_⟩) ?_ ?_
            rotate_left
            · intro w'
              go_simp
              with_reducible rfl
            rotate_left
            · simp only [Act.put, List.setIfInBounds_toArray, List.set_cons_zero, List.set_cons_succ, i64_w, i32_w]
              rfl
            refine pure_ (i := 16) (N := some 25) (v := ?_) (a' := ?_) #[true, true, true, true, true, true, true, true, true, true, true, true, true, true, true, false, true, false, false, false, false, false, false, false] rfl rfl (by kernel_rfl) (fun _ _ _ h => h) (Or.inl ⟨by rfl, ?_⟩) ?_ ?_
            rotate_left
            · intro w'
              go_simp
              with_reducible rfl
            rotate_left
            · simp only [Act.put, List.setIfInBounds_toArray, List.set_cons_zero, List.set_cons_succ, i64_w, i32_w]
              rfl
            refine pure_ (i := 17) (N := some 26) (v := ?_) (a' := ?_) #[true, true, true, true, true, true, true, true, true, true, true, true, true, true, true, false, true, true, false, false, false, false, false, false] rfl rfl (by kernel_rfl) (fun _ _ _ h => h) (Or.inl ⟨by rfl, ?_⟩) ?_ ?_
            rotate_left
            · intro w'
              go_simp
              with_reducible rfl
            rotate_left
            · simp only [Act.put, List.setIfInBounds_toArray, List.set_cons_zero, List.set_cons_succ, i64_w, i32_w]
              rfl
            refine pure_ (i := 18) (N := some 27) (v := ?_) (a' := ?_) #[true, true, true, true, true, true, true, true, true, true, true, true, true, true, true, false, true, true, true, false, false, false, false, false] rfl rfl (by kernel_rfl) (fun _ _ _ h => h) (Or.inl ⟨by rfl, ?_⟩) ?_ ?_
            rotate_left
            · intro w'
              go_simp
              with_reducible rfl
            rotate_left
            · simp only [Act.put, List.setIfInBounds_toArray, List.set_cons_zero, List.set_cons_succ, i64_w, i32_w]
              rfl
            refine pure_ (i := 19) (N := some 28) (v := ?_) (a' := ?_) #[true, true, true, true, true, true, true, true, true, true, true, true, true, true, true, false, true, true, true, true, false, false, false, false] rfl rfl (by kernel_rfl) (fun _ _ _ h => h) (Or.inl ⟨by rfl, ?_⟩) ?_ ?_
            rotate_left
            · intro w'
              go_simp
              with_reducible rfl
            rotate_left
            · simp only [Act.put, List.setIfInBounds_toArray, List.set_cons_zero, List.set_cons_succ, i64_w, i32_w]
              rfl
            refine take_ (i := 15) (N := some 24) (v := ?_) (a' := ?_) #[true, true, true, true, true, true, true, true, true, true, true, true, true, true, true, true, true, true, true, true, false, false, false, false] rfl rfl (by kernel_rfl) (fun _ _ _ h => h) (Or.inl ⟨by rfl, ?_⟩) hHeld ?_ ?_
            rotate_left
            · rintro w' ⟨s0, s1, s2, s3⟩
              go_simp
              with_reducible rfl
            rotate_left
            · simp only [Act.put, List.setIfInBounds_toArray, List.set_cons_zero, List.set_cons_succ, i64_w, i32_w]
              rfl
            refine take_ (i := 20) (N := some 29) (v := ?_) (a' := ?_) #[true, true, true, true, true, true, true, true, true, true, true, true, true, true, true, true, true, true, true, true, true, false, false, false] rfl rfl (by kernel_rfl) (fun _ _ _ h => h) (Or.inl ⟨by rfl, ?_⟩) hHeld ?_ ?_
            rotate_left
            · rintro w' ⟨s0, s1, s2, s3⟩
              go_simp
              with_reducible rfl
            rotate_left
            · simp only [Act.put, List.setIfInBounds_toArray, List.set_cons_zero, List.set_cons_succ, i64_w, i32_w]
              rfl
            refine pure_ (i := 21) (N := some 30) (v := ?_) (a' := ?_) #[true, true, true, true, true, true, true, true, true, true, true, true, true, true, true, true, true, true, true, true, true, true, false, false] rfl rfl (by kernel_rfl) (fun _ _ _ h => h) (Or.inl ⟨by rfl, ?_⟩) ?_ ?_
            rotate_left
            · intro w'
              go_simp
              with_reducible rfl
            rotate_left
            · simp only [Act.put, List.setIfInBounds_toArray, List.set_cons_zero, List.set_cons_succ, i64_w, i32_w]
              rfl
            refine pure_ (i := 22) (N := some 31) (v := ?_) (a' := ?_) #[true, true, true, true, true, true, true, true, true, true, true, true, true, true, true, true, true, true, true, true, true, true, true, false] rfl rfl (by kernel_rfl) (fun _ _ _ h => h) (Or.inl ⟨by rfl, ?_⟩) ?_ ?_
            rotate_left
            · intro w'
              go_simp
              with_reducible rfl
            rotate_left
            · simp only [Act.put, List.setIfInBounds_toArray, List.set_cons_zero, List.set_cons_succ, i64_w, i32_w]
              rfl
            refine pure_ (i := 23) (N := some 32) (v := ?_) (a' := ?_) #[true, true, true, true, true, true, true, true, true, true, true, true, true, true, true, true, true, true, true, true, true, true, true, true] rfl rfl (by kernel_rfl) (fun _ _ _ h => h) (Or.inl ⟨by rfl, ?_⟩) ?_ ?_
            rotate_left
            · intro w'
              go_simp
              with_reducible rfl
            rotate_left
            · simp only [Act.put, List.setIfInBounds_toArray, List.set_cons_zero, List.set_cons_succ, i64_w, i32_w]
              rfl
            refine done_ (by kernel_rfl) ?_
            go_wp2_with (fail)
            go_ret
            rw [goodI_false (i := i) (by rw [HLL.out]; exact hlt) (by rw [HOK.out]; simp)]
            exact ⟨rfl, below_step HB.out hHeld.2.2.2.out⟩
          | true =>
            rw [hl] at hok
            have HOK := AsideRg.mk hok
            clear hok
            refine start_ (n := 24) (S := fun w' => w'.cell? (ad.add (i * 2)) = some (.string xx) ∧ w'.cell? ⟨(ad.add (i * 2)).block, (ad.add (i * 2)).off + 1, none⟩ = some (.slice A1 nx c1) ∧ w'.cell? (ad.add (z.toNat * 2)) = some (.string yy) ∧ AsideRg (Below wr.heap.size wr w')) (ds := []) #[false, false, false, false, false, false, false, false, false, false, false, false, false, false, false, false, false, false, false, false, false, false, false, false] (by kernel_rfl) rfl rfl ⟨hx0d, hx1d, hy0, HBd⟩ (fun hHeld => ?_)
            refine pure_ (i := 0) (N := some 9) (v := ?_) (a' := ?_) #[true, false, false, false, false, false, false, false, false, false, false, false, false, false, false, false, false, false, false, false, false, false, false, false] rfl rfl (by kernel_rfl) (fun _ _ _ h => h) (Or.inl ⟨by rfl, ?_⟩) ?_ ?_
            rotate_left
            · intro w'
              go_simp
              with_reducible rfl
            rotate_left
            · simp only [Act.put, List.setIfInBounds_toArray, List.set_cons_zero, List.set_cons_succ, i64_w, i32_w]
              rfl
            refine pure_ (i := 1) (N := some 10) (v := ?_) (a' := ?_) #[true, true, false, false, false, false, false, false, false, false, false, false, false, false, false, false, false, false, false, false, false, false, false, false] rfl rfl (by kernel_rfl) (fun _ _ _ h => h) (Or.inl ⟨by rfl, ?_⟩) ?_ ?_
            rotate_left
            · intro w'
              go_simp
              with_reducible rfl
            rotate_left
            · simp only [Act.put, List.setIfInBounds_toArray, List.set_cons_zero, List.set_cons_succ, i64_w, i32_w]
              rfl
            refine pure_ (i := 2) (N := some 11) (v := ?_) (a' := ?_) #[true, true, true, false, false, false, false, false, false, false, false, false, false, false, false, false, false, false, false, false, false, false, false, false] rfl rfl (by kernel_rfl) (fun _ _ _ h => h) (Or.inl ⟨by rfl, ?_⟩) ?_ ?_
            rotate_left
            · intro w'
              go_simp
              with_reducible rfl
            rotate_left
            · simp only [Act.put, List.setIfInBounds_toArray, List.set_cons_zero, List.set_cons_succ, i64_w, i32_w]
              rfl
            refine take_ (i := 3) (N := some 12) (v := ?_) (a' := ?_) #[true, true, true, true, false, false, false, false, false, false, false, false, false, false, false, false, false, false, false, false, false, false, false, false] rfl rfl (by kernel_rfl) (fun _ _ _ h => h) (Or.inl ⟨by rfl, ?_⟩) hHeld ?_ ?_
            rotate_left
            · rintro w' ⟨s0, s1, s2, s3⟩
              go_simp
              with_reducible rfl
            rotate_left
            · simp only [Act.put, List.setIfInBounds_toArray, List.set_cons_zero, List.set_cons_succ, i64_w, i32_w]
              rfl
            refine one_ (i := 4) (N := some 13) #[true, true, true, true, true, false, false, false, false, false, false, false, false, false, false, false, false, false, false, false, false, false, false, false] rfl rfl (by kernel_rfl) (by decide) (fun K hK => ?_)
            refine goes_ Tryd.func24 (by kernel_rfl) rfl #[.agg #[.string xx, .slice A1 nx c1]] (by rfl) rfl rfl (by simp only [List.map_toArray, List.map_cons, List.map_nil]; rfl) ?_
            with_reducible refine (HRIG.out _ hHeld.2.2.2.out).mono ?_
            rintro e w19 ⟨rfl, hb⟩
            refine ⟨_, rfl, ?_⟩
            refine hK.out _ _ ⟨pw_cell_below hb hHeld.1, pw_cell_below hb hHeld.2.1, pw_cell_below hb hHeld.2.2.1, ⟨below_step hHeld.2.2.2.out hb⟩⟩ (fun hHeld => ?_)
            clear hK K
            refine norm_ (a' := ?_) ?_ ?_
            rotate_left
            · show Act.put _ (some 13) _ = _
              simp only [Act.put, List.setIfInBounds_toArray, List.set_cons_zero, List.set_cons_succ, i64_w, i32_w]
              rfl
            refine pure_ (i := 5) (N := some 14) (v := ?_) (a' := ?_) #[true, true, true, true, true, true, false, false, false, false, false, false, false, false, false, false, false, false, false, false, false, false, false, false] rfl rfl (by kernel_rfl) (fun _ _ _ h => h) (Or.inl ⟨by rfl, ?_⟩) ?_ ?_
            rotate_left
            · intro w'
              go_simp
              with_reducible rfl
            rotate_left
            · simp only [Act.put, List.setIfInBounds_toArray, List.set_cons_zero, List.set_cons_succ, i64_w, i32_w]
              rfl
            refine pure_ (i := 6) (N := some 15) (v := ?_) (a' := ?_) #[true, true, true, true, true, true, true, false, false, false, false, false, false, false, false, false, false, false, false, false, false, false, false, false] rfl rfl (by kernel_rfl) (fun _ _ _ h => h) (Or.inl ⟨by rfl, ?_⟩) ?_ ?_
            rotate_left
            · intro w'
              go_simp
              with_reducible rfl
            rotate_left
            · simp only [Act.put, List.setIfInBounds_toArray, List.set_cons_zero, List.set_cons_succ, i64_w, i32_w]
              rfl
            refine pure_ (i := 7) (N := some 16) (v := ?_) (a' := ?_) #[true, true, true, true, true, true, true, true, false, false, false, false, false, false, false, false, false, false, false, false, false, false, false, false] rfl rfl (by kernel_rfl) (fun _ _ _ h => h) (Or.inl ⟨by rfl, ?_⟩) ?_ ?_
            rotate_left
            · intro w'
              go_simp
              with_reducible rfl
            rotate_left
            · simp only [Act.put, List.setIfInBounds_toArray, List.set_cons_zero, List.set_cons_succ, i64_w, i32_w]
              rfl
            refine pure_ (i := 8) (N := some 17) (v := ?_) (a' := ?_) #[true, true, true, true, true, true, true, true, true, false, false, false, false, false, false, false, false, false, false, false, false, false, false, false] rfl rfl (by kernel_rfl) (fun _ _ _ h => h) (Or.inl ⟨by rfl, ?_⟩) ?_ ?_
            rotate_left
            · intro w'
              go_simp
              with_reducible rfl
            rotate_left
            · simp only [Act.put, List.setIfInBounds_toArray, List.set_cons_zero, List.set_cons_succ, i64_w, i32_w]
              rfl
            refine pure_ (i := 9) (N := some 18) (v := ?_) (a' := ?_) #[true, true, true, true, true, true, true, true, true, true, false, false, false, false, false, false, false, false, false, false, false, false, false, false] rfl rfl (by kernel_rfl) (fun _ _ _ h => h) (Or.inl ⟨by rfl, ?_⟩) ?_ ?_
            rotate_left
            · intro w'
              go_simp
              with_reducible rfl
            rotate_left
            · simp only [Act.put, List.setIfInBounds_toArray, List.set_cons_zero, List.set_cons_succ, i64_w, i32_w]
              rfl
            refine pure_ (i := 10) (N := some 19) (v := ?_) (a' := ?_) #[true, true, true, true, true, true, true, true, true, true, true, false, false, false, false, false, false, false, false, false, false, false, false, false] rfl rfl (by kernel_rfl) (fun _ _ _ h => h) (Or.inl ⟨by rfl, ?_⟩) ?_ ?_
            rotate_left
            · intro w'
              go_simp
              with_reducible rfl
            rotate_left
            · simp only [Act.put, List.setIfInBounds_toArray, List.set_cons_zero, List.set_cons_succ, i64_w, i32_w]
              rfl
            refine pure_ (i := 11) (N := some 20) (v := ?_) (a' := ?_) #[true, true, true, true, true, true, true, true, true, true, true, true, false, false, false, false, false, false, false, false, false, false, false, false] rfl rfl (by kernel_rfl) (fun _ _ _ h => h) (Or.inl ⟨by rfl, ?_⟩) ?_ ?_
            rotate_left
            · intro w'
              go_simp
              with_reducible rfl
            rotate_left
            · simp only [Act.put, List.setIfInBounds_toArray, List.set_cons_zero, List.set_cons_succ, i64_w, i32_w]
              rfl
            refine pure_ (i := 12) (N := some 21) (v := ?_) (a' := ?_) #[true, true, true, true, true, true, true, true, true, true, true, true, true, false, false, false, false, false, false, false, false, false, false, false] rfl rfl (by kernel_rfl) (fun _ _ _ h => h) (Or.inl ⟨by rfl, ?_⟩) ?_ ?_
            rotate_left
            · intro w'
              go_simp
              with_reducible rfl
            rotate_left
            · simp only [Act.put, List.setIfInBounds_toArray, List.set_cons_zero, List.set_cons_succ, i64_w, i32_w]
              rfl
            refine pure_ (i := 13) (N := some 22) (v := ?_) (a' := ?_) #[true, true, true, true, true, true, true, true, true, true, true, true, true, true, false, false, false, false, false, false, false, false, false, false] rfl rfl (by kernel_rfl) (fun _ _ _ h => h) (Or.inl ⟨by rfl, ?_⟩) ?_ ?_
            rotate_left
            · intro w'
              go_simp
              with_reducible rfl
            rotate_left
            · simp only [Act.put, List.setIfInBounds_toArray, List.set_cons_zero, List.set_cons_succ, i64_w, i32_w]
              rfl
            refine pure_ (i := 14) (N := some 23) (v := ?_) (a' := ?_) #[true, true, true, true, true, true, true, true, true, true, true, true, true, true, true, false, false, false, false, false, false, false, false, false] rfl rfl (by kernel_rfl) (fun _ _ _ h => h) (Or.inl ⟨by rfl, ?_⟩) ?_ ?_
            rotate_left
            · intro w'
              go_simp
              with_reducible rfl
            rotate_left
            · simp only [Act.put, List.setIfInBounds_toArray, List.set_cons_zero, List.set_cons_succ, i64_w, i32_w]
              rfl
            refine pure_ (i := 16) (N := some 25) (v := ?_) (a' := ?_) #[true, true, true, true, true, true, true, true, true, true, true, true, true, true, true, false, true, false, false, false, false, false, false, false] rfl rfl (by kernel_rfl) (fun _ _ _ h => h) (Or.inl ⟨by rfl, ?_⟩) ?_ ?_
            rotate_left
            · intro w'
              go_simp
              with_reducible rfl
            rotate_left
            · simp only [Act.put, List.setIfInBounds_toArray, List.set_cons_zero, List.set_cons_succ, i64_w, i32_w]
              rfl
            refine pure_ (i := 17) (N := some 26) (v := ?_) (a' := ?_) #[true, true, true, true, true, true, true, true, true, true, true, true, true, true, true, false, true, true, false, false, false, false, false, false] rfl rfl (by kernel_rfl) (fun _ _ _ h => h) (Or.inl ⟨by rfl, ?_⟩) ?_ ?_
            rotate_left
            · intro w'
              go_simp
              with_reducible rfl
            rotate_left
            · simp only [Act.put, List.setIfInBounds_toArray, List.set_cons_zero, List.set_cons_succ, i64_w, i32_w]
              rfl
            refine pure_ (i := 18) (N := some 27) (v := ?_) (a' := ?_) #[true, true, true, true, true, true, true, true, true, true, true, true, true, true, true, false, true, true, true, false, false, false, false, false] rfl rfl (by kernel_rfl) (fun _ _ _ h => h) (Or.inl ⟨by rfl, ?_⟩) ?_ ?_
            rotate_left
            · intro w'
              go_simp
              with_reducible rfl
            rotate_left
            · simp only [Act.put, List.setIfInBounds_toArray, List.set_cons_zero, List.set_cons_succ, i64_w, i32_w]
              rfl
            refine pure_ (i := 19) (N := some 28) (v := ?_) (a' := ?_) #[true, true, true, true, true, true, true, true, true, true, true, true, true, true, true, false, true, true, true, true, false, false, false, false] rfl rfl (by kernel_rfl) (fun _ _ _ h => h) (Or.inl ⟨by rfl, ?_⟩) ?_ ?_
            rotate_left
            · intro w'
              go_simp
              with_reducible rfl
            rotate_left
            · simp only [Act.put, List.setIfInBounds_toArray, List.set_cons_zero, List.set_cons_succ, i64_w, i32_w]
              rfl
            refine take_ (i := 15) (N := some 24) (v := ?_) (a' := ?_) #[true, true, true, true, true, true, true, true, true, true, true, true, true, true, true, true, true, true, true, true, false, false, false, false] rfl rfl (by kernel_rfl) (fun _ _ _ h => h) (Or.inl ⟨by rfl, ?_⟩) hHeld ?_ ?_
            rotate_left
            · rintro w' ⟨s0, s1, s2, s3⟩
              go_simp
              with_reducible rfl
            rotate_left
            · simp only [Act.put, List.setIfInBounds_toArray, List.set_cons_zero, List.set_cons_succ, i64_w, i32_w]
              rfl
            refine take_ (i := 20) (N := some 29) (v := ?_) (a' := ?_) #[true, true, true, true, true, true, true, true, true, true, true, true, true, true, true, true, true, true, true, true, true, false, false, false] rfl rfl (by kernel_rfl) (fun _ _ _ h => h) (Or.inl ⟨by rfl, ?_⟩) hHeld ?_ ?_
            rotate_left
            · rintro w' ⟨s0, s1, s2, s3⟩
              go_simp
              with_reducible rfl
            rotate_left
            · simp only [Act.put, List.setIfInBounds_toArray, List.set_cons_zero, List.set_cons_succ, i64_w, i32_w]
              rfl
            refine pure_ (i := 21) (N := some 30) (v := ?_) (a' := ?_) #[true, true, true, true, true, true, true, true, true, true, true, true, true, true, true, true, true, true, true, true, true, true, false, false] rfl rfl (by kernel_rfl) (fun _ _ _ h => h) (Or.inl ⟨by rfl, ?_⟩) ?_ ?_
            rotate_left
            · intro w'
              go_simp
              with_reducible rfl
            rotate_left
            · simp only [Act.put, List.setIfInBounds_toArray, List.set_cons_zero, List.set_cons_succ, i64_w, i32_w]
              rfl
            refine pure_ (i := 22) (N := some 31) (v := ?_) (a' := ?_) #[true, true, true, true, true, true, true, true, true, true, true, true, true, true, true, true, true, true, true, true, true, true, true, false] rfl rfl (by kernel_rfl) (fun _ _ _ h => h) (Or.inl ⟨by rfl, ?_⟩) ?_ ?_
            rotate_left
            · intro w'
              go_simp
              with_reducible rfl
            rotate_left
            · simp only [Act.put, List.setIfInBounds_toArray, List.set_cons_zero, List.set_cons_succ, i64_w, i32_w]
              rfl
            refine pure_ (i := 23) (N := some 32) (v := ?_) (a' := ?_) #[true, true, true, true, true, true, true, true, true, true, true, true, true, true, true, true, true, true, true, true, true, true, true, true] rfl rfl (by kernel_rfl) (fun _ _ _ h => h) (Or.inl ⟨by rfl, ?_⟩) ?_ ?_
            rotate_left
            · intro w'
              go_simp
              with_reducible rfl
            rotate_left
            · simp only [Act.put, List.setIfInBounds_toArray, List.set_cons_zero, List.set_cons_succ, i64_w, i32_w]
              rfl
            refine done_ (by kernel_rfl) ?_
            go_wp2_with (fail)
            go_roundw
            case rel => exact ⟨i + 1, by omega, by go_num, ⟨goI_all HA.out (by rw [HOK.out]; simp)⟩, ⟨below_step HB.out hHeld.2.2.2.out⟩⟩
            case measure => simp [intOf]; omega
    · obtain rfl : i = j := by omega
      have HGE := AsideRg.mk (goodI_end (L := L) (by rw [HLL.out]; exact HA.out))
      clear hi hlt
      by_cases h100 : i ≤ 100
      · have c1 : decide ((i : Int) ≤ 100) = true := decide_eq_true (by omega)
        go_wp2_with (fail)
        go_ret
        rw [HGE.out, HLL.out, decide_eq_true h100]
        exact ⟨rfl, HB.out⟩
      · have c1 : decide ((i : Int) ≤ 100) = false := decide_eq_false (by omega)
        go_wp2_with (fail)
        go_ret
        rw [HGE.out, HLL.out, decide_eq_false h100]
        exact ⟨rfl, HB.out⟩

end Go.Proofs.YtibmccacebhhkaaDoor.HV

