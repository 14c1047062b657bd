/- VaultFinds: what the claim's theorem reaches of this seat's texts, part 15, put together by this project's own program (bale.py); conditions: those of each theorem. -/
import Derived.Test.YtibmccacebhhkaaDoorVVaultFinds5
import Derived.Test.YtibmccacebhhkaaDoorVVaultFinds10
import Derived.Test.YtibmccacebhhkaaDoorVVaultFinds12
import Derived.Test.YtibmccacebhhkaaDoorVVaultFinds13
import Derived.Test.YtibmccacebhhkaaDoorVVaultFinds14
import Derived.LoopTactic
import Derived.OwnWalk
import Derived.Shelf.Abstract
namespace Go.Proofs.YtibmccacebhhkaaDoor.VaultItems
set_option linter.unusedVariables false
open Go Go.RowKit Go.Proofs.YtibmccacebhhkaaDoor.HV Go.Proofs.YtibmccacebhhkaaDoorW.PrintWords Go.Proofs.YtibmccacebhhkaaDoorW.PrintLast

/-- All sizes together. -/
def sumE : List S67 → Int
  | [] => 0
  | e :: l => e.f1 + sumE l
def begL (L : List S67) : List Int := (List.range (L.length + 1)).map fun i => sumE (L.take i)
def Sized (L : List S67) : Prop := L.length ≤ 255 ∧ ∀ e ∈ L, 0 ≤ e.f1 ∧ e.f1 < 16777216 ∧ 0 ≤ e.f2 ∧ e.f2 < 4294967296
/-- The i-th item's bytes; what is wrong. -/
def itemE (cs : List Int → Int) (L : List S67) (rest : List Int) (i : Nat) : List Int × Int :=
  if rest.length < (sumE (L.take i)).toNat + (L.getD i z67).f1.toNat then ([], 3)
  else if cs ((rest.drop (sumE (L.take i)).toNat).take (L.getD i z67).f1.toNat) = (L.getD i z67).f2 then ((rest.drop (sumE (L.take i)).toNat).take (L.getD i z67).f1.toNat, 0) else ([], 13)
theorem sumE_range : ∀ (L : List S67), (∀ e ∈ L, 0 ≤ e.f1 ∧ e.f1 < 16777216) → 0 ≤ sumE L ∧ sumE L ≤ (L.length : Int) * 16777216
  | [], _ => ⟨Int.le_refl 0, by simp [sumE]⟩
  | e :: l, h => by
    have := sumE_range l (fun x hx => h x (by simp [hx]))
    have h0 := h e (by simp)
    simp only [sumE, List.length_cons]
    omega
theorem sumE_snoc : ∀ (L : List S67) (e : S67), sumE (L ++ [e]) = sumE L + e.f1
  | [], e => by simp [sumE]
  | x :: l, e => by
    simp only [List.cons_append, sumE, sumE_snoc l e]
    omega
theorem sumE_step (L : List S67) (i : Nat) (hi : i < L.length) : sumE (L.take (i + 1)) = sumE (L.take i) + (L.getD i z67).f1 := by
  rw [List.take_succ_eq_append_getElem hi, sumE_snoc, List.getD_eq_getElem?_getD, List.getElem?_eq_getElem hi]
  rfl
theorem sum_small {L : List S67} (hS : Sized L) (i : Nat) : 0 ≤ sumE (L.take i) ∧ sumE (L.take i) ≤ 4278190080 := by
  have := sumE_range (L.take i) (fun e he => ⟨(hS.2 e (List.mem_of_mem_take he)).1, (hS.2 e (List.mem_of_mem_take he)).2.1⟩)
  have h1 : (L.take i).length ≤ 255 := by rw [List.length_take]; have := hS.1; omega
  omega
theorem begL_snoc (L : List S67) (i : Nat) : (List.range (i + 1 + 1)).map (fun i => sumE (L.take i)) = (List.range (i + 1)).map (fun i => sumE (L.take i)) ++ [sumE (L.take (i + 1))] := by
  rw [List.range_succ, List.map_append]
  rfl
theorem begL_get (L : List S67) (m i : Nat) (h : i < m) : rd ((List.range m).map (fun i => sumE (L.take i))) (i : Int) = sumE (L.take i) := by
  unfold rd
  rw [Int.toNat_natCast, List.getD_eq_getElem?_getD, List.getElem?_map, List.getElem?_range h]
  rfl
theorem mem_get {L : List S67} {i : Nat} (hi : i < L.length) : L.getD i z67 ∈ L := by
  rw [List.getD_eq_getElem?_getD, List.getElem?_eq_getElem hi]
  exact List.getElem_mem _
theorem beg_loop (L : List S67) (hS : Sized L) : ∀ (d i : Nat), i + d = L.length → ∀ k, d < k → vault_begins.l0 k ((List.range (i + 1)).map (fun i => sumE (L.take i))) L (L.length : Int) (i : Int) = some (begL L)
  | 0, i, h, k, hk => by
    obtain ⟨k, rfl⟩ : ∃ m, k = m + 1 := ⟨k - 1, by omega⟩
    simp only [vault_begins.l0]
    rw [if_neg (by omega), show i = L.length by omega]
    rfl
  | d + 1, i, h, k, hk => by
    obtain ⟨k, rfl⟩ : ∃ m, k = m + 1 := ⟨k - 1, by omega⟩
    have hL := hS.1
    have hl : ((List.range (i + 1)).map (fun i => sumE (L.take i))).length = i + 1 := by simp
    have hm := hS.2 _ (mem_get (show i < L.length by omega))
    have hs := sum_small hS i
    simp only [vault_begins.l0]
    rw [hl, if_pos (by omega), if_pos (by omega), if_pos (by omega), if_pos (by omega), if_pos (by omega), begL_get L (i + 1) i (by omega)]
    have e1 : rd_T67 L (i : Int) = L.getD i z67 := by unfold rd_T67; rw [Int.toNat_natCast]
    rw [e1, show wrap64 (sumE (L.take i) + (L.getD i z67).f1) = sumE (L.take (i + 1)) by rw [sumE_step L i (by omega)]; unfold wrap64; omega, ← begL_snoc, show wrap64 ((i : Int) + 1) = ((i + 1 : Nat) : Int) by unfold wrap64; omega]
    exact beg_loop L hS d (i + 1) (by omega) k (by omega)
theorem beg_f (L : List S67) (hS : Sized L) (k : Nat) (hk : L.length < k) : vault_begins.f k L = some (begL L) := by
  have := beg_loop L hS L.length 0 (by omega) k hk
  unfold vault_begins.f
  exact this
theorem bytes_f (K : Nat) (cs : List Int → Int) (L : List S67) (rest : List Int) (i : Nat) (hS : Sized L) (hi : i < L.length) (hr : rest.length ≤ 1099511627776) (hby : ∀ x ∈ rest, 0 ≤ x ∧ x < 256) (hcs : ∀ l : List Int, (∀ x ∈ l, 0 ≤ x ∧ x < 256) → l.length ≤ rest.length → toll_Sum.f K l = some (cs l) ∧ 0 ≤ cs l ∧ cs l < 4294967296) :
    vault_entry_bytes.f K (L.getD i z67).f0 (L.getD i z67).f1 (L.getD i z67).f2 rest (sumE (L.take i)) = some (itemE cs L rest i) := by
  have hm := hS.2 _ (mem_get hi)
  have hs := sum_small hS i
  unfold vault_entry_bytes.f itemE
  generalize sumE (L.take i) = q at *
  generalize L.getD i z67 = e at *
  obtain ⟨f, rfl⟩ : ∃ f : Nat, q = (f : Int) := ⟨q.toNat, by omega⟩
  obtain ⟨e0, e1, e2⟩ := e
  dsimp only at *
  obtain ⟨s, rfl⟩ : ∃ s : Nat, e1 = (s : Int) := ⟨e1.toNat, by omega⟩
  have w1 : wrap64 ((rest.length : Int) - (f : Int)) = (rest.length : Int) - (f : Int) := by unfold wrap64; omega
  have w2 : wrap64 ((f : Int) + (s : Int)) = ((f + s : Nat) : Int) := by unfold wrap64; omega
  rw [w1, w2, Int.toNat_natCast, Int.toNat_natCast, Int.toNat_natCast]
  by_cases h : rest.length < f + s
  · rw [if_pos (by omega), if_pos h]
  · rw [if_neg (by omega), if_neg h, if_pos (by omega), if_pos (by omega), if_pos (by omega), List.drop_take, Nat.add_sub_cancel_left]
    have hlen : ((rest.drop f).take s).length ≤ rest.length := by rw [List.length_take, List.length_drop]; omega
    obtain ⟨c1, c2, c3⟩ := hcs ((rest.drop f).take s) (fun x hx => hby x (List.mem_of_mem_drop (List.mem_of_mem_take hx))) hlen
    rw [show slices_Clone_byte_byte.f ((rest.drop f).take s) = some ((rest.drop f).take s) from if_pos (by omega), Option.bind_some, c1, Option.bind_some, show wrap64 (cs ((rest.drop f).take s)) = cs ((rest.drop f).take s) by unfold wrap64; omega]
    by_cases h2 : cs ((rest.drop f).take s) = e2
    · rw [if_pos h2, if_pos h2]
    · rw [if_neg h2, if_neg h2]
/-! ### what opening gives -/
theorem pw_pos : ∀ m : Nat, 0 < (256 : Int) ^ m
  | 0 => by decide
  | m + 1 => by rw [Int.pow_succ]; have := pw_pos m; omega
theorem pw_le (m : Nat) : ∀ d : Nat, (256 : Int) ^ m ≤ 256 ^ (m + d)
  | 0 => Int.le_refl _
  | d + 1 => by rw [← Nat.add_assoc, Int.pow_succ]; have := pw_le m d; have := pw_pos (m + d); omega
theorem ents_sized (b : List Int) (hb : ∀ x ∈ b, 0 ≤ x ∧ x < 256) : ∀ j, ∀ e ∈ (ents b j).1, 0 ≤ e.f1 ∧ e.f1 < 16777216 ∧ 0 ≤ e.f2 ∧ e.f2 < 4294967296
  | 0, e, he => by simp [ents] at he
  | j + 1, e, he => by
    simp only [ents, List.mem_append, List.mem_singleton] at he
    rcases he with he | rfl
    · exact ents_sized b hb j e he
    · have key : ∀ (s : Nat × Bool) (k : Nat), 0 ≤ beL (tkB b s k) ∧ beL (tkB b s k) < 256 ^ k := fun s k => by
        have h1 := beL_range (tkB b s k) (fun x hx => hb x (tkB_mem hx))
        have h2 := tkB_le b s k
        have h3 : (256 : Int) ^ (tkB b s k).length ≤ 256 ^ k := by
          have := pw_le (tkB b s k).length (k - (tkB b s k).length)
          rwa [show (tkB b s k).length + (k - (tkB b s k).length) = k by omega] at this
        exact ⟨h1.1, Int.lt_of_lt_of_le h1.2 h3⟩
      have a1 := key (tk b.length (tk b.length (ents b j).2 1) (nmK b (ents b j).2)) 3
      have a2 := key (tk b.length (tk b.length (tk b.length (ents b j).2 1) (nmK b (ents b j).2)) 3) 4
      unfold enB
      dsimp only
      exact ⟨a1.1, a1.2, a2.1, a2.2⟩
theorem open_sized (cs : List Int → Int) (b : List Int) (hb : ∀ x ∈ b, 0 ≤ x ∧ x < 256) : Sized (openS cs b).1 := by
  refine ⟨VaultOpen.open_len cs b hb, fun e he => ?_⟩
  unfold openS at he
  split at he
  · simp at he
  · split at he
    · simp at he
    · split at he
      · split at he
        · exact ents_sized b hb _ e he
        · simp at he
      · simp at he
theorem open_good (cs : List Int → Int) (b : List Int) : goodE (openS cs b).1 = true := by
  unfold openS
  split
  · rfl
  · split
    · rfl
    · split
      · split
        · next h => exact h
        · rfl
      · rfl
theorem open_rest (cs : List Int → Int) (b : List Int) (h : (openS cs b).2.2 ≠ 0) : (openS cs b).2.1 = [] := by
  revert h
  unfold openS
  split
  · exact fun _ => rfl
  · split
    · exact fun _ => rfl
    · split
      · split
        · exact fun h => absurd rfl h
        · exact fun _ => rfl
      · exact fun _ => rfl
theorem good_less {L : List S67} (h : goodE L = true) (a : Nat) : ∀ d, a + d + 1 < L.length → Op.bytesLess (L.getD a z67).f0.toList (L.getD (a + d + 1) z67).f0.toList = true := by
  have key : ∀ i, i + 1 < L.length → Op.bytesLess (L.getD i z67).f0.toList (L.getD (i + 1) z67).f0.toList = true := fun i hi => by
    unfold goodE at h
    rw [List.all_eq_true] at h
    have := h (i + 1) (List.mem_range.2 hi)
    unfold okAt at this
    simp only [Bool.and_eq_true, Bool.or_eq_true, decide_eq_true_eq, Nat.add_sub_cancel] at this
    rcases this.1.2 with h1 | h1
    · omega
    · exact h1
  intro d
  induction d with
  | zero => exact fun hd => key a hd
  | succ d ih =>
    intro hd
    exact bl_trans _ _ _ (ih (by omega)) (key (a + d + 1) hd)
theorem good_mono {L : List S67} (h : goodE L = true) (x : ByteArray) (a b : Nat) (hab : a ≤ b) (hb : b < L.length) (hl : lessE L x b = true) : lessE L x a = true := by
  have e : ∀ i : Nat, rd_T67 L (i : Int) = L.getD i z67 := fun i => by unfold rd_T67; rw [Int.toNat_natCast]
  unfold lessE at hl ⊢
  rw [e] at hl ⊢
  by_cases hq : a = b
  · rw [hq]; exact hl
  · have := good_less h a (b - a - 1) (by omega)
    rw [show a + (b - a - 1) + 1 = b by omega] at this
    exact bl_trans _ _ _ this hl
/-- What finding answers. -/
def findV (cs : List Int → Int) (b : List Int) (x : ByteArray) : List Int × Int :=
  if (openS cs b).2.2 ≠ 0 then ([], (openS cs b).2.2)
  else match (List.range (openS cs b).1.length).find? (fun i => (((openS cs b).1.getD i z67).f0.toList == x.toList)) with
    | some i => itemE cs (openS cs b).1 (openS cs b).2.1 i
    | none => ([], 14)
theorem findV_some {cs : List Int → Int} {b : List Int} {x : ByteArray} {L : List S67} {rest : List Int} (h : openS cs b = (L, rest, 0)) {i : Nat} (hi : i < L.length) (hx : (L.getD i z67).f0.toList = x.toList) (hj : ∀ j, j < i → (L.getD j z67).f0.toList ≠ x.toList) : findV cs b x = itemE cs L rest i := by
  unfold findV
  rw [h, if_neg (fun hq => hq rfl)]
  have e : (List.range L.length).find? (fun i => ((L.getD i z67).f0.toList == x.toList)) = some i := by
    rw [List.find?_range_eq_some]
    exact ⟨by rw [beq_iff_eq]; exact hx, List.mem_range.2 hi, fun j hj' => by simpa using hj j hj'⟩
  dsimp only
  rw [e]
theorem findV_none {cs : List Int → Int} {b : List Int} {x : ByteArray} {L : List S67} {rest : List Int} (h : openS cs b = (L, rest, 0)) (hj : ∀ j, j < L.length → (L.getD j z67).f0.toList ≠ x.toList) : findV cs b x = ([], 14) := by
  unfold findV
  rw [h, if_neg (fun hq => hq rfl)]
  have e : (List.range L.length).find? (fun i => ((L.getD i z67).f0.toList == x.toList)) = none := by
    rw [List.find?_eq_none]
    intro j hj'
    simpa using hj j (List.mem_range.1 hj')
  dsimp only
  rw [e]
theorem findV_bad {cs : List Int → Int} {b : List Int} {x : ByteArray} {L : List S67} {rest : List Int} {code : Int} (h : openS cs b = (L, rest, code)) (hc : code ≠ 0) : findV cs b x = ([], code) := by
  unfold findV
  rw [h, if_pos hc]
end Go.Proofs.YtibmccacebhhkaaDoor.VaultItems

namespace Go.Proofs.YtibmccacebhhkaaDoor.HV
open Go.RowKit Go.Proofs.YtibmccacebhhkaaDoorW.PrintWords Go.Proofs.YtibmccacebhhkaaDoorW.PrintLast Go.Proofs.YtibmccacebhhkaaDoorW.PrintMore
attribute [local go_sem] max2_int min2_int max_two min_two max_three min_three max_four min_four
set_option linter.unusedVariables false
set_option linter.unusedSimpArgs false
structure AsideFi (p : Prop) : Prop where mk :: (out : p)
theorem ba_ext {x y : ByteArray} (h : x.toList = y.toList) : x = y := ByteArray.ext (Array.toList_inj.1 (by rw [← ByteArray.toList_eq, ← ByteArray.toList_eq]; exact h))
theorem rd_get (L : List S67) (i : Nat) : rd_T67 L (i : Int) = L.getD i z67 := by unfold rd_T67; rw [Int.toNat_natCast]
/-- What finding gives: bytes of its own, and the error. -/
def FindPost (w : World) (r : List Int × Int) (e : Ending) (w' : World) : Prop := ∃ A' c', e = .returned (.tuple #[.slice A' r.1.length c', .int .i64 r.2]) ∧ Kd.C (Kd.int .u8) w' A' r.1.length r.1 ∧ Below w.heap.size w w'
theorem find_err {w w' : World} {x : Int} (h : Below w.heap.size w w') : FindPost w ([], x) (.returned (.tuple #[.slice none 0 0, .int .i64 x])) w' := ⟨none, 0, rfl, C_none, h⟩
set_option maxRecDepth 100000 in
set_option maxHeartbeats 4000000 in
theorem vault_find.gives (K : Nat) (cs : List Int → Int) (A : Option Addr) (b : List Int) (n c : Nat) (x : ByteArray) (w : World) (hG : GL w) (hc : n ≤ c) (hn : n ≤ 1000000) (hK : 1000 ≤ K) (hR : Kd.C (Kd.int .u8) w A n b) (hby : ∀ x ∈ b, 0 ≤ x ∧ x < 256)
    (hcs : ∀ l : List Int, (∀ x ∈ l, 0 ≤ x ∧ x < 256) → l.length ≤ n → toll_Sum.f K l = some (cs l) ∧ 0 ≤ cs l ∧ cs l < 4294967296) :
    Calls Tryd.prog 21 #[.slice A n c, .string x] w (FindPost w (VaultItems.findV cs b x)) := by
  have hbn : b.length = n := hR.1
  have HOP := AsideFi.mk (vault_open.gives K cs A b n c w hG hc hR hby (fun m hm => hcs (b.take m) (fun x hx => hby x (List.mem_of_mem_take hx)) (by rw [List.length_take]; omega)))
  have hS := VaultItems.open_sized cs b hby
  have hg := VaultItems.open_good cs b
  have hrest : ∀ x ∈ (openS cs b).2.1, 0 ≤ x ∧ x < 256 := by
    obtain ⟨at_, _, h1, _⟩ := VaultOpen.open_eq cs b hby
    by_cases h0 : (openS cs b).2.2 = 0
    · rw [(h1 h0).2]
      exact fun x hx => hby x (List.mem_of_mem_drop hx)
    · intro x hx
      rw [VaultItems.open_rest cs b h0] at hx
      simp at hx
  have hrl : (openS cs b).2.1.length ≤ n := by
    obtain ⟨at_, _, h1, _⟩ := VaultOpen.open_eq cs b hby
    by_cases h0 : (openS cs b).2.2 = 0
    · rw [(h1 h0).2, List.length_drop]; omega
    · rw [VaultItems.open_rest cs b h0]; simp
  obtain ⟨r, hr⟩ : ∃ r, openS cs b = r := ⟨_, rfl⟩
  rw [hr] at HOP hS hg hrest hrl
  obtain ⟨L, rest, code⟩ := r
  dsimp only at hS hg hrest hrl
  have HO := AsideFi.mk hr
  have HS := AsideFi.mk hS
  have HGD := AsideFi.mk hg
  have HIT := AsideFi.mk (fun (i : Nat) (hi : i < L.length) => VaultItems.bytes_f K cs L rest i hS hi (by omega) hrest (fun l h1 h2 => hcs l h1 (by omega)))
  have HBE := AsideFi.mk (VaultItems.beg_f L hS K (by have := hS.1; omega))
  have HGL := AsideFi.mk hG
  obtain ⟨j, hj⟩ : ∃ j, L.length = j := ⟨_, rfl⟩
  obtain ⟨m, hm⟩ : ∃ m, rest.length = m := ⟨_, rfl⟩
  have hj255 : j ≤ 255 := by rw [← hj]; exact hS.1
  have HJ := AsideFi.mk hj
  have HM := AsideFi.mk hm
  clear hR hby hcs hS hg hr hG hrest hrl hj hm
  go_enter Tryd.func21, Tryd.ntmps21
  go_upto_region 2 with (go_at_call 28; (with_reducible refine (HOP.out).mono ?_); rintro e w1 ⟨v, A1, c1, rfl, hcr, hrow, hC, hb⟩; obtain ⟨AL, cL, ev⟩ := Kd.R_slice hrow; rw [HJ.out] at ev; subst ev; have HC1 := AsideFi.mk (And.intro hcr hC); have HRL := AsideFi.mk (Kd.R_reads' hrow); have HB1 := AsideFi.mk hb; clear hcr hrow hC hb)
  rw [HM.out] at HC1
  simp only [HM.out]
  by_cases hcode : code = 0
  · subst hcode
    have HSE := AsideFi.mk (fun (W : World) (hW : Below w1.heap.size w1 W) => entry_search.gives AL cL j L x W (by omega) (by have h := Kd.C_below HRL.out.2.2 hW; rwa [HJ.out] at h) (fun a b hab hb hl => VaultItems.good_mono HGD.out x a b hab (by rw [HJ.out]; exact hb) hl))
    have HB0 := AsideFi.mk (Below.refl w1.heap.size w1)
    go_upto_region 5 with (go_at_call 37; refine (HSE.out _ HB0.out).mono ?_; rintro e w2 ⟨i, q, rfl, h1, h2, h3, h4, hb⟩; have HB2 := AsideFi.mk hb; have HF := AsideFi.mk (And.intro h2 (And.intro h3 h4)); clear h2 h3 h4 hb)
    cases q with
    | false =>
      go_wp2_with (fail)
      go_ret2
      have hnone : VaultItems.findV cs b x = ([], 14) := by
        refine VaultItems.findV_none HO.out (fun t ht e => ?_)
        obtain ⟨f1, f2, f3⟩ := HF.out
        rw [HJ.out] at ht
        unfold lessE at f1 f2
        rw [rd_get] at f3
        rcases Nat.lt_trichotomy t i with h | h | h
        · have := f1 t h
          rw [rd_get, e, bl_irr] at this
          cases this
        · subst h
          exact absurd (f3.2 ⟨ht, ba_ext e⟩) (by decide)
        · have h5 := VaultItems.good_less HGD.out i (t - i - 1) (by rw [HJ.out]; omega)
          rw [show i + (t - i - 1) + 1 = t by omega, e] at h5
          have h6 := f2 i (Nat.le_refl _) (by omega)
          rw [rd_get, h5] at h6
          cases h6
      rw [hnone]
      exact find_err (below_step HB1.out HB2.out)
    | true =>
      obtain ⟨hij, hname⟩ := HF.out.2.2.1 rfl
      rw [rd_get] at hname
      have HFV := AsideFi.mk (VaultItems.findV_some HO.out (i := i) (by rw [HJ.out]; exact hij) (by rw [hname]) (fun t ht e => by
        have := HF.out.1 t ht
        unfold lessE at this
        rw [rd_get, e, bl_irr] at this
        cases this))
      clear hname
      have HB2d := AsideFi.mk (below_drew HB2.out)
      obtain ⟨ad, e, f0, f1, f2⟩ := at_T67 (Kd.C_below HRL.out.2.2 HB2d.out) (i : Int) (by omega) (by rw [HJ.out]; omega)
      subst e
      rw [rd_get] at f0 f1 f2
      rw [Int.toNat_natCast] at f0 f1 f2
      have hI := HIT.out i (by rw [HJ.out]; exact hij)
      have HBG : AsideFi (∀ W : World, Below w1.heap.size w1 W → Calls Tryd.prog 33 #[.slice (some ad) j cL] W fun e w' => ∃ (adb : Addr) (cb : Nat), e = .returned (.slice (some adb) (j + 1) cb) ∧ w'.cell? (adb.add i) = some (.int .i64 (VaultItems.sumE (L.take i))) ∧ Below W.heap.size W w') := by
        refine ⟨fun W hW => ?_⟩
        have h := vault_begins.calls K (some ad) cL L (VaultItems.begL L) W (Kd.C_below HRL.out.2.2 hW) (by have := HRL.out.2.1; have := HJ.out; omega) HBE.out
        rw [HJ.out] at h
        refine h.mono fun e w' ⟨v0, he, hr, hb⟩ => ?_
        obtain ⟨Ab, cb, ev⟩ := Kd.R_slice hr
        rw [ev] at hr
        have hl : (VaultItems.begL L).length = j + 1 := by unfold VaultItems.begL; rw [List.length_map, List.length_range, HJ.out]
        obtain ⟨adb, eb, hcell⟩ := Kd.at_int (Kd.R_reads' hr).2.2 (i : Int) (by omega) (by rw [hl]; omega)
        rw [show rd (VaultItems.begL L) (i : Int) = VaultItems.sumE (L.take i) from VaultItems.begL_get L (L.length + 1) i (by rw [HJ.out]; omega), Int.toNat_natCast] at hcell
        subst eb
        rw [hl] at ev
        exact ⟨adb, cb, by rw [he, ev], hcell, hb⟩
      generalize VaultItems.itemE cs L rest i = r at *
      obtain ⟨r1, r2⟩ := r
      have HBY : AsideFi (∀ W : World, Below w1.heap.size w1 W → Calls Tryd.prog 34 #[.agg #[.string (L.getD i z67).f0, .int .i64 (L.getD i z67).f1, .int .i64 (L.getD i z67).f2], .slice A1 m c1, .int .i64 (VaultItems.sumE (L.take i))] W fun e w' => ∃ (A4 : Option Addr) (c4 : Nat), e = .returned (.tuple #[.slice A4 r1.length c4, .int .i64 r2]) ∧ Kd.C (Kd.int .u8) w' A4 r1.length r1 ∧ Below W.heap.size W w') := by
        refine ⟨fun W hW => ?_⟩
        have h := vault_entry_bytes.calls K _ _ _ A1 c1 rest _ _ _ W (by have h := Kd.C_below HC1.out.2 (below_step HB1.out hW); rwa [← HM.out] at h) (by rw [HM.out]; exact HC1.out.1) (HGL.out.of_below (below_step HB1.out hW)) hI
        rw [HM.out] at h
        refine h.mono fun e w' ⟨v0, he, hr, hb⟩ => ?_
        obtain ⟨A4, c4, ev⟩ := Kd.R_slice hr
        rw [ev] at hr
        exact ⟨A4, c4, by rw [he, ev], (Kd.R_reads' hr).2.2, hb⟩
      clear hI HIT HBE HSE
      have hsm := VaultItems.sum_small HS.out i
      generalize VaultItems.sumE (L.take i) = fr at *
      generalize L.getD i z67 = ent at *
      obtain ⟨nm, sz, sm⟩ := ent
      dsimp only at HBG HBY f0 f1 f2
      have hi0 : (0 : Int) ≤ (i : Int) := by omega
      have hi1 : (i : Int) < (j : Int) := by omega
      have hi2 : (i : Int) < (j : Int) + 1 := by omega
      have hi3 : (i : Int) < ((j + 1 : Nat) : Int) := by omega
      go_upto_region 7 with (fail)
      refine start_ (n := 15) (S := fun w' => w'.cell? (ad.add (i * 3)) = some (.string nm) ∧ w'.cell? ⟨(ad.add (i * 3)).block, (ad.add (i * 3)).off + 1, none⟩ = some (.int .i64 sz) ∧ w'.cell? ⟨(ad.add (i * 3)).block, (ad.add (i * 3)).off + 2, none⟩ = some (.int .i64 sm) ∧ AsideFi (Below w1.heap.size w1 w')) (ds := []) #[false, false, false, false, false, false, false, false, false, false, false, false, false, false, false] (by kernel_rfl) rfl rfl ⟨f0, f1, f2, HB2d⟩ (fun hHeld => ?_)
      refine pure_ (i := 0) (N := some 28) (v := ?_) (a' := ?_) #[true, false, false, false, false, false, false, false, false, false, false, false, false, false, false] rfl rfl (by kernel_rfl) (fun _ _ _ h => h) (Or.inl ⟨by rfl, ?_⟩) ?_ ?_
      rotate_left
      · intro w'
        go_simp
        with_reducible rfl
      rotate_left
      · simp only [Act.put, List.setIfInBounds_toArray, List.set_cons_zero, List.set_cons_succ, i64_w, i32_w]
        rfl
      refine pure_ (i := 1) (N := some 29) (v := ?_) (a' := ?_) #[true, true, false, false, false, false, false, false, false, false, false, false, false, false, false] rfl rfl (by kernel_rfl) (fun _ _ _ h => h) (Or.inl ⟨by rfl, ?_⟩) ?_ ?_
      rotate_left
      · intro w'
        go_simp
        with_reducible rfl
      rotate_left
      · simp only [Act.put, List.setIfInBounds_toArray, List.set_cons_zero, List.set_cons_succ, i64_w, i32_w]
        rfl
      refine pure_ (i := 2) (N := some 30) (v := ?_) (a' := ?_) #[true, true, true, false, false, false, false, false, false, false, false, false, false, false, false] rfl rfl (by kernel_rfl) (fun _ _ _ h => h) (Or.inl ⟨by rfl, ?_⟩) ?_ ?_
      rotate_left
      · intro w'
        go_simp
        with_reducible rfl
      rotate_left
      · simp only [Act.put, List.setIfInBounds_toArray, List.set_cons_zero, List.set_cons_succ, i64_w, i32_w]
        rfl
      refine pure_ (i := 4) (N := some 32) (v := ?_) (a' := ?_) #[true, true, true, false, true, false, false, false, false, false, false, false, false, false, false] rfl rfl (by kernel_rfl) (fun _ _ _ h => h) (Or.inl ⟨by rfl, ?_⟩) ?_ ?_
      rotate_left
      · intro w'
        go_simp
        with_reducible rfl
      rotate_left
      · simp only [Act.put, List.setIfInBounds_toArray, List.set_cons_zero, List.set_cons_succ, i64_w, i32_w]
        rfl
      refine pure_ (i := 5) (N := some 33) (v := ?_) (a' := ?_) #[true, true, true, false, true, true, false, false, false, false, false, false, false, false, false] rfl rfl (by kernel_rfl) (fun _ _ _ h => h) (Or.inl ⟨by rfl, ?_⟩) ?_ ?_
      rotate_left
      · intro w'
        go_simp
        with_reducible rfl
      rotate_left
      · simp only [Act.put, List.setIfInBounds_toArray, List.set_cons_zero, List.set_cons_succ, i64_w, i32_w]
        rfl
      refine pure_ (i := 7) (N := some 35) (v := ?_) (a' := ?_) #[true, true, true, false, true, true, false, true, false, false, false, false, false, false, false] rfl rfl (by kernel_rfl) (fun _ _ _ h => h) (Or.inl ⟨by rfl, ?_⟩) ?_ ?_
      rotate_left
      · intro w'
        go_simp
        with_reducible rfl
      rotate_left
      · simp only [Act.put, List.setIfInBounds_toArray, List.set_cons_zero, List.set_cons_succ, i64_w, i32_w]
        rfl
      refine take_ (i := 3) (N := some 31) (v := ?_) (a' := ?_) #[true, true, true, true, true, true, false, true, false, false, false, false, false, false, false] rfl rfl (by kernel_rfl) (fun _ _ _ h => h) (Or.inl ⟨by rfl, ?_⟩) hHeld ?_ ?_
      rotate_left
      · rintro w' ⟨s0, s1, s2, s3⟩
        go_simp
        with_reducible rfl
      rotate_left
      · simp only [Act.put, List.setIfInBounds_toArray, List.set_cons_zero, List.set_cons_succ, i64_w, i32_w]
        rfl
      refine one_ (i := 6) (N := some 34) #[true, true, true, true, true, true, true, true, false, false, false, false, false, false, false] rfl rfl (by kernel_rfl) (by decide) (fun K hK => ?_)
      refine goes_ Tryd.func33 (by kernel_rfl) rfl #[.slice (some ad) j cL] (by rfl) rfl rfl (by simp only [List.map_toArray, List.map_cons, List.map_nil]; rfl) ?_
      with_reducible refine (HBG.out _ hHeld.2.2.2.out).mono ?_
      rintro e w3 ⟨adb, cb, rfl, hbc, hb⟩
      refine ⟨_, rfl, ?_⟩
      refine hK.out _ _ ⟨pw_cell_below hb hHeld.1, pw_cell_below hb hHeld.2.1, pw_cell_below hb hHeld.2.2.1, ⟨below_step hHeld.2.2.2.out hb⟩⟩ (fun hHeld => ?_)
      clear hK K
      refine norm_ (a' := ?_) ?_ ?_
      rotate_left
      · show Act.put _ (some 34) _ = _
        simp only [Act.put, List.setIfInBounds_toArray, List.set_cons_zero, List.set_cons_succ, i64_w, i32_w]
        rfl
      refine pure_ (i := 8) (N := some 36) (v := ?_) (a' := ?_) #[true, true, true, true, true, true, true, true, true, false, false, false, false, false, false] rfl rfl (by kernel_rfl) (fun _ _ _ h => h) (Or.inl ⟨by rfl, ?_⟩) ?_ ?_
      rotate_left
      · intro w'
        go_simp
        with_reducible rfl
      rotate_left
      · simp only [Act.put, List.setIfInBounds_toArray, List.set_cons_zero, List.set_cons_succ, i64_w, i32_w]
        rfl
      refine one_ (i := 9) (N := some 37) #[true, true, true, true, true, true, true, true, true, true, false, false, false, false, false] rfl rfl (by kernel_rfl) (by decide) (fun K hK => ?_)
      refine value_ (w1 := ?_) (v := ?_) (by rfl) rfl ?_ ?_
      rotate_left 2
      · go_simp
        constructor
        · rfl
        · rfl
      refine hK.out _ _ ⟨hHeld.1, hHeld.2.1, hHeld.2.2.1, hHeld.2.2.2⟩ (fun hHeld => ?_)
      clear hK K
      refine norm_ (a' := ?_) ?_ ?_
      rotate_left
      · show Act.put _ (some 37) _ = _
        simp only [Act.put, List.setIfInBounds_toArray, List.set_cons_zero, List.set_cons_succ, i64_w, i32_w]
        rfl
      refine one_ (i := 10) (N := some 38) #[true, true, true, true, true, true, true, true, true, true, true, false, false, false, false] rfl rfl (by kernel_rfl) (by decide) (fun K hK => ?_)
      refine goes_ Tryd.func34 (by kernel_rfl) rfl #[.agg #[.string nm, .int .i64 sz, .int .i64 sm], .slice A1 m c1, .int .i64 fr] (by rfl) rfl rfl (by simp only [List.map_toArray, List.map_cons, List.map_nil]; rfl) ?_
      with_reducible refine (HBY.out _ hHeld.2.2.2.out).mono ?_
      rintro e w4 ⟨A4, c4, rfl, hr4, hb⟩
      refine ⟨_, rfl, ?_⟩
      refine hK.out _ _ ⟨pw_cell_below hb hHeld.1, pw_cell_below hb hHeld.2.1, pw_cell_below hb hHeld.2.2.1, ⟨below_step hHeld.2.2.2.out hb⟩⟩ (fun hHeld => ?_)
      clear hK K
      refine norm_ (a' := ?_) ?_ ?_
      rotate_left
      · show Act.put _ (some 38) _ = _
        simp only [Act.put, List.setIfInBounds_toArray, List.set_cons_zero, List.set_cons_succ, i64_w, i32_w]
        rfl
      refine pure_ (i := 11) (N := some 39) (v := ?_) (a' := ?_) #[true, true, true, true, true, true, true, true, true, true, true, true, false, false, false] rfl rfl (by kernel_rfl) (fun _ _ _ h => h) (Or.inl ⟨by rfl, ?_⟩) ?_ ?_
      rotate_left
      · intro w'
        go_simp
        with_reducible rfl
      rotate_left
      · simp only [Act.put, List.setIfInBounds_toArray, List.set_cons_zero, List.set_cons_succ, i64_w, i32_w]
        rfl
      refine pure_ (i := 12) (N := some 40) (v := ?_) (a' := ?_) #[true, true, true, true, true, true, true, true, true, true, true, true, true, false, false] rfl rfl (by kernel_rfl) (fun _ _ _ h => h) (Or.inl ⟨by rfl, ?_⟩) ?_ ?_
      rotate_left
      · intro w'
        go_simp
        with_reducible rfl
      rotate_left
      · simp only [Act.put, List.setIfInBounds_toArray, List.set_cons_zero, List.set_cons_succ, i64_w, i32_w]
        rfl
      refine pure_ (i := 13) (N := some 4) (v := ?_) (a' := ?_) #[true, true, true, true, true, true, true, true, true, true, true, true, true, true, false] rfl rfl (by kernel_rfl) (fun _ _ _ h => h) (Or.inl ⟨by rfl, ?_⟩) ?_ ?_
      rotate_left
      · intro w'
        go_simp
        with_reducible rfl
      rotate_left
      · simp only [Act.put, List.setIfInBounds_toArray, List.set_cons_zero, List.set_cons_succ, i64_w, i32_w]
        rfl
      refine pure_ (i := 14) (N := some 5) (v := ?_) (a' := ?_) #[true, true, true, true, true, true, true, true, true, true, true, true, true, true, true] rfl rfl (by kernel_rfl) (fun _ _ _ h => h) (Or.inl ⟨by rfl, ?_⟩) ?_ ?_
      rotate_left
      · intro w'
        go_simp
        with_reducible rfl
      rotate_left
      · simp only [Act.put, List.setIfInBounds_toArray, List.set_cons_zero, List.set_cons_succ, i64_w, i32_w]
        rfl
      refine done_ (by kernel_rfl) ?_
      go_wp2_with (fail)
      go_ret2
      rw [HFV.out]
      exact ⟨A4, c4, rfl, hr4, below_step HB1.out hHeld.2.2.2.out⟩
  · have hne : (code != 0) = true := bne_iff_ne.mpr hcode
    have hne2 : (code == 0) = false := beq_eq_false_iff_ne.mpr hcode
    go_wp2_with (fail)
    go_ret2
    rw [VaultItems.findV_bad HO.out hcode]
    exact find_err HB1.out
structure AsideRi (p : Prop) : Prop where mk :: (out : p)
theorem toR_get (L : List S67) (i : Nat) (hi : i < L.length) : rd_T31 (L.map toR) (i : Int) = toR (L.getD i z67) := by
  unfold rd_T31
  rw [Int.toNat_natCast, List.getD_eq_getElem?_getD, List.getElem?_map, List.getD_eq_getElem?_getD, List.getElem?_eq_getElem hi]
  rfl
theorem item_eq (cs : List Int → Int) (L : List S67) (rest : List Int) (i : Nat) {f s : Nat} {m : Int} (hf : VaultItems.sumE (L.take i) = (f : Int)) (hs : (L.getD i z67).f1 = (s : Int)) (hm : (L.getD i z67).f2 = m) : VaultItems.itemE cs L rest i = if rest.length < f + s then ([], 3) else if cs ((rest.drop f).take s) = m then ((rest.drop f).take s, 0) else ([], 13) := by
  unfold VaultItems.itemE
  rw [hf, hs, hm]
  simp only [Int.toNat_natCast]
/-- What the document's answer gives: bytes that lay there before, and the error. -/
def ItemPost (w0 w : World) (r : List Int × Int) (e : Ending) (w' : World) : Prop := ∃ A' c', e = .returned (.tuple #[.slice A' r.1.length c', .int .i64 r.2]) ∧ r.1.length ≤ c' ∧ Kd.C (Kd.int .u8) w0 A' r.1.length r.1 ∧ Below w.heap.size w w'
theorem item_err {w0 w w' : World} {x : Int} (h : Below w.heap.size w w') : ItemPost w0 w ([], x) (.returned (.tuple #[.slice none 0 0, .int .i64 x])) w' := ⟨none, 0, rfl, Nat.le_refl _, C_none, h⟩
theorem item_ok {w0 w w' : World} {r : List Int} {k c' : Nat} {A' : Option Addr} (hl : r.length = k) (hc : k ≤ c') (hC : Kd.C (Kd.int .u8) w0 A' k r) (h : Below w.heap.size w w') : ItemPost w0 w (r, 0) (.returned (.tuple #[.slice A' k c', .int .i64 0])) w' := by
  subst hl
  exact ⟨A', c', rfl, hc, hC, h⟩
set_option maxRecDepth 100000 in
set_option maxHeartbeats 4000000 in
theorem ref_item.gives (K : Nat) (cs : List Int → Int) (A : Option Addr) (b : List Int) (n c : Nat) (AL : Option Addr) (cL j : Nat) (L : List S67) (a i : Nat) (w0 w : World) (hB : Below w0.heap.size w0 w) (hc : n ≤ c) (hn : n ≤ 1000000) (hR : Kd.C (Kd.int .u8) w0 A n b) (hby : ∀ x ∈ b, 0 ≤ x ∧ x < 256) (hS : VaultItems.Sized L) (hi : i < j) (ha : a ≤ n) (hRL : Kd.C k31 w AL j (L.map toR))
    (hcs : ∀ l : List Int, (∀ x ∈ l, 0 ≤ x ∧ x < 256) → l.length ≤ n → sackbutref04_Sum.f K l = some (cs l) ∧ 0 ≤ cs l ∧ cs l < 4294967296) :
    Calls Tryd.prog 36 #[.slice A n c, .slice AL j cL, .int .i64 (a : Int), .int .i64 (i : Int)] w (ItemPost w0 w (VaultItems.itemE cs L (b.drop a) i)) := by
  have hbn : b.length = n := hR.1
  have hj : L.length = j := by have := hRL.1; rwa [List.length_map] at this
  have hi255 : i ≤ 255 := by have := hS.1; omega
  have HSZ := AsideRi.mk (fun (t : Nat) (ht : t < j) => hS.2 _ (VaultItems.mem_get (L := L) (i := t) (by omega)))
  have HST := AsideRi.mk (fun (t : Nat) (ht : t < j) => VaultItems.sumE_step L t (by omega))
  have HSM := AsideRi.mk (fun (t : Nat) => VaultItems.sum_small hS t)
  have HRD := AsideRi.mk (fun (t : Nat) (ht : t < j) => toR_get L t (by omega))
  have HRL := AsideRi.mk hRL
  have HR := AsideRi.mk hR
  have HBB := AsideRi.mk hB
  have HBY := AsideRi.mk hby
  have HCS := AsideRi.mk hcs
  have HBN := AsideRi.mk hbn
  have hs0 : VaultItems.sumE (L.take 0) = 0 := rfl
  have HS0 := AsideRi.mk hs0
  clear hRL hR hB hby hcs hS hj hbn hs0
  go_enter Tryd.func36, Tryd.ntmps36
  go_wp2
  go_loop [2, 10] (fun u v => ∃ t : Nat, t ≤ i ∧ v = .int .i64 t ∧ u = .int .i64 ((a : Int) + VaultItems.sumE (L.take t))) (fun _ v => i - (intOf v).toNat)
  case atStart => exact ⟨0, Nat.zero_le _, rfl, by rw [HS0.out]; simp⟩
  case round =>
    obtain ⟨t, ht, rfl, rfl⟩ := hrel
    by_cases hlt : t < i
    · obtain ⟨ad, e, _, f1, _⟩ := at_T31 HRL.out (t : Int) (by omega) (by omega)
      subst e
      rw [HRD.out t (by omega), Int.toNat_natCast] at f1
      have f1' : w.cell? ⟨(ad.add (t * 3)).block, (ad.add (t * 3)).off + 1, none⟩ = some (.int .i64 (L.getD t z67).f1) := f1
      clear f1
      have HN := AsideRi.mk (HST.out t (by omega))
      obtain ⟨z0, z1, _⟩ := HSZ.out t (by omega)
      obtain ⟨s0, s1⟩ := HSM.out t
      generalize (L.getD t z67).f1 = z at *
      generalize VaultItems.sumE (L.take t) = q at *
      go_wp2
      go_round
      case rel => exact ⟨t + 1, by omega, by go_num, by rw [HN.out]; first | rfl | (congr 1; omega)⟩
      case measure => simp [intOf]; omega
    · obtain rfl : t = i := by omega
      obtain ⟨ad, e, _, f1, f2⟩ := at_T31 HRL.out (t : Int) (by omega) (by omega)
      subst e
      rw [HRD.out t (by omega), Int.toNat_natCast] at f1 f2
      have f1' : w.cell? ⟨(ad.add (t * 3)).block, (ad.add (t * 3)).off + 1, none⟩ = some (.int .i64 (L.getD t z67).f1) := f1
      have f2' : w.cell? ⟨(ad.add (t * 3)).block, (ad.add (t * 3)).off + 2, none⟩ = some (.int .i64 (L.getD t z67).f2) := f2
      clear f1 f2
      obtain ⟨z0, z1, z2, z3⟩ := HSZ.out t (by omega)
      obtain ⟨s0, s1⟩ := HSM.out t
      obtain ⟨f, hf⟩ : ∃ f : Nat, VaultItems.sumE (L.take t) = (f : Int) := ⟨(VaultItems.sumE (L.take t)).toNat, by omega⟩
      obtain ⟨s, hs⟩ : ∃ s : Nat, (L.getD t z67).f1 = (s : Int) := ⟨(L.getD t z67).f1.toNat, by omega⟩
      obtain ⟨sm, hm⟩ : ∃ sm, (L.getD t z67).f2 = sm := ⟨_, rfl⟩
      have HIT := AsideRi.mk (item_eq cs L (b.drop a) t hf hs hm)
      rw [hf] at s0 s1 ⊢
      rw [hs] at f1' z0 z1
      rw [hm] at f2' z2 z3
      clear hf hs hm ht hlt
      have HB0 := AsideRi.mk (Below.refl w.heap.size w)
      obtain ⟨p, hp⟩ : ∃ p : Int, (a : Int) + (f : Int) = p := ⟨_, rfl⟩
      obtain ⟨z, hz⟩ : ∃ z : Int, (s : Int) = z := ⟨_, rfl⟩
      rw [hp]
      rw [hz] at f1' z0 z1
      have p0 : 0 ≤ p := by omega
      have p1 : p ≤ 4279190080 := by omega
      by_cases hlen : n < a + f + s
      · have hr : VaultItems.itemE cs L (b.drop a) t = ([], 3) := by rw [HIT.out, if_pos (by rw [List.length_drop, HBN.out]; omega)]
        have HRR := AsideRi.mk hr
        have hgt : (n : Int) < p + z := by omega
        clear hr HIT hp hz hlen s0 s1
        go_wp2
        go_ret2
        rw [HRR.out]
        exact item_err HB0.out
      · obtain ⟨A5, h5, r5⟩ := cut_mid A n c (a + f) (a + f + s) (by omega) (by omega) hc
        rw [show a + f + s - (a + f) = s by omega] at h5 r5
        have hol : ((b.drop (a + f)).take s).length = s := by rw [List.length_take, List.length_drop, HBN.out]; omega
        have hob : ∀ x ∈ (b.drop (a + f)).take s, 0 ≤ x ∧ x < 256 := fun x hx => HBY.out x (List.mem_of_mem_drop (List.mem_of_mem_take hx))
        obtain ⟨q1, q2, q3⟩ := HCS.out _ hob (by rw [hol]; omega)
        have hC5 := r5 _ _ HR.out
        have HSUM : AsideRi (∀ W : World, Below w.heap.size w W → Calls Tryd.prog 25 #[.slice A5 s (c - (a + f))] W fun e w' => e = .returned (.int .u32 (cs ((b.drop (a + f)).take s))) ∧ Drawn0 W w') := by
          refine ⟨fun W hW => ?_⟩
          have h := sackbutref04_Sum.calls K A5 (c - (a + f)) ((b.drop (a + f)).take s) _ W (by rw [hol]; exact Kd.C_below hC5 (below_then HBB.out HBB.out.size hW)) (by rw [hol]; omega) q1
          rwa [hol] at h
        have hr : VaultItems.itemE cs L (b.drop a) t = if cs ((b.drop (a + f)).take s) = sm then ((b.drop (a + f)).take s, 0) else ([], 13) := by
          rw [HIT.out, if_neg (by rw [List.length_drop, HBN.out]; omega), List.drop_drop]
        have HRR := AsideRi.mk hr
        have HC5 := AsideRi.mk (And.intro hol hC5)
        generalize cs ((b.drop (a + f)).take s) = y at *
        generalize (b.drop (a + f)).take s = out at *
        clear hr HIT hob q1 r5 hC5 hol
        obtain ⟨cc, hcc⟩ : ∃ cc, c - (a + f) = cc := ⟨_, rfl⟩
        have hsc : s ≤ cc := by omega
        rw [hcc] at h5 HSUM
        clear hcc
        have e1 : ((a + f : Nat) : Int) = p := by omega
        have e2 : ((a + f + s : Nat) : Int) = p + z := by omega
        rw [e1, e2] at h5
        have hk1 : p + z ≤ (n : Int) := by omega
        clear e1 e2 hp hz hlen s0 s1
        go_upto_region 8 with (fail)
        have HSd := AsideRi.mk (below_drew HB0.out)
        have f2d := pw_cell_below HSd.out f2'
        have hwy : IntKind.i64.wrap y = y := by rw [IntKind.wrap_i64]; omega
        have hwy2 : wrap64 y = y := by unfold wrap64; omega
        have ti0 : (0 : Int) ≤ (t : Int) := by omega
        have ti1 : (t : Int) < (j : Int) := by omega
        by_cases hxy : y = sm
        · have hne : (y != sm) = false := bne_eq_false_iff_eq.mpr hxy
          have hne3 : (y == sm) = true := beq_iff_eq.mpr hxy
          have HXY := AsideRi.mk hxy
          clear hxy
          refine start_ (n := 9) (S := fun w' => w'.cell? ⟨(ad.add (t * 3)).block, (ad.add (t * 3)).off + 2, none⟩ = some (.int .i64 sm) ∧ AsideRi (Below w.heap.size w w')) (ds := []) #[false, false, false, false, false, false, false, false, false] (by kernel_rfl) rfl rfl ⟨f2d, HSd⟩ (fun hHeld => ?_)
          refine pure_ (i := 0) (N := some 44) (v := ?_) (a' := ?_) #[true, false, false, false, false, false, false, false, false] rfl rfl (by kernel_rfl) (fun _ _ _ h => h) (Or.inl ⟨by rfl, ?_⟩) ?_ ?_
          rotate_left
          · intro w'
            go_simp
            with_reducible rfl
          rotate_left
          · simp only [Act.put, List.setIfInBounds_toArray, List.set_cons_zero, List.set_cons_succ, i64_w, i32_w]
            rfl
          refine pure_ (i := 3) (N := some 47) (v := ?_) (a' := ?_) #[true, false, false, true, false, false, false, false, false] rfl rfl (by kernel_rfl) (fun _ _ _ h => h) (Or.inl ⟨by rfl, ?_⟩) ?_ ?_
          rotate_left
          · intro w'
            go_simp
            with_reducible rfl
          rotate_left
          · simp only [Act.put, List.setIfInBounds_toArray, List.set_cons_zero, List.set_cons_succ, i64_w, i32_w]
            rfl
          refine pure_ (i := 4) (N := some 48) (v := ?_) (a' := ?_) #[true, false, false, true, true, false, false, false, false] rfl rfl (by kernel_rfl) (fun _ _ _ h => h) (Or.inl ⟨by rfl, ?_⟩) ?_ ?_
          rotate_left
          · intro w'
            go_simp
            with_reducible rfl
          rotate_left
          · simp only [Act.put, List.setIfInBounds_toArray, List.set_cons_zero, List.set_cons_succ, i64_w, i32_w]
            rfl
          refine pure_ (i := 5) (N := some 49) (v := ?_) (a' := ?_) #[true, false, false, true, true, true, false, false, false] rfl rfl (by kernel_rfl) (fun _ _ _ h => h) (Or.inl ⟨by rfl, ?_⟩) ?_ ?_
          rotate_left
          · intro w'
            go_simp
            with_reducible rfl
          rotate_left
          · simp only [Act.put, List.setIfInBounds_toArray, List.set_cons_zero, List.set_cons_succ, i64_w, i32_w]
            rfl
          refine pure_ (i := 6) (N := some 50) (v := ?_) (a' := ?_) #[true, false, false, true, true, true, true, false, false] rfl rfl (by kernel_rfl) (fun _ _ _ h => h) (Or.inl ⟨by rfl, ?_⟩) ?_ ?_
          rotate_left
          · intro w'
            go_simp
            with_reducible rfl
          rotate_left
          · simp only [Act.put, List.setIfInBounds_toArray, List.set_cons_zero, List.set_cons_succ, i64_w, i32_w]
            rfl
          refine take_ (i := 7) (N := some 51) (v := ?_) (a' := ?_) #[true, false, false, true, true, true, true, true, false] rfl rfl (by kernel_rfl) (fun _ _ _ h => h) (Or.inl ⟨by rfl, ?_⟩) hHeld ?_ ?_
          rotate_left
          · rintro w' ⟨s0, s1⟩
            go_simp
            with_reducible rfl
          rotate_left
          · simp only [Act.put, List.setIfInBounds_toArray, List.set_cons_zero, List.set_cons_succ, i64_w, i32_w]
            rfl
          refine one_ (i := 1) (N := some 45) #[true, true, false, true, true, true, true, true, false] rfl rfl (by kernel_rfl) (by decide) (fun K hK => ?_)
          refine goes_ Tryd.func25 (by kernel_rfl) rfl #[.slice A5 s cc] (by rfl) rfl rfl (by simp only [List.map_toArray, List.map_cons, List.map_nil]; rfl) ?_
          with_reducible refine (HSUM.out _ hHeld.2.out).mono ?_
          rintro e w3 ⟨rfl, hd⟩
          refine ⟨_, rfl, ?_⟩
          refine hK.out _ _ ⟨pw_cell_below hd.below hHeld.1, ⟨below_step hHeld.2.out hd.below⟩⟩ (fun hHeld => ?_)
          clear hK K
          refine norm_ (a' := ?_) ?_ ?_
          rotate_left
          · show Act.put _ (some 45) _ = _
            simp only [Act.put, List.setIfInBounds_toArray, List.set_cons_zero, List.set_cons_succ, i64_w, i32_w]
            rfl
          refine pure_ (i := 2) (N := some 46) (v := ?_) (a' := ?_) #[true, true, true, true, true, true, true, true, false] rfl rfl (by kernel_rfl) (fun _ _ _ h => h) (Or.inl ⟨by rfl, ?_⟩) ?_ ?_
          rotate_left
          · intro w'
            go_simp
            with_reducible rfl
          rotate_left
          · simp only [Act.put, List.setIfInBounds_toArray, List.set_cons_zero, List.set_cons_succ, i64_w, i32_w]
            rfl
          refine pure_ (i := 8) (N := some 52) (v := ?_) (a' := ?_) #[true, true, true, true, true, true, true, true, true] rfl rfl (by kernel_rfl) (fun _ _ _ h => h) (Or.inl ⟨by rfl, ?_⟩) ?_ ?_
          rotate_left
          · intro w'
            go_simp
            with_reducible rfl
          rotate_left
          · simp only [Act.put, List.setIfInBounds_toArray, List.set_cons_zero, List.set_cons_succ, i64_w, i32_w]
            rfl
          refine done_ (by kernel_rfl) ?_
          go_wp2_with (fail)
          go_ret2
          rw [HRR.out, if_pos HXY.out]
          exact item_ok HC5.out.1 hsc HC5.out.2 hHeld.2.out
        · have hne : (y != sm) = true := bne_iff_ne.mpr hxy
          have hne3 : (y == sm) = false := beq_eq_false_iff_ne.mpr hxy
          have HXY := AsideRi.mk hxy
          clear hxy
          refine start_ (n := 9) (S := fun w' => w'.cell? ⟨(ad.add (t * 3)).block, (ad.add (t * 3)).off + 2, none⟩ = some (.int .i64 sm) ∧ AsideRi (Below w.heap.size w w')) (ds := []) #[false, false, false, false, false, false, false, false, false] (by kernel_rfl) rfl rfl ⟨f2d, HSd⟩ (fun hHeld => ?_)
          refine pure_ (i := 0) (N := some 44) (v := ?_) (a' := ?_) #[true, false, false, false, false, false, false, false, false] rfl rfl (by kernel_rfl) (fun _ _ _ h => h) (Or.inl ⟨by rfl, ?_⟩) ?_ ?_
          rotate_left
          · intro w'
            go_simp
            with_reducible rfl
          rotate_left
          · simp only [Act.put, List.setIfInBounds_toArray, List.set_cons_zero, List.set_cons_succ, i64_w, i32_w]
            rfl
          refine pure_ (i := 3) (N := some 47) (v := ?_) (a' := ?_) #[true, false, false, true, false, false, false, false, false] rfl rfl (by kernel_rfl) (fun _ _ _ h => h) (Or.inl ⟨by rfl, ?_⟩) ?_ ?_
          rotate_left
          · intro w'
            go_simp
            with_reducible rfl
          rotate_left
          · simp only [Act.put, List.setIfInBounds_toArray, List.set_cons_zero, List.set_cons_succ, i64_w, i32_w]
            rfl
          refine pure_ (i := 4) (N := some 48) (v := ?_) (a' := ?_) #[true, false, false, true, true, false, false, false, false] rfl rfl (by kernel_rfl) (fun _ _ _ h => h) (Or.inl ⟨by rfl, ?_⟩) ?_ ?_
          rotate_left
          · intro w'
            go_simp
            with_reducible rfl
          rotate_left
          · simp only [Act.put, List.setIfInBounds_toArray, List.set_cons_zero, List.set_cons_succ, i64_w, i32_w]
            rfl
          refine pure_ (i := 5) (N := some 49) (v := ?_) (a' := ?_) #[true, false, false, true, true, true, false, false, false] rfl rfl (by kernel_rfl) (fun _ _ _ h => h) (Or.inl ⟨by rfl, ?_⟩) ?_ ?_
          rotate_left
          · intro w'
            go_simp
            with_reducible rfl
          rotate_left
          · simp only [Act.put, List.setIfInBounds_toArray, List.set_cons_zero, List.set_cons_succ, i64_w, i32_w]
            rfl
          refine pure_ (i := 6) (N := some 50) (v := ?_) (a' := ?_) #[true, false, false, true, true, true, true, false, false] rfl rfl (by kernel_rfl) (fun _ _ _ h => h) (Or.inl ⟨by rfl, ?_⟩) ?_ ?_
          rotate_left
          · intro w'
            go_simp
            with_reducible rfl
          rotate_left
          · simp only [Act.put, List.setIfInBounds_toArray, List.set_cons_zero, List.set_cons_succ, i64_w, i32_w]
            rfl
          refine take_ (i := 7) (N := some 51) (v := ?_) (a' := ?_) #[true, false, false, true, true, true, true, true, false] rfl rfl (by kernel_rfl) (fun _ _ _ h => h) (Or.inl ⟨by rfl, ?_⟩) hHeld ?_ ?_
          rotate_left
          · rintro w' ⟨s0, s1⟩
            go_simp
            with_reducible rfl
          rotate_left
          · simp only [Act.put, List.setIfInBounds_toArray, List.set_cons_zero, List.set_cons_succ, i64_w, i32_w]
            rfl
          refine one_ (i := 1) (N := some 45) #[true, true, false, true, true, true, true, true, false] rfl rfl (by kernel_rfl) (by decide) (fun K hK => ?_)
          refine goes_ Tryd.func25 (by kernel_rfl) rfl #[.slice A5 s cc] (by rfl) rfl rfl (by simp only [List.map_toArray, List.map_cons, List.map_nil]; rfl) ?_
          with_reducible refine (HSUM.out _ hHeld.2.out).mono ?_
          rintro e w3 ⟨rfl, hd⟩
          refine ⟨_, rfl, ?_⟩
          refine hK.out _ _ ⟨pw_cell_below hd.below hHeld.1, ⟨below_step hHeld.2.out hd.below⟩⟩ (fun hHeld => ?_)
          clear hK K
          refine norm_ (a' := ?_) ?_ ?_
          rotate_left
          · show Act.put _ (some 45) _ = _
            simp only [Act.put, List.setIfInBounds_toArray, List.set_cons_zero, List.set_cons_succ, i64_w, i32_w]
            rfl
          refine pure_ (i := 2) (N := some 46) (v := ?_) (a' := ?_) #[true, true, true, true, true, true, true, true, false] rfl rfl (by kernel_rfl) (fun _ _ _ h => h) (Or.inl ⟨by rfl, ?_⟩) ?_ ?_
          rotate_left
          · intro w'
            go_simp
            with_reducible rfl
          rotate_left
          · simp only [Act.put, List.setIfInBounds_toArray, List.set_cons_zero, List.set_cons_succ, i64_w, i32_w]
            rfl
          refine pure_ (i := 8) (N := some 52) (v := ?_) (a' := ?_) #[true, true, true, true, true, true, true, true, true] rfl rfl (by kernel_rfl) (fun _ _ _ h => h) (Or.inl ⟨by rfl, ?_⟩) ?_ ?_
          rotate_left
          · intro w'
            go_simp
            with_reducible rfl
          rotate_left
          · simp only [Act.put, List.setIfInBounds_toArray, List.set_cons_zero, List.set_cons_succ, i64_w, i32_w]
            rfl
          refine done_ (by kernel_rfl) ?_
          go_wp2_with (fail)
          go_ret2
          rw [HRR.out, if_neg HXY.out]
          exact item_err hHeld.2.out
structure AsideRf (p : Prop) : Prop where mk :: (out : p)
set_option maxRecDepth 100000 in
set_option maxHeartbeats 4000000 in
theorem ref_find.gives (K : Nat) (cs : List Int → Int) (A : Option Addr) (b : List Int) (n c : Nat) (x : ByteArray) (w : World) (hc : n ≤ c) (hn : n ≤ 1000000) (hR : Kd.C (Kd.int .u8) w A n b) (hby : ∀ x ∈ b, 0 ≤ x ∧ x < 256)
    (hcs : ∀ l : List Int, (∀ x ∈ l, 0 ≤ x ∧ x < 256) → l.length ≤ n → sackbutref04_Sum.f K l = some (cs l) ∧ 0 ≤ cs l ∧ cs l < 4294967296)
    (hnum : ∀ l : List Int, l.length ≤ 4 → (∀ x ∈ l, 0 ≤ x ∧ x < 256) → sackbutref25_number.f K l = some (beL l)) (hri : ∀ s : ByteArray, s.size ≤ 1000 → sackbutref25_Right.f K s [] = some (namedB s)) :
    Calls Tryd.prog 22 #[.slice A n c, .string x] w (ItemPost w w (VaultItems.findV cs b x)) := by
  have hbn : b.length = n := hR.1
  obtain ⟨at_, hro, hrest, _⟩ := VaultOpen.open_eq cs b hby
  have HOP := AsideRf.mk (ref_open.gives K cs A b n c w hc hn hR hby (fun m hm => hcs (b.take m) (fun x hx => hby x (List.mem_of_mem_take hx)) (by rw [List.length_take]; omega)) hnum hri)
  rw [hro] at HOP
  have hS := VaultItems.open_sized cs b hby
  have hg := VaultItems.open_good cs b
  obtain ⟨r, hr⟩ : ∃ r, openS cs b = r := ⟨_, rfl⟩
  rw [hr] at HOP hS hg hrest
  obtain ⟨L, rest, code⟩ := r
  dsimp only at hS hg hrest HOP
  have HO := AsideRf.mk hr
  have HGD := AsideRf.mk hg
  have HRS := AsideRf.mk hrest
  obtain ⟨j, hj⟩ : ∃ j, L.length = j := ⟨_, rfl⟩
  have hj255 : j ≤ 255 := by rw [← hj]; exact hS.1
  have HJ := AsideRf.mk hj
  have HIT := AsideRf.mk (fun (W : World) (hW : Below w.heap.size w W) (AL : Option Addr) (cL t : Nat) (ht : t < j) (ha : at_ ≤ n) (hRL : Kd.C k31 W AL j (L.map toR)) => ref_item.gives K cs A b n c AL cL j L at_ t w W hW hc hn hR hby hS ht ha hRL hcs)
  have HBN := AsideRf.mk hbn
  have HRD := AsideRf.mk (fun (t : Nat) (ht : t < j) => toR_get L t (by omega))
  clear hR hby hcs hS hg hr hj hnum hri hro hrest hbn
  go_enter Tryd.func22, Tryd.ntmps22
  go_upto_region 2 with (go_at_call 9; (with_reducible refine (HOP.out).mono ?_); rintro e w1 ⟨v, rfl, hrow, hb⟩; obtain ⟨AL, cL, ev⟩ := Kd.R_slice hrow; rw [List.length_map, HJ.out] at ev; subst ev; have HRL := AsideRf.mk (Kd.R_reads' hrow).2.2; have HB1 := AsideRf.mk hb; clear hrow hb)
  by_cases hcode : code = 0
  · subst hcode
    obtain ⟨ha, hrs⟩ := HRS.out rfl
    rw [HBN.out] at ha
    have HRS2 := AsideRf.mk hrs
    clear hrs
    rw [List.length_map, HJ.out] at HRL
    go_wp2_with (fail)
    go_loop [21] (fun u => ∃ t : Nat, t ≤ j ∧ u = .int .i64 t ∧ AsideRf (∀ s, s < t → (L.getD s z67).f0.toList ≠ x.toList)) (fun u => j - (intOf u).toNat)
    case atStart => exact ⟨0, Nat.zero_le _, rfl, ⟨fun s hs => absurd hs (Nat.not_lt_zero _)⟩⟩
    case round =>
      obtain ⟨t, ht, rfl, HA⟩ := hrel
      by_cases hlt : t < j
      · obtain ⟨ad, e, f0, _, _⟩ := at_T31 HRL.out (t : Int) (by omega) (by omega)
        subst e
        rw [HRD.out t hlt, Int.toNat_natCast] at f0
        have f0' : w1.cell? (ad.add (t * 3)) = some (.string (L.getD t z67).f0) := f0
        clear f0
        have HI2 := AsideRf.mk (HIT.out w1 HB1.out (some ad) cL t hlt ha HRL.out)
        by_cases heq : (L.getD t z67).f0.toList = x.toList
        · have HFV := AsideRf.mk (VaultItems.findV_some HO.out (i := t) (by rw [HJ.out]; exact hlt) heq HA.out)
          rw [HRS2.out] at HFV
          have hq : ((L.getD t z67).f0.toList == x.toList) = true := beq_iff_eq.mpr heq
          generalize (L.getD t z67).f0 = nm at *
          clear heq
          go_wp2_with (go_at_call 36; refine (HI2.out).mono ?_; rintro e w2 ⟨A4, c4, rfl, hcc, hC4, hb4⟩; have HX := AsideRf.mk (And.intro hcc (And.intro hC4 hb4)); clear hcc hC4 hb4)
          go_ret2
          rw [HFV.out]
          exact ⟨A4, c4, rfl, HX.out.1, HX.out.2.1, below_step HB1.out HX.out.2.2⟩
        · have HNE := AsideRf.mk heq
          have hq : ((L.getD t z67).f0.toList == x.toList) = false := beq_eq_false_iff_ne.mpr heq
          have HAN : AsideRf (∀ s, s < t + 1 → (L.getD s z67).f0.toList ≠ x.toList) := ⟨fun s hs => (Nat.lt_or_ge s t).elim (fun h => HA.out s h) (fun h => (show s = t by omega) ▸ heq)⟩
          generalize (L.getD t z67).f0 = nm at f0' hq
          clear heq
          go_wp2_with (fail)
          go_round
          case rel => exact ⟨t + 1, by omega, by go_num, HAN⟩
          case measure => simp [intOf]; omega
      · obtain rfl : t = j := by omega
        have HFV := AsideRf.mk (VaultItems.findV_none HO.out (fun s hs => HA.out s (by rw [HJ.out] at hs; exact hs)))
        go_wp2_with (fail)
        go_ret2
        rw [HFV.out]
        exact item_err HB1.out
  · have hne : (code != 0) = true := bne_iff_ne.mpr hcode
    have hne2 : (code == 0) = false := beq_eq_false_iff_ne.mpr hcode
    go_wp2_with (fail)
    go_ret2
    rw [VaultItems.findV_bad HO.out hcode]
    exact item_err HB1.out

end Go.Proofs.YtibmccacebhhkaaDoor.HV

