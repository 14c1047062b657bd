/- VaultUnpacks: what the claim's theorem reaches of this seat's texts, part 15, put together by this project's own program (bale.py); conditions: those of each theorem. -/
import Derived.Test.YtibmccacebhhkaaDoorVVaultUnpacks5
import Derived.Test.YtibmccacebhhkaaDoorVVaultUnpacks10
import Derived.Test.YtibmccacebhhkaaDoorVVaultUnpacks12
import Derived.Test.YtibmccacebhhkaaDoorVVaultUnpacks13
import Derived.Test.YtibmccacebhhkaaDoorVVaultUnpacks14
import Derived.LoopTactic
import Derived.OwnWalk
import Derived.Shelf.Abstract
namespace Go.Proofs.YtibmccacebhhkaaDoor.VaultItems
set_option linter.unusedVariables false
open Go Go.RowKit Go.Proofs.YtibmccacebhhkaaDoor.HV Go.Proofs.YtibmccacebhhkaaDoorW.PrintWords Go.Proofs.YtibmccacebhhkaaDoorW.PrintLast

/-- All sizes together. -/
def sumE : List S67 → Int
  | [] => 0
  | e :: l => e.f1 + sumE l
def begL (L : List S67) : List Int := (List.range (L.length + 1)).map fun i => sumE (L.take i)
def Sized (L : List S67) : Prop := L.length ≤ 255 ∧ ∀ e ∈ L, 0 ≤ e.f1 ∧ e.f1 < 16777216 ∧ 0 ≤ e.f2 ∧ e.f2 < 4294967296
/-- The i-th item's bytes; what is wrong. -/
def itemE (cs : List Int → Int) (L : List S67) (rest : List Int) (i : Nat) : List Int × Int :=
  if rest.length < (sumE (L.take i)).toNat + (L.getD i z67).f1.toNat then ([], 3)
  else if cs ((rest.drop (sumE (L.take i)).toNat).take (L.getD i z67).f1.toNat) = (L.getD i z67).f2 then ((rest.drop (sumE (L.take i)).toNat).take (L.getD i z67).f1.toNat, 0) else ([], 13)
theorem sumE_range : ∀ (L : List S67), (∀ e ∈ L, 0 ≤ e.f1 ∧ e.f1 < 16777216) → 0 ≤ sumE L ∧ sumE L ≤ (L.length : Int) * 16777216
  | [], _ => ⟨Int.le_refl 0, by simp [sumE]⟩
  | e :: l, h => by
    have := sumE_range l (fun x hx => h x (by simp [hx]))
    have h0 := h e (by simp)
    simp only [sumE, List.length_cons]
    omega
theorem sumE_snoc : ∀ (L : List S67) (e : S67), sumE (L ++ [e]) = sumE L + e.f1
  | [], e => by simp [sumE]
  | x :: l, e => by
    simp only [List.cons_append, sumE, sumE_snoc l e]
    omega
theorem sumE_step (L : List S67) (i : Nat) (hi : i < L.length) : sumE (L.take (i + 1)) = sumE (L.take i) + (L.getD i z67).f1 := by
  rw [List.take_succ_eq_append_getElem hi, sumE_snoc, List.getD_eq_getElem?_getD, List.getElem?_eq_getElem hi]
  rfl
theorem sum_small {L : List S67} (hS : Sized L) (i : Nat) : 0 ≤ sumE (L.take i) ∧ sumE (L.take i) ≤ 4278190080 := by
  have := sumE_range (L.take i) (fun e he => ⟨(hS.2 e (List.mem_of_mem_take he)).1, (hS.2 e (List.mem_of_mem_take he)).2.1⟩)
  have h1 : (L.take i).length ≤ 255 := by rw [List.length_take]; have := hS.1; omega
  omega
theorem begL_snoc (L : List S67) (i : Nat) : (List.range (i + 1 + 1)).map (fun i => sumE (L.take i)) = (List.range (i + 1)).map (fun i => sumE (L.take i)) ++ [sumE (L.take (i + 1))] := by
  rw [List.range_succ, List.map_append]
  rfl
theorem begL_get (L : List S67) (m i : Nat) (h : i < m) : rd ((List.range m).map (fun i => sumE (L.take i))) (i : Int) = sumE (L.take i) := by
  unfold rd
  rw [Int.toNat_natCast, List.getD_eq_getElem?_getD, List.getElem?_map, List.getElem?_range h]
  rfl
theorem mem_get {L : List S67} {i : Nat} (hi : i < L.length) : L.getD i z67 ∈ L := by
  rw [List.getD_eq_getElem?_getD, List.getElem?_eq_getElem hi]
  exact List.getElem_mem _
theorem beg_loop (L : List S67) (hS : Sized L) : ∀ (d i : Nat), i + d = L.length → ∀ k, d < k → vault_begins.l0 k ((List.range (i + 1)).map (fun i => sumE (L.take i))) L (L.length : Int) (i : Int) = some (begL L)
  | 0, i, h, k, hk => by
    obtain ⟨k, rfl⟩ : ∃ m, k = m + 1 := ⟨k - 1, by omega⟩
    simp only [vault_begins.l0]
    rw [if_neg (by omega), show i = L.length by omega]
    rfl
  | d + 1, i, h, k, hk => by
    obtain ⟨k, rfl⟩ : ∃ m, k = m + 1 := ⟨k - 1, by omega⟩
    have hL := hS.1
    have hl : ((List.range (i + 1)).map (fun i => sumE (L.take i))).length = i + 1 := by simp
    have hm := hS.2 _ (mem_get (show i < L.length by omega))
    have hs := sum_small hS i
    simp only [vault_begins.l0]
    rw [hl, if_pos (by omega), if_pos (by omega), if_pos (by omega), if_pos (by omega), if_pos (by omega), begL_get L (i + 1) i (by omega)]
    have e1 : rd_T67 L (i : Int) = L.getD i z67 := by unfold rd_T67; rw [Int.toNat_natCast]
    rw [e1, show wrap64 (sumE (L.take i) + (L.getD i z67).f1) = sumE (L.take (i + 1)) by rw [sumE_step L i (by omega)]; unfold wrap64; omega, ← begL_snoc, show wrap64 ((i : Int) + 1) = ((i + 1 : Nat) : Int) by unfold wrap64; omega]
    exact beg_loop L hS d (i + 1) (by omega) k (by omega)
theorem beg_f (L : List S67) (hS : Sized L) (k : Nat) (hk : L.length < k) : vault_begins.f k L = some (begL L) := by
  have := beg_loop L hS L.length 0 (by omega) k hk
  unfold vault_begins.f
  exact this
theorem bytes_f (K : Nat) (cs : List Int → Int) (L : List S67) (rest : List Int) (i : Nat) (hS : Sized L) (hi : i < L.length) (hr : rest.length ≤ 1099511627776) (hby : ∀ x ∈ rest, 0 ≤ x ∧ x < 256) (hcs : ∀ l : List Int, (∀ x ∈ l, 0 ≤ x ∧ x < 256) → l.length ≤ rest.length → toll_Sum.f K l = some (cs l) ∧ 0 ≤ cs l ∧ cs l < 4294967296) :
    vault_entry_bytes.f K (L.getD i z67).f0 (L.getD i z67).f1 (L.getD i z67).f2 rest (sumE (L.take i)) = some (itemE cs L rest i) := by
  have hm := hS.2 _ (mem_get hi)
  have hs := sum_small hS i
  unfold vault_entry_bytes.f itemE
  generalize sumE (L.take i) = q at *
  generalize L.getD i z67 = e at *
  obtain ⟨f, rfl⟩ : ∃ f : Nat, q = (f : Int) := ⟨q.toNat, by omega⟩
  obtain ⟨e0, e1, e2⟩ := e
  dsimp only at *
  obtain ⟨s, rfl⟩ : ∃ s : Nat, e1 = (s : Int) := ⟨e1.toNat, by omega⟩
  have w1 : wrap64 ((rest.length : Int) - (f : Int)) = (rest.length : Int) - (f : Int) := by unfold wrap64; omega
  have w2 : wrap64 ((f : Int) + (s : Int)) = ((f + s : Nat) : Int) := by unfold wrap64; omega
  rw [w1, w2, Int.toNat_natCast, Int.toNat_natCast, Int.toNat_natCast]
  by_cases h : rest.length < f + s
  · rw [if_pos (by omega), if_pos h]
  · rw [if_neg (by omega), if_neg h, if_pos (by omega), if_pos (by omega), if_pos (by omega), List.drop_take, Nat.add_sub_cancel_left]
    have hlen : ((rest.drop f).take s).length ≤ rest.length := by rw [List.length_take, List.length_drop]; omega
    obtain ⟨c1, c2, c3⟩ := hcs ((rest.drop f).take s) (fun x hx => hby x (List.mem_of_mem_drop (List.mem_of_mem_take hx))) hlen
    rw [show slices_Clone_byte_byte.f ((rest.drop f).take s) = some ((rest.drop f).take s) from if_pos (by omega), Option.bind_some, c1, Option.bind_some, show wrap64 (cs ((rest.drop f).take s)) = cs ((rest.drop f).take s) by unfold wrap64; omega]
    by_cases h2 : cs ((rest.drop f).take s) = e2
    · rw [if_pos h2, if_pos h2]
    · rw [if_neg h2, if_neg h2]
/-! ### what opening gives -/
theorem pw_pos : ∀ m : Nat, 0 < (256 : Int) ^ m
  | 0 => by decide
  | m + 1 => by rw [Int.pow_succ]; have := pw_pos m; omega
theorem pw_le (m : Nat) : ∀ d : Nat, (256 : Int) ^ m ≤ 256 ^ (m + d)
  | 0 => Int.le_refl _
  | d + 1 => by rw [← Nat.add_assoc, Int.pow_succ]; have := pw_le m d; have := pw_pos (m + d); omega
theorem ents_sized (b : List Int) (hb : ∀ x ∈ b, 0 ≤ x ∧ x < 256) : ∀ j, ∀ e ∈ (ents b j).1, 0 ≤ e.f1 ∧ e.f1 < 16777216 ∧ 0 ≤ e.f2 ∧ e.f2 < 4294967296
  | 0, e, he => by simp [ents] at he
  | j + 1, e, he => by
    simp only [ents, List.mem_append, List.mem_singleton] at he
    rcases he with he | rfl
    · exact ents_sized b hb j e he
    · have key : ∀ (s : Nat × Bool) (k : Nat), 0 ≤ beL (tkB b s k) ∧ beL (tkB b s k) < 256 ^ k := fun s k => by
        have h1 := beL_range (tkB b s k) (fun x hx => hb x (tkB_mem hx))
        have h2 := tkB_le b s k
        have h3 : (256 : Int) ^ (tkB b s k).length ≤ 256 ^ k := by
          have := pw_le (tkB b s k).length (k - (tkB b s k).length)
          rwa [show (tkB b s k).length + (k - (tkB b s k).length) = k by omega] at this
        exact ⟨h1.1, Int.lt_of_lt_of_le h1.2 h3⟩
      have a1 := key (tk b.length (tk b.length (ents b j).2 1) (nmK b (ents b j).2)) 3
      have a2 := key (tk b.length (tk b.length (tk b.length (ents b j).2 1) (nmK b (ents b j).2)) 3) 4
      unfold enB
      dsimp only
      exact ⟨a1.1, a1.2, a2.1, a2.2⟩
theorem open_sized (cs : List Int → Int) (b : List Int) (hb : ∀ x ∈ b, 0 ≤ x ∧ x < 256) : Sized (openS cs b).1 := by
  refine ⟨VaultOpen.open_len cs b hb, fun e he => ?_⟩
  unfold openS at he
  split at he
  · simp at he
  · split at he
    · simp at he
    · split at he
      · split at he
        · exact ents_sized b hb _ e he
        · simp at he
      · simp at he
theorem open_good (cs : List Int → Int) (b : List Int) : goodE (openS cs b).1 = true := by
  unfold openS
  split
  · rfl
  · split
    · rfl
    · split
      · split
        · next h => exact h
        · rfl
      · rfl
theorem open_rest (cs : List Int → Int) (b : List Int) (h : (openS cs b).2.2 ≠ 0) : (openS cs b).2.1 = [] := by
  revert h
  unfold openS
  split
  · exact fun _ => rfl
  · split
    · exact fun _ => rfl
    · split
      · split
        · exact fun h => absurd rfl h
        · exact fun _ => rfl
      · exact fun _ => rfl
end Go.Proofs.YtibmccacebhhkaaDoor.VaultItems

namespace Go.Proofs.YtibmccacebhhkaaDoor.HV
open Go.RowKit Go.Proofs.YtibmccacebhhkaaDoorW.PrintWords Go.Proofs.YtibmccacebhhkaaDoorW.PrintLast Go.Proofs.YtibmccacebhhkaaDoorW.PrintMore
attribute [local go_sem] max2_int min2_int max_two min_two max_three min_three max_four min_four
set_option linter.unusedVariables false
set_option linter.unusedSimpArgs false
structure AsideFi (p : Prop) : Prop where mk :: (out : p)
theorem rd_get (L : List S67) (i : Nat) : rd_T67 L (i : Int) = L.getD i z67 := by unfold rd_T67; rw [Int.toNat_natCast]
structure AsideRi (p : Prop) : Prop where mk :: (out : p)
theorem toR_get (L : List S67) (i : Nat) (hi : i < L.length) : rd_T31 (L.map toR) (i : Int) = toR (L.getD i z67) := by
  unfold rd_T31
  rw [Int.toNat_natCast, List.getD_eq_getElem?_getD, List.getElem?_map, List.getD_eq_getElem?_getD, List.getElem?_eq_getElem hi]
  rfl
theorem item_eq (cs : List Int → Int) (L : List S67) (rest : List Int) (i : Nat) {f s : Nat} {m : Int} (hf : VaultItems.sumE (L.take i) = (f : Int)) (hs : (L.getD i z67).f1 = (s : Int)) (hm : (L.getD i z67).f2 = m) : VaultItems.itemE cs L rest i = if rest.length < f + s then ([], 3) else if cs ((rest.drop f).take s) = m then ((rest.drop f).take s, 0) else ([], 13) := by
  unfold VaultItems.itemE
  rw [hf, hs, hm]
  simp only [Int.toNat_natCast]
structure AsideRf (p : Prop) : Prop where mk :: (out : p)
end Go.Proofs.YtibmccacebhhkaaDoor.HV

namespace Go.Proofs.YtibmccacebhhkaaDoor.VaultUnp
set_option linter.unusedVariables false
open Go Go.RowKit Go.Proofs.YtibmccacebhhkaaDoor.HV Go.Proofs.YtibmccacebhhkaaDoor.VaultItems Go.Proofs.YtibmccacebhhkaaDoorW.PrintWords Go.Proofs.YtibmccacebhhkaaDoorW.PrintLast
/-- The items so far; the first thing wrong. -/
def itemsE (cs : List Int → Int) (L : List S67) (rest : List Int) : Nat → List S49 × Int
  | 0 => ([], 0)
  | i + 1 => if (itemsE cs L rest i).2 ≠ 0 then itemsE cs L rest i else if (itemE cs L rest i).2 = 0 then ((itemsE cs L rest i).1 ++ [⟨(L.getD i z67).f0, (itemE cs L rest i).1⟩], 0) else ([], (itemE cs L rest i).2)
def unpackV (cs : List Int → Int) (b : List Int) : List S49 × Int :=
  if (openS cs b).2.2 ≠ 0 then ([], (openS cs b).2.2)
  else if ((openS cs b).2.1.length : Int) < sumE (openS cs b).1 then ([], 3)
  else if sumE (openS cs b).1 < ((openS cs b).2.1.length : Int) then ([], 4)
  else itemsE cs (openS cs b).1 (openS cs b).2.1 (openS cs b).1.length
theorem itemsE_ok {cs : List Int → Int} {L : List S67} {rest : List Int} {i : Nat} {l : List S49} {r : List Int} (h : itemsE cs L rest i = (l, 0)) (hr : itemE cs L rest i = (r, 0)) : itemsE cs L rest (i + 1) = (l ++ [⟨(L.getD i z67).f0, r⟩], 0) := by
  simp only [itemsE, h, hr]
  rw [if_neg (fun hq => hq rfl), if_pos trivial]
theorem itemsE_bad {cs : List Int → Int} {L : List S67} {rest : List Int} {i : Nat} {l : List S49} {r : List Int} {c : Int} (h : itemsE cs L rest i = (l, 0)) (hr : itemE cs L rest i = (r, c)) (hc : c ≠ 0) : ∀ d, itemsE cs L rest (i + 1 + d) = ([], c)
  | 0 => by
    show itemsE cs L rest (i + 1) = _
    simp only [itemsE, h, hr]
    rw [if_neg (fun hq => hq rfl), if_neg hc]
  | d + 1 => by
    show itemsE cs L rest (i + 1 + d + 1) = _
    simp only [itemsE]
    rw [itemsE_bad h hr hc d, if_pos hc]
theorem itemsE_len {cs : List Int → Int} {L : List S67} {rest : List Int} : ∀ {i : Nat} {l : List S49}, itemsE cs L rest i = (l, 0) → l.length = i
  | 0, l, h => by cases h; rfl
  | i + 1, l, h => by
    obtain ⟨p, hp⟩ : ∃ p, itemsE cs L rest i = p := ⟨_, rfl⟩
    obtain ⟨l0, c0⟩ := p
    obtain ⟨q, hq⟩ : ∃ q, itemE cs L rest i = q := ⟨_, rfl⟩
    obtain ⟨r, c⟩ := q
    by_cases h0 : c0 = 0
    · subst h0
      by_cases h1 : c = 0
      · subst h1
        rw [itemsE_ok hp hq] at h
        cases h
        rw [List.length_append, itemsE_len hp]
        rfl
      · rw [show i + 1 = i + 1 + 0 from rfl, itemsE_bad hp hq h1 0] at h
        simp only [Prod.mk.injEq] at h
        exact absurd h.2 h1
    · simp only [itemsE, hp] at h
      rw [if_pos h0] at h
      simp only [Prod.mk.injEq] at h
      exact absurd h.2 h0
theorem unpackV_bad {cs : List Int → Int} {b : List Int} {L : List S67} {rest : List Int} {code : Int} (h : openS cs b = (L, rest, code)) (hc : code ≠ 0) : unpackV cs b = ([], code) := by
  unfold unpackV
  rw [h, if_pos hc]
theorem unpackV_short {cs : List Int → Int} {b : List Int} {L : List S67} {rest : List Int} (h : openS cs b = (L, rest, 0)) (hl : (rest.length : Int) < sumE L) : unpackV cs b = ([], 3) := by
  unfold unpackV
  rw [h, if_neg (fun hq => hq rfl), if_pos hl]
theorem unpackV_more {cs : List Int → Int} {b : List Int} {L : List S67} {rest : List Int} (h : openS cs b = (L, rest, 0)) (hl : sumE L < (rest.length : Int)) : unpackV cs b = ([], 4) := by
  unfold unpackV
  rw [h, if_neg (fun hq => hq rfl), if_neg (by dsimp only; omega), if_pos hl]
theorem unpackV_fit {cs : List Int → Int} {b : List Int} {L : List S67} {rest : List Int} (h : openS cs b = (L, rest, 0)) (hl : sumE L = (rest.length : Int)) : unpackV cs b = itemsE cs L rest L.length := by
  unfold unpackV
  rw [h, if_neg (fun hq => hq rfl), if_neg (by dsimp only; omega), if_neg (by dsimp only; omega)]
end Go.Proofs.YtibmccacebhhkaaDoor.VaultUnp

namespace Go.Proofs.YtibmccacebhhkaaDoor.HV
open Go.RowKit Go.Proofs.YtibmccacebhhkaaDoorW.PrintWords Go.Proofs.YtibmccacebhhkaaDoorW.PrintLast Go.Proofs.YtibmccacebhhkaaDoorW.PrintMore
attribute [local go_sem] max2_int min2_int max_two min_two max_three min_three max_four min_four
set_option linter.unusedVariables false
set_option linter.unusedSimpArgs false
structure AsideUn (p : Prop) : Prop where mk :: (out : p)
/-- What unpacking gives: items of its own, and the error. -/
def UnpackPost (w : World) (r : List S49 × Int) (e : Ending) (w' : World) : Prop := ∃ v, e = .returned (.tuple #[v, .int .i64 r.2]) ∧ Kd.S k49 49 w' w.heap.size (fun _ => True) v r.1 ∧ Below w.heap.size w w'
theorem unpack_err {w w' : World} {x : Int} (h : Below w.heap.size w w') : UnpackPost w ([], x) (.returned (.tuple #[.slice none 0 0, .int .i64 x])) w' := ⟨_, rfl, Kd.S_nil _ _ _ _ _, h⟩
theorem info_item : (Tryd.prog.info? 49).map (fun i => (i.zero, i.size, i.bytes)) = some (some (.agg #[(.string ⟨#[]⟩), (.slice none 0 0)]), 2, 40) := by kernel_rfl
set_option maxRecDepth 100000 in
set_option maxHeartbeats 4000000 in
theorem vault_unpack.gives (K : Nat) (cs : List Int → Int) (A : Option Addr) (b : List Int) (n c : Nat) (w : World) (hG : GL w) (hc : n ≤ c) (hn : n ≤ 1000000) (hK : 1000 ≤ K) (hR : Kd.C (Kd.int .u8) w A n b) (hby : ∀ x ∈ b, 0 ≤ x ∧ x < 256)
    (hcs : ∀ l : List Int, (∀ x ∈ l, 0 ≤ x ∧ x < 256) → l.length ≤ n → toll_Sum.f K l = some (cs l) ∧ 0 ≤ cs l ∧ cs l < 4294967296) :
    Calls Tryd.prog 17 #[.slice A n c] w (UnpackPost w (VaultUnp.unpackV cs b)) := by
  have hbn : b.length = n := hR.1
  have HOP := AsideUn.mk (vault_open.gives K cs A b n c w hG hc hR hby (fun m hm => hcs (b.take m) (fun x hx => hby x (List.mem_of_mem_take hx)) (by rw [List.length_take]; omega)))
  have hS := VaultItems.open_sized cs b hby
  have hrest : ∀ x ∈ (openS cs b).2.1, 0 ≤ x ∧ x < 256 := by
    obtain ⟨at_, _, h1, _⟩ := VaultOpen.open_eq cs b hby
    by_cases h0 : (openS cs b).2.2 = 0
    · rw [(h1 h0).2]
      exact fun x hx => hby x (List.mem_of_mem_drop hx)
    · intro x hx
      rw [VaultItems.open_rest cs b h0] at hx
      simp at hx
  have hrl : (openS cs b).2.1.length ≤ n := by
    obtain ⟨at_, _, h1, _⟩ := VaultOpen.open_eq cs b hby
    by_cases h0 : (openS cs b).2.2 = 0
    · rw [(h1 h0).2, List.length_drop]; omega
    · rw [VaultItems.open_rest cs b h0]; simp
  obtain ⟨r, hr⟩ : ∃ r, openS cs b = r := ⟨_, rfl⟩
  rw [hr] at HOP hS hrest hrl
  obtain ⟨L, rest, code⟩ := r
  dsimp only at hS hrest hrl
  have HO := AsideUn.mk hr
  have HS := AsideUn.mk hS
  have HIT := AsideUn.mk (fun (i : Nat) (hi : i < L.length) => VaultItems.bytes_f K cs L rest i hS hi (by omega) hrest (fun l h1 h2 => hcs l h1 (by omega)))
  have HBE := AsideUn.mk (VaultItems.beg_f L hS K (by have := hS.1; omega))
  have HGL := AsideUn.mk hG
  obtain ⟨j, hj⟩ : ∃ j, L.length = j := ⟨_, rfl⟩
  obtain ⟨m, hm⟩ : ∃ m, rest.length = m := ⟨_, rfl⟩
  have hj255 : j ≤ 255 := by rw [← hj]; exact hS.1
  have HJ := AsideUn.mk hj
  have HM := AsideUn.mk hm
  have hmn : m ≤ 1000000 := by omega
  clear hR hby hcs hS hr hG hrest hrl hj hm
  go_enter Tryd.func17, Tryd.ntmps17
  go_upto_region 2 with (go_at_call 28; (with_reducible refine (HOP.out).mono ?_); rintro e w1 ⟨v, A1, c1, rfl, hcr, hrow, hC, hb⟩; obtain ⟨AL, cL, ev⟩ := Kd.R_slice hrow; rw [HJ.out] at ev; subst ev; have HC1 := AsideUn.mk (And.intro hcr hC); have HRL := AsideUn.mk (Kd.R_reads' hrow); have HB1 := AsideUn.mk hb; clear hcr hrow hC hb)
  rw [HM.out] at HC1
  simp only [HM.out]
  by_cases hcode : code = 0
  · subst hcode
    have HBG : AsideUn (∀ W : World, Below w1.heap.size w1 W → Calls Tryd.prog 33 #[.slice AL j cL] W fun e w' => ∃ (adb : Addr) (cb : Nat), e = .returned (.slice (some adb) (j + 1) cb) ∧ Kd.C (Kd.int .i64) w' (some adb) (j + 1) (VaultItems.begL L) ∧ Below W.heap.size W w') := by
      refine ⟨fun W hW => ?_⟩
      have h := vault_begins.calls K AL cL L (VaultItems.begL L) W (Kd.C_below HRL.out.2.2 hW) (by have := HRL.out.2.1; have := HJ.out; omega) HBE.out
      rw [HJ.out] at h
      refine h.mono fun e w' ⟨v0, he, hr, hb⟩ => ?_
      obtain ⟨Ab, cb, ev⟩ := Kd.R_slice hr
      rw [ev] at hr
      have hl : (VaultItems.begL L).length = j + 1 := by unfold VaultItems.begL; rw [List.length_map, List.length_range, HJ.out]
      have hC := (Kd.R_reads' hr).2.2
      rw [hl] at hC ev
      obtain ⟨adb, eb, hcell⟩ := Kd.at_int hC (0 : Int) (by omega) (by omega)
      subst eb
      exact ⟨adb, cb, by rw [he, ev], hC, hb⟩
    have HB0 := AsideUn.mk (Below.refl w1.heap.size w1)
    have HBV : AsideUn (∀ t : Nat, t ≤ j → rd (VaultItems.begL L) (t : Int) = VaultItems.sumE (L.take t)) := ⟨fun t ht => VaultItems.begL_get L (L.length + 1) t (by rw [HJ.out]; omega)⟩
    have HTT : AsideUn (VaultItems.sumE (L.take j) = VaultItems.sumE L) := ⟨by rw [← HJ.out, List.take_length]⟩
    obtain ⟨tt0, tt1⟩ := VaultItems.sum_small HS.out j
    rw [HTT.out] at tt0 tt1
    clear HBE
    go_upto_region 5 with (go_at_call 33; (with_reducible refine (HBG.out _ HB0.out).mono ?_); rintro e w2 ⟨adb, cb, rfl, hbr, hb⟩; have HB2 := AsideUn.mk (below_step HB1.out hb); have HB12 := AsideUn.mk hb; have HCB := AsideUn.mk hbr; clear hbr hb)
    obtain ⟨adb2, eb2, htot⟩ := Kd.at_int HCB.out (j : Int) (by omega) (by omega)
    obtain rfl : adb = adb2 := by injection eb2
    rw [HBV.out j (Nat.le_refl _), HTT.out, Int.toNat_natCast] at htot
    obtain ⟨T, hT⟩ : ∃ T, VaultItems.sumE L = T := ⟨_, rfl⟩
    rw [hT] at htot tt0 tt1
    have HTE := AsideUn.mk hT
    have jb0 : (0 : Int) ≤ (j : Int) := by omega
    have jb1 : (j : Int) < ((j + 1 : Nat) : Int) := by omega
    have jb2 : (j : Int) < (j : Int) + 1 := by omega
    clear hT eb2 HBG HTT
    by_cases hlt : (m : Int) < T
    · have hr3 := VaultUnp.unpackV_short HO.out (by rw [HM.out, HTE.out]; exact hlt)
      have HRR := AsideUn.mk hr3
      clear hr3
      go_wp2_with (fail)
      go_ret2
      rw [HRR.out]
      exact unpack_err HB2.out
    · by_cases hgt : T < (m : Int)
      · have hr3 := VaultUnp.unpackV_more HO.out (by rw [HM.out, HTE.out]; exact hgt)
        have HRR := AsideUn.mk hr3
        clear hr3
        go_wp2_with (fail)
        go_ret2
        rw [HRR.out]
        exact unpack_err HB2.out
      · have hr3 := VaultUnp.unpackV_fit HO.out (by rw [HM.out, HTE.out]; omega)
        have HRR := AsideUn.mk hr3
        have HBR := AsideUn.mk (Below.refl w2.heap.size w2)
        clear hr3
        go_wp2_with (fail)
        clear htot
        go_loopw [9, 42] (fun v u wr => ∃ (t : Nat) (l : List S49), t ≤ j ∧ u = .int .i64 t ∧ AsideUn (VaultUnp.itemsE cs L rest t = (l, 0)) ∧ AsideUn (Below w2.heap.size w2 wr) ∧ AsideUn (Kd.S k49 49 wr w2.heap.size (fun _ => True) v l)) (fun _ u _ => j - (intOf u).toNat)
        case atStart => exact ⟨0, [], Nat.zero_le _, rfl, ⟨rfl⟩, HBR, ⟨Kd.S_nil _ _ _ _ _⟩⟩
        case round =>
          obtain ⟨t, l, htj, rfl, HI, HBr, HSr⟩ := hrel
          by_cases hlt2 : t < j
          · obtain ⟨ad, e, x0, x1, x2⟩ := at_T67 (Kd.C_below HRL.out.2.2 (below_step HB12.out HBr.out)) (t : Int) (by omega) (by rw [HJ.out]; omega)
            subst e
            rw [rd_get, Int.toNat_natCast] at x0 x1 x2
            have hI := HIT.out t (by rw [HJ.out]; exact hlt2)
            obtain ⟨r, hr⟩ : ∃ r, VaultItems.itemE cs L rest t = r := ⟨_, rfl⟩
            rw [hr] at hI
            obtain ⟨r1, r2⟩ := r
            have HBY : AsideUn (∀ W : World, Below w1.heap.size w1 W → Calls Tryd.prog 34 #[.agg #[.string (L.getD t z67).f0, .int .i64 (L.getD t z67).f1, .int .i64 (L.getD t z67).f2], .slice A1 m c1, .int .i64 (VaultItems.sumE (L.take t))] W fun e w' => ∃ (A4 : Option Addr) (c4 : Nat), e = .returned (.tuple #[.slice A4 r1.length c4, .int .i64 r2]) ∧ Kd.R (Kd.int .u8) 5 w' W.heap.size (fun _ => True) (.slice A4 r1.length c4) r1 ∧ Below W.heap.size W w') := by
              refine ⟨fun W hW => ?_⟩
              have h := vault_entry_bytes.calls K _ _ _ A1 c1 rest _ _ _ W (by have h := Kd.C_below HC1.out.2 (below_step HB1.out hW); rwa [← HM.out] at h) (by rw [HM.out]; exact HC1.out.1) (HGL.out.of_below (below_step HB1.out hW)) hI
              rw [HM.out] at h
              refine h.mono fun e w' ⟨v0, he, hr, hb⟩ => ?_
              obtain ⟨A4, c4, ev⟩ := Kd.R_slice hr
              rw [ev] at hr
              exact ⟨A4, c4, by rw [he, ev], hr, hb⟩
            have HN0 := AsideUn.mk (fun (h : r2 = 0) => VaultUnp.itemsE_ok HI.out (hr.trans (by rw [h])))
            have HN1 := AsideUn.mk (fun (h : r2 ≠ 0) => VaultUnp.itemsE_bad HI.out hr h (j - (t + 1)))
            rw [show t + 1 + (j - (t + 1)) = j by omega] at HN1
            obtain ⟨adb2, eb2, hfr⟩ := Kd.at_int (Kd.C_below HCB.out HBr.out) (t : Int) (by omega) (by omega)
            obtain rfl : adb = adb2 := by injection eb2
            rw [HBV.out t htj, Int.toNat_natCast] at hfr
            have HLE := AsideUn.mk (VaultUnp.itemsE_len HI.out)
            clear hI hr eb2
            generalize VaultItems.sumE (L.take t) = fr at *
            generalize L.getD t z67 = ent at *
            obtain ⟨nm, sz, sm⟩ := ent
            dsimp only at HBY x0 x1 x2 HN0
            have ti0 : (0 : Int) ≤ (t : Int) := by omega
            have ti1 : (t : Int) < (j : Int) := by omega
            have ti2 : (t : Int) < (j : Int) + 1 := by omega
            have ti3 : (t : Int) < ((j + 1 : Nat) : Int) := by omega
            go_upto_region 14 with (fail)
            have hbl := blk_drew (blk_new wr (.cells #[.string nm, .int .i64 sz, .int .i64 sm] 67 (0, 0)))
            have hbw := below_drew (below_alloc (Below.refl wr.heap.size wr) (.cells #[.string nm, .int .i64 sz, .int .i64 sm] 67 (0, 0)))
            obtain ⟨f0, f1, f2, _, _⟩ := cu_cells hbl
            have HBwr := AsideUn.mk hbw
            have hfr2 := pw_cell_below hbw hfr
            clear hbl hbw x0 x1 x2 hfr
            generalize wr.alloc (.cells #[.string nm, .int .i64 sz, .int .i64 sm] 67 (0, 0)) = W0 at *
            have HLT := AsideUn.mk (Nat.le_refl wr.heap.size)
            have HWG : AsideUn (∀ W : World, Below wr.heap.size wr W → Below w1.heap.size w1 W) := ⟨fun W hW => below_step (below_step HB12.out HBr.out) hW⟩
            have HSO := AsideUn.mk (fun (W : World) (hW : Below wr.heap.size wr W) => Kd.S_old HSr.out hW)
            have HSL := AsideUn.mk (fun k hk => Kd.S_lt HSr.out k hk)
            have HBZ := AsideUn.mk (fun (W : World) (hW : Below wr.heap.size wr W) => below_step HBr.out hW)
            obtain ⟨g, hg⟩ : ∃ g, wr.heap.size = g := ⟨_, rfl⟩
            rw [hg] at f0 f1 f2 ⊢
            have HG0 := AsideUn.mk hg
            clear hg
            refine start_ (n := 12) (S := fun w' => w'.cell? ⟨g, 0, none⟩ = some (.string nm) ∧ w'.cell? ⟨g, 1, none⟩ = some (.int .i64 sz) ∧ w'.cell? ⟨g, 2, none⟩ = some (.int .i64 sm) ∧ w'.cell? (adb.add t) = some (.int .i64 fr) ∧ AsideUn (Below wr.heap.size wr w')) (ds := []) #[false, false, false, false, false, false, false, false, false, false, false, false] (by kernel_rfl) rfl rfl ⟨f0, f1, f2, hfr2, HBwr⟩ (fun hHeld => ?_)
            refine pure_ (i := 1) (N := some 49) (v := ?_) (a' := ?_) #[false, true, false, false, false, false, false, false, false, false, false, false] rfl rfl (by kernel_rfl) (fun _ _ _ h => h) (Or.inl ⟨by rfl, ?_⟩) ?_ ?_
            rotate_left
            · intro w'
              go_simp
              with_reducible rfl
            rotate_left
            · simp only [Act.put, List.setIfInBounds_toArray, List.set_cons_zero, List.set_cons_succ, i64_w, i32_w]
              rfl
            refine pure_ (i := 2) (N := some 50) (v := ?_) (a' := ?_) #[false, true, true, false, false, false, false, false, false, false, false, false] rfl rfl (by kernel_rfl) (fun _ _ _ h => h) (Or.inl ⟨by rfl, ?_⟩) ?_ ?_
            rotate_left
            · intro w'
              go_simp
              with_reducible rfl
            rotate_left
            · simp only [Act.put, List.setIfInBounds_toArray, List.set_cons_zero, List.set_cons_succ, i64_w, i32_w]
              rfl
            refine pure_ (i := 3) (N := some 51) (v := ?_) (a' := ?_) #[false, true, true, true, false, false, false, false, false, false, false, false] rfl rfl (by kernel_rfl) (fun _ _ _ h => h) (Or.inl ⟨by rfl, ?_⟩) ?_ ?_
            rotate_left
            · intro w'
              go_simp
              with_reducible rfl
            rotate_left
            · simp only [Act.put, List.setIfInBounds_toArray, List.set_cons_zero, List.set_cons_succ, i64_w, i32_w]
              rfl
            refine pure_ (i := 4) (N := some 52) (v := ?_) (a' := ?_) #[false, true, true, true, true, false, false, false, false, false, false, false] rfl rfl (by kernel_rfl) (fun _ _ _ h => h) (Or.inl ⟨by rfl, ?_⟩) ?_ ?_
            rotate_left
            · intro w'
              go_simp
              with_reducible rfl
            rotate_left
            · simp only [Act.put, List.setIfInBounds_toArray, List.set_cons_zero, List.set_cons_succ, i64_w, i32_w]
              rfl
            refine take_ (i := 0) (N := some 48) (v := ?_) (a' := ?_) #[true, true, true, true, true, false, false, false, false, false, false, false] rfl rfl (by kernel_rfl) (fun _ _ _ h => h) (Or.inl ⟨by rfl, ?_⟩) hHeld ?_ ?_
            rotate_left
            · rintro w' ⟨s0, s1, s2, s3, s4⟩
              go_simp
              with_reducible rfl
            rotate_left
            · simp only [Act.put, List.setIfInBounds_toArray, List.set_cons_zero, List.set_cons_succ, i64_w, i32_w]
              rfl
            refine take_ (i := 5) (N := some 53) (v := ?_) (a' := ?_) #[true, true, true, true, true, true, false, false, false, false, false, false] rfl rfl (by kernel_rfl) (fun _ _ _ h => h) (Or.inl ⟨by rfl, ?_⟩) hHeld ?_ ?_
            rotate_left
            · rintro w' ⟨s0, s1, s2, s3, s4⟩
              go_simp
              with_reducible rfl
            rotate_left
            · simp only [Act.put, List.setIfInBounds_toArray, List.set_cons_zero, List.set_cons_succ, i64_w, i32_w]
              rfl
            refine one_ (i := 6) (N := some 54) #[true, true, true, true, true, true, true, false, false, false, false, false] rfl rfl (by kernel_rfl) (by decide) (fun K hK => ?_)
            refine goes_ Tryd.func34 (by kernel_rfl) rfl #[.agg #[.string nm, .int .i64 sz, .int .i64 sm], .slice A1 m c1, .int .i64 fr] (by rfl) rfl rfl (by simp only [List.map_toArray, List.map_cons, List.map_nil]; rfl) ?_
            with_reducible refine (HBY.out _ (HWG.out _ hHeld.2.2.2.2.out)).mono ?_
            rintro e w3 ⟨A4, c4, rfl, hr4, hb⟩
            refine ⟨_, rfl, ?_⟩
            have HR4 := AsideUn.mk (Kd.R_bound hr4)
            have HW4 := AsideUn.mk hHeld.2.2.2.2.out.size
            clear hr4
            refine hK.out _ _ ⟨pw_cell_below hb hHeld.1, pw_cell_below hb hHeld.2.1, pw_cell_below hb hHeld.2.2.1, pw_cell_below hb hHeld.2.2.2.1, ⟨below_step hHeld.2.2.2.2.out hb⟩⟩ (fun hHeld => ?_)
            clear hK K
            refine norm_ (a' := ?_) ?_ ?_
            rotate_left
            · show Act.put _ (some 54) _ = _
              simp only [Act.put, List.setIfInBounds_toArray, List.set_cons_zero, List.set_cons_succ, i64_w, i32_w]
              rfl
            refine pure_ (i := 7) (N := some 47) (v := ?_) (a' := ?_) #[true, true, true, true, true, true, true, true, false, false, false, false] rfl rfl (by kernel_rfl) (fun _ _ _ h => h) (Or.inl ⟨by rfl, ?_⟩) ?_ ?_
            rotate_left
            · intro w'
              go_simp
              with_reducible rfl
            rotate_left
            · simp only [Act.put, List.setIfInBounds_toArray, List.set_cons_zero, List.set_cons_succ, i64_w, i32_w]
              rfl
            refine pure_ (i := 8) (N := some 55) (v := ?_) (a' := ?_) #[true, true, true, true, true, true, true, true, true, false, false, false] rfl rfl (by kernel_rfl) (fun _ _ _ h => h) (Or.inl ⟨by rfl, ?_⟩) ?_ ?_
            rotate_left
            · intro w'
              go_simp
              with_reducible rfl
            rotate_left
            · simp only [Act.put, List.setIfInBounds_toArray, List.set_cons_zero, List.set_cons_succ, i64_w, i32_w]
              rfl
            refine pure_ (i := 9) (N := some 56) (v := ?_) (a' := ?_) #[true, true, true, true, true, true, true, true, true, true, false, false] rfl rfl (by kernel_rfl) (fun _ _ _ h => h) (Or.inl ⟨by rfl, ?_⟩) ?_ ?_
            rotate_left
            · intro w'
              go_simp
              with_reducible rfl
            rotate_left
            · simp only [Act.put, List.setIfInBounds_toArray, List.set_cons_zero, List.set_cons_succ, i64_w, i32_w]
              rfl
            refine pure_ (i := 10) (N := some 12) (v := ?_) (a' := ?_) #[true, true, true, true, true, true, true, true, true, true, true, false] rfl rfl (by kernel_rfl) (fun _ _ _ h => h) (Or.inl ⟨by rfl, ?_⟩) ?_ ?_
            rotate_left
            · intro w'
              go_simp
              with_reducible rfl
            rotate_left
            · simp only [Act.put, List.setIfInBounds_toArray, List.set_cons_zero, List.set_cons_succ, i64_w, i32_w]
              rfl
            refine pure_ (i := 11) (N := some 13) (v := ?_) (a' := ?_) #[true, true, true, true, true, true, true, true, true, true, true, true] rfl rfl (by kernel_rfl) (fun _ _ _ h => h) (Or.inl ⟨by rfl, ?_⟩) ?_ ?_
            rotate_left
            · intro w'
              go_simp
              with_reducible rfl
            rotate_left
            · simp only [Act.put, List.setIfInBounds_toArray, List.set_cons_zero, List.set_cons_succ, i64_w, i32_w]
              rfl
            refine done_ (by kernel_rfl) ?_
            have HB3 := AsideUn.mk hHeld.2.2.2.2.out
            obtain ⟨f0', _⟩ := hHeld
            clear hHeld f0 f1 f2 hfr2 HBY ti0 ti1 ti2 ti3 HBwr
            by_cases hr2 : r2 = 0
            · subst hr2
              have HNX := AsideUn.mk (HN0.out rfl)
              clear HN0 HN1
              have HB4 := AsideUn.mk (HBZ.out _ HB3.out)
              have HSO3 := AsideUn.mk (HSO.out _ HB3.out)
              go_wp2_with ((with_reducible refine gate_dst (N := 66) rfl ?_); refine Kd.S_append k49 (w0 := w2) w2.heap.size rfl (.tmp 60) (.tmp 65) 34 49 (.agg #[(.string ⟨#[]⟩), (.slice none 0 0)]) 40 rfl Tryd.underlying34 info_item rfl (by decide) (by omega) u9 l (⟨nm, r1⟩ : S49) [.string nm, .slice A4 r1.length c4] (fun _ => True) (fun k => wr.heap.size ≤ k) rfl rfl ?aP ?aK (fun _ _ => trivial) ?aO ?aB ?aS ?aL ?_; (case aP => exact k49_mkM _ _ _ (⟨nm, r1⟩ : S49) (Kd.R_lower (Kd.R_mono HR4.out (fun k hk => Nat.le_trans HW4.out hk.2.1)) (Nat.le_trans HBr.out.size HW4.out))); (case aK => exact (fun k hk => ⟨trivial, fun e => by have := HSL.out k e.symm; omega⟩)); (case aO => exact Kd.S_mono HSO3.out (fun k hk => ⟨trivial, by have := hk.2; omega⟩)); (case aB => exact HB4.out); (case aS => exact HB4.out.size); (case aL => rw [HLE.out]; omega); intro v9 w9 ho hb hgr _; have HS9 := AsideUn.mk ho; have HB9 := AsideUn.mk hb; clear ho hb hgr)
              go_roundw
              case rel => exact ⟨t + 1, _, by omega, by go_num, HNX, HB9, HS9⟩
              case measure => simp [intOf]; omega
            · have hne : (r2 != 0) = true := bne_iff_ne.mpr hr2
              have hne2 : (r2 == 0) = false := beq_eq_false_iff_ne.mpr hr2
              have HNB := AsideUn.mk (HN1.out hr2)
              clear HN0 HN1
              go_wp2_with (fail)
              go_ret2
              rw [HRR.out, HJ.out, HNB.out]
              exact unpack_err (below_step HB2.out (HBZ.out _ HB3.out))
          · obtain rfl : t = j := by omega
            go_wp2_with (fail)
            go_ret2
            rw [HRR.out, HJ.out, HI.out]
            exact ⟨_, rfl, Kd.S_lower HSr.out HB2.out.size, below_step HB2.out HBr.out⟩
  · have hne : (code != 0) = true := bne_iff_ne.mpr hcode
    have hne2 : (code == 0) = false := beq_eq_false_iff_ne.mpr hcode
    go_wp2_with (fail)
    go_ret2
    rw [VaultUnp.unpackV_bad HO.out hcode]
    exact unpack_err HB1.out

end Go.Proofs.YtibmccacebhhkaaDoor.HV

