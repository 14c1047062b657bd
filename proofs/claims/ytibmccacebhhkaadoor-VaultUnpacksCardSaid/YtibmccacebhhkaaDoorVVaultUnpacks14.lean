/- VaultUnpacks: what the claim's theorem reaches of this seat's texts, part 14, put together by this project's own program (bale.py); conditions: those of each theorem. -/
import Derived.Test.YtibmccacebhhkaaDoorVVaultUnpacks10
import Derived.Test.YtibmccacebhhkaaDoorVVaultUnpacks13
namespace Go.Proofs.YtibmccacebhhkaaDoor.VaultOpen
set_option linter.unusedVariables false
open Go Go.RowKit Go.Proofs.YtibmccacebhhkaaDoor.HV Go.Proofs.YtibmccacebhhkaaDoorW.PrintWords Go.Proofs.YtibmccacebhhkaaDoorW.PrintLast

def Bs (l : List Int) : Prop := ∀ x ∈ l, 0 ≤ x ∧ x < 256
/-! ### the magic -/
theorem u8_back (x : Int) (h : 0 ≤ x ∧ x < 256) : ((UInt8.ofNat x.toNat).toNat : Int) = x := by
  rw [UInt8.toNat_ofNat']
  omega
theorem strOfNums_list (l : List Int) : (strOfNums l).toList = l.map fun x => UInt8.ofNat x.toNat := by
  rw [ByteArray.toList_eq]
  simp [strOfNums]
theorem map_inj_bytes : ∀ (a b : List Int), Bs a → Bs b → a.map (fun x => UInt8.ofNat x.toNat) = b.map (fun x => UInt8.ofNat x.toNat) → a = b
  | [], [], _, _, _ => rfl
  | [], y :: b, _, _, h => by simp at h
  | x :: a, [], _, _, h => by simp at h
  | x :: a, y :: b, ha, hb, h => by
    simp only [List.map_cons, List.cons.injEq] at h
    have hx := u8_back x (ha x (by simp))
    have hy := u8_back y (hb y (by simp))
    rw [h.1, hy] at hx
    rw [hx, map_inj_bytes a b (fun z hz => ha z (by simp [hz])) (fun z hz => hb z (by simp [hz])) h.2]
theorem magic_bs : Bs [83, 75, 66, 86] := by
  intro x hx
  simp at hx
  omega
theorem mag_eq (b : List Int) (hb : Bs b) : mgB b = rMag b := by
  have hk : (b.take 4).length ≤ 4 := by rw [List.length_take]; omega
  have e1 : ((⟨#[83, 75, 66, 86]⟩ : ByteArray).extract 0 (b.take 4).length).toList = (([83, 75, 66, 86] : List Int).take (b.take 4).length).map fun x => UInt8.ofNat x.toNat := by
    generalize (b.take 4).length = k at hk
    have : k = 0 ∨ k = 1 ∨ k = 2 ∨ k = 3 ∨ k = 4 := by omega
    rcases this with rfl | rfl | rfl | rfl | rfl <;> decide +kernel
  have e2 : ([83, 75, 66, 86] : List Int).take b.length = ([83, 75, 66, 86] : List Int).take (b.take 4).length := by
    rw [List.length_take]
    rcases Nat.lt_or_ge b.length 4 with h | h
    · rw [Nat.min_eq_right (by omega)]
    · rw [Nat.min_eq_left h, List.take_of_length_le (by simpa using h)]
      rfl
  unfold mgB rMag
  rw [e1, strOfNums_list, e2, Bool.eq_iff_iff, beq_iff_eq, beq_iff_eq]
  constructor
  · intro h
    exact (map_inj_bytes _ _ (fun x hx => magic_bs x (List.mem_of_mem_take hx)) (fun x hx => hb x (List.mem_of_mem_take hx)) h).symm
  · intro h
    exact congrArg (List.map fun x : Int => UInt8.ofNat x.toNat) h.symm
/-! ### the entries -/
theorem tk_over (n x k : Nat) : tk n (x, true) k = (x, true) := if_pos (.inl rfl)
theorem tk_fit {n x k : Nat} (h : x + k ≤ n) : tk n (x, false) k = (x + k, false) := if_neg (by simp; omega)
theorem tk_lack {n x k : Nat} (h : n < x + k) : tk n (x, false) k = (x, true) := if_pos (.inr h)
theorem tkB_fit {b : List Int} {x k : Nat} (h : x + k ≤ b.length) : tkB b (x, false) k = (b.drop x).take k := if_neg (by simp; omega)
theorem drop_one {b : List Int} {a : Nat} (h : a < b.length) : (b.drop a).take 1 = [b.getD a 0] := by
  rw [List.drop_eq_getElem_cons h, List.getD_eq_getElem?_getD, List.getElem?_eq_getElem h]
  rfl
theorem short_stays (b : List Int) (j : Nat) (h : (ents b j).2.2 = true) : (ents b (j + 1)).2.2 = true := by
  show (enS b (ents b j).2).2 = true
  revert h
  generalize (ents b j).2 = s
  obtain ⟨a, q⟩ := s
  intro h
  obtain rfl : q = true := h
  unfold enS
  rw [tk_over, tk_over, tk_over, tk_over]
theorem short_all (b : List Int) (j : Nat) (h : (ents b j).2.2 = true) : ∀ d, (ents b (j + d)).2.2 = true
  | 0 => h
  | d + 1 => short_stays b (j + d) (short_all b j h d)
/-- Where the two stand behind j entries. -/
def Alike (b : List Int) (j : Nat) : Prop := match rEnts b j with
  | some r => (ents b j).2 = (r.2, false) ∧ r.1 = (ents b j).1.map toR ∧ r.2 ≤ b.length
  | none => (ents b j).2.2 = true
theorem alike_zero (b : List Int) (h5 : 5 ≤ b.length) : Alike b 0 := by
  show (tk b.length (tk b.length (0, false) 4) 1) = (5, false) ∧ [] = ([] : List _).map toR ∧ 5 ≤ b.length
  rw [tk_fit (by omega), tk_fit (by omega)]
  exact ⟨rfl, rfl, h5⟩
theorem alike_step (b : List Int) (hb : Bs b) (j : Nat) (h : Alike b j) : Alike b (j + 1) := by
  unfold Alike at h ⊢
  have hs : ents b (j + 1) = ((ents b j).1 ++ [enB b (ents b j).2], enS b (ents b j).2) := rfl
  cases hr : rEnts b j with
  | none =>
    rw [hr] at h
    have h1 : rEnts b (j + 1) = none := by show (rEnts b j).bind _ = none; rw [hr]; rfl
    rw [h1]
    exact short_stays b j h
  | some r =>
    rw [hr] at h
    obtain ⟨l, a⟩ := r
    obtain ⟨h1, h2, h3⟩ := h
    simp only at h1 h2 h3
    by_cases hfit : a < b.length ∧ a + 8 + (b.getD a 0).toNat ≤ b.length
    · obtain ⟨f1, f2⟩ := hfit
      have hn : rEnts b (j + 1) = some (l ++ [⟨strOfNums ((b.drop (a + 1)).take (b.getD a 0).toNat), beL ((b.drop (a + 1 + (b.getD a 0).toNat)).take 3), beL (((b.drop (a + 1 + (b.getD a 0).toNat)).drop 3).take 4)⟩], a + (b.getD a 0).toNat + 8) := by
        show (rEnts b j).bind _ = _
        rw [hr]
        exact if_pos ⟨f1, f2⟩
      rw [hn, hs, h1]
      have hk : nmK b (a, false) = (b.getD a 0).toNat := by
        unfold nmK
        rw [tkB_fit (by omega), drop_one f1]
        show (0 * 256 + b.getD a 0 : Int).toNat = _
        congr 1
        omega
      generalize (b.getD a 0).toNat = k at *
      have t1 : tk b.length (a, false) 1 = (a + 1, false) := tk_fit (by omega)
      have t2 : tk b.length (a + 1, false) k = (a + 1 + k, false) := tk_fit (by omega)
      have t3 : tk b.length (a + 1 + k, false) 3 = (a + 1 + k + 3, false) := tk_fit (by omega)
      have t4 : tk b.length (a + 1 + k + 3, false) 4 = (a + 1 + k + 3 + 4, false) := tk_fit (by omega)
      have hE : enB b (a, false) = ⟨strOfNums ((b.drop (a + 1)).take k), beL ((b.drop (a + 1 + k)).take 3), beL (((b.drop (a + 1 + k)).drop 3).take 4)⟩ := by
        unfold enB
        rw [hk, t1, t2, t3, tkB_fit (by omega), tkB_fit (by omega), tkB_fit (by omega), List.drop_drop]
      have hS : enS b (a, false) = (a + k + 8, false) := by
        unfold enS
        rw [hk, t1, t2, t3, t4]
        congr 1
        omega
      rw [hE, hS]
      refine ⟨rfl, ?_, by show a + k + 8 ≤ b.length; omega⟩
      show l ++ _ = ((ents b j).1 ++ _).map toR
      rw [List.map_append, ← h2]
      rfl
    · have hn : rEnts b (j + 1) = none := by
        show (rEnts b j).bind _ = none
        rw [hr]
        exact if_neg hfit
      rw [hn, hs, h1]
      show (enS b (a, false)).2 = true
      unfold enS
      by_cases f1 : a < b.length
      · have hk : nmK b (a, false) = (b.getD a 0).toNat := by
          unfold nmK
          rw [tkB_fit (by omega), drop_one f1]
          show (0 * 256 + b.getD a 0 : Int).toNat = _
          congr 1
          omega
        have f2 : b.length < a + 8 + (b.getD a 0).toNat := by omega
        rw [hk]
        generalize (b.getD a 0).toNat = k at *
        rw [tk_fit (show a + 1 ≤ b.length by omega)]
        by_cases g1 : a + 1 + k ≤ b.length
        · rw [tk_fit g1]
          by_cases g2 : a + 1 + k + 3 ≤ b.length
          · rw [tk_fit g2, tk_lack (by omega)]
          · rw [tk_lack (by omega), tk_over]
        · rw [tk_lack (by omega), tk_over, tk_over]
      · rw [tk_lack (show b.length < a + 1 by omega), tk_over, tk_over, tk_over]
theorem alike (b : List Int) (hb : Bs b) (h5 : 5 ≤ b.length) : ∀ j, Alike b j
  | 0 => alike_zero b h5
  | j + 1 => alike_step b hb j (alike b hb h5 j)
theorem cnt_eq (b : List Int) (hb : Bs b) (h5 : 5 ≤ b.length) : cntK b = (b.getD 4 0).toNat := by
  unfold cntK
  rw [show tk b.length (0, false) 4 = (4, false) from tk_fit (x := 0) (by omega), tkB_fit (by omega), drop_one (by omega)]
  show (0 * 256 + b.getD 4 0 : Int).toNat = _
  congr 1
  omega
theorem map_getD (l : List S67) (i : Nat) : ((l.map toR).getD i z31).f0 = (l.getD i z67).f0 := by
  rw [List.getD_eq_getElem?_getD, List.getD_eq_getElem?_getD, List.getElem?_map]
  cases l[i]? <;> rfl
theorem good_eq (l : List S67) : goodR (l.map toR) = goodE l := by
  unfold goodR goodE
  rw [List.length_map]
  congr 1
  funext i
  unfold okR okAt
  rw [map_getD, map_getD]
/-- The two openings answer alike; at: where the items' bytes begin. -/
theorem open_eq (cs : List Int → Int) (b : List Int) (hb : Bs b) : ∃ at_ : Nat, rOpen cs b = ((openS cs b).1.map toR, (at_ : Int), (openS cs b).2.2) ∧ ((openS cs b).2.2 = 0 → at_ ≤ b.length ∧ (openS cs b).2.1 = b.drop at_) ∧ ((openS cs b).2.2 ≠ 0 → at_ = 0 ∧ (openS cs b).1 = []) := by
  unfold rOpen openS
  rw [← mag_eq b hb]
  cases hm : mgB b with
  | false =>
    rw [if_pos rfl, if_pos rfl]
    exact ⟨0, rfl, fun h => absurd h (by decide), fun _ => ⟨rfl, rfl⟩⟩
  | true =>
    rw [if_neg (show ¬ (true = false) by decide), if_neg (show ¬ (true = false) by decide)]
    by_cases h5 : b.length < 5
    · rw [if_pos h5]
      have hs0 : (ents b 0).2.2 = true := by
        show (tk b.length (tk b.length (0, false) 4) 1).2 = true
        by_cases h4 : 4 ≤ b.length
        · rw [tk_fit (show 0 + 4 ≤ b.length by omega), tk_lack (by omega)]
        · rw [tk_lack (show b.length < 0 + 4 by omega), tk_over]
      have hs := short_all b 0 hs0 (cntK b)
      rw [Nat.zero_add] at hs
      have ht : (tk b.length (ents b (cntK b)).2 4).2 = true := by
        revert hs
        generalize (ents b (cntK b)).2 = s
        obtain ⟨a, q⟩ := s
        intro hs
        obtain rfl : q = true := hs
        rw [tk_over]
      rw [if_pos ht]
      exact ⟨0, rfl, fun h => absurd h (by decide), fun _ => ⟨rfl, rfl⟩⟩
    · rw [if_neg h5, ← cnt_eq b hb (by omega)]
      have ha := alike b hb (by omega) (cntK b)
      unfold Alike at ha
      cases hr : rEnts b (cntK b) with
      | none =>
        rw [hr] at ha
        have ht : (tk b.length (ents b (cntK b)).2 4).2 = true := by
          revert ha
          generalize (ents b (cntK b)).2 = s
          obtain ⟨a, q⟩ := s
          intro hs
          obtain rfl : q = true := hs
          rw [tk_over]
        rw [if_pos ht]
        exact ⟨0, rfl, fun h => absurd h (by decide), fun _ => ⟨rfl, rfl⟩⟩
      | some r =>
        rw [hr] at ha
        obtain ⟨l, a⟩ := r
        obtain ⟨h1, h2, h3⟩ := ha
        simp only at h1 h2 h3
        rw [h1]
        unfold rTail
        simp only
        by_cases h4 : b.length < a + 4
        · rw [tk_lack h4, if_pos rfl, if_pos h4]
          exact ⟨0, rfl, fun h => absurd h (by decide), fun _ => ⟨rfl, rfl⟩⟩
        · rw [tk_fit (by omega), if_neg h4, if_neg (show ¬ ((a + 4, false) : Nat × Bool).2 = true by simp), tkB_fit (by omega)]
          by_cases hc : beL ((b.drop a).take 4) = cs (b.take a)
          · rw [if_pos hc, if_pos hc, h2, good_eq]
            cases hg : goodE (ents b (cntK b)).1 with
            | true =>
              rw [if_pos rfl, if_pos rfl]
              exact ⟨a + 4, rfl, fun _ => ⟨by omega, rfl⟩, fun h => absurd rfl h⟩
            | false =>
              rw [if_neg (by decide), if_neg (by decide)]
              exact ⟨0, rfl, fun h => absurd h (by decide), fun _ => ⟨rfl, rfl⟩⟩
          · rw [if_neg hc, if_neg hc]
            exact ⟨0, rfl, fun h => absurd h (by decide), fun _ => ⟨rfl, rfl⟩⟩
theorem open_len (cs : List Int → Int) (b : List Int) (hb : Bs b) : (openS cs b).1.length ≤ 255 := by
  have h1 := ents_len b (cntK b)
  have h2 := cntK_le b hb
  unfold openS
  repeat' split
  all_goals first | exact Nat.zero_le _ | (show (ents b (cntK b)).1.length ≤ 255; omega)
end Go.Proofs.YtibmccacebhhkaaDoor.VaultOpen

