/- PackUnpacks in plain numbers and lists. By this project's prover (an AI agent). -/
import Derived.Test.YtmpaecdgcflalaaPackBack
import Derived.Test.YtmpaecdgcflalaaGoalPackUnpacks
namespace Go.Proofs.Ytmpaecdgcflalaa.Pure
open Go Go.RowKit Go.Proofs.Ytmpaecdgcflalaa.HK Go.Proofs.Ytmpaecdgcflalaa.PackSpec Go.Proofs.YtmpaecdgcflalaaW.PrintWords Go.Proofs.YtmpaecdgcflalaaW.PrintLast
theorem un_mul {a : Int} (G : GoodF a) (ch : Nat) (hch : 1 ≤ ch ∧ ch ≤ 8) : wrap64 (Int.tdiv (wrap64 ((ch : Int) * a)) 8) = ((ch * nbytes a : Nat) : Int) ∧ 1 ≤ ch * nbytes a ∧ ch * nbytes a ≤ 24 := by
  rcases G with rfl | rfl | rfl <;> (rcases (show ch = 1 ∨ ch = 2 ∨ ch = 3 ∨ ch = 4 ∨ ch = 5 ∨ ch = 6 ∨ ch = 7 ∨ ch = 8 by omega) with h | h | h | h | h | h | h | h <;> subst h <;> decide +kernel)
theorem Unpacks_j1 (a : Int) (b : Bool) (c : Int) (l : List Int) (hl : l.length ≤ 600) (hb : Bytes_ l) (G : GoodF a) (x : Bool) (hx : x = false → 1 ≤ c ∧ c ≤ 8) (r : List (List Int) × Int)
    (hr : (1 ≤ c ∧ c ≤ 8 → r = if l.length % (c.toNat * nbytes a) = 0 then (unRows c.toNat (decs a b (nbytes a) (l.length / nbytes a) l), 0) else ([], 3)) ∧ (¬ (1 ≤ c ∧ c ≤ 8) → r = ([], 8))) (hx2 : x = true → ¬ (1 ≤ c ∧ c ≤ 8)) : sackbutlaw05_PackUnpacks.j1 100000 c l r.1 r.2 x a b = some true := by
  rw [show (100000 : Nat) = 99999 + 1 from rfl]
  simp only [sackbutlaw05_PackUnpacks.j1]
  cases x with
  | true =>
    rw [hr.2 (hx2 rfl), if_pos rfl, if_pos rfl]; rfl
  | false =>
    have hc := hx rfl
    obtain ⟨ch, rfl⟩ : ∃ ch : Nat, c = (ch : Int) := ⟨c.toNat, by omega⟩
    have hch : 1 ≤ ch ∧ ch ≤ 8 := by omega
    obtain ⟨e, h1, h2⟩ := un_mul G ch hch
    have hr1 := hr.1 hc
    rw [Int.toNat_natCast] at hr1
    rw [if_neg (by decide), e, if_neg (by omega), hr1]
    by_cases hm : l.length % (ch * nbytes a) = 0
    · have hmi : (l.length : Int) % ((ch * nbytes a : Nat) : Int) = 0 := by exact_mod_cast hm
      rw [if_pos hm, if_pos hmi]
      obtain ⟨n, hn⟩ : ∃ n, l.length = n * (ch * nbytes a) := ⟨l.length / (ch * nbytes a), (Nat.div_mul_cancel (Nat.dvd_of_mod_eq_zero hm)).symm⟩
      have hn6 : n ≤ 600 := by
        have : n ≤ n * (ch * nbytes a) := Nat.le_mul_of_pos_right n (by omega)
        omega
      have hd : l.length / nbytes a = n * ch := by
        rw [hn, ← Nat.mul_assoc, Nat.mul_div_cancel _ (bytes_pos a)]
      obtain ⟨q1, q2⟩ := enc_decs G b (n * ch) l hb (by rw [hn, Nat.mul_assoc])
      obtain ⟨F, hv, hlr⟩ := rows_fit G ch n hch (by omega) (decs a b (nbytes a) (n * ch) l) (decs_length _ _ _ _ _) q2
      rw [hd]
      simp only []
      rw [pack_spec F b 99999 (by omega) (by omega), Option.bind_some, hv, q1, hlr, if_pos trivial, if_pos rfl, if_pos rfl]
      simp
    · have hmi : ¬ ((l.length : Int) % ((ch * nbytes a : Nat) : Int) = 0) := by exact_mod_cast hm
      rw [if_neg hm, if_neg hmi, if_pos rfl]; rfl
theorem Unpacks_j0 (a : Int) (b : Bool) (c : Int) (l : List Int) (hb : Bytes_ l) (x : Bool) (hx : x = false → l.length ≤ 600) : sackbutlaw05_PackUnpacks.j0 100001 c l x a b = some true := by
  rw [show (100001 : Nat) = 100000 + 1 from rfl]
  simp only [sackbutlaw05_PackUnpacks.j0]
  cases x with
  | true => rw [if_pos rfl, awake_ok _ (by omega), Option.bind_some]
  | false =>
    have hl := hx rfl
    rw [if_neg (by decide)]
    by_cases G : GoodF a
    · have e : ∃ r, pack_Unpack.f 100000 a b c l = some r ∧ (1 ≤ c ∧ c ≤ 8 → r = if l.length % (c.toNat * nbytes a) = 0 then (unRows c.toNat (decs a b (nbytes a) (l.length / nbytes a) l), 0) else ([], 3)) ∧ (¬ (1 ≤ c ∧ c ≤ 8) → r = ([], 8)) := by
        by_cases hc : 1 ≤ c ∧ c ≤ 8
        · have h := unpack_spec G b c.toNat (by omega) l (by omega) hb 100000 (by omega)
          rw [show ((c.toNat : Nat) : Int) = c by omega] at h
          refine ⟨_, ?_, fun _ => rfl, fun h => absurd hc h⟩
          rw [h]; split <;> rfl
        · refine ⟨([], 8), ?_, fun h => absurd h hc, fun _ => rfl⟩
          unfold pack_Unpack.f
          rw [if_pos (by omega), if_pos (show a = 8 ∨ a = 16 ∨ a = 24 from G), if_neg hc]
      obtain ⟨r, e, h⟩ := e
      rw [e, Option.bind_some, good_ref, Option.bind_some, decide_eq_true G, if_pos rfl]
      by_cases h1 : c < 1
      · rw [if_pos h1]
        have := Unpacks_j1 a b c l hl hb G true (by simp) r h (fun _ h => by omega)
        exact this
      · rw [if_neg h1]
        have := Unpacks_j1 a b c l hl hb G (decide (c > 8)) (fun h => by have := of_decide_eq_false h; omega) r h (fun h => by have := of_decide_eq_true h; omega)
        exact this
    · have e : pack_Unpack.f 100000 a b c l = some ([], 7) := by
        unfold pack_Unpack.f
        rw [if_pos (by omega), if_neg (show ¬ (a = 8 ∨ a = 16 ∨ a = 24) from G)]
      rw [e, Option.bind_some, good_ref, Option.bind_some, decide_eq_false G, if_neg (by decide), if_pos rfl]; rfl
theorem PackUnpacks : PureGPackUnpacks := by
  intro a b c l _ _ _ hb
  refine ⟨100001, ?_⟩
  have hB : Bytes_ l := fun x hx => by
    have := hb x hx
    simp [Lit.wf, IntKind.min, IntKind.max, IntKind.bits, IntKind.signed] at this
    omega
  unfold sackbutlaw05_PackUnpacks.f
  rw [awake_ok _ (by omega), Option.bind_some, if_pos rfl]
  exact Unpacks_j0 a b c l hB _ (fun h => by have := of_decide_eq_false h; omega)
end Go.Proofs.Ytmpaecdgcflalaa.Pure
