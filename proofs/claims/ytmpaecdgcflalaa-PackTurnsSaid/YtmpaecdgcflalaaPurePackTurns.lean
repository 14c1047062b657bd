/- PackTurns in plain numbers and lists. By this project's prover (an AI agent). -/
import Derived.Test.YtmpaecdgcflalaaPackRef
import Derived.Test.YtmpaecdgcflalaaGoalPackTurns
namespace Go.Proofs.Ytmpaecdgcflalaa.Pure
open Go Go.RowKit Go.Proofs.Ytmpaecdgcflalaa.HK Go.Proofs.Ytmpaecdgcflalaa.PackSpec Go.Proofs.YtmpaecdgcflalaaW.PrintWords Go.Proofs.YtmpaecdgcflalaaW.PrintLast

theorem flat_get {n : Nat} {f : Int → List Int} (hf : ∀ v, (f v).length = n) : ∀ (vs : List Int) (q r : Nat), q < vs.length → r < n → (vs.flatMap f).getD (q * n + r) 0 = (f (vs.getD q 0)).getD r 0
  | [], q, r, hq, hr => by simp at hq
  | v :: vs, 0, r, hq, hr => by
    rw [List.flatMap_cons, Nat.zero_mul, Nat.zero_add, List.getD_eq_getElem?_getD, List.getElem?_append_left (by rw [hf]; exact hr), ← List.getD_eq_getElem?_getD]; rfl
  | v :: vs, q + 1, r, hq, hr => by
    have := flat_get hf vs q r (by simpa using hq) hr
    rw [List.flatMap_cons, List.getD_eq_getElem?_getD, List.getElem?_append_right (by rw [hf, Nat.succ_mul]; omega), hf, show (q + 1) * n + r - n = q * n + r by rw [Nat.succ_mul]; omega, ← List.getD_eq_getElem?_getD, this]; rfl
theorem turn_get (n : Nat) (v : Int) (r : Nat) (hr : r < n) : (enc n false v).getD r 0 = (enc n true v).getD (n - 1 - r) 0 := by
  simp only [enc, if_true, if_false, Bool.false_eq_true]
  have h1 := leb_length n v
  rw [List.getD_eq_getElem?_getD, List.getD_eq_getElem?_getD, List.getElem?_reverse (by omega), h1, show n - 1 - (n - 1 - r) = r by omega]
theorem idx (n q r : Nat) (hn : 1 ≤ n ∧ n ≤ 3) (hr : r < n) (hq : q * n + n ≤ 30000) :
    wrap64 (wrap64 (wrap64 (wrap64 (wrap64 (q : Int) * (n : Int)) + (n : Int)) - 1) - (r : Int)) = ((q * n + (n - 1 - r) : Nat) : Int) := by
  have h1 : q ≤ q * n := Nat.le_mul_of_pos_right q (by omega)
  rw [wrap_id (x := (q : Int)) (by omega) (by omega), show (q : Int) * (n : Int) = ((q * n : Nat) : Int) by push_cast; rfl]
  generalize q * n = m at *
  rw [wrap_id (x := (m : Int)) (by omega) (by omega), wrap_id (x := (m : Int) + (n : Int)) (by omega) (by omega), wrap_id (x := (m : Int) + (n : Int) - 1) (by omega) (by omega), wrap_id (by omega) (by omega)]
  omega
theorem turns_l0 (l : List (List Int)) (vs : List Int) (n : Nat) (hn : 1 ≤ n ∧ n ≤ 3) (hv : vs.length ≤ 10000) (h0 : 0 < (l.length : Int)) (hp : wrap64 (wrap64 ((l.length : Int) * ((rd_L1 l 0).length : Int)) * (n : Int)) = ((vs.flatMap (enc n false)).length : Int)) :
    ∀ (d K j : Nat), j + d = (vs.flatMap (enc n false)).length → d + 10 ≤ K →
      sackbutlaw05_PackTurns.l0 K l (vs.flatMap (enc n false)) (vs.flatMap (enc n true)) (n : Int) ((vs.flatMap (enc n false)).length : Int) (j : Int) = some true := by
  have hm : vs.length * n ≤ 10000 * 3 := Nat.mul_le_mul hv hn.2
  have e6 : (vs.flatMap (enc n false)).length = vs.length * n := flat_length (enc_length n false) vs
  have e8 : (vs.flatMap (enc n true)).length = vs.length * n := flat_length (enc_length n true) vs
  intro d
  induction d with
  | zero =>
    intro K j hj hK
    obtain ⟨K, rfl⟩ : ∃ m, K = m + 10 := ⟨K - 10, by omega⟩
    simp only [sackbutlaw05_PackTurns.l0]
    rw [if_neg (by omega), if_pos h0, hp]
    simp [sackbutref01_Same.f, sackbutref01_Same.l0, wrap64]
  | succ d ih =>
    intro K j hj hK
    obtain ⟨K, rfl⟩ : ∃ m, K = m + 1 := ⟨K - 1, by omega⟩
    have hdm : n * (j / n) + j % n = j := Nat.div_add_mod j n
    have hmod : j % n < n := Nat.mod_lt _ (by omega)
    have hq : j / n < vs.length := Nat.div_lt_of_lt_mul (by rw [Nat.mul_comm]; omega)
    have ed : Int.tdiv (j : Int) (n : Int) = ((j / n : Nat) : Int) := rfl
    have em : Int.tmod (j : Int) (n : Int) = ((j % n : Nat) : Int) := rfl
    have hq2 : j / n * n + n ≤ vs.length * n := by rw [← Nat.succ_mul]; exact Nat.mul_le_mul_right _ hq
    have hc : n * (j / n) = j / n * n := Nat.mul_comm _ _
    simp only [sackbutlaw05_PackTurns.l0]
    have hmb : j / n * n + (n - 1 - j % n) < vs.length * n := by
      clear ed em hdm hc ih hp; generalize j / n * n = u at *; generalize j % n = r at *; omega
    have hq3 : j / n * n + n ≤ 30000 := by clear ed em hdm hc ih hp; generalize j / n * n = u at *; omega
    have ei := idx n (j / n) (j % n) hn hmod hq3
    rw [← ed, ← em] at ei
    have eq : rd (vs.flatMap (enc n false)) (j : Int) = rd (vs.flatMap (enc n true)) ((j / n * n + (n - 1 - j % n) : Nat) : Int) := by
      unfold rd
      rw [Int.toNat_natCast, Int.toNat_natCast, flat_get (enc_length n true) vs (j / n) (n - 1 - j % n) hq (by have := hmod; generalize j % n = r at *; omega), ← turn_get n _ _ hmod, ← flat_get (enc_length n false) vs (j / n) (j % n) hq hmod, ← hc, hdm]
    rw [ei]
    clear ei ed em hdm hc hq hq2 hq3 hmod hp
    generalize j / n * n + (n - 1 - j % n) = m at *
    rw [if_pos (by omega), if_pos (by omega), if_pos (by omega), if_neg (by omega), if_pos (by omega), if_pos (by omega)]
    rw [if_pos eq, wrap_id (by omega) (by omega)]
    have := ih K (j + 1) (by omega) (by omega)
    rwa [show ((j + 1 : Nat) : Int) = (j : Int) + 1 by omega] at this
theorem size_eq {a : Int} (h : GoodF a) : wrap64 (Int.tdiv a 8) = (nbytes a : Int) := by rcases h with rfl | rfl | rfl <;> decide +kernel
theorem turns_j0 {a : Int} (l : List (List Int)) (x : Bool) (K : Nat) (hK : 100000 ≤ K) (h : x = false → ∃ n, Fits a l n ∧ n ≤ 200) : sackbutlaw05_PackTurns.j0 K l x a false = some true := by
  obtain ⟨K, rfl⟩ : ∃ m, K = m + 2 := ⟨K - 2, by omega⟩
  simp only [sackbutlaw05_PackTurns.j0]
  by_cases hx : x = true
  · rw [if_pos hx, awake_ok (K + 1) (by omega), Option.bind_some]
  · rw [if_neg hx]
    obtain ⟨n, F, hn⟩ := h (by simpa using hx)
    have h1 := F.one; have h8 := F.eight
    have hv : (vals l 0 n).length ≤ 10000 := by rw [vals_length]; have := Nat.mul_le_mul hn h8; omega
    have hb := bytes_le a; have hb1 := bytes_pos a
    have e6 := flat_length (enc_length (nbytes a) false) (vals l 0 n)
    have e8 := flat_length (enc_length (nbytes a) true) (vals l 0 n)
    have hm : (vals l 0 n).length * nbytes a ≤ 10000 * 3 := Nat.mul_le_mul hv hb
    rw [pack_spec F false (K + 1) (by omega) (by omega), Option.bind_some, pack_spec F true (K + 1) (by omega) (by omega), Option.bind_some]
    simp only [if_true]
    simp only [sackbutlaw05_PackTurns.j1]
    rw [e6, e8, if_neg (by simp), size_eq F.good, ← e6]
    have hl := vals_length l n 0
    have hp : wrap64 (wrap64 ((l.length : Int) * ((rd_L1 l 0).length : Int)) * (nbytes a : Int)) = (((vals l 0 n).flatMap (enc (nbytes a) false)).length : Int) := by
      have hnl : l.length * n ≤ 8 * 200 := Nat.mul_le_mul h8 hn
      have e : l.length * n = (vals l 0 n).length := by rw [hl, Nat.mul_comm]
      rw [F.zero, show (l.length : Int) * (n : Int) = ((l.length * n : Nat) : Int) by push_cast; rfl, wrap_id (x := ((l.length * n : Nat) : Int)) (by omega) (by omega), e, show ((vals l 0 n).length : Int) * (nbytes a : Int) = (((vals l 0 n).length * nbytes a : Nat) : Int) by push_cast; rfl, e6]
      exact wrap_id (by omega) (by omega)
    exact turns_l0 l (vals l 0 n) (nbytes a) ⟨hb1, hb⟩ hv (by omega) hp ((vals l 0 n).flatMap (enc (nbytes a) false)).length K 0 (by omega) (by omega)
theorem wf_u8 {x : Int} (h : (Lit.int .u8 x).wf = true) : 0 ≤ x ∧ x < 256 := by
  simp [Lit.wf, IntKind.min, IntKind.max, IntKind.bits, IntKind.signed] at h
  omega
theorem PackTurns : PureGPackTurns := by
  intro a l _ hl _; refine ⟨l.length + 200000, ?_⟩
  unfold sackbutlaw05_PackTurns.f
  generalize wrap64 (8 * wrap64 (1 + wrap64 (Int.tmod a 3))) = s
  rw [awake_ok _ (by omega), Option.bind_some, if_pos rfl]
  obtain ⟨z, ez, hz⟩ := few_spec l hl (l.length + 200000) (by omega)
  rw [ez, Option.bind_some]
  by_cases h : z = true
  · rw [if_pos h]
    obtain ⟨c, ec, hc⟩ := ref_check s false l (hz h).1 (hz h).2 (l.length + 200000) (by omega)
    rw [ec, Option.bind_some]
    exact turns_j0 l _ _ (by omega) (fun q => hc (by simpa using q))
  · rw [if_neg h]
    exact turns_j0 l _ _ (by omega) (fun q => absurd q (by decide))
end Go.Proofs.Ytmpaecdgcflalaa.Pure
