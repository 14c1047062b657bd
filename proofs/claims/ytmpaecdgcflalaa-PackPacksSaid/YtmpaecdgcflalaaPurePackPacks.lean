/- PackPacks in plain numbers and lists. By this project's prover (an AI agent). -/
import Derived.Test.YtmpaecdgcflalaaPackBack
import Derived.Test.YtmpaecdgcflalaaBitStr
import Derived.Test.YtmpaecdgcflalaaGoalPackPacks
namespace Go.Proofs.Ytmpaecdgcflalaa.Pure
open Go Go.RowKit Go.Proofs.Ytmpaecdgcflalaa.HK Go.Proofs.Ytmpaecdgcflalaa.PackSpec Go.Proofs.YtmpaecdgcflalaaW.PrintWords Go.Proofs.YtmpaecdgcflalaaW.PrintLast
open Go.Proofs.Ytmpaecdgcflalaa.BitStr (str putL put_spec bytes_spec bits8 putL_bytes3 putL_add putL_mod)
/-! What is wrong with channels, told alike. -/
def fitB (a v : Int) : Bool := decide (-lim a ≤ v ∧ v < lim a)
def codeV (a : Int) (l : List (List Int)) : Int := if l.all (fun x => x.all (fitB a)) then 0 else 9
theorem codeV_cons (a : Int) (x : List Int) (l : List (List Int)) : codeV a (x :: l) = if x.all (fitB a) then codeV a l else 9 := by
  unfold codeV
  rw [List.all_cons]
  cases x.all (fitB a) <;> simp
def codeL (a : Int) (n : Int) (l m : List (List Int)) : Int := if m.all (fun x => decide ((x.length : Int) = n)) then codeV a l else 8
def codeC (a : Int) (l : List (List Int)) : Int := if GoodF a then (if 1 ≤ l.length ∧ l.length ≤ 8 then codeL a ((rd_L1 l 0).length : Int) l l else 8) else 7
theorem codeL_cons (a : Int) (n : Int) (l : List (List Int)) (x : List Int) (m : List (List Int)) : codeL a n l (x :: m) = if (x.length : Int) = n then codeL a n l m else 8 := by
  unfold codeL
  rw [List.all_cons]
  by_cases h : (x.length : Int) = n
  · rw [decide_eq_true h, Bool.true_and, if_pos h]
  · rw [decide_eq_false h, Bool.false_and, if_neg h]; rfl
theorem any_lacks {a : Int} (G : GoodF a) (b : Bool) (x : List Int) : pack_anyLacks.f x a b = some (!x.all (fitB a)) := by
  unfold pack_anyLacks.f
  have e : ∀ v, pack_Form_lacks.f a b v = some (!fitB a v) := fun v => by unfold pack_Form_lacks.f; rw [form_has G]; rfl
  rw [if_pos (by simp [e])]
  congr 1
  rw [List.not_all_eq_any_not]
  congr 1
  funext v
  rw [e]
  cases fitB a v <;> rfl
theorem pk_l1 {a : Int} (G : GoodF a) (b : Bool) (l : List (List Int)) (hl : l.length ≤ 12) : ∀ (d K i : Nat), i + d = l.length → d < K → pack_Check.l1 K l (l.length : Int) (i : Int) a b = some (codeV a (l.drop i)) := by
  intro d
  induction d with
  | zero =>
    intro K i hi hK
    obtain ⟨K, rfl⟩ : ∃ m, K = m + 1 := ⟨K - 1, by omega⟩
    simp only [pack_Check.l1]
    rw [if_neg (by omega), List.drop_eq_nil_of_le (by omega)]; rfl
  | succ d ih =>
    intro K i hi hK
    obtain ⟨K, rfl⟩ : ∃ m, K = m + 1 := ⟨K - 1, by omega⟩
    have hi' : i < l.length := by omega
    simp only [pack_Check.l1]
    rw [if_pos (by omega), if_pos (by omega), if_pos (by omega), rd1_nat l i hi', any_lacks G, Option.bind_some, List.drop_eq_getElem_cons hi', codeV_cons, wrap_id (by omega) (by omega)]
    have := ih K (i + 1) (by omega) (by omega)
    rw [show ((i + 1 : Nat) : Int) = (i : Int) + 1 by omega] at this
    rw [this]
    cases l[i].all (fitB a) <;> rfl
theorem pk_l0 {a : Int} (G : GoodF a) (b : Bool) (l : List (List Int)) (h1 : 1 ≤ l.length) (hl : l.length ≤ 12) : ∀ (d K i : Nat), i + d = l.length → d + 20 < K → pack_Check.l0 K l l (l.length : Int) (i : Int) a b = some (codeL a ((rd_L1 l 0).length : Int) l (l.drop i)) := by
  intro d
  induction d with
  | zero =>
    intro K i hi hK
    obtain ⟨K, rfl⟩ : ∃ m, K = m + 1 := ⟨K - 1, by omega⟩
    simp only [pack_Check.l0]
    have := pk_l1 G b l hl l.length K 0 (by omega) (by omega)
    rw [show ((0 : Nat) : Int) = 0 from rfl] at this
    rw [if_neg (by omega), List.drop_eq_nil_of_le (by omega), this]; rfl
  | succ d ih =>
    intro K i hi hK
    obtain ⟨K, rfl⟩ : ∃ m, K = m + 1 := ⟨K - 1, by omega⟩
    have hi' : i < l.length := by omega
    simp only [pack_Check.l0]
    rw [if_pos (by omega), if_pos (by omega), if_pos (by omega), if_pos (by omega), rd1_nat l i hi', List.drop_eq_getElem_cons hi', codeL_cons, wrap_id (by omega) (by omega)]
    have := ih K (i + 1) (by omega) (by omega)
    rw [show ((i + 1 : Nat) : Int) = (i : Int) + 1 by omega] at this
    rw [this]
    split <;> rfl
theorem head_len (l : List (List Int)) (h1 : 1 ≤ l.length) (hr : ∀ x ∈ l, x.length ≤ 200) : (rd_L1 l 0).length ≤ 200 := by
  have z0 := rd1_nat l 0 (by omega)
  rw [show ((0 : Nat) : Int) = 0 from rfl] at z0
  rw [z0]; exact hr _ (List.getElem_mem _)
theorem pk_check (a : Int) (b : Bool) (l : List (List Int)) (hl : l.length ≤ 12) (hr : ∀ x ∈ l, x.length ≤ 200) (K : Nat) (hK : 100 ≤ K) : pack_Check.f K a b l = some (codeC a l) := by
  unfold pack_Check.f codeC
  rw [good_form, Option.bind_some]
  by_cases G : GoodF a
  · rw [decide_eq_true G, if_pos rfl, if_pos G]
    by_cases h : 1 ≤ l.length ∧ l.length ≤ 8
    · have hc : pack_count.f (l.length : Int) = some true := by unfold pack_count.f; rw [if_pos (by omega), decide_eq_true (by omega)]
      have := head_len l h.1 hr
      rw [hc, Option.bind_some, if_pos rfl, if_pos (by omega), if_neg (by omega), if_pos h]
      have := pk_l0 G b l h.1 hl l.length K 0 (by omega) (by omega)
      simpa using this
    · have hc : pack_count.f (l.length : Int) = some false := by
        unfold pack_count.f
        by_cases h2 : (l.length : Int) ≥ 1
        · rw [if_pos h2, decide_eq_false (by omega)]
        · rw [if_neg h2]
      rw [hc, Option.bind_some, if_neg (by decide), if_neg h]
  · rw [decide_eq_false G, if_neg (by decide), if_neg G]
theorem rk_l2 {a : Int} (G : GoodF a) (b : Bool) (l : List (List Int)) (i : Nat) (hi : i < l.length) (hl : l.length ≤ 12) (hr : l[i].length ≤ 200) (R : Nat) (hR30 : 30 ≤ R) (c : Int)
    (hR : ∀ K, R ≤ K → sackbutref05_Check.l1 K l (l.length : Int) (((i + 1 : Nat) : Int)) a b = some c) :
    ∀ (d K j : Nat), j + d = l[i].length → d + R + 1 ≤ K → sackbutref05_Check.l2 K l (i : Int) (l.length : Int) (i : Int) (l[i].length : Int) (j : Int) a b = some (if (l[i].drop j).all (fitB a) then c else 9) := by
  intro d
  induction d with
  | zero =>
    intro K j hj hK
    obtain ⟨K, rfl⟩ : ∃ m, K = m + 1 := ⟨K - 1, by omega⟩
    simp only [sackbutref05_Check.l2]
    rw [if_neg (by omega), wrap_id (by omega) (by omega), List.drop_eq_nil_of_le (by omega)]
    have e := hR K (by omega)
    rw [show ((i + 1 : Nat) : Int) = (i : Int) + 1 by omega] at e
    rw [e]; rfl
  | succ d ih =>
    intro K j hj hK
    obtain ⟨K, rfl⟩ : ∃ m, K = m + 1 := ⟨K - 1, by omega⟩
    have hj' : j < l[i].length := by omega
    simp only [sackbutref05_Check.l2]
    rw [if_pos (by omega), if_pos (by omega), if_pos (by omega), if_pos (by omega), rd1_nat l i hi, if_pos (by omega), rd_nat _ j hj', ref_has G _ K (by omega), Option.bind_some, List.drop_eq_getElem_cons hj', List.all_cons, wrap_id (by omega) (by omega)]
    have e := ih K (j + 1) (by omega) (by omega)
    rw [show ((j + 1 : Nat) : Int) = (j : Int) + 1 by omega] at e
    rw [e]
    show (if fitB a l[i][j] = true then _ else _) = _
    cases fitB a l[i][j] <;> simp
theorem rk_l1 {a : Int} (G : GoodF a) (b : Bool) (l : List (List Int)) (hl : l.length ≤ 12) (hr : ∀ x ∈ l, x.length ≤ 200) :
    ∀ (d K i : Nat), i + d = l.length → d * 210 + 50 ≤ K → sackbutref05_Check.l1 K l (l.length : Int) (i : Int) a b = some (codeV a (l.drop i)) := by
  intro d
  induction d with
  | zero =>
    intro K i hi hK
    obtain ⟨K, rfl⟩ : ∃ m, K = m + 1 := ⟨K - 1, by omega⟩
    simp only [sackbutref05_Check.l1]
    rw [if_neg (by omega), List.drop_eq_nil_of_le (by omega)]; rfl
  | succ d ih =>
    intro K i hi hK
    obtain ⟨K, rfl⟩ : ∃ m, K = m + 1 := ⟨K - 1, by omega⟩
    have hi' : i < l.length := by omega
    have hl' := hr _ (List.getElem_mem hi')
    simp only [sackbutref05_Check.l1]
    rw [if_pos (by omega), if_pos (by omega), if_pos (by omega), rd1_nat l i hi', List.drop_eq_getElem_cons hi', codeV_cons]
    have e := rk_l2 G b l i hi' hl hl' (d * 210 + 50) (by omega) _ (fun K hK => ih K (i + 1) (by omega) hK) l[i].length K 0 (by omega) (by omega)
    rw [show ((0 : Nat) : Int) = 0 from rfl] at e
    rw [e, List.drop_zero]
theorem rk_l0 {a : Int} (G : GoodF a) (b : Bool) (l : List (List Int)) (h1 : 1 ≤ l.length) (hl : l.length ≤ 12) (hr : ∀ x ∈ l, x.length ≤ 200) :
    ∀ (d K i : Nat), i + d = l.length → d + 3000 ≤ K → sackbutref05_Check.l0 K l (l.length : Int) (i : Int) a b = some (codeL a ((rd_L1 l 0).length : Int) l (l.drop i)) := by
  intro d
  induction d with
  | zero =>
    intro K i hi hK
    obtain ⟨K, rfl⟩ : ∃ m, K = m + 1 := ⟨K - 1, by omega⟩
    simp only [sackbutref05_Check.l0]
    have e := rk_l1 G b l hl hr l.length K 0 (by omega) (by omega)
    rw [show ((0 : Nat) : Int) = 0 from rfl] at e
    rw [if_neg (by omega), List.drop_eq_nil_of_le (by omega), e]; rfl
  | succ d ih =>
    intro K i hi hK
    obtain ⟨K, rfl⟩ : ∃ m, K = m + 1 := ⟨K - 1, by omega⟩
    have hi' : i < l.length := by omega
    have hl' := hr _ (List.getElem_mem hi')
    simp only [sackbutref05_Check.l0]
    rw [if_pos (by omega), if_pos (by omega), if_pos (by omega), if_pos (by omega), rd1_nat l i hi', List.drop_eq_getElem_cons hi', codeL_cons]
    have e := ih K (i + 1) (by omega) (by omega)
    rw [show ((i + 1 : Nat) : Int) = (i : Int) + 1 by omega] at e
    by_cases he : (l[i].length : Int) = ((rd_L1 l 0).length : Int)
    · rw [if_pos he, if_neg (by omega), wrap_id (by omega) (by omega), e, if_pos he]
    · rw [if_neg he, if_neg he]
theorem rk_check (a : Int) (b : Bool) (l : List (List Int)) (hl : l.length ≤ 12) (hr : ∀ x ∈ l, x.length ≤ 200) (K : Nat) (hK : 4000 ≤ K) : sackbutref05_Check.f K a b l = some (codeC a l) := by
  unfold sackbutref05_Check.f codeC
  rw [good_ref, Option.bind_some]
  by_cases G : GoodF a
  · rw [decide_eq_true G, if_pos rfl, if_pos G]
    obtain ⟨K, rfl⟩ : ∃ m, K = m + 1 := ⟨K - 1, by omega⟩
    by_cases h1 : (l.length : Int) < 1
    · rw [if_pos h1, if_neg (by omega)]; simp only [sackbutref05_Check.j0, if_true]
    · rw [if_neg h1]; simp only [sackbutref05_Check.j0]
      by_cases h8 : (l.length : Int) > 8
      · rw [if_pos (by simpa using h8), if_neg (by omega)]
      · rw [if_neg (by simpa using h8), if_pos (by omega)]
        have e := rk_l0 G b l (by omega) hl hr l.length K 0 (by omega) (by omega)
        rw [show ((0 : Nat) : Int) = 0 from rfl] at e
        rw [e, List.drop_zero]
  · rw [decide_eq_false G, if_neg (by decide), if_neg G]
theorem fits_code {a : Int} {l : List (List Int)} (hr : ∀ x ∈ l, x.length ≤ 200) (h : codeC a l = 0) : ∃ n, Fits a l n ∧ n ≤ 200 := by
  unfold codeC at h
  by_cases G : GoodF a
  · rw [if_pos G] at h
    by_cases h8 : 1 ≤ l.length ∧ l.length ≤ 8
    · rw [if_pos h8] at h
      unfold codeL at h
      by_cases hs : l.all (fun x => decide ((x.length : Int) = ((rd_L1 l 0).length : Int))) = true
      · rw [if_pos hs] at h
        unfold codeV at h
        by_cases hv : l.all (fun x => x.all (fitB a)) = true
        · refine ⟨(rd_L1 l 0).length, ⟨G, h8.1, h8.2, fun x hx => ?_, ?_, fun x hx v hv2 => ?_⟩, head_len l h8.1 hr⟩
          · have := of_decide_eq_true (List.all_eq_true.1 hs x hx)
            omega
          · have := head_len l h8.1 hr; omega
          · exact of_decide_eq_true (List.all_eq_true.1 (List.all_eq_true.1 hv x hx) v hv2)
        · rw [if_neg hv] at h; cases h
      · rw [if_neg hs] at h; cases h
    · rw [if_neg h8] at h; cases h
  · rw [if_neg G] at h; cases h

/-! A sample's bytes, as the document has them. -/
theorem putL_bytes1 (v : Nat) : putL 8 v = bits8 [v % 256] := by
  unfold bits8
  simp only [List.flatMap_cons, List.flatMap_nil, List.append_nil]
  rw [show (256 : Nat) = 2 ^ 8 from rfl, putL_mod]
theorem putL_bytes2 (v : Nat) : putL 16 v = bits8 [v / 256 % 256, v % 256] := by
  unfold bits8
  simp only [List.flatMap_cons, List.flatMap_nil, List.append_nil]
  rw [show (16 : Nat) = 8 + 8 from rfl, putL_add 8 8 v]
  rw [show (256 : Nat) = 2 ^ 8 from rfl, putL_mod, putL_mod]
theorem power_full {a : Int} (G : GoodF a) (K : Nat) (hK : 40 ≤ K) : sackbutref01_Power.f K a = some (2 * lim a) := by
  obtain ⟨K, rfl⟩ : ∃ m, K = m + 40 := ⟨K - 40, by omega⟩
  rcases G with rfl | rfl | rfl <;> simp [sackbutref01_Power.f, sackbutref01_Power.l0, wrap64, lim]
theorem signed_spec {a : Int} (G : GoodF a) (v : Int) (hv : -lim a ≤ v ∧ v < lim a) (K : Nat) (hK : 40 ≤ K) : sackbutref01_Signed.f K v a = some (str (putL a.toNat (v % (2 * lim a)).toNat)) := by
  obtain ⟨g1, g2, g3, g4, g5, g6⟩ := shl_lim G
  have ha : a.toNat ≤ 24 ∧ a = (a.toNat : Int) := by rcases G with rfl | rfl | rfl <;> decide
  unfold sackbutref01_Signed.f
  by_cases h : v < 0
  · have e : v % (2 * lim a) = v + 2 * lim a := by
      rw [← Int.add_emod_right, Int.emod_eq_of_lt (by omega) (by omega)]
    rw [if_pos h, power_full G K hK, Option.bind_some, wrap_id (by omega) (by omega), e]
    have := put_spec a.toNat (v + 2 * lim a).toNat K (by omega) (by omega) (by omega)
    rw [show (((v + 2 * lim a).toNat : Nat) : Int) = v + 2 * lim a by omega, ← ha.2] at this
    rw [this]; rfl
  · rw [if_neg h, Int.emod_eq_of_lt (by omega) (by omega)]
    have := put_spec a.toNat v.toNat K (by omega) (by omega) (by omega)
    rw [show ((v.toNat : Nat) : Int) = v by omega, ← ha.2] at this
    rw [this]; rfl
/-- The document's bytes of a sample: the highest first. -/
theorem doc_bytes {a : Int} (G : GoodF a) (v : Int) (K : Nat) (hK : 60 ≤ K) : sackbutref01_Bytes.f K (str (putL a.toNat (v % (2 * lim a)).toNat)) = some (leb (nbytes a) v).reverse := by
  rcases G with rfl | rfl | rfl
  · obtain ⟨u, hu⟩ : ∃ u : Nat, v % (2 * lim 8) = (u : Int) := ⟨(v % (2 * lim 8)).toNat, by simp [lim]; omega⟩
    rw [hu, Int.toNat_natCast]
    simp [lim] at hu
    rw [show (8 : Int).toNat = 8 from rfl, putL_bytes1, bytes_spec [u % 256] (by simp) (by intro x hx; rw [List.mem_singleton.1 hx]; omega) K (by simp; omega)]
    simp [leb, nbytes]; omega
  · obtain ⟨u, hu⟩ : ∃ u : Nat, v % (2 * lim 16) = (u : Int) := ⟨(v % (2 * lim 16)).toNat, by simp [lim]; omega⟩
    rw [hu, Int.toNat_natCast]
    simp [lim] at hu
    rw [show (16 : Int).toNat = 16 from rfl, putL_bytes2, bytes_spec [u / 256 % 256, u % 256] (by simp) (by intro x hx; simp at hx; omega) K (by simp; omega)]
    simp [leb, nbytes]; omega
  · obtain ⟨u, hu⟩ : ∃ u : Nat, v % (2 * lim 24) = (u : Int) := ⟨(v % (2 * lim 24)).toNat, by simp [lim]; omega⟩
    rw [hu, Int.toNat_natCast]
    simp [lim] at hu
    rw [show (24 : Int).toNat = 24 from rfl, putL_bytes3, bytes_spec [u / 65536 % 256, u / 256 % 256, u % 256] (by simp) (by intro x hx; simp at hx; omega) K (by simp; omega)]
    simp [leb, nbytes]; omega
theorem one_loop (m : List Int) (hm : m.length ≤ 100) : ∀ (d K : Nat) (acc : List Int), d ≤ m.length → d < K → acc.length + d ≤ 1000 → sackbutref05_One.l0 K m acc ((d : Int) - 1) = some (acc ++ (m.take d).reverse) := by
  intro d
  induction d with
  | zero =>
    intro K acc hd hK ha
    obtain ⟨K, rfl⟩ : ∃ k, K = k + 1 := ⟨K - 1, by omega⟩
    simp only [sackbutref05_One.l0]
    rw [if_neg (by omega)]; simp
  | succ d ih =>
    intro K acc hd hK ha
    obtain ⟨K, rfl⟩ : ∃ k, K = k + 1 := ⟨K - 1, by omega⟩
    simp only [sackbutref05_One.l0]
    rw [show ((d + 1 : Nat) : Int) - 1 = (d : Int) by omega, if_pos (by omega), if_pos (by omega), if_pos (by omega), if_pos (by omega), rd_nat m d (by omega), wrap_id (by omega) (by omega), ih K _ (by omega) (by omega) (by simp; omega), List.take_succ_eq_append_getElem (by omega), List.reverse_append]
    simp
theorem one_spec {a : Int} (G : GoodF a) (b : Bool) (v : Int) (hv : -lim a ≤ v ∧ v < lim a) (K : Nat) (hK : 60 ≤ K) : sackbutref05_One.f K a b v = some (enc (nbytes a) b v) := by
  unfold sackbutref05_One.f
  rw [signed_spec G v hv K (by omega), Option.bind_some, doc_bytes G v K hK, Option.bind_some]
  have h3 := bytes_le a
  cases b with
  | true => rfl
  | false =>
    rw [if_neg (by decide), wrap_id (by omega) (by rw [List.length_reverse, leb_length]; omega)]
    have hl : (leb (nbytes a) v).reverse.length = nbytes a := by rw [List.length_reverse, leb_length]
    rw [hl, one_loop (leb (nbytes a) v).reverse (by omega) (nbytes a) K [] (by omega) (by omega) (by simp; omega)]
    rw [List.nil_append, List.take_of_length_le (by omega), List.reverse_reverse]
    rfl
theorem doc_l1 {a : Int} {l : List (List Int)} {c : Nat} (F : Fits a l c) (b : Bool) (i : Nat) (hi : i < c) (R : Nat) (hR60 : 60 ≤ R) (res : List Int → Option (List Int)) (hR : ∀ K acc, R ≤ K → acc.length + (c - (i + 1)) * 24 < 50000000 → sackbutref05_Pack.l0 K l acc (c : Int) (((i + 1 : Nat) : Int)) a b = res acc) :
    ∀ (d K j : Nat) (acc : List Int), j + d = l.length → d + R + 21 ≤ K → acc.length + (c - (i + 1)) * 24 + d * 3 < 50000000 →
      sackbutref05_Pack.l1 K l acc (i : Int) (c : Int) (i : Int) (l.length : Int) (j : Int) a b = res (acc ++ ((l.drop j).map fun r => rd r (i : Int)).flatMap (enc (nbytes a) b)) := by
  have h8 := F.eight; have hb := bytes_le a; have hm := F.most
  intro d
  induction d with
  | zero =>
    intro K j acc hj hK ha
    obtain ⟨K, rfl⟩ : ∃ m, K = m + 1 := ⟨K - 1, by omega⟩
    simp only [sackbutref05_Pack.l1]
    rw [if_neg (by omega), wrap_id (by omega) (by omega), List.drop_eq_nil_of_le (by omega)]
    have := hR K acc (by omega) (by omega)
    rw [show ((i + 1 : Nat) : Int) = (i : Int) + 1 by omega] at this
    rw [this]; simp
  | succ d ih =>
    intro K j acc hj hK ha
    obtain ⟨K, rfl⟩ : ∃ m, K = m + 1 := ⟨K - 1, by omega⟩
    have hj' : j < l.length := by omega
    have hs := F.same _ (List.getElem_mem hj')
    have hv : -lim a ≤ rd l[j] (i : Int) ∧ rd l[j] (i : Int) < lim a := by
      rw [rd_nat _ i (by omega)]; exact F.has _ (List.getElem_mem hj') _ (List.getElem_mem _)
    simp only [sackbutref05_Pack.l1]
    rw [if_pos (by omega), if_pos (by omega), if_pos (by omega), if_pos (by omega), rd1_nat l j hj', hs, if_pos (by omega), one_spec F.good b _ hv K (by omega), Option.bind_some, if_pos (by rw [enc_length]; omega), wrap_id (by omega) (by omega)]
    have := ih K (j + 1) (acc ++ enc (nbytes a) b (rd l[j] (i : Int))) (by omega) (by omega) (by rw [List.length_append, enc_length]; omega)
    rw [show ((j + 1 : Nat) : Int) = (j : Int) + 1 by omega] at this
    rw [this, List.drop_eq_getElem_cons hj', List.map_cons, List.flatMap_cons, List.append_assoc]
theorem doc_l0 {a : Int} {l : List (List Int)} {c : Nat} (F : Fits a l c) (b : Bool) : ∀ (d K i : Nat) (acc : List Int), i + d = c → d * 40 + 100 ≤ K → acc.length + d * 24 < 50000000 →
      sackbutref05_Pack.l0 K l acc (c : Int) (i : Int) a b = some (acc ++ (vals l i d).flatMap (enc (nbytes a) b)) := by
  have h8 := F.eight; have hb := bytes_le a; have hm := F.most
  intro d
  induction d with
  | zero =>
    intro K i acc hi hK ha
    obtain ⟨K, rfl⟩ : ∃ m, K = m + 1 := ⟨K - 1, by omega⟩
    simp only [sackbutref05_Pack.l0]
    rw [if_neg (by omega)]; simp [vals]
  | succ d ih =>
    intro K i acc hi hK ha
    obtain ⟨K, rfl⟩ : ∃ m, K = m + 1 := ⟨K - 1, by omega⟩
    simp only [sackbutref05_Pack.l0]
    rw [if_pos (by omega)]
    have := doc_l1 F b i (by omega) (d * 40 + 100) (by omega) (fun acc => some (acc ++ (vals l (i + 1) d).flatMap (enc (nbytes a) b))) (fun K acc hK ha => ih K (i + 1) acc (by omega) hK (by omega)) l.length K 0 acc (by omega) (by omega) (by omega)
    rw [show ((0 : Nat) : Int) = 0 from rfl] at this
    rw [this, List.drop_zero, List.append_assoc, vals, List.flatMap_append]
theorem doc_spec {a : Int} {l : List (List Int)} {c : Nat} (F : Fits a l c) (b : Bool) (K : Nat) (hK : c * 40 + 100 ≤ K) (hc : c ≤ 2000000) : sackbutref05_Pack.f K a b l = some ((vals l 0 c).flatMap (enc (nbytes a) b)) := by
  have h1 := F.one
  unfold sackbutref05_Pack.f
  rw [if_pos (by omega), F.zero]
  have := doc_l0 F b c K 0 [] (by omega) hK (by simp; omega)
  simpa using this

/-! The law. -/
theorem same_self_loop (l : List Int) (hl : l.length ≤ 9223372036854775807) : ∀ (d K j : Nat), j + d = l.length → d < K → sackbutref01_Same.l0 K l l (l.length : Int) (j : Int) = some true := by
  intro d
  induction d with
  | zero =>
    intro K j hj hK
    obtain ⟨K, rfl⟩ : ∃ m, K = m + 1 := ⟨K - 1, by omega⟩
    simp only [sackbutref01_Same.l0]
    rw [if_neg (by omega)]
  | succ d ih =>
    intro K j hj hK
    obtain ⟨K, rfl⟩ : ∃ m, K = m + 1 := ⟨K - 1, by omega⟩
    simp only [sackbutref01_Same.l0]
    rw [if_pos (by omega), if_pos (by omega), if_pos (by omega), if_pos (by omega), if_pos trivial, wrap_id (by omega) (by omega)]
    have := ih K (j + 1) (by omega) (by omega)
    rwa [show ((j + 1 : Nat) : Int) = (j : Int) + 1 by omega] at this
theorem same_one (l : List Int) (hl : l.length ≤ 9223372036854775807) (K : Nat) (hK : l.length < K) : sackbutref01_Same.f K l l = some true := by
  unfold sackbutref01_Same.f
  rw [if_pos rfl]
  exact same_self_loop l hl l.length K 0 (by omega) hK
theorem same_all_loop (l : List (List Int)) (hl : l.length ≤ 12) (hr : ∀ x ∈ l, x.length ≤ 200) : ∀ (d K j : Nat), j + d = l.length → d + 300 < K → sackbutref05_Same.l0 K l l (l.length : Int) (j : Int) = some true := by
  intro d
  induction d with
  | zero =>
    intro K j hj hK
    obtain ⟨K, rfl⟩ : ∃ m, K = m + 1 := ⟨K - 1, by omega⟩
    simp only [sackbutref05_Same.l0]
    rw [if_neg (by omega)]
  | succ d ih =>
    intro K j hj hK
    obtain ⟨K, rfl⟩ : ∃ m, K = m + 1 := ⟨K - 1, by omega⟩
    have hj' : j < l.length := by omega
    have hx := hr _ (List.getElem_mem hj')
    simp only [sackbutref05_Same.l0]
    rw [if_pos (by omega), if_pos (by omega), if_pos (by omega), if_pos (by omega), rd1_nat l j hj', same_one _ (by omega) K (by omega), Option.bind_some, if_pos rfl, wrap_id (by omega) (by omega)]
    have := ih K (j + 1) (by omega) (by omega)
    rwa [show ((j + 1 : Nat) : Int) = (j : Int) + 1 by omega] at this
theorem same_all (l : List (List Int)) (hl : l.length ≤ 12) (hr : ∀ x ∈ l, x.length ≤ 200) (K : Nat) (hK : 400 ≤ K) : sackbutref05_Same.f K l l = some true := by
  unfold sackbutref05_Same.f
  rw [if_pos rfl]
  exact same_all_loop l hl hr l.length K 0 (by omega) (by omega)
theorem own_loop (l : List (List Int)) (hl : l.length ≤ 12) (hr : ∀ x ∈ l, x.length ≤ 200) : ∀ (d K j : Nat) (acc : List (List Int)), j + d = l.length → d < K → acc.length + d ≤ 100 → sackbutlaw05_own.l0 K acc l (l.length : Int) (j : Int) = some (acc ++ l.drop j) := by
  intro d
  induction d with
  | zero =>
    intro K j acc hj hK ha
    obtain ⟨K, rfl⟩ : ∃ m, K = m + 1 := ⟨K - 1, by omega⟩
    simp only [sackbutlaw05_own.l0]
    rw [if_neg (by omega), List.drop_eq_nil_of_le (by omega), List.append_nil]
  | succ d ih =>
    intro K j acc hj hK ha
    obtain ⟨K, rfl⟩ : ∃ m, K = m + 1 := ⟨K - 1, by omega⟩
    have hj' : j < l.length := by omega
    have hx := hr _ (List.getElem_mem hj')
    simp only [sackbutlaw05_own.l0]
    rw [if_pos (by omega), if_pos (by omega), if_pos (by omega), Option.bind_some, rd1_nat l j hj', if_pos (by simp; omega), if_pos (by omega), wrap_id (by omega) (by omega), List.nil_append]
    have := ih K (j + 1) (acc ++ [l[j]]) (by omega) (by omega) (by simp; omega)
    rw [show ((j + 1 : Nat) : Int) = (j : Int) + 1 by omega] at this
    rw [this, List.drop_eq_getElem_cons hj', List.append_assoc]; rfl
theorem own_spec (l : List (List Int)) (hl : l.length ≤ 12) (hr : ∀ x ∈ l, x.length ≤ 200) (K : Nat) (hK : 20 ≤ K) : sackbutlaw05_own.f K l = some l := by
  unfold sackbutlaw05_own.f
  have := own_loop l hl hr l.length K 0 [] (by omega) (by omega) (by simp; omega)
  simpa using this
theorem enc_bytes (n : Nat) (b : Bool) (v : Int) : Bytes_ (enc n b v) := by
  have h : ∀ (n : Nat) (v : Int), Bytes_ (leb n v) := by
    intro n
    induction n with
    | zero => intro v x hx; cases hx
    | succ n ih =>
      intro v x hx
      rcases List.mem_cons.1 hx with rfl | hx
      · omega
      · exact ih _ x hx
  unfold enc
  split
  · intro x hx; exact h n v x (List.mem_reverse.1 hx)
  · exact h n v
theorem Packs_j0 (a : Int) (b : Bool) (l : List (List Int)) (x : Bool) (hx : x = false → l.length ≤ 12 ∧ ∀ x ∈ l, x.length ≤ 200) : sackbutlaw05_PackPacks.j0 100001 l x a b = some true := by
  rw [show (100001 : Nat) = 100000 + 1 from rfl]
  simp only [sackbutlaw05_PackPacks.j0]
  cases x with
  | true => rw [if_pos rfl, awake_ok _ (by omega), Option.bind_some]
  | false =>
    obtain ⟨hl, hr⟩ := hx rfl
    rw [if_neg (by decide), own_spec l hl hr _ (by omega), Option.bind_some, rk_check a b l hl hr _ (by omega), Option.bind_some]
    by_cases hc : codeC a l = 0
    · obtain ⟨n, F, hn⟩ := fits_code hr hc
      have h1 := F.one
      have h8 := F.eight
      rw [pack_spec F b 100000 (by omega) (by omega), Option.bind_some, hc, if_pos rfl, pk_check a b l hl hr 100000 (by omega), Option.bind_some, hc, if_pos rfl, same_all l hl hr _ (by omega), Option.bind_some]
      rw [show (100000 : Nat) = 99999 + 1 from rfl]
      simp only [sackbutlaw05_PackPacks.j1]
      have hvl : (vals l 0 n).length = n * l.length := vals_length l n 0
      have hel : ((vals l 0 n).flatMap (enc (nbytes a) b)).length = n * l.length * nbytes a := by rw [flat_length (enc_length (nbytes a) b), hvl]
      have hb3 := bytes_le a
      have hb1 := bytes_pos a
      have hle : n * l.length * nbytes a ≤ 200 * 8 * 3 := Nat.mul_le_mul (Nat.mul_le_mul hn h8) hb3
      have hBy : Bytes_ ((vals l 0 n).flatMap (enc (nbytes a) b)) := fun x hx => by
        obtain ⟨v, _, hx⟩ := List.mem_flatMap.1 hx
        exact enc_bytes _ _ _ x hx
      have hmod : ((vals l 0 n).flatMap (enc (nbytes a) b)).length % (l.length * nbytes a) = 0 := by rw [hel, Nat.mul_assoc]; exact Nat.mul_mod_left _ _
      have hdiv : ((vals l 0 n).flatMap (enc (nbytes a) b)).length / nbytes a = (vals l 0 n).length := by rw [hel, hvl, Nat.mul_div_cancel _ hb1]
      have hu := unpack_spec F.good b l.length ⟨h1, h8⟩ _ (by rw [hel]; omega) hBy 99999 (by omega)
      rw [if_pos hmod, hdiv, decs_enc F.good b _ (vals_mem l n F.same _ F.has n 0 (by omega)), unRows_vals l n F.same] at hu
      rw [if_neg (by decide), if_pos trivial, hu, Option.bind_some, doc_spec F b 99999 (by omega) (by omega), Option.bind_some, if_pos rfl, if_pos rfl, same_all l hl hr _ (by omega), Option.bind_some]
    · have hp : pack_Pack.f 100000 a b l = some ([], codeC a l) := by
        unfold pack_Pack.f
        rw [pk_check a b l hl hr 100000 (by omega), Option.bind_some, if_neg hc]
      rw [hp, Option.bind_some, if_pos rfl, pk_check a b l hl hr 100000 (by omega), Option.bind_some, if_pos rfl, same_all l hl hr _ (by omega), Option.bind_some]
      rw [show (100000 : Nat) = 99999 + 1 from rfl]
      simp only [sackbutlaw05_PackPacks.j1]
      rw [if_neg (by decide), if_neg hc]; rfl
theorem PackPacks : PureGPackPacks := by
  intro a b l _ hlen _
  by_cases hs : l.length ≤ 100000
  · refine ⟨100001, ?_⟩
    obtain ⟨f, hf, h⟩ := few_spec l hlen 100001 (by omega)
    unfold sackbutlaw05_PackPacks.f
    rw [awake_ok _ (by omega), Option.bind_some, if_pos rfl, hf, Option.bind_some]
    exact Packs_j0 a b l _ (fun e => h (by simpa using e))
  · obtain ⟨f, hf, h⟩ := few_spec l hlen (l.length + 100001) (by omega)
    refine ⟨l.length + 100001, ?_⟩
    have hff : f = false := by
      cases f with
      | false => rfl
      | true => have := (h rfl).1; omega
    unfold sackbutlaw05_PackPacks.f
    rw [awake_ok _ (by omega), Option.bind_some, if_pos rfl, hf, Option.bind_some, hff]
    rw [show l.length + 100001 = (l.length + 100000) + 1 from rfl]
    simp only [sackbutlaw05_PackPacks.j0]
    rw [if_pos (by rfl), awake_ok _ (by omega), Option.bind_some]
end Go.Proofs.Ytmpaecdgcflalaa.Pure
