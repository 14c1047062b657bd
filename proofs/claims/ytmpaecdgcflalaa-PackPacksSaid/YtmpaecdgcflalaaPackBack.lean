/- What unpacking comes to, in plain numbers and lists: bytes and samples there and back. By this project's prover (an AI agent). -/
import Derived.Laws.BitsLemmas
import Derived.Test.YtmpaecdgcflalaaPackRef
import Derived.Test.YtmpaecdgcflalaaHKx16
namespace Go.Proofs.Ytmpaecdgcflalaa.PackSpec
open Go Go.RowKit Go.Proofs.Ytmpaecdgcflalaa.HK Go.Proofs.YtmpaecdgcflalaaW.PrintWords Go.Proofs.YtmpaecdgcflalaaW.PrintLast

/-- The number of bytes, the highest first. -/
def valB (s : Int) (c : List Int) : Int := c.foldl (fun s x => s * 256 + x) s
def fin_ (a u : Int) : Int := if u ≥ lim a then u - 2 * lim a else u
def dec (a : Int) (b : Bool) (c : List Int) : Int := fin_ a (valB 0 (if b then c else c.reverse))
def Bytes_ (l : List Int) : Prop := ∀ x ∈ l, 0 ≤ x ∧ x < 256
theorem wraps_i64 (n : Int) (h0 : 0 ≤ n) (h1 : n < 2 ^ 40) : IntKind.i64.wrap n = n := by rw [IntKind.wrap_i64]; omega
theorem or_byte (s x : Int) (h0 : 0 ≤ s) (h1 : s < 16777216) (hx : 0 ≤ x ∧ x < 256) : Go.bits .or .i64 (s * 256) x = s * 256 + x :=
  bits_join .i64 40 (by decide) wraps_i64 8 (s * 256) x (by omega) (by show s * 256 % 256 = 0; omega) (by show s * 256 < 1099511627776; omega) hx.1 (by show x < 256; omega) (by show x < 1099511627776; omega)
theorem shl_lim {a : Int} (G : GoodF a) : 0 ≤ wrap64 (a - 1) ∧ shl .i64 1 (wrap64 (a - 1)) = lim a ∧ shl .i64 1 a = 2 * lim a ∧ 0 ≤ a ∧ 0 < lim a ∧ lim a ≤ 8388608 := by
  rcases G with rfl | rfl | rfl <;> decide +kernel
theorem pow_small (j : Nat) (h : j ≤ 2) : (0 : Int) < 256 ^ j ∧ (256 : Int) ^ j ≤ 65536 := by
  rcases (show j = 0 ∨ j = 1 ∨ j = 2 by omega) with rfl | rfl | rfl <;> decide
theorem take_loop {a : Int} (G : GoodF a) (b : Bool) (m : List Int) (hm : m.length ≤ 3) (hb : Bytes_ m) : ∀ (d K j : Nat) (s : Int), j + d = m.length → d < K → 0 ≤ s → s < 256 ^ j → pack_Form_take.l0 K s m (m.length : Int) (j : Int) a b = some (fin_ a (valB s (m.drop j))) := by
  obtain ⟨g1, g2, g3, g4, g5, g6⟩ := shl_lim G
  intro d
  induction d with
  | zero =>
    intro K j s hj hK h0 h1
    obtain ⟨K, rfl⟩ : ∃ k, K = k + 1 := ⟨K - 1, by omega⟩
    have hs : s < 16777216 := by
      have : (256 : Int) ^ j ≤ 16777216 := by rcases (show j = 0 ∨ j = 1 ∨ j = 2 ∨ j = 3 by omega) with h | h | h | h <;> rw [h] <;> decide
      omega
    simp only [pack_Form_take.l0]
    rw [if_neg (by omega), if_pos g1, g2, List.drop_eq_nil_of_le (by omega)]
    unfold valB fin_
    rw [List.foldl_nil]
    by_cases h : s ≥ lim a
    · rw [if_pos h, if_pos h, if_pos g4, g3, wrap_id (by omega) (by omega)]
    · rw [if_neg h, if_neg h]
  | succ d ih =>
    intro K j s hj hK h0 h1
    obtain ⟨K, rfl⟩ : ∃ k, K = k + 1 := ⟨K - 1, by omega⟩
    have hj' : j < m.length := by omega
    have hx := hb _ (List.getElem_mem hj')
    have hp := pow_small j (by omega)
    have hq : (256 : Int) ^ (j + 1) = 256 ^ j * 256 := Int.pow_succ 256 j
    simp only [pack_Form_take.l0]
    rw [if_pos (by omega), if_pos (by omega), if_pos (by omega), rd_nat m j hj', wrap_id (x := s * 256) (by omega) (by omega), wrap_id (x := m[j]) (by omega) (by omega), or_byte s _ h0 (by omega) hx, wrap_id (by omega) (by omega)]
    have := ih K (j + 1) (s * 256 + m[j]) (by omega) (by omega) (by omega) (by omega)
    rw [show ((j + 1 : Nat) : Int) = (j : Int) + 1 by omega] at this
    rw [this, List.drop_eq_getElem_cons hj']
    rfl
theorem rev_spec (c : List Int) (h : c.length ≤ 3) (K : Nat) (hK : 20 ≤ K) : slices_Reverse_byte_byte.f K c = some c.reverse := by
  obtain ⟨K, rfl⟩ : ∃ m, K = m + 20 := ⟨K - 20, by omega⟩
  match c, h with
  | [], _ => simp [slices_Reverse_byte_byte.f, slices_Reverse_byte_byte.l0, wrap64]
  | [x], _ => simp [slices_Reverse_byte_byte.f, slices_Reverse_byte_byte.l0, wrap64]
  | [x, y], _ => simp [slices_Reverse_byte_byte.f, slices_Reverse_byte_byte.l0, wrap64, rd]
  | [x, y, z], _ => simp [slices_Reverse_byte_byte.f, slices_Reverse_byte_byte.l0, wrap64, rd]
  | _ :: _ :: _ :: _ :: _, h => exact absurd h (by simp)
theorem take_j0 {a : Int} (G : GoodF a) (b : Bool) (m : List Int) (hm : m.length ≤ 3) (hb : Bytes_ m) (K : Nat) (hK : 10 ≤ K) : pack_Form_take.j0 K m a b = some (fin_ a (valB 0 m)) := by
  obtain ⟨K, rfl⟩ : ∃ k, K = k + 1 := ⟨K - 1, by omega⟩
  simp only [pack_Form_take.j0]
  have := take_loop G b m hm hb m.length K 0 0 (by omega) (by omega) (by omega) (by decide)
  simpa using this
theorem take_spec {a : Int} (G : GoodF a) (b : Bool) (c : List Int) (hc : c.length ≤ 3) (hb : Bytes_ c) (K : Nat) (hK : 20 ≤ K) : pack_Form_take.f K a b c = some (dec a b c) := by
  unfold pack_Form_take.f slices_Clone_byte_byte.f dec
  rw [if_pos (by omega), Option.bind_some]
  cases b with
  | true => rw [if_pos rfl, take_j0 G true c hc hb K (by omega)]; rfl
  | false => rw [if_neg (by decide), rev_spec c hc K hK, Option.bind_some, take_j0 G false c.reverse (by rw [List.length_reverse]; exact hc) (fun x hx => hb x (List.mem_reverse.1 hx)) K (by omega)]; rfl
theorem dec_enc {a : Int} (G : GoodF a) (b : Bool) (v : Int) (hv : -lim a ≤ v ∧ v < lim a) : dec a b (enc (nbytes a) b v) = v := by
  have e : (if b then enc (nbytes a) b v else (enc (nbytes a) b v).reverse) = (leb (nbytes a) v).reverse := by cases b <;> simp [enc]
  unfold dec
  rw [e]
  rcases G with rfl | rfl | rfl
  · simp only [lim, if_true] at hv
    simp [leb, nbytes, valB, fin_, lim]
    split <;> omega
  · simp [lim] at hv
    simp [leb, nbytes, valB, fin_, lim]
    split <;> omega
  · simp [lim] at hv
    simp [leb, nbytes, valB, fin_, lim]
    split <;> omega
theorem fin_range {a : Int} (u : Int) (h0 : 0 ≤ u) (h1 : u < 2 * lim a) : -lim a ≤ fin_ a u ∧ fin_ a u < lim a := by
  unfold fin_; split <;> omega
theorem two_of : ∀ c : List Int, c.length = 2 → ∃ x y, c = [x, y]
  | [x, y], _ => ⟨x, y, rfl⟩
theorem three_of : ∀ c : List Int, c.length = 3 → ∃ x y z, c = [x, y, z]
  | [x, y, z], _ => ⟨x, y, z, rfl⟩
theorem leb_fin {a : Int} (G : GoodF a) (c : List Int) (hc : c.length = nbytes a) (hb : Bytes_ c) : leb (nbytes a) (fin_ a (valB 0 c)) = c.reverse ∧ 0 ≤ valB 0 c ∧ valB 0 c < 2 * lim a := by
  rcases G with rfl | rfl | rfl
  · simp [nbytes] at hc
    obtain ⟨x, rfl⟩ := List.length_eq_one_iff.1 hc
    have hx := hb x (by simp)
    simp [leb, nbytes, valB, fin_, lim]
    refine ⟨?_, by omega⟩
    split <;> omega
  · simp [nbytes] at hc
    obtain ⟨x, y, rfl⟩ := two_of c hc
    have hx := hb x (by simp)
    have hy := hb y (by simp)
    simp [leb, nbytes, valB, fin_, lim]
    refine ⟨?_, by omega⟩
    split <;> omega
  · simp [nbytes] at hc
    obtain ⟨x, y, z, rfl⟩ := three_of c hc
    have hx := hb x (by simp)
    have hy := hb y (by simp)
    have hz := hb z (by simp)
    simp [leb, nbytes, valB, fin_, lim]
    refine ⟨?_, by omega⟩
    split <;> omega
theorem enc_dec {a : Int} (G : GoodF a) (b : Bool) (c : List Int) (hc : c.length = nbytes a) (hb : Bytes_ c) : enc (nbytes a) b (dec a b c) = c ∧ -lim a ≤ dec a b c ∧ dec a b c < lim a := by
  cases b with
  | true =>
    obtain ⟨h1, h2, h3⟩ := leb_fin G c hc hb
    refine ⟨?_, fin_range _ h2 h3⟩
    show (leb (nbytes a) (fin_ a (valB 0 c))).reverse = c
    rw [h1, List.reverse_reverse]
  | false =>
    obtain ⟨h1, h2, h3⟩ := leb_fin G c.reverse (by rw [List.length_reverse]; exact hc) (fun x hx => hb x (List.mem_reverse.1 hx))
    refine ⟨?_, fin_range _ h2 h3⟩
    show leb (nbytes a) (fin_ a (valB 0 c.reverse)) = c
    rw [h1, List.reverse_reverse]

/-- The samples of so many chunks. -/
def decs (a : Int) (b : Bool) (n : Nat) : Nat → List Int → List Int
  | 0, _ => []
  | c + 1, l => dec a b (l.take n) :: decs a b n c (l.drop n)
theorem decs_length (a : Int) (b : Bool) (n : Nat) : ∀ c l, (decs a b n c l).length = c
  | 0, _ => rfl
  | c + 1, l => by rw [decs, List.length_cons, decs_length a b n c]
theorem unTakes_spec {a : Int} (G : GoodF a) (b : Bool) (K : Nat) (hK : 20 ≤ K) (l : List Int) (hb : Bytes_ l) : ∀ c j, unTakes K a b l (nbytes a) c j = some (decs a b (nbytes a) c (l.drop (j * nbytes a)))
  | 0, j => rfl
  | c + 1, j => by
    have h3 := bytes_le a
    unfold unTakes
    rw [take_spec G b _ (by rw [List.length_take]; omega) (fun x hx => hb x (List.mem_of_mem_drop (List.mem_of_mem_take hx))) K hK, Option.bind_some, unTakes_spec G b K hK l hb c (j + 1), Option.bind_some, decs, List.drop_drop, Nat.succ_mul]
theorem decs_enc {a : Int} (G : GoodF a) (b : Bool) : ∀ (vs : List Int), (∀ v ∈ vs, -lim a ≤ v ∧ v < lim a) → decs a b (nbytes a) vs.length (vs.flatMap (enc (nbytes a) b)) = vs
  | [], _ => rfl
  | v :: vs, h => by
    rw [List.length_cons, List.flatMap_cons, decs, List.take_left' (enc_length _ _ _), List.drop_left' (enc_length _ _ _), decs_enc G b vs (fun x hx => h x (List.mem_cons_of_mem _ hx)), dec_enc G b v (h v (by simp))]
theorem enc_decs {a : Int} (G : GoodF a) (b : Bool) : ∀ (c : Nat) (l : List Int), Bytes_ l → l.length = c * nbytes a → (decs a b (nbytes a) c l).flatMap (enc (nbytes a) b) = l ∧ ∀ v ∈ decs a b (nbytes a) c l, -lim a ≤ v ∧ v < lim a
  | 0, l, _, h => by
    have : l = [] := List.eq_nil_of_length_eq_zero (by omega)
    subst this
    exact ⟨rfl, fun v hv => absurd hv (by simp [decs])⟩
  | c + 1, l, hb, h => by
    rw [Nat.succ_mul] at h
    obtain ⟨h1, h2⟩ := enc_decs G b c (l.drop (nbytes a)) (fun x hx => hb x (List.mem_of_mem_drop hx)) (by rw [List.length_drop]; omega)
    obtain ⟨h3, h4⟩ := enc_dec G b (l.take (nbytes a)) (by rw [List.length_take]; omega) (fun x hx => hb x (List.mem_of_mem_take hx))
    refine ⟨by rw [decs, List.flatMap_cons, h1, h3, List.take_append_drop], fun v hv => ?_⟩
    rw [decs] at hv
    rcases List.mem_cons.1 hv with rfl | hv
    · exact h4
    · exact h2 v hv
theorem eighth {a : Int} (G : GoodF a) : (a / 8).toNat = nbytes a ∧ a = 8 * (nbytes a : Int) := by rcases G with rfl | rfl | rfl <;> decide
theorem unpack_spec {a : Int} (G : GoodF a) (b : Bool) (ch : Nat) (hch : 1 ≤ ch ∧ ch ≤ 8) (l : List Int) (hl : l.length ≤ 100000) (hb : Bytes_ l) (K : Nat) (hK : 20 ≤ K) :
    pack_Unpack.f K a b (ch : Int) l = if l.length % (ch * nbytes a) = 0 then some (unRows ch (decs a b (nbytes a) (l.length / nbytes a) l), 0) else some ([], 3) := by
  unfold pack_Unpack.f
  rw [if_pos hl, if_pos (show a = 8 ∨ a = 16 ∨ a = 24 from G), if_pos (by omega), Int.toNat_natCast, (eighth G).1]
  split
  · rw [unTakes_spec G b K hK l hb, Option.bind_some, Nat.zero_mul, List.drop_zero]
  · rfl

/-! Columns. -/
theorem unGo_append (ch : Nat) : ∀ (u w : List Int) (i : Nat) (R : List (List Int)), unGo ch i R (u ++ w) = unGo ch (i + u.length) (unGo ch i R u) w
  | [], w, i, R => rfl
  | v :: u, w, i, R => by
    rw [List.cons_append, unGo, unGo, unGo_append ch u w (i + 1), List.length_cons]
    congr 1; omega
theorem unGo_col (ch i : Nat) (hi : i % ch = 0) : ∀ (col : List Int) (R A : List (List Int)), R.length = col.length → A.length + R.length = ch → unGo ch (i + A.length) (A ++ R) col = A ++ List.zipWith (fun r v => r ++ [v]) R col
  | [], R, A, h, _ => by
    have : R = [] := List.eq_nil_of_length_eq_zero h
    subst this
    rfl
  | v :: col, [], A, h, _ => by simp at h
  | v :: col, r :: R, A, h, hA => by
    rw [List.length_cons] at hA
    have hm : (i + A.length) % ch = A.length := by rw [Nat.add_mod, hi, Nat.zero_add, Nat.mod_mod, Nat.mod_eq_of_lt (by omega)]
    have e : unStep ch (A ++ r :: R) (i + A.length) v = (A ++ [r ++ [v]]) ++ R := by
      unfold unStep
      rw [hm, List.getD_eq_getElem?_getD, List.getElem?_append_right (Nat.le_refl _), Nat.sub_self, List.set_append_right _ _ (Nat.le_refl _), Nat.sub_self]
      simp
    rw [unGo, e]
    have := unGo_col ch i hi col R (A ++ [r ++ [v]]) (by simpa using h) (by rw [List.length_append, List.length_singleton]; omega)
    rw [List.length_append, List.length_singleton, ← Nat.add_assoc] at this
    rw [this, List.zipWith_cons_cons, List.append_assoc]
    rfl
theorem zip_map (l : List (List Int)) (f : List Int → List Int) (g : List Int → Int) : List.zipWith (fun r v => r ++ [v]) (l.map f) (l.map g) = l.map fun r => f r ++ [g r] := by
  rw [List.zipWith_map, List.zipWith_self]
theorem unGo_vals (l : List (List Int)) (n : Nat) (hs : ∀ x ∈ l, x.length = n) : ∀ (d k : Nat), k + d = n → unGo l.length (k * l.length) (l.map (List.take k)) (vals l k d) = l
  | 0, k, h => by
    show l.map (List.take k) = l
    refine (List.map_congr_left (g := id) (fun x hx => ?_)).trans (List.map_id l)
    rw [List.take_of_length_le (by rw [hs x hx]; omega)]; rfl
  | d + 1, k, h => by
    rw [vals, unGo_append]
    have h1 := unGo_col l.length (k * l.length) (Nat.mul_mod_left _ _) (l.map fun r => rd r (k : Int)) (l.map (List.take k)) [] (by simp) (by simp)
    rw [List.nil_append, List.nil_append, List.length_nil, Nat.add_zero] at h1
    rw [h1, zip_map, List.length_map, ← Nat.succ_mul]
    have h2 := unGo_vals l n hs d (k + 1) (by omega)
    have e : (l.map fun r => List.take k r ++ [rd r (k : Int)]) = l.map (List.take (k + 1)) := by
      refine List.map_congr_left (fun x hx => ?_)
      have hx' := hs x hx
      rw [List.take_succ_eq_append_getElem (by omega), rd_nat x k (by omega)]
    rw [e]; exact h2
theorem unRows_vals (l : List (List Int)) (n : Nat) (hs : ∀ x ∈ l, x.length = n) : unRows l.length (vals l 0 n) = l := by
  unfold unRows
  have := unGo_vals l n hs n 0 (by omega)
  rw [Nat.zero_mul] at this
  have e : l.map (List.take 0) = List.replicate l.length [] := by
    refine List.ext_getElem (by simp) ?_
    intro i h1 h2
    simp
  rw [e] at this
  exact this
/-- The rows that samples fall into. -/
def rowsOf (ch n : Nat) (vs : List Int) : List (List Int) := (List.range ch).map fun j => (List.range n).map fun k => vs.getD (k * ch + j) 0
theorem vals_rows (ch n : Nat) (vs : List Int) (hv : vs.length = n * ch) : ∀ (d k : Nat), k + d = n → vals (rowsOf ch n vs) k d = vs.drop (k * ch)
  | 0, k, h => by
    rw [List.drop_eq_nil_of_le (by rw [hv, ← h]; exact Nat.le_refl _)]
    rfl
  | d + 1, k, h => by
    rw [vals, vals_rows ch n vs hv d (k + 1) (by omega)]
    have hk : k * ch + ch ≤ vs.length := by rw [hv, ← Nat.succ_mul]; exact Nat.mul_le_mul_right _ (by omega)
    have e : ((rowsOf ch n vs).map fun r => rd r (k : Int)) = (vs.drop (k * ch)).take ch := by
      unfold rowsOf
      rw [List.map_map]
      refine List.ext_getElem (by rw [List.length_map, List.length_range, List.length_take, List.length_drop]; omega) ?_
      intro j h1 h2
      have hj : j < ch := by simpa using h1
      rw [List.getElem_map, List.getElem_range]
      show rd ((List.range n).map fun k => vs.getD (k * ch + j) 0) (k : Int) = _
      rw [rd_nat _ k (by simp; omega), List.getElem_map, List.getElem_range, List.getElem_take, List.getElem_drop, List.getD_eq_getElem?_getD, List.getElem?_eq_getElem (by omega)]
      rfl
    rw [e, Nat.succ_mul, ← List.drop_drop]
    exact List.take_append_drop _ _
theorem mem_vals (l : List (List Int)) (P : Int → Prop) : ∀ (d k : Nat), (∀ x ∈ l, x.length = k + d) → (∀ v ∈ vals l k d, P v) → ∀ x ∈ l, ∀ v ∈ x.drop k, P v
  | 0, k, hs, _ => fun x hx v hv => by rw [List.drop_eq_nil_of_le (by have := hs x hx; omega)] at hv; cases hv
  | d + 1, k, hs, h => fun x hx v hv => by
    rw [vals] at h
    have hk : k < x.length := by have := hs x hx; omega
    rw [List.drop_eq_getElem_cons hk] at hv
    rcases List.mem_cons.1 hv with rfl | hv
    · refine h _ (List.mem_append_left _ (List.mem_map.2 ⟨x, hx, ?_⟩))
      rw [rd_nat x k hk]
    · exact mem_vals l P d (k + 1) (fun y hy => by have := hs y hy; omega) (fun v hv => h v (List.mem_append_right _ hv)) x hx v hv
theorem vals_mem (l : List (List Int)) (n : Nat) (hs : ∀ x ∈ l, x.length = n) (P : Int → Prop) (hP : ∀ x ∈ l, ∀ v ∈ x, P v) : ∀ (d k : Nat), k + d = n → ∀ v ∈ vals l k d, P v
  | 0, k, _ => fun v hv => by cases hv
  | d + 1, k, h => fun v hv => by
    rw [vals] at hv
    rcases List.mem_append.1 hv with hv | hv
    · obtain ⟨x, hx, rfl⟩ := List.mem_map.1 hv
      rw [rd_nat x k (by have := hs x hx; omega)]
      exact hP x hx _ (List.getElem_mem _)
    · exact vals_mem l n hs P hP d (k + 1) (by omega) v hv
/-- Samples, as many as whole rows want, fall into rows that fit, whose samples they are. -/
theorem rows_fit {a : Int} (G : GoodF a) (ch n : Nat) (hch : 1 ≤ ch ∧ ch ≤ 8) (hn : n ≤ 1000000) (vs : List Int) (hv : vs.length = n * ch) (hr : ∀ v ∈ vs, -lim a ≤ v ∧ v < lim a) :
    Fits a (unRows ch vs) n ∧ vals (unRows ch vs) 0 n = vs ∧ (unRows ch vs).length = ch := by
  have e := vals_rows ch n vs hv n 0 (by omega)
  rw [Nat.zero_mul, List.drop_zero] at e
  have hl : (rowsOf ch n vs).length = ch := by unfold rowsOf; simp
  have hs : ∀ x ∈ rowsOf ch n vs, x.length = n := by
    intro x hx
    unfold rowsOf at hx
    obtain ⟨j, _, rfl⟩ := List.mem_map.1 hx
    simp
  have h2 := unRows_vals (rowsOf ch n vs) n hs
  rw [hl, e] at h2
  rw [h2]
  refine ⟨⟨G, by omega, by omega, hs, by omega, ?_⟩, e, hl⟩
  intro x hx v hv2
  have := mem_vals (rowsOf ch n vs) (fun v => -lim a ≤ v ∧ v < lim a) n 0 (fun x hx => by rw [hs x hx]; omega) (by rw [e]; exact hr) x hx v (by rw [List.drop_zero]; exact hv2)
  exact this
end Go.Proofs.Ytmpaecdgcflalaa.PackSpec
