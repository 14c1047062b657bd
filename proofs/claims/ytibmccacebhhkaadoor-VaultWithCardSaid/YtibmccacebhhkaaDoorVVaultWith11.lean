/- VaultWith: what the claim's theorem reaches of this seat's texts, part 11, put together by this project's own program (bale.py); conditions: those of each theorem. -/
import Derived.Test.YtibmccacebhhkaaDoorVVaultWith1
import Derived.Test.YtibmccacebhhkaaDoorVVaultWith3
import Derived.Test.YtibmccacebhhkaaDoorVVaultWith10
import Derived.Lib.SlBytesConst
import Derived.ArgAppend
namespace Go.Proofs.YtibmccacebhhkaaDoor.AnyLit
open Go Go.RowKit Go.Proofs.YtibmccacebhhkaaDoorW.PrintWords Go.Proofs.YtibmccacebhhkaaDoorW.PrintLast Go.Proofs.YtibmccacebhhkaaDoorW.PrintMore
set_option linter.unusedVariables false
set_option linter.unusedSimpArgs false
/-- A value that reads as bytes. -/
def RowIs (w : World) (v : Value) (xs : List Int) : Prop := ∃ A c, v = .slice A xs.length c ∧ xs.length ≤ c ∧ Kd.C (Kd.int .u8) w A xs.length xs
/-- A literal's row, not marked yet. -/
def LitIs (B e : Nat) (w : World) (v : Value) (xs : List Int) : Prop := ∃ g, v = .slice (some ⟨g, 0, none⟩) xs.length xs.length ∧ B ≤ g ∧ w.heap[g]? = some (.cells (xs.map (Value.int .u8)).toArray e (0, 0))
/-- A literal's row gets its mark. -/
def MarkIs (B e : Nat) (xs : List Int) (w w' : World) : Prop := ∃ g, B ≤ g ∧ w.heap[g]? = some (.cells (xs.map (Value.int .u8)).toArray e (0, 0)) ∧ w' = w.freeze ⟨g, xs.length, none⟩ 1
theorem freeze_block (w : World) (g n k : Nat) (h : k ≠ g) : (w.freeze ⟨g, n, none⟩ 1).heap[k]? = w.heap[k]? := by
  unfold World.freeze
  rw [if_neg (by decide)]
  show (w.heap.modify g _)[k]? = _
  rw [Array.getElem?_modify, if_neg (fun e => h e.symm)]
theorem freeze_self (w : World) (g n : Nat) {C : Array Value} {e : Nat} (h : w.heap[g]? = some (.cells C e (0, 0))) : (w.freeze ⟨g, n, none⟩ 1).heap[g]? = some (.cells C e (n, n + 1)) := by
  unfold World.freeze
  rw [if_neg (by decide)]
  show (w.heap.modify g _)[g]? = _
  rw [Array.getElem?_modify, if_pos rfl, h]
  rfl
theorem MarkIs.below {B e : Nat} {xs : List Int} {w w' : World} (h : MarkIs B e xs w w') : Below B w w' := by
  obtain ⟨g, hg, _, rfl⟩ := h
  refine ⟨rfl, rfl, rfl, ?_, fun k hk => freeze_block w g xs.length k (by omega)⟩
  unfold World.freeze
  rw [if_neg (by decide)]
  show w.heap.size ≤ (w.heap.modify g _).size
  simp
theorem MarkIs.cell {B e : Nat} {xs : List Int} {w w' : World} (h : MarkIs B e xs w w') (p : Addr) : w'.cell? p = w.cell? p := by
  obtain ⟨g, hg, hb, rfl⟩ := h
  by_cases hp : p.block = g
  · have h2 := freeze_self w g xs.length hb
    unfold World.cell?
    rw [hp, h2, hb]
  · exact World.cell?_of_block (freeze_block w g xs.length p.block hp)
theorem RowIs.below {w w' : World} {v : Value} {xs : List Int} (h : RowIs w v xs) (hb : Below w.heap.size w w') : RowIs w' v xs := by
  obtain ⟨A, c, h1, h2, h3⟩ := h
  exact ⟨A, c, h1, h2, Kd.C_below h3 hb⟩
theorem C_kept {α : Type} {enc : α → Value} {h1 : ∀ x, (enc x).oneCell' = true} {w w' : World} {A : Option Addr} {n : Nat} {xs : List α} (h : (Kd.scalar enc h1).C w A n xs) (hk : ∀ p v, w.cell? p = some v → w'.cell? p = some v) : (Kd.scalar enc h1).C w' A n xs := by
  refine ⟨h.1, h.2.1, fun hn => ?_⟩
  obtain ⟨ad, e, hc⟩ := h.2.2 hn
  refine ⟨ad, e, fun j p hj => ?_⟩
  obtain ⟨c, hs, hr, hcell⟩ := hc j p hj
  exact ⟨c, hs, hr, fun i u hi => hk _ _ (hcell i u hi)⟩
theorem RowIs.mark {B e : Nat} {w w' : World} {v : Value} {xs ys : List Int} (h : RowIs w v xs) (hm : MarkIs B e ys w w') : RowIs w' v xs := by
  obtain ⟨A, c, h1, h2, h3⟩ := h
  exact ⟨A, c, h1, h2, C_kept h3 (fun p v hv => (hm.cell p).trans hv)⟩
theorem LitIs.below {B e : Nat} {w w' : World} {v : Value} {xs : List Int} (h : LitIs B e w v xs) (hb : Below w.heap.size w w') : LitIs B e w' v xs := by
  obtain ⟨g, h1, h2, h3⟩ := h
  exact ⟨g, h1, h2, (hb.block g (Array.getElem?_eq_some_iff.1 h3).1).trans h3⟩
theorem enc_ne {xs ys : List Int} {e e' : Nat} {m m' : Nat × Nat} (h : some (Obj.cells (xs.map (Value.int .u8)).toArray e m) = some (Obj.cells (ys.map (Value.int .u8)).toArray e' m')) : xs = ys := by
  injection h with h
  injection h with h _ _
  have h2 : xs.map (Value.int .u8) = ys.map (Value.int .u8) := congrArg Array.toList h
  exact (List.map_inj_right (fun a b hab => by injection hab)).mp h2
theorem LitIs.mark {B e : Nat} {w w' : World} {v : Value} {xs ys : List Int} (h : LitIs B e w v xs) (hm : MarkIs B e ys w w') (hne : xs ≠ ys) : LitIs B e w' v xs := by
  obtain ⟨g, h1, h2, h3⟩ := h
  obtain ⟨g', _, h5, rfl⟩ := hm
  refine ⟨g, h1, h2, (freeze_block w g' ys.length g ?_).trans h3⟩
  rintro rfl
  exact hne (enc_ne (h3.symm.trans h5))
theorem LitIs.row {B e : Nat} {w : World} {v : Value} {xs : List Int} (h : LitIs B e w v xs) (hl : xs.length ≤ 9223372036854775807) : RowIs w v xs := by
  obtain ⟨g, h1, h2, h3⟩ := h
  refine ⟨_, _, h1, Nat.le_refl _, rfl, hl, fun _ => ⟨⟨g, 0, none⟩, rfl, fun j p hj => ⟨[.int .u8 p], rfl, rfl, fun i u hi => ?_⟩⟩⟩
  cases i with
  | succ i => simp at hi
  | zero =>
    simp only [List.getElem?_cons_zero, Option.some.injEq] at hi
    subst hi
    show w.cell? _ = _
    have he : (⟨g, 0, none⟩ : Addr).add (j * (Kd.int .u8).sz + 0) = ⟨g, j, none⟩ := by
      rw [show j * (Kd.int .u8).sz + 0 = j from by show j * 1 + 0 = j; omega]
      simp [Go.Addr.add]; omega
    rw [he]
    unfold World.cell?
    simp only [h3]
    simp [hj]
/-- The literal is made. -/
theorem lit_made {B : Nat} (e : Nat) {w : World} (xs : List Int) (hB : B ≤ w.heap.size) : LitIs B e (w.alloc (.cells (xs.map (Value.int .u8)).toArray e (0, 0))) (.slice (some ⟨w.heap.size, 0, none⟩) xs.length xs.length) xs :=
  ⟨w.heap.size, rfl, hB, by show (w.heap.push _)[w.heap.size]? = _; simp⟩
theorem row_of_R {B e : Nat} {ok : Nat → Prop} {w : World} {v : Value} {xs : List Int} (h : Kd.R (Kd.int .u8) e w B ok v xs) : RowIs w v xs := by
  obtain ⟨A, c, h1, h2, h3⟩ := Kd.R_reads h
  exact ⟨A, c, h1, h2, h3⟩
/-- A row of rows out of the rows' values. -/
inductive RowsAre (w : World) : List Value → List (List Int) → Prop
  | nil : RowsAre w [] []
  | cons {v : Value} {xs : List Int} {vs : List Value} {l : List (List Int)} : RowIs w v xs → RowsAre w vs l → RowsAre w (v :: vs) (xs :: l)
theorem RowsAre.get {w : World} : ∀ {vs : List Value} {l : List (List Int)}, RowsAre w vs l → ∀ (i : Nat) (x : List Int), l[i]? = some x → ∃ v, vs[i]? = some v ∧ RowIs w v x
  | _, _, .nil, i, x, hi => by simp at hi
  | _, _, .cons h _, 0, x, hi => by
    simp only [List.getElem?_cons_zero, Option.some.injEq] at hi
    subst hi
    exact ⟨_, rfl, h⟩
  | _, _, .cons _ h, i + 1, x, hi => by
    obtain ⟨v, h1, h2⟩ := h.get i x (by simpa using hi)
    exact ⟨v, by simpa using h1, h2⟩
theorem rows_made {e E : Nat} {w : World} {vs : List Value} {l : List (List Int)} (h : RowsAre w vs l) (hl : l.length ≤ 9223372036854775807) :
    Kd.C (Kd.slice e (Kd.int .u8)) (w.alloc (.cells vs.toArray E (0, 0))) (some ⟨w.heap.size, 0, none⟩) l.length l := by
  refine ⟨rfl, hl, fun _ => ⟨⟨w.heap.size, 0, none⟩, rfl, fun j p hj => ?_⟩⟩
  obtain ⟨v, hv, A, c, rfl, h2, h3⟩ := h.get j p hj
  refine ⟨[.slice A p.length c], rfl, ⟨A, c, rfl, h2, Kd.C_below h3 ((Below.refl _ _).alloc (Nat.le_refl _) _)⟩, fun i u hi => ?_⟩
  cases i with
  | succ i => simp at hi
  | zero =>
    simp only [List.getElem?_cons_zero, Option.some.injEq] at hi
    subst hi
    have he : (⟨w.heap.size, 0, none⟩ : Addr).add (j * (Kd.slice e (Kd.int .u8)).sz + 0) = ⟨w.heap.size, j, none⟩ := by
      rw [show j * (Kd.slice e (Kd.int .u8)).sz + 0 = j from by show j * 1 + 0 = j; omega]
      simp [Go.Addr.add]; omega
    rw [he]
    have hb : (w.alloc (.cells vs.toArray E (0, 0))).heap[w.heap.size]? = some (.cells vs.toArray E (0, 0)) := by
      show (w.heap.push _)[w.heap.size]? = _; simp
    unfold World.cell?
    simp only [hb]
    simp [hv]
/-- A literal's row that has its mark. -/
def MRowIs (B e : Nat) (w : World) (v : Value) (xs : List Int) : Prop := ∃ g, v = .slice (some ⟨g, 0, none⟩) xs.length xs.length ∧ B ≤ g ∧ w.heap[g]? = some (.cells (xs.map (Value.int .u8)).toArray e (xs.length, xs.length + 1))
theorem MRowIs.row {B e : Nat} {w : World} {v : Value} {xs : List Int} (h : MRowIs B e w v xs) (hl : xs.length ≤ 9223372036854775807) : RowIs w v xs := by
  obtain ⟨g, h1, h2, h3⟩ := h
  refine ⟨_, _, h1, Nat.le_refl _, rfl, hl, fun _ => ⟨⟨g, 0, none⟩, rfl, fun j p hj => ⟨[.int .u8 p], rfl, rfl, fun i u hi => ?_⟩⟩⟩
  cases i with
  | succ i => simp at hi
  | zero =>
    simp only [List.getElem?_cons_zero, Option.some.injEq] at hi
    subst hi
    show w.cell? _ = _
    have he : (⟨g, 0, none⟩ : Addr).add (j * (Kd.int .u8).sz + 0) = ⟨g, j, none⟩ := by
      rw [show j * (Kd.int .u8).sz + 0 = j from by show j * 1 + 0 = j; omega]
      simp [Go.Addr.add]; omega
    rw [he]
    unfold World.cell?
    simp only [h3]
    simp [hj]
theorem MRowIs.block {B e : Nat} {w w' : World} {v : Value} {xs : List Int} (h : MRowIs B e w v xs) (hk : ∀ (g : Nat) (c : Array Value), w.heap[g]? = some (Obj.cells c e (xs.length, xs.length + 1)) → w'.heap[g]? = w.heap[g]?) : MRowIs B e w' v xs := by
  obtain ⟨g, h1, h2, h3⟩ := h
  exact ⟨g, h1, h2, (hk g _ h3).trans h3⟩
theorem LitIs.marked {B e : Nat} {w w' : World} {v : Value} {xs : List Int} (h : LitIs B e w v xs) (hm : ∃ g, v = .slice (some ⟨g, 0, none⟩) xs.length xs.length ∧ w' = w.freeze ⟨g, xs.length, none⟩ 1) : MRowIs B e w' v xs := by
  obtain ⟨g, h1, h2, h3⟩ := h
  obtain ⟨g', h4, rfl⟩ := hm
  rw [h1] at h4
  injection h4 with h4
  injection h4 with h4
  injection h4 with h4
  subst h4
  exact ⟨g, h1, h2, freeze_self w g xs.length h3⟩
theorem conv_lit2 {P : Program} {B t e : Nat} {w : World} {v : Value} {xs : List Int} (h : LitIs B e w v xs) (ht : P.underlying t = some (.slice e)) (he : P.underlying e = some (.int .u8)) :
    ∃ w', (convert t t v).run P w = .ok v w' ∧ MarkIs B e xs w w' ∧ MRowIs B e w' v xs := by
  have h0 := h
  obtain ⟨g, rfl, h2, h3⟩ := h
  refine ⟨_, ?_, ⟨g, h2, h3, rfl⟩, h0.marked ⟨g, rfl, rfl⟩⟩
  have hsh : w.shape? g = some (e, xs.length) := by
    unfold World.shape?
    rw [h3]
    simp
  simp [convert, run_underlying ht, run_underlying he, markStringish, hsh]
/-! ### What is known of an operation's value, and what operations do, by kinds -/
inductive FK where
  | any
  | val (x : Value)
  | row (xs : List Int)
  | lit (xs : List Int)
  | mrow (xs : List Int)
  | rows (l : List (List Int))
  | own (pre xs : List Int)
def FK.holds (B e : Nat) : FK → Value → World → Prop
  | .any, _, _ => True
  | .val x, v, _ => v = x
  | .row xs, v, w => RowIs w v xs
  | .lit xs, v, w => LitIs B e w v xs
  | .mrow xs, v, w => MRowIs B e w v xs
  | .rows l, v, w => ∃ A, v = .slice A l.length l.length ∧ Kd.C (Kd.slice e (Kd.int .u8)) w A l.length l
  | .own pre xs, v, w => Kd.R (Kd.int .u8) e w B (fun _ => True) v xs ∧ ∃ s, xs = pre ++ s
inductive GK where
  | make
  | mark (ys : List Int)
  | app (pre : List Int)
def GK.rel (B e : Nat) : GK → World → World → Prop
  | .make, w, w' => Below w.heap.size w w'
  | .mark ys, w, w' => MarkIs B e ys w w'
  | .app n, w, w' => ∃ row, w.grownBy w' row ∧ ∀ k, row = some k → B ≤ k ∧ ∃ cells, w.heap[k]? = some (.cells cells e (0, 0)) ∧ cells.toList.take n.length = n.map (Value.int .u8)
/-- A kind's shape: what the keeping hangs on. -/
inductive Sh where
  | free
  | row
  | lit (xs : List Int)
  | mrow
  | rows
  | own (pre : List Int)
def FK.sh : FK → Sh
  | .any => .free
  | .val _ => .free
  | .row _ => .row
  | .lit xs => .lit xs
  | .mrow _ => .mrow
  | .rows _ => .rows
  | .own pre _ => .own pre
def keepB : GK → Sh → Bool
  | .make, _ => true
  | _, .free => true
  | .mark _, .row => true
  | .mark ys, .lit xs => decide (xs ≠ ys)
  | .mark _, .mrow => true
  | .mark ys, .own pre => !(pre.isPrefixOf ys)
  | .app pre, .lit xs => !(pre.isPrefixOf xs)
  | .app _, .mrow => true
  | _, _ => false
theorem grown_old {w w' : World} {row : Option Nat} (h : w.grownBy w' row) {g : Nat} {o : Obj} (hb : w.heap[g]? = some o) (hne : row ≠ some g) : w'.heap[g]? = w.heap[g]? := h.block g (Array.getElem?_eq_some_iff.1 hb).1 (fun e => hne e.symm)
theorem own_kept {B e : Nat} {w w' : World} {v : Value} {xs : List Int} (h : Kd.R (Kd.int .u8) e w B (fun _ => True) v xs) (hk : ∀ (g : Nat) (c : Array Value), v.ownBlock = some g → w.heap[g]? = some (.cells c e (0, 0)) → c.toList.take xs.length = xs.map (Value.int .u8) → w'.heap[g]? = w.heap[g]?) : Kd.R (Kd.int .u8) e w' B (fun _ => True) v xs := by
  have ho := Kd.own_of_R (h1 := fun _ => rfl) h
  refine Kd.R_of_own (h1 := fun _ => rfl) (own_move ho (fun k hk2 => ?_)) (fun _ _ => trivial)
  obtain ⟨hl, h2⟩ := ho
  rcases h2 with ⟨rfl, _⟩ | ⟨g, cap, cur, rfl, hg, hh, hle, hmx, hsz, htk⟩
  · simp [Value.ownBlock] at hk2
  · have : g = k := by simpa [Value.ownBlock] using hk2
    subst this
    refine hk g cur hk2 hh ?_
    rw [Nat.mul_one] at htk
    rw [htk]
    simp [encs]
theorem map_u8_inj {xs ys : List Int} (h : xs.map (Value.int .u8) = ys.map (Value.int .u8)) : xs = ys := (List.map_inj_right (fun a b hab => by injection hab)).mp h
theorem pre_of {pre s ys : List Int} (h : (ys.map (Value.int .u8)).take (pre ++ s).length = (pre ++ s).map (Value.int .u8)) : pre.isPrefixOf ys = true := by
  rw [← List.map_take] at h
  have h1 := map_u8_inj h
  rw [List.isPrefixOf_iff_prefix]
  refine List.IsPrefix.trans (List.prefix_append pre s) ?_
  rw [← h1]
  exact List.take_prefix _ _
theorem keeps {B e : Nat} {g : GK} {k : FK} {v : Value} {w w' : World} (hk : keepB g k.sh = true) (hg : g.rel B e w w') (hf : k.holds B e v w) : k.holds B e v w' := by
  cases g with
  | make =>
    cases k with
    | any => trivial
    | val x => exact hf
    | row xs => exact RowIs.below hf hg
    | lit xs => exact LitIs.below hf hg
    | mrow xs => exact MRowIs.block hf (fun g c hh => hg.block g (Array.getElem?_eq_some_iff.1 hh).1)
    | rows l =>
      obtain ⟨A, h1, h2⟩ := hf
      exact ⟨A, h1, Kd.C_below h2 hg⟩
    | own pre xs => exact ⟨Kd.R_below hf.1 hg, hf.2⟩
  | mark ys =>
    cases k with
    | any => trivial
    | val x => exact hf
    | row xs => exact RowIs.mark hf hg
    | lit xs => exact LitIs.mark hf hg (of_decide_eq_true hk)
    | mrow xs =>
      obtain ⟨g', _, h5, rfl⟩ := (show MarkIs B e ys w w' from hg)
      refine MRowIs.block hf (fun g c hh => freeze_block w g' ys.length g ?_)
      rintro rfl
      rw [h5] at hh
      injection hh with hh
      injection hh with _ _ hh
      injection hh with _ hh
      simp at hh
    | rows l => cases hk
    | own pre xs =>
      obtain ⟨hR, s, hxs⟩ := hf
      refine ⟨?_, s, hxs⟩
      obtain ⟨g', _, h5, rfl⟩ := (show MarkIs B e ys w w' from hg)
      refine own_kept hR (fun g c _ hh hl => freeze_block w g' ys.length g ?_)
      rintro rfl
      rw [h5] at hh
      injection hh with hh
      injection hh with hh _ _
      rw [← hh, hxs] at hl
      have h6 : (!(pre.isPrefixOf ys)) = true := hk
      rw [pre_of hl] at h6
      cases h6
  | app n =>
    obtain ⟨row, h1, h2⟩ := (show ∃ row, w.grownBy w' row ∧ ∀ k, row = some k → B ≤ k ∧ ∃ cells, w.heap[k]? = some (.cells cells e (0, 0)) ∧ cells.toList.take n.length = n.map (Value.int .u8) from hg)
    cases k with
    | any => trivial
    | val x => exact hf
    | row xs => cases hk
    | lit xs =>
      obtain ⟨g, h3, h4, h5⟩ := (show LitIs B e w v xs from hf)
      refine ⟨g, h3, h4, (grown_old h1 h5 ?_).trans h5⟩
      intro e1
      obtain ⟨_, cells, h6, h7⟩ := h2 g e1
      rw [h5] at h6
      injection h6 with h6
      injection h6 with h6 _ _
      rw [← h6] at h7
      have h8 : (!(n.isPrefixOf xs)) = true := hk
      have h9 := pre_of (pre := n) (s := []) (ys := xs) (by rw [List.append_nil]; exact h7)
      rw [h9] at h8
      cases h8
    | mrow xs =>
      refine MRowIs.block hf (fun g c hh => grown_old h1 hh ?_)
      intro e1
      obtain ⟨_, cells, h6, h7⟩ := h2 g e1
      rw [hh] at h6
      injection h6 with h6
      injection h6 with _ _ h6
      injection h6 with _ h6
      omega
    | rows l => cases hk
    | own pre xs => cases hk
theorem GK.below {B e : Nat} {g : GK} {w0 w w' : World} (hB : B ≤ w.heap.size) (hg : g.rel B e w w') (h : Below B w0 w) : Below B w0 w' := by
  cases g with
  | make => exact h.trans ((show Below w.heap.size w w' from hg).mono hB)
  | mark ys => exact h.trans (MarkIs.below hg)
  | app n =>
    obtain ⟨row, h1, h2⟩ := (show ∃ row, w.grownBy w' row ∧ ∀ k, row = some k → B ≤ k ∧ ∃ cells, w.heap[k]? = some (.cells cells e (0, 0)) ∧ cells.toList.take n.length = n.map (Value.int .u8) from hg)
    exact h.grown h1 hB (fun k hk => (h2 k hk).1)
/-- A block of another kind of cells stays. -/
theorem GK.other {B e : Nat} {g : GK} {w w' : World} (hg : g.rel B e w w') {b t : Nat} {c : Array Value} (hb : w.heap[b]? = some (.cells c t (0, 0))) (ht : t ≠ e) : w'.heap[b]? = some (.cells c t (0, 0)) := by
  refine Eq.trans ?_ hb
  cases g with
  | make => exact (show Below w.heap.size w w' from hg).block b (Array.getElem?_eq_some_iff.1 hb).1
  | mark ys =>
    obtain ⟨g', _, h5, rfl⟩ := (show MarkIs B e ys w w' from hg)
    refine freeze_block w g' ys.length b ?_
    rintro rfl
    rw [h5] at hb
    injection hb with hb
    injection hb with _ hb _
    exact ht hb.symm
  | app n =>
    obtain ⟨row, h1, h2⟩ := (show ∃ row, w.grownBy w' row ∧ ∀ k, row = some k → B ≤ k ∧ ∃ cells, w.heap[k]? = some (.cells cells e (0, 0)) ∧ cells.toList.take n.length = n.map (Value.int .u8) from hg)
    refine grown_old h1 hb ?_
    intro e1
    obtain ⟨_, cells, h6, _⟩ := h2 b e1
    rw [hb] at h6
    injection h6 with h6
    injection h6 with _ h6 _
    exact ht h6
/-- All pairs that may meet are kept. -/
def okB (ops : Array Oper) (tbl : List Nat) (gs : List GK) (shs : List Sh) (U : List (List Nat)) (ishs : List Sh) : Bool :=
  ((List.range ops.size).all fun i => (List.range ops.size).all fun j => !AnyOrder.meetB ops tbl i j || keepB (gs.getD i .make) (shs.getD j .free)) &&
  ((List.range ops.size).all fun i => (List.range U.length).all fun x => !AnyOrder.metB tbl i (U.getD x []) || keepB (gs.getD i .make) (ishs.getD x .free)) &&
  (U.all fun l => l.all fun k => decide (k < ops.size))
theorem sh_get {fs : List FK} {shs : List Sh} (hsh : fs.map FK.sh = shs) (j : Nat) : (fs.getD j .any).sh = shs.getD j .free := by
  rw [← hsh, List.getD_eq_getElem?_getD, List.getD_eq_getElem?_getD, List.getElem?_map]
  cases fs[j]? <;> rfl
open AnyOrder in
/-- **A region, of open order or not (b), by kinds.** B: where the call's own blocks begin; X: what else is known (blocks of other kinds of cells); ini: what is known of values from ahead, U: the operations that want it. -/
theorem region_kinds {P : Program} {ops : Array Oper} {Q : Exit → Act → World → Prop} {id : Nat} {a0 : Act} {w0 W : World} (b : Bool) (hm : P.follows .mixedOrders = true) (B e : Nat) (X : World → Prop) (gs : List GK) (fs : List FK) (shs : List Sh) (ini : List (FK × Value)) (ishs : List Sh) (U : List (List Nat)) (tbl : List Nat) (D : List (List (Nat × Tmp))) (S : List (List Tmp)) (ns : (Nat → Value) → List (Tmp × Value))
    (hsh : fs.map FK.sh = shs) (hish : (ini.map fun p => p.1.sh) = ishs) (hfit : (fitB ops a0.tmps.size && ancB ops tbl && takesB ops D S && okB ops tbl gs shs U ishs) = true) (hns : ∀ vs, pairsOf ops vs = ns vs)
    (hB : Below B W w0) (hBs : B ≤ w0.heap.size) (hX : X (if b then w0.drew else w0)) (hXk : ∀ (g : GK) w w', g.rel B e w w' → X w → X w')
    (hini : ∀ x, x < U.length → (ini.getD x (.any, undef)).1.holds B e (ini.getD x (.any, undef)).2 (if b then w0.drew else w0))
    (hstep : StepsD P Q (fun w => Below B W w ∧ B ≤ w.heap.size ∧ X w) (fun x w => (ini.getD x (.any, undef)).1.holds B e (ini.getD x (.any, undef)).2 w) U (fun i => (gs.getD i .make).rel B e) (fun i => (fs.getD i .any).holds B e) a0 D S 0 ops.toList)
    (hend : ∀ (vs : Nat → Value) (w : World), Below B W w → X w → (∀ i, i < ops.size → lastB ops i = true → (fs.getD i .any).holds B e (vs i) w) → Q .normal (putL a0 (ns vs)) w) :
    (Code.region id ops b).wp P Q a0 w0 := by
  simp only [Bool.and_eq_true] at hfit
  obtain ⟨hfit, hok⟩ := hfit
  simp only [okB, Bool.and_eq_true] at hok
  obtain ⟨⟨hok1, hok2⟩, hok3⟩ := hok
  refine region_by b hm (J := fun w => Below B W w ∧ B ≤ w.heap.size ∧ X w) (E := fun x w => (ini.getD x (.any, undef)).1.holds B e (ini.getD x (.any, undef)).2 w) (U := U) _ _ tbl D S ns (by simp only [Bool.and_eq_true]; exact hfit) hns ⟨by cases b <;> first | exact hB.drew | exact hB, by cases b <;> exact hBs, hX⟩ ?_ ?_ hok3 hini ?_ hstep (fun vs w hJ hF => hend vs w hJ.1 hJ.2.2 hF)
  · intro i w w' _ hJ hg
    exact ⟨GK.below hJ.2.1 hg hJ.1, Nat.le_trans hJ.2.1 (GK.below hJ.2.1 hg (Below.refl B w)).size, hXk _ w w' hg hJ.2.2⟩
  · intro i j v w w' hi hj hmt hJ hg hf
    have h1 := List.all_eq_true.1 (List.all_eq_true.1 hok1 i (List.mem_range.2 hi)) j (List.mem_range.2 hj)
    rw [hmt, Bool.not_true, Bool.false_or] at h1
    refine keeps ?_ hg hf
    rw [sh_get hsh]
    exact h1
  · intro i x w w' hi hx hmt hJ hg hf
    have h1 := List.all_eq_true.1 (List.all_eq_true.1 hok2 i (List.mem_range.2 hi)) x (List.mem_range.2 hx)
    rw [hmt, Bool.not_true, Bool.false_or] at h1
    refine keeps ?_ hg hf
    have h2 : (ini.getD x (.any, undef)).1.sh = ishs.getD x .free := by
      rw [← hish, List.getD_eq_getElem?_getD, List.getD_eq_getElem?_getD, List.getElem?_map]
      cases ini[x]? <;> rfl
    rw [h2]
    exact h1
/-! ### Appends -/
section
variable {P : Program} {ops : Array Oper} {Q : Exit → Act → World → Prop} {o : Oper} {a : Act} {w : World} {K : Act → World → Prop} {B e t : Nat} {v u : Value} {xs ys : List Int}
theorem row_cells (h : RowIs w u ys) (hy : ys ≠ []) : ∃ ad c, u = .slice (some ad) ys.length c ∧ ∀ (j : Nat) (x : Value), (ys.map (Value.int .u8))[j]? = some x → w.cell? (ad.add j) = some x := by
  obtain ⟨A, c, rfl, hlc, hC⟩ := h
  obtain ⟨ad, rfl, hc⟩ := hC.2.2 (by cases ys with | nil => exact absurd rfl hy | cons _ _ => simp)
  refine ⟨ad, c, rfl, fun j x hj => ?_⟩
  rw [List.getElem?_map] at hj
  obtain ⟨p, hp, rfl⟩ := Option.map_eq_some_iff.1 hj
  obtain ⟨cs, _, hr, hcell⟩ := hc j p hp
  have h1 := hcell 0 (.int .u8 p) (by rw [show cs = [Value.int .u8 p] from hr]; rfl)
  rw [show j * (Kd.int .u8).sz + 0 = j from by show j * 1 + 0 = j; omega] at h1
  exact h1
/-- append(v, u...): v a literal of constant bytes, full; u read, not empty. -/
theorem anyAppendLit (s x : Operand) (ho : o.op = .call { callee := .builtin .append, args := #[s, x], argTypes := #[t, t] }) (ht : P.underlying t = some (.slice e)) (hinfo : (P.info? e).map (fun i => (i.zero, i.size, i.bytes)) = some (some (.int .u8 0), 1, 1))
    (hs : a.eval s = v) (hx : a.eval x = u) (HO : MRowIs B e w v xs) (hxn : xs ≠ []) (HR : RowIs w u ys) (hy : ys ≠ []) (hB : B ≤ w.heap.size) (hl : xs.length + ys.length ≤ 140737488355328)
    (h : ∀ v1 w1, GK.make.rel B e w w1 → (FK.own xs (xs ++ ys)).holds B e v1 w1 → K (a.put o.dst v1) w1) : Oper.wp P o a w K Q := by
  obtain ⟨i, hi, hz⟩ := Option.map_eq_some_iff.1 hinfo
  simp only [Prod.mk.injEq] at hz
  obtain ⟨hz1, hz2, hz3⟩ := hz
  have hrow := MRowIs.row HO (by omega)
  obtain ⟨g, rfl, hg1, hg2⟩ := HO
  obtain ⟨ad0, c0, e0, hc0⟩ := row_cells hrow hxn
  injection e0 with e0 _ _
  injection e0 with e0
  subst e0
  obtain ⟨ad, c, rfl, hc⟩ := row_cells HR hy
  have hyl : 0 < ys.length := by cases ys with | nil => exact absurd rfl hy | cons _ _ => simp
  obtain ⟨v', w', hrun, hown, hgr⟩ := run_append_arg_grows (P := P) w t o.type e i (.int .u8 0) 1 1 ht hi hz1 hz2 hz3 rfl (by decide) ⟨g, 0, none⟩ xs.length xs.length (xs.map (Value.int .u8)) (by simp) hc0 ad ys.length c (ys.map (Value.int .u8)) (by simp) hc (by omega) (by unfold maxLen; omega) (by omega)
  have hR : Kd.R (Kd.int .u8) e w' B (fun _ => True) v' (xs ++ ys) := by
    refine Kd.R_lower (Kd.R_of_own (enc := Value.int .u8) (h1 := fun _ => rfl) ?_ (fun _ _ => trivial)) hB
    rw [List.length_append]
    have he : encs (Value.int .u8) (xs ++ ys) = xs.map (Value.int .u8) ++ ys.map (Value.int .u8) := by simp [encs]
    rw [he]
    exact hown
  have hb : Below w.heap.size w w' := (Below.refl _ _).grown hgr (Nat.le_refl _) (fun k hk => by cases hk)
  unfold Oper.wp
  simp [execOp, ho, resolve, invoke, builtin, hs, hx, hrun, Result.andThen]
  exact h v' w' hb ⟨hR, ys, rfl⟩
end
end Go.Proofs.YtibmccacebhhkaaDoor.AnyLit

namespace Go.Proofs.YtibmccacebhhkaaDoor.AnyFresh
set_option linter.unusedVariables false
open Go Go.RowKit Go.Proofs.YtibmccacebhhkaaDoor.AnyOrder Go.Proofs.YtibmccacebhhkaaDoor.AnyLit Go.Proofs.YtibmccacebhhkaaDoorW.PrintWords Go.Proofs.YtibmccacebhhkaaDoorW.PrintMore

inductive FK where
  | any
  | val (x : Value)
  | row (xs : List Int)
  | fresh (xs : List Int)
  | old (xs : List Int)
  | own (xs : List Int)
inductive GK where
  | make
  | appOld
  | app
inductive Sh where
  | free
  | fresh
  | other
section
variable {P : Program} {ops : Array Oper} {Q : Exit → Act → World → Prop} {o : Oper} {a : Act} {w : World} {K : Act → World → Prop} {B N e t : Nat} {V : Nat → Prop} {v u : Value} {xs ys : List Int}
end
end Go.Proofs.YtibmccacebhhkaaDoor.AnyFresh

