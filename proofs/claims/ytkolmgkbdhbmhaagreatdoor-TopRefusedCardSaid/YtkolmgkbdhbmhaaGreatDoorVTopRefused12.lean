/- TopRefused: what the claim's theorem reaches of this seat's texts, part 12, put together by this project's own program (bale.py); conditions: those of each theorem. -/
import Derived.Test.YtkolmgkbdhbmhaaGreatDoorVTopRefused1
import Derived.Test.YtkolmgkbdhbmhaaGreatDoorVTopRefused3
import Derived.Test.YtkolmgkbdhbmhaaGreatDoorVTopRefused11
import Derived.Lib.SlBytesConst
import Derived.ArgAppend
namespace Go.Proofs.YtkolmgkbdhbmhaaGreatDoor.AnyLit
open Go Go.RowKit Go.Proofs.YtkolmgkbdhbmhaaGreatDoorW.PrintWords Go.Proofs.YtkolmgkbdhbmhaaGreatDoorW.PrintLast Go.Proofs.YtkolmgkbdhbmhaaGreatDoorW.PrintMore
set_option linter.unusedVariables false
set_option linter.unusedSimpArgs false
/-- A value that reads as bytes. -/
def RowIs (w : World) (v : Value) (xs : List Int) : Prop := ∃ A c, v = .slice A xs.length c ∧ xs.length ≤ c ∧ Kd.C (Kd.int .u8) w A xs.length xs
/-- A literal's row, not marked yet. -/
def LitIs (B e : Nat) (w : World) (v : Value) (xs : List Int) : Prop := ∃ g, v = .slice (some ⟨g, 0, none⟩) xs.length xs.length ∧ B ≤ g ∧ w.heap[g]? = some (.cells (xs.map (Value.int .u8)).toArray e (0, 0))
/-- A literal's row gets its mark. -/
def MarkIs (B e : Nat) (xs : List Int) (w w' : World) : Prop := ∃ g, B ≤ g ∧ w.heap[g]? = some (.cells (xs.map (Value.int .u8)).toArray e (0, 0)) ∧ w' = w.freeze ⟨g, xs.length, none⟩ 1
theorem freeze_block (w : World) (g n k : Nat) (h : k ≠ g) : (w.freeze ⟨g, n, none⟩ 1).heap[k]? = w.heap[k]? := by
  unfold World.freeze
  rw [if_neg (by decide)]
  show (w.heap.modify g _)[k]? = _
  rw [Array.getElem?_modify, if_neg (fun e => h e.symm)]
theorem freeze_self (w : World) (g n : Nat) {C : Array Value} {e : Nat} (h : w.heap[g]? = some (.cells C e (0, 0))) : (w.freeze ⟨g, n, none⟩ 1).heap[g]? = some (.cells C e (n, n + 1)) := by
  unfold World.freeze
  rw [if_neg (by decide)]
  show (w.heap.modify g _)[g]? = _
  rw [Array.getElem?_modify, if_pos rfl, h]
  rfl
theorem MarkIs.below {B e : Nat} {xs : List Int} {w w' : World} (h : MarkIs B e xs w w') : Below B w w' := by
  obtain ⟨g, hg, _, rfl⟩ := h
  refine ⟨rfl, rfl, rfl, ?_, fun k hk => freeze_block w g xs.length k (by omega)⟩
  unfold World.freeze
  rw [if_neg (by decide)]
  show w.heap.size ≤ (w.heap.modify g _).size
  simp
theorem LitIs.row {B e : Nat} {w : World} {v : Value} {xs : List Int} (h : LitIs B e w v xs) (hl : xs.length ≤ 9223372036854775807) : RowIs w v xs := by
  obtain ⟨g, h1, h2, h3⟩ := h
  refine ⟨_, _, h1, Nat.le_refl _, rfl, hl, fun _ => ⟨⟨g, 0, none⟩, rfl, fun j p hj => ⟨[.int .u8 p], rfl, rfl, fun i u hi => ?_⟩⟩⟩
  cases i with
  | succ i => simp at hi
  | zero =>
    simp only [List.getElem?_cons_zero, Option.some.injEq] at hi
    subst hi
    show w.cell? _ = _
    have he : (⟨g, 0, none⟩ : Addr).add (j * (Kd.int .u8).sz + 0) = ⟨g, j, none⟩ := by
      rw [show j * (Kd.int .u8).sz + 0 = j from by show j * 1 + 0 = j; omega]
      simp [Go.Addr.add]; omega
    rw [he]
    unfold World.cell?
    simp only [h3]
    simp [hj]
/-- The literal is made. -/
theorem lit_made {B : Nat} (e : Nat) {w : World} (xs : List Int) (hB : B ≤ w.heap.size) : LitIs B e (w.alloc (.cells (xs.map (Value.int .u8)).toArray e (0, 0))) (.slice (some ⟨w.heap.size, 0, none⟩) xs.length xs.length) xs :=
  ⟨w.heap.size, rfl, hB, by show (w.heap.push _)[w.heap.size]? = _; simp⟩
theorem row_of_R {B e : Nat} {ok : Nat → Prop} {w : World} {v : Value} {xs : List Int} (h : Kd.R (Kd.int .u8) e w B ok v xs) : RowIs w v xs := by
  obtain ⟨A, c, h1, h2, h3⟩ := Kd.R_reads h
  exact ⟨A, c, h1, h2, h3⟩
/-- A row of rows out of the rows' values. -/
inductive RowsAre (w : World) : List Value → List (List Int) → Prop
  | nil : RowsAre w [] []
  | cons {v : Value} {xs : List Int} {vs : List Value} {l : List (List Int)} : RowIs w v xs → RowsAre w vs l → RowsAre w (v :: vs) (xs :: l)
theorem RowsAre.get {w : World} : ∀ {vs : List Value} {l : List (List Int)}, RowsAre w vs l → ∀ (i : Nat) (x : List Int), l[i]? = some x → ∃ v, vs[i]? = some v ∧ RowIs w v x
  | _, _, .nil, i, x, hi => by simp at hi
  | _, _, .cons h _, 0, x, hi => by
    simp only [List.getElem?_cons_zero, Option.some.injEq] at hi
    subst hi
    exact ⟨_, rfl, h⟩
  | _, _, .cons _ h, i + 1, x, hi => by
    obtain ⟨v, h1, h2⟩ := h.get i x (by simpa using hi)
    exact ⟨v, by simpa using h1, h2⟩
theorem rows_made {e E : Nat} {w : World} {vs : List Value} {l : List (List Int)} (h : RowsAre w vs l) (hl : l.length ≤ 9223372036854775807) :
    Kd.C (Kd.slice e (Kd.int .u8)) (w.alloc (.cells vs.toArray E (0, 0))) (some ⟨w.heap.size, 0, none⟩) l.length l := by
  refine ⟨rfl, hl, fun _ => ⟨⟨w.heap.size, 0, none⟩, rfl, fun j p hj => ?_⟩⟩
  obtain ⟨v, hv, A, c, rfl, h2, h3⟩ := h.get j p hj
  refine ⟨[.slice A p.length c], rfl, ⟨A, c, rfl, h2, Kd.C_below h3 ((Below.refl _ _).alloc (Nat.le_refl _) _)⟩, fun i u hi => ?_⟩
  cases i with
  | succ i => simp at hi
  | zero =>
    simp only [List.getElem?_cons_zero, Option.some.injEq] at hi
    subst hi
    have he : (⟨w.heap.size, 0, none⟩ : Addr).add (j * (Kd.slice e (Kd.int .u8)).sz + 0) = ⟨w.heap.size, j, none⟩ := by
      rw [show j * (Kd.slice e (Kd.int .u8)).sz + 0 = j from by show j * 1 + 0 = j; omega]
      simp [Go.Addr.add]; omega
    rw [he]
    have hb : (w.alloc (.cells vs.toArray E (0, 0))).heap[w.heap.size]? = some (.cells vs.toArray E (0, 0)) := by
      show (w.heap.push _)[w.heap.size]? = _; simp
    unfold World.cell?
    simp only [hb]
    simp [hv]
/-- A literal's row that has its mark. -/
def MRowIs (B e : Nat) (w : World) (v : Value) (xs : List Int) : Prop := ∃ g, v = .slice (some ⟨g, 0, none⟩) xs.length xs.length ∧ B ≤ g ∧ w.heap[g]? = some (.cells (xs.map (Value.int .u8)).toArray e (xs.length, xs.length + 1))
theorem MRowIs.row {B e : Nat} {w : World} {v : Value} {xs : List Int} (h : MRowIs B e w v xs) (hl : xs.length ≤ 9223372036854775807) : RowIs w v xs := by
  obtain ⟨g, h1, h2, h3⟩ := h
  refine ⟨_, _, h1, Nat.le_refl _, rfl, hl, fun _ => ⟨⟨g, 0, none⟩, rfl, fun j p hj => ⟨[.int .u8 p], rfl, rfl, fun i u hi => ?_⟩⟩⟩
  cases i with
  | succ i => simp at hi
  | zero =>
    simp only [List.getElem?_cons_zero, Option.some.injEq] at hi
    subst hi
    show w.cell? _ = _
    have he : (⟨g, 0, none⟩ : Addr).add (j * (Kd.int .u8).sz + 0) = ⟨g, j, none⟩ := by
      rw [show j * (Kd.int .u8).sz + 0 = j from by show j * 1 + 0 = j; omega]
      simp [Go.Addr.add]; omega
    rw [he]
    unfold World.cell?
    simp only [h3]
    simp [hj]
theorem MRowIs.block {B e : Nat} {w w' : World} {v : Value} {xs : List Int} (h : MRowIs B e w v xs) (hk : ∀ (g : Nat) (c : Array Value), w.heap[g]? = some (Obj.cells c e (xs.length, xs.length + 1)) → w'.heap[g]? = w.heap[g]?) : MRowIs B e w' v xs := by
  obtain ⟨g, h1, h2, h3⟩ := h
  exact ⟨g, h1, h2, (hk g _ h3).trans h3⟩
theorem LitIs.marked {B e : Nat} {w w' : World} {v : Value} {xs : List Int} (h : LitIs B e w v xs) (hm : ∃ g, v = .slice (some ⟨g, 0, none⟩) xs.length xs.length ∧ w' = w.freeze ⟨g, xs.length, none⟩ 1) : MRowIs B e w' v xs := by
  obtain ⟨g, h1, h2, h3⟩ := h
  obtain ⟨g', h4, rfl⟩ := hm
  rw [h1] at h4
  injection h4 with h4
  injection h4 with h4
  injection h4 with h4
  subst h4
  exact ⟨g, h1, h2, freeze_self w g xs.length h3⟩
theorem conv_lit2 {P : Program} {B t e : Nat} {w : World} {v : Value} {xs : List Int} (h : LitIs B e w v xs) (ht : P.underlying t = some (.slice e)) (he : P.underlying e = some (.int .u8)) :
    ∃ w', (convert t t v).run P w = .ok v w' ∧ MarkIs B e xs w w' ∧ MRowIs B e w' v xs := by
  have h0 := h
  obtain ⟨g, rfl, h2, h3⟩ := h
  refine ⟨_, ?_, ⟨g, h2, h3, rfl⟩, h0.marked ⟨g, rfl, rfl⟩⟩
  have hsh : w.shape? g = some (e, xs.length) := by
    unfold World.shape?
    rw [h3]
    simp
  simp [convert, run_underlying ht, run_underlying he, markStringish, hsh]
/-! ### What is known of an operation's value, and what operations do, by kinds -/
inductive FK where
  | any
  | val (x : Value)
  | row (xs : List Int)
  | lit (xs : List Int)
  | mrow (xs : List Int)
  | rows (l : List (List Int))
  | own (pre xs : List Int)
def FK.holds (B e : Nat) : FK → Value → World → Prop
  | .any, _, _ => True
  | .val x, v, _ => v = x
  | .row xs, v, w => RowIs w v xs
  | .lit xs, v, w => LitIs B e w v xs
  | .mrow xs, v, w => MRowIs B e w v xs
  | .rows l, v, w => ∃ A, v = .slice A l.length l.length ∧ Kd.C (Kd.slice e (Kd.int .u8)) w A l.length l
  | .own pre xs, v, w => Kd.R (Kd.int .u8) e w B (fun _ => True) v xs ∧ ∃ s, xs = pre ++ s
inductive GK where
  | make
  | mark (ys : List Int)
  | app (pre : List Int)
def GK.rel (B e : Nat) : GK → World → World → Prop
  | .make, w, w' => Below w.heap.size w w'
  | .mark ys, w, w' => MarkIs B e ys w w'
  | .app n, w, w' => ∃ row, w.grownBy w' row ∧ ∀ k, row = some k → B ≤ k ∧ ∃ cells, w.heap[k]? = some (.cells cells e (0, 0)) ∧ cells.toList.take n.length = n.map (Value.int .u8)
/-- A kind's shape: what the keeping hangs on. -/
inductive Sh where
  | free
  | row
  | lit (xs : List Int)
  | mrow
  | rows
  | own (pre : List Int)
/-! ### Appends -/
section
variable {P : Program} {ops : Array Oper} {Q : Exit → Act → World → Prop} {o : Oper} {a : Act} {w : World} {K : Act → World → Prop} {B e t : Nat} {v u : Value} {xs ys : List Int}
theorem row_cells (h : RowIs w u ys) (hy : ys ≠ []) : ∃ ad c, u = .slice (some ad) ys.length c ∧ ∀ (j : Nat) (x : Value), (ys.map (Value.int .u8))[j]? = some x → w.cell? (ad.add j) = some x := by
  obtain ⟨A, c, rfl, hlc, hC⟩ := h
  obtain ⟨ad, rfl, hc⟩ := hC.2.2 (by cases ys with | nil => exact absurd rfl hy | cons _ _ => simp)
  refine ⟨ad, c, rfl, fun j x hj => ?_⟩
  rw [List.getElem?_map] at hj
  obtain ⟨p, hp, rfl⟩ := Option.map_eq_some_iff.1 hj
  obtain ⟨cs, _, hr, hcell⟩ := hc j p hp
  have h1 := hcell 0 (.int .u8 p) (by rw [show cs = [Value.int .u8 p] from hr]; rfl)
  rw [show j * (Kd.int .u8).sz + 0 = j from by show j * 1 + 0 = j; omega] at h1
  exact h1
/-- append(v, u...): v a literal of constant bytes, full; u read, not empty. -/
theorem anyAppendLit (s x : Operand) (ho : o.op = .call { callee := .builtin .append, args := #[s, x], argTypes := #[t, t] }) (ht : P.underlying t = some (.slice e)) (hinfo : (P.info? e).map (fun i => (i.zero, i.size, i.bytes)) = some (some (.int .u8 0), 1, 1))
    (hs : a.eval s = v) (hx : a.eval x = u) (HO : MRowIs B e w v xs) (hxn : xs ≠ []) (HR : RowIs w u ys) (hy : ys ≠ []) (hB : B ≤ w.heap.size) (hl : xs.length + ys.length ≤ 140737488355328)
    (h : ∀ v1 w1, GK.make.rel B e w w1 → (FK.own xs (xs ++ ys)).holds B e v1 w1 → K (a.put o.dst v1) w1) : Oper.wp P o a w K Q := by
  obtain ⟨i, hi, hz⟩ := Option.map_eq_some_iff.1 hinfo
  simp only [Prod.mk.injEq] at hz
  obtain ⟨hz1, hz2, hz3⟩ := hz
  have hrow := MRowIs.row HO (by omega)
  obtain ⟨g, rfl, hg1, hg2⟩ := HO
  obtain ⟨ad0, c0, e0, hc0⟩ := row_cells hrow hxn
  injection e0 with e0 _ _
  injection e0 with e0
  subst e0
  obtain ⟨ad, c, rfl, hc⟩ := row_cells HR hy
  have hyl : 0 < ys.length := by cases ys with | nil => exact absurd rfl hy | cons _ _ => simp
  obtain ⟨v', w', hrun, hown, hgr⟩ := run_append_arg_grows (P := P) w t o.type e i (.int .u8 0) 1 1 ht hi hz1 hz2 hz3 rfl (by decide) ⟨g, 0, none⟩ xs.length xs.length (xs.map (Value.int .u8)) (by simp) hc0 ad ys.length c (ys.map (Value.int .u8)) (by simp) hc (by omega) (by unfold maxLen; omega) (by omega)
  have hR : Kd.R (Kd.int .u8) e w' B (fun _ => True) v' (xs ++ ys) := by
    refine Kd.R_lower (Kd.R_of_own (enc := Value.int .u8) (h1 := fun _ => rfl) ?_ (fun _ _ => trivial)) hB
    rw [List.length_append]
    have he : encs (Value.int .u8) (xs ++ ys) = xs.map (Value.int .u8) ++ ys.map (Value.int .u8) := by simp [encs]
    rw [he]
    exact hown
  have hb : Below w.heap.size w w' := (Below.refl _ _).grown hgr (Nat.le_refl _) (fun k hk => by cases hk)
  unfold Oper.wp
  simp [execOp, ho, resolve, invoke, builtin, hs, hx, hrun, Result.andThen]
  exact h v' w' hb ⟨hR, ys, rfl⟩
end
end Go.Proofs.YtkolmgkbdhbmhaaGreatDoor.AnyLit

