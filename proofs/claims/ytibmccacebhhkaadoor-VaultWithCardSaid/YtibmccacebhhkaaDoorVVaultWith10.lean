/- VaultWith: what the claim's theorem reaches of this seat's texts, part 10, put together by this project's own program (bale.py); conditions: those of each theorem. -/
import Derived.Test.YtibmccacebhhkaaDoorVVaultWith2
import Derived.OrdersHeld
import Derived.Below
import Derived.Deep.RegionHeld3
namespace Go.Proofs.YtibmccacebhhkaaDoor.AnyOrder
open Go Go.RowKit Go.Proofs.YtibmccacebhhkaaDoorW.PrintLast
set_option linter.unusedVariables false
set_option linter.unusedSimpArgs false
section
variable {P : Program} {ops : Array Oper} {Q : Exit → Act → World → Prop} {J : World → Prop} {E : Nat → World → Prop} {U : List (List Nat)}

/-- Where operation i's value lies. -/
def slotOf (ops : Array Oper) (i : Nat) : Option Tmp := (ops[i]?).bind (·.dst)
/-- Operation i's value in a frame. -/
def valOf (ops : Array Oper) (a : Act) (i : Nat) : Value := match slotOf ops i with
  | some d => a.tmps.getD d undef
  | none => undef

/-- The edges go back, no operation is guarded, the destinations are apart and lie in the frame. -/
def fitB (ops : Array Oper) (n : Nat) : Bool :=
  (List.range ops.size).all fun i => match ops[i]? with
    | none => false
    | some o => o.guard.isNone && o.after.all (fun e => decide (e.on < i)) && (match o.dst with
      | none => true
      | some d => decide (d < n) && (List.range i).all fun j => !(slotOf ops j == some d))

/-- Who waits for whom, as bits: number j stands in number i's mask only where i waits for j by a chain of edges. -/
def anc (tbl : List Nat) (i j : Nat) : Bool := (tbl.getD i 0).testBit j
def ancB (ops : Array Oper) (tbl : List Nat) : Bool :=
  (List.range ops.size).all fun i => match ops[i]? with
    | none => false
    | some o => (List.range ops.size).all fun j => !anc tbl i j || o.after.any fun e => Region.binds .any e && (e.on == j || anc tbl e.on j)
/-- Number k waits for number i itself. -/
def waitsB (ops : Array Oper) (i k : Nat) : Bool := match ops[k]? with
  | some o => o.after.any fun e => Region.binds .any e && e.on == i
  | none => false
/-- Number k takes number j's value. -/
def usesB (ops : Array Oper) (j k : Nat) : Bool := match ops[k]? with
  | some o => o.after.any fun e => Region.binds .any e && (match e.ground with | .data => true | _ => false) && e.on == j
  | none => false
/-- What is known of number j is still wanted when what stands in 'listed' has run. -/
def Alive (ops : Array Oper) (j : Nat) (listed : Array Bool) : Prop :=
  (∀ k, usesB ops j k = false) ∨ ∃ k, usesB ops j k = true ∧ listed.getD k false = false
/-- Number i may run while what is known of number j must stay. -/
def meetB (ops : Array Oper) (tbl : List Nat) (i j : Nat) : Bool :=
  i != j && !anc tbl j i && ((List.range ops.size).all (fun k => !usesB ops j k) || (List.range ops.size).any fun k => usesB ops j k && k != i && !anc tbl i k)

/-- Number i may run while a fact that the operations of l want must stay. -/
def metB (tbl : List Nat) (i : Nat) (l : List Nat) : Bool := l.any fun k => k != i && !anc tbl i k

structure Inv (ops : Array Oper) (J : World → Prop) (E : Nat → World → Prop) (U : List (List Nat)) (F : Nat → Value → World → Prop) (a0 : Act) (listed : Array Bool) (a : Act) (w : World) : Prop where
  held : J w
  init : ∀ x, (∃ k, k ∈ U.getD x [] ∧ listed.getD k false = false) → E x w
  size : a.tmps.size = a0.tmps.size
  defers : a.defers = a0.defers
  old : ∀ s, (∀ i, listed.getD i false = true → slotOf ops i ≠ some s) → a.tmps.getD s undef = a0.tmps.getD s undef
  closed : ListedClosed .any ops listed
  fact : ∀ i, listed.getD i false = true → Alive ops i listed → F i (valOf ops a i) w

/-- The value that is kept of an operation. -/
def keptOf (o : Oper) (v : Value) : Value := match o.dst with
  | some _ => v
  | none => undef

/-- One operation's own goal. -/
def Step (P : Program) (ops : Array Oper) (Q : Exit → Act → World → Prop) (J : World → Prop) (E : Nat → World → Prop) (U : List (List Nat)) (G : Nat → World → World → Prop) (F : Nat → Value → World → Prop) (a0 : Act) (i : Nat) (o : Oper) : Prop :=
  ∀ a w, J w → a.tmps.size = a0.tmps.size →
    (∀ s, (List.range ops.size).all (fun j => !(slotOf ops j == some s) || j == i || waitsB ops i j) = true → a.tmps.getD s undef = a0.tmps.getD s undef) →
    (∀ j, usesB ops j i = true → F j (valOf ops a j) w) → (∀ x, i ∈ U.getD x [] → E x w) →
    ∀ K : Act → World → Prop, Shut (∀ v w', G i w w' → F i (keptOf o v) w' → K (a.put o.dst v) w') → Oper.wp P o a w K Q

theorem getD_put {a : Act} {d s : Tmp} {v : Value} : (a.put (some d) v).tmps.getD s undef = if d = s ∧ d < a.tmps.size then v else a.tmps.getD s undef := by
  unfold Act.put
  simp only [Array.getD_eq_getD_getElem?, Array.getElem?_setIfInBounds]
  by_cases h : d = s
  · subst h
    by_cases h2 : d < a.tmps.size
    · simp [h2]
    · simp [h2]
  · simp [h]

theorem fit_at {n i : Nat} {o : Oper} (h : fitB ops n = true) (ho : ops[i]? = some o) :
    o.guard = none ∧ (∀ e ∈ o.after, e.on < i) ∧ (∀ d, o.dst = some d → d < n ∧ ∀ j, j < i → slotOf ops j ≠ some d) := by
  have hlt : i < ops.size := (Array.getElem?_eq_some_iff.1 ho).1
  have h1 := List.all_eq_true.1 h i (List.mem_range.2 hlt)
  simp only [ho, Bool.and_eq_true] at h1
  obtain ⟨⟨h2, h3⟩, h4⟩ := h1
  refine ⟨by simpa using h2, fun e he => by simpa using Array.all_eq_true_iff_forall_mem.1 h3 e he, fun d hd => ?_⟩
  rw [hd] at h4
  simp only [Bool.and_eq_true, decide_eq_true_eq] at h4
  refine ⟨h4.1, fun j hj hs => ?_⟩
  have h5 := List.all_eq_true.1 h4.2 j (List.mem_range.2 hj)
  rw [hs] at h5
  simp at h5

/-- Two operations have not the same destination. -/
theorem apart_of_fit {n i j : Nat} {d : Tmp} (h : fitB ops n = true) (hi : slotOf ops i = some d) (hj : slotOf ops j = some d) : i = j := by
  have key : ∀ x y : Nat, slotOf ops x = some d → slotOf ops y = some d → ¬ x < y := fun x y hx hy hlt => by
    unfold slotOf at hy
    cases ho : ops[y]? with
    | none => rw [ho] at hy; cases hy
    | some o => rw [ho] at hy; exact ((fit_at h ho).2.2 d hy).2 x hlt hx
  rcases Nat.lt_trichotomy i j with hl | he | hg
  · exact absurd hl (key i j hi hj)
  · exact he
  · exact absurd hg (key j i hj hi)

theorem all_listed {n : Nat} {listed : Array Bool} (h : fitB ops n = true) (hs : listed.size = ops.size) (hr : Region.ready .any ops listed = []) : ∀ i, i < ops.size → listed.getD i false = true := by
  intro i
  induction i using Nat.strongRecOn with
  | _ i ih =>
    intro hi
    cases hl : listed.getD i false with
    | true => rfl
    | false =>
      exfalso
      have hm : i ∈ Region.ready .any ops listed := by
        refine mem_ready.2 ⟨?_, ops[i], Array.getElem?_eq_getElem hi, fun e he _ => ?_⟩
        · have h2 : i < listed.size := by omega
          rw [Array.getD_eq_getD_getElem?, Array.getElem?_eq_getElem h2] at hl ⊢
          simpa using hl
        · have h3 := (fit_at h (Array.getElem?_eq_getElem hi)).2.1 e he
          exact ih _ h3 (by omega)
      rw [hr] at hm
      cases hm

def countL : List Bool → Nat
  | [] => 0
  | b :: l => (if b then 1 else 0) + countL l
theorem countL_set : ∀ (l : List Bool) (i : Nat) (h : i < l.length), l[i] = false → countL (l.set i true) = countL l + 1
  | b :: l, 0, _, hf => by simp at hf; subst hf; simp [countL]; omega
  | b :: l, i + 1, h, hf => by
    have := countL_set l i (by simpa using h) (by simpa using hf)
    simp only [List.set_cons_succ, countL, this]; omega
theorem countL_full : ∀ (l : List Bool), countL l = l.length → ∀ i (h : i < l.length), l[i] = true
  | b :: l, hc, i, h => by
    have hle : ∀ m : List Bool, countL m ≤ m.length := fun m => by
      induction m with
      | nil => simp [countL]
      | cons x m ih => simp only [countL, List.length_cons]; split <;> omega
    have h1 := hle l
    simp only [countL, List.length_cons] at hc
    cases b with
    | false => simp at hc; omega
    | true =>
      simp at hc
      cases i with
      | zero => rfl
      | succ i => exact countL_full l (by omega) i (by simpa using h)
theorem countL_none (n : Nat) : countL (List.replicate n false) = 0 := by
  induction n with
  | zero => rfl
  | succ n ih => simp [List.replicate_succ, countL, ih]

theorem getD_set_true_self {listed : Array Bool} {i : Nat} (h : i < listed.size) : (listed.setIfInBounds i true).getD i false = true := by
  rw [Array.getD_eq_getD_getElem?]
  simp [h]
theorem anc_listed {n : Nat} {tbl : List Nat} {listed : Array Bool} (h : fitB ops n = true) (ht : ancB ops tbl = true) (hc : ListedClosed .any ops listed) : ∀ i j, anc tbl i j = true → i < ops.size → j < ops.size → listed.getD i false = true → listed.getD j false = true := by
  intro i
  induction i using Nat.strongRecOn with
  | _ i ih =>
    intro j ha hi hj hl
    have h1 := List.all_eq_true.1 ht i (List.mem_range.2 hi)
    rw [Array.getElem?_eq_getElem hi] at h1
    have h2 := List.all_eq_true.1 h1 j (List.mem_range.2 hj)
    rw [ha, Bool.not_true, Bool.false_or] at h2
    obtain ⟨e, he, h3⟩ := Array.any_eq_true'.1 h2
    simp only [Bool.and_eq_true, Bool.or_eq_true, beq_iff_eq] at h3
    have hle := hc i ops[i] (Array.getElem?_eq_getElem hi) hl e he h3.1
    rcases h3.2 with h4 | h4
    · rw [← h4]; exact hle
    · have hlt := (fit_at h (Array.getElem?_eq_getElem hi)).2.1 e he
      exact ih e.on hlt j h4 (by omega) hj hle
/-- What number i waits for has run when i may run. -/
theorem anc_ready {n : Nat} {tbl : List Nat} {listed : Array Bool} (h : fitB ops n = true) (ht : ancB ops tbl = true) (hc : ListedClosed .any ops listed) {i j : Nat} (ha : anc tbl i j = true) (hj : j < ops.size)
    (hr : i ∈ Region.ready .any ops listed) : listed.getD j false = true := by
  obtain ⟨_, o, ho, hall⟩ := mem_ready.1 hr
  have hi : i < ops.size := (Array.getElem?_eq_some_iff.1 ho).1
  have h1 := List.all_eq_true.1 ht i (List.mem_range.2 hi)
  rw [ho] at h1
  have h2 := List.all_eq_true.1 h1 j (List.mem_range.2 hj)
  rw [ha, Bool.not_true, Bool.false_or] at h2
  obtain ⟨e, he, h3⟩ := Array.any_eq_true'.1 h2
  simp only [Bool.and_eq_true, Bool.or_eq_true, beq_iff_eq] at h3
  have hle := hall e he h3.1
  rcases h3.2 with h4 | h4
  · rw [← h4]; exact hle
  · have hlt := (fit_at h ho).2.1 e he
    exact anc_listed h ht hc e.on j h4 (by omega) hj hle
theorem uses_lt {j k : Nat} (h : usesB ops j k = true) : k < ops.size := by
  unfold usesB at h
  cases ho : ops[k]? with
  | none => rw [ho] at h; cases h
  | some o => exact (Array.getElem?_eq_some_iff.1 ho).1
theorem uses_edge {j k : Nat} {o : Oper} (h : usesB ops j k = true) (ho : ops[k]? = some o) : ∃ e ∈ o.after, Region.binds .any e = true ∧ e.on = j := by
  unfold usesB at h
  rw [ho] at h
  obtain ⟨e, he, h3⟩ := Array.any_eq_true'.1 h
  simp only [Bool.and_eq_true, beq_iff_eq] at h3
  exact ⟨e, he, h3.1.1, h3.2⟩

theorem wpAny_inv {F : Nat → Value → World → Prop} {G : Nat → World → World → Prop} {tbl : List Nat} {a0 : Act} (hfit : fitB ops a0.tmps.size = true)
    (htbl : ancB ops tbl = true)
    (hbelow : ∀ i w w', i < ops.size → J w → G i w w' → J w')
    (hgrow : ∀ i j v w w', i < ops.size → j < ops.size → meetB ops tbl i j = true → J w → G i w w' → F j v w → F j v w')
    (hU : ∀ x k, k ∈ U.getD x [] → ¬ ops.size ≤ k)
    (hinit : ∀ i x w w', i < ops.size → metB tbl i (U.getD x []) = true → J w → G i w w' → E x w → E x w')
    (hstep : ∀ i o, ops[i]? = some o → Step P ops Q J E U G F a0 i o)
    (hend : ∀ a w, Inv ops J E U F a0 (Array.replicate ops.size true) a w → Q .normal a w) :
    ∀ (fuel : Nat) (listed : Array Bool) (a : Act) (w : World), listed.size = ops.size → countL listed.toList + fuel = ops.size → Inv ops J E U F a0 listed a w →
      wpAny P .any ops Q fuel listed a w := by
  have hfin : ∀ (listed : Array Bool) (a : Act) (w : World), (∀ i, i < ops.size → listed.getD i false = true) → listed.size = ops.size → Inv ops J E U F a0 listed a w → Q .normal a w := by
    intro listed a w hall hs hI
    have he : listed = Array.replicate ops.size true := by
      refine Array.ext (by simpa using hs) (fun i h1 h2 => ?_)
      have := hall i (by omega)
      rw [Array.getD_eq_getD_getElem?, Array.getElem?_eq_getElem h1] at this
      simpa using this
    exact hend a w (he ▸ hI)
  intro fuel
  induction fuel with
  | zero =>
    intro listed a w hs hc hI
    have hall : ∀ i, i < ops.size → listed.getD i false = true := fun i hi => by
      have h1 := countL_full listed.toList (by simp; omega) i (by simp; omega)
      rw [Array.getD_eq_getD_getElem?, Array.getElem?_eq_getElem (by omega)]
      simpa using h1
    refine ⟨?_, hfin listed a w hall hs hI⟩
    refine List.eq_nil_iff_forall_not_mem.2 (fun j hj => ?_)
    obtain ⟨h1, o, ho, _⟩ := mem_ready.1 hj
    have hlt : j < ops.size := (Array.getElem?_eq_some_iff.1 ho).1
    have h2 := hall j hlt
    rw [Array.getD_eq_getD_getElem?, Array.getElem?_eq_getElem (by omega)] at h1 h2
    simp at h1 h2
    rw [h1] at h2
    cases h2
  | succ fuel ih =>
    intro listed a w hs hc hI
    refine ⟨fun hr => hfin listed a w (all_listed hfit hs hr) hs hI, fun i hi => ?_⟩
    obtain ⟨hun, o, ho, hall⟩ := mem_ready.1 hi
    have hlt : i < ops.size := (Array.getElem?_eq_some_iff.1 ho).1
    have hil : i < listed.size := by omega
    obtain ⟨hg, hed, hds⟩ := fit_at hfit ho
    have hunF : listed[i] = false := by
      rw [Array.getD_eq_getD_getElem?, Array.getElem?_eq_getElem hil] at hun
      simpa using hun
    have hslot : slotOf ops i = o.dst := by unfold slotOf; rw [ho]; rfl
    unfold wpOp
    rw [ho]
    show if Region.wanted o (yielded ops a.tmps) = true then _ else _
    have hw : Region.wanted o (yielded ops a.tmps) = true := by unfold Region.wanted; rw [hg]
    rw [if_pos hw]
    refine Or.inl ?_
    refine hstep i o ho a w hI.held hI.size (fun s hsn => hI.old s (fun j hj hjs => ?_)) (fun j hj => ?_) (fun x hx => hI.init x ⟨i, hx, by rw [Array.getD_eq_getD_getElem?, Array.getElem?_eq_getElem hil]; simpa using hunF⟩) _ (fun v w' hb hF => ?_)
    · have hjl : j < ops.size := by
        unfold slotOf at hjs
        cases hoj : ops[j]? with
        | none => rw [hoj] at hjs; cases hjs
        | some oj => exact (Array.getElem?_eq_some_iff.1 hoj).1
      have := List.all_eq_true.1 hsn j (List.mem_range.2 hjl)
      rw [hjs] at this
      simp only [beq_self_eq_true, Bool.not_true, Bool.false_or, Bool.or_eq_true, beq_iff_eq] at this
      have hlf : listed.getD i false = false := by rw [Array.getD_eq_getD_getElem?, Array.getElem?_eq_getElem hil]; simpa using hunF
      rcases this with h | h
      · subst h; rw [hlf] at hj; cases hj
      · unfold waitsB at h
        cases hoj : ops[j]? with
        | none => rw [hoj] at h; cases h
        | some oj =>
          rw [hoj] at h
          obtain ⟨e, he, h3⟩ := Array.any_eq_true'.1 h
          simp only [Bool.and_eq_true, beq_iff_eq] at h3
          have := hI.closed j oj hoj hj e he h3.1
          rw [h3.2, hlf] at this
          cases this
    · obtain ⟨e, he, hb, hej⟩ := uses_edge hj ho
      have hl := hall e he hb
      rw [hej] at hl
      refine hI.fact j hl (Or.inr ⟨i, hj, ?_⟩)
      rw [Array.getD_eq_getD_getElem?, Array.getElem?_eq_getElem hil]; simpa using hunF
    · have hlf : listed.getD i false = false := by rw [Array.getD_eq_getD_getElem?, Array.getElem?_eq_getElem hil]; simpa using hunF
      refine ih (listed.setIfInBounds i true) (a.put o.dst v) w' (by simpa using hs) ?_ ?_
      · rw [Array.toList_setIfInBounds, countL_set _ i (by simpa using hil) (by simpa using hunF)]; omega
      · have hlist : ∀ j, (listed.setIfInBounds i true).getD j false = true → j = i ∨ listed.getD j false = true := fun j hj => by
          by_cases hij : i = j
          · exact Or.inl hij.symm
          · rw [getD_set_ne false hij] at hj; exact Or.inr hj
        have hval : ∀ j, j ≠ i → valOf ops (a.put o.dst v) j = valOf ops a j := fun j hj => by
          unfold valOf
          cases hsj : slotOf ops j with
          | none => rfl
          | some d =>
            cases hd : o.dst with
            | none => rfl
            | some d' =>
              show ((a.put (some d') v).tmps.getD d undef) = _
              rw [getD_put, if_neg]
              rintro ⟨rfl, _⟩
              exact hj (apart_of_fit hfit hsj (hslot.trans hd))
        refine ⟨hbelow i w w' hlt hI.held hb, ?_, ?_, ?_, ?_, hI.closed.set hi, ?_⟩
        · rintro x ⟨k, hk, hkl⟩
          have hki : k ≠ i := fun hh => by
            subst hh
            rw [getD_set_true_self hil] at hkl
            cases hkl
          rw [getD_set_ne false (Ne.symm hki)] at hkl
          refine hinit i x w w' hlt ?_ hI.held hb (hI.init x ⟨k, hk, hkl⟩)
          refine List.any_eq_true.2 ⟨k, hk, ?_⟩
          rw [bne_iff_ne.mpr hki, Bool.true_and]
          cases ha : anc tbl i k with
          | false => rfl
          | true =>
            rcases Nat.lt_or_ge k ops.size with hks | hks
            · have := anc_ready hfit htbl hI.closed ha hks hi
              rw [hkl] at this
              cases this
            · exfalso
              exact hU x k hk hks
        · rw [← hI.size]; unfold Act.put; cases o.dst <;> simp
        · rw [← hI.defers]; unfold Act.put; cases o.dst <;> rfl
        · intro s hsn
          have h1 := hI.old s (fun j hj => hsn j (by
            by_cases hij : i = j
            · subst hij; exact getD_set_true hj
            · rw [getD_set_ne false hij]; exact hj))
          rw [← h1]
          cases hd : o.dst with
          | none => rfl
          | some d =>
            rw [getD_put, if_neg]
            rintro ⟨rfl, _⟩
            refine hsn i ?_ (hslot.trans hd)
            rw [Array.getD_eq_getD_getElem?]
            simp [hil]
        · intro j hj hal
          by_cases hji : j = i
          · subst hji
            have hk : valOf ops (a.put o.dst v) j = keptOf o v := by
              unfold valOf keptOf
              rw [hslot]
              cases hd : o.dst with
              | none => rfl
              | some d =>
                show ((a.put (some d) v).tmps.getD d undef) = _
                rw [getD_put, if_pos ⟨rfl, hI.size ▸ (hds d hd).1⟩]

            rw [hk]; exact hF
          · rw [hval j hji]
            rcases hlist j hj with h | h
            · exact absurd h hji
            · have hjl : j < ops.size := by
                rw [Array.getD_eq_getD_getElem?] at h
                by_cases hx : j < listed.size
                · omega
                · rw [Array.getElem?_eq_none (by omega)] at h; cases h
              have hal' : Alive ops j listed := by
                rcases hal with h5 | ⟨k, h5, h6⟩
                · exact Or.inl h5
                · refine Or.inr ⟨k, h5, ?_⟩
                  by_cases hki : i = k
                  · subst hki; exact hlf
                  · rw [getD_set_ne false hki] at h6; exact h6
              refine hgrow i j _ _ _ hlt hjl ?_ hI.held hb (hI.fact j h hal')
              have e1 : anc tbl j i = false := by
                cases ha : anc tbl j i with
                | false => rfl
                | true =>
                  have := anc_listed hfit htbl hI.closed j i ha hjl hlt h
                  rw [hlf] at this
                  cases this
              unfold meetB
              rw [e1]
              have e2 : (i != j) = true := bne_iff_ne.mpr (Ne.symm hji)
              rw [e2]
              simp only [Bool.not_false, Bool.true_and, Bool.or_eq_true]
              rcases hal with h5 | ⟨k, h5, h6⟩
              · refine Or.inl (List.all_eq_true.2 (fun k _ => by rw [h5 k]; rfl))
              · refine Or.inr (List.any_eq_true.2 ⟨k, List.mem_range.2 (uses_lt h5), ?_⟩)
                have hki : k ≠ i := fun hh => by
                  subst hh
                  rw [getD_set_true_self hil] at h6
                  cases h6
                rw [getD_set_ne false (Ne.symm hki)] at h6
                have e3 : anc tbl i k = false := by
                  cases ha : anc tbl i k with
                  | false => rfl
                  | true =>
                    have := anc_ready hfit htbl hI.closed ha (uses_lt h5) hi
                    rw [h6] at this
                    cases this
                rw [h5, e3, bne_iff_ne.mpr hki]
                rfl

/-- The frame with some destinations filled. -/
def putL : Act → List (Tmp × Value) → Act
  | a, [] => a
  | a, (n, v) :: r => putL (a.put (some n) v) r
theorem putL_eq {a : Act} : ∀ (l : List (Tmp × Value)) (a0 : Act), a.tmps.size = a0.tmps.size → a.defers = a0.defers → (∀ p ∈ l, a.tmps.getD p.1 undef = p.2) →
    (∀ s, (∀ p ∈ l, p.1 ≠ s) → a.tmps.getD s undef = a0.tmps.getD s undef) → a = putL a0 l
  | [], a0, hs, hd, _, hn => by
    obtain ⟨t, d⟩ := a
    obtain ⟨t0, d0⟩ := a0
    simp only at hs hd hn
    subst hd
    show Act.mk t d = Act.mk t0 d
    congr 1
    refine Array.ext hs (fun i h1 h2 => ?_)
    have h := hn i (fun p hp => by cases hp)
    rw [Array.getD_eq_getD_getElem?, Array.getD_eq_getD_getElem?, Array.getElem?_eq_getElem h1, Array.getElem?_eq_getElem h2] at h
    simpa using h
  | (n, v) :: r, a0, hs, hd, hm, hn => by
    have hv := hm (n, v) (by simp)
    refine putL_eq r (a0.put (some n) v) (by rw [hs]; simp [Act.put]) (by rw [hd]; rfl) (fun p hp => hm p (List.mem_cons_of_mem _ hp)) (fun s h => ?_)
    rw [getD_put]
    by_cases hns : n = s
    · subst hns
      by_cases hlt : n < a0.tmps.size
      · rw [if_pos ⟨rfl, hlt⟩]; exact hv
      · rw [if_neg (fun h => hlt h.2)]
        rw [Array.getD_eq_getD_getElem?, Array.getD_eq_getD_getElem?, Array.getElem?_eq_none (hs ▸ Nat.le_of_not_lt hlt), Array.getElem?_eq_none (Nat.le_of_not_lt hlt)]
    · rw [if_neg (fun h => hns h.1)]
      exact hn s (fun p hp => by
        rcases List.mem_cons.1 hp with rfl | hp
        · exact hns
        · exact h p hp)

/-- All destinations and their values. -/
def pairsOf (ops : Array Oper) (vs : Nat → Value) : List (Tmp × Value) := (List.range ops.size).filterMap fun i => (slotOf ops i).map fun d => (d, vs i)

/-- What is known behind a region: of each operation whose value no other takes. -/
def lastB (ops : Array Oper) (i : Nat) : Bool := (List.range ops.size).all fun k => !usesB ops i k
theorem wpAny_plain {n : Nat} (hfit : fitB ops n = true) : ∀ (fuel m : Nat) (listed : Array Bool) (a : Act) (w : World), m + fuel = ops.size → listed.size = ops.size → (∀ i, i < ops.size → listed.getD i false = decide (i < m)) →
    wpAny P .any ops Q fuel listed a w → wpOps P ops Q (List.range' m fuel) a w := by
  intro fuel
  induction fuel with
  | zero => intro m listed a w hm hs hl h; exact h.2
  | succ fuel ih =>
    intro m listed a w hm hs hl h
    have hml : m < ops.size := by omega
    have hgt : ∀ i, i < ops.size → listed.getD i true = decide (i < m) := fun i hi => by
      rw [← hl i hi, Array.getD_eq_getD_getElem?, Array.getD_eq_getD_getElem?, Array.getElem?_eq_getElem (by omega)]
      rfl
    have hr : m ∈ Region.ready .any ops listed := by
      refine mem_ready.2 ⟨by rw [hgt m hml]; simp, ops[m], Array.getElem?_eq_getElem hml, fun e he _ => ?_⟩
      have h3 := (fit_at hfit (Array.getElem?_eq_getElem hml)).2.1 e he
      rw [hl e.on (by omega)]
      simpa using h3
    rw [List.range'_succ, wpOps_cons]
    refine wpOp_mono (fun a' w' h' => ih (m + 1) _ a' w' (by omega) (by simpa using hs) (fun i hi => ?_) h') (h.2 m hr)
    by_cases hi2 : m = i
    · subst hi2
      rw [getD_set_true_self (by omega)]
      simp
    · rw [getD_set_ne false hi2, hl i hi]
      have : (i < m) = (i < m + 1) := propext ⟨fun h => by omega, fun h => by omega⟩
      simp only [this]

/-- **A region that draws its order: each operation once.** G: what an operation may do to the world; F: what is known of an operation's value. -/
theorem region_any {id : Nat} {a0 : Act} {w0 : World} (b : Bool) (hm : P.follows .mixedOrders = true) (G : Nat → World → World → Prop) (F : Nat → Value → World → Prop) (tbl : List Nat) (ns : (Nat → Value) → List (Tmp × Value))
    (hfit : fitB ops a0.tmps.size = true) (htbl : ancB ops tbl = true) (hns : ∀ vs, pairsOf ops vs = ns vs)
    (hJ : J (if b then w0.drew else w0)) (hbelow : ∀ i w w', i < ops.size → J w → G i w w' → J w')
    (hgrow : ∀ i j v w w', i < ops.size → j < ops.size → meetB ops tbl i j = true → J w → G i w w' → F j v w → F j v w')
    (hU : ∀ x k, k ∈ U.getD x [] → ¬ ops.size ≤ k) (hE : ∀ x, E x (if b then w0.drew else w0))
    (hinit : ∀ i x w w', i < ops.size → metB tbl i (U.getD x []) = true → J w → G i w w' → E x w → E x w')
    (hstep : ∀ i o, ops[i]? = some o → Step P ops Q J E U G F a0 i o)
    (hend : ∀ (vs : Nat → Value) (w : World), J w → (∀ i, i < ops.size → lastB ops i = true → F i (vs i) w) → Q .normal (putL a0 (ns vs)) w) :
    (Code.region id ops b).wp P Q a0 w0 := by
  have key : wpAny P .any ops Q ops.size (Array.replicate ops.size false) a0 (if b then w0.drew else w0) := ?key
  · cases b with
    | true => exact wp_region_any hm key
    | false =>
      refine wp_region ?_
      rw [List.range_eq_range']
      exact wpAny_plain hfit ops.size 0 _ a0 w0 (by omega) (by simp) (fun i hi => by rw [Array.getD_eq_getD_getElem?]; simp [hi]) key
  refine wpAny_inv hfit htbl hbelow hgrow hU hinit hstep ?_ ops.size (Array.replicate ops.size false) a0 _ (by simp) (by rw [Array.toList_replicate, countL_none]; omega) ⟨hJ, fun x _ => hE x, rfl, rfl, fun _ _ => rfl, fun j oj _ hj => ?_, fun i hi => ?_⟩
  · intro a w hI
    have hall : ∀ i, i < ops.size → (Array.replicate ops.size true).getD i false = true := fun i hi => by
      rw [Array.getD_eq_getD_getElem?]; simp [hi]
    have he : a = putL a0 (ns (valOf ops a)) := by
      refine putL_eq _ a0 hI.size hI.defers (fun p hp => ?_) (fun s hs => hI.old s (fun i hi hsi => ?_))
      · rw [← hns] at hp
        obtain ⟨i, hi, h⟩ := List.mem_filterMap.1 hp
        cases hsl : slotOf ops i with
        | none => rw [hsl] at h; cases h
        | some d =>
          rw [hsl] at h
          injection h with h
          subst h
          show a.tmps.getD d undef = valOf ops a i
          unfold valOf
          rw [hsl]
      · have hlt : i < ops.size := by
          unfold slotOf at hsi
          cases ho : ops[i]? with
          | none => rw [ho] at hsi; cases hsi
          | some o => exact (Array.getElem?_eq_some_iff.1 ho).1
        have : (s, valOf ops a i) ∈ ns (valOf ops a) := by
          rw [← hns]
          exact List.mem_filterMap.2 ⟨i, List.mem_range.2 hlt, by rw [hsi]; rfl⟩
        exact hs _ this rfl
    rw [he]
    refine hend (valOf ops a) w hI.held (fun i hi hl => hI.fact i (hall i hi) (Or.inl (fun k => ?_)))
    cases hu : usesB ops i k with
    | false => rfl
    | true =>
      have := List.all_eq_true.1 hl k (List.mem_range.2 (uses_lt hu))
      rw [hu] at this
      cases this
  · exfalso
    rw [Array.getD_eq_getD_getElem?] at hj
    by_cases hlt : j < ops.size <;> simp [hlt] at hj
  · exfalso
    rw [Array.getD_eq_getD_getElem?] at hi
    by_cases hlt : i < ops.size <;> simp [hlt] at hi

/-! ### The same with what each operation takes written out -/
/-- D: for each operation the operations whose values it takes, with their slots; S: the slots that it reads as they were ahead of the region. -/
def takesB (ops : Array Oper) (D : List (List (Nat × Tmp))) (S : List (List Tmp)) : Bool :=
  (List.range ops.size).all fun i => (D.getD i []).all (fun p => usesB ops p.1 i && slotOf ops p.1 == some p.2) &&
    (S.getD i []).all fun s => (List.range ops.size).all fun j => !(slotOf ops j == some s) || j == i || waitsB ops i j
/-- The facts that operation i wants, of those from ahead. -/
def takersOf (U : List (List Nat)) (i : Nat) : List Nat := (List.range U.length).filter fun x => (U.getD x []).contains i
def StepD (P : Program) (Q : Exit → Act → World → Prop) (J : World → Prop) (E : Nat → World → Prop) (G : Nat → World → World → Prop) (F : Nat → Value → World → Prop) (a0 : Act) (V : List Nat) (D : List (Nat × Tmp)) (S : List Tmp) (i : Nat) (o : Oper) : Prop :=
  ∀ a w, J w → (∀ p ∈ D, F p.1 (a.tmps.getD p.2 undef) w) → (∀ x ∈ V, E x w) → (∀ s ∈ S, a.tmps.getD s undef = a0.tmps.getD s undef) →
    ∀ K : Act → World → Prop, Shut (∀ v w', G i w w' → F i (keptOf o v) w' → K (a.put o.dst v) w') → Oper.wp P o a w K Q
def StepsD (P : Program) (Q : Exit → Act → World → Prop) (J : World → Prop) (E : Nat → World → Prop) (U : List (List Nat)) (G : Nat → World → World → Prop) (F : Nat → Value → World → Prop) (a0 : Act) : List (List (Nat × Tmp)) → List (List Tmp) → Nat → List Oper → Prop
  | _, _, _, [] => True
  | d :: D, s :: S, i, o :: r => StepD P Q J E G F a0 (takersOf U i) d s i o ∧ StepsD P Q J E U G F a0 D S (i + 1) r
  | _, _, _, _ :: _ => False
theorem stepsD_get {G : Nat → World → World → Prop} {F : Nat → Value → World → Prop} {a0 : Act} : ∀ (D : List (List (Nat × Tmp))) (S : List (List Tmp)) (m : Nat) (l : List Oper), StepsD P Q J E U G F a0 D S m l →
    ∀ i o, l[i]? = some o → StepD P Q J E G F a0 (takersOf U (m + i)) (D.getD i []) (S.getD i []) (m + i) o
  | _, _, _, [], _, i, o, h => by simp at h
  | d :: D, s :: S, m, x :: r, h, 0, o, ho => by
    simp only [List.getElem?_cons_zero, Option.some.injEq] at ho
    subst ho
    exact h.1
  | d :: D, s :: S, m, x :: r, h, i + 1, o, ho => by
    have := stepsD_get D S (m + 1) r h.2 i o (by simpa using ho)
    rw [Nat.add_assoc, Nat.add_comm 1 i] at this
    exact this
  | [], _, _, _ :: _, h, _, _, _ => by cases h
  | _ :: _, [], _, _ :: _, h, _, _, _ => by cases h
theorem region_by {id : Nat} {a0 : Act} {w0 : World} (b : Bool) (hm : P.follows .mixedOrders = true) (G : Nat → World → World → Prop) (F : Nat → Value → World → Prop) (tbl : List Nat) (D : List (List (Nat × Tmp))) (S : List (List Tmp)) (ns : (Nat → Value) → List (Tmp × Value))
    (hfit : (fitB ops a0.tmps.size && ancB ops tbl && takesB ops D S) = true) (hns : ∀ vs, pairsOf ops vs = ns vs)
    (hJ : J (if b then w0.drew else w0)) (hbelow : ∀ i w w', i < ops.size → J w → G i w w' → J w')
    (hgrow : ∀ i j v w w', i < ops.size → j < ops.size → meetB ops tbl i j = true → J w → G i w w' → F j v w → F j v w')
    (hU : (U.all fun l => l.all fun k => decide (k < ops.size)) = true) (hE : ∀ x, x < U.length → E x (if b then w0.drew else w0))
    (hinit : ∀ i x w w', i < ops.size → x < U.length → metB tbl i (U.getD x []) = true → J w → G i w w' → E x w → E x w')
    (hstep : StepsD P Q J E U G F a0 D S 0 ops.toList)
    (hend : ∀ (vs : Nat → Value) (w : World), J w → (∀ i, i < ops.size → lastB ops i = true → F i (vs i) w) → Q .normal (putL a0 (ns vs)) w) :
    (Code.region id ops b).wp P Q a0 w0 := by
  simp only [Bool.and_eq_true] at hfit
  obtain ⟨⟨h1, h2⟩, h3⟩ := hfit
  have hout : ∀ x, ¬ x < U.length → U.getD x [] = [] := fun x hx => by rw [List.getD_eq_getElem?_getD, List.getElem?_eq_none (by omega)]; rfl
  refine region_any (E := fun x w => x < U.length → E x w) (U := U) b hm G F tbl ns h1 h2 hns hJ hbelow hgrow ?_ (fun x hx => hE x hx) (fun i x w w' hi hm2 hJ2 hg hx hxl => hinit i x w w' hi hxl hm2 hJ2 hg (hx hxl)) (fun i o ho => ?_) hend
  · intro x k hk
    by_cases hx : x < U.length
    · have e : U.getD x [] = U[x] := by rw [List.getD_eq_getElem?_getD, List.getElem?_eq_getElem hx]; rfl
      rw [e] at hk
      have := List.all_eq_true.1 (List.all_eq_true.1 hU U[x] (List.getElem_mem hx)) k hk
      have := of_decide_eq_true this
      omega
    · rw [hout x hx] at hk; cases hk
  have hi : i < ops.size := (Array.getElem?_eq_some_iff.1 ho).1
  have hs := stepsD_get D S 0 ops.toList hstep i o (by simpa using ho)
  rw [Nat.zero_add] at hs
  have h4 := List.all_eq_true.1 h3 i (List.mem_range.2 hi)
  simp only [Bool.and_eq_true] at h4
  intro a w hb hsz hold hf hv K hK
  refine hs a w hb (fun p hp => ?_) (fun x hx => ?_) (fun s hsm => hold s (List.all_eq_true.1 h4.2 s hsm)) K hK
  rotate_left
  · unfold takersOf at hx
    obtain ⟨hx1, hx2⟩ := List.mem_filter.1 hx
    exact hv x (by simpa using hx2) (List.mem_range.1 hx1)
  have h5 := List.all_eq_true.1 h4.1 p hp
  simp only [Bool.and_eq_true, beq_iff_eq] at h5
  have h6 := hf p.1 h5.1
  unfold valOf at h6
  rw [h5.2] at h6
  exact h6
theorem wp_value {o : Oper} {a : Act} {w w1 : World} {v : Value} {K : Act → World → Prop} (hrun : (execOp a.eval o).run P w = .ok (.value v) w1) (h : K (a.put o.dst v) w1) : Oper.wp P o a w K Q := by
  unfold Oper.wp
  rw [hrun]
  exact h
theorem wp_call {o : Oper} {a : Act} {w : World} {K : Act → World → Prop} {f : FuncId} {fn : Func} {av : Array Operand} {ts : Array TypeId} (hf : P.funcs[f]? = some fn) (hname : (fn.name == "runtime.NumGoroutine") = false) (hb : fn.body.isSome = true) (args : Array Value)
    (hop : o.op = .call { callee := .value (.func f), args := av, argTypes := ts }) (hargs : av.map a.eval = args) (h : Calls P f args w fun e w' => ∃ v, e = .returned v ∧ K (a.put o.dst v) w') : Oper.wp P o a w K Q := by
  have he := enters_ hf hname hb args w
  unfold Oper.wp execOp
  simp [hop, resolve, Deferred.ofValue, invoke, Act.eval, hargs, he]
  refine h.mono fun e w'' hh => ?_
  obtain ⟨v, rfl, hk⟩ := hh
  exact hk
end
end Go.Proofs.YtibmccacebhhkaaDoor.AnyOrder

