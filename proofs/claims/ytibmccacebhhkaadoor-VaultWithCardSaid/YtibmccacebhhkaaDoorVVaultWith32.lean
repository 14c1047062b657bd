/- VaultWith: what the claim's theorem reaches of this seat's texts, part 32, put together by this project's own program (bale.py); conditions: those of each theorem. -/
import Derived.Test.YtibmccacebhhkaaDoorVVaultWith1
import Derived.Test.YtibmccacebhhkaaDoorVVaultWith2
import Derived.WalkKit
import Derived.ProofKit
import Derived.OpenShut
import Derived.DataElems
import Derived.Deep.Slices
namespace Go.Proofs.YtibmccacebhhkaaDoor.Rd
open Go Go.ChangeShapes Go.WideShapes Go.ChangeAt Go.RowKit Go.Proofs.YtibmccacebhhkaaDoorW.PrintWords Go.Proofs.YtibmccacebhhkaaDoorW.PrintLast
section
variable {H : Type} {enc : TypeId × Value → H} {P : Program} {W : World} {base : Nat} {spare : Nat → Bool} {held : Bool} {T E : TypeId} {α : Type}

/-- Whatever reads at type T is told by d, and is well formed. -/
def Opens (enc : TypeId × Value → H) (P : Program) (W : World) (base : Nat) (spare : Nat → Bool) (held : Bool) (T : TypeId) (d : Kd α) (wf : α → Prop) : Prop :=
  ∀ (fuel : Nat) (cs : List Value) (x : DataW H × List MemPlace), DataW.trod enc P W base spare held fuel T cs = some x → ∃ a, d.K W a cs ∧ wf a
theorem opens_int {k : IntKind} (hu : P.underlying T = some (.int k)) : Opens enc P W base spare held T (Kd.int k) (fun n => (Lit.int k n).wf = true) := fun fuel cs x h => by
  obtain ⟨n, rfl, _, hw⟩ := DataW.trod_int hu h
  exact ⟨n, rfl, hw⟩
theorem opens_string (hu : P.underlying T = some .string) : Opens enc P W base spare held T Kd.string (fun s => s.size ≤ 9223372036854775807) := fun fuel cs x h => by
  obtain ⟨n, rfl, _, hs⟩ := DataW.trod_string hu h
  exact ⟨n, rfl, hs⟩
theorem choose_list {Q : Nat → α → Prop} (n : Nat) (h : ∀ j, j < n → ∃ a, Q j a) : ∃ xs : List α, xs.length = n ∧ ∀ j a, xs[j]? = some a → Q j a := by
  induction n with
  | zero => exact ⟨[], rfl, fun j a h => by simp at h⟩
  | succ n ih =>
    obtain ⟨xs, hl, hx⟩ := ih (fun j hj => h j (by omega))
    obtain ⟨a, ha⟩ := h n (by omega)
    refine ⟨xs ++ [a], by simp [hl], fun j b hb => ?_⟩
    rcases Nat.lt_or_ge j xs.length with hj | hj
    · rw [List.getElem?_append_left hj] at hb
      exact hx j b hb
    · rw [List.getElem?_append_right hj] at hb
      have h0 : j - xs.length = 0 := by
        rcases Nat.eq_zero_or_pos (j - xs.length) with h0 | h0
        · exact h0
        · rw [List.getElem?_eq_none (by simp; omega)] at hb
          cases hb
      rw [h0] at hb
      simp only [List.getElem?_cons_zero, Option.some.injEq] at hb
      subst hb
      rw [show j = n by omega]
      exact ha
theorem opens_slice {d : Kd α} {wf : α → Prop} (hu : P.underlying T = some (.slice E)) (hc : P.cellsOf E = d.sz) (he : Opens enc P W base spare held E d wf) :
    Opens enc P W base spare held T (Kd.slice E d) (fun xs => ∀ x ∈ xs, wf x) := fun fuel cs x h => by
  rcases Deep.open_slice hu h with ⟨rfl, _⟩ | ⟨a, len, cap, m, n, D, Pl, rfl, _, hl, hm, hme, _, hel⟩
  · exact ⟨[], ⟨none, 0, rfl, Nat.le_refl _, ⟨rfl, by simp, fun h => absurd h (by simp)⟩⟩, by simp⟩
  · have hlm : len ≤ m := by rw [hme]; split <;> omega
    obtain ⟨xs, hxl, hx⟩ := choose_list (Q := fun j a' => ∃ cs', W.cells? base (a.add (j * P.cellsOf E)) (P.cellsOf E) = some cs' ∧ d.K W a' cs' ∧ wf a') len (fun j hj => by
      obtain ⟨cs', h1, h2⟩ := hel j (by omega)
      obtain ⟨a', h3, h4⟩ := he _ _ _ h2
      exact ⟨a', cs', h1, h3, h4⟩)
    subst hxl
    have hmax : xs.length ≤ 9223372036854775807 := Nat.le_trans hl (by simpa [maxLen] using hm)
    refine ⟨xs, ⟨some a, cap, rfl, hl, ⟨rfl, hmax, fun _ => ⟨a, rfl, fun j p hp => ?_⟩⟩⟩, fun y hy => ?_⟩
    · obtain ⟨cs', h1, h2, _⟩ := hx j p hp
      obtain ⟨_, h3, h4⟩ := World.cells?_some h1
      refine ⟨cs', h3.trans hc, h2, fun i u hu => ?_⟩
      obtain ⟨hi, _⟩ := List.getElem?_eq_some_iff.1 hu
      have h5 := h4 i (by omega)
      rw [Go.Addr.add_add, hc, hu] at h5
      exact h5
    · obtain ⟨j, hj, rfl⟩ := List.getElem_of_mem hy
      obtain ⟨_, _, _, h4⟩ := hx j _ (List.getElem?_eq_getElem hj)
      exact h4
/-- The fields of a struct from one on, which begin at cell o. -/
def OpensF (enc : TypeId × Value → H) (P : Program) (W : World) (base : Nat) (spare : Nat → Bool) (held : Bool) (fs : List Field) (o : Nat) (d : Kd α) (wf : α → Prop) : Prop :=
  ∀ (fuel : Nat) (cs : List Value), cs.length = o + d.sz → (∀ f ∈ fs, ∃ x, DataW.trod enc P W base spare held fuel f.type ((cs.drop f.offset).take (P.cellsOf f.type)) = some x) → ∃ a, d.K W a (cs.drop o) ∧ wf a
theorem opensF_last {f : Field} {d : Kd α} {wf : α → Prop} {o : Nat} (ho : f.offset = o) (hc : P.cellsOf f.type = d.sz) (he : Opens enc P W base spare held f.type d wf) : OpensF enc P W base spare held [f] o d wf := fun fuel cs hl h => by
  obtain ⟨x, hx⟩ := h f (by simp)
  rw [ho, hc, List.take_of_length_le (by rw [List.length_drop]; omega)] at hx
  exact he _ _ _ hx
theorem opensF_cons {β : Type} {f : Field} {fs : List Field} {d : Kd α} {wf : α → Prop} {d2 : Kd β} {wf2 : β → Prop} {o : Nat} (ho : f.offset = o) (hc : P.cellsOf f.type = d.sz) (he : Opens enc P W base spare held f.type d wf)
    (hr : OpensF enc P W base spare held fs (o + d.sz) d2 wf2) : OpensF enc P W base spare held (f :: fs) o (Kd.pair d d2) (fun x => wf x.1 ∧ wf2 x.2) := fun fuel cs hl h => by
  have hl' : cs.length = o + (d.sz + d2.sz) := hl
  obtain ⟨x, hx⟩ := h f (by simp)
  rw [ho, hc] at hx
  obtain ⟨a, h1, h2⟩ := he _ _ _ hx
  obtain ⟨b, h3, h4⟩ := hr fuel cs (by omega) (fun g hg => h g (by simp [hg]))
  refine ⟨(a, b), ⟨(cs.drop o).take d.sz, cs.drop (o + d.sz), ?_, h1, h3⟩, h2, h4⟩
  rw [← List.drop_drop, List.take_append_drop]
theorem opens_struct {fs : Array Field} {d : Kd α} {wf : α → Prop} (hu : P.underlying T = some (.struct fs)) (hc : P.cellsOf T = d.sz) (he : OpensF enc P W base spare held fs.toList 0 d wf) : Opens enc P W base spare held T d wf := fun fuel cs x h => by
  obtain ⟨xs, n, rfl, _, hl, hxl, hx⟩ := DataW.trod_struct hu h
  obtain ⟨a, h1, h2⟩ := he n cs (by omega) (fun f hf => by
    obtain ⟨i, hi, rfl⟩ := List.getElem_of_mem hf
    have hi' : i < fs.size := by simpa using hi
    have h3 := hx i fs[i] (by simp [hi'])
    rw [List.getElem?_eq_getElem (by omega)] at h3
    exact ⟨_, by simpa using h3⟩)
  exact ⟨a, by simpa using h1, h2⟩
theorem opens_iso {β : Type} {d : Kd α} {wf : α → Prop} (f : β → α) (g : α → β) (hfg : ∀ a, f (g a) = a) (he : Opens enc P W base spare held T d wf) : Opens enc P W base spare held T (Kd.iso d f) (fun x => wf (f x)) := fun fuel cs x h => by
  obtain ⟨a, h1, h2⟩ := he _ _ _ h
  exact ⟨g a, by show d.K W (f (g a)) cs; rw [hfg]; exact h1, by show wf (f (g a)); rw [hfg]; exact h2⟩
/-- A slice that is an argument. -/
theorem slice_arg {d : Kd α} {wf : α → Prop} {r : Reach} {b0 : Nat} {v : Value} {x : DataW H} {p : List MemPlace} (hu : P.underlying T = some (.slice E)) (ho : Opens enc P W base spare held T (Kd.slice E d) (fun xs => ∀ x ∈ xs, wf x))
    (hv : Value.okWide P W r b0 T v) (h : DataW.Trod enc P W base spare held T v x p) : ∃ A xs c, v = .slice A xs.length c ∧ xs.length ≤ c ∧ d.C W A xs.length xs ∧ ∀ x ∈ xs, wf x := by
  obtain ⟨a, len, cap, rfl⟩ := okWide_slice hu hv
  obtain ⟨fuel, hf⟩ := h
  obtain ⟨xs, ⟨A, c, hcs, hl, hC⟩, hw⟩ := ho _ _ _ hf
  simp only [Value.cells, List.cons.injEq, Value.slice.injEq, and_true] at hcs
  obtain ⟨rfl, rfl, rfl⟩ := hcs
  exact ⟨_, xs, _, rfl, hl, hC, hw⟩
/-- A struct that is an argument. -/
theorem struct_arg {d : Kd α} {wf : α → Prop} {r : Reach} {b0 : Nat} {v : Value} {x : DataW H} {p : List MemPlace} {fs : Array Field} (hu : P.underlying T = some (.struct fs)) (ho : Opens enc P W base spare held T d wf)
    (hv : Value.okWide P W r b0 T v) (h : DataW.Trod enc P W base spare held T v x p) : ∃ a cs, v = .agg cs ∧ d.K W a cs.toList ∧ wf a := by
  obtain ⟨cs, rfl, _⟩ := okWide_struct hu hv
  obtain ⟨fuel, hf⟩ := h
  obtain ⟨a, h1, h2⟩ := ho _ _ _ hf
  exact ⟨a, cs, rfl, by simpa [Value.cells] using h1, h2⟩
end
end Go.Proofs.YtibmccacebhhkaaDoor.Rd

