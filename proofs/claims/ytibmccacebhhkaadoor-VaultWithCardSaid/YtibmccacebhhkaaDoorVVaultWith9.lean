/- VaultWith: what the claim's theorem reaches of this seat's texts, part 9, put together by this project's own program (bale.py); conditions: those of each theorem. -/
import Derived.Test.YtibmccacebhhkaaDoorVVaultWith5
import Derived.Shelf.Abstract
import Derived.OwnWalk
import Derived.LoopN
namespace Go.Proofs.YtibmccacebhhkaaDoor.HV
open Go.RowKit Go.Proofs.YtibmccacebhhkaaDoorW.PrintWords Go.Proofs.YtibmccacebhhkaaDoorW.PrintLast Go.Proofs.YtibmccacebhhkaaDoorW.PrintMore
attribute [local go_sem] max2_int min2_int max_two min_two max_three min_three max_four min_four   -- for this text's walks alone
set_option linter.unusedVariables false
set_option linter.unusedSimpArgs false

/-! ### slices_Concat_byte_byte: function 29, by hand -/
structure AsideK (p : Prop) : Prop where mk :: (out : p)
set_option maxHeartbeats 2000000 in
theorem grow_nil (n : Nat) (hn : n ≤ 1000000000) (w : World) : Calls Tryd.prog 52 #[.slice none 0 0, .int .i64 (n : Int)] w fun e w' => ∃ v0_ : Value, e = .returned (v0_) ∧ Kd.R (Kd.int .u8) 5 w' w.heap.size (fun _ => True) v0_ [] ∧ Below w.heap.size w w' := by
  have hinfo : ((Tryd.prog).info? 5).map (fun i => (i.zero, i.size, i.bytes)) = some (some (.int .u8 0), 1, 1) := by kernel_rfl
  have HI := AsideK.mk hinfo
  clear hinfo
  by_cases h0 : n = 0
  · subst h0
    go_enter Tryd.func52, Tryd.ntmps52
    go_wp2
    go_ret
    exact ⟨_, rfl, Kd.R_nil _ _ _ _ _, Below.refl _ _⟩
  · have hpos : (0 : Int) < (n : Int) := by omega
    have hnn : (0 : Int) ≤ (n : Int) := by omega
    have hl8 : (([] : List Int).length + (n : Int).toNat) * 1 ≤ 140737488355328 := by simp; omega
    have HNN := AsideK.mk hnn
    have HL8 := AsideK.mk hl8
    clear hnn hl8
    go_enter Tryd.func52, Tryd.ntmps52
    go_wp2_with ((with_reducible refine gate_builtin (b := .append) (xs := #[.tmp 20, .tmp 21]) rfl ?_); at_builtin; refine Kd.R_append_zeros (Kd.int .u8) (w0 := w) w.heap.size rfl (.tmp 20) (.tmp 21) 22 3 5 (.int .u8 0) 1 rfl Tryd.underlying22 Tryd.underlying3 HI.out rfl (by decide) (by decide) (.slice none 0 0) ([] : List Int) (0 : Int) (n : Int) (fun _ => True) rfl rfl rfl (fun _ _ => trivial) (Kd.R_nil _ _ _ _ _) HNN.out (Below.refl _ _) (Nat.le_refl _) HL8.out ?_; intro v1 w1 hR hb hg hat; obtain ⟨A1, c1, e1⟩ := Kd.R_slice hR; rw [List.nil_append, List.length_replicate, Int.toNat_natCast] at e1; subst e1; have HR1 := AsideK.mk hR; have HB1 := AsideK.mk hb; clear hR hb hg hat)
    go_ret
    exact ⟨_, rfl, Kd.R_take (m := 0) HR1.out (Nat.zero_le _), HB1.out⟩
theorem row_atB {e : Nat} {w : World} {A : Option Addr} {n : Nat} {xs : List (List Int)} (h : Kd.C (Kd.slice e (Kd.int .u8)) w A n xs) (i : Nat) (hi : i < xs.length) : ∃ ad A' c, A = some ad ∧ w.cell? (ad.add i) = some (.slice A' xs[i].length c) ∧ xs[i].length ≤ c ∧ Kd.C (Kd.int .u8) w A' xs[i].length xs[i] := by
  obtain ⟨ad, e, hc⟩ := h.2.2 (by have := h.1; omega)
  obtain ⟨c, hs, hr, hcell⟩ := hc i _ (List.getElem?_eq_getElem hi)
  obtain ⟨A', cc, rfl, hl, hC⟩ := hr
  refine ⟨ad, A', cc, e, ?_, hl, hC⟩
  have h1 := hcell 0 _ rfl
  rw [show i * (Kd.slice _ (Kd.int .u8)).sz + 0 = i by show i * 1 + 0 = i; omega] at h1
  exact h1
def slices_Concat_byte_byte.f (l0 : List (List Int)) : Option (List Int) := if l0.length ≤ 1000 ∧ (∀ x ∈ l0, x.length ≤ 1000000) then some l0.flatten else none
theorem flat_take (l : List (List Int)) (j : Nat) (h : j < l.length) : (l.take (j + 1)).flatten = (l.take j).flatten ++ l[j] := by rw [List.take_succ_eq_append_getElem h, List.flatten_append]; simp
theorem flat_le (l : List (List Int)) (h : ∀ x ∈ l, x.length ≤ 1000000) : l.flatten.length ≤ l.length * 1000000 := by
  induction l with
  | nil => simp
  | cons x l ih =>
    have h1 := h x (by simp)
    have h2 := ih (fun y hy => h y (List.mem_cons_of_mem _ hy))
    rw [List.flatten_cons, List.length_append, List.length_cons, Nat.succ_mul]; omega
set_option maxRecDepth 100000 in
set_option maxHeartbeats 1000000 in
theorem slices_Concat_byte_byte.calls (A0 : Option Addr) (c0 : Nat) (l0 : List (List Int)) (r : List Int) (w : World) (hr0 : Kd.C (Kd.slice 5 (Kd.int .u8)) w A0 l0.length l0) (hc0 : l0.length ≤ c0) (h : slices_Concat_byte_byte.f l0 = some r) :
    Calls Tryd.prog 29 #[.slice A0 l0.length c0] w fun e w' => ∃ v0_ : Value, e = .returned (v0_) ∧ Kd.R (Kd.int .u8) 5 w' w.heap.size (fun _ => True) v0_ r ∧ Below w.heap.size w w' := by
  unfold slices_Concat_byte_byte.f at h
  split at h
  · rename_i hb
    obtain rfl := Option.some.inj h
    obtain ⟨hb1, hb2⟩ := hb
    have HLE := AsideK.mk hb2
    have HFL : ∀ j, j ≤ l0.length → (l0.take j).flatten.length ≤ 1000000000 := fun j hj => by
      have := flat_le (l0.take j) (fun x hx => hb2 x (List.mem_of_mem_take hx))
      rw [List.length_take] at this
      have h2 : min j l0.length * 1000000 ≤ 1000 * 1000000 := Nat.mul_le_mul_right _ (by omega)
      omega
    have HF := AsideK.mk HFL
    have HR := AsideK.mk hr0
    clear h hb2 hr0 HFL
    have hinfo : ((Tryd.prog).info? 5).map (fun i => (i.zero, i.size, i.bytes)) = some (some (.int .u8 0), 1, 1) := by kernel_rfl
    have HI := AsideK.mk hinfo
    clear hinfo
    obtain ⟨n, hn⟩ : ∃ n, l0.length = n := ⟨_, rfl⟩
    have HN := AsideK.mk hn
    rw [hn] at hb1 hc0 ⊢
    clear hn
    go_enter Tryd.func29, Tryd.ntmps29
    go_wp2
    go_loopg [3, 11] n (fun gg v3 v11 w' => ∃ j : Nat, v3 = .int .i64 (((l0.take j).flatten.length : Nat) : Int) ∧ v11 = .int .i64 (j : Int) ∧ AsideK (j ≤ n) ∧ AsideK (n - j ≤ gg) ∧ AsideK (Below w.heap.size w w'))
    case atStart => exact ⟨0, rfl, rfl, ⟨Nat.zero_le _⟩, ⟨by omega⟩, ⟨Below.refl _ _⟩⟩
    case round =>
      obtain ⟨j, rfl, rfl, HJ, HGG, HBr⟩ := hrel
      by_cases hlt : j < n
      · have hltz : (j : Int) < (n : Int) := by omega
        have hjl : j < l0.length := by have := HN.out; omega
        obtain ⟨ad, A', c', rfl, hcj, hle, hC⟩ := row_atB HR.out j hjl
        replace hcj := pw_cell_below HBr.out hcj
        have hf0 := HF.out j (by omega)
        have hf1 := HF.out (j + 1) (by omega)
        have hft := flat_take l0 j hjl
        rw [hft, List.length_append] at hf1
        have HT2 := AsideK.mk (show (l0.take (j + 1)).flatten.length = (l0.take j).flatten.length + l0[j].length by rw [hft, List.length_append])
        clear hft hC
        generalize (l0.take j).flatten.length = m at *
        generalize l0[j].length = nj at *
        go_wp2
        go_roundg (n - (j + 1))
        case measure => have := HGG.out; omega
        case rel => exact ⟨j + 1, by rw [HT2.out]; go_num, by go_num, ⟨by omega⟩, ⟨by have := HGG.out; omega⟩, ⟨HBr.out⟩⟩
      · have hltz : ¬ (j : Int) < (n : Int) := by omega
        have hjn : j = n := by have := HJ.out; omega
        have hgl := HF.out j (by have := HN.out; omega)
        have HG := AsideK.mk (fun W => grow_nil (l0.take j).flatten.length hgl W)
        clear hgl hjn
        generalize (l0.take j).flatten.length = m at *
        go_wp2_with (go_at_call 52; refine (HG.out _).mono ?_; rintro e w2 ⟨v6, rfl, ho, hb⟩; have HO := AsideK.mk (Kd.R_lower ho (below_size HBr.out)); have HB2 := AsideK.mk (below_step HBr.out hb); clear ho hb)
        clear HBr
        go_loopg [6, 27] n (fun gg v6 v27 w' => ∃ j : Nat, v27 = .int .i64 (j : Int) ∧ AsideK (j ≤ n) ∧ AsideK (n - j ≤ gg) ∧ AsideK (Kd.R (Kd.int .u8) 5 w' w.heap.size (fun _ => True) v6 (l0.take j).flatten) ∧ AsideK (Below w.heap.size w w'))
        case atStart => exact ⟨0, rfl, ⟨Nat.zero_le _⟩, ⟨by omega⟩, ⟨HO.out⟩, ⟨HB2.out⟩⟩
        case round =>
          obtain ⟨i, rfl, HJ2, HGG2, HOr, HBr⟩ := hrel
          clear HO HB2
          by_cases hlt2 : i < n
          · have hltz2 : (i : Int) < (n : Int) := by omega
            have hil : i < l0.length := by have := HN.out; omega
            obtain ⟨ad, A', c', rfl, hcj, hle, hC⟩ := row_atB HR.out i hil
            replace hcj := pw_cell_below HBr.out hcj
            have HCi := AsideK.mk (Kd.C_below hC HBr.out)
            have hf1 := HF.out (i + 1) (by omega)
            have hft := flat_take l0 i hil
            rw [hft, List.length_append] at hf1
            have HT2 := AsideK.mk hft
            have hl9 : ((l0.take i).flatten.length + l0[i].length) * 1 ≤ 140737488355328 := by omega
            have HL9 := AsideK.mk hl9
            have hX : ∃ x, l0[i] = x := ⟨_, rfl⟩
            obtain ⟨x, hx⟩ := hX
            rw [hx] at hcj HCi HT2 HL9
            clear hx hft hC hle hf1 hl9
            obtain ⟨nx, hnx⟩ : ∃ nx, x.length = nx := ⟨_, rfl⟩
            rw [hnx] at hcj HCi HL9
            clear hnx
            go_wp2_with ((with_reducible refine gate_builtin (b := .append) (xs := #[.tmp 31, .tmp 32]) rfl ?_); at_builtin; refine Kd.R_append_rows (Kd.int .u8) (w0 := w) w.heap.size rfl (.tmp 31) (.tmp 32) 22 5 (.int .u8 0) 1 rfl Tryd.underlying22 HI.out rfl (by decide) (by decide) u6 (l0.take i).flatten x _ _ _ (fun _ => True) (fun _ => False) rfl rfl HOr.out HCi.out (fun _ _ h => h) (fun _ h => h.elim) (fun _ _ => trivial) HBr.out HBr.out.size HL9.out ?_; intro v9 w9 hR9 hb9 hg9 hat9; have HR9 := AsideK.mk hR9; have HB9 := AsideK.mk hb9; clear hR9 hb9 hg9 hat9)
            go_roundg (n - (i + 1))
            case measure => have := HGG2.out; omega
            case rel => exact ⟨i + 1, by go_num, ⟨by omega⟩, ⟨by have := HGG2.out; omega⟩, ⟨by rw [HT2.out]; exact HR9.out⟩, ⟨HB9.out⟩⟩
          · have hltz2 : ¬ (i : Int) < (n : Int) := by omega
            have hin : i = n := by have := HJ2.out; omega
            have HFN := AsideK.mk (show (l0.take i).flatten = l0.flatten by rw [List.take_of_length_le (by have := HN.out; omega)])
            clear hin
            go_wp2
            go_ret
            exact ⟨_, rfl, by rw [← HFN.out]; exact HOr.out, HBr.out⟩
  · cases h

end Go.Proofs.YtibmccacebhhkaaDoor.HV

