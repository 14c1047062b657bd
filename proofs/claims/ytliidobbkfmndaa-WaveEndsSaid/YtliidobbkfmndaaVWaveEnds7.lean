/- WaveEnds: what the claim's theorem reaches of this seat's texts, part 7, put together by this project's own program (bale.py); conditions: those of each theorem. -/
import Derived.Test.YtliidobbkfmndaaVWaveEnds5
import Derived.Shelf.Abstract
import Derived.OwnWalk
import Derived.LoopN
namespace Go.Proofs.Ytliidobbkfmndaa.HW2
open Go.RowKit Go.Proofs.YtliidobbkfmndaaW.PrintWords Go.Proofs.YtliidobbkfmndaaW.PrintLast Go.Proofs.YtliidobbkfmndaaW.PrintMore
attribute [local go_sem] max2_int min2_int max_two min_two max_three min_three max_four min_four   -- for this text's walks alone
set_option linter.unusedVariables false
set_option linter.unusedSimpArgs false

/-! ### slices_Concat_byte_byte: function 33, by hand -/
structure AsideK (p : Prop) : Prop where mk :: (out : p)
set_option maxHeartbeats 2000000 in
theorem grow_nil (n : Nat) (hn : n ≤ 1000000000) (w : World) : Calls Try.prog 47 #[.slice none 0 0, .int .i64 (n : Int)] w fun e w' => ∃ v0_ : Value, e = .returned (v0_) ∧ Kd.R (Kd.int .u8) 5 w' w.heap.size (fun _ => True) v0_ [] ∧ Below w.heap.size w w' := by
  have hinfo : ((Try.prog).info? 5).map (fun i => (i.zero, i.size, i.bytes)) = some (some (.int .u8 0), 1, 1) := by kernel_rfl
  have HI := AsideK.mk hinfo
  clear hinfo
  by_cases h0 : n = 0
  · subst h0
    go_enter Try.func47, Try.ntmps47
    go_wp2
    go_ret
    exact ⟨_, rfl, Kd.R_nil _ _ _ _ _, Below.refl _ _⟩
  · have hpos : (0 : Int) < (n : Int) := by omega
    have hnn : (0 : Int) ≤ (n : Int) := by omega
    have hl8 : (([] : List Int).length + (n : Int).toNat) * 1 ≤ 140737488355328 := by simp; omega
    have HNN := AsideK.mk hnn
    have HL8 := AsideK.mk hl8
    clear hnn hl8
    go_enter Try.func47, Try.ntmps47
    go_wp2_with ((with_reducible refine gate_builtin (b := .append) (xs := #[.tmp 20, .tmp 21]) rfl ?_); at_builtin; refine Kd.R_append_zeros (Kd.int .u8) (w0 := w) w.heap.size rfl (.tmp 20) (.tmp 21) 27 3 5 (.int .u8 0) 1 rfl Try.underlying27 Try.underlying3 HI.out rfl (by decide) (by decide) (.slice none 0 0) ([] : List Int) (0 : Int) (n : Int) (fun _ => True) rfl rfl rfl (fun _ _ => trivial) (Kd.R_nil _ _ _ _ _) HNN.out (Below.refl _ _) (Nat.le_refl _) HL8.out ?_; intro v1 w1 hR hb hg hat; obtain ⟨A1, c1, e1⟩ := Kd.R_slice hR; rw [List.nil_append, List.length_replicate, Int.toNat_natCast] at e1; subst e1; have HR1 := AsideK.mk hR; have HB1 := AsideK.mk hb; clear hR hb hg hat)
    go_ret
    exact ⟨_, rfl, Kd.R_take (m := 0) HR1.out (Nat.zero_le _), HB1.out⟩
theorem row_atB {e : Nat} {w : World} {A : Option Addr} {n : Nat} {xs : List (List Int)} (h : Kd.C (Kd.slice e (Kd.int .u8)) w A n xs) (i : Nat) (hi : i < xs.length) : ∃ ad A' c, A = some ad ∧ w.cell? (ad.add i) = some (.slice A' xs[i].length c) ∧ xs[i].length ≤ c ∧ Kd.C (Kd.int .u8) w A' xs[i].length xs[i] := by
  obtain ⟨ad, e, hc⟩ := h.2.2 (by have := h.1; omega)
  obtain ⟨c, hs, hr, hcell⟩ := hc i _ (List.getElem?_eq_getElem hi)
  obtain ⟨A', cc, rfl, hl, hC⟩ := hr
  refine ⟨ad, A', cc, e, ?_, hl, hC⟩
  have h1 := hcell 0 _ rfl
  rw [show i * (Kd.slice _ (Kd.int .u8)).sz + 0 = i by show i * 1 + 0 = i; omega] at h1
  exact h1
def slices_Concat_byte_byte.f (l0 : List (List Int)) : Option (List Int) := if l0.length ≤ 1000 ∧ (∀ x ∈ l0, x.length ≤ 1000000) then some l0.flatten else none
theorem flat_take (l : List (List Int)) (j : Nat) (h : j < l.length) : (l.take (j + 1)).flatten = (l.take j).flatten ++ l[j] := by rw [List.take_succ_eq_append_getElem h, List.flatten_append]; simp
theorem flat_le (l : List (List Int)) (h : ∀ x ∈ l, x.length ≤ 1000000) : l.flatten.length ≤ l.length * 1000000 := by
  induction l with
  | nil => simp
  | cons x l ih =>
    have h1 := h x (by simp)
    have h2 := ih (fun y hy => h y (List.mem_cons_of_mem _ hy))
    rw [List.flatten_cons, List.length_append, List.length_cons, Nat.succ_mul]; omega
set_option maxRecDepth 100000 in
set_option maxHeartbeats 1000000 in
theorem slices_Concat_byte_byte.calls (A0 : Option Addr) (c0 : Nat) (l0 : List (List Int)) (r : List Int) (w : World) (hr0 : Kd.C (Kd.slice 5 (Kd.int .u8)) w A0 l0.length l0) (hc0 : l0.length ≤ c0) (h : slices_Concat_byte_byte.f l0 = some r) :
    Calls Try.prog 33 #[.slice A0 l0.length c0] w fun e w' => ∃ v0_ : Value, e = .returned (v0_) ∧ Kd.R (Kd.int .u8) 5 w' w.heap.size (fun _ => True) v0_ r ∧ Below w.heap.size w w' := by
  unfold slices_Concat_byte_byte.f at h
  split at h
  · rename_i hb
    obtain rfl := Option.some.inj h
    obtain ⟨hb1, hb2⟩ := hb
    have HLE := AsideK.mk hb2
    have HFL : ∀ j, j ≤ l0.length → (l0.take j).flatten.length ≤ 1000000000 := fun j hj => by
      have := flat_le (l0.take j) (fun x hx => hb2 x (List.mem_of_mem_take hx))
      rw [List.length_take] at this
      have h2 : min j l0.length * 1000000 ≤ 1000 * 1000000 := Nat.mul_le_mul_right _ (by omega)
      omega
    have HF := AsideK.mk HFL
    have HR := AsideK.mk hr0
    clear h hb2 hr0 HFL
    have hinfo : ((Try.prog).info? 5).map (fun i => (i.zero, i.size, i.bytes)) = some (some (.int .u8 0), 1, 1) := by kernel_rfl
    have HI := AsideK.mk hinfo
    clear hinfo
    obtain ⟨n, hn⟩ : ∃ n, l0.length = n := ⟨_, rfl⟩
    have HN := AsideK.mk hn
    rw [hn] at hb1 hc0 ⊢
    clear hn
    go_enter Try.func33, Try.ntmps33
    go_wp2
    go_loopg [3, 11] n (fun gg v3 v11 w' => ∃ j : Nat, v3 = .int .i64 (((l0.take j).flatten.length : Nat) : Int) ∧ v11 = .int .i64 (j : Int) ∧ AsideK (j ≤ n) ∧ AsideK (n - j ≤ gg) ∧ AsideK (Below w.heap.size w w'))
    case atStart => exact ⟨0, rfl, rfl, ⟨Nat.zero_le _⟩, ⟨by omega⟩, ⟨Below.refl _ _⟩⟩
    case round =>
      obtain ⟨j, rfl, rfl, HJ, HGG, HBr⟩ := hrel
      by_cases hlt : j < n
      · have hltz : (j : Int) < (n : Int) := by omega
        have hjl : j < l0.length := by have := HN.out; omega
        obtain ⟨ad, A', c', rfl, hcj, hle, hC⟩ := row_atB HR.out j hjl
        replace hcj := pw_cell_below HBr.out hcj
        have hf0 := HF.out j (by omega)
        have hf1 := HF.out (j + 1) (by omega)
        have hft := flat_take l0 j hjl
        rw [hft, List.length_append] at hf1
        have HT2 := AsideK.mk (show (l0.take (j + 1)).flatten.length = (l0.take j).flatten.length + l0[j].length by rw [hft, List.length_append])
        clear hft hC
        generalize (l0.take j).flatten.length = m at *
        generalize l0[j].length = nj at *
        go_wp2
        go_roundg (n - (j + 1))
        case measure => have := HGG.out; omega
        case rel => exact ⟨j + 1, by rw [HT2.out]; go_num, by go_num, ⟨by omega⟩, ⟨by have := HGG.out; omega⟩, ⟨HBr.out⟩⟩
      · have hltz : ¬ (j : Int) < (n : Int) := by omega
        have hjn : j = n := by have := HJ.out; omega
        have hgl := HF.out j (by have := HN.out; omega)
        have HG := AsideK.mk (fun W => grow_nil (l0.take j).flatten.length hgl W)
        clear hgl hjn
        generalize (l0.take j).flatten.length = m at *
        go_wp2_with (go_at_call 47; refine (HG.out _).mono ?_; rintro e w2 ⟨v6, rfl, ho, hb⟩; have HO := AsideK.mk (Kd.R_lower ho (below_size HBr.out)); have HB2 := AsideK.mk (below_step HBr.out hb); clear ho hb)
        clear HBr
        go_loopg [6, 27] n (fun gg v6 v27 w' => ∃ j : Nat, v27 = .int .i64 (j : Int) ∧ AsideK (j ≤ n) ∧ AsideK (n - j ≤ gg) ∧ AsideK (Kd.R (Kd.int .u8) 5 w' w.heap.size (fun _ => True) v6 (l0.take j).flatten) ∧ AsideK (Below w.heap.size w w'))
        case atStart => exact ⟨0, rfl, ⟨Nat.zero_le _⟩, ⟨by omega⟩, ⟨HO.out⟩, ⟨HB2.out⟩⟩
        case round =>
          obtain ⟨i, rfl, HJ2, HGG2, HOr, HBr⟩ := hrel
          clear HO HB2
          by_cases hlt2 : i < n
          · have hltz2 : (i : Int) < (n : Int) := by omega
            have hil : i < l0.length := by have := HN.out; omega
            obtain ⟨ad, A', c', rfl, hcj, hle, hC⟩ := row_atB HR.out i hil
            replace hcj := pw_cell_below HBr.out hcj
            have HCi := AsideK.mk (Kd.C_below hC HBr.out)
            have hf1 := HF.out (i + 1) (by omega)
            have hft := flat_take l0 i hil
            rw [hft, List.length_append] at hf1
            have HT2 := AsideK.mk hft
            have hl9 : ((l0.take i).flatten.length + l0[i].length) * 1 ≤ 140737488355328 := by omega
            have HL9 := AsideK.mk hl9
            have hX : ∃ x, l0[i] = x := ⟨_, rfl⟩
            obtain ⟨x, hx⟩ := hX
            rw [hx] at hcj HCi HT2 HL9
            clear hx hft hC hle hf1 hl9
            obtain ⟨nx, hnx⟩ : ∃ nx, x.length = nx := ⟨_, rfl⟩
            rw [hnx] at hcj HCi HL9
            clear hnx
            go_wp2_with ((with_reducible refine gate_builtin (b := .append) (xs := #[.tmp 31, .tmp 32]) rfl ?_); at_builtin; refine Kd.R_append_rows (Kd.int .u8) (w0 := w) w.heap.size rfl (.tmp 31) (.tmp 32) 27 5 (.int .u8 0) 1 rfl Try.underlying27 HI.out rfl (by decide) (by decide) u6 (l0.take i).flatten x _ _ _ (fun _ => True) (fun _ => False) rfl rfl HOr.out HCi.out (fun _ _ h => h) (fun _ h => h.elim) (fun _ _ => trivial) HBr.out HBr.out.size HL9.out ?_; intro v9 w9 hR9 hb9 hg9 hat9; have HR9 := AsideK.mk hR9; have HB9 := AsideK.mk hb9; clear hR9 hb9 hg9 hat9)
            go_roundg (n - (i + 1))
            case measure => have := HGG2.out; omega
            case rel => exact ⟨i + 1, by go_num, ⟨by omega⟩, ⟨by have := HGG2.out; omega⟩, ⟨by rw [HT2.out]; exact HR9.out⟩, ⟨HB9.out⟩⟩
          · have hltz2 : ¬ (i : Int) < (n : Int) := by omega
            have hin : i = n := by have := HJ2.out; omega
            have HFN := AsideK.mk (show (l0.take i).flatten = l0.flatten by rw [List.take_of_length_le (by have := HN.out; omega)])
            clear hin
            go_wp2
            go_ret
            exact ⟨_, rfl, by rw [← HFN.out]; exact HOr.out, HBr.out⟩
  · cases h

end Go.Proofs.Ytliidobbkfmndaa.HW2

namespace Go.Proofs.Ytliidobbkfmndaa.HW2
open Go.RowKit Go.Proofs.YtliidobbkfmndaaW.PrintWords Go.Proofs.YtliidobbkfmndaaW.PrintLast Go.Proofs.YtliidobbkfmndaaW.PrintMore
attribute [local go_sem] max2_int min2_int max_two min_two max_three min_three max_four min_four   -- for this text's walks alone
set_option linter.unusedVariables false
set_option linter.unusedSimpArgs false

/-! ### wave_turn: function 18, by hand -/
structure AsideT (p : Prop) : Prop where mk :: (out : p)
def xor8 (x : Int) : Int := Go.bits .xor .u8 x 128
def wave_turn.f (a0_0 : Int) (a0_1 : Int) (a0_2 : Bool) (a0_3 : Int) (a0_4 : Int) (a0_5 : Int) (a0_6 : Int) (l1 : List Int) : Option (List Int) :=
  if l1.length ≤ 1000000000 then some (if a0_1 = 8 then l1.map xor8 else l1) else none
theorem part_set (l : List Int) (i : Nat) (h : i < l.length) : ((l.map xor8).take i ++ l.drop i).set i (xor8 l[i]) = (l.map xor8).take (i + 1) ++ l.drop (i + 1) := by
  have h1 : ((l.map xor8).take i).length = i := by rw [List.length_take, List.length_map]; omega
  rw [List.set_append_right _ _ (by omega), h1, Nat.sub_self, List.drop_eq_getElem_cons h, List.set_cons_zero, List.take_succ_eq_append_getElem (by rw [List.length_map]; exact h), List.getElem_map]
  simp
set_option maxRecDepth 100000 in
set_option maxHeartbeats 1000000 in
theorem wave_turn.calls (a0_0 : Int) (a0_1 : Int) (a0_2 : Bool) (a0_3 : Int) (a0_4 : Int) (a0_5 : Int) (a0_6 : Int) (A1 : Option Addr) (c1 : Nat) (l1 : List Int) (r : List Int) (w : World) (hr1 : Kd.C (Kd.int .u8) w A1 l1.length l1) (hc1 : l1.length ≤ c1) (h : wave_turn.f a0_0 a0_1 a0_2 a0_3 a0_4 a0_5 a0_6 l1 = some r) :
    Calls Try.prog 18 #[.agg #[.int .i64 a0_0, .int .i64 a0_1, .bool a0_2, .int .i64 a0_3, .int .i64 a0_4, .int .i64 a0_5, .int .i64 a0_6], .slice A1 l1.length c1] w fun e w' => ∃ v0_ : Value, e = .returned (v0_) ∧ Kd.R (Kd.int .u8) 5 w' w.heap.size (fun _ => True) v0_ r ∧ Below w.heap.size w w' := by
  unfold wave_turn.f at h
  split at h
  · rename_i hlen
    have hr := Option.some.inj h
    have HRR := AsideT.mk hr
    have HR := AsideT.mk hr1
    have hu23 := Try.underlying23
    have HU := AsideT.mk hu23
    have hinfo : ((Try.prog).info? 5).map (fun i => (i.zero, i.size, i.bytes)) = some (some (.int .u8 0), 1, 1) := by kernel_rfl
    have HI := AsideT.mk hinfo
    have hsize : ((Try.prog).info? 5).map (·.size) = some 1 := by kernel_rfl
    have HSZ := AsideT.mk hsize
    obtain ⟨n, hn⟩ : ∃ n, l1.length = n := ⟨_, rfl⟩
    have HN := AsideT.mk hn
    rw [hn] at hlen ⊢
    have hn0 : (0 : Int) ≤ (n : Int) := by omega
    have hn1 : (n : Int).toNat * 1 ≤ 281474976710656 := by omega
    have HN0 := AsideT.mk hn0
    have HN1 := AsideT.mk hn1
    have HCn : AsideT (Kd.C (Kd.int .u8) w A1 n l1) := ⟨by rw [← hn]; exact hr1⟩
    clear h hr hr1 hinfo hsize hn hn0 hn1 hc1
    go_enter Try.func18, Try.ntmps18
    go_upto_if 15 with (first | ((with_reducible refine gate_dst (N := 2) rfl ?_); refine box_event ?hg (N := 2) ?hd (cs := #[.int .i64 a0_0, .int .i64 a0_1, .bool a0_2, .int .i64 a0_3, .int .i64 a0_4, .int .i64 a0_5, .int .i64 a0_6]) (t := 23) ?hr ?_; (case hd => rfl); (case hg => rfl); (case hr => first | (go_simp; done) | (go_simp; rfl)); intro g1 hg1 wx hbox1 hb1; clear hg1; have HX0 := AsideT.mk hbox1; have HB0 := AsideT.mk hb1; clear hbox1 hb1) | ((with_reducible refine gate_dst (N := 9) rfl ?_); refine Kd.R_make (Kd.int .u8) w.heap.size 5 rfl (N := 9) rfl 27 _ _ rfl (n : Int) rfl rfl Try.underlying27 (.int .u8 0) 1 HI.out rfl (by decide) (by omega) (0 : Int) (ok := fun _ => True) (okp := fun _ => True) rfl (fun _ h => h) trivial HN0.out HN1.out HB0.out HB0.out.size ?_; intro v9 w9 hR9 hb9 hg9 hat9; rw [Int.toNat_natCast] at hR9; have HR9 := AsideT.mk hR9; have HB9 := AsideT.mk hb9; have HX9 := AsideT.mk (blk_grown HX0.out hg9 (by simp)); have HAT9 := AsideT.mk hat9; obtain ⟨A9, c9, e9⟩ := Kd.R_slice hR9; rw [List.length_replicate] at e9; subst e9; clear hR9 hb9 hg9 hat9) | ((with_reducible refine gate_builtin (b := .copy) (xs := #[.tmp 10, .tmp 11]) rfl ?_); refine Kd.R_copy (enc := Value.int .u8) (h1 := fun _ => rfl) (0 : Int) (w0 := w) w.heap.size rfl (.tmp 10) (.tmp 11) 27 27 5 rfl Try.underlying27 HSZ.out (.slice A9 n c9) (List.replicate n 0) l1 A1 n c1 (fun _ => True) rfl rfl HR9.out (Kd.C_below HCn.out HB9.out) HB9.out HB9.out.size ?_; intro w12 hR12 hb12 hg12; have HR12 := AsideT.mk hR12; have HB12 := AsideT.mk hb12; have HX12 := AsideT.mk (blk_grown HX9.out hg12 (fun e => by obtain ⟨b, hb, hle⟩ := HAT9.out; rw [hb] at e; have := blk_lt HX0.out; injection e with e; omega)); clear hR12 hb12 hg12; have f1 := (blk_cell HX12.out 1).trans rfl))
    have HO : AsideT (Kd.R (Kd.int .u8) 5 w12 w.heap.size (fun _ => True) (.slice A9 n c9) l1) := ⟨by
      have h := HR12.out
      rw [List.length_replicate, Nat.min_self, List.take_of_length_le (by have := HN.out; omega), List.drop_eq_nil_of_le (by rw [List.length_replicate]; exact Nat.le_refl _), List.append_nil] at h
      exact h⟩
    clear HR12 HR9
    obtain ⟨bS, hbS, hbSw⟩ := HAT9.out
    cases A9 with
    | none => simp [Value.ownBlock] at hbS
    | some ad9 =>
    obtain ⟨gS, rfl⟩ := Kd.R_head HO.out
    have HGS := AsideT.mk (Kd.R_base HO.out gS rfl)
    clear hbS hbSw HAT9
    by_cases h8 : a0_1 = 8
    · have HRR2 : AsideT (l1.map xor8 = r) := ⟨by rw [← HRR.out, if_pos h8]⟩
      have h81 : (a0_1 == 8) = true := beq_iff_eq.mpr h8
      have HO2 : AsideT (Kd.R (Kd.int .u8) 5 w12 w.heap.size (fun _ => True) (.slice (some ⟨gS, 0, none⟩) n c9) ((l1.map xor8).take 0 ++ l1.drop 0)) := ⟨HO.out⟩
      clear h8 HO
      go_wp2
      go_loopg [18] n (fun gg v18 w' => ∃ i : Nat, v18 = .int .i64 (i : Int) ∧ AsideT (i ≤ n) ∧ AsideT (n - i ≤ gg) ∧ AsideT (Kd.R (Kd.int .u8) 5 w' w.heap.size (fun _ => True) (.slice (some ⟨gS, 0, none⟩) n c9) ((l1.map xor8).take i ++ l1.drop i)) ∧ AsideT (Below w.heap.size w w'))
      case atStart => exact ⟨0, rfl, ⟨Nat.zero_le _⟩, ⟨by omega⟩, ⟨HO2.out⟩, ⟨HB12.out⟩⟩
      case round =>
        obtain ⟨i, rfl, HII, HGG, HPR, HBr⟩ := hrel
        clear HO2 HB12 f1
        by_cases hlt : i < n
        · have hltz : (i : Int) < (n : Int) := by omega
          have hi0 : (0 : Int) ≤ (i : Int) := by omega
          have hil : i < l1.length := by have := HN.out; omega
          have hpl : ((l1.map xor8).take i ++ l1.drop i).length = n := by rw [List.length_append, List.length_take, List.length_map, List.length_drop]; have := HN.out; omega
          obtain ⟨ado, e, hco⟩ := Kd.at_int (Kd.R_reads' HPR.out).2.2 (i : Int) hi0 (by rw [hpl]; exact hltz)
          injection e with e
          subst e
          rw [Int.toNat_natCast, show (⟨gS, 0, none⟩ : Addr).add i = ⟨gS, i, none⟩ by simp [Go.Addr.add]; omega] at hco
          have hx : rd ((l1.map xor8).take i ++ l1.drop i) (i : Int) = l1[i] := by
            unfold rd
            rw [Int.toNat_natCast, List.getD_eq_getElem?_getD, List.getElem?_append_right (by rw [List.length_take, List.length_map]; omega), List.length_take, List.length_map, show i - min i l1.length = 0 by omega, List.drop_eq_getElem_cons hil]
            rfl
          rw [hx] at hco
          have hfr : wr.frozen? ⟨gS, i, none⟩ = false := by
            obtain ⟨cells, hc⟩ := Kd.R_typed HPR.out gS rfl
            exact blk_frozen hc i
          have hput := (Kd.R_put (xs := (l1.map xor8).take i ++ l1.drop i) (cap := c9) (by rw [hpl]; exact HPR.out) (i : Int) (xor8 l1[i])).1
          rw [hpl, Int.toNat_natCast, part_set l1 i hil] at hput
          have HPUT := AsideT.mk hput
          clear hput hx hpl
          unfold xor8 at HPUT
          generalize l1[i] = y at hco HPUT
          go_wp2
          go_roundg (n - (i + 1))
          case measure => have := HGG.out; omega
          case rel => exact ⟨i + 1, by go_num, ⟨by omega⟩, ⟨by have := HGG.out; omega⟩, ⟨HPUT.out⟩, ⟨Below.setCell (p := ⟨gS, i, none⟩) HBr.out HGS.out _⟩⟩
        · have hltz : ¬ (i : Int) < (n : Int) := by omega
          have hin : i = n := by have := HII.out; omega
          have HFN : AsideT (Kd.R (Kd.int .u8) 5 wr w.heap.size (fun _ => True) (.slice (some ⟨gS, 0, none⟩) n c9) r) := ⟨by
            have h := HPR.out
            rw [List.take_of_length_le (by rw [List.length_map]; have := HN.out; omega), List.drop_eq_nil_of_le (by have := HN.out; omega), List.append_nil, HRR2.out] at h
            exact h⟩
          clear hin HPR
          go_wp2
          go_ret
          exact ⟨_, rfl, HFN.out, HBr.out⟩
    · have HRR2 : AsideT (l1 = r) := ⟨by rw [← HRR.out, if_neg h8]⟩
      have h81 : (a0_1 == 8) = false := beq_eq_false_iff_ne.mpr h8
      clear h8
      go_wp2
      go_ret
      exact ⟨_, rfl, by rw [← HRR2.out]; exact HO.out, HB12.out⟩
  · cases h

end Go.Proofs.Ytliidobbkfmndaa.HW2

