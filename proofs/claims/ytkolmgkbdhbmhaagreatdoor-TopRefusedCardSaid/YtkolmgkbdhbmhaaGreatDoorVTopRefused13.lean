/- TopRefused: what the claim's theorem reaches of this seat's texts, part 13, put together by this project's own program (bale.py); conditions: those of each theorem. -/
import Derived.Test.YtkolmgkbdhbmhaaGreatDoorVTopRefused5
import Derived.Test.YtkolmgkbdhbmhaaGreatDoorVTopRefused8
import Derived.Test.YtkolmgkbdhbmhaaGreatDoorVTopRefused10
import Derived.Test.YtkolmgkbdhbmhaaGreatDoorVTopRefused12
import Derived.Shelf.Abstract
import Derived.OwnWalk
import Derived.LoopN
namespace Go.Proofs.YtkolmgkbdhbmhaaGreatDoor.HT2
open Go.RowKit Go.Proofs.YtkolmgkbdhbmhaaGreatDoorW.PrintWords Go.Proofs.YtkolmgkbdhbmhaaGreatDoorW.PrintLast Go.Proofs.YtkolmgkbdhbmhaaGreatDoorW.PrintMore
attribute [local go_sem] max2_int min2_int max_two min_two max_three min_three max_four min_four   -- for this text's walks alone
set_option linter.unusedVariables false
set_option linter.unusedSimpArgs false

/-! ### head_Bytes: function 24, by hand -/
theorem Wr.below {w W : World} {B p n m : Nat} {v : Value} {xs : List Int} (h : Wr w B p n v m xs) (hb : Below w.heap.size w W) : Wr W B p n v m xs :=
  ⟨h.lo, Nat.lt_of_lt_of_le h.hi hb.size, (hb.block p h.hi).trans h.cell, own_move h.own (fun k hk => hb.block k (h.own.lt k hk).2), h.ne, h.few, h.most, h.ok⟩
theorem hidx0 (s : Int) (W : World) : (Instr.index 102 (.agg #[.int .i64 0, .int .i64 3, .int .i64 1, .int .i64 2, .int .i64 0, .int .i64 1, .int .i64 1, .int .i64 24, .int .i64 0, .int .i64 6, .int .i64 0, .int .i64 8, .int .i64 0, .int .i64 21, .int .i64 s, .int .i64 32, .int .i64 0, .int .i64 23]) (.int .i64 0)).run Tryz.prog W = .ok (.agg #[.int .i64 0, .int .i64 3]) W := by kernel_rfl
theorem hidx1 (s : Int) (W : World) : (Instr.index 102 (.agg #[.int .i64 0, .int .i64 3, .int .i64 1, .int .i64 2, .int .i64 0, .int .i64 1, .int .i64 1, .int .i64 24, .int .i64 0, .int .i64 6, .int .i64 0, .int .i64 8, .int .i64 0, .int .i64 21, .int .i64 s, .int .i64 32, .int .i64 0, .int .i64 23]) (.int .i64 1)).run Tryz.prog W = .ok (.agg #[.int .i64 1, .int .i64 2]) W := by kernel_rfl
theorem hidx2 (s : Int) (W : World) : (Instr.index 102 (.agg #[.int .i64 0, .int .i64 3, .int .i64 1, .int .i64 2, .int .i64 0, .int .i64 1, .int .i64 1, .int .i64 24, .int .i64 0, .int .i64 6, .int .i64 0, .int .i64 8, .int .i64 0, .int .i64 21, .int .i64 s, .int .i64 32, .int .i64 0, .int .i64 23]) (.int .i64 2)).run Tryz.prog W = .ok (.agg #[.int .i64 0, .int .i64 1]) W := by kernel_rfl
theorem hidx3 (s : Int) (W : World) : (Instr.index 102 (.agg #[.int .i64 0, .int .i64 3, .int .i64 1, .int .i64 2, .int .i64 0, .int .i64 1, .int .i64 1, .int .i64 24, .int .i64 0, .int .i64 6, .int .i64 0, .int .i64 8, .int .i64 0, .int .i64 21, .int .i64 s, .int .i64 32, .int .i64 0, .int .i64 23]) (.int .i64 3)).run Tryz.prog W = .ok (.agg #[.int .i64 1, .int .i64 24]) W := by kernel_rfl
theorem hidx4 (s : Int) (W : World) : (Instr.index 102 (.agg #[.int .i64 0, .int .i64 3, .int .i64 1, .int .i64 2, .int .i64 0, .int .i64 1, .int .i64 1, .int .i64 24, .int .i64 0, .int .i64 6, .int .i64 0, .int .i64 8, .int .i64 0, .int .i64 21, .int .i64 s, .int .i64 32, .int .i64 0, .int .i64 23]) (.int .i64 4)).run Tryz.prog W = .ok (.agg #[.int .i64 0, .int .i64 6]) W := by kernel_rfl
theorem hidx5 (s : Int) (W : World) : (Instr.index 102 (.agg #[.int .i64 0, .int .i64 3, .int .i64 1, .int .i64 2, .int .i64 0, .int .i64 1, .int .i64 1, .int .i64 24, .int .i64 0, .int .i64 6, .int .i64 0, .int .i64 8, .int .i64 0, .int .i64 21, .int .i64 s, .int .i64 32, .int .i64 0, .int .i64 23]) (.int .i64 5)).run Tryz.prog W = .ok (.agg #[.int .i64 0, .int .i64 8]) W := by kernel_rfl
theorem hidx6 (s : Int) (W : World) : (Instr.index 102 (.agg #[.int .i64 0, .int .i64 3, .int .i64 1, .int .i64 2, .int .i64 0, .int .i64 1, .int .i64 1, .int .i64 24, .int .i64 0, .int .i64 6, .int .i64 0, .int .i64 8, .int .i64 0, .int .i64 21, .int .i64 s, .int .i64 32, .int .i64 0, .int .i64 23]) (.int .i64 6)).run Tryz.prog W = .ok (.agg #[.int .i64 0, .int .i64 21]) W := by kernel_rfl
theorem hidx7 (s : Int) (W : World) : (Instr.index 102 (.agg #[.int .i64 0, .int .i64 3, .int .i64 1, .int .i64 2, .int .i64 0, .int .i64 1, .int .i64 1, .int .i64 24, .int .i64 0, .int .i64 6, .int .i64 0, .int .i64 8, .int .i64 0, .int .i64 21, .int .i64 s, .int .i64 32, .int .i64 0, .int .i64 23]) (.int .i64 7)).run Tryz.prog W = .ok (.agg #[.int .i64 s, .int .i64 32]) W := by kernel_rfl
theorem hidx8 (s : Int) (W : World) : (Instr.index 102 (.agg #[.int .i64 0, .int .i64 3, .int .i64 1, .int .i64 2, .int .i64 0, .int .i64 1, .int .i64 1, .int .i64 24, .int .i64 0, .int .i64 6, .int .i64 0, .int .i64 8, .int .i64 0, .int .i64 21, .int .i64 s, .int .i64 32, .int .i64 0, .int .i64 23]) (.int .i64 8)).run Tryz.prog W = .ok (.agg #[.int .i64 0, .int .i64 23]) W := by kernel_rfl
/-- How many bits the first parts of a head have. -/
def headBits : Nat → Nat
  | 0 => 0 | 1 => 3 | 2 => 5 | 3 => 6 | 4 => 30 | 5 => 36 | 6 => 44 | 7 => 65 | 8 => 97 | _ => 120
open Go.Proofs.YtkolmgkbdhbmhaaGreatDoor.AnyOrder Go.Proofs.YtkolmgkbdhbmhaaGreatDoor.AnyLit in
set_option maxRecDepth 100000 in
set_option maxHeartbeats 4000000 in
theorem head_Bytes.gives (s : Int) (hs : 0 ≤ s ∧ s < 4294967296) (w : World) :
    Calls Tryz.prog 24 #[.agg #[.int .i64 1, .int .i64 8, .bool false, .int .i64 1, .int .i64 16, .int .i64 0, .int .i64 0, .int .u32 s]] w fun e w' => ∃ (v0_ : Value) (zs : List Int), e = .returned (.tuple #[v0_, .int .i64 0]) ∧ zs.length = 20 ∧ Kd.R (Kd.int .u8) 5 w' w.heap.size (fun _ => True) v0_ zs ∧ Below w.heap.size w w' := by
  have HGd := AsideHf.mk (fun W => head_Good.calls 1 8 false 1 16 0 0 true W (by rfl))
  have HFs := AsideHf.mk (fun W => head_fields.gives s hs W)
  go_enter Tryz.func24, Tryz.ntmps24
  go_wp2_with (first | ((with_reducible refine gate_dst (N := 1) rfl ?_); refine box_event ?hg (N := 1) ?hd (cs := #[.int .i64 1, .int .i64 8, .bool false, .int .i64 1, .int .i64 16, .int .i64 0, .int .i64 0, .int .u32 s]) (t := 66) ?hr ?_; (case hd => rfl); (case hg => rfl); (case hr => first | (go_simp; done) | (go_simp; rfl)); intro g1 hg0_ wx hx1 hb1; clear hg0_; have HX1 := AsideHf.mk hx1; have HB1 := AsideHf.mk hb1; clear hx1 hb1; have f0 := (blk_cell HX1.out 0).trans rfl; have f1 := (blk_cell HX1.out 1).trans rfl; have f2 := (blk_cell HX1.out 2).trans rfl; have f3 := (blk_cell HX1.out 3).trans rfl; have f4 := (blk_cell HX1.out 4).trans rfl; have f5 := (blk_cell HX1.out 5).trans rfl; have f6 := (blk_cell HX1.out 6).trans rfl; have f7 := (blk_cell HX1.out 7).trans rfl) | (go_at_call 32; refine (HGd.out _).mono ?_; rintro e w1 ⟨rfl, hd⟩; have HX2 := AsideHf.mk (blk_below HX1.out hd); have HB2 := AsideHf.mk (below_step HB1.out hd); clear hd; clear f0 f1 f2 f3 f4 f5 f6 f7; have f0 := (blk_cell HX2.out 0).trans rfl; have f1 := (blk_cell HX2.out 1).trans rfl; have f2 := (blk_cell HX2.out 2).trans rfl; have f3 := (blk_cell HX2.out 3).trans rfl; have f4 := (blk_cell HX2.out 4).trans rfl; have f5 := (blk_cell HX2.out 5).trans rfl; have f6 := (blk_cell HX2.out 6).trans rfl; have f7 := (blk_cell HX2.out 7).trans rfl) | ((with_reducible refine gate_dst (N := 4) rfl ?_); refine box_event ?hg (N := 4) ?hd (cs := #[.slice none 0 0, .int .i64 0]) (t := 47) ?hr ?_; (case hd => rfl); (case hg => rfl); (case hr => first | (go_simp; done) | (go_simp; rfl)); intro p hgp_ wp hp3 hb3; have HP3 := AsideHf.mk hp3; have HX3 := AsideHf.mk (blk_below HX2.out hb3); have HB3 := AsideHf.mk (below_step HB2.out hb3); have HL3 := AsideHf.mk hgp_; clear hp3 hb3 hgp_; clear f0 f1 f2 f3 f4 f5 f6 f7; have f0 := (blk_cell HX3.out 0).trans rfl; have f1 := (blk_cell HX3.out 1).trans rfl; have f2 := (blk_cell HX3.out 2).trans rfl; have f3 := (blk_cell HX3.out 3).trans rfl; have f4 := (blk_cell HX3.out 4).trans rfl; have f5 := (blk_cell HX3.out 5).trans rfl; have f6 := (blk_cell HX3.out 6).trans rfl; have f7 := (blk_cell HX3.out 7).trans rfl) | (go_at_call 50; refine (HFs.out _).mono ?_; rintro e w2 ⟨rfl, hd⟩; have HP4 := AsideHf.mk (blk_below HP3.out hd); have HB4 := AsideHf.mk (below_step HB3.out hd); clear hd; clear f0 f1 f2 f3 f4 f5 f6 f7))
  have hlo : w.heap.size ≤ p := by have := HL3.out; have := HB2.out.size; omega
  have HWr := AsideHf.mk (show Wr w2 w.heap.size p 0 (.slice none 0 0) 0 [] from ⟨hlo, blk_lt HP4.out, HP4.out, World.ownsRow_nil _ _ _ _, by simp [Value.ownBlock], by omega, by omega, by simp⟩)
  clear hlo
  go_loopg [13] 9 (fun gg s13 wr => ∃ i : Nat, i ≤ 9 ∧ AsideHf (gg = 9 - i) ∧ s13 = .int .i64 i ∧ AsideHf (Below w.heap.size w wr) ∧ AsideHf (∃ v m xs, Wr wr w.heap.size p (headBits i) v m xs))
  case atStart => exact ⟨0, by omega, ⟨rfl⟩, rfl, HB4, ⟨_, _, _, HWr.out⟩⟩
  case round =>
    obtain ⟨i, hi9, HG, rfl, HBr, HWi⟩ := hrel
    obtain ⟨v, m, xs, hW⟩ := HWi.out
    by_cases hi : i = 9
    · subst hi
      have HWr9 := AsideHf.mk hW
      clear hW
      obtain ⟨w5, hcv0, hMk, hMR⟩ := conv_lit2 (P := Tryz.prog) (lit_made (B := wr.heap.size) 5 (w := wr) [83, 75, 66, 84, 1] (Nat.le_refl _)) Tryz.underlying32 Tryz.underlying5
      have hcv : (convert 32 32 (.slice (some ⟨wr.heap.size, 0, none⟩) 5 5)).run Tryz.prog (wr.alloc (.cells #[.int .u8 83, .int .u8 75, .int .u8 66, .int .u8 84, .int .u8 1] 5)) = .ok (.slice (some ⟨wr.heap.size, 0, none⟩) 5 5) w5 := hcv0
      have HMR := AsideHf.mk hMR
      have HB5 := AsideHf.mk (((Below.refl wr.heap.size wr).alloc (Nat.le_refl _) _).trans hMk.below)
      clear hcv0 hMk hMR
      have hinfo : ((Tryz.prog).info? 5).map (fun i => (i.zero, i.size, i.bytes)) = some (some (.int .u8 0), 1, 1) := by kernel_rfl
      have HI := AsideHf.mk hinfo
      clear hinfo
      have HBy := AsideHf.mk (pipe_Bytes.gives _ p _ m v xs w5 (HWr9.out.below HB5.out) (by simp [headBits]))
      go_wp2_with (first | (go_at_call 29; refine HBy.out.mono ?_; rintro e w6 ⟨v6, ys, rfl, hy1, hy2, hr6, hb6⟩; have HY1 := AsideHf.mk hy1; have HY2 := AsideHf.mk hy2; have HR6 := AsideHf.mk hr6; have HB6 := AsideHf.mk hb6; clear hy1 hy2 hr6 hb6) | (at_builtin; refine wpList_plain rfl (fun K hK => ?_); refine anyAppendLit (B := wr.heap.size) (xs := [83, 75, 66, 84, 1]) (ys := ys) (.tmp 24) (.tmp 25) rfl Tryz.underlying32 HI.out rfl rfl (HMR.out.block (fun g c hg => HB6.out.block g (blk_lt hg))) (by simp) (row_of_R HR6.out) (fun e => by have := HY2.out; rw [e] at this; simp [headBits] at this) (Nat.le_trans HB5.out.size HB6.out.size) (by have := HY1.out; simp [headBits] at this; simp; omega) (fun v1 w7 hg hf => hK _ _ ?_); have HG7 := AsideHf.mk hg; have HF7 := AsideHf.mk hf; clear hg hf hK K))
      go_ret2
      refine ⟨_, _, rfl, ?_, Kd.R_lower HF7.out.1 (by have := HBr.out.size; omega), ?_⟩
      · have h1 := HY1.out
        have h2 := HY2.out
        simp only [headBits] at h1 h2
        rw [List.length_append]
        simp only [List.length_cons, List.length_nil]
        omega
      · exact HBr.out.trans ((HB5.out.trans (HB6.out.mono HB5.out.size)).mono HBr.out.size |>.trans (Below.mono HG7.out (by have := HBr.out.size; have := HB5.out.size; have := HB6.out.size; omega)))
    · have h9 : i = 0 ∨ i = 1 ∨ i = 2 ∨ i = 3 ∨ i = 4 ∨ i = 5 ∨ i = 6 ∨ i = 7 ∨ i = 8 := by omega
      clear hi hi9
      rcases h9 with rfl | rfl | rfl | rfl | rfl | rfl | rfl | rfl | rfl
      · have hcall := fun W hb => pipe_Put.gives w.heap.size p (headBits 0) m 3 v xs 0 W (hW.below hb) (by simp [headBits]) (by omega) (by omega) (by omega)
        have hidx := hidx0 s
        clear hW
        go_wp2_with (go_at_call 51; refine (hcall _ ((Below.refl _ _).alloc (Nat.le_refl _) _)).mono ?_; rintro e w' ⟨rfl, hb1, hw1⟩)
        go_roundg 8
        case measure => have := HG.out; omega
        case rel => exact ⟨1, by omega, ⟨rfl⟩, rfl, ⟨HBr.out.trans (((Below.refl _ wr).alloc HBr.out.size _).trans hb1)⟩, ⟨hw1⟩⟩
      · have hcall := fun W hb => pipe_Put.gives w.heap.size p (headBits 1) m 2 v xs 1 W (hW.below hb) (by simp [headBits]) (by omega) (by omega) (by omega)
        have hidx := hidx1 s
        clear hW
        go_wp2_with (go_at_call 51; refine (hcall _ ((Below.refl _ _).alloc (Nat.le_refl _) _)).mono ?_; rintro e w' ⟨rfl, hb1, hw1⟩)
        go_roundg 7
        case measure => have := HG.out; omega
        case rel => exact ⟨2, by omega, ⟨rfl⟩, rfl, ⟨HBr.out.trans (((Below.refl _ wr).alloc HBr.out.size _).trans hb1)⟩, ⟨hw1⟩⟩
      · have hcall := fun W hb => pipe_Put.gives w.heap.size p (headBits 2) m 1 v xs 0 W (hW.below hb) (by simp [headBits]) (by omega) (by omega) (by omega)
        have hidx := hidx2 s
        clear hW
        go_wp2_with (go_at_call 51; refine (hcall _ ((Below.refl _ _).alloc (Nat.le_refl _) _)).mono ?_; rintro e w' ⟨rfl, hb1, hw1⟩)
        go_roundg 6
        case measure => have := HG.out; omega
        case rel => exact ⟨3, by omega, ⟨rfl⟩, rfl, ⟨HBr.out.trans (((Below.refl _ wr).alloc HBr.out.size _).trans hb1)⟩, ⟨hw1⟩⟩
      · have hcall := fun W hb => pipe_Put.gives w.heap.size p (headBits 3) m 24 v xs 1 W (hW.below hb) (by simp [headBits]) (by omega) (by omega) (by omega)
        have hidx := hidx3 s
        clear hW
        go_wp2_with (go_at_call 51; refine (hcall _ ((Below.refl _ _).alloc (Nat.le_refl _) _)).mono ?_; rintro e w' ⟨rfl, hb1, hw1⟩)
        go_roundg 5
        case measure => have := HG.out; omega
        case rel => exact ⟨4, by omega, ⟨rfl⟩, rfl, ⟨HBr.out.trans (((Below.refl _ wr).alloc HBr.out.size _).trans hb1)⟩, ⟨hw1⟩⟩
      · have hcall := fun W hb => pipe_Put.gives w.heap.size p (headBits 4) m 6 v xs 0 W (hW.below hb) (by simp [headBits]) (by omega) (by omega) (by omega)
        have hidx := hidx4 s
        clear hW
        go_wp2_with (go_at_call 51; refine (hcall _ ((Below.refl _ _).alloc (Nat.le_refl _) _)).mono ?_; rintro e w' ⟨rfl, hb1, hw1⟩)
        go_roundg 4
        case measure => have := HG.out; omega
        case rel => exact ⟨5, by omega, ⟨rfl⟩, rfl, ⟨HBr.out.trans (((Below.refl _ wr).alloc HBr.out.size _).trans hb1)⟩, ⟨hw1⟩⟩
      · have hcall := fun W hb => pipe_Put.gives w.heap.size p (headBits 5) m 8 v xs 0 W (hW.below hb) (by simp [headBits]) (by omega) (by omega) (by omega)
        have hidx := hidx5 s
        clear hW
        go_wp2_with (go_at_call 51; refine (hcall _ ((Below.refl _ _).alloc (Nat.le_refl _) _)).mono ?_; rintro e w' ⟨rfl, hb1, hw1⟩)
        go_roundg 3
        case measure => have := HG.out; omega
        case rel => exact ⟨6, by omega, ⟨rfl⟩, rfl, ⟨HBr.out.trans (((Below.refl _ wr).alloc HBr.out.size _).trans hb1)⟩, ⟨hw1⟩⟩
      · have hcall := fun W hb => pipe_Put.gives w.heap.size p (headBits 6) m 21 v xs 0 W (hW.below hb) (by simp [headBits]) (by omega) (by omega) (by omega)
        have hidx := hidx6 s
        clear hW
        go_wp2_with (go_at_call 51; refine (hcall _ ((Below.refl _ _).alloc (Nat.le_refl _) _)).mono ?_; rintro e w' ⟨rfl, hb1, hw1⟩)
        go_roundg 2
        case measure => have := HG.out; omega
        case rel => exact ⟨7, by omega, ⟨rfl⟩, rfl, ⟨HBr.out.trans (((Below.refl _ wr).alloc HBr.out.size _).trans hb1)⟩, ⟨hw1⟩⟩
      · have hcall := fun W hb => pipe_Put.gives w.heap.size p (headBits 7) m 32 v xs (s) W (hW.below hb) (by simp [headBits]) (by omega) (by omega) (by have := hs.2; omega)
        have hidx := hidx7 s
        clear hW
        go_wp2_with (go_at_call 51; refine (hcall _ ((Below.refl _ _).alloc (Nat.le_refl _) _)).mono ?_; rintro e w' ⟨rfl, hb1, hw1⟩)
        go_roundg 1
        case measure => have := HG.out; omega
        case rel => exact ⟨8, by omega, ⟨rfl⟩, rfl, ⟨HBr.out.trans (((Below.refl _ wr).alloc HBr.out.size _).trans hb1)⟩, ⟨hw1⟩⟩
      · have hcall := fun W hb => pipe_Put.gives w.heap.size p (headBits 8) m 23 v xs 0 W (hW.below hb) (by simp [headBits]) (by omega) (by omega) (by omega)
        have hidx := hidx8 s
        clear hW
        go_wp2_with (go_at_call 51; refine (hcall _ ((Below.refl _ _).alloc (Nat.le_refl _) _)).mono ?_; rintro e w' ⟨rfl, hb1, hw1⟩)
        go_roundg 0
        case measure => have := HG.out; omega
        case rel => exact ⟨9, by omega, ⟨rfl⟩, rfl, ⟨HBr.out.trans (((Below.refl _ wr).alloc HBr.out.size _).trans hb1)⟩, ⟨hw1⟩⟩

end Go.Proofs.YtkolmgkbdhbmhaaGreatDoor.HT2

