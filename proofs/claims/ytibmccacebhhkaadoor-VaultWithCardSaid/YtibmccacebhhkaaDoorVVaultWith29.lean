/- VaultWith: what the claim's theorem reaches of this seat's texts, part 29, put together by this project's own program (bale.py); conditions: those of each theorem. -/
import Derived.Test.YtibmccacebhhkaaDoorVVaultWith5
import Derived.Test.YtibmccacebhhkaaDoorVVaultWith28
import Derived.Shelf.Abstract
import Derived.OwnWalk
import Derived.LoopTactic
import Derived.Shelf.Spec.SlicesInsert
import Derived.Lib.Overlaps
import Derived.Lib.AppendZerosOnto
import Derived.Laws.NewBlocks
namespace Go.Proofs.YtibmccacebhhkaaDoor.HV
open Go.RowKit Go.Proofs.YtibmccacebhhkaaDoorW.PrintWords Go.Proofs.YtibmccacebhhkaaDoorW.PrintLast Go.Proofs.YtibmccacebhhkaaDoorW.PrintMore
attribute [local go_sem] max2_int min2_int max_two min_two max_three min_three max_four min_four   -- for this text's walks alone
set_option linter.unusedVariables false
set_option linter.unusedSimpArgs false

/-! ### vault_Item_42: function 42, by hand -/
structure AsideIn (p : Prop) : Prop where mk :: (out : p)
/-- The block behind the first copy; behind the second. -/
def insR1 (cur : Array Value) (n i : Nat) : Array Value := (cur.toList.take ((i + 1) * 2) ++ (cur.toList.drop (i * 2)).take ((n - i) * 2) ++ cur.toList.drop ((i + 1) * 2 + ((cur.toList.drop (i * 2)).take ((n - i) * 2)).length)).toArray
def insR2 (row : Array Value) (i : Nat) (c0 c1 : Value) : Array Value := (row.toList.take (i * 2) ++ [c0, c1] ++ row.toList.drop (i * 2 + 2)).toArray
set_option maxRecDepth 100000 in
set_option maxHeartbeats 4000000 in
theorem insert_room.gives (g n cap i gv base : Nat) (cur : Array Value) (c0 c1 : Value) (w : World) (hg : w.heap[g]? = some (.cells cur 49 (0, 0))) (hcs : cur.size = cap * 2) (hi : i < n) (hroom : n + 1 ≤ cap) (hcap : cap ≤ 9223372036854775807) (hv : w.heap[gv]? = some (.cells #[c0, c1] 49 (0, 0))) (hne : gv ≠ g) (h1c : ∀ v ∈ cur.toList.take (n * 2), v.oneCell' = true) (h0 : c0.oneCell' = true) (h1 : c1.oneCell' = true) :
    Calls Tryd.prog 42 #[.slice (some ⟨g, 0, none⟩) n cap, .int .i64 (i : Int), .slice (some ⟨gv, 0, none⟩) 1 1] w fun e w' => e = .returned (.slice (some ⟨g, 0, none⟩) (n + 1) cap) ∧ w' = (w.drew.setRow g (insR1 cur n i)).setRow g (insR2 (insR1 cur n i) i c0 c1) := by
  have hz2 : ¬ ((i : Int) = (n : Int)) := by omega
  have hz3 : ((i : Int) == (n : Int)) = false := by simp; omega
  have HG := AsideIn.mk hg
  have HV := AsideIn.mk hv
  have hsz : (Tryd.prog.info? 49).map (·.size) = some 2 := by kernel_rfl
  have hov : ∀ lb cb, (callFunc 59 #[.slice (some ⟨gv, 0, none⟩) 1 1, .slice (some ⟨g, (i + 1) * 2, none⟩) lb cb]).run Tryd.prog w = .ok (.value (.bool false)) w := fun lb cb => by
    rw [run_callFunc_extern Tryd.func59 (by kernel_rfl) (by kernel_rfl) (by kernel_rfl) (e := Extern.SlicesOverlaps.overlaps #[34, 34] #[4]) (by kernel_rfl),
      Lib.run_overlaps_apart w 34 4 49 Tryd.underlying34 2 (fun w => by kernel_rfl) ⟨gv, 0, none⟩ ⟨g, (i + 1) * 2, none⟩ 1 1 lb cb hne 49 49 2 (cap * 2) (by simp [World.shape?, hv]) (by simp [World.shape?, hg, hcs]) (by omega) (by simp [World.frozen?, hv]) (by simp [World.frozen?, hv])]
    rfl
  go_enter Tryd.func42, Tryd.ntmps42
  go_upto_region 15 with (simp only [hov])
  obtain ⟨L, hL⟩ : ∃ L, cur.toList = L := ⟨_, rfl⟩
  have hLl : L.length = cap * 2 := by rw [← hL, Array.length_toList, hcs]
  obtain ⟨cs1, hcs1⟩ : ∃ cs1, (L.drop (i * 2)).take ((n - i) * 2) = cs1 := ⟨_, rfl⟩
  have hc1 : cs1.length = (n - i) * 2 := by rw [← hcs1, List.length_take, List.length_drop, hLl]; omega
  have hcell : ∀ (W : World), W.heap[g]? = some (.cells cur 49 (0, 0)) → ∀ k v, L[k]? = some v → W.cell? ⟨g, k, none⟩ = some v := fun W hW k v hk => by
    rw [← hL, Array.getElem?_toList] at hk
    simp [World.cell?, hW, hk]
  have hcp1 : ∀ ty dc sc, (Builtin.copy_ #[34, 34] ty #[.slice (some ⟨g, (i + 1) * 2, none⟩) (n - i) dc, .slice (some ⟨g, i * 2, none⟩) (n + 1 - i) sc]).run Tryd.prog w.drew = .ok (goInt (Nat.min (n + 1 - i) (n - i))) (w.drew.setRow g (cur.toList.take ((i + 1) * 2) ++ cs1 ++ cur.toList.drop ((i + 1) * 2 + cs1.length)).toArray) := fun ty dc sc =>
    CopyWide.run_copy_wide w.drew _ _ ty 49 2 g ((i + 1) * 2) _ dc ⟨g, i * 2, none⟩ _ sc cur 49 cs1 Tryd.underlying34 hsz HG.out (by rw [hc1]; simp only [Nat.min_def]; split <;> omega)
      (fun j v hj => by
        rw [Addr.add_lit]
        rw [← hcs1, List.getElem?_take] at hj
        split at hj
        · rw [List.getElem?_drop] at hj; exact hcell w.drew HG.out _ v hj
        · cases hj) (by rw [hc1, hcs]; omega) (fun v hv => h1c v (by rw [← hcs1] at hv; rw [hL]; refine List.mem_of_mem_drop (i := i * 2) ?_; rw [List.drop_take, show n * 2 - i * 2 = (n - i) * 2 by omega]; exact hv))
  obtain ⟨row1, hr1⟩ : ∃ row1, (cur.toList.take ((i + 1) * 2) ++ cs1 ++ cur.toList.drop ((i + 1) * 2 + cs1.length)).toArray = row1 := ⟨_, rfl⟩
  simp only [hr1] at hcp1
  have hW1 := setRow_heap w.drew g cur row1 49 (0, 0) HG.out
  have hs1 : row1.size = cap * 2 := by rw [← hr1]; simp [hc1, hcs]; omega
  have hV1 : (w.drew.setRow g row1).heap[gv]? = some (.cells #[c0, c1] 49 (0, 0)) := by
    simp only [World.setRow, Array.getElem?_modify, if_neg (Ne.symm hne)]
    exact HV.out
  obtain ⟨W1, hWW⟩ : ∃ W1, w.drew.setRow g row1 = W1 := ⟨_, rfl⟩
  rw [hWW] at hW1 hV1
  simp only [hWW] at hcp1
  have hbx : (0 : Int) ≤ (i : Int) + 1 := by omega
  have htn : ((i : Int) + 1).toNat = i + 1 := by omega
  have hb2 : ¬ (cap = i + 1) := by omega
  have hb3 : (i : Int) ≤ (n : Int) + 1 := by omega
  have hb4 : ¬ (cap = i) := by omega
  have hw1 : IntKind.i64.wrap ((i : Int) + 1) = (i : Int) + 1 := by rw [IntKind.wrap_i64]; omega
  have hin : i ≤ n := by omega
  have mixed : Tryd.prog.follows Departure.mixedOrders = true := by kernel_rfl
  go_region_law_o (refine Go.Proofs.step_copy_runI rfl _ _ 34 34 rfl _ _ (by simp [Act.eval, Act.put]) (by simp [Act.eval, Act.put]) (hcp1 _ _ _) ?_)
  have hcp2 : ∀ ty dc, (Builtin.copy_ #[34, 34] ty #[.slice (some ⟨g, i * 2, none⟩) (n + 1 - i) dc, .slice (some ⟨gv, 0, none⟩) 1 1]).run Tryd.prog W1 = .ok (goInt (Nat.min 1 (n + 1 - i))) (W1.setRow g (row1.toList.take (i * 2) ++ [c0, c1] ++ row1.toList.drop (i * 2 + 2)).toArray) := fun ty dc =>
    CopyWide.run_copy_wide W1 _ _ ty 49 2 g (i * 2) _ dc ⟨gv, 0, none⟩ 1 1 row1 49 [c0, c1] Tryd.underlying34 hsz hW1 (by simp only [Nat.min_def, List.length_cons, List.length_nil]; split <;> omega) (fun j v hj => by
        rw [Addr.add_lit]
        match j, hj with
        | 0, hj => simpa [World.cell?, hV1] using hj
        | 1, hj => simpa [World.cell?, hV1] using hj
        | j + 2, hj => simp at hj) (by simp [hs1]; omega) (fun v hv => by simp only [List.mem_cons, List.not_mem_nil, or_false] at hv; rcases hv with rfl | rfl; exact h0; exact h1)
  go_wp2_with (at_builtin; refine Go.Proofs.wpList_copy_runI _ rfl _ _ 34 34 rfl _ _ rfl rfl (hcp2 _ _) ?_)
  go_ret
  refine ⟨rfl, ?_⟩
  have e1 : insR1 cur n i = row1 := by unfold insR1; rw [hL, hcs1, ← hr1, hL]
  rw [e1, hWW]
  unfold insR2
  simp
set_option maxRecDepth 100000 in
set_option maxHeartbeats 2000000 in
theorem insert_end.gives (A : Option Addr) (n cap gv base : Nat) (rows : List (List Value)) (c0 c1 : Value) (w : World) (hR : (Kd.raw 2).R 49 w base (fun _ => True) (.slice A n cap) rows) (hC : (Kd.raw 2).C w (some ⟨gv, 0, none⟩) 1 [[c0, c1]]) (hb : base ≤ w.heap.size) (hn : n ≤ 1000) :
    Calls Tryd.prog 42 #[.slice A n cap, .int .i64 (n : Int), .slice (some ⟨gv, 0, none⟩) 1 1] w fun e w' => ∃ v, e = .returned v ∧ (Kd.raw 2).R 49 w' base (fun _ => True) v (rows ++ [[c0, c1]]) ∧ w.grownBy w' (Value.slice A n cap).ownBlock ∧ (v.ownBlock = (Value.slice A n cap).ownBlock ∨ ∃ b, v.ownBlock = some b ∧ w.heap.size ≤ b) := by
  have HR := AsideIn.mk hR
  have HC := AsideIn.mk hC
  have HB := AsideIn.mk hb
  have hnr := (Kd.R_reads' hR).1
  have hncap := (Kd.R_reads' hR).2.1
  have HN := AsideIn.mk hnr
  clear hR hC hb hnr
  go_enter Tryd.func42, Tryd.ntmps42
  have hcases : (A = none ∧ n = 0 ∧ cap = 0) ∨ (∃ g, A = some ⟨g, 0, none⟩) := by
    obtain ⟨_, inner, ho, _⟩ := HR.out
    rcases ho.2 with ⟨h1, h2⟩ | ⟨g, _, _, h1, _⟩
    · injection h1 with e1 e2 e3
      exact .inl ⟨e1, e2, e3⟩
    · injection h1 with e1 _ _
      exact .inr ⟨g, e1⟩
  have hcc : cap = n ∨ n < cap := by omega
  rcases hcases with ⟨rfl, rfl, rfl⟩ | ⟨g, rfl⟩
  ·
    go_wp2_with (at_builtin; refine Kd.R_append_rows (Kd.raw 2) (w0 := w) base rfl (.tmp 23) (.tmp 24) 34 49 (.agg #[(.string ⟨#[]⟩), (.slice none 0 0)]) 40 rfl Tryd.underlying34 info49 rfl (by decide) (by omega) _ rows [[c0, c1]] (some ⟨gv, 0, none⟩) 1 1 (fun _ => True) (fun _ => False) rfl rfl HR.out HC.out (fun _ _ h => h) (fun _ hk => hk.elim) (fun _ _ => trivial) (Below.refl _ _) HB.out ?aL ?_; (case aL => have := HN.out; omega); intro v9 w9 ho hb hg hat; obtain ⟨A9, c9, e9⟩ := Kd.R_slice ho; subst e9; have HX := AsideIn.mk (And.intro ho (And.intro hg hat)); clear ho hb hg hat)
    go_ret
    refine ⟨.slice A9 (rows ++ [[c0, c1]]).length c9, ?_, HX.out.1, HX.out.2.1, HX.out.2.2⟩
    show Ending.returned (.slice A9 (rows.length + 1) c9) = _
    rw [List.length_append]; rfl

  · rcases hcc with rfl | hcc
    ·
      go_wp2_with (at_builtin; refine Kd.R_append_rows (Kd.raw 2) (w0 := w) base rfl (.tmp 23) (.tmp 24) 34 49 (.agg #[(.string ⟨#[]⟩), (.slice none 0 0)]) 40 rfl Tryd.underlying34 info49 rfl (by decide) (by omega) _ rows [[c0, c1]] (some ⟨gv, 0, none⟩) 1 1 (fun _ => True) (fun _ => False) rfl rfl HR.out HC.out (fun _ _ h => h) (fun _ hk => hk.elim) (fun _ _ => trivial) (Below.refl _ _) HB.out ?aL ?_; (case aL => have := HN.out; omega); intro v9 w9 ho hb hg hat; obtain ⟨A9, c9, e9⟩ := Kd.R_slice ho; subst e9; have HX := AsideIn.mk (And.intro ho (And.intro hg hat)); clear ho hb hg hat)
      go_ret
      refine ⟨.slice A9 (rows ++ [[c0, c1]]).length c9, ?_, HX.out.1, HX.out.2.1, HX.out.2.2⟩
      show Ending.returned (.slice A9 (rows.length + 1) c9) = _
      rw [List.length_append]; rfl

    · have hcne : ¬ cap = n := by omega
      go_wp2_with (at_builtin; refine Kd.R_append_rows (Kd.raw 2) (w0 := w) base rfl (.tmp 23) (.tmp 24) 34 49 (.agg #[(.string ⟨#[]⟩), (.slice none 0 0)]) 40 rfl Tryd.underlying34 info49 rfl (by decide) (by omega) _ rows [[c0, c1]] (some ⟨gv, 0, none⟩) 1 1 (fun _ => True) (fun _ => False) rfl rfl HR.out HC.out (fun _ _ h => h) (fun _ hk => hk.elim) (fun _ _ => trivial) (Below.refl _ _) HB.out ?aL ?_; (case aL => have := HN.out; omega); intro v9 w9 ho hb hg hat; obtain ⟨A9, c9, e9⟩ := Kd.R_slice ho; subst e9; have HX := AsideIn.mk (And.intro ho (And.intro hg hat)); clear ho hb hg hat)
      go_ret
      refine ⟨.slice A9 (rows ++ [[c0, c1]]).length c9, ?_, HX.out.1, HX.out.2.1, HX.out.2.2⟩
      show Ending.returned (.slice A9 (rows.length + 1) c9) = _
      rw [List.length_append]; rfl
set_option maxRecDepth 100000 in
set_option maxHeartbeats 4000000 in
theorem insert_grow.gives (g n i gv : Nat) (cur : Array Value) (c0 c1 : Value) (w : World) (hg : w.heap[g]? = some (.cells cur 49 (0, 0))) (hcs : cur.size = n * 2) (hi : i < n) (hcap : n ≤ 1000) (hv : w.heap[gv]? = some (.cells #[c0, c1] 49 (0, 0))) (hne : gv ≠ g) (h1c : ∀ v ∈ cur.toList, v.oneCell' = true) (h0 : c0.oneCell' = true) (h1 : c1.oneCell' = true) :
    Calls Tryd.prog 42 #[.slice (some ⟨g, 0, none⟩) n n, .int .i64 (i : Int), .slice (some ⟨gv, 0, none⟩) 1 1] w fun e w' => ∃ (G : Nat) (ROW : Array Value), n + 1 ≤ G ∧ G ≤ maxLen ∧ e = .returned (.slice (some ⟨w.heap.size, 0, none⟩) (n + 1) G) ∧ ROW.size = G * 2 ∧ ROW.toList.take ((n + 1) * 2) = cur.toList.take (i * 2) ++ [c0, c1] ++ cur.toList.drop (i * 2) ∧ w'.heap[w.heap.size]? = some (.cells ROW 49 (0, 0)) ∧ Below w.heap.size w w' := by
  have hz2 : ¬ ((i : Int) = (n : Int)) := by omega
  have hz3 : ((i : Int) == (n : Int)) = false := by simp; omega
  obtain ⟨i0, hi0, hzz⟩ := Option.map_eq_some_iff.1 info49
  simp only [Prod.mk.injEq] at hzz
  obtain ⟨hz0, hzs, hzb⟩ := hzz
  have hsz : (Tryd.prog.info? 49).map (·.size) = some 2 := by kernel_rfl
  have hgw : g < w.heap.size := (Array.getElem?_eq_some_iff.1 hg).1
  have hvw : gv < w.heap.size := (Array.getElem?_eq_some_iff.1 hv).1
  obtain ⟨L, hL⟩ : ∃ L, cur.toList = L := ⟨_, rfl⟩
  have hLl : L.length = n * 2 := by rw [← hL, Array.length_toList, hcs]
  have hcell : ∀ (W : World), W.heap[g]? = some (.cells cur 49 (0, 0)) → ∀ k v, L[k]? = some v → W.cell? ⟨g, k, none⟩ = some v := fun W hW k v hk => by
    rw [← hL, Array.getElem?_toList] at hk
    simp [World.cell?, hW, hk]
  have hold : (Builtin.firstCells i0.size i (.slice (some ⟨g, 0, none⟩) i n)).run Tryd.prog w.drew = .ok (L.take (i * 2)).toArray w.drew := by
    rw [hzs]
    exact run_firstCells_some w.drew 2 i ⟨g, 0, none⟩ i n (L.take (i * 2)) (by rw [List.length_take, hLl]; omega) (fun j v hj => by
      rw [Addr.add_lit, Nat.zero_add]
      rw [List.getElem?_take] at hj
      split at hj
      · exact hcell w.drew hg j v hj
      · cases hj)
  obtain ⟨G, hG⟩ : ∃ G, G = grownCap w (n + 1) n 49 := ⟨_, rfl⟩
  obtain ⟨Z, hZ⟩ : ∃ Z : Value, Z = .agg #[(.string ⟨#[]⟩), (.slice none 0 0)] := ⟨_, rfl⟩
  obtain ⟨ROW, hROW⟩ : ∃ ROW : Array Value, ROW = (L.take (i * 2)).toArray ++ Builtin.zeroCells Z.cells (n + 1 - i) ++ Builtin.zeroCells Z.cells (G - (n + 1)) := ⟨_, rfl⟩
  have hkk : (n : Int) + 1 - (i : Int) = ((n + 1 - i : Nat) : Int) := by omega
  have hik : i + (n + 1 - i) = n + 1 := by omega
  have hrz : ∀ ty, (Builtin.append_ #[34, 3] ty #[.slice (some ⟨g, 0, none⟩) i n, .int .i64 ((n : Int) + 1 - (i : Int))]).run Tryd.prog w =
      .ok (.slice (some ⟨w.heap.size, 0, none⟩) (n + 1) G) (w.drew.alloc (.cells ROW 49)) := fun ty => by
    have h := Lib.run_append_grow_zeros w 34 3 ty 49 i0 _ .i64 .i64 Tryd.underlying34 Tryd.underlying3 hi0 hz0 (some ⟨g, 0, none⟩) i n (L.take (i * 2)) hold (n + 1 - i) (by omega) (by rw [hzs]; omega) (by omega) (by omega) (by rw [hzb]; omega) (by rw [hzb, hik]; exact growslice_fits (by omega) (by omega))
    rw [hik] at h
    rw [hkk, hROW, hG, hZ]
    exact h
  have hGn : n + 1 ≤ G := by rw [hG]; exact grownCap_ge w _ _ _
  have hGm : G ≤ maxLen := by
    have := grownCap_le_maxLen w (n + 1) n 49 (by unfold maxLen; omega)
    rwa [← hG] at this
  have hG63 : G ≤ 9223372036854775807 := by unfold maxLen at hGm; omega
  have hZc : Z.cells.size = 2 := by rw [hZ]; rfl
  have hRs : ROW.size = G * 2 := by
    rw [hROW]
    simp [Builtin.zeroCells, hLl, hZc]
    omega
  have hRt : ROW.toList.take (i * 2) = L.take (i * 2) := by
    rw [hROW]
    simp only [Array.toList_append, List.append_assoc]
    rw [List.take_append_of_le_length (by rw [List.length_take, hLl]; omega), List.take_of_length_le (by rw [List.length_take, hLl]; omega)]
  obtain ⟨R2, hR2⟩ : ∃ R2 : Array Value, R2 = (ROW.toList.take (i * 2) ++ [c0, c1] ++ ROW.toList.drop (i * 2 + 2)).toArray := ⟨_, rfl⟩
  obtain ⟨R3, hR3⟩ : ∃ R3 : Array Value, R3 = (R2.toList.take ((i + 1) * 2) ++ L.drop (i * 2) ++ R2.toList.drop ((i + 1) * 2 + (L.drop (i * 2)).length)).toArray := ⟨_, rfl⟩
  have hs2 : R2.size = G * 2 := by rw [hR2]; simp [hRs]; omega
  have hs3 : R3.size = G * 2 := by rw [hR3]; simp [hs2, hLl]; omega
  have hR3t : R3.toList.take ((n + 1) * 2) = L.take (i * 2) ++ [c0, c1] ++ L.drop (i * 2) := by
    have e2 : R2.toList.take ((i + 1) * 2) = L.take (i * 2) ++ [c0, c1] := by
      rw [hR2, hRt]
      show (L.take (i * 2) ++ [c0, c1] ++ _).take _ = _
      rw [List.take_append_of_le_length (by simp [hLl]; omega), List.take_of_length_le (by simp [hLl]; omega)]
    rw [hR3, e2]
    show (L.take (i * 2) ++ [c0, c1] ++ L.drop (i * 2) ++ _).take _ = _
    rw [List.take_append_of_le_length (by simp [hLl]; omega), List.take_of_length_le (by simp [hLl]; omega)]
  obtain ⟨N, hN⟩ : ∃ N, N = w.heap.size := ⟨_, rfl⟩
  rw [← hN] at hrz ⊢
  have hcpA : ∀ (W : World), W.heap[N]? = some (.cells ROW 49 (0, 0)) → W.heap[gv]? = some (.cells #[c0, c1] 49 (0, 0)) → ∀ ty dc, (Builtin.copy_ #[34, 34] ty #[.slice (some ⟨N, i * 2, none⟩) (n + 1 - i) dc, .slice (some ⟨gv, 0, none⟩) 1 1]).run Tryd.prog W = .ok (goInt (Nat.min 1 (n + 1 - i))) (W.setRow N R2) := fun W hWN hWv ty dc => by
    rw [hR2]
    exact CopyWide.run_copy_wide W _ _ ty 49 2 N (i * 2) _ dc ⟨gv, 0, none⟩ 1 1 ROW 49 [c0, c1] Tryd.underlying34 hsz hWN (by simp only [Nat.min_def, List.length_cons, List.length_nil]; split <;> omega) (fun j v hj => by
        rw [Addr.add_lit]
        match j, hj with
        | 0, hj => simpa [World.cell?, hWv] using hj
        | 1, hj => simpa [World.cell?, hWv] using hj
        | j + 2, hj => simp at hj) (by simp [hRs]; omega) (fun v hv => by simp only [List.mem_cons, List.not_mem_nil, or_false] at hv; rcases hv with rfl | rfl; exact h0; exact h1)
  have hcpB : ∀ (W : World), W.heap[N]? = some (.cells R2 49 (0, 0)) → W.heap[g]? = some (.cells cur 49 (0, 0)) → ∀ ty dc sc, (Builtin.copy_ #[34, 34] ty #[.slice (some ⟨N, (i + 1) * 2, none⟩) (n - i) dc, .slice (some ⟨g, i * 2, none⟩) (n - i) sc]).run Tryd.prog W = .ok (goInt (Nat.min (n - i) (n - i))) (W.setRow N R3) := fun W hWN hWg ty dc sc => by
    rw [hR3]
    exact CopyWide.run_copy_wide W _ _ ty 49 2 N ((i + 1) * 2) _ dc ⟨g, i * 2, none⟩ _ sc R2 49 (L.drop (i * 2)) Tryd.underlying34 hsz hWN (by simp only [Nat.min_def, List.length_drop, hLl]; split <;> omega) (fun j v hj => by
        rw [Addr.add_lit]
        rw [List.getElem?_drop] at hj
        exact hcell W hWg _ v hj) (by rw [List.length_drop, hLl, hs2]; omega) (fun v hv => h1c v (by rw [hL]; exact List.mem_of_mem_drop hv))
  have hWN : (w.drew.alloc (.cells ROW 49)).heap[N]? = some (.cells ROW 49 (0, 0)) := by rw [hN]; exact heap_alloc_new w.drew _
  have hWv : (w.drew.alloc (.cells ROW 49)).heap[gv]? = some (.cells #[c0, c1] 49 (0, 0)) := ((Below.refl w.heap.size w).drew.alloc (Nat.le_refl _) _).block gv hvw |>.trans hv
  have hWg : (w.drew.alloc (.cells ROW 49)).heap[g]? = some (.cells cur 49 (0, 0)) := ((Below.refl w.heap.size w).drew.alloc (Nat.le_refl _) _).block g hgw |>.trans hg
  have hWB : Below w.heap.size w (w.drew.alloc (.cells ROW 49)) := (Below.refl w.heap.size w).drew.alloc (Nat.le_refl _) _
  have hW2 := setRow_heap _ N ROW R2 49 (0, 0) hWN
  have hset : ∀ (W : World) (r : Array Value) (k : Nat), k ≠ N → (W.setRow N r).heap[k]? = W.heap[k]? := fun W r k hk => by
    simp only [World.setRow, Array.getElem?_modify, if_neg (Ne.symm hk)]
  have hW2g := (hset (w.drew.alloc (.cells ROW 49)) R2 g (by omega)).trans hWg
  have hB2 : ∀ (W : World) (r : Array Value), Below w.heap.size w W → Below w.heap.size w (W.setRow N r) := fun W r hW => ⟨hW.os, hW.tape, hW.output, by simp [World.setRow]; exact hW.size, fun k hk => (hset W r k (by omega)).trans (hW.block k hk)⟩
  obtain ⟨W1, hW1⟩ : ∃ W1, w.drew.alloc (.cells ROW 49) = W1 := ⟨_, rfl⟩
  rw [hW1] at hWN hWv hWB hW2 hW2g
  simp only [hW1] at hrz
  have hgi : ¬ (G = i) := by omega
  have hgi1 : ¬ (G = i + 1) := by omega
  have hni : ¬ (n = i) := by omega
  have hbx : (0 : Int) ≤ (i : Int) + 1 := by omega
  have htn : ((i : Int) + 1).toNat = i + 1 := by omega
  have hw1 : IntKind.i64.wrap ((i : Int) + 1) = (i : Int) + 1 := by rw [IntKind.wrap_i64]; omega
  have hin : i ≤ n := by omega
  have hb3 : (i : Int) ≤ (n : Int) + 1 := by omega
  have mixed : Tryd.prog.follows Departure.mixedOrders = true := by kernel_rfl
  have HROW := AsideIn.mk (And.intro hR3t (And.intro hs3 hB2))
  have HLL := AsideIn.mk hL
  have HNN := AsideIn.mk hN
  clear hR3t hs3 hB2 hkk hik hold hROW hG hRs hRt hR2 hR3 hs2 hLl hL hW1 hset hZ hZc hN hWg hcs hg hv hcell
  go_enter Tryd.func42, Tryd.ntmps42
  go_wp2_with (first
    | (at_builtin; refine Lib.wpList_append_run _ rfl _ _ _ _ rfl _ _ rfl rfl _ _ (hrz _) ?_)
    | (at_builtin; refine Go.Proofs.wpList_copy_runI _ rfl _ _ 34 34 rfl _ _ rfl rfl (hcpA _ hWN hWv _ _) ?_))
  have hcpC : (Builtin.copy_ #[34, 34] 3 #[.slice (some ⟨N, (i + 1) * 2, none⟩) (n - i) (G - (i + 1)), .slice (some ⟨g, i * 2, none⟩) (n - i) (n - i)]).run Tryd.prog (W1.setRow N R2).drew = .ok (goInt (Nat.min (n - i) (n - i))) ((W1.setRow N R2).drew.setRow N R3) := hcpB ((W1.setRow N R2).drew) hW2 hW2g _ _ _
  go_region_law_o (refine Go.Proofs.step_copy_runI rfl _ _ 34 34 rfl (.slice (some ⟨N, (i + 1) * 2, none⟩) (n - i) (G - (i + 1))) (.slice (some ⟨g, i * 2, none⟩) (n - i) (n - i)) (by simp [Act.eval, Act.put]) (by simp [Act.eval, Act.put]) hcpC ?_)
  go_wp2
  go_ret
  refine ⟨G, R3, hGn, hGm, rfl, HROW.out.2.1, ?_, setRow_heap _ N R2 R3 49 (0, 0) hW2, ?_⟩
  · rw [HLL.out]; exact HROW.out.1
  · have h := HROW.out.2.2 _ R3 (HROW.out.2.2 _ R2 hWB).drew
    rwa [← HNN.out] at h
theorem flat2_take : ∀ (rows : List (List Value)) (i : Nat), (∀ r ∈ rows, r.length = 2) → (rows.take i).flatten = rows.flatten.take (i * 2)
  | [], i, _ => by simp
  | r :: rs, 0, _ => by simp
  | r :: rs, i + 1, h => by
    have h2 := h r List.mem_cons_self
    rw [List.take_succ_cons, List.flatten_cons, List.flatten_cons, flat2_take rs i (fun x hx => h x (List.mem_cons_of_mem _ hx)), List.take_append, h2, List.take_of_length_le (by omega : r.length ≤ (i + 1) * 2)]
    congr 2
    omega
theorem flat2_drop : ∀ (rows : List (List Value)) (i : Nat), (∀ r ∈ rows, r.length = 2) → (rows.drop i).flatten = rows.flatten.drop (i * 2)
  | [], i, _ => by simp
  | r :: rs, 0, _ => by simp
  | r :: rs, i + 1, h => by
    have h2 := h r List.mem_cons_self
    rw [List.drop_succ_cons, List.flatten_cons, flat2_drop rs i (fun x hx => h x (List.mem_cons_of_mem _ hx)), List.drop_append, h2, List.drop_of_length_le (by omega : r.length ≤ (i + 1) * 2), List.nil_append]
    congr 1
    omega
theorem flat2_len : ∀ (rows : List (List Value)), (∀ r ∈ rows, r.length = 2) → rows.flatten.length = rows.length * 2
  | [], _ => by simp
  | r :: rs, h => by
    rw [List.flatten_cons, List.length_append, flat2_len rs (fun x hx => h x (List.mem_cons_of_mem _ hx)), h r List.mem_cons_self, List.length_cons]
    omega
theorem raw_of : ∀ (rows : List (List Value)) (inner : List Value), Reps (fun x cs => cs = x ∧ cs.length = 2 ∧ ∀ u ∈ cs, u.oneCell' = true) 2 rows inner → inner = rows.flatten ∧ ∀ r ∈ rows, r.length = 2 ∧ ∀ u ∈ r, u.oneCell' = true
  | [], inner, h => ⟨by have := h.1; simpa using this, by simp⟩
  | r :: rs, inner, h => by
    have h0 := h.2 0 r rfl
    have hl := h.1
    rw [List.length_cons] at hl
    have ht : Reps (fun x cs => cs = x ∧ cs.length = 2 ∧ ∀ u ∈ cs, u.oneCell' = true) 2 rs (inner.drop 2) := ⟨by rw [List.length_drop, hl]; omega, fun j p hj => by
      have h3 := h.2 (j + 1) p (by simpa using hj)
      rw [List.drop_drop, show 2 + j * 2 = (j + 1) * 2 by omega]
      exact h3⟩
    obtain ⟨e, hr⟩ := raw_of rs _ ht
    obtain ⟨h1, h2, h3⟩ := h0
    rw [Nat.zero_mul, List.drop_zero] at h1 h2 h3
    refine ⟨by rw [List.flatten_cons, ← e, ← h1, List.take_append_drop], fun x hx => ?_⟩
    rcases List.mem_cons.1 hx with rfl | hx
    · rw [← h1]; exact ⟨h2, h3⟩
    · exact hr x hx
theorem of_raw (rows : List (List Value)) (h : ∀ r ∈ rows, r.length = 2 ∧ ∀ u ∈ r, u.oneCell' = true) : Reps (fun x cs => cs = x ∧ cs.length = 2 ∧ ∀ u ∈ cs, u.oneCell' = true) 2 rows rows.flatten := by
  refine ⟨flat2_len rows (fun r hr => (h r hr).1), fun j p hj => ?_⟩
  have hm := List.mem_of_getElem? hj
  have e : (rows.flatten.drop (j * 2)).take 2 = p := by
    rw [← flat2_drop rows j (fun r hr => (h r hr).1)]
    obtain ⟨hlt, he⟩ := List.getElem?_eq_some_iff.1 hj
    rw [List.drop_eq_getElem_cons hlt, he, List.flatten_cons, List.take_append_of_le_length (by rw [(h p hm).1]; omega), List.take_of_length_le (by rw [(h p hm).1]; omega)]
  exact ⟨e, by rw [e]; exact (h p hm).1, by rw [e]; exact (h p hm).2⟩
theorem of_block {w : World} {base e g n cap : Nat} {cur : Array Value} {rows : List (List Value)} (hb : base ≤ g) (hg : w.heap[g]? = some (.cells cur e (0, 0))) (hn : n ≤ cap) (hm : cap ≤ maxLen) (hs : cur.size = cap * 2) (hl : rows.length = n)
    (ht : cur.toList.take (n * 2) = rows.flatten) (h : ∀ r ∈ rows, r.length = 2 ∧ ∀ u ∈ r, u.oneCell' = true) : (Kd.raw 2).R e w base (fun _ => True) (.slice (some ⟨g, 0, none⟩) n cap) rows :=
  ⟨fun _ _ => trivial, rows.flatten, ⟨flat2_len rows (fun r hr => (h r hr).1), .inr ⟨g, cap, cur, by rw [hl], hb, hg, by rw [hl]; exact hn, hm, hs, by rw [hl]; exact ht⟩⟩, of_raw rows h⟩
set_option maxRecDepth 100000 in
theorem insert.gives (A : Option Addr) (n cap gv base i : Nat) (rows : List (List Value)) (c0 c1 : Value) (w : World) (hR : (Kd.raw 2).R 49 w base (fun _ => True) (.slice A n cap) rows) (hv : w.heap[gv]? = some (.cells #[c0, c1] 49 (0, 0))) (hne : some gv ≠ (Value.slice A n cap).ownBlock) (h0 : c0.oneCell' = true) (h1 : c1.oneCell' = true) (hb : base ≤ w.heap.size) (hn : n ≤ 1000) (hi : i ≤ n) :
    Calls Tryd.prog 42 #[.slice A n cap, .int .i64 (i : Int), .slice (some ⟨gv, 0, none⟩) 1 1] w fun e w' => ∃ v, e = .returned v ∧ (Kd.raw 2).R 49 w' base (fun _ => True) v (rows.take i ++ [c0, c1] :: rows.drop i) ∧ w.grownBy w' (Value.slice A n cap).ownBlock ∧ (v.ownBlock = (Value.slice A n cap).ownBlock ∨ ∃ b, v.ownBlock = some b ∧ w.heap.size ≤ b) := by
  have hvw : gv < w.heap.size := (Array.getElem?_eq_some_iff.1 hv).1
  have hnr := (Kd.R_reads' hR).1
  rcases Nat.lt_or_ge i n with hlt | hge
  · obtain ⟨hown, inner, ho, hr⟩ := hR
    obtain ⟨he, hrows⟩ := raw_of rows inner hr
    subst he
    have hrl : ∀ r ∈ rows, r.length = 2 := fun r hr => (hrows r hr).1
    have hnew : ∀ r ∈ rows.take i ++ [c0, c1] :: rows.drop i, r.length = 2 ∧ ∀ u ∈ r, u.oneCell' = true := by
      intro r hr
      rcases List.mem_append.1 hr with hr | hr
      · exact hrows r (List.mem_of_mem_take hr)
      · rcases List.mem_cons.1 hr with rfl | hr
        · exact ⟨rfl, fun u hu => by simp only [List.mem_cons, List.not_mem_nil, or_false] at hu; rcases hu with rfl | rfl; exact h0; exact h1⟩
        · exact hrows r (List.mem_of_mem_drop hr)
    have hnl : (rows.take i ++ [c0, c1] :: rows.drop i).length = n + 1 := by simp; omega
    have hnf : (rows.take i ++ [c0, c1] :: rows.drop i).flatten = rows.flatten.take (i * 2) ++ [c0, c1] ++ rows.flatten.drop (i * 2) := by
      rw [List.flatten_append, List.flatten_cons, flat2_take rows i hrl, flat2_drop rows i hrl, List.append_assoc]
    rcases ho.2 with ⟨e1, e2⟩ | ⟨g, cap', cur, e1, hbg, hg, hnc, hcm, hcs, hct⟩
    · injection e1 with _ e3 _
      omega
    · injection e1 with e3 e4 e5
      subst e3 e5
      rw [← hnr] at hnc hct
      have hcs : cur.size = cap * 2 := hcs
      have hct : cur.toList.take (n * 2) = rows.flatten := hct
      have hgw : g < w.heap.size := (Array.getElem?_eq_some_iff.1 hg).1
      have hgne : gv ≠ g := fun h => hne (by rw [h]; rfl)
      have hinl : rows.flatten.length = n * 2 := by rw [flat2_len rows hrl, hnr]
      have h1c : ∀ v ∈ cur.toList.take (n * 2), v.oneCell' = true := fun v hv => by
        rw [hct] at hv
        obtain ⟨r, hr, hv⟩ := List.mem_flatten.1 hv
        exact (hrows r hr).2 v hv
      have hcl : cur.toList.length = cap * 2 := by rw [Array.length_toList, hcs]
      have hdr : (cur.toList.drop (i * 2)).take ((n - i) * 2) = rows.flatten.drop (i * 2) := by rw [← hct, List.drop_take, show n * 2 - i * 2 = (n - i) * 2 by omega]
      have htk : cur.toList.take (i * 2) = rows.flatten.take (i * 2) := by rw [← hct, List.take_take, Nat.min_eq_left (by omega)]
      rcases Nat.lt_or_ge n cap with hroom | hfull
      · refine (insert_room.gives g n cap i gv base cur c0 c1 w hg hcs hlt hroom (by simpa [maxLen] using hcm) hv hgne h1c h0 h1).mono ?_
        rintro e w' ⟨he, rfl⟩
        have e1 : (insR1 cur n i).toList.take (i * 2) = rows.flatten.take (i * 2) := by
          unfold insR1
          rw [List.append_assoc, List.take_append_of_le_length (by rw [List.length_take, hcl]; omega), List.take_take, Nat.min_eq_left (by omega), htk]
        have e2 : (insR1 cur n i).toList.drop (i * 2 + 2) = rows.flatten.drop (i * 2) ++ cur.toList.drop ((i + 1) * 2 + (rows.flatten.drop (i * 2)).length) := by
          unfold insR1
          rw [hdr, List.append_assoc]
          show (cur.toList.take ((i + 1) * 2) ++ _).drop (i * 2 + 2) = _
          rw [List.drop_append, List.drop_of_length_le (by rw [List.length_take, hcl]; omega), List.nil_append, List.length_take, hcl, show i * 2 + 2 - min ((i + 1) * 2) (cap * 2) = 0 by omega, List.drop_zero]
        have hs1 : (insR1 cur n i).size = cap * 2 := by unfold insR1; rw [hdr]; simp [hcs, hinl]; omega
        have hs2 : (insR2 (insR1 cur n i) i c0 c1).size = cap * 2 := by unfold insR2; simp [hs1]; omega
        have hh1 := setRow_heap w.drew g cur (insR1 cur n i) 49 (0, 0) hg
        have hh2 := setRow_heap _ g _ (insR2 (insR1 cur n i) i c0 c1) 49 (0, 0) hh1
        have hset : ∀ (W : World) (r : Array Value) (k : Nat), k ≠ g → (W.setRow g r).heap[k]? = W.heap[k]? := fun W r k hk => by
          simp only [World.setRow, Array.getElem?_modify, if_neg (Ne.symm hk)]
        refine ⟨_, he, of_block hbg hh2 hroom hcm hs2 hnl ?_ hnew, ⟨rfl, rfl, rfl, ?_, fun k hk hne2 => ?_⟩, .inl rfl⟩
        · rw [hnf]
          unfold insR2
          rw [e1, e2]
          show (rows.flatten.take (i * 2) ++ [c0, c1] ++ (rows.flatten.drop (i * 2) ++ _)).take _ = _
          rw [← List.append_assoc, List.take_append_of_le_length (by simp [hinl]; omega), List.take_of_length_le (by simp [hinl]; omega)]
        · simp [World.setRow]
        · have hkg : k ≠ g := fun h => hne2 (by rw [h]; rfl)
          rw [hset _ _ _ hkg, hset _ _ _ hkg]
          rfl
      · obtain rfl : cap = n := by omega
        have hall : cur.toList.take (cap * 2) = cur.toList := List.take_of_length_le (by omega)
        rw [hall] at h1c hct
        refine (insert_grow.gives g cap i gv cur c0 c1 w hg hcs hlt hn hv hgne h1c h0 h1).mono ?_
        rintro e w' ⟨G, ROW, hG1, hG2, he, hRs, hRt, hRh, hB⟩
        refine ⟨_, he, of_block hb hRh hG1 hG2 hRs hnl ?_ hnew, ⟨hB.os, hB.tape, hB.output, hB.size, fun k hk _ => hB.block k hk⟩, .inr ⟨_, rfl, Nat.le_refl _⟩⟩
        rw [hnf, hRt, hct]
  · obtain rfl : i = n := by omega
    have hC : (Kd.raw 2).C w (some ⟨gv, 0, none⟩) 1 [[c0, c1]] := by
      refine ⟨rfl, by decide, fun _ => ⟨_, rfl, fun j p hj => ?_⟩⟩
      match j, hj with
      | 0, hj =>
        injection hj with hj
        subst hj
        refine ⟨[c0, c1], rfl, ⟨rfl, rfl, fun u hu => by simp only [List.mem_cons, List.not_mem_nil, or_false] at hu; rcases hu with rfl | rfl; exact h0; exact h1⟩, fun k u hk => ?_⟩
        rw [Addr.add_lit]
        match k, hk with
        | 0, hk => simpa [World.cell?, hv] using hk
        | 1, hk => simpa [World.cell?, hv] using hk
        | k + 2, hk => simp at hk
      | j + 1, hj => simp at hj
    refine (insert_end.gives A i cap gv base rows c0 c1 w hR hC hb hn).mono ?_
    rintro e w' ⟨v, he, hr, hg, hat⟩
    refine ⟨v, he, ?_, hg, hat⟩
    rw [List.take_of_length_le (by omega), List.drop_of_length_le (by omega)]
    exact hr

end Go.Proofs.YtibmccacebhhkaaDoor.HV

