/- VaultUnpacks: what the claim's theorem reaches of this seat's texts, part 10, put together by this project's own program (bale.py); conditions: those of each theorem. -/
import Derived.Test.YtibmccacebhhkaaDoorVVaultUnpacks5
import Derived.Test.YtibmccacebhhkaaDoorVVaultUnpacks6
import Derived.Test.YtibmccacebhhkaaDoorVVaultUnpacks7
import Derived.Test.YtibmccacebhhkaaDoorVVaultUnpacks8
import Derived.Test.YtibmccacebhhkaaDoorVVaultUnpacks9
import Derived.Shelf.Abstract
import Derived.OwnWalk
import Derived.LoopTactic
import Derived.WalkLawsBesides
namespace Go.Proofs.YtibmccacebhhkaaDoor.HV
open Go.RowKit Go.Proofs.YtibmccacebhhkaaDoorW.PrintWords Go.Proofs.YtibmccacebhhkaaDoorW.PrintLast Go.Proofs.YtibmccacebhhkaaDoorW.PrintMore
attribute [local go_sem] max2_int min2_int max_two min_two max_three min_three max_four min_four   -- for this text's walks alone
set_option linter.unusedVariables false
set_option linter.unusedSimpArgs false

/-! ### vault_open: function 28, by hand -/
structure AsideOp (p : Prop) : Prop where mk :: (out : p)
/-- Whether the first four bytes, so far as they are there, are the magic. -/
def mgB (b : List Int) : Bool := ((⟨#[83, 75, 66, 86]⟩ : ByteArray).extract 0 (b.take 4).length).toList == (strOfNums (b.take 4)).toList
/-- Entries so far, and where the cursor stands. -/
def ents (b : List Int) : Nat → List S67 × (Nat × Bool)
  | 0 => ([], tk b.length (tk b.length (0, false) 4) 1)
  | j + 1 => ((ents b j).1 ++ [enB b (ents b j).2], enS b (ents b j).2)
/-- How many entries are told. -/
def cntK (b : List Int) : Nat := (beL (tkB b (tk b.length (0, false) 4) 1)).toNat
def okAt (l : List S67) (i : Nat) : Bool := namedB (l.getD i z67).f0 && (decide (i = 0) || Op.bytesLess (l.getD (i - 1) z67).f0.toList (l.getD i z67).f0.toList) && decide (i < 100)
def goodE (l : List S67) : Bool := (List.range l.length).all (okAt l)
/-- What opening answers: the entries, the bytes behind, the error. -/
def openS (cs : List Int → Int) (b : List Int) : List S67 × List Int × Int :=
  if mgB b = false then ([], [], 6)
  else if (tk b.length (ents b (cntK b)).2 4).2 = true then ([], [], 3)
  else if beL (tkB b (ents b (cntK b)).2 4) = cs (b.take (ents b (cntK b)).2.1) then (if goodE (ents b (cntK b)).1 = true then ((ents b (cntK b)).1, b.drop (tk b.length (ents b (cntK b)).2 4).1, 0) else ([], [], 2))
  else ([], [], 13)
def OpenPost (A : Option Addr) (w : World) (r : List S67 × List Int × Int) (e : Ending) (w' : World) : Prop :=
  ∃ v A' c', e = .returned (.tuple #[v, .slice A' r.2.1.length c', .int .i64 r.2.2]) ∧ r.2.1.length ≤ c' ∧ Kd.R k67 67 w' w.heap.size (fun _ => True) v r.1 ∧ Kd.C (Kd.int .u8) w A' r.2.1.length r.2.1 ∧ Below w.heap.size w w'
theorem open_err {A : Option Addr} {w w' : World} {x : Int} (h : Below w.heap.size w w') : OpenPost A w ([], [], x) (.returned (.tuple #[.slice none 0 0, .slice none 0 0, .int .i64 x])) w' :=
  ⟨_, none, 0, rfl, Nat.le_refl _, Kd.R_nil _ _ _ _ _, C_none, h⟩
theorem open_ok {A : Option Addr} {w w' : World} {L : List S67} {b : List Int} {a m p : Nat} {v : Value} {A' : Option Addr} {c' : Nat} (hl : (b.drop a).length = m) (hc : m ≤ c') (hr : Kd.R k67 67 w' w.heap.size (fun k => k ≠ p) v L) (hC : Kd.C (Kd.int .u8) w A' m (b.drop a)) (hb : Below w.heap.size w w') : OpenPost A w (L, b.drop a, 0) (.returned (.tuple #[v, .slice A' m c', .int .i64 0])) w' := by
  subst hl
  exact ⟨v, A', c', rfl, hc, Kd.R_mono hr (fun _ _ => trivial), hC, hb⟩
theorem goodE_false {L : List S67} {i : Nat} (hi : i < L.length) (h : okAt L i = false) : goodE L = false := by
  cases hg : goodE L with
  | false => rfl
  | true =>
    unfold goodE at hg
    rw [List.all_eq_true] at hg
    rw [hg i (List.mem_range.2 hi)] at h
    cases h
theorem goodE_true {L : List S67} (h : ∀ t, t < L.length → okAt L t = true) : goodE L = true := by
  unfold goodE
  rw [List.all_eq_true]
  exact fun t ht => h t (List.mem_range.1 ht)
theorem all_step {f : Nat → Bool} {i : Nat} (h : ∀ t, t < i → f t = true) (hi : f i = true) : ∀ t, t < i + 1 → f t = true := fun t ht => by
  by_cases e : t = i
  · rw [e]; exact hi
  · exact h t (by omega)
theorem prefix_mg (b : List Int) : strings_HasPrefix.f ⟨#[83, 75, 66, 86]⟩ (strOfNums (b.take 4)) = some (mgB b) := by
  have hs : (strOfNums (b.take 4)).size = (b.take 4).length := by simp [strOfNums, ByteArray.size]
  have h4 : (b.take 4).length ≤ 4 := by rw [List.length_take]; omega
  unfold strings_HasPrefix.f stringslite_HasPrefix.f
  rw [hs, if_pos (show ((⟨#[83, 75, 66, 86]⟩ : ByteArray).size : Int) ≥ ((b.take 4).length : Int) from by show (4 : Int) ≥ _; omega), if_pos (by omega), if_pos (show ((b.take 4).length : Int) ≤ ((⟨#[83, 75, 66, 86]⟩ : ByteArray).size : Int) from by show _ ≤ (4 : Int); omega)]
  rfl
set_option maxRecDepth 100000 in
set_option maxHeartbeats 2000000 in
theorem vault_open.magic (A : Option Addr) (b : List Int) (n c : Nat) (w : World) (hc : n ≤ c) (hR : Kd.C (Kd.int .u8) w A n b) (hm : mgB b = false) :
    Calls Tryd.prog 28 #[.slice A n c] w fun e w' => e = .returned (.tuple #[.slice none 0 0, .slice none 0 0, .int .i64 6]) ∧ Below w.heap.size w w' := by
  have hbn : b.length = n := hR.1
  have hp := prefix_mg b
  rw [hm] at hp
  have HP := AsideOp.mk (fun W => strings_HasPrefix.calls ⟨#[83, 75, 66, 86]⟩ (strOfNums (b.take 4)) false W hp)
  by_cases h4 : 4 < n
  · have hcv := Kd.C_string (P := Tryd.prog) (c := c) Tryd.underlying22 Tryd.underlying5 Tryd.underlying9 (C_take hR 4 (by omega))
    have h4i : (4 : Int) < (n : Int) := by omega
    have hqc : (4 : Int) ≤ (c : Int) := by omega
    clear hp hm hbn hR h4
    go_enter Tryd.func28, Tryd.ntmps28
    go_wp2_with (go_at_call 47; (with_reducible refine (HP.out _).mono ?_); rintro e w1 ⟨rfl, hd⟩)
    go_ret3
    exact ⟨rfl, hd.below⟩
  · have ht : b.take 4 = b.take n := by rw [List.take_of_length_le (by omega), List.take_of_length_le (by omega)]
    rw [ht] at HP
    have hcv := Kd.C_string (P := Tryd.prog) (c := c) Tryd.underlying22 Tryd.underlying5 Tryd.underlying9 (C_take hR n (by omega))
    have h4i : ¬ (4 : Int) < (n : Int) := by omega
    have hqc : (n : Int) ≤ (c : Int) := by omega
    clear hp hm hbn hR h4 ht
    go_enter Tryd.func28, Tryd.ntmps28
    go_wp2_with (go_at_call 47; (with_reducible refine (HP.out _).mono ?_); rintro e w1 ⟨rfl, hd⟩)
    go_ret3
    exact ⟨rfl, hd.below⟩

theorem info_entry : (Tryd.prog.info? 67).map (fun i => (i.zero, i.size, i.bytes)) = some (some (.agg #[(.string ⟨#[]⟩), (.int .i64 0), (.int .i64 0)]), 3, 32) := by kernel_rfl
theorem ents_len (b : List Int) : ∀ j, (ents b j).1.length = j
  | 0 => rfl
  | j + 1 => by show ((ents b j).1 ++ [enB b (ents b j).2]).length = j + 1; rw [List.length_append, ents_len b j]; rfl
theorem ents_le (b : List Int) : ∀ j, (ents b j).2.1 ≤ b.length
  | 0 => tk_le _ (tk_le _ (Nat.zero_le _))
  | j + 1 => tk_le _ (tk_le _ (tk_le _ (tk_le _ (ents_le b j))))
theorem cntK_le (b : List Int) (hby : ∀ x ∈ b, 0 ≤ x ∧ x < 256) : cntK b ≤ 255 := by
  have h := beL_range (tkB b (tk b.length (0, false) 4) 1) (fun x hx => hby x (tkB_mem hx))
  have hl := tkB_le b (tk b.length (0, false) 4) 1
  unfold cntK
  have : (tkB b (tk b.length (0, false) 4) 1).length = 0 ∨ (tkB b (tk b.length (0, false) 4) 1).length = 1 := by omega
  rcases this with h1 | h1 <;> rw [h1] at h <;> omega
/-- What is kept while an entry is looked at. -/
structure OpSt (w : World) (p : Nat) (A : Option Addr) (n c : Nat) (s : Nat × Bool) (v : Value) (L : List S67) (W : World) : Prop where
  bel : Below w.heap.size w W
  cur : CuAt W p A n c s.1 s.2
  row : Kd.R k67 67 W w.heap.size (fun k => k ≠ p) v L
theorem OpSt.below {w : World} {p : Nat} {A : Option Addr} {n c : Nat} {s : Nat × Bool} {v : Value} {L : List S67} {W W' : World} (h : OpSt w p A n c s v L W) (hb : Below W.heap.size W W') : OpSt w p A n c s v L W' :=
  ⟨below_step h.bel hb, blk_below h.cur hb, Kd.R_below h.row hb⟩
theorem OpSt.drew {w : World} {p : Nat} {A : Option Addr} {n c : Nat} {s : Nat × Bool} {v : Value} {L : List S67} {W : World} (h : OpSt w p A n c s v L W) : OpSt w p A n c s v L W.drew :=
  ⟨below_drew h.bel, blk_drew h.cur, Kd.R_drew h.row⟩
theorem open_box {w0 W : World} {A : Option Addr} {n c : Nat} (hb : Below w0.heap.size w0 W) : CuAt (W.alloc (.cells #[.slice A n c, .int .i64 0, .bool false] 90)) W.heap.size A n c 0 false ∧ Below w0.heap.size w0 (W.alloc (.cells #[.slice A n c, .int .i64 0, .bool false] 90)) ∧ w0.heap.size ≤ W.heap.size :=
  ⟨blk_new W _, below_alloc hb _, hb.size⟩
set_option maxRecDepth 100000 in
set_option maxHeartbeats 4000000 in
theorem vault_open.main (K : Nat) (cs : List Int → Int) (A : Option Addr) (b : List Int) (n c : Nat) (w : World) (hG : GL w) (hc : n ≤ c) (hR : Kd.C (Kd.int .u8) w A n b) (hby : ∀ x ∈ b, 0 ≤ x ∧ x < 256) (hcs : ∀ m, m ≤ n → toll_Sum.f K (b.take m) = some (cs (b.take m)) ∧ 0 ≤ cs (b.take m) ∧ cs (b.take m) < 4294967296) (hm : mgB b = true) :
    Calls Tryd.prog 28 #[.slice A n c] w (OpenPost A w (openS cs b)) := by
  have hbn : b.length = n := hR.1
  have hp := prefix_mg b
  rw [hm] at hp
  have HP := AsideOp.mk (fun W => strings_HasPrefix.calls ⟨#[83, 75, 66, 86]⟩ (strOfNums (b.take 4)) true W hp)
  have HR := AsideOp.mk hR
  have HBY := AsideOp.mk hby
  have HCS := AsideOp.mk hcs
  have HG := AsideOp.mk hG
  have HN := AsideOp.mk hbn
  have HM := AsideOp.mk hm
  have HT : AsideOp (∀ (p : Nat) (W : World), CuAt W p A n c 0 false → w.heap.size ≤ p → Calls Tryd.prog 48 #[.pointer (some ⟨p, 0, none⟩), .int .i64 4] W fun e w' => ∃ A', e = .returned (.slice A' (tkB b (0, false) 4).length (tkB b (0, false) 4).length) ∧ (∀ W, Kd.C (Kd.int .u8) W A n b → Kd.C (Kd.int .u8) W A' (tkB b (0, false) 4).length (tkB b (0, false) 4)) ∧ CuAt w' p A n c (tk n (0, false) 4).1 (tk n (0, false) 4).2 ∧ Below w.heap.size W w' ∧ KeepBut W w' p none) :=
    AsideOp.mk (fun p W hC hp => vault_take.gives p A b n c (0, false) 4 w.heap.size W hC hp hc hR.2.1 (Nat.zero_le _) hbn)
  have hs1 := tk_le (n := n) (s := (0, false)) 4 (Nat.zero_le _)
  have hK : beL (tkB b (tk n (0, false) 4) 1) = ((cntK b : Nat) : Int) := by
    have h0 : 0 ≤ beL (tkB b (tk n (0, false) 4) 1) := (beL_range _ (fun x hx => hby x (tkB_mem hx))).1
    unfold cntK
    rw [hbn]
    omega
  have HU : AsideOp (∀ (p : Nat) (W : World), CuAt W p A n c (tk n (0, false) 4).1 (tk n (0, false) 4).2 → w.heap.size ≤ p → Below w.heap.size w W → Calls Tryd.prog 49 #[.pointer (some ⟨p, 0, none⟩), .int .i64 1] W fun e w' => e = .returned (.int .i64 (cntK b : Nat)) ∧ CuAt w' p A n c (ents b 0).2.1 (ents b 0).2.2 ∧ Below w.heap.size W w' ∧ KeepBut W w' p none) :=
    AsideOp.mk (fun p W hC hp hW => by
      have h := vault_number.gives p A b n c (tk n (0, false) 4) 1 w W hC hp hc hs1 hR hW hby (by omega)
      rw [hK] at h
      simp only [ents, hbn]
      exact h)
  clear hp hR hby hcs hG hbn hm hs1 hK
  by_cases h4 : 4 < n
  case' pos =>
    have hcv := Kd.C_string (P := Tryd.prog) (c := c) Tryd.underlying22 Tryd.underlying5 Tryd.underlying9 (C_take HR.out 4 (by omega))
    have h4i : (4 : Int) < (n : Int) := by omega
    have hqc : (4 : Int) ≤ (c : Int) := by omega
    clear h4
    go_enter Tryd.func28, Tryd.ntmps28
    go_upto_region 3 with (go_at_call 47; (with_reducible refine (HP.out _).mono ?_); rintro e w1 ⟨rfl, hd⟩; have HB1 := AsideOp.mk hd.below; clear hd)
    clear hcv h4i hqc
  case' neg =>
    have ht : b.take 4 = b.take n := by have := HN.out; rw [List.take_of_length_le (by omega), List.take_of_length_le (by omega)]
    rw [ht] at HP
    have hcv := Kd.C_string (P := Tryd.prog) (c := c) Tryd.underlying22 Tryd.underlying5 Tryd.underlying9 (C_take HR.out n (Nat.le_refl _))
    have h4i : ¬ (4 : Int) < (n : Int) := by omega
    have hqc : (n : Int) ≤ (c : Int) := by omega
    clear h4 ht
    go_enter Tryd.func28, Tryd.ntmps28
    go_upto_region 3 with (go_at_call 47; (with_reducible refine (HP.out _).mono ?_); rintro e w1 ⟨rfl, hd⟩; have HB1 := AsideOp.mk hd.below; clear hd)
    clear hcv h4i hqc
  all_goals
    go_upto_region 4 with (fail)
    obtain ⟨hC4, hB4, hp4⟩ := open_box (A := A) (n := n) (c := c) HB1.out
    generalize w1.alloc (.cells #[.slice A n c, .int .i64 0, .bool false] 90) = w4 at hC4 hB4 ⊢
    generalize w1.heap.size = p at hC4 hp4 ⊢
    have HC4 := AsideOp.mk hC4
    have HB4 := AsideOp.mk hB4
    have HP4 := AsideOp.mk hp4
    clear hC4 hB4 hp4 HB1
    go_wp2_with (first | (go_at_call 48; (with_reducible refine (HT.out _ _ HC4.out HP4.out).mono ?_); rintro e w5 ⟨A5, rfl, _, hC, hb, hk⟩; have HC5 := AsideOp.mk hC; have HB5 := AsideOp.mk (HB4.out.trans hb); clear hC hb hk) | (go_at_call 49; (with_reducible refine (HU.out _ _ HC5.out HP4.out HB5.out).mono ?_); rintro e w6 ⟨rfl, hC, hb, hk⟩; have HC6 := AsideOp.mk hC; have HB6 := AsideOp.mk (HB5.out.trans hb); clear hC hb hk))
    obtain ⟨M, hM⟩ : ∃ M, M = cntK b := ⟨_, rfl⟩
    rw [← hM]
    have HMM := AsideOp.mk hM
    have HM2 := AsideOp.mk (show M ≤ 255 by rw [hM]; exact cntK_le b HBY.out)
    clear hM
    go_loopw [6, 26] (fun v i wr => ∃ j : Nat, j ≤ M ∧ i = .int .i64 j ∧ AsideOp (CuAt wr p A n c (ents b j).2.1 (ents b j).2.2) ∧ AsideOp (Kd.R k67 67 wr w.heap.size (fun k => k ≠ p) v (ents b j).1) ∧ AsideOp (Below w.heap.size w wr)) (fun _ i _ => M - (intOf i).toNat)
    case atStart => exact ⟨0, Nat.zero_le _, rfl, HC6, ⟨Kd.R_nil _ _ _ _ _⟩, HB6⟩
    case round =>
      obtain ⟨j, hj, rfl, HC7, HO7, HB7⟩ := hrel
      by_cases hlt : j < M
      · have HE := AsideOp.mk (vault_entry.gives p A b n c (ents b j).2 w wr HC7.out HP4.out hc (by have := ents_le b j; rw [HN.out] at this; exact this) HR.out HB7.out HBY.out)
        have hM3 : M ≤ 255 := HM2.out
        have HL := AsideOp.mk (ents_len b j)
        go_wp2_with (first | (go_at_call 50; (with_reducible refine (HE.out).mono ?_); rintro e w8 ⟨rfl, hC, hb, hk⟩; have HC8 := AsideOp.mk hC; have HB8 := AsideOp.mk (HB7.out.trans hb); have HO8 := AsideOp.mk (Kd.R_step HO7.out (fun g hg hl => hk g hl hg)); clear hC hb hk) | (at_builtin; go_loud (refine Kd.R_append k67 (w0 := w) w.heap.size rfl (.tmp 28) (.tmp 31) 63 67 (.agg #[(.string ⟨#[]⟩), (.int .i64 0), (.int .i64 0)]) 32 rfl Tryd.underlying63 info_entry rfl (by decide) (by omega) u6 (ents b j).1 (enB b (ents b j).2) [.string (enB b (ents b j).2).f0, .int .i64 (enB b (ents b j).2).f1, .int .i64 (enB b (ents b j).2).f2] (fun k => k ≠ p) (fun _ => False) rfl rfl ?aP (fun _ hk => hk.elim) ?aF HO8.out HB8.out HB8.out.size ?aL ?_); (case aP => exact k67_mkM _ _ _ _); (case aF => intro q hq; have := cu_lt HC8.out; omega); (case aL => rw [HL.out]; omega); intro v9 w9 ho hb hg _; have HO9 := AsideOp.mk ho; have HB9 := AsideOp.mk hb; have HC9 := AsideOp.mk (blk_grown HC8.out hg (Kd.R_away HO8.out (fun _ h => h))); clear ho hb hg))
        go_roundw
        case rel => exact ⟨j + 1, by omega, by go_num, HC9, HO9, HB9⟩
        case measure => simp [intOf]; omega
      · obtain rfl : j = M := by omega
        clear hj hlt
        have hopen : openS cs b = if (tk n (ents b j).2 4).2 = true then ([], [], 3) else if beL (tkB b (ents b j).2 4) = cs (b.take (ents b j).2.1) then (if goodE (ents b j).1 = true then ((ents b j).1, b.drop (tk n (ents b j).2 4).1, 0) else ([], [], 2)) else ([], [], 13) := by
          unfold openS
          rw [HM.out, if_neg (by decide), HN.out, ← HMM.out]
        have hsl : (ents b j).2.1 ≤ n := by have := ents_le b j; rw [HN.out] at this; exact this
        have hLl : (ents b j).1.length = j := ents_len b j
        generalize (ents b j).1 = L at *
        generalize (ents b j).2 = s at *
        have HOP := AsideOp.mk hopen
        have HSL := AsideOp.mk hsl
        have HLL := AsideOp.mk hLl
        have HU2 : AsideOp (∀ W : World, CuAt W p A n c s.1 s.2 → Below w.heap.size w W → Calls Tryd.prog 49 #[.pointer (some ⟨p, 0, none⟩), .int .i64 4] W fun e w' => e = .returned (.int .i64 (beL (tkB b s 4))) ∧ CuAt w' p A n c (tk n s 4).1 (tk n s 4).2 ∧ Below w.heap.size W w' ∧ KeepBut W w' p none) := AsideOp.mk (fun (W : World) (hC : CuAt W p A n c s.1 s.2) (hW : Below w.heap.size w W) => vault_number.gives p A b n c s 4 w W hC HP4.out hc hsl HR.out hW HBY.out (by omega))
        have hs4 := tk_le (n := n) (s := s) 4 hsl
        obtain ⟨e0, e1, e2, _, _⟩ := cu_cells HC7.out
        obtain ⟨a, q⟩ := s
        have hac : (a : Int) ≤ (c : Int) := by have : a ≤ n := hsl; omega
        have ha0 : (0 : Int) ≤ (a : Int) := by omega
        clear hopen hsl hLl HT HU HC4 HB4 HC5 HB5 HC6 HB6
        go_upto_region 10 with (fail)
        go_quiet (fail)
        have HC10 := AsideOp.mk (show CuAt (wr.drewN nq) p A n c a q from blk_drewN HC7.out nq)
        have HB10 := AsideOp.mk (pw_below_drewN HB7.out nq)
        have HO10 := AsideOp.mk (Kd.R_drewN HO7.out nq)
        generalize wr.drewN nq = w10 at HC10 HB10 HO10 ⊢
        clear HC7 HB7 HO7 e0 e1 e2
        go_upto_region 12 with (go_at_call 49; (with_reducible refine (HU2.out _ HC10.out HB10.out).mono ?_); rintro e w11 ⟨rfl, hC, hb, hk⟩; have HC11 := AsideOp.mk hC; have HB11 := AsideOp.mk (HB10.out.trans hb); have HO11 := AsideOp.mk (Kd.R_keep HO10.out hk (fun _ h => h)); clear hC hb hk)
        obtain ⟨hCS, hy0, hy1⟩ := HCS.out a HSL.out
        have HSUM := AsideOp.mk (fun (W : World) (hW : Below w.heap.size w W) => toll_Sum.calls K A c (b.take a) (cs (b.take a)) W (by have h := C_take (Kd.C_below HR.out hW) a HSL.out; rwa [show (b.take a).length = a by rw [List.length_take, HN.out]; have : a ≤ n := HSL.out; omega]) (by rw [List.length_take]; omega) (HG.out.of_below hW) hCS)
        have hlt : (b.take a).length = a := by rw [List.length_take, HN.out]; have : a ≤ n := HSL.out; omega
        rw [hlt] at HSUM
        clear hlt hCS HU2 HC10 HB10 HO10
        obtain ⟨e0, e1, e2, _, _⟩ := cu_cells HC11.out
        cases hqq : (tk n (a, q) 4).2 with
        | true =>
          rw [hqq] at e2
          have HQ := AsideOp.mk hqq
          clear hqq
          go_wp2_with (fail)
          go_ret3
          rw [HOP.out, if_pos HQ.out]
          exact open_err HB11.out
        | false =>
          rw [hqq] at e2
          have HQ := AsideOp.mk hqq
          clear hqq
          by_cases hxy : beL (tkB b (a, q) 4) = cs (b.take a)
          · have hne : (beL (tkB b (a, q) 4) == cs (b.take a)) = true := beq_iff_eq.mpr hxy
            have hne2 : (beL (tkB b (a, q) 4) != cs (b.take a)) = false := bne_eq_false_iff_eq.mpr hxy
            have HXY := AsideOp.mk hxy
            clear hxy
            go_upto_region 16 with (go_at_call 31; (with_reducible refine (HSUM.out _ HB11.out).mono ?_); rintro e w12 ⟨rfl, hb⟩; have HB12 := AsideOp.mk (below_step HB11.out hb); have HO12 := AsideOp.mk (Kd.R_below HO11.out hb); have HC12 := AsideOp.mk (blk_below HC11.out hb); clear hb)
            clear hne hne2 hy0 hy1 HSUM HB11 HO11 HC11 e0 e1 e2
            obtain ⟨A6, c6, e6⟩ := Kd.R_slice HO12.out
            rw [HLL.out] at e6
            subst e6
            go_wp2_with (fail)
            go_loopw [58] (fun v wr => ∃ i : Nat, i ≤ j ∧ v = .int .i64 i ∧ AsideOp (∀ t, t < i → okAt L t = true) ∧ AsideOp (Below w.heap.size w wr) ∧ AsideOp (CuAt wr p A n c (tk n (a, q) 4).1 (tk n (a, q) 4).2) ∧ AsideOp (Kd.R k67 67 wr w.heap.size (fun k => k ≠ p) (.slice A6 j c6) L)) (fun v _ => j - (intOf v).toNat)
            case atStart => exact ⟨0, Nat.zero_le _, rfl, ⟨fun t h => absurd h (Nat.not_lt_zero _)⟩, HB12, HC12, HO12⟩
            case round =>
              clear HB12 HC12 HO12
              obtain ⟨i, hi, rfl, HA, HB13, HC13, HO13⟩ := hrel
              have hj255 : j ≤ 255 := HM2.out
              by_cases hlt : i < j
              · obtain ⟨q1, q2, q3⟩ := Kd.R_reads' HO13.out
                obtain ⟨ad, e, f0, f1, f2⟩ := at_T67 q3 (i : Int) (by omega) (by rw [HLL.out]; omega)
                rw [Int.toNat_natCast] at f0 f1 f2
                subst e
                clear q1 q2 q3
                have HS := OpSt.below (s := tk n (a, q) 4) ⟨HB13.out, HC13.out, HO13.out⟩ ((Below.refl wr.heap.size wr).alloc (Nat.le_refl _) (.cells #[.string (rd_T67 L (i : Int)).f0, .int .i64 (rd_T67 L (i : Int)).f1, .int .i64 (rd_T67 L (i : Int)).f2] 67))
                have hg := blk_cell (blk_new wr (.cells #[.string (rd_T67 L (i : Int)).f0, .int .i64 (rd_T67 L (i : Int)).f1, .int .i64 (rd_T67 L (i : Int)).f2] 67)) 0
                have HNA := AsideOp.mk (fun W => vault_named.gives (rd_T67 L (i : Int)).f0 W)
                have HF0 := AsideOp.mk f0
                go_upto_region 19 with (fail)
                clear f0 f1 f2 HB13 HC13 HO13
                generalize wr.alloc (.cells #[.string (rd_T67 L (i : Int)).f0, .int .i64 (rd_T67 L (i : Int)).f1, .int .i64 (rd_T67 L (i : Int)).f2] 67) = w14 at HS hg ⊢
                generalize wr.heap.size = g at hg ⊢
                generalize hx : (rd_T67 L (i : Int)).f0 = x at *
                have HX := AsideOp.mk hx
                have hg' : w14.cell? ⟨g, 0, none⟩ = some (.string x) := hg
                have hgd : w14.drew.cell? ⟨g, 0, none⟩ = some (.string x) := hg
                have HSd := AsideOp.mk HS.drew
                clear hx hg HS hg'
                have hok : okAt L i = (namedB x && (decide (i = 0) || Op.bytesLess (L.getD (i - 1) z67).f0.toList x.toList) && decide (i < 100)) := by
                  rw [← HX.out]
                  rfl
                cases hn : namedB x with
                | false =>
                  rw [hn] at HNA hok
                  have HOK := AsideOp.mk hok
                  clear hn hok
                  refine start_ (n := 23) (S := fun w' => w'.cell? ⟨g, 0, none⟩ = some (.string x) ∧ AsideOp (OpSt w p A n c (tk n (a, q) 4) (.slice (some ad) j c6) L w')) (ds := []) #[false, false, false, false, false, false, false, false, false, false, false, false, false, false, false, false, false, false, false, false, false, false, false] (by kernel_rfl) rfl rfl ⟨hgd, HSd⟩ (fun hHeld => ?_)
                  refine pure_ (i := 0) (N := some 63) (v := ?_) (a' := ?_) #[true, false, false, false, false, false, false, false, false, false, false, false, false, false, false, false, false, false, false, false, false, false, false] rfl rfl (by kernel_rfl) (fun _ _ _ h => h) (Or.inl ⟨by rfl, ?_⟩) ?_ ?_
                  rotate_left
                  · intro w'
                    go_simp
                    with_reducible rfl
                  rotate_left
                  · simp only [Act.put, List.setIfInBounds_toArray, List.set_cons_zero, List.set_cons_succ, i64_w, i32_w]
                    rfl
                  refine take_ (i := 1) (N := some 64) (v := ?_) (a' := ?_) #[true, true, false, false, false, false, false, false, false, false, false, false, false, false, false, false, false, false, false, false, false, false, false] rfl rfl (by kernel_rfl) (fun _ _ _ h => h) (Or.inl ⟨by rfl, ?_⟩) hHeld ?_ ?_
                  rotate_left
                  · rintro w' ⟨s0, s1⟩
                    go_simp
                    with_reducible rfl
                  rotate_left
                  · simp only [Act.put, List.setIfInBounds_toArray, List.set_cons_zero, List.set_cons_succ, i64_w, i32_w]
                    rfl
                  refine one_ (i := 2) (N := some 65) #[true, true, true, false, false, false, false, false, false, false, false, false, false, false, false, false, false, false, false, false, false, false, false] rfl rfl (by kernel_rfl) (by decide) (fun K hK => ?_)
                  refine goes_ Tryd.func51 (by kernel_rfl) rfl #[.string x] (by rfl) rfl rfl (by simp only [List.map_toArray, List.map_cons, List.map_nil]; rfl) ?_
                  with_reducible refine (HNA.out _).mono ?_
                  rintro e w15 ⟨rfl, hb⟩
                  refine ⟨_, rfl, ?_⟩
                  refine hK.out _ _ ⟨pw_cell_below hb hHeld.1, ⟨hHeld.2.out.below hb⟩⟩ (fun hHeld => ?_)
                  clear hK K
                  refine norm_ (a' := ?_) ?_ ?_
                  rotate_left
                  · show Act.put _ (some 65) _ = _
                    simp only [Act.put, List.setIfInBounds_toArray, List.set_cons_zero, List.set_cons_succ, i64_w, i32_w]
                    rfl
                  refine pure_ (i := 3) (N := some 66) (v := ?_) (a' := ?_) #[true, true, true, true, false, false, false, false, false, false, false, false, false, false, false, false, false, false, false, false, false, false, false] rfl rfl (by kernel_rfl) (fun _ _ _ h => h) (Or.inl ⟨by rfl, ?_⟩) ?_ ?_
                  rotate_left
                  · intro w'
                    go_simp
                    with_reducible rfl
                  rotate_left
                  · simp only [Act.put, List.setIfInBounds_toArray, List.set_cons_zero, List.set_cons_succ, i64_w, i32_w]
                    rfl
                  refine pure_ (i := 4) (N := some 67) (v := ?_) (a' := ?_) #[true, true, true, true, true, false, false, false, false, false, false, false, false, false, false, false, false, false, false, false, false, false, false] rfl rfl (by kernel_rfl) (fun _ _ _ h => h) (Or.inl ⟨by rfl, ?_⟩) ?_ ?_
                  rotate_left
                  · intro w'
                    go_simp
                    with_reducible rfl
                  rotate_left
                  · simp only [Act.put, List.setIfInBounds_toArray, List.set_cons_zero, List.set_cons_succ, i64_w, i32_w]
                    rfl
                  refine pure_ (i := 5) (N := some 68) (v := undef) (a' := ?_) #[true, true, true, true, true, true, false, false, false, false, false, false, false, false, false, false, false, false, false, false, false, false, false] rfl rfl (by kernel_rfl) (fun _ _ _ h => h) (Or.inr ⟨by rfl, rfl⟩) ?_ ?_
                  rotate_left
                  · simp only [Act.put, List.setIfInBounds_toArray, List.set_cons_zero, List.set_cons_succ, i64_w, i32_w]
                    rfl
                  refine pure_ (i := 6) (N := some 69) (v := undef) (a' := ?_) #[true, true, true, true, true, true, true, false, false, false, false, false, false, false, false, false, false, false, false, false, false, false, false] rfl rfl (by kernel_rfl) (fun _ _ _ h => h) (Or.inr ⟨by rfl, rfl⟩) ?_ ?_
                  rotate_left
                  · simp only [Act.put, List.setIfInBounds_toArray, List.set_cons_zero, List.set_cons_succ, i64_w, i32_w]
                    rfl
                  refine pure_ (i := 7) (N := some 70) (v := undef) (a' := ?_) #[true, true, true, true, true, true, true, true, false, false, false, false, false, false, false, false, false, false, false, false, false, false, false] rfl rfl (by kernel_rfl) (fun _ _ _ h => h) (Or.inr ⟨by rfl, rfl⟩) ?_ ?_
                  rotate_left
                  · simp only [Act.put, List.setIfInBounds_toArray, List.set_cons_zero, List.set_cons_succ, i64_w, i32_w]
                    rfl
                  refine pure_ (i := 8) (N := some 71) (v := undef) (a' := ?_) #[true, true, true, true, true, true, true, true, true, false, false, false, false, false, false, false, false, false, false, false, false, false, false] rfl rfl (by kernel_rfl) (fun _ _ _ h => h) (Or.inr ⟨by rfl, rfl⟩) ?_ ?_
                  rotate_left
                  · simp only [Act.put, List.setIfInBounds_toArray, List.set_cons_zero, List.set_cons_succ, i64_w, i32_w]
                    rfl
                  refine pure_ (i := 9) (N := some 72) (v := undef) (a' := ?_) #[true, true, true, true, true, true, true, true, true, true, false, false, false, false, false, false, false, false, false, false, false, false, false] rfl rfl (by kernel_rfl) (fun _ _ _ h => h) (Or.inr ⟨by rfl, rfl⟩) ?_ ?_
                  rotate_left
                  · simp only [Act.put, List.setIfInBounds_toArray, List.set_cons_zero, List.set_cons_succ, i64_w, i32_w]
                    rfl
                  refine pure_ (i := 10) (N := some 73) (v := undef) (a' := ?_) #[true, true, true, true, true, true, true, true, true, true, true, false, false, false, false, false, false, false, false, false, false, false, false] rfl rfl (by kernel_rfl) (fun _ _ _ h => h) (Or.inr ⟨by rfl, rfl⟩) ?_ ?_
                  rotate_left
                  · simp only [Act.put, List.setIfInBounds_toArray, List.set_cons_zero, List.set_cons_succ, i64_w, i32_w]
                    rfl
                  refine pure_ (i := 11) (N := some 74) (v := undef) (a' := ?_) #[true, true, true, true, true, true, true, true, true, true, true, true, false, false, false, false, false, false, false, false, false, false, false] rfl rfl (by kernel_rfl) (fun _ _ _ h => h) (Or.inr ⟨by rfl, rfl⟩) ?_ ?_
                  rotate_left
                  · simp only [Act.put, List.setIfInBounds_toArray, List.set_cons_zero, List.set_cons_succ, i64_w, i32_w]
                    rfl
                  refine pure_ (i := 12) (N := some 75) (v := undef) (a' := ?_) #[true, true, true, true, true, true, true, true, true, true, true, true, true, false, false, false, false, false, false, false, false, false, false] rfl rfl (by kernel_rfl) (fun _ _ _ h => h) (Or.inr ⟨by rfl, rfl⟩) ?_ ?_
                  rotate_left
                  · simp only [Act.put, List.setIfInBounds_toArray, List.set_cons_zero, List.set_cons_succ, i64_w, i32_w]
                    rfl
                  refine pure_ (i := 13) (N := some 76) (v := undef) (a' := ?_) #[true, true, true, true, true, true, true, true, true, true, true, true, true, true, false, false, false, false, false, false, false, false, false] rfl rfl (by kernel_rfl) (fun _ _ _ h => h) (Or.inr ⟨by rfl, rfl⟩) ?_ ?_
                  rotate_left
                  · simp only [Act.put, List.setIfInBounds_toArray, List.set_cons_zero, List.set_cons_succ, i64_w, i32_w]
                    rfl
                  refine pure_ (i := 14) (N := some 77) (v := undef) (a' := ?_) #[true, true, true, true, true, true, true, true, true, true, true, true, true, true, true, false, false, false, false, false, false, false, false] rfl rfl (by kernel_rfl) (fun _ _ _ h => h) (Or.inr ⟨by rfl, rfl⟩) ?_ ?_
                  rotate_left
                  · simp only [Act.put, List.setIfInBounds_toArray, List.set_cons_zero, List.set_cons_succ, i64_w, i32_w]
                    rfl
                  refine pure_ (i := 15) (N := some 78) (v := undef) (a' := ?_) #[true, true, true, true, true, true, true, true, true, true, true, true, true, true, true, true, false, false, false, false, false, false, false] rfl rfl (by kernel_rfl) (fun _ _ _ h => h) (Or.inr ⟨by rfl, rfl⟩) ?_ ?_
                  rotate_left
                  · simp only [Act.put, List.setIfInBounds_toArray, List.set_cons_zero, List.set_cons_succ, i64_w, i32_w]
                    rfl
                  refine pure_ (i := 16) (N := some 79) (v := undef) (a' := ?_) #[true, true, true, true, true, true, true, true, true, true, true, true, true, true, true, true, true, false, false, false, false, false, false] rfl rfl (by kernel_rfl) (fun _ _ _ h => h) (Or.inr ⟨by rfl, rfl⟩) ?_ ?_
                  rotate_left
                  · simp only [Act.put, List.setIfInBounds_toArray, List.set_cons_zero, List.set_cons_succ, i64_w, i32_w]
                    rfl
                  refine pure_ (i := 17) (N := some 80) (v := undef) (a' := ?_) #[true, true, true, true, true, true, true, true, true, true, true, true, true, true, true, true, true, true, false, false, false, false, false] rfl rfl (by kernel_rfl) (fun _ _ _ h => h) (Or.inr ⟨by rfl, rfl⟩) ?_ ?_
                  rotate_left
                  · simp only [Act.put, List.setIfInBounds_toArray, List.set_cons_zero, List.set_cons_succ, i64_w, i32_w]
                    rfl
                  refine pure_ (i := 18) (N := some 81) (v := ?_) (a' := ?_) #[true, true, true, true, true, true, true, true, true, true, true, true, true, true, true, true, true, true, true, false, false, false, false] rfl rfl (by kernel_rfl) (fun _ _ _ h => h) (Or.inl ⟨by rfl, ?_⟩) ?_ ?_
                  rotate_left
                  · intro w'
                    go_simp
                    with_reducible rfl
                  rotate_left
                  · simp only [Act.put, List.setIfInBounds_toArray, List.set_cons_zero, List.set_cons_succ, i64_w, i32_w]
                    rfl
                  refine pure_ (i := 19) (N := some 82) (v := ?_) (a' := ?_) #[true, true, true, true, true, true, true, true, true, true, true, true, true, true, true, true, true, true, true, true, false, false, false] rfl rfl (by kernel_rfl) (fun _ _ _ h => h) (Or.inl ⟨by rfl, ?_⟩) ?_ ?_
                  rotate_left
                  · intro w'
                    go_simp
                    with_reducible rfl
                  rotate_left
                  · simp only [Act.put, List.setIfInBounds_toArray, List.set_cons_zero, List.set_cons_succ, i64_w, i32_w]
                    rfl
                  refine pure_ (i := 20) (N := some 83) (v := undef) (a' := ?_) #[true, true, true, true, true, true, true, true, true, true, true, true, true, true, true, true, true, true, true, true, true, false, false] rfl rfl (by kernel_rfl) (fun _ _ _ h => h) (Or.inr ⟨by rfl, rfl⟩) ?_ ?_
                  rotate_left
                  · simp only [Act.put, List.setIfInBounds_toArray, List.set_cons_zero, List.set_cons_succ, i64_w, i32_w]
                    rfl
                  refine pure_ (i := 21) (N := some 84) (v := undef) (a' := ?_) #[true, true, true, true, true, true, true, true, true, true, true, true, true, true, true, true, true, true, true, true, true, true, false] rfl rfl (by kernel_rfl) (fun _ _ _ h => h) (Or.inr ⟨by rfl, rfl⟩) ?_ ?_
                  rotate_left
                  · simp only [Act.put, List.setIfInBounds_toArray, List.set_cons_zero, List.set_cons_succ, i64_w, i32_w]
                    rfl
                  refine pure_ (i := 22) (N := some 85) (v := ?_) (a' := ?_) #[true, true, true, true, true, true, true, true, true, true, true, true, true, true, true, true, true, true, true, true, true, true, true] rfl rfl (by kernel_rfl) (fun _ _ _ h => h) (Or.inl ⟨by rfl, ?_⟩) ?_ ?_
                  rotate_left
                  · intro w'
                    go_simp
                    with_reducible rfl
                  rotate_left
                  · simp only [Act.put, List.setIfInBounds_toArray, List.set_cons_zero, List.set_cons_succ, i64_w, i32_w]
                    rfl
                  refine done_ (by kernel_rfl) ?_
                  go_wp2_with (fail)
                  go_ret3
                  rw [HOP.out, if_neg (by rw [HQ.out]; decide), if_pos HXY.out, if_neg (by rw [goodE_false (i := i) (by rw [HLL.out]; exact hlt) (by rw [HOK.out]; simp)]; decide)]
                  exact open_err hHeld.2.out.bel
                | true =>
                  rw [hn] at HNA hok
                  clear hn
                  rcases Nat.eq_zero_or_pos i with h0 | h0
                  · subst h0
                    have HOK := AsideOp.mk hok
                    clear hok
                    refine start_ (n := 23) (S := fun w' => w'.cell? ⟨g, 0, none⟩ = some (.string x) ∧ AsideOp (OpSt w p A n c (tk n (a, q) 4) (.slice (some ad) j c6) L w')) (ds := []) #[false, false, false, false, false, false, false, false, false, false, false, false, false, false, false, false, false, false, false, false, false, false, false] (by kernel_rfl) rfl rfl ⟨hgd, HSd⟩ (fun hHeld => ?_)
                    refine pure_ (i := 0) (N := some 63) (v := ?_) (a' := ?_) #[true, false, false, false, false, false, false, false, false, false, false, false, false, false, false, false, false, false, false, false, false, false, false] rfl rfl (by kernel_rfl) (fun _ _ _ h => h) (Or.inl ⟨by rfl, ?_⟩) ?_ ?_
                    rotate_left
                    · intro w'
                      go_simp
                      with_reducible rfl
                    rotate_left
                    · simp only [Act.put, List.setIfInBounds_toArray, List.set_cons_zero, List.set_cons_succ, i64_w, i32_w]
                      rfl
                    refine take_ (i := 1) (N := some 64) (v := ?_) (a' := ?_) #[true, true, false, false, false, false, false, false, false, false, false, false, false, false, false, false, false, false, false, false, false, false, false] rfl rfl (by kernel_rfl) (fun _ _ _ h => h) (Or.inl ⟨by rfl, ?_⟩) hHeld ?_ ?_
                    rotate_left
                    · rintro w' ⟨s0, s1⟩
                      go_simp
                      with_reducible rfl
                    rotate_left
                    · simp only [Act.put, List.setIfInBounds_toArray, List.set_cons_zero, List.set_cons_succ, i64_w, i32_w]
                      rfl
                    refine one_ (i := 2) (N := some 65) #[true, true, true, false, false, false, false, false, false, false, false, false, false, false, false, false, false, false, false, false, false, false, false] rfl rfl (by kernel_rfl) (by decide) (fun K hK => ?_)
                    refine goes_ Tryd.func51 (by kernel_rfl) rfl #[.string x] (by rfl) rfl rfl (by simp only [List.map_toArray, List.map_cons, List.map_nil]; rfl) ?_
                    with_reducible refine (HNA.out _).mono ?_
                    rintro e w15 ⟨rfl, hb⟩
                    refine ⟨_, rfl, ?_⟩
                    refine hK.out _ _ ⟨pw_cell_below hb hHeld.1, ⟨hHeld.2.out.below hb⟩⟩ (fun hHeld => ?_)
                    clear hK K
                    refine norm_ (a' := ?_) ?_ ?_
                    rotate_left
                    · show Act.put _ (some 65) _ = _
                      simp only [Act.put, List.setIfInBounds_toArray, List.set_cons_zero, List.set_cons_succ, i64_w, i32_w]
                      rfl
                    refine pure_ (i := 3) (N := some 66) (v := ?_) (a' := ?_) #[true, true, true, true, false, false, false, false, false, false, false, false, false, false, false, false, false, false, false, false, false, false, false] rfl rfl (by kernel_rfl) (fun _ _ _ h => h) (Or.inl ⟨by rfl, ?_⟩) ?_ ?_
                    rotate_left
                    · intro w'
                      go_simp
                      with_reducible rfl
                    rotate_left
                    · simp only [Act.put, List.setIfInBounds_toArray, List.set_cons_zero, List.set_cons_succ, i64_w, i32_w]
                      rfl
                    refine pure_ (i := 4) (N := some 67) (v := ?_) (a' := ?_) #[true, true, true, true, true, false, false, false, false, false, false, false, false, false, false, false, false, false, false, false, false, false, false] rfl rfl (by kernel_rfl) (fun _ _ _ h => h) (Or.inl ⟨by rfl, ?_⟩) ?_ ?_
                    rotate_left
                    · intro w'
                      go_simp
                      with_reducible rfl
                    rotate_left
                    · simp only [Act.put, List.setIfInBounds_toArray, List.set_cons_zero, List.set_cons_succ, i64_w, i32_w]
                      rfl
                    refine pure_ (i := 5) (N := some 68) (v := ?_) (a' := ?_) #[true, true, true, true, true, true, false, false, false, false, false, false, false, false, false, false, false, false, false, false, false, false, false] rfl rfl (by kernel_rfl) (fun _ _ _ h => h) (Or.inl ⟨by rfl, ?_⟩) ?_ ?_
                    rotate_left
                    · intro w'
                      go_simp
                      with_reducible rfl
                    rotate_left
                    · simp only [Act.put, List.setIfInBounds_toArray, List.set_cons_zero, List.set_cons_succ, i64_w, i32_w]
                      rfl
                    refine pure_ (i := 6) (N := some 69) (v := ?_) (a' := ?_) #[true, true, true, true, true, true, true, false, false, false, false, false, false, false, false, false, false, false, false, false, false, false, false] rfl rfl (by kernel_rfl) (fun _ _ _ h => h) (Or.inl ⟨by rfl, ?_⟩) ?_ ?_
                    rotate_left
                    · intro w'
                      go_simp
                      with_reducible rfl
                    rotate_left
                    · simp only [Act.put, List.setIfInBounds_toArray, List.set_cons_zero, List.set_cons_succ, i64_w, i32_w]
                      rfl
                    refine pure_ (i := 7) (N := some 70) (v := ?_) (a' := ?_) #[true, true, true, true, true, true, true, true, false, false, false, false, false, false, false, false, false, false, false, false, false, false, false] rfl rfl (by kernel_rfl) (fun _ _ _ h => h) (Or.inl ⟨by rfl, ?_⟩) ?_ ?_
                    rotate_left
                    · intro w'
                      go_simp
                      with_reducible rfl
                    rotate_left
                    · simp only [Act.put, List.setIfInBounds_toArray, List.set_cons_zero, List.set_cons_succ, i64_w, i32_w]
                      rfl
                    refine pure_ (i := 8) (N := some 71) (v := undef) (a' := ?_) #[true, true, true, true, true, true, true, true, true, false, false, false, false, false, false, false, false, false, false, false, false, false, false] rfl rfl (by kernel_rfl) (fun _ _ _ h => h) (Or.inr ⟨by rfl, rfl⟩) ?_ ?_
                    rotate_left
                    · simp only [Act.put, List.setIfInBounds_toArray, List.set_cons_zero, List.set_cons_succ, i64_w, i32_w]
                      rfl
                    refine pure_ (i := 9) (N := some 72) (v := undef) (a' := ?_) #[true, true, true, true, true, true, true, true, true, true, false, false, false, false, false, false, false, false, false, false, false, false, false] rfl rfl (by kernel_rfl) (fun _ _ _ h => h) (Or.inr ⟨by rfl, rfl⟩) ?_ ?_
                    rotate_left
                    · simp only [Act.put, List.setIfInBounds_toArray, List.set_cons_zero, List.set_cons_succ, i64_w, i32_w]
                      rfl
                    refine pure_ (i := 10) (N := some 73) (v := undef) (a' := ?_) #[true, true, true, true, true, true, true, true, true, true, true, false, false, false, false, false, false, false, false, false, false, false, false] rfl rfl (by kernel_rfl) (fun _ _ _ h => h) (Or.inr ⟨by rfl, rfl⟩) ?_ ?_
                    rotate_left
                    · simp only [Act.put, List.setIfInBounds_toArray, List.set_cons_zero, List.set_cons_succ, i64_w, i32_w]
                      rfl
                    refine pure_ (i := 11) (N := some 74) (v := undef) (a' := ?_) #[true, true, true, true, true, true, true, true, true, true, true, true, false, false, false, false, false, false, false, false, false, false, false] rfl rfl (by kernel_rfl) (fun _ _ _ h => h) (Or.inr ⟨by rfl, rfl⟩) ?_ ?_
                    rotate_left
                    · simp only [Act.put, List.setIfInBounds_toArray, List.set_cons_zero, List.set_cons_succ, i64_w, i32_w]
                      rfl
                    refine pure_ (i := 12) (N := some 75) (v := undef) (a' := ?_) #[true, true, true, true, true, true, true, true, true, true, true, true, true, false, false, false, false, false, false, false, false, false, false] rfl rfl (by kernel_rfl) (fun _ _ _ h => h) (Or.inr ⟨by rfl, rfl⟩) ?_ ?_
                    rotate_left
                    · simp only [Act.put, List.setIfInBounds_toArray, List.set_cons_zero, List.set_cons_succ, i64_w, i32_w]
                      rfl
                    refine pure_ (i := 13) (N := some 76) (v := undef) (a' := ?_) #[true, true, true, true, true, true, true, true, true, true, true, true, true, true, false, false, false, false, false, false, false, false, false] rfl rfl (by kernel_rfl) (fun _ _ _ h => h) (Or.inr ⟨by rfl, rfl⟩) ?_ ?_
                    rotate_left
                    · simp only [Act.put, List.setIfInBounds_toArray, List.set_cons_zero, List.set_cons_succ, i64_w, i32_w]
                      rfl
                    refine pure_ (i := 14) (N := some 77) (v := undef) (a' := ?_) #[true, true, true, true, true, true, true, true, true, true, true, true, true, true, true, false, false, false, false, false, false, false, false] rfl rfl (by kernel_rfl) (fun _ _ _ h => h) (Or.inr ⟨by rfl, rfl⟩) ?_ ?_
                    rotate_left
                    · simp only [Act.put, List.setIfInBounds_toArray, List.set_cons_zero, List.set_cons_succ, i64_w, i32_w]
                      rfl
                    refine pure_ (i := 15) (N := some 78) (v := undef) (a' := ?_) #[true, true, true, true, true, true, true, true, true, true, true, true, true, true, true, true, false, false, false, false, false, false, false] rfl rfl (by kernel_rfl) (fun _ _ _ h => h) (Or.inr ⟨by rfl, rfl⟩) ?_ ?_
                    rotate_left
                    · simp only [Act.put, List.setIfInBounds_toArray, List.set_cons_zero, List.set_cons_succ, i64_w, i32_w]
                      rfl
                    refine pure_ (i := 16) (N := some 79) (v := undef) (a' := ?_) #[true, true, true, true, true, true, true, true, true, true, true, true, true, true, true, true, true, false, false, false, false, false, false] rfl rfl (by kernel_rfl) (fun _ _ _ h => h) (Or.inr ⟨by rfl, rfl⟩) ?_ ?_
                    rotate_left
                    · simp only [Act.put, List.setIfInBounds_toArray, List.set_cons_zero, List.set_cons_succ, i64_w, i32_w]
                      rfl
                    refine pure_ (i := 17) (N := some 80) (v := ?_) (a' := ?_) #[true, true, true, true, true, true, true, true, true, true, true, true, true, true, true, true, true, true, false, false, false, false, false] rfl rfl (by kernel_rfl) (fun _ _ _ h => h) (Or.inl ⟨by rfl, ?_⟩) ?_ ?_
                    rotate_left
                    · intro w'
                      go_simp
                      with_reducible rfl
                    rotate_left
                    · simp only [Act.put, List.setIfInBounds_toArray, List.set_cons_zero, List.set_cons_succ, i64_w, i32_w]
                      rfl
                    refine pure_ (i := 18) (N := some 81) (v := ?_) (a' := ?_) #[true, true, true, true, true, true, true, true, true, true, true, true, true, true, true, true, true, true, true, false, false, false, false] rfl rfl (by kernel_rfl) (fun _ _ _ h => h) (Or.inl ⟨by rfl, ?_⟩) ?_ ?_
                    rotate_left
                    · intro w'
                      go_simp
                      with_reducible rfl
                    rotate_left
                    · simp only [Act.put, List.setIfInBounds_toArray, List.set_cons_zero, List.set_cons_succ, i64_w, i32_w]
                      rfl
                    refine pure_ (i := 19) (N := some 82) (v := ?_) (a' := ?_) #[true, true, true, true, true, true, true, true, true, true, true, true, true, true, true, true, true, true, true, true, false, false, false] rfl rfl (by kernel_rfl) (fun _ _ _ h => h) (Or.inl ⟨by rfl, ?_⟩) ?_ ?_
                    rotate_left
                    · intro w'
                      go_simp
                      with_reducible rfl
                    rotate_left
                    · simp only [Act.put, List.setIfInBounds_toArray, List.set_cons_zero, List.set_cons_succ, i64_w, i32_w]
                      rfl
                    refine pure_ (i := 20) (N := some 83) (v := ?_) (a' := ?_) #[true, true, true, true, true, true, true, true, true, true, true, true, true, true, true, true, true, true, true, true, true, false, false] rfl rfl (by kernel_rfl) (fun _ _ _ h => h) (Or.inl ⟨by rfl, ?_⟩) ?_ ?_
                    rotate_left
                    · intro w'
                      go_simp
                      with_reducible rfl
                    rotate_left
                    · simp only [Act.put, List.setIfInBounds_toArray, List.set_cons_zero, List.set_cons_succ, i64_w, i32_w]
                      rfl
                    refine pure_ (i := 21) (N := some 84) (v := ?_) (a' := ?_) #[true, true, true, true, true, true, true, true, true, true, true, true, true, true, true, true, true, true, true, true, true, true, false] rfl rfl (by kernel_rfl) (fun _ _ _ h => h) (Or.inl ⟨by rfl, ?_⟩) ?_ ?_
                    rotate_left
                    · intro w'
                      go_simp
                      with_reducible rfl
                    rotate_left
                    · simp only [Act.put, List.setIfInBounds_toArray, List.set_cons_zero, List.set_cons_succ, i64_w, i32_w]
                      rfl
                    refine pure_ (i := 22) (N := some 85) (v := ?_) (a' := ?_) #[true, true, true, true, true, true, true, true, true, true, true, true, true, true, true, true, true, true, true, true, true, true, true] rfl rfl (by kernel_rfl) (fun _ _ _ h => h) (Or.inl ⟨by rfl, ?_⟩) ?_ ?_
                    rotate_left
                    · intro w'
                      go_simp
                      with_reducible rfl
                    rotate_left
                    · simp only [Act.put, List.setIfInBounds_toArray, List.set_cons_zero, List.set_cons_succ, i64_w, i32_w]
                      rfl
                    refine done_ (by kernel_rfl) ?_
                    go_wp2_with (fail)
                    go_roundw
                    case rel => exact ⟨0 + 1, by omega, by go_num, ⟨all_step HA.out (by rw [HOK.out]; simp)⟩, ⟨hHeld.2.out.bel⟩, ⟨hHeld.2.out.cur⟩, ⟨hHeld.2.out.row⟩⟩
                    case measure => simp [intOf]; omega
                  · have hz : wrap64 ((i : Int) - 1) = ((i - 1 : Nat) : Int) := by have := HM2.out; unfold wrap64; omega
                    obtain ⟨z, hzz⟩ : ∃ z : Int, ((i - 1 : Nat) : Int) = z := ⟨_, rfl⟩
                    rw [hzz] at hz
                    have hzw : IntKind.i64.wrap ((i : Int) - 1) = z := (i64_w _).trans hz
                    have p0 : 0 ≤ z := by omega
                    have q0 : z < (j : Int) := by omega
                    have c0 : decide (0 < (i : Int)) = true := decide_eq_true (by omega)
                    have c0n : decide (0 < i) = true := decide_eq_true h0
                    obtain ⟨q1, q2, q3⟩ := Kd.R_reads' HSd.out.row
                    obtain ⟨ad', e', hy, _, _⟩ := at_T67 q3 z p0 (by rw [HLL.out]; omega)
                    obtain rfl : ad = ad' := by injection e'
                    have hrd : rd_T67 L z = L.getD (i - 1) z67 := by unfold rd_T67; rw [← hzz, Int.toNat_natCast]
                    rw [hrd] at hy
                    generalize (L.getD (i - 1) z67).f0 = y at hok hy
                    have HI := AsideOp.mk h0
                    have p1 := eq_true p0
                    have q4 := eq_true q0
                    clear q1 q2 q3 e' hrd h0 p0 q0 hzz
                    cases hl : Op.bytesLess y.toList x.toList with
                    | false =>
                      rw [hl, decide_eq_false (by have := HI.out; omega)] at hok
                      have HOK := AsideOp.mk hok
                      clear hok
                      refine start_ (n := 23) (S := fun w' => w'.cell? ⟨g, 0, none⟩ = some (.string x) ∧ w'.cell? (ad.add (z.toNat * 3)) = some (.string y) ∧ AsideOp (OpSt w p A n c (tk n (a, q) 4) (.slice (some ad) j c6) L w')) (ds := []) #[false, false, false, false, false, false, false, false, false, false, false, false, false, false, false, false, false, false, false, false, false, false, false] (by kernel_rfl) rfl rfl ⟨hgd, hy, HSd⟩ (fun hHeld => ?_)
                      refine pure_ (i := 0) (N := some 63) (v := ?_) (a' := ?_) #[true, false, false, false, false, false, false, false, false, false, false, false, false, false, false, false, false, false, false, false, false, false, false] rfl rfl (by kernel_rfl) (fun _ _ _ h => h) (Or.inl ⟨by rfl, ?_⟩) ?_ ?_
                      rotate_left
                      · intro w'
                        go_simp
                        with_reducible rfl
                      rotate_left
                      · simp only [Act.put, List.setIfInBounds_toArray, List.set_cons_zero, List.set_cons_succ, i64_w, i32_w]
                        rfl
                      refine take_ (i := 1) (N := some 64) (v := ?_) (a' := ?_) #[true, true, false, false, false, false, false, false, false, false, false, false, false, false, false, false, false, false, false, false, false, false, false] rfl rfl (by kernel_rfl) (fun _ _ _ h => h) (Or.inl ⟨by rfl, ?_⟩) hHeld ?_ ?_
                      rotate_left
                      · rintro w' ⟨s0, s1, s2⟩
                        go_simp
                        with_reducible rfl
                      rotate_left
                      · simp only [Act.put, List.setIfInBounds_toArray, List.set_cons_zero, List.set_cons_succ, i64_w, i32_w]
                        rfl
                      refine one_ (i := 2) (N := some 65) #[true, true, true, false, false, false, false, false, false, false, false, false, false, false, false, false, false, false, false, false, false, false, false] rfl rfl (by kernel_rfl) (by decide) (fun K hK => ?_)
                      refine goes_ Tryd.func51 (by kernel_rfl) rfl #[.string x] (by rfl) rfl rfl (by simp only [List.map_toArray, List.map_cons, List.map_nil]; rfl) ?_
                      with_reducible refine (HNA.out _).mono ?_
                      rintro e w15 ⟨rfl, hb⟩
                      refine ⟨_, rfl, ?_⟩
                      refine hK.out _ _ ⟨pw_cell_below hb hHeld.1, pw_cell_below hb hHeld.2.1, ⟨hHeld.2.2.out.below hb⟩⟩ (fun hHeld => ?_)
                      clear hK K
                      refine norm_ (a' := ?_) ?_ ?_
                      rotate_left
                      · show Act.put _ (some 65) _ = _
                        simp only [Act.put, List.setIfInBounds_toArray, List.set_cons_zero, List.set_cons_succ, i64_w, i32_w]
                        rfl
                      refine pure_ (i := 3) (N := some 66) (v := ?_) (a' := ?_) #[true, true, true, true, false, false, false, false, false, false, false, false, false, false, false, false, false, false, false, false, false, false, false] rfl rfl (by kernel_rfl) (fun _ _ _ h => h) (Or.inl ⟨by rfl, ?_⟩) ?_ ?_
                      rotate_left
                      · intro w'
                        go_simp
                        with_reducible rfl
                      rotate_left
                      · simp only [Act.put, List.setIfInBounds_toArray, List.set_cons_zero, List.set_cons_succ, i64_w, i32_w]
                        rfl
                      refine pure_ (i := 4) (N := some 67) (v := ?_) (a' := ?_) #[true, true, true, true, true, false, false, false, false, false, false, false, false, false, false, false, false, false, false, false, false, false, false] rfl rfl (by kernel_rfl) (fun _ _ _ h => h) (Or.inl ⟨by rfl, ?_⟩) ?_ ?_
                      rotate_left
                      · intro w'
                        go_simp
                        with_reducible rfl
                      rotate_left
                      · simp only [Act.put, List.setIfInBounds_toArray, List.set_cons_zero, List.set_cons_succ, i64_w, i32_w]
                        rfl
                      refine pure_ (i := 5) (N := some 68) (v := ?_) (a' := ?_) #[true, true, true, true, true, true, false, false, false, false, false, false, false, false, false, false, false, false, false, false, false, false, false] rfl rfl (by kernel_rfl) (fun _ _ _ h => h) (Or.inl ⟨by rfl, ?_⟩) ?_ ?_
                      rotate_left
                      · intro w'
                        go_simp
                        with_reducible rfl
                      rotate_left
                      · simp only [Act.put, List.setIfInBounds_toArray, List.set_cons_zero, List.set_cons_succ, i64_w, i32_w]
                        rfl
                      refine pure_ (i := 6) (N := some 69) (v := ?_) (a' := ?_) #[true, true, true, true, true, true, true, false, false, false, false, false, false, false, false, false, false, false, false, false, false, false, false] rfl rfl (by kernel_rfl) (fun _ _ _ h => h) (Or.inl ⟨by rfl, ?_⟩) ?_ ?_
                      rotate_left
                      · intro w'
                        go_simp
                        with_reducible rfl
                      rotate_left
                      · simp only [Act.put, List.setIfInBounds_toArray, List.set_cons_zero, List.set_cons_succ, i64_w, i32_w]
                        rfl
                      refine pure_ (i := 7) (N := some 70) (v := ?_) (a' := ?_) #[true, true, true, true, true, true, true, true, false, false, false, false, false, false, false, false, false, false, false, false, false, false, false] rfl rfl (by kernel_rfl) (fun _ _ _ h => h) (Or.inl ⟨by rfl, ?_⟩) ?_ ?_
                      rotate_left
                      · intro w'
                        go_simp
                        with_reducible rfl
                      rotate_left
                      · simp only [Act.put, List.setIfInBounds_toArray, List.set_cons_zero, List.set_cons_succ, i64_w, i32_w]
                        rfl
                      refine pure_ (i := 8) (N := some 71) (v := ?_) (a' := ?_) #[true, true, true, true, true, true, true, true, true, false, false, false, false, false, false, false, false, false, false, false, false, false, false] rfl rfl (by kernel_rfl) (fun _ _ _ h => h) (Or.inl ⟨by rfl, ?_⟩) ?_ ?_
                      rotate_left
                      · intro w'
                        go_simp
                        with_reducible rfl
                      rotate_left
                      · simp only [Act.put, List.setIfInBounds_toArray, List.set_cons_zero, List.set_cons_succ, i64_w, i32_w]
                        rfl
                      refine pure_ (i := 9) (N := some 72) (v := ?_) (a' := ?_) #[true, true, true, true, true, true, true, true, true, true, false, false, false, false, false, false, false, false, false, false, false, false, false] rfl rfl (by kernel_rfl) (fun _ _ _ h => h) (Or.inl ⟨by rfl, ?_⟩) ?_ ?_
                      rotate_left
                      · intro w'
                        go_simp
                        with_reducible rfl
                      rotate_left
                      · simp only [Act.put, List.setIfInBounds_toArray, List.set_cons_zero, List.set_cons_succ, i64_w, i32_w]
                        rfl
                      refine pure_ (i := 10) (N := some 73) (v := ?_) (a' := ?_) #[true, true, true, true, true, true, true, true, true, true, true, false, false, false, false, false, false, false, false, false, false, false, false] rfl rfl (by kernel_rfl) (fun _ _ _ h => h) (Or.inl ⟨by rfl, ?_⟩) ?_ ?_
                      rotate_left
                      · intro w'
                        go_simp
                        with_reducible rfl
                      rotate_left
                      · simp only [Act.put, List.setIfInBounds_toArray, List.set_cons_zero, List.set_cons_succ, i64_w, i32_w]
                        rfl
                      refine pure_ (i := 11) (N := some 74) (v := ?_) (a' := ?_) #[true, true, true, true, true, true, true, true, true, true, true, true, false, false, false, false, false, false, false, false, false, false, false] rfl rfl (by kernel_rfl) (fun _ _ _ h => h) (Or.inl ⟨by rfl, ?_⟩) ?_ ?_
                      rotate_left
                      · intro w'
                        go_simp
                        with_reducible rfl
                      rotate_left
                      · simp only [Act.put, List.setIfInBounds_toArray, List.set_cons_zero, List.set_cons_succ, i64_w, i32_w]
                        rfl
                      refine pure_ (i := 12) (N := some 75) (v := ?_) (a' := ?_) #[true, true, true, true, true, true, true, true, true, true, true, true, true, false, false, false, false, false, false, false, false, false, false] rfl rfl (by kernel_rfl) (fun _ _ _ h => h) (Or.inl ⟨by rfl, ?_⟩) ?_ ?_
                      rotate_left
                      · intro w'
                        go_simp
                        with_reducible rfl
                      rotate_left
                      · simp only [Act.put, List.setIfInBounds_toArray, List.set_cons_zero, List.set_cons_succ, i64_w, i32_w]
                        rfl
                      refine pure_ (i := 14) (N := some 77) (v := ?_) (a' := ?_) #[true, true, true, true, true, true, true, true, true, true, true, true, true, false, true, false, false, false, false, false, false, false, false] rfl rfl (by kernel_rfl) (fun _ _ _ h => h) (Or.inl ⟨by rfl, ?_⟩) ?_ ?_
                      rotate_left
                      · intro w'
                        go_simp
                        with_reducible rfl
                      rotate_left
                      · simp only [Act.put, List.setIfInBounds_toArray, List.set_cons_zero, List.set_cons_succ, i64_w, i32_w]
                        rfl
                      refine take_ (i := 13) (N := some 76) (v := ?_) (a' := ?_) #[true, true, true, true, true, true, true, true, true, true, true, true, true, true, true, false, false, false, false, false, false, false, false] rfl rfl (by kernel_rfl) (fun _ _ _ h => h) (Or.inl ⟨by rfl, ?_⟩) hHeld ?_ ?_
                      rotate_left
                      · rintro w' ⟨s0, s1, s2⟩
                        go_simp
                        with_reducible rfl
                      rotate_left
                      · simp only [Act.put, List.setIfInBounds_toArray, List.set_cons_zero, List.set_cons_succ, i64_w, i32_w]
                        rfl
                      refine take_ (i := 15) (N := some 78) (v := ?_) (a' := ?_) #[true, true, true, true, true, true, true, true, true, true, true, true, true, true, true, true, false, false, false, false, false, false, false] rfl rfl (by kernel_rfl) (fun _ _ _ h => h) (Or.inl ⟨by rfl, ?_⟩) hHeld ?_ ?_
                      rotate_left
                      · rintro w' ⟨s0, s1, s2⟩
                        go_simp
                        with_reducible rfl
                      rotate_left
                      · simp only [Act.put, List.setIfInBounds_toArray, List.set_cons_zero, List.set_cons_succ, i64_w, i32_w]
                        rfl
                      refine pure_ (i := 16) (N := some 79) (v := ?_) (a' := ?_) #[true, true, true, true, true, true, true, true, true, true, true, true, true, true, true, true, true, false, false, false, false, false, false] rfl rfl (by kernel_rfl) (fun _ _ _ h => h) (Or.inl ⟨by rfl, ?_⟩) ?_ ?_
                      rotate_left
                      · intro w'
                        go_simp
                        with_reducible rfl
                      rotate_left
                      · simp only [Act.put, List.setIfInBounds_toArray, List.set_cons_zero, List.set_cons_succ, i64_w, i32_w]
                        rfl
                      refine pure_ (i := 17) (N := some 80) (v := ?_) (a' := ?_) #[true, true, true, true, true, true, true, true, true, true, true, true, true, true, true, true, true, true, false, false, false, false, false] rfl rfl (by kernel_rfl) (fun _ _ _ h => h) (Or.inl ⟨by rfl, ?_⟩) ?_ ?_
                      rotate_left
                      · intro w'
                        go_simp
                        with_reducible rfl
                      rotate_left
                      · simp only [Act.put, List.setIfInBounds_toArray, List.set_cons_zero, List.set_cons_succ, i64_w, i32_w]
                        rfl
                      refine pure_ (i := 18) (N := some 81) (v := ?_) (a' := ?_) #[true, true, true, true, true, true, true, true, true, true, true, true, true, true, true, true, true, true, true, false, false, false, false] rfl rfl (by kernel_rfl) (fun _ _ _ h => h) (Or.inl ⟨by rfl, ?_⟩) ?_ ?_
                      rotate_left
                      · intro w'
                        go_simp
                        with_reducible rfl
                      rotate_left
                      · simp only [Act.put, List.setIfInBounds_toArray, List.set_cons_zero, List.set_cons_succ, i64_w, i32_w]
                        rfl
                      refine pure_ (i := 19) (N := some 82) (v := ?_) (a' := ?_) #[true, true, true, true, true, true, true, true, true, true, true, true, true, true, true, true, true, true, true, true, false, false, false] rfl rfl (by kernel_rfl) (fun _ _ _ h => h) (Or.inl ⟨by rfl, ?_⟩) ?_ ?_
                      rotate_left
                      · intro w'
                        go_simp
                        with_reducible rfl
                      rotate_left
                      · simp only [Act.put, List.setIfInBounds_toArray, List.set_cons_zero, List.set_cons_succ, i64_w, i32_w]
                        rfl
                      refine pure_ (i := 20) (N := some 83) (v := undef) (a' := ?_) #[true, true, true, true, true, true, true, true, true, true, true, true, true, true, true, true, true, true, true, true, true, false, false] rfl rfl (by kernel_rfl) (fun _ _ _ h => h) (Or.inr ⟨by rfl, rfl⟩) ?_ ?_
                      rotate_left
                      · simp only [Act.put, List.setIfInBounds_toArray, List.set_cons_zero, List.set_cons_succ, i64_w, i32_w]
                        rfl
                      refine pure_ (i := 21) (N := some 84) (v := undef) (a' := ?_) #[true, true, true, true, true, true, true, true, true, true, true, true, true, true, true, true, true, true, true, true, true, true, false] rfl rfl (by kernel_rfl) (fun _ _ _ h => h) (Or.inr ⟨by rfl, rfl⟩) ?_ ?_
                      rotate_left
                      · simp only [Act.put, List.setIfInBounds_toArray, List.set_cons_zero, List.set_cons_succ, i64_w, i32_w]
                        rfl
                      refine pure_ (i := 22) (N := some 85) (v := ?_) (a' := ?_) #[true, true, true, true, true, true, true, true, true, true, true, true, true, true, true, true, true, true, true, true, true, true, true] rfl rfl (by kernel_rfl) (fun _ _ _ h => h) (Or.inl ⟨by rfl, ?_⟩) ?_ ?_
                      rotate_left
                      · intro w'
                        go_simp
                        with_reducible rfl
                      rotate_left
                      · simp only [Act.put, List.setIfInBounds_toArray, List.set_cons_zero, List.set_cons_succ, i64_w, i32_w]
                        rfl
                      refine done_ (by kernel_rfl) ?_
                      go_wp2_with (fail)
                      go_ret3
                      rw [HOP.out, if_neg (by rw [HQ.out]; decide), if_pos HXY.out, if_neg (by rw [goodE_false (i := i) (by rw [HLL.out]; exact hlt) (by rw [HOK.out]; simp)]; decide)]
                      exact open_err hHeld.2.2.out.bel
                    | true =>
                      rw [hl] at hok
                      by_cases h100 : i < 100
                      · have c1 : decide ((100 : Int) ≤ (i : Int)) = false := decide_eq_false (by omega)
                        have c1n : decide (100 ≤ i) = false := decide_eq_false (by omega)
                        rw [decide_eq_true h100] at hok
                        have HOK := AsideOp.mk hok
                        clear hok h100
                        refine start_ (n := 23) (S := fun w' => w'.cell? ⟨g, 0, none⟩ = some (.string x) ∧ w'.cell? (ad.add (z.toNat * 3)) = some (.string y) ∧ AsideOp (OpSt w p A n c (tk n (a, q) 4) (.slice (some ad) j c6) L w')) (ds := []) #[false, false, false, false, false, false, false, false, false, false, false, false, false, false, false, false, false, false, false, false, false, false, false] (by kernel_rfl) rfl rfl ⟨hgd, hy, HSd⟩ (fun hHeld => ?_)
                        refine pure_ (i := 0) (N := some 63) (v := ?_) (a' := ?_) #[true, false, false, false, false, false, false, false, false, false, false, false, false, false, false, false, false, false, false, false, false, false, false] rfl rfl (by kernel_rfl) (fun _ _ _ h => h) (Or.inl ⟨by rfl, ?_⟩) ?_ ?_
                        rotate_left
                        · intro w'
                          go_simp
                          with_reducible rfl
                        rotate_left
                        · simp only [Act.put, List.setIfInBounds_toArray, List.set_cons_zero, List.set_cons_succ, i64_w, i32_w]
                          rfl
                        refine take_ (i := 1) (N := some 64) (v := ?_) (a' := ?_) #[true, true, false, false, false, false, false, false, false, false, false, false, false, false, false, false, false, false, false, false, false, false, false] rfl rfl (by kernel_rfl) (fun _ _ _ h => h) (Or.inl ⟨by rfl, ?_⟩) hHeld ?_ ?_
                        rotate_left
                        · rintro w' ⟨s0, s1, s2⟩
                          go_simp
                          with_reducible rfl
                        rotate_left
                        · simp only [Act.put, List.setIfInBounds_toArray, List.set_cons_zero, List.set_cons_succ, i64_w, i32_w]
                          rfl
                        refine one_ (i := 2) (N := some 65) #[true, true, true, false, false, false, false, false, false, false, false, false, false, false, false, false, false, false, false, false, false, false, false] rfl rfl (by kernel_rfl) (by decide) (fun K hK => ?_)
                        refine goes_ Tryd.func51 (by kernel_rfl) rfl #[.string x] (by rfl) rfl rfl (by simp only [List.map_toArray, List.map_cons, List.map_nil]; rfl) ?_
                        with_reducible refine (HNA.out _).mono ?_
                        rintro e w15 ⟨rfl, hb⟩
                        refine ⟨_, rfl, ?_⟩
                        refine hK.out _ _ ⟨pw_cell_below hb hHeld.1, pw_cell_below hb hHeld.2.1, ⟨hHeld.2.2.out.below hb⟩⟩ (fun hHeld => ?_)
                        clear hK K
                        refine norm_ (a' := ?_) ?_ ?_
                        rotate_left
                        · show Act.put _ (some 65) _ = _
                          simp only [Act.put, List.setIfInBounds_toArray, List.set_cons_zero, List.set_cons_succ, i64_w, i32_w]
                          rfl
                        refine pure_ (i := 3) (N := some 66) (v := ?_) (a' := ?_) #[true, true, true, true, false, false, false, false, false, false, false, false, false, false, false, false, false, false, false, false, false, false, false] rfl rfl (by kernel_rfl) (fun _ _ _ h => h) (Or.inl ⟨by rfl, ?_⟩) ?_ ?_
                        rotate_left
                        · intro w'
                          go_simp
                          with_reducible rfl
                        rotate_left
                        · simp only [Act.put, List.setIfInBounds_toArray, List.set_cons_zero, List.set_cons_succ, i64_w, i32_w]
                          rfl
                        refine pure_ (i := 4) (N := some 67) (v := ?_) (a' := ?_) #[true, true, true, true, true, false, false, false, false, false, false, false, false, false, false, false, false, false, false, false, false, false, false] rfl rfl (by kernel_rfl) (fun _ _ _ h => h) (Or.inl ⟨by rfl, ?_⟩) ?_ ?_
                        rotate_left
                        · intro w'
                          go_simp
                          with_reducible rfl
                        rotate_left
                        · simp only [Act.put, List.setIfInBounds_toArray, List.set_cons_zero, List.set_cons_succ, i64_w, i32_w]
                          rfl
                        refine pure_ (i := 5) (N := some 68) (v := ?_) (a' := ?_) #[true, true, true, true, true, true, false, false, false, false, false, false, false, false, false, false, false, false, false, false, false, false, false] rfl rfl (by kernel_rfl) (fun _ _ _ h => h) (Or.inl ⟨by rfl, ?_⟩) ?_ ?_
                        rotate_left
                        · intro w'
                          go_simp
                          with_reducible rfl
                        rotate_left
                        · simp only [Act.put, List.setIfInBounds_toArray, List.set_cons_zero, List.set_cons_succ, i64_w, i32_w]
                          rfl
                        refine pure_ (i := 6) (N := some 69) (v := ?_) (a' := ?_) #[true, true, true, true, true, true, true, false, false, false, false, false, false, false, false, false, false, false, false, false, false, false, false] rfl rfl (by kernel_rfl) (fun _ _ _ h => h) (Or.inl ⟨by rfl, ?_⟩) ?_ ?_
                        rotate_left
                        · intro w'
                          go_simp
                          with_reducible rfl
                        rotate_left
                        · simp only [Act.put, List.setIfInBounds_toArray, List.set_cons_zero, List.set_cons_succ, i64_w, i32_w]
                          rfl
                        refine pure_ (i := 7) (N := some 70) (v := ?_) (a' := ?_) #[true, true, true, true, true, true, true, true, false, false, false, false, false, false, false, false, false, false, false, false, false, false, false] rfl rfl (by kernel_rfl) (fun _ _ _ h => h) (Or.inl ⟨by rfl, ?_⟩) ?_ ?_
                        rotate_left
                        · intro w'
                          go_simp
                          with_reducible rfl
                        rotate_left
                        · simp only [Act.put, List.setIfInBounds_toArray, List.set_cons_zero, List.set_cons_succ, i64_w, i32_w]
                          rfl
                        refine pure_ (i := 8) (N := some 71) (v := ?_) (a' := ?_) #[true, true, true, true, true, true, true, true, true, false, false, false, false, false, false, false, false, false, false, false, false, false, false] rfl rfl (by kernel_rfl) (fun _ _ _ h => h) (Or.inl ⟨by rfl, ?_⟩) ?_ ?_
                        rotate_left
                        · intro w'
                          go_simp
                          with_reducible rfl
                        rotate_left
                        · simp only [Act.put, List.setIfInBounds_toArray, List.set_cons_zero, List.set_cons_succ, i64_w, i32_w]
                          rfl
                        refine pure_ (i := 9) (N := some 72) (v := ?_) (a' := ?_) #[true, true, true, true, true, true, true, true, true, true, false, false, false, false, false, false, false, false, false, false, false, false, false] rfl rfl (by kernel_rfl) (fun _ _ _ h => h) (Or.inl ⟨by rfl, ?_⟩) ?_ ?_
                        rotate_left
                        · intro w'
                          go_simp
                          with_reducible rfl
                        rotate_left
                        · simp only [Act.put, List.setIfInBounds_toArray, List.set_cons_zero, List.set_cons_succ, i64_w, i32_w]
                          rfl
                        refine pure_ (i := 10) (N := some 73) (v := ?_) (a' := ?_) #[true, true, true, true, true, true, true, true, true, true, true, false, false, false, false, false, false, false, false, false, false, false, false] rfl rfl (by kernel_rfl) (fun _ _ _ h => h) (Or.inl ⟨by rfl, ?_⟩) ?_ ?_
                        rotate_left
                        · intro w'
                          go_simp
                          with_reducible rfl
                        rotate_left
                        · simp only [Act.put, List.setIfInBounds_toArray, List.set_cons_zero, List.set_cons_succ, i64_w, i32_w]
                          rfl
                        refine pure_ (i := 11) (N := some 74) (v := ?_) (a' := ?_) #[true, true, true, true, true, true, true, true, true, true, true, true, false, false, false, false, false, false, false, false, false, false, false] rfl rfl (by kernel_rfl) (fun _ _ _ h => h) (Or.inl ⟨by rfl, ?_⟩) ?_ ?_
                        rotate_left
                        · intro w'
                          go_simp
                          with_reducible rfl
                        rotate_left
                        · simp only [Act.put, List.setIfInBounds_toArray, List.set_cons_zero, List.set_cons_succ, i64_w, i32_w]
                          rfl
                        refine pure_ (i := 12) (N := some 75) (v := ?_) (a' := ?_) #[true, true, true, true, true, true, true, true, true, true, true, true, true, false, false, false, false, false, false, false, false, false, false] rfl rfl (by kernel_rfl) (fun _ _ _ h => h) (Or.inl ⟨by rfl, ?_⟩) ?_ ?_
                        rotate_left
                        · intro w'
                          go_simp
                          with_reducible rfl
                        rotate_left
                        · simp only [Act.put, List.setIfInBounds_toArray, List.set_cons_zero, List.set_cons_succ, i64_w, i32_w]
                          rfl
                        refine pure_ (i := 14) (N := some 77) (v := ?_) (a' := ?_) #[true, true, true, true, true, true, true, true, true, true, true, true, true, false, true, false, false, false, false, false, false, false, false] rfl rfl (by kernel_rfl) (fun _ _ _ h => h) (Or.inl ⟨by rfl, ?_⟩) ?_ ?_
                        rotate_left
                        · intro w'
                          go_simp
                          with_reducible rfl
                        rotate_left
                        · simp only [Act.put, List.setIfInBounds_toArray, List.set_cons_zero, List.set_cons_succ, i64_w, i32_w]
                          rfl
                        refine take_ (i := 13) (N := some 76) (v := ?_) (a' := ?_) #[true, true, true, true, true, true, true, true, true, true, true, true, true, true, true, false, false, false, false, false, false, false, false] rfl rfl (by kernel_rfl) (fun _ _ _ h => h) (Or.inl ⟨by rfl, ?_⟩) hHeld ?_ ?_
                        rotate_left
                        · rintro w' ⟨s0, s1, s2⟩
                          go_simp
                          with_reducible rfl
                        rotate_left
                        · simp only [Act.put, List.setIfInBounds_toArray, List.set_cons_zero, List.set_cons_succ, i64_w, i32_w]
                          rfl
                        refine take_ (i := 15) (N := some 78) (v := ?_) (a' := ?_) #[true, true, true, true, true, true, true, true, true, true, true, true, true, true, true, true, false, false, false, false, false, false, false] rfl rfl (by kernel_rfl) (fun _ _ _ h => h) (Or.inl ⟨by rfl, ?_⟩) hHeld ?_ ?_
                        rotate_left
                        · rintro w' ⟨s0, s1, s2⟩
                          go_simp
                          with_reducible rfl
                        rotate_left
                        · simp only [Act.put, List.setIfInBounds_toArray, List.set_cons_zero, List.set_cons_succ, i64_w, i32_w]
                          rfl
                        refine pure_ (i := 16) (N := some 79) (v := ?_) (a' := ?_) #[true, true, true, true, true, true, true, true, true, true, true, true, true, true, true, true, true, false, false, false, false, false, false] rfl rfl (by kernel_rfl) (fun _ _ _ h => h) (Or.inl ⟨by rfl, ?_⟩) ?_ ?_
                        rotate_left
                        · intro w'
                          go_simp
                          with_reducible rfl
                        rotate_left
                        · simp only [Act.put, List.setIfInBounds_toArray, List.set_cons_zero, List.set_cons_succ, i64_w, i32_w]
                          rfl
                        refine pure_ (i := 17) (N := some 80) (v := ?_) (a' := ?_) #[true, true, true, true, true, true, true, true, true, true, true, true, true, true, true, true, true, true, false, false, false, false, false] rfl rfl (by kernel_rfl) (fun _ _ _ h => h) (Or.inl ⟨by rfl, ?_⟩) ?_ ?_
                        rotate_left
                        · intro w'
                          go_simp
                          with_reducible rfl
                        rotate_left
                        · simp only [Act.put, List.setIfInBounds_toArray, List.set_cons_zero, List.set_cons_succ, i64_w, i32_w]
                          rfl
                        refine pure_ (i := 18) (N := some 81) (v := ?_) (a' := ?_) #[true, true, true, true, true, true, true, true, true, true, true, true, true, true, true, true, true, true, true, false, false, false, false] rfl rfl (by kernel_rfl) (fun _ _ _ h => h) (Or.inl ⟨by rfl, ?_⟩) ?_ ?_
                        rotate_left
                        · intro w'
                          go_simp
                          with_reducible rfl
                        rotate_left
                        · simp only [Act.put, List.setIfInBounds_toArray, List.set_cons_zero, List.set_cons_succ, i64_w, i32_w]
                          rfl
                        refine pure_ (i := 19) (N := some 82) (v := ?_) (a' := ?_) #[true, true, true, true, true, true, true, true, true, true, true, true, true, true, true, true, true, true, true, true, false, false, false] rfl rfl (by kernel_rfl) (fun _ _ _ h => h) (Or.inl ⟨by rfl, ?_⟩) ?_ ?_
                        rotate_left
                        · intro w'
                          go_simp
                          with_reducible rfl
                        rotate_left
                        · simp only [Act.put, List.setIfInBounds_toArray, List.set_cons_zero, List.set_cons_succ, i64_w, i32_w]
                          rfl
                        refine pure_ (i := 20) (N := some 83) (v := ?_) (a' := ?_) #[true, true, true, true, true, true, true, true, true, true, true, true, true, true, true, true, true, true, true, true, true, false, false] rfl rfl (by kernel_rfl) (fun _ _ _ h => h) (Or.inl ⟨by rfl, ?_⟩) ?_ ?_
                        rotate_left
                        · intro w'
                          go_simp
                          with_reducible rfl
                        rotate_left
                        · simp only [Act.put, List.setIfInBounds_toArray, List.set_cons_zero, List.set_cons_succ, i64_w, i32_w]
                          rfl
                        refine pure_ (i := 21) (N := some 84) (v := ?_) (a' := ?_) #[true, true, true, true, true, true, true, true, true, true, true, true, true, true, true, true, true, true, true, true, true, true, false] rfl rfl (by kernel_rfl) (fun _ _ _ h => h) (Or.inl ⟨by rfl, ?_⟩) ?_ ?_
                        rotate_left
                        · intro w'
                          go_simp
                          with_reducible rfl
                        rotate_left
                        · simp only [Act.put, List.setIfInBounds_toArray, List.set_cons_zero, List.set_cons_succ, i64_w, i32_w]
                          rfl
                        refine pure_ (i := 22) (N := some 85) (v := ?_) (a' := ?_) #[true, true, true, true, true, true, true, true, true, true, true, true, true, true, true, true, true, true, true, true, true, true, true] rfl rfl (by kernel_rfl) (fun _ _ _ h => h) (Or.inl ⟨by rfl, ?_⟩) ?_ ?_
                        rotate_left
                        · intro w'
                          go_simp
                          with_reducible rfl
                        rotate_left
                        · simp only [Act.put, List.setIfInBounds_toArray, List.set_cons_zero, List.set_cons_succ, i64_w, i32_w]
                          rfl
                        refine done_ (by kernel_rfl) ?_
                        go_wp2_with (fail)
                        go_roundw
                        case rel => exact ⟨i + 1, by omega, by go_num, ⟨all_step HA.out (by rw [HOK.out]; simp)⟩, ⟨hHeld.2.2.out.bel⟩, ⟨hHeld.2.2.out.cur⟩, ⟨hHeld.2.2.out.row⟩⟩
                        case measure => simp [intOf]; omega
                      · have c1 : decide ((100 : Int) ≤ (i : Int)) = true := decide_eq_true (by omega)
                        have c1n : decide (100 ≤ i) = true := decide_eq_true (by omega)
                        rw [decide_eq_false h100] at hok
                        have HOK := AsideOp.mk hok
                        clear hok h100
                        refine start_ (n := 23) (S := fun w' => w'.cell? ⟨g, 0, none⟩ = some (.string x) ∧ w'.cell? (ad.add (z.toNat * 3)) = some (.string y) ∧ AsideOp (OpSt w p A n c (tk n (a, q) 4) (.slice (some ad) j c6) L w')) (ds := []) #[false, false, false, false, false, false, false, false, false, false, false, false, false, false, false, false, false, false, false, false, false, false, false] (by kernel_rfl) rfl rfl ⟨hgd, hy, HSd⟩ (fun hHeld => ?_)
                        refine pure_ (i := 0) (N := some 63) (v := ?_) (a' := ?_) #[true, false, false, false, false, false, false, false, false, false, false, false, false, false, false, false, false, false, false, false, false, false, false] rfl rfl (by kernel_rfl) (fun _ _ _ h => h) (Or.inl ⟨by rfl, ?_⟩) ?_ ?_
                        rotate_left
                        · intro w'
                          go_simp
                          with_reducible rfl
                        rotate_left
                        · simp only [Act.put, List.setIfInBounds_toArray, List.set_cons_zero, List.set_cons_succ, i64_w, i32_w]
                          rfl
                        refine take_ (i := 1) (N := some 64) (v := ?_) (a' := ?_) #[true, true, false, false, false, false, false, false, false, false, false, false, false, false, false, false, false, false, false, false, false, false, false] rfl rfl (by kernel_rfl) (fun _ _ _ h => h) (Or.inl ⟨by rfl, ?_⟩) hHeld ?_ ?_
                        rotate_left
                        · rintro w' ⟨s0, s1, s2⟩
                          go_simp
                          with_reducible rfl
                        rotate_left
                        · simp only [Act.put, List.setIfInBounds_toArray, List.set_cons_zero, List.set_cons_succ, i64_w, i32_w]
                          rfl
                        refine one_ (i := 2) (N := some 65) #[true, true, true, false, false, false, false, false, false, false, false, false, false, false, false, false, false, false, false, false, false, false, false] rfl rfl (by kernel_rfl) (by decide) (fun K hK => ?_)
                        refine goes_ Tryd.func51 (by kernel_rfl) rfl #[.string x] (by rfl) rfl rfl (by simp only [List.map_toArray, List.map_cons, List.map_nil]; rfl) ?_
                        with_reducible refine (HNA.out _).mono ?_
                        rintro e w15 ⟨rfl, hb⟩
                        refine ⟨_, rfl, ?_⟩
                        refine hK.out _ _ ⟨pw_cell_below hb hHeld.1, pw_cell_below hb hHeld.2.1, ⟨hHeld.2.2.out.below hb⟩⟩ (fun hHeld => ?_)
                        clear hK K
                        refine norm_ (a' := ?_) ?_ ?_
                        rotate_left
                        · show Act.put _ (some 65) _ = _
                          simp only [Act.put, List.setIfInBounds_toArray, List.set_cons_zero, List.set_cons_succ, i64_w, i32_w]
                          rfl
                        refine pure_ (i := 3) (N := some 66) (v := ?_) (a' := ?_) #[true, true, true, true, false, false, false, false, false, false, false, false, false, false, false, false, false, false, false, false, false, false, false] rfl rfl (by kernel_rfl) (fun _ _ _ h => h) (Or.inl ⟨by rfl, ?_⟩) ?_ ?_
                        rotate_left
                        · intro w'
                          go_simp
                          with_reducible rfl
                        rotate_left
                        · simp only [Act.put, List.setIfInBounds_toArray, List.set_cons_zero, List.set_cons_succ, i64_w, i32_w]
                          rfl
                        refine pure_ (i := 4) (N := some 67) (v := ?_) (a' := ?_) #[true, true, true, true, true, false, false, false, false, false, false, false, false, false, false, false, false, false, false, false, false, false, false] rfl rfl (by kernel_rfl) (fun _ _ _ h => h) (Or.inl ⟨by rfl, ?_⟩) ?_ ?_
                        rotate_left
                        · intro w'
                          go_simp
                          with_reducible rfl
                        rotate_left
                        · simp only [Act.put, List.setIfInBounds_toArray, List.set_cons_zero, List.set_cons_succ, i64_w, i32_w]
                          rfl
                        refine pure_ (i := 5) (N := some 68) (v := ?_) (a' := ?_) #[true, true, true, true, true, true, false, false, false, false, false, false, false, false, false, false, false, false, false, false, false, false, false] rfl rfl (by kernel_rfl) (fun _ _ _ h => h) (Or.inl ⟨by rfl, ?_⟩) ?_ ?_
                        rotate_left
                        · intro w'
                          go_simp
                          with_reducible rfl
                        rotate_left
                        · simp only [Act.put, List.setIfInBounds_toArray, List.set_cons_zero, List.set_cons_succ, i64_w, i32_w]
                          rfl
                        refine pure_ (i := 6) (N := some 69) (v := ?_) (a' := ?_) #[true, true, true, true, true, true, true, false, false, false, false, false, false, false, false, false, false, false, false, false, false, false, false] rfl rfl (by kernel_rfl) (fun _ _ _ h => h) (Or.inl ⟨by rfl, ?_⟩) ?_ ?_
                        rotate_left
                        · intro w'
                          go_simp
                          with_reducible rfl
                        rotate_left
                        · simp only [Act.put, List.setIfInBounds_toArray, List.set_cons_zero, List.set_cons_succ, i64_w, i32_w]
                          rfl
                        refine pure_ (i := 7) (N := some 70) (v := ?_) (a' := ?_) #[true, true, true, true, true, true, true, true, false, false, false, false, false, false, false, false, false, false, false, false, false, false, false] rfl rfl (by kernel_rfl) (fun _ _ _ h => h) (Or.inl ⟨by rfl, ?_⟩) ?_ ?_
                        rotate_left
                        · intro w'
                          go_simp
                          with_reducible rfl
                        rotate_left
                        · simp only [Act.put, List.setIfInBounds_toArray, List.set_cons_zero, List.set_cons_succ, i64_w, i32_w]
                          rfl
                        refine pure_ (i := 8) (N := some 71) (v := ?_) (a' := ?_) #[true, true, true, true, true, true, true, true, true, false, false, false, false, false, false, false, false, false, false, false, false, false, false] rfl rfl (by kernel_rfl) (fun _ _ _ h => h) (Or.inl ⟨by rfl, ?_⟩) ?_ ?_
                        rotate_left
                        · intro w'
                          go_simp
                          with_reducible rfl
                        rotate_left
                        · simp only [Act.put, List.setIfInBounds_toArray, List.set_cons_zero, List.set_cons_succ, i64_w, i32_w]
                          rfl
                        refine pure_ (i := 9) (N := some 72) (v := ?_) (a' := ?_) #[true, true, true, true, true, true, true, true, true, true, false, false, false, false, false, false, false, false, false, false, false, false, false] rfl rfl (by kernel_rfl) (fun _ _ _ h => h) (Or.inl ⟨by rfl, ?_⟩) ?_ ?_
                        rotate_left
                        · intro w'
                          go_simp
                          with_reducible rfl
                        rotate_left
                        · simp only [Act.put, List.setIfInBounds_toArray, List.set_cons_zero, List.set_cons_succ, i64_w, i32_w]
                          rfl
                        refine pure_ (i := 10) (N := some 73) (v := ?_) (a' := ?_) #[true, true, true, true, true, true, true, true, true, true, true, false, false, false, false, false, false, false, false, false, false, false, false] rfl rfl (by kernel_rfl) (fun _ _ _ h => h) (Or.inl ⟨by rfl, ?_⟩) ?_ ?_
                        rotate_left
                        · intro w'
                          go_simp
                          with_reducible rfl
                        rotate_left
                        · simp only [Act.put, List.setIfInBounds_toArray, List.set_cons_zero, List.set_cons_succ, i64_w, i32_w]
                          rfl
                        refine pure_ (i := 11) (N := some 74) (v := ?_) (a' := ?_) #[true, true, true, true, true, true, true, true, true, true, true, true, false, false, false, false, false, false, false, false, false, false, false] rfl rfl (by kernel_rfl) (fun _ _ _ h => h) (Or.inl ⟨by rfl, ?_⟩) ?_ ?_
                        rotate_left
                        · intro w'
                          go_simp
                          with_reducible rfl
                        rotate_left
                        · simp only [Act.put, List.setIfInBounds_toArray, List.set_cons_zero, List.set_cons_succ, i64_w, i32_w]
                          rfl
                        refine pure_ (i := 12) (N := some 75) (v := ?_) (a' := ?_) #[true, true, true, true, true, true, true, true, true, true, true, true, true, false, false, false, false, false, false, false, false, false, false] rfl rfl (by kernel_rfl) (fun _ _ _ h => h) (Or.inl ⟨by rfl, ?_⟩) ?_ ?_
                        rotate_left
                        · intro w'
                          go_simp
                          with_reducible rfl
                        rotate_left
                        · simp only [Act.put, List.setIfInBounds_toArray, List.set_cons_zero, List.set_cons_succ, i64_w, i32_w]
                          rfl
                        refine pure_ (i := 14) (N := some 77) (v := ?_) (a' := ?_) #[true, true, true, true, true, true, true, true, true, true, true, true, true, false, true, false, false, false, false, false, false, false, false] rfl rfl (by kernel_rfl) (fun _ _ _ h => h) (Or.inl ⟨by rfl, ?_⟩) ?_ ?_
                        rotate_left
                        · intro w'
                          go_simp
                          with_reducible rfl
                        rotate_left
                        · simp only [Act.put, List.setIfInBounds_toArray, List.set_cons_zero, List.set_cons_succ, i64_w, i32_w]
                          rfl
                        refine take_ (i := 13) (N := some 76) (v := ?_) (a' := ?_) #[true, true, true, true, true, true, true, true, true, true, true, true, true, true, true, false, false, false, false, false, false, false, false] rfl rfl (by kernel_rfl) (fun _ _ _ h => h) (Or.inl ⟨by rfl, ?_⟩) hHeld ?_ ?_
                        rotate_left
                        · rintro w' ⟨s0, s1, s2⟩
                          go_simp
                          with_reducible rfl
                        rotate_left
                        · simp only [Act.put, List.setIfInBounds_toArray, List.set_cons_zero, List.set_cons_succ, i64_w, i32_w]
                          rfl
                        refine take_ (i := 15) (N := some 78) (v := ?_) (a' := ?_) #[true, true, true, true, true, true, true, true, true, true, true, true, true, true, true, true, false, false, false, false, false, false, false] rfl rfl (by kernel_rfl) (fun _ _ _ h => h) (Or.inl ⟨by rfl, ?_⟩) hHeld ?_ ?_
                        rotate_left
                        · rintro w' ⟨s0, s1, s2⟩
                          go_simp
                          with_reducible rfl
                        rotate_left
                        · simp only [Act.put, List.setIfInBounds_toArray, List.set_cons_zero, List.set_cons_succ, i64_w, i32_w]
                          rfl
                        refine pure_ (i := 16) (N := some 79) (v := ?_) (a' := ?_) #[true, true, true, true, true, true, true, true, true, true, true, true, true, true, true, true, true, false, false, false, false, false, false] rfl rfl (by kernel_rfl) (fun _ _ _ h => h) (Or.inl ⟨by rfl, ?_⟩) ?_ ?_
                        rotate_left
                        · intro w'
                          go_simp
                          with_reducible rfl
                        rotate_left
                        · simp only [Act.put, List.setIfInBounds_toArray, List.set_cons_zero, List.set_cons_succ, i64_w, i32_w]
                          rfl
                        refine pure_ (i := 17) (N := some 80) (v := ?_) (a' := ?_) #[true, true, true, true, true, true, true, true, true, true, true, true, true, true, true, true, true, true, false, false, false, false, false] rfl rfl (by kernel_rfl) (fun _ _ _ h => h) (Or.inl ⟨by rfl, ?_⟩) ?_ ?_
                        rotate_left
                        · intro w'
                          go_simp
                          with_reducible rfl
                        rotate_left
                        · simp only [Act.put, List.setIfInBounds_toArray, List.set_cons_zero, List.set_cons_succ, i64_w, i32_w]
                          rfl
                        refine pure_ (i := 18) (N := some 81) (v := ?_) (a' := ?_) #[true, true, true, true, true, true, true, true, true, true, true, true, true, true, true, true, true, true, true, false, false, false, false] rfl rfl (by kernel_rfl) (fun _ _ _ h => h) (Or.inl ⟨by rfl, ?_⟩) ?_ ?_
                        rotate_left
                        · intro w'
                          go_simp
                          with_reducible rfl
                        rotate_left
                        · simp only [Act.put, List.setIfInBounds_toArray, List.set_cons_zero, List.set_cons_succ, i64_w, i32_w]
                          rfl
                        refine pure_ (i := 19) (N := some 82) (v := ?_) (a' := ?_) #[true, true, true, true, true, true, true, true, true, true, true, true, true, true, true, true, true, true, true, true, false, false, false] rfl rfl (by kernel_rfl) (fun _ _ _ h => h) (Or.inl ⟨by rfl, ?_⟩) ?_ ?_
                        rotate_left
                        · intro w'
                          go_simp
                          with_reducible rfl
                        rotate_left
                        · simp only [Act.put, List.setIfInBounds_toArray, List.set_cons_zero, List.set_cons_succ, i64_w, i32_w]
                          rfl
                        refine pure_ (i := 20) (N := some 83) (v := ?_) (a' := ?_) #[true, true, true, true, true, true, true, true, true, true, true, true, true, true, true, true, true, true, true, true, true, false, false] rfl rfl (by kernel_rfl) (fun _ _ _ h => h) (Or.inl ⟨by rfl, ?_⟩) ?_ ?_
                        rotate_left
                        · intro w'
                          go_simp
                          with_reducible rfl
                        rotate_left
                        · simp only [Act.put, List.setIfInBounds_toArray, List.set_cons_zero, List.set_cons_succ, i64_w, i32_w]
                          rfl
                        refine pure_ (i := 21) (N := some 84) (v := ?_) (a' := ?_) #[true, true, true, true, true, true, true, true, true, true, true, true, true, true, true, true, true, true, true, true, true, true, false] rfl rfl (by kernel_rfl) (fun _ _ _ h => h) (Or.inl ⟨by rfl, ?_⟩) ?_ ?_
                        rotate_left
                        · intro w'
                          go_simp
                          with_reducible rfl
                        rotate_left
                        · simp only [Act.put, List.setIfInBounds_toArray, List.set_cons_zero, List.set_cons_succ, i64_w, i32_w]
                          rfl
                        refine pure_ (i := 22) (N := some 85) (v := ?_) (a' := ?_) #[true, true, true, true, true, true, true, true, true, true, true, true, true, true, true, true, true, true, true, true, true, true, true] rfl rfl (by kernel_rfl) (fun _ _ _ h => h) (Or.inl ⟨by rfl, ?_⟩) ?_ ?_
                        rotate_left
                        · intro w'
                          go_simp
                          with_reducible rfl
                        rotate_left
                        · simp only [Act.put, List.setIfInBounds_toArray, List.set_cons_zero, List.set_cons_succ, i64_w, i32_w]
                          rfl
                        refine done_ (by kernel_rfl) ?_
                        go_wp2_with (fail)
                        go_ret3
                        rw [HOP.out, if_neg (by rw [HQ.out]; decide), if_pos HXY.out, if_neg (by rw [goodE_false (i := i) (by rw [HLL.out]; exact hlt) (by rw [HOK.out]; simp)]; decide)]
                        exact open_err hHeld.2.2.out.bel
              · obtain rfl : i = j := by omega
                clear hi hlt
                obtain ⟨i0, hi0, hz0, hz1, hz2⟩ := info_parts info5
                obtain ⟨A', hcut, hrd⟩ := print_cut_of (Value.int .u8) (0 : Int) 22 5 .i64 Tryd.underlying22 hi0 hz1 A n c (tk n (a, q) 4).1 hs4
                have HRD := AsideOp.mk (Kd.C_of_reads (h1 := fun _ => rfl) (hrd w b hc (Kd.reads_of_C HR.out)))
                have hld : (b.drop (tk n (a, q) 4).1).length = n - (tk n (a, q) 4).1 := by rw [List.length_drop, HN.out]
                have HLD := AsideOp.mk hld
                clear hi0 hz0 hz1 hz2 hrd hld hac ha0
                obtain ⟨e0, e1, e2, _, _⟩ := cu_cells HC13.out
                have HGE := AsideOp.mk (goodE_true (L := L) (by rw [HLL.out]; exact HA.out))
                go_upto_region 22 with (fail)
                go_quiet (fail)
                go_wp2_with (fail)
                go_ret3
                rw [HOP.out, if_neg (by rw [HQ.out]; decide), if_pos HXY.out, if_pos HGE.out]
                exact open_ok HLD.out (Nat.sub_le_sub_right hc _) (Kd.R_drewN HO13.out _) HRD.out (pw_below_drewN HB13.out _)
          · have hne : (beL (tkB b (a, q) 4) == cs (b.take a)) = false := beq_eq_false_iff_ne.mpr hxy
            have hne2 : (beL (tkB b (a, q) 4) != cs (b.take a)) = true := bne_iff_ne.mpr hxy
            have HXY := AsideOp.mk hxy
            clear hxy
            go_wp2_with (go_at_call 31; (with_reducible refine (HSUM.out _ HB11.out).mono ?_); rintro e w12 ⟨rfl, hb⟩; have HB12 := AsideOp.mk (below_step HB11.out hb); clear hb)
            go_ret3
            rw [HOP.out, if_neg (by rw [HQ.out]; decide), if_neg HXY.out]
            exact open_err HB12.out
/-- Opening, whatever the bytes. -/
theorem vault_open.gives (K : Nat) (cs : List Int → Int) (A : Option Addr) (b : List Int) (n c : Nat) (w : World) (hG : GL w) (hc : n ≤ c) (hR : Kd.C (Kd.int .u8) w A n b) (hby : ∀ x ∈ b, 0 ≤ x ∧ x < 256) (hcs : ∀ m, m ≤ n → toll_Sum.f K (b.take m) = some (cs (b.take m)) ∧ 0 ≤ cs (b.take m) ∧ cs (b.take m) < 4294967296) :
    Calls Tryd.prog 28 #[.slice A n c] w (OpenPost A w (openS cs b)) := by
  cases hm : mgB b with
  | false =>
    refine (vault_open.magic A b n c w hc hR hm).mono fun e w' ⟨he, hb⟩ => ?_
    subst he
    unfold openS
    rw [if_pos hm]
    exact open_err hb
  | true => exact vault_open.main K cs A b n c w hG hc hR hby hcs hm

end Go.Proofs.YtibmccacebhhkaaDoor.HV

namespace Go.Proofs.YtibmccacebhhkaaDoor.HV
open Go.RowKit Go.Proofs.YtibmccacebhhkaaDoorW.PrintWords Go.Proofs.YtibmccacebhhkaaDoorW.PrintLast Go.Proofs.YtibmccacebhhkaaDoorW.PrintMore
attribute [local go_sem] max2_int min2_int max_two min_two max_three min_three max_four min_four
set_option linter.unusedVariables false
set_option linter.unusedSimpArgs false
structure AsideSe (p : Prop) : Prop where mk :: (out : p)
end Go.Proofs.YtibmccacebhhkaaDoor.HV

namespace Go.Proofs.YtibmccacebhhkaaDoor.HV
open Go.RowKit Go.Proofs.YtibmccacebhhkaaDoorW.PrintWords Go.Proofs.YtibmccacebhhkaaDoorW.PrintLast Go.Proofs.YtibmccacebhhkaaDoorW.PrintMore
attribute [local go_sem] max2_int min2_int max_two min_two max_three min_three max_four min_four   -- for this text's walks alone
set_option linter.unusedVariables false
set_option linter.unusedSimpArgs false

/-! ### vault_Names: function 10, by hand -/
structure AsideN1 (p : Prop) : Prop where mk :: (out : p)
/-- What the law's variables hold: so far all right, k told, of the document's entries L, no more than m asked for. -/
structure NmSt (W : World) (pk pn pw pm : Nat) (k m : Nat) (A : Option Addr) (c : Nat) (L : List S31) : Prop where
  ok : W.heap[pk]? = some (.cells #[.bool true] 4 (0, 0))
  n : W.heap[pn]? = some (.cells #[.int .i64 k] 3 (0, 0))
  want : W.heap[pw]? = some (.cells #[.slice A L.length c] 24 (0, 0))
  m : W.heap[pm]? = some (.cells #[.int .i64 m] 3 (0, 0))
  row : Kd.C k31 W A L.length L
structure AsideN2 (p : Prop) : Prop where mk :: (out : p)
/-- An entry, as the document has it. -/
def toR (e : S67) : S31 := ⟨e.f0, e.f1, e.f2⟩
end Go.Proofs.YtibmccacebhhkaaDoor.HV

