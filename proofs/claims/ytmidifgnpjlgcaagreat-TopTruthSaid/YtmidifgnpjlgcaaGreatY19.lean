/- The texts Ud, Te, Pa, Pb of the walk of the law and of all that it calls, in one file. No condition. -/
import Derived.Test.YtmidifgnpjlgcaaGreatY18
import Derived.Test.YtmidifgnpjlgcaaGreatY16
/- The walk of Rows. -/
set_option linter.unusedVariables false
set_option linter.unusedSimpArgs false
namespace Go.Proofs.YtmidifgnpjlgcaaGreat
open Go.RowKit

/-- A key that has a place, a speed and a height. -/
structure Ky where
  P : Int
  V : Int
  H : Int
  DV : Int
  DP : Int
  T : Int
def Ky.zero : Ky := ⟨0, 0, 0, 0, 0, 0⟩
def Ky.vs (k : Ky) : List Value := [.bool true, .bool true, .bool true, .int .i64 k.P, .int .i64 k.V, .int .i64 k.H, .int .i64 k.DV, .int .i64 k.DP, .int .i64 k.T]
def kyVs : List Ky → List Value
  | [] => []
  | k :: ks => k.vs ++ kyVs ks
theorem kyVs_len : ∀ ks : List Ky, (kyVs ks).length = ks.length * 9
  | [] => rfl
  | k :: ks => by
    show (k.vs ++ kyVs ks).length = (ks.length + 1) * 9
    rw [List.length_append, kyVs_len ks]
    show 9 + ks.length * 9 = (ks.length + 1) * 9
    omega
theorem kyVs_at : ∀ (ks : List Ky) (i j : Nat), i < ks.length → j < 9 → (kyVs ks)[i * 9 + j]? = (ks.getD i Ky.zero).vs[j]?
  | k :: ks, 0, j, _, hj => by
    show (k.vs ++ kyVs ks)[0 * 9 + j]? = k.vs[j]?
    rw [Nat.zero_mul, Nat.zero_add, List.getElem?_append_left (by show j < 9; exact hj)]
  | k :: ks, i + 1, j, hi, hj => by
    show (k.vs ++ kyVs ks)[(i + 1) * 9 + j]? = (ks.getD i Ky.zero).vs[j]?
    rw [List.getElem?_append_right (by show 9 ≤ _; omega)]
    rw [← kyVs_at ks i j (by simpa using hi) hj]
    congr 1
    show (i + 1) * 9 + j - 9 = i * 9 + j
    omega
theorem kyVs_app (k : Ky) : ∀ ks : List Ky, kyVs (ks ++ [k]) = kyVs ks ++ k.vs
  | [] => by show k.vs ++ [] = k.vs; exact List.append_nil _
  | a :: ks => by show a.vs ++ kyVs (ks ++ [k]) = (a.vs ++ kyVs ks) ++ k.vs; rw [kyVs_app k ks, List.append_assoc]
/-- Keys that came in. -/
def Kin (w : World) (v : Value) (ks : List Ky) : Prop := ∃ b c, v = .slice (some ⟨b, 0, none⟩) ks.length c ∧ b < w.heap.size ∧ ∀ j u, (kyVs ks)[j]? = some u → w.cell? ⟨b, j, none⟩ = some u
def keysRows (n : Nat) : Nat → List Ky → List Rw
  | _, [] => []
  | i, k :: ks => keyRows n i k.P k.V k.H k.DV k.DP ++ keysRows n (i + 1) ks
theorem keysRows_app (n : Nat) (k : Ky) : ∀ (ks : List Ky) (i : Nat), keysRows n i (ks ++ [k]) = keysRows n i ks ++ keyRows n (i + ks.length) k.P k.V k.H k.DV k.DP
  | [], i => by show keyRows n i k.P k.V k.H k.DV k.DP ++ [] = [] ++ keyRows n (i + 0) k.P k.V k.H k.DV k.DP; rw [List.append_nil, List.nil_append, Nat.add_zero]
  | a :: ks, i => by
    show keyRows n i a.P a.V a.H a.DV a.DP ++ keysRows n (i + 1) (ks ++ [k]) = (keyRows n i a.P a.V a.H a.DV a.DP ++ keysRows n (i + 1) ks) ++ keyRows n (i + (ks.length + 1)) k.P k.V k.H k.DV k.DP
    rw [keysRows_app n k ks (i + 1), List.append_assoc, show i + 1 + ks.length = i + (ks.length + 1) by omega]
theorem keysRows_len (n : Nat) : ∀ (ks : List Ky) (i : Nat), (keysRows n i ks).length ≤ 5 * ks.length
  | [], i => Nat.le_refl _
  | a :: ks, i => by
    have := keysRows_len n ks (i + 1)
    show (keyRows n i a.P a.V a.H a.DV a.DP ++ keysRows n (i + 1) ks).length ≤ 5 * (ks.length + 1)
    rw [List.length_append]
    have h : (keyRows n i a.P a.V a.H a.DV a.DP).length ≤ 5 := by
      unfold keyRows motRows
      split
      · show 3 ≤ 5; decide
      · show 5 ≤ 5; decide
    omega
def rowsP (n : Nat) (ks : List Ky) : List Rw := keysRows n 0 ks ++ [mkRw n 3 0 [n - 1, 1]]
/-- What is asked of keys. -/
def KyOk (k : Ky) : Prop := (-100000 ≤ k.P ∧ k.P ≤ 100000) ∧ (-100000 ≤ k.V ∧ k.V ≤ 100000) ∧ (-100000 ≤ k.H ∧ k.H ≤ 100000) ∧ (-100000 ≤ k.DV ∧ k.DV ≤ 100000) ∧ (-100000 ≤ k.DP ∧ k.DP ≤ 100000) ∧ (0 ≤ k.T ∧ k.T ≤ 1000)

variable {w0 w w2 : World} {l l2 A : List (Nat × Obj)} {g n : Nat} {rs : List Rw}
theorem MK.B (M : MK w0 g n rs l w) : Below w0.heap.size w0 w := by
  obtain ⟨v, gs, C, G, h⟩ := M
  obtain ⟨R, K, -⟩ := G.out
  exact K.B
theorem MK.start (K : Keep w0 ((g, .cells (mkc n (.slice none 0 0)) 87) :: l) w) : MK w0 g n [] l w :=
  ⟨.slice none 0 0, [], [], GL.nil K, rfl, fun j hj => absurd hj (by simp)⟩
/-- The rows that were made. -/
theorem MK.rows (M : MK w0 g n rs l w) (h0 : rs ≠ []) : ∃ v, Rws w v rs ∧ w.heap[g]? = some (.cells (mkc n v) 87) := by
  obtain ⟨v, gs, C, G, hgs, hC⟩ := M
  obtain ⟨B, c, rfl⟩ := G.sl
  have hg := G.box (p := (g, .cells (mkc n (.slice B rs.length c)) 87)) (.inl (.head _))
  refine ⟨_, ⟨B, c, rfl, fun e => ?_, fun j hj => ?_⟩, hg⟩
  · subst e
    obtain ⟨h, e, -⟩ := G.cell (j := 0) (by rw [G.1]; have := List.length_pos_iff.2 h0; omega)
    cases e
  · obtain ⟨hm, hl, hi⟩ := hC j hj
    obtain ⟨r0, r1, r2, r3⟩ := rowVs_at n gs rs j hgs hj
    have hx : (rowVs n gs rs).length = rs.length * 4 := G.1
    obtain ⟨h, e, h1, h2, c0⟩ := G.cell (j := j * 4) (by omega)
    obtain ⟨_, e', -, -, c1⟩ := G.cell (j := j * 4 + 1) (by omega)
    rw [e] at e'; cases e'
    obtain ⟨_, e', -, -, c2⟩ := G.cell (j := j * 4 + 2) (by omega)
    rw [e] at e'; cases e'
    obtain ⟨_, e', -, -, c3⟩ := G.cell (j := j * 4 + 3) (by omega)
    rw [e] at e'; cases e'
    have hq := G.box (p := (gs.getD j 0, Obj.qowt (rs.getD j Rw.zero).coef [])) (.inr (List.mem_append_left _ hm))
    have hI : Iv w (.slice (some ⟨gs.getD j 0, 0, none⟩) (rs.getD j Rw.zero).coef.length n) (rs.getD j Rw.zero).coef := iv_heap (by rw [← List.append_nil (List.map _ _)]; exact hq) (fun k hk => hi k (by rw [← hl]; exact hk))
    refine ⟨h, 0, some ⟨gs.getD j 0, 0, none⟩, n, e, h2, hI, ?_, ?_, ?_, ?_⟩
    · rw [Nat.zero_add, c0, r0, hl]
    · rw [Nat.zero_add, c1, r1]
    · rw [Nat.zero_add, c2, r2]
    · rw [Nat.zero_add, c3, r3]

theorem kin_at {b : Nat} {ks : List Ky} (hb : b < w0.heap.size) (hc : ∀ j u, (kyVs ks)[j]? = some u → w0.cell? ⟨b, j, none⟩ = some u) (B : Below w0.heap.size w0 w) {i : Nat} (hi : i < ks.length) (j : Nat) (hj : j < 9) (u : Value) (hu : (ks.getD i Ky.zero).vs[j]? = some u) : w.cell? ⟨b, i * 9 + j, none⟩ = some u := by
  rw [B.cell (p := ⟨b, i * 9 + j, none⟩) hb]
  exact hc _ _ (by rw [kyVs_at ks i j hi hj]; exact hu)
theorem MK.at0 {b : Nat} {cs : Array Value} {t : TypeId} (M : MK w0 g n rs ((b, .cells cs t) :: l) w) (k : Nat) (u : Value) (h : cs[k]? = some u) : w.cell? ⟨b, k, none⟩ = some u := by
  rw [cellOf (M.box (p := (b, .cells cs t)) (.head _))]
  exact h
def five (k : Ky) : List Int := [k.P, k.V, k.H, k.DV, k.DP]
theorem five_in {k : Ky} (h : KyOk k) {j : Nat} (hj : j < 5) : -100000 ≤ (five k).getD j 0 ∧ (five k).getD j 0 ≤ 100000 := by
  obtain ⟨h1, h2, h3, h4, h5, -⟩ := h
  rcases (show j = 0 ∨ j = 1 ∨ j = 2 ∨ j = 3 ∨ j = 4 by omega) with rfl | rfl | rfl | rfl | rfl
  · exact h1
  · exact h2
  · exact h3
  · exact h4
  · exact h5
theorem take_key {ks : List Ky} {i : Nat} (h : i < ks.length) : ks.take (i + 1) = ks.take i ++ [ks.getD i Ky.zero] := by
  rw [List.take_add_one, List.getElem?_eq_getElem h, List.getD_eq_getElem?_getD, List.getElem?_eq_getElem h]; rfl
set_option maxHeartbeats 8000000 in
set_option maxRecDepth 100000 in
theorem rows_any (v : Value) (ks : List Ky) (w : World) (h : Kin w v ks) (h1 : 1 ≤ ks.length) (h5 : ks.length ≤ 5) (hk : ∀ i, i < ks.length → KyOk (ks.getD i Ky.zero)) (hT : ∀ i, i < ks.length → i ≠ 0 → (ks.getD i Ky.zero).T = 100) :
    Calls Tryz.prog 13 #[.agg (#[.int .i64 100, .int .i64 50, .int .i64 5, .int .i64 5, .int .i64 2097152, .int .i64 33554432, .int .i64 32768, .int .i64 32768, .int .i64 32768, .int .i64 32768, .int .i64 4, .int .i64 1, .int .i64 2, .int .i64 8, .int .i64 12, .int .i64 6, .int .i64 0]), v] w fun e w' => (∃ u, e = .returned (.tuple #[u, .int .i64 0]) ∧ Rws w' u (rowsP (2 * ks.length + 1) ks)) ∧ Below w.heap.size w w' := by
  obtain ⟨n, hn⟩ : ∃ n, n = 2 * ks.length + 1 := ⟨_, rfl⟩
  have hnz : 2 * (ks.length : Int) + 1 = (n : Int) := by omega
  rw [← hn]
  have HN := Lib.hid hn
  clear hn
  have K := Lib.hid (Keep.begin1 w (.cells (#[.int .i64 100, .int .i64 50, .int .i64 5, .int .i64 5, .int .i64 2097152, .int .i64 33554432, .int .i64 32768, .int .i64 32768, .int .i64 32768, .int .i64 32768, .int .i64 4, .int .i64 1, .int .i64 2, .int .i64 8, .int .i64 12, .int .i64 6, .int .i64 0]) 41))
  obtain ⟨b, c, rfl, hb, hc⟩ := h
  have HC := Lib.hid hc; have HK := Lib.hid hk; have HT := Lib.hid hT
  clear hc hk hT
  go_enter Tryz.func13, Tryz.ntmps13
  go_upto_region 1 with fail
  (refine out_keep K.out ?_; clear K; intro W K; replace K := Lib.hid K)
  go_step
  refine wpList_load_row rfl 41 _ rfl w.heap.size rfl 41 _ (0, 0) _ (K.out.gb (.head _)) Tryz.underlying41 rfl (by kernel_rfl) ?_
  simp only [Act.put, List.setIfInBounds_toArray, List.set_cons_zero, List.set_cons_succ]
  go_wp2_with fail
  refine (callsIn_wide.1 (check_any genA genA_ok 100 50 5 5 2097152 33554432 32768 32768 32768 32768 4 1 2 8 12 6 0 (fun k hk => by
    rcases (show k = 0 ∨ k = 1 ∨ k = 2 ∨ k = 3 ∨ k = 4 ∨ k = 5 ∨ k = 6 ∨ k = 7 ∨ k = 8 ∨ k = 9 ∨ k = 10 ∨ k = 11 ∨ k = 12 ∨ k = 13 ∨ k = 14 ∨ k = 15 ∨ k = 16 by omega) with rfl | rfl | rfl | rfl | rfl | rfl | rfl | rfl | rfl | rfl | rfl | rfl | rfl | rfl | rfl | rfl | rfl <;> rfl) _)).mono ?_
  rintro e w2 ⟨rfl, hb2⟩
  replace K := Lib.hid (Keep.stays _ _ K.out hb2)
  clear hb2
  have hk1 : (1 : Int) ≤ (ks.length : Int) := by omega
  have hk5 : (ks.length : Int) ≤ 5 := by omega
  go_upto_region 6 with fail
  (have x0 := K.out.cell (k := 0) (.head _) rfl; have x1 := K.out.cell (k := 1) (.head _) rfl; have x2 := K.out.cell (k := 2) (.head _) rfl; have x3 := K.out.cell (k := 3) (.head _) rfl; have x4 := K.out.cell (k := 4) (.head _) rfl; have x5 := K.out.cell (k := 5) (.head _) rfl; have x6 := K.out.cell (k := 6) (.head _) rfl; have x7 := K.out.cell (k := 7) (.head _) rfl; have x8 := K.out.cell (k := 8) (.head _) rfl; have x9 := K.out.cell (k := 9) (.head _) rfl; have x10 := K.out.cell (k := 10) (.head _) rfl; have x11 := K.out.cell (k := 11) (.head _) rfl; have x12 := K.out.cell (k := 12) (.head _) rfl; have x13 := K.out.cell (k := 13) (.head _) rfl; have x14 := K.out.cell (k := 14) (.head _) rfl; have x15 := K.out.cell (k := 15) (.head _) rfl; have x16 := K.out.cell (k := 16) (.head _) rfl)
  go_upto_region 7 with fail
  (clear x0 x1 x2 x3 x4 x5 x6 x7 x8 x9 x10 x11 x12 x13 x14 x15 x16)
  clear hnz
  have M := Lib.hid (MK.start (K.out.alloc (.cells (mkc n (.slice none 0 0)) 87)))
  simp only [mkc] at M
  generalize w2.heap.size = g at *
  generalize w2.alloc _ = W3 at *
  clear K
  go_wp2_with fail
  go_loopg [38] ks.length (fun gk iv wr => ∃ i : Nat, gk + i = ks.length ∧ iv = .int .i64 (i : Int) ∧ MK w g n (keysRows n 0 (ks.take i)) [(w.heap.size, .cells (#[.int .i64 100, .int .i64 50, .int .i64 5, .int .i64 5, .int .i64 2097152, .int .i64 33554432, .int .i64 32768, .int .i64 32768, .int .i64 32768, .int .i64 32768, .int .i64 4, .int .i64 1, .int .i64 2, .int .i64 8, .int .i64 12, .int .i64 6, .int .i64 0]) 41)] wr)
  case atStart => exact ⟨0, by omega, rfl, M.out⟩
  case round =>
    clear M
    obtain ⟨i, hgi, rfl, m⟩ := hrel
    have M := Lib.hid m
    clear m
    by_cases hi : i < ks.length
    · have hiz : (i : Int) < (ks.length : Int) := by omega
      have hi0 : (0 : Int) ≤ (i : Int) := by omega
      have HTK := Lib.hid (take_key hi)
      have HOK := Lib.hid (HK.out i hi)
      have HTT := Lib.hid (HT.out i hi)
      have hat := kin_at hb HC.out M.out.B hi
      have e0 := hat 0 (by decide) (.bool true) rfl
      have e1 := hat 1 (by decide) (.bool true) rfl
      have e2 := hat 2 (by decide) (.bool true) rfl
      have e3 := hat 3 (by decide) (.int .i64 (ks.getD i Ky.zero).P) rfl
      have e4 := hat 4 (by decide) (.int .i64 (ks.getD i Ky.zero).V) rfl
      have e5 := hat 5 (by decide) (.int .i64 (ks.getD i Ky.zero).H) rfl
      have e6 := hat 6 (by decide) (.int .i64 (ks.getD i Ky.zero).DV) rfl
      have e7 := hat 7 (by decide) (.int .i64 (ks.getD i Ky.zero).DP) rfl
      have e8 := hat 8 (by decide) (.int .i64 (ks.getD i Ky.zero).T) rfl
      rw [Nat.add_zero] at e0
      clear hat
      generalize ks.getD i Ky.zero = ky at *
      go_upto_region 10 with fail
      clear e0 e1 e2 e3 e4 e5 e6 e7 e8
      replace M := Lib.hid (M.out.alloc (.cells (#[.bool true, .bool true, .bool true, .int .i64 ky.P, .int .i64 ky.V, .int .i64 ky.H, .int .i64 ky.DV, .int .i64 ky.DP, .int .i64 ky.T]) 51))
      generalize wr.heap.size = kc at *
      generalize wr.alloc _ = W4 at *
      (have b0 := (M.out).at0 0 (.bool true) rfl; have b1 := (M.out).at0 1 (.bool true) rfl; have b2 := (M.out).at0 2 (.bool true) rfl; have b3 := (M.out).at0 3 (.int .i64 ky.P) rfl; have b4 := (M.out).at0 4 (.int .i64 ky.V) rfl; have b5 := (M.out).at0 5 (.int .i64 ky.H) rfl; have b6 := (M.out).at0 6 (.int .i64 ky.DV) rfl; have b7 := (M.out).at0 7 (.int .i64 ky.DP) rfl; have b8 := (M.out).at0 8 (.int .i64 ky.T) rfl)
      go_wp2_with fail
      (clear b0 b1 b2 b3 b4 b5 b6 b7 b8)
      replace M := Lib.hid (M.out.alloc (.cells #[.int .i64 ky.P, .int .i64 ky.V, .int .i64 ky.H, .int .i64 ky.DV, .int .i64 ky.DP] 2))
      generalize W4.heap.size = bl at *
      generalize W4.alloc _ = W5 at *
      go_loopg [55] 5 (fun gk2 jv wr2 => ∃ j : Nat, gk2 + j = 5 ∧ jv = .int .i64 (j : Int) ∧ MK w g n (keysRows n 0 (ks.take i)) [(bl, .cells #[.int .i64 ky.P, .int .i64 ky.V, .int .i64 ky.H, .int .i64 ky.DV, .int .i64 ky.DP] 2), (kc, .cells (#[.bool true, .bool true, .bool true, .int .i64 ky.P, .int .i64 ky.V, .int .i64 ky.H, .int .i64 ky.DV, .int .i64 ky.DP, .int .i64 ky.T]) 51), (w.heap.size, .cells (#[.int .i64 100, .int .i64 50, .int .i64 5, .int .i64 5, .int .i64 2097152, .int .i64 33554432, .int .i64 32768, .int .i64 32768, .int .i64 32768, .int .i64 32768, .int .i64 4, .int .i64 1, .int .i64 2, .int .i64 8, .int .i64 12, .int .i64 6, .int .i64 0]) 41)] wr2)
      case atStart => exact ⟨0, by omega, rfl, M.out⟩
      case round =>
        clear M
        obtain ⟨j, hgj, rfl, m⟩ := hrel
        have M := Lib.hid m
        clear m
        by_cases hj : j < 5
        · have hjz : (j : Int) < 5 := by omega
          have hj0 : (0 : Int) ≤ (j : Int) := by omega
          obtain ⟨x1, x2⟩ := five_in HOK.out hj
          have ex := M.out.at0 j (.int .i64 ((five ky).getD j 0)) (by rcases (show j = 0 ∨ j = 1 ∨ j = 2 ∨ j = 3 ∨ j = 4 by omega) with rfl | rfl | rfl | rfl | rfl <;> rfl)
          generalize (five ky).getD j 0 = x at *
          go_wp2_with fail
          refine (out_any x (-100000) 100000 _).mono ?_
          rintro e w6 ⟨rfl, hb6⟩
          have hd1 : decide (x < -100000) = false := decide_eq_false (by omega)
          have hd2 : decide (100000 < x) = false := decide_eq_false (by omega)
          rw [hd1, hd2]
          replace M := Lib.hid (M.out.stay hb6)
          clear hb6 ex hd1 hd2
          go_wp2_with fail
          go_roundg (gk - 1)
          case measure => omega
          case rel => exact ⟨j + 1, by omega, congrArg (Value.int .i64) (by omega), M.out⟩
        · have hjz : ¬ (j : Int) < 5 := by omega
          (have b0 := (M.out.drop).at0 0 (.bool true) rfl; have b1 := (M.out.drop).at0 1 (.bool true) rfl; have b2 := (M.out.drop).at0 2 (.bool true) rfl; have b3 := (M.out.drop).at0 3 (.int .i64 ky.P) rfl; have b4 := (M.out.drop).at0 4 (.int .i64 ky.V) rfl; have b5 := (M.out.drop).at0 5 (.int .i64 ky.H) rfl; have b6 := (M.out.drop).at0 6 (.int .i64 ky.DV) rfl; have b7 := (M.out.drop).at0 7 (.int .i64 ky.DP) rfl; have b8 := (M.out.drop).at0 8 (.int .i64 ky.T) rfl)
          have ht : ky.T ≤ 1000 := HOK.out.2.2.2.2.2.2
          go_upto_region 18 with fail
          go_wp2_with fail
          have hlen := keysRows_len n (ks.take i) 0
          rw [List.length_take] at hlen
          have hn2 := HN.out
          refine (key_any g n i ky.P ky.V ky.H ky.DV ky.DP ky.T _ _ M.out (by omega) (by omega) (by omega) HTT.out HOK.out.2.2.2.2.1).mono ?_
          rintro e w7 ⟨rfl, m⟩
          have M2 := Lib.hid m.drop.drop
          clear m M hlen hn2
          have ht2 : keysRows n 0 (ks.take i) ++ keyRows n i ky.P ky.V ky.H ky.DV ky.DP = keysRows n 0 (ks.take (i + 1)) := by
            rw [HTK.out, keysRows_app, List.length_take, Nat.min_eq_left (Nat.le_of_lt hi), Nat.zero_add]
          rw [ht2] at M2
          (clear b0 b1 b2 b3 b4 b5 b6 b7 b8)
          go_wp2_with fail
          go_roundg (ks.length - i - 1)
          case measure => omega
          case rel => exact ⟨i + 1, by omega, congrArg (Value.int .i64) (by omega), M2.out⟩
    · have hie : i = ks.length := by omega
      have hiz : ¬ (i : Int) < (ks.length : Int) := by omega
      rw [hie, List.take_length] at M
      have K9 := Lib.hid M.out.top
      obtain ⟨v9, hv9⟩ := K9.out
      have g0 : wr.cell? ⟨g, 0, none⟩ = some (.int .i64 n) := by rw [cellOf hv9]; rfl
      clear K9 hv9
      have hn0 := HN.out
      have hn1 : (2 : Int) ≤ (n : Int) := by omega
      have hn11 : (n : Int) ≤ 11 := by omega
      clear hn0
      have hlen := keysRows_len n ks 0
      go_wp2_with fail
      have M2 := Lib.hid (M.out.alloc (.cells (List.map (Value.int .i64) [(n : Int) - 1, 1]).toArray 2))
      refine (row_any g n 3 1 0 _ [(n : Int) - 1, 1] _ _ M2.out (iv_heap (M2.out.box (.head _)) (all64 (by intro x hx; simp only [List.mem_cons, List.not_mem_nil, or_false] at hx; rcases hx with rfl | rfl <;> (unfold i64; omega)))) (by decide) rfl (by decide) (fun j hj => (by rcases (show j = 0 ∨ j = 1 ∨ j = 2 by omega) with rfl | rfl | rfl <;> first | (exfalso; omega) | exact ⟨(show (0 : Int) ≤ ((n : Int) - 1) by omega), (show ((n : Int) - 1) < (n : Int) by omega)⟩ | exact ⟨(show (0 : Int) ≤ ((n : Int) - 1) by omega), (show ((n : Int) - 1) < (n : Int) by omega)⟩ | exact ⟨(show (0 : Int) ≤ ((n : Int) - 1) by omega), (show ((n : Int) - 1) < (n : Int) by omega)⟩)) (by omega) (by omega)).mono ?_
      rintro e w7 ⟨rfl, m⟩
      have M3 : Hid (MK w g n (rowsP n ks) _ w7) := Lib.hid m
      clear m M2 M g0
      obtain ⟨v9, hrw, hv9⟩ := M3.out.rows (by unfold rowsP; simp)
      have g18 : w7.cell? ⟨g, 18, none⟩ = some v9 := by rw [cellOf hv9]; rfl
      have HRW := Lib.hid hrw
      obtain ⟨VB, vc, rfl, -⟩ := hrw
      clear hv9
      go_wp2_with fail
      refine bodyPost_ret (results_tmp2 Tryz.results13 _ _ _) rfl ?_
      exact ⟨⟨_, rfl, HRW.out⟩, M3.out.B⟩
end Go.Proofs.YtmidifgnpjlgcaaGreat
/- Plain: what Solve finds costs no more than what it began from. -/
set_option linter.unusedVariables false
set_option linter.unusedSimpArgs false
namespace Go.Proofs.YtmidifgnpjlgcaaGreat
open Go.RowKit

theorem raiseP_le (n : Nat) (rs : List Rw) : ∀ (k r : Nat) (z : Rz), cost rs (raiseP n rs k r z).1.X ≤ cost rs z.X
  | 0, _, z => Int.le_refl _
  | k + 1, r, z => by
    rw [raiseP]
    split
    · exact raiseP_le n rs k (r + 1) z
    · rename_i ds _
      simp only []
      split
      · exact Int.le_refl _
      · split
        · exact raiseP_le n rs k (r + 1) _
        · split
          · rename_i h
            exact Int.le_of_lt h
          · exact raiseP_le n rs k (r + 1) _
theorem solveP_le (n : Nat) (rs : List Rw) (rounds raises : Nat) (flat : Int) : ∀ (f : Nat) (z : Rz), cost rs (solveP n rs rounds raises flat f z).X ≤ cost rs z.X
  | 0, z => Int.le_refl _
  | f + 1, z => by
    rw [solveP]
    split
    · exact Int.le_refl _
    · split
      · exact Int.le_refl _
      · have h := raiseP_le n rs (raises + 1) 0 { z with st := 5 }
        simp only []
        split
        · exact Int.le_trans (solveP_le n rs rounds raises flat f _) h
        · exact h
/-- What is found is not more than what it began from. -/
theorem solveP_not (n : Nat) (rs : List Rw) (rounds raises : Nat) (flat : Int) (f : Nat) (xs : List Int) : decide (cost rs xs < cost rs (solveP n rs rounds raises flat f ⟨xs, 0, 0, 0⟩).X) = false :=
  decide_eq_false (Int.not_lt.2 (solveP_le n rs rounds raises flat f ⟨xs, 0, 0, 0⟩))
/-- The list that Solve tells is as long as the one that it began from. -/
theorem raiseP_len (n : Nat) (rs : List Rw) : ∀ (k r : Nat) (z : Rz), (raiseP n rs k r z).1.X.length = z.X.length
  | 0, _, z => rfl
  | k + 1, r, z => by
    rw [raiseP]
    split
    · exact raiseP_len n rs k (r + 1) z
    · simp only []
      split
      · rfl
      · split
        · exact raiseP_len n rs k (r + 1) _
        · split
          · simp [mvP]
          · exact raiseP_len n rs k (r + 1) _
theorem solveP_len (n : Nat) (rs : List Rw) (rounds raises : Nat) (flat : Int) : ∀ (f : Nat) (z : Rz), (solveP n rs rounds raises flat f z).X.length = z.X.length
  | 0, z => rfl
  | f + 1, z => by
    rw [solveP]
    split
    · rfl
    · split
      · rfl
      · have h := raiseP_len n rs (raises + 1) 0 { z with st := 5 }
        simp only []
        split
        · exact (solveP_len n rs rounds raises flat f _).trans h
        · exact h
/-- Its numbers are within what a state has. -/
theorem raiseP_sb (n : Nat) (rs : List Rw) : ∀ (k r : Nat) (z : Rz), stateB z.X = true → stateB (raiseP n rs k r z).1.X = true
  | 0, _, z => fun h => h
  | k + 1, r, z => fun h => by
    rw [raiseP]
    split
    · exact raiseP_sb n rs k (r + 1) z h
    · simp only []
      split
      · exact h
      · split
        · exact raiseP_sb n rs k (r + 1) _ h
        · rename_i hs
          split
          · exact (Bool.not_eq_false _).mp hs
          · exact raiseP_sb n rs k (r + 1) _ h
theorem solveP_sb (n : Nat) (rs : List Rw) (rounds raises : Nat) (flat : Int) : ∀ (f : Nat) (z : Rz), stateB z.X = true → stateB (solveP n rs rounds raises flat f z).X = true
  | 0, z => fun h => h
  | f + 1, z => fun h => by
    rw [solveP]
    split
    · exact h
    · split
      · exact h
      · have h := raiseP_sb n rs (raises + 1) 0 { z with st := 5 } h
        simp only []
        split
        · exact solveP_sb n rs rounds raises flat f _ h
        · exact h
end Go.Proofs.YtmidifgnpjlgcaaGreat
/- Plain: sweeping a matrix whose steps are told by tables; what Step finds then. -/
set_option linter.unusedVariables false
set_option linter.unusedSimpArgs false
namespace Go.Proofs.YtmidifgnpjlgcaaGreat
open Go.RowKit

theorem sumTo_nil {f : Nat → Int} : ∀ n, (∀ j, j < n → f j = 0) → sumTo f n = 0
  | 0, _ => rfl
  | n + 1, h => by
    show sumTo f n + f n = 0
    rw [sumTo_nil n (fun j hj => h j (by omega)), h n (by omega)]
    rfl
theorem sumTo_one {f : Nat → Int} {i : Nat} : ∀ n, i < n → (∀ j, j < n → j ≠ i → f j = 0) → sumTo f n = f i
  | n + 1, hi, h => by
    show sumTo f n + f n = f i
    by_cases e : i = n
    · subst e
      rw [sumTo_nil i (fun j hj => h j (by omega) (by omega)), Int.zero_add]
    · rw [sumTo_one n (by omega) (fun j hj => h j (by omega)), h n (by omega) (by omega), Int.add_zero]
theorem sumTo_mul (c : Int) (f : Nat → Int) : ∀ n, sumTo (fun j => c * f j) n = c * sumTo f n
  | 0 => by show (0 : Int) = c * 0; omega
  | n + 1 => by
    show sumTo (fun j => c * f j) n + c * f n = c * (sumTo f n + f n)
    rw [sumTo_mul c f n, Int.mul_add]
theorem sumTo_add (f g : Nat → Int) : ∀ n, sumTo (fun j => f j + g j) n = sumTo f n + sumTo g n
  | 0 => rfl
  | n + 1 => by
    show sumTo (fun j => f j + g j) n + (f n + g n) = (sumTo f n + f n) + (sumTo g n + g n)
    rw [sumTo_add f g n]
    omega
theorem sumTo_swap (f : Nat → Nat → Int) (m : Nat) : ∀ n, sumTo (fun i => sumTo (fun j => f i j) m) n = sumTo (fun j => sumTo (fun i => f i j) n) m
  | 0 => (sumTo_nil m (fun j _ => rfl)).symm
  | n + 1 => by
    show sumTo (fun i => sumTo (fun j => f i j) m) n + sumTo (fun j => f n j) m = sumTo (fun j => sumTo (fun i => f i j) n + f n j) m
    rw [sumTo_swap f m n, ← sumTo_add]
theorem sum_step {s f g h : Nat → Int} {p q l : Int} : ∀ m, (∀ j, j < m → p * f j - q * g j = h j * l) → p * sumTo (fun j => s j * f j) m - q * sumTo (fun j => s j * g j) m = sumTo (fun j => s j * h j) m * l
  | 0, _ => by show p * 0 - q * 0 = 0 * l; omega
  | m + 1, H => by
    have ih := sum_step (s := s) m (fun j hj => H j (by omega))
    have e := H m (by omega)
    show p * (sumTo (fun j => s j * f j) m + s m * f m) - q * (sumTo (fun j => s j * g j) m + s m * g m) = (sumTo (fun j => s j * h j) m + s m * h m) * l
    generalize sumTo (fun j => s j * f j) m = a at *
    generalize sumTo (fun j => s j * g j) m = b at *
    generalize sumTo (fun j => s j * h j) m = c at *
    grind

def lastT (T : Nat → Nat → Nat → Int) : Nat → Int
  | 0 => 1
  | k + 1 => T k k k
/-- The tables of the steps. -/
structure Tabs (n : Nat) (T : Nat → Nat → Nat → Int) : Prop where
  piv : ∀ k, k < n → 0 < T k k k
  row : ∀ k j, k < n → j < n → T (k + 1) k j = T k k j
  off : ∀ k i j, k < n → i < n → j < n → i ≠ k → T k k k * T k i j - T k i k * T k k j = T (k + 1) i j * lastT T k
  done : ∀ i j, i < n → j < n → T n i j = if i = j then T n (n - 1) (n - 1) else 0
  sym : ∀ i j, i < n → j < n → T 0 i j = T 0 j i
theorem lastT_pos {n : Nat} {T : Nat → Nat → Nat → Int} (h : Tabs n T) : ∀ k, k < n → lastT T k ≠ 0
  | 0, _ => by show (1 : Int) ≠ 0; decide
  | k + 1, hk => by have := h.piv k (by omega); show T k k k ≠ 0; omega
theorem Tabs.go {n : Nat} {T : Nat → Nat → Nat → Int} (h : Tabs n T) (m : Nat) (hm : m ≤ n) (s : Nat → Int) : ∀ r k M, k + r = m → (∀ i j, i < m → j < m → M i j = T k i j) → (∀ i, i < m → M i m = sumTo (fun j => s j * T k i j) m) →
    ∃ M', swGo m r k (lastT T k) false M = some (M', false) ∧ (∀ i j, i < m → j < m → M' i j = T m i j) ∧ ∀ i, i < m → M' i m = sumTo (fun j => s j * T m i j) m
  | 0, k, M, hk, h1, h2 => by
    obtain rfl : k = m := by omega
    exact ⟨M, rfl, h1, h2⟩
  | r + 1, k, M, hk, h1, h2 => by
    have hkm : k < m := by omega
    have hp : pivF M k (m - k) k = k := by
      rw [show m - k = r + 1 by omega, pivF, if_neg (by rw [h1 k k hkm hkm]; have := h.piv k (by omega); omega)]
    have hl := lastT_pos h k (by omega)
    rw [swGo, hp, if_neg (by omega), if_pos rfl]
    have e : M k k = lastT T (k + 1) := h1 k k hkm hkm
    rw [e]
    refine Tabs.go h m hm s r (k + 1) _ (by omega) (fun i j hi hj => ?_) (fun i hi => ?_)
    · unfold swStep
      split
      · rename_i e; subst e
        rw [h1 i j hi hj, h.row i j (by omega) (by omega)]
      · rename_i e
        rw [h1 k k hkm hkm, h1 i j hi hj, h1 i k hi hkm, h1 k j hkm hj, h.off k i j (by omega) (by omega) (by omega) e, Int.mul_fdiv_cancel _ hl]
    · unfold swStep
      split
      · rename_i e; subst e
        rw [h2 i hi]
        exact sumTo_eq m (fun j hj => by rw [h.row i j (by omega) (by omega)])
      · rename_i e
        rw [h1 k k hkm hkm, h1 i k hi hkm, h2 i hi, h2 k hkm, sum_step m (fun j hj => h.off k i j (by omega) (by omega) (by omega) e), Int.mul_fdiv_cancel _ hl]
theorem Tabs.sweep {n : Nat} {T : Nat → Nat → Nat → Int} (h : Tabs n T) (m : Nat) (hm : m ≤ n) (s : Nat → Int) {C : Nat → Nat → Int} {b : Nat → Int} (hC : ∀ i j, i < m → j < m → C i j = T 0 i j) (hb : ∀ i, i < m → b i = sumTo (fun j => s j * T 0 i j) m) :
    ∃ M', sweepP m (aug m C b) = some (M', false) ∧ (∀ i j, i < m → j < m → M' i j = T m i j) ∧ ∀ i, i < m → M' i m = sumTo (fun j => s j * T m i j) m :=
  Tabs.go h m hm s m 0 _ (by omega) (fun i j hi hj => by unfold aug; rw [if_pos hj, hC i j hi hj]) (fun i hi => by unfold aug; rw [if_neg (by omega), hb i hi])
theorem Tabs.det {n : Nat} {T : Nat → Nat → Nat → Int} (h : Tabs n T) (m : Nat) (hm : m ≤ n) (h0 : 0 < m) {C : Nat → Nat → Int} (hC : ∀ i j, i < m → j < m → C i j = T 0 i j) : detP m C = T m (m - 1) (m - 1) := by
  obtain ⟨M, e, h1, -⟩ := h.sweep m hm (fun _ => 0) (C := C) (b := fun _ => 0) hC (fun i _ => (sumTo_nil m (fun j _ => Int.zero_mul _)).symm)
  unfold detP
  rw [e]
  simp only [Bool.false_eq_true, if_false]
  rw [if_neg (by omega)]
  exact h1 _ _ (by omega) (by omega)
theorem Tabs.pos {n : Nat} {T : Nat → Nat → Nat → Int} (h : Tabs n T) (m : Nat) (hm : m < n) : 0 < T (m + 1) m m := by
  rw [h.row m m hm hm]
  exact h.piv m hm
theorem Tabs.definite {n : Nat} {T : Nat → Nat → Nat → Int} (h : Tabs n T) {C : Nat → Nat → Int} (hC : ∀ i j, i < n → j < n → C i j = T 0 i j) : defP n C = true := by
  refine decide_eq_true (fun i hi => ⟨fun j hj => ?_, ?_⟩)
  · rw [hC i j hi (by omega), hC j i (by omega) hi, h.sym i j hi (by omega)]
  · rw [h.det (i + 1) (by omega) (by omega) (fun a b ha hb => hC a b (by omega) (by omega))]
    exact h.pos i hi
theorem near_exact {d s : Int} (hd : 0 < d) (h1 : -10000000 ≤ s) (h2 : s ≤ 10000000) : nearP (s * d) d = s := by
  have e : Int.fdiv (s * d * 2 + d) (d * 2) = s := by
    rw [Int.fdiv_eq_ediv_of_nonneg _ (by omega)]
    have e2 : s * d * 2 + d = d + d * 2 * s := by grind
    rw [e2, Int.add_mul_ediv_left _ _ (by omega), Int.ediv_eq_zero_of_lt (by omega) (by omega), Int.zero_add]
  unfold nearP
  rw [e]
  omega
/-- Of equations whose right side is the matrix, times numbers, the solution is these numbers. -/
theorem Tabs.solve {n : Nat} {T : Nat → Nat → Nat → Int} (h : Tabs n T) (h0 : 0 < n) (s : Nat → Int) {C : Nat → Nat → Int} {b : Nat → Int} (hC : ∀ i j, i < n → j < n → C i j = T 0 i j) (hb : ∀ i, i < n → b i = sumTo (fun j => s j * T 0 i j) n) :
    ∃ M', sweepP n (aug n C b) = some (M', false) ∧ ∀ i, i < n → M' i n = s i * detP n C := by
  obtain ⟨M, e, -, h2⟩ := h.sweep n (Nat.le_refl n) s hC hb
  refine ⟨M, e, fun i hi => ?_⟩
  rw [h2 i hi, h.det n (Nat.le_refl n) h0 hC, sumTo_one n hi (fun j hj hne => by rw [h.done i j hi hj, if_neg (by omega), Int.mul_zero]), h.done i i hi hi, if_pos rfl]
/-- Numbers that the matrix makes nothing are nothing. -/
theorem Tabs.none {n : Nat} {T : Nat → Nat → Nat → Int} (h : Tabs n T) (h0 : 0 < n) (s : Nat → Int) (hz : ∀ i, i < n → sumTo (fun j => s j * T 0 i j) n = 0) : ∀ i, i < n → s i = 0 := by
  obtain ⟨M, e, h1⟩ := h.solve h0 s (C := T 0) (b := fun _ => 0) (fun _ _ _ _ => rfl) (fun i hi => (hz i hi).symm)
  obtain ⟨M2, e2, h2⟩ := h.solve h0 (fun _ => 0) (C := T 0) (b := fun _ => 0) (fun _ _ _ _ => rfl) (fun i hi => (sumTo_nil n (fun j _ => Int.zero_mul _)).symm)
  have hM : M = M2 := by
    have := e.symm.trans e2
    injection this with this
    injection this with this
  intro i hi
  have a := h1 i hi
  have b := h2 i hi
  rw [hM, b, h.det n (Nat.le_refl n) h0 (fun _ _ _ _ => rfl), Int.zero_mul] at a
  have p := h.pos (n - 1) (by omega)
  rw [show n - 1 + 1 = n by omega] at p
  rcases Int.mul_eq_zero.1 a.symm with hs | hd
  · exact hs
  · omega
end Go.Proofs.YtmidifgnpjlgcaaGreat
/- Plain: rows that a state answers to the last digit: Solve finds that state in one step. -/
set_option linter.unusedVariables false
set_option linter.unusedSimpArgs false
namespace Go.Proofs.YtmidifgnpjlgcaaGreat
open Go.RowKit

def tdot (c s : List Int) : Int := sumTo (fun j => c.getD j 0 * s.getD j 0) c.length
def trow (s : List Int) (p : List Int × Int) : Rw := ⟨p.1, tdot p.1 s, 32768, p.2⟩
def trows (sh : List (List Int × Int)) (s : List Int) : List Rw := sh.map (trow s)
def shAt (sh : List (List Int × Int)) (k : Nat) : List Int × Int := sh.getD k ([], 0)
/-- The matrix of the rows. -/
def tC (sh : List (List Int × Int)) (i j : Nat) : Int := sumTo (fun k => (shAt sh k).2 * 1024 * (shAt sh k).1.getD i 0 * (shAt sh k).1.getD j 0) sh.length
theorem trows_at {sh : List (List Int × Int)} {s : List Int} {k : Nat} (hk : k < sh.length) : (trows sh s).getD k Rw.zero = trow s (shAt sh k) := by
  unfold trows shAt
  rw [List.getD_eq_getElem?_getD, List.getD_eq_getElem?_getD, List.getElem?_map, List.getElem?_eq_getElem hk]
  rfl
theorem trows_len (sh : List (List Int × Int)) (s : List Int) : (trows sh s).length = sh.length := List.length_map _
theorem rep_at (n j : Nat) : (List.replicate n (0 : Int)).getD j 0 = 0 := by
  rw [List.getD_eq_getElem?_getD, List.getElem?_replicate]
  split <;> rfl

/-- What is asked of shapes and a state. -/
structure Fits (n : Nat) (sh : List (List Int × Int)) (s : List Int) (T : Nat → Nat → Nat → Int) : Prop where
  pos : 0 < n
  sl : s.length = n
  len : ∀ k, k < sh.length → (shAt sh k).1.length = n
  wt : ∀ k, k < sh.length → 0 < (shAt sh k).2
  small : ∀ k, k < sh.length → -32768 ≤ tdot (shAt sh k).1 s ∧ tdot (shAt sh k).1 s ≤ 32768
  tabs : Tabs n T
  mat : ∀ i j, i < n → j < n → T 0 i j = tC sh i j
  sb : ∀ j, j < n → -1000 ≤ s.getD j 0 ∧ s.getD j 0 ≤ 1000

variable {n : Nat} {sh : List (List Int × Int)} {s : List Int} {T : Nat → Nat → Nat → Int}
theorem Fits.res0 (h : Fits n sh s T) {k : Nat} (hk : k < sh.length) : residual (trow s (shAt sh k)) (List.replicate n 0) = -tdot (shAt sh k).1 s := by
  have hz : sumTo (fun j => (shAt sh k).1.getD j 0 * (List.replicate n (0 : Int)).getD j 0) (shAt sh k).1.length = 0 := sumTo_nil _ (fun j _ => by rw [rep_at, Int.mul_zero])
  have hs := h.small k hk
  show max (-1000000000) (min (-tdot (shAt sh k).1 s + sumTo (fun j => (shAt sh k).1.getD j 0 * (List.replicate n (0 : Int)).getD j 0) (shAt sh k).1.length) 1000000000) = _
  rw [hz]
  omega
theorem Fits.resS (h : Fits n sh s T) (k : Nat) : residual (trow s (shAt sh k)) s = 0 := by
  show max (-1000000000) (min (-tdot (shAt sh k).1 s + tdot (shAt sh k).1 s) 1000000000) = 0
  omega
theorem Fits.share0 (h : Fits n sh s T) {k : Nat} (hk : k < sh.length) : share (trow s (shAt sh k)) (List.replicate n 0) = 1024 := by
  unfold share
  rw [h.res0 hk, if_pos]
  have := h.small k hk
  show max (-tdot (shAt sh k).1 s) (- -tdot (shAt sh k).1 s) ≤ 32768
  omega
theorem Fits.curve (h : Fits n sh s T) {i j : Nat} (hi : i < n) (hj : j < n) : curveF (trows sh s) (List.replicate n 0) i j = T 0 i j := by
  rw [h.mat i j hi hj]
  unfold curveF curveS tC
  rw [trows_len]
  refine sumTo_eq _ (fun k hk => ?_)
  rw [trows_at hk]
  have e : (shs (trows sh s) (List.replicate n 0)).getD k 0 = (shAt sh k).2 * 1024 := by
    unfold shs
    have hk2 : k < (trows sh s).length := by rw [trows_len]; exact hk
    rw [List.getD_eq_getElem?_getD, List.getElem?_map, List.getElem?_eq_getElem hk2]
    have e2 := trows_at (s := s) hk
    rw [List.getD_eq_getElem?_getD, List.getElem?_eq_getElem hk2, Option.getD_some] at e2
    show (trows sh s)[k].weight * share ((trows sh s)[k]) (List.replicate n 0) = _
    rw [e2, h.share0 hk]
    rfl
  rw [e]
  rfl
theorem Fits.stepM (h : Fits n sh s T) {i j : Nat} (hi : i < n) (hj : j < n) : stepM (trows sh s) (List.replicate n 0) 0 i j = T 0 i j := by
  show damF (dampP 0) (curveF (trows sh s) (List.replicate n 0)) i j = T 0 i j
  unfold damF
  split
  · rename_i e; subst e
    rw [h.curve hi hi]
    exact Int.add_zero _
  · exact h.curve hi hj
theorem stl_at (r : Rw) (xs : List Int) {j : Nat} (hj : j < r.coef.length) : (stl r xs).getD j 0 = r.coef.getD j 0 * stp r xs := by
  unfold stl
  rw [List.getD_eq_getElem?_getD, List.getElem?_map, List.getElem?_eq_getElem hj, List.getD_eq_getElem?_getD, List.getElem?_eq_getElem hj]
  rfl
theorem Fits.stp0 (h : Fits n sh s T) {k : Nat} (hk : k < sh.length) : stp (trow s (shAt sh k)) (List.replicate n 0) = (shAt sh k).2 * -tdot (shAt sh k).1 s := by
  show (shAt sh k).2 * slope (residual (trow s (shAt sh k)) (List.replicate n 0)) 32768 = _
  rw [h.res0 hk]
  unfold slope
  rw [if_pos]
  have := h.small k hk
  omega
theorem Fits.steep0 (h : Fits n sh s T) {j : Nat} (hj : j < n) : steepF (trows sh s) (List.replicate n 0) j = sumTo (fun k => (shAt sh k).1.getD j 0 * ((shAt sh k).2 * -tdot (shAt sh k).1 s)) sh.length := by
  unfold steepF
  rw [trows_len]
  refine sumTo_eq _ (fun k hk => ?_)
  rw [trows_at hk, stl_at _ _ (by show j < (shAt sh k).1.length; rw [h.len k hk]; exact hj), h.stp0 hk]
  rfl
theorem Fits.steepS (h : Fits n sh s T) {j : Nat} (hj : j < n) : steepF (trows sh s) s j = 0 := by
  unfold steepF
  rw [trows_len]
  refine sumTo_nil _ (fun k hk => ?_)
  rw [trows_at hk, stl_at _ _ (by show j < (shAt sh k).1.length; rw [h.len k hk]; exact hj)]
  have : stp (trow s (shAt sh k)) s = 0 := by
    show (shAt sh k).2 * slope (residual (trow s (shAt sh k)) s) 32768 = 0
    rw [h.resS k]
    show (shAt sh k).2 * 0 = 0
    exact Int.mul_zero _
  rw [this, Int.mul_zero]
theorem Fits.rhs (h : Fits n sh s T) {i : Nat} (hi : i < n) : stepB (trows sh s) (List.replicate n 0) i = sumTo (fun j => s.getD j 0 * T 0 i j) n := by
  have e1 : sumTo (fun j => s.getD j 0 * T 0 i j) n = sumTo (fun j => sumTo (fun k => s.getD j 0 * ((shAt sh k).2 * 1024 * (shAt sh k).1.getD i 0 * (shAt sh k).1.getD j 0)) sh.length) n :=
    sumTo_eq n (fun j hj => by rw [h.mat i j hi hj]; unfold tC; rw [← sumTo_mul])
  rw [e1, sumTo_swap]
  show steepF (trows sh s) (List.replicate n 0) i * -1024 = _
  rw [h.steep0 hi, Int.mul_comm, ← sumTo_mul]
  refine sumTo_eq _ (fun k hk => ?_)
  have e2 : sumTo (fun j => s.getD j 0 * ((shAt sh k).2 * 1024 * (shAt sh k).1.getD i 0 * (shAt sh k).1.getD j 0)) n = (shAt sh k).2 * 1024 * (shAt sh k).1.getD i 0 * tdot (shAt sh k).1 s := by
    unfold tdot
    rw [← sumTo_mul, h.len k hk]
    exact sumTo_eq n (fun j _ => by grind)
  rw [e2]
  grind
/-- The step from nothing is the state. -/
theorem Fits.step (h : Fits n sh s T) : stepP n (trows sh s) (List.replicate n 0) 0 = some s := by
  obtain ⟨M, e, hM⟩ := h.tabs.solve h.pos (fun j => s.getD j 0) (C := Go.Proofs.YtmidifgnpjlgcaaGreat.stepM (trows sh s) (List.replicate n 0) 0) (b := stepB (trows sh s) (List.replicate n 0)) (fun i j hi hj => h.stepM hi hj) (fun i hi => h.rhs hi)
  have hd := h.tabs.definite (C := Go.Proofs.YtmidifgnpjlgcaaGreat.stepM (trows sh s) (List.replicate n 0) 0) (fun i j hi hj => h.stepM hi hj)
  have hp : 0 < detP n (Go.Proofs.YtmidifgnpjlgcaaGreat.stepM (trows sh s) (List.replicate n 0) 0) := by
    rw [h.tabs.det n (Nat.le_refl n) h.pos (fun i j hi hj => h.stepM hi hj)]
    have p := h.tabs.pos (n - 1) (by have := h.pos; omega)
    rwa [show n - 1 + 1 = n by have := h.pos; omega] at p
  unfold stepP
  rw [hd, if_neg (by decide), e]
  simp only [Option.some.injEq]
  apply List.ext_getElem
  · simp [h.sl]
  · intro j h1 h2
    have hj : j < n := by rw [← h.sl]; exact h2
    rw [List.getElem_map, List.getElem_range]
    show nearP (numP n M false j) _ = _
    have hs := h.sb j hj
    rw [show numP n M false j = s.getD j 0 * detP n (Go.Proofs.YtmidifgnpjlgcaaGreat.stepM (trows sh s) (List.replicate n 0) 0) from hM j hj, near_exact hp (by omega) (by omega), List.getD_eq_getElem?_getD, List.getElem?_eq_getElem h2]
    rfl
theorem rho_nonneg {r : Int} (h1 : -32768 ≤ r) (h2 : r ≤ 32768) : rho r 32768 = r * r := by
  unfold rho
  rw [if_pos (by omega)]
theorem sq_pos {r : Int} (h : r ≠ 0) : 0 < r * r := by
  rcases Int.lt_trichotomy r 0 with h | h | h
  · exact Int.mul_pos_of_neg_of_neg h h
  · contradiction
  · exact Int.mul_pos h h
theorem Fits.rcost0 (h : Fits n sh s T) {k : Nat} (hk : k < sh.length) : rcost (trow s (shAt sh k)) (List.replicate n 0) = (shAt sh k).2 * (tdot (shAt sh k).1 s * tdot (shAt sh k).1 s) := by
  show (shAt sh k).2 * rho (residual (trow s (shAt sh k)) (List.replicate n 0)) 32768 = _
  have := h.small k hk
  rw [h.res0 hk, rho_nonneg (by omega) (by omega), Int.neg_mul_neg]
theorem Fits.costS (h : Fits n sh s T) : cost (trows sh s) s = 0 := by
  unfold cost
  rw [trows_len]
  refine sumTo_nil _ (fun k hk => ?_)
  rw [trows_at hk]
  show (shAt sh k).2 * rho (residual (trow s (shAt sh k)) s) 32768 = 0
  rw [h.resS k]
  show (shAt sh k).2 * 0 = 0
  exact Int.mul_zero _
theorem sumTo_nonneg {f : Nat → Int} : ∀ n, (∀ j, j < n → 0 ≤ f j) → 0 ≤ sumTo f n
  | 0, _ => Int.le_refl _
  | n + 1, h => by
    have a := sumTo_nonneg n (fun j hj => h j (by omega))
    have b := h n (by omega)
    show 0 ≤ sumTo f n + f n
    omega
theorem sumTo_pos {f : Nat → Int} {k : Nat} : ∀ n, k < n → (∀ j, j < n → 0 ≤ f j) → 0 < f k → 0 < sumTo f n
  | n + 1, hk, h, hp => by
    show 0 < sumTo f n + f n
    by_cases e : k = n
    · subst e
      have a := sumTo_nonneg k (fun j hj => h j (by omega))
      omega
    · have a := sumTo_pos n (by omega) (fun j hj => h j (by omega)) hp
      have b := h n (by omega)
      omega
theorem Fits.cost0 (h : Fits n sh s T) (hn : ¬ ∀ k, k < sh.length → tdot (shAt sh k).1 s = 0) : 0 < cost (trows sh s) (List.replicate n 0) := by
  have : ∃ k, k < sh.length ∧ tdot (shAt sh k).1 s ≠ 0 := by
    apply Classical.byContradiction
    intro hc
    exact hn (fun k hk => Classical.byContradiction (fun e => hc ⟨k, hk, e⟩))
  obtain ⟨k, hk, hne⟩ := this
  unfold cost
  rw [trows_len]
  refine sumTo_pos _ hk (fun j hj => ?_) ?_
  · rw [trows_at hj, h.rcost0 hj]
    refine Int.mul_nonneg (Int.le_of_lt (h.wt j hj)) ?_
    by_cases e : tdot (shAt sh j).1 s = 0
    · rw [e]; decide
    · exact Int.le_of_lt (sq_pos e)
  · rw [trows_at hk, h.rcost0 hk]
    exact Int.mul_pos (h.wt k hk) (sq_pos hne)
theorem Fits.zeros (h : Fits n sh s T) (hz : ∀ j, j < n → s.getD j 0 = 0) : s = List.replicate n 0 := by
  apply List.ext_getElem
  · rw [h.sl, List.length_replicate]
  · intro j h1 h2
    have := hz j (by rw [← h.sl]; exact h1)
    rw [List.getD_eq_getElem?_getD, List.getElem?_eq_getElem h1, Option.getD_some] at this
    rw [this, List.getElem_replicate]
theorem Fits.mv (h : Fits n sh s T) : mvP (List.replicate n 0) s = s := by
  symm
  refine mvP_eq (by rw [h.sl, List.length_replicate]) (fun j => ?_)
  rw [rep_at, Int.zero_add]
/-- What Solve finds. -/
theorem Fits.solve (h : Fits n sh s T) (rounds raises f : Nat) : ∃ acc tried, acc ≤ 1 ∧ solveP n (trows sh s) (rounds + 1) raises 0 (f + 2) ⟨List.replicate n 0, 0, 0, 0⟩ = ⟨s, 1, acc, tried⟩ := by
  have hS : flatB (trows sh s) s n 0 = true := decide_eq_true (fun j hj => by rw [h.steepS hj]; exact ⟨Int.le_refl _, Int.le_refl _⟩)
  rw [solveP]
  by_cases hf : flatB (trows sh s) (List.replicate n 0) n 0 = true
  · rw [if_pos hf]
    have hz : ∀ i, i < n → steepF (trows sh s) (List.replicate n 0) i = 0 := fun i hi => by
      have := of_decide_eq_true hf i hi
      omega
    have hs := h.tabs.none h.pos (fun j => s.getD j 0) (fun i hi => by
      rw [← h.rhs hi]
      show steepF (trows sh s) (List.replicate n 0) i * -1024 = 0
      rw [hz i hi, Int.zero_mul])
    rw [← h.zeros hs]
    exact ⟨0, 0, by decide, rfl⟩
  · rw [if_neg hf, if_neg (by show ¬ 0 = rounds + 1; omega)]
    have hnz : nonz s = true := by
      unfold nonz
      rw [Bool.not_eq_true', decide_eq_false_iff_not]
      intro hz
      apply hf
      rw [← h.zeros (fun j hj => hz j (by rw [h.sl]; exact hj))]
      exact hS
    have hsb : stateB s = true := decide_eq_true (fun j hj => by have := h.sb j (by rw [← h.sl]; exact hj); omega)
    have hc : cost (trows sh s) s < cost (trows sh s) (List.replicate n 0) := by
      rw [h.costS]
      refine h.cost0 (fun hz => hf ?_)
      refine decide_eq_true (fun j hj => ?_)
      have : steepF (trows sh s) (List.replicate n 0) j = 0 := by
        rw [h.steep0 hj]
        exact sumTo_nil _ (fun k hk => by rw [hz k hk]; show _ * (_ * 0) = 0; rw [Int.mul_zero, Int.mul_zero])
      rw [this]
      exact ⟨Int.le_refl _, Int.le_refl _⟩
    have hr : raiseP n (trows sh s) (raises + 1) 0 ⟨List.replicate n 0, 5, 0, 0⟩ = (⟨s, 3, 1, 1⟩, true) := by
      rw [raiseP_some h.step (st3 := 3) rfl, if_neg (by rw [hnz]; decide), h.mv, if_neg (by rw [hsb]; decide), if_pos hc]
      rfl
    simp only []
    rw [hr]
    simp only [if_true]
    rw [solveP, if_pos hS]
    exact ⟨1, 1, by decide, rfl⟩
end Go.Proofs.YtmidifgnpjlgcaaGreat
