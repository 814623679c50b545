/- Whole numbers by their digits: held against one another, turned. -/
import Derived.Test.YtehjfjdopeadfaaDs
set_option linter.unusedVariables false
set_option linter.unusedSimpArgs false
namespace Go.Proofs.Ytehjfjdopeadfaa
open Go.RowKit

def p10 : Nat → Int
  | 0 => 1
  | k + 1 => 10 * p10 k
theorem p10_pos (k : Nat) : 0 < p10 k := by
  induction k with
  | zero => decide
  | succ k ih => show 0 < 10 * p10 k; omega
def sgn (z : Int) : Int := if z < 0 then -1 else if 0 < z then 1 else 0
def zof (neg : Bool) (ds : List Int) : Int := if neg then -val ds else val ds

theorem digits_cons {d : Int} {l : List Int} (h : digits (d :: l)) : (0 ≤ d ∧ d ≤ 9) ∧ digits l := ⟨h d (List.mem_cons_self), fun x hx => h x (List.mem_cons_of_mem _ hx)⟩
theorem val_bounds (ds : List Int) : digits ds → 0 ≤ val ds ∧ val ds < p10 ds.length := by
  induction ds with
  | nil => intro _; exact ⟨by decide, by decide⟩
  | cons d l ih =>
    intro h
    obtain ⟨hd, hl⟩ := digits_cons h
    have := ih hl
    show 0 ≤ d + 10 * val l ∧ d + 10 * val l < 10 * p10 l.length
    omega
theorem val_snoc (ds : List Int) (d : Int) : val (ds ++ [d]) = val ds + p10 ds.length * d := by
  induction ds with
  | nil => show d + 10 * 0 = 0 + 1 * d; omega
  | cons x l ih =>
    show x + 10 * val (l ++ [d]) = x + 10 * val l + 10 * p10 l.length * d
    rw [ih, Int.mul_add, ← Int.mul_assoc]; omega
theorem getD_mem {ds : List Int} (h : digits ds) (k : Nat) : 0 ≤ ds.getD k 0 ∧ ds.getD k 0 ≤ 9 := by
  by_cases hk : k < ds.length
  · have := h ds[k] (List.getElem_mem hk)
    simpa [hk] using this
  · rw [List.getD_eq_getElem?_getD, List.getElem?_eq_none (by omega)]; decide
theorem take_succ {ds : List Int} {k : Nat} (hk : k < ds.length) : ds.take (k + 1) = ds.take k ++ [ds.getD k 0] := by
  rw [List.take_succ_eq_append_getElem hk]
  simp [hk]
theorem val_take_succ {ds : List Int} {k : Nat} (hk : k < ds.length) : val (ds.take (k + 1)) = val (ds.take k) + p10 k * ds.getD k 0 := by
  rw [take_succ hk, val_snoc]
  rw [show (ds.take k).length = k by simp; omega]

theorem cmpGo_sgn {a b : List Int} (ha : digits a) (hb : digits b) (k : Nat) : k ≤ a.length → k ≤ b.length → cmpGo k a b = sgn (val (a.take k) - val (b.take k)) := by
  induction k with
  | zero => intro _ _; simp [cmpGo, sgn]
  | succ k ih =>
    intro h1 h2
    rw [val_take_succ (by omega), val_take_succ (by omega)]
    have i := ih (by omega) (by omega)
    have ba := val_bounds _ (digits_take ha k)
    have bb := val_bounds _ (digits_take hb k)
    rw [show (a.take k).length = k by simp; omega] at ba
    rw [show (b.take k).length = k by simp; omega] at bb
    unfold cmpGo
    generalize val (a.take k) = x at *
    generalize val (b.take k) = y at *
    generalize a.getD k 0 = p at *
    generalize b.getD k 0 = q at *
    have e : x + p10 k * p - (y + p10 k * q) = x - y + p10 k * (p - q) := by rw [Int.mul_sub]; omega
    rw [e]
    by_cases o1 : p < q
    · rw [if_pos o1]
      have := Int.mul_le_mul_of_nonneg_left (show p - q ≤ -1 by omega) (show 0 ≤ p10 k by have := p10_pos k; omega)
      unfold sgn
      rw [if_pos (by omega)]
    · rw [if_neg o1]
      by_cases o2 : q < p
      · rw [if_pos o2]
        have := Int.mul_le_mul_of_nonneg_left (show 1 ≤ p - q by omega) (show 0 ≤ p10 k by have := p10_pos k; omega)
        unfold sgn
        rw [if_neg (by omega), if_pos (by omega)]
      · rw [if_neg o2, show p - q = 0 by omega, Int.mul_zero, Int.add_zero]
        exact i

theorem p10_mono {a b : Nat} (h : a ≤ b) : p10 a ≤ p10 b := by
  induction b with
  | zero => rw [show a = 0 by omega]; exact Int.le_refl _
  | succ b ih =>
    by_cases e : a = b + 1
    · rw [e]; exact Int.le_refl _
    · have := ih (by omega)
      have := p10_pos b
      show p10 a ≤ 10 * p10 b
      omega

theorem val_canon {ds : List Int} (h : digits ds) (hc : canon ds) (hne : ds ≠ []) : p10 (ds.length - 1) ≤ val ds := by
  have hl := hc.resolve_left hne
  have hpos : 0 < ds.length := List.length_pos_iff.2 hne
  have e := val_take_succ (ds := ds) (k := ds.length - 1) (by omega)
  rw [show ds.length - 1 + 1 = ds.length by omega, List.take_length] at e
  have b := val_bounds _ (digits_take h (ds.length - 1))
  have g := getD_mem h (ds.length - 1)
  have := Int.mul_le_mul_of_nonneg_left (show 1 ≤ ds.getD (ds.length - 1) 0 by omega) (show 0 ≤ p10 (ds.length - 1) by have := p10_pos (ds.length - 1); omega)
  omega

theorem val_pos {ds : List Int} (h : digits ds) (hc : canon ds) (hne : ds ≠ []) : 0 < val ds := by
  have := val_canon h hc hne
  have := p10_pos (ds.length - 1)
  omega

theorem cmpD_sgn {a b : List Int} (ha : digits a) (hb : digits b) (ca : canon a) (cb : canon b) : cmpD a b = sgn (val a - val b) := by
  have key : ∀ {a b : List Int}, digits a → digits b → canon b → a.length < b.length → val a < val b := by
    intro a b ha hb cb h
    have hne : b ≠ [] := by intro e; rw [e] at h; simp at h
    have := val_canon hb cb hne
    have := (val_bounds a ha).2
    have := p10_mono (show a.length ≤ b.length - 1 by omega)
    omega
  unfold cmpD
  split
  next h => have := key ha hb cb h; unfold sgn; rw [if_pos (by omega)]
  next h =>
    split
    next h2 => have := key hb ha ca h2; unfold sgn; rw [if_neg (by omega), if_pos (by omega)]
    next h2 =>
      have := cmpGo_sgn ha hb a.length (Nat.le_refl _) (by omega)
      rw [this, List.take_length, show a.length = b.length by omega, List.take_length]

theorem sgn_neg (z : Int) : sgn (-z) = -sgn z := by unfold sgn; split <;> split <;> (try split) <;> omega

theorem cell_of_heap {w w' : World} {b j : Nat} (h : w'.heap[b]? = w.heap[b]?) : w'.cell? ⟨b, j, none⟩ = w.cell? ⟨b, j, none⟩ := by simp [World.cell?, h]
/-- Digits stay where a number's own box is written. -/
theorem Dg.put {w : World} {s : Value} {ds : List Int} {g : Nat} {n : Bool} (h : Dg w s ds) (hg : w.cell? ⟨g, 0, none⟩ = some (.bool n)) (u v : Value) : Dg ((w.setCell ⟨g, 0, none⟩ u).setCell ⟨g, 1, none⟩ v) s ds := by
  rcases h with h | ⟨b, c, hs, hc, hlt, hcell⟩
  · exact .inl h
  · refine .inr ⟨b, c, hs, hc, by simpa [World.setCell] using hlt, fun j hj => ?_⟩
    by_cases e : b = g
    · have := hcell 0 (by omega)
      rw [e, hg] at this
      cases this
    · rw [cell_of_heap (Below.heap_setCell _ _ _ _ e), cell_of_heap (Below.heap_setCell _ _ _ _ e)]
      exact hcell j hj
theorem Num.put {w : World} {neg : Bool} {s : Value} {ds : List Int} {g : Nat} {n : Bool} (h : Num w neg s ds) (hg : w.cell? ⟨g, 0, none⟩ = some (.bool n)) (u v : Value) : Num ((w.setCell ⟨g, 0, none⟩ u).setCell ⟨g, 1, none⟩ v) neg s ds := ⟨h.1.put hg u v, h.2⟩
theorem Num.below {w w' : World} {neg : Bool} {s : Value} {ds : List Int} (h : Num w neg s ds) (hb : Below w.heap.size w w') : Num w' neg s ds := ⟨h.1.below hb, h.2⟩
theorem Keep.nb {w0 w : World} {l : List (Nat × Obj)} {b : Nat} {n : Bool} {s : Value} (K : Keep w0 l w) (m : (b, Obj.num n s) ∈ l) : w.heap[b]? = some (Obj.num n s) := K.box _ m

set_option maxHeartbeats 1000000 in
set_option maxRecDepth 100000 in
theorem cmp_any (n m : Bool) (s t : Value) (a b : List Int) (w : World) (h1 : Num w n s a) (h2 : Num w m t b) (l1 : a.length ≤ 1000000) (l2 : b.length ≤ 1000000) :
    Calls Try.prog 89 #[.agg #[.bool n, s], .agg #[.bool m, t]] w fun e w' => e = .returned (.int .i64 (sgn (zof n a - zof m b))) ∧ Below w.heap.size w w' := by
  have K := Lib.hid (Keep.begin2 w (Obj.num n s) (Obj.num m t))
  have H1 := Lib.hid h1; have H2 := Lib.hid h2
  clear h1 h2
  have D1 := Lib.hid (fun w' (hb : Below w.heap.size w w') => H1.out.1.below hb)
  have D2 := Lib.hid (fun w' (hb : Below w.heap.size w w') => H2.out.1.below hb)
  have HS := Lib.hid (cmpD_sgn H1.out.2.1 H2.out.2.1 H1.out.2.2.1 H2.out.2.2.1)
  have P1 := Lib.hid (fun h => val_pos H1.out.2.1 H1.out.2.2.1 (H1.out.2.2.2 h))
  have P2 := Lib.hid (fun h => val_pos H2.out.2.1 H2.out.2.2.1 (H2.out.2.2.2 h))
  have Q1 := Lib.hid (val_bounds a H1.out.2.1).1
  have Q2 := Lib.hid (val_bounds b H2.out.2.1).1
  clear H1 H2
  cases n <;> cases m
  · go_enter Try.func89, Try.ntmps89
    go_upto_region 1 with fail
    (refine out_keep K.out ?_; clear K; intro W K; replace K := Lib.hid K)
    obtain ⟨f1, c10, c11⟩ := K.out.nm (.tail _ (.head _))
    obtain ⟨f2, c20, c21⟩ := K.out.nm (.head _)
    go_wp2_with fail
    (refine ((size_any s t a b _ (D1.out _ K.out.B) (D2.out _ K.out.B) l1 l2)).mono ?_; rintro e w2 ⟨rfl, hb⟩; replace K := Lib.hid (Keep.stays _ _ K.out hb); clear hb)
    clear f1 c10 c11 f2 c20 c21
    obtain ⟨f1, c10, c11⟩ := K.out.nm (.tail _ (.head _))
    go_wp2_with fail
    go_ret
    exact ⟨ret_int (by rw [HS.out]; rfl), K.out.B⟩
  · go_enter Try.func89, Try.ntmps89
    go_upto_region 1 with fail
    (refine out_keep K.out ?_; clear K; intro W K; replace K := Lib.hid K)
    obtain ⟨f1, c10, c11⟩ := K.out.nm (.tail _ (.head _))
    obtain ⟨f2, c20, c21⟩ := K.out.nm (.head _)
    go_wp2_with fail
    go_ret
    exact ⟨ret_int (by have := P2.out (by first | rfl | trivial); have := Q1.out; show 1 = sgn (val a - -val b); unfold sgn; rw [if_neg (by omega), if_pos (by omega)]), K.out.B⟩
  · go_enter Try.func89, Try.ntmps89
    go_upto_region 1 with fail
    (refine out_keep K.out ?_; clear K; intro W K; replace K := Lib.hid K)
    obtain ⟨f1, c10, c11⟩ := K.out.nm (.tail _ (.head _))
    obtain ⟨f2, c20, c21⟩ := K.out.nm (.head _)
    go_wp2_with fail
    go_ret
    exact ⟨ret_int (by have := P1.out (by first | rfl | trivial); have := Q2.out; show -1 = sgn (-val a - val b); unfold sgn; rw [if_pos (by omega)]), K.out.B⟩
  · have HN : Hid (-2 ≤ cmpD a b ∧ cmpD a b ≤ 2) := by show _ ∧ _; rw [HS.out]; unfold sgn; split <;> (try split) <;> decide
    obtain ⟨n1, n2⟩ := HN.out
    go_enter Try.func89, Try.ntmps89
    go_upto_region 1 with fail
    (refine out_keep K.out ?_; clear K; intro W K; replace K := Lib.hid K)
    obtain ⟨f1, c10, c11⟩ := K.out.nm (.tail _ (.head _))
    obtain ⟨f2, c20, c21⟩ := K.out.nm (.head _)
    go_wp2_with fail
    (refine ((size_any s t a b _ (D1.out _ K.out.B) (D2.out _ K.out.B) l1 l2)).mono ?_; rintro e w2 ⟨rfl, hb⟩; replace K := Lib.hid (Keep.stays _ _ K.out hb); clear hb)
    clear f1 c10 c11 f2 c20 c21
    obtain ⟨f1, c10, c11⟩ := K.out.nm (.tail _ (.head _))
    go_wp2_with fail
    go_ret
    exact ⟨ret_int (by rw [HS.out, ← sgn_neg]; show sgn _ = sgn (-val a - -val b); congr 1; omega), K.out.B⟩

set_option maxHeartbeats 1000000 in
set_option maxRecDepth 100000 in
theorem minus_any (n : Bool) (s : Value) (a : List Int) (w : World) (h : Num w n s a) (l : a.length ≤ 1000000) :
    Calls Try.prog 94 #[.agg #[.bool n, s]] w fun e w' => ∃ m t b, e = .returned (.agg #[.bool m, t]) ∧ Num w' m t b ∧ zof m b = -zof n a ∧ b.length ≤ a.length ∧ Below w.heap.size w w' := by
  have K := Lib.hid (Keep.begin2 w (Obj.num n s) (Obj.num false (.slice none 0 0)))
  have H1 := Lib.hid h
  clear h
  go_enter Try.func94, Try.ntmps94
  go_upto_region 1 with fail
  (refine out_keep K.out ?_; clear K; intro W K; replace K := Lib.hid K)
  obtain ⟨f1, c10, c11⟩ := K.out.nm (.tail _ (.head _))
  go_wp2_with fail
  refine (mad_any (!n) s a _ (H1.out.1.below K.out.B) H1.out.2.1 l).mono ?_
  rintro e w2 ⟨m, t, b, rfl, hN, hv, hlen, hm, hb⟩
  obtain ⟨A, c, rfl, -⟩ := hN.1.len
  have HN := Lib.hid hN
  have HV := Lib.hid hv
  have HM := Lib.hid hm
  replace K := Lib.hid (Keep.stays _ _ K.out hb)
  clear hb hN hv hm f1 c10 c11
  obtain ⟨f1, c10, c11⟩ := K.out.nm (.head _)
  go_wp2_with fail
  refine ret_nm Try.results94 rfl ((K.out.putn_0 m _).nb (.head _)) ?_
  refine ⟨m, _, b, rfl, HN.out.put (K.out.nm (.head _)).2.1 _ _, ?_, hlen, (K.out.putn_0 m _).B⟩
  have h1 := HM.out
  have h2 := HV.out
  by_cases hb : b = []
  · have h3 : val a = 0 := by rw [← h2, hb]; rfl
    have h4 : m = false := by rw [h1, hb]; simp
    rw [h4]
    unfold zof
    rw [h2, h3]
    cases n <;> simp
  · have h4 : m = !n := by rw [h1]; simp [hb]
    rw [h4]
    unfold zof
    rw [h2]
    cases n <;> simp
end Go.Proofs.Ytehjfjdopeadfaa
