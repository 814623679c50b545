/- The texts La, Lb, Lc, Ld, Le, Lf, Lg of the walk of the law and of all that it calls, in one file. No condition. -/
import Derived.Test.YtmidifgnpjlgcaaGreatY1
import Derived.Laws.CopyOwn
/- Parts of 32 bits in memory; the walk of made. -/
set_option linter.unusedVariables false
set_option linter.unusedSimpArgs false
namespace Go.Proofs.YtmidifgnpjlgcaaGreat
open Go.RowKit

/-- What parts come to, the lowest first. -/
def val : List Int → Int
  | [] => 0
  | d :: l => d + 4294967296 * val l

/-- A slice of parts, as it lies: nothing, or a block from the start. -/
def Dg (w : World) (s : Value) (ds : List Int) : Prop :=
  (s = .slice none 0 0 ∧ ds = []) ∨ ∃ b c, s = .slice (some ⟨b, 0, none⟩) ds.length c ∧ ds.length ≤ c ∧ b < w.heap.size ∧ ∀ j, j < ds.length → w.cell? ⟨b, j, none⟩ = some (.int .u32 (ds.getD j 0))

theorem Dg.below {w w' : World} {s : Value} {ds : List Int} (h : Dg w s ds) (hb : Below w.heap.size w w') : Dg w' s ds := by
  rcases h with h | ⟨b, c, hs, hc, hlt, hcell⟩
  · exact .inl h
  · exact .inr ⟨b, c, hs, hc, Nat.lt_of_lt_of_le hlt hb.size, fun j hj => by rw [hb.cell (p := ⟨b, j, none⟩) hlt]; exact hcell j hj⟩
theorem Dg.len {w : World} {s : Value} {ds : List Int} (h : Dg w s ds) : ∃ A c, s = .slice A ds.length c ∧ (0 < ds.length → ∃ b, A = some ⟨b, 0, none⟩ ∧ b < w.heap.size ∧ ∀ j, j < ds.length → w.cell? ⟨b, j, none⟩ = some (.int .u32 (ds.getD j 0))) := by
  rcases h with ⟨rfl, rfl⟩ | ⟨b, c, rfl, hc, hlt, hcell⟩
  · exact ⟨none, 0, rfl, fun h => by simp at h⟩
  · exact ⟨_, c, rfl, fun _ => ⟨b, rfl, hlt, hcell⟩⟩

/-- A slice of parts from any place on. -/
def Da (w : World) (s : Value) (ds : List Int) : Prop :=
  (s = .slice none 0 0 ∧ ds = []) ∨ ∃ b o c, s = .slice (some ⟨b, o, none⟩) ds.length c ∧ ds.length ≤ c ∧ b < w.heap.size ∧ ∀ j, j < ds.length → w.cell? ⟨b, o + j, none⟩ = some (.int .u32 (ds.getD j 0))
theorem Dg.da {w : World} {s : Value} {ds : List Int} (h : Dg w s ds) : Da w s ds := by
  rcases h with h | ⟨b, c, hs, hc, hlt, hcell⟩
  · exact .inl h
  · exact .inr ⟨b, 0, c, hs, hc, hlt, fun j hj => by rw [Nat.zero_add]; exact hcell j hj⟩
theorem Da.below {w w' : World} {s : Value} {ds : List Int} (h : Da w s ds) (hb : Below w.heap.size w w') : Da w' s ds := by
  rcases h with h | ⟨b, o, c, hs, hc, hlt, hcell⟩
  · exact .inl h
  · exact .inr ⟨b, o, c, hs, hc, Nat.lt_of_lt_of_le hlt hb.size, fun j hj => by rw [hb.cell (p := ⟨b, o + j, none⟩) hlt]; exact hcell j hj⟩

def digits (ds : List Int) : Prop := ∀ d ∈ ds, 0 ≤ d ∧ d < 4294967296
/-- The last part is not zero. -/
def canon (ds : List Int) : Prop := ds = [] ∨ ds.getD (ds.length - 1) 0 ≠ 0
def zof (neg : Bool) (ds : List Int) : Int := if neg then -val ds else val ds

theorem val_take (ds : List Int) : ∀ k, (∀ j, k ≤ j → j < ds.length → ds.getD j 0 = 0) → val (ds.take k) = val ds := by
  induction ds with
  | nil => intro k _; simp
  | cons d l ih =>
    intro k h
    cases k with
    | zero =>
      have h0 : d = 0 := h 0 (by omega) (by simp)
      have := ih 0 (fun j _ hj => by have := h (j + 1) (by omega) (by simpa using hj); simpa using this)
      rw [List.take_zero] at this ⊢
      show val [] = d + 4294967296 * val l
      rw [← this, h0]
      rfl
    | succ k =>
      have := ih k (fun j h1 hj => by have := h (j + 1) (by omega) (by simpa using hj); simpa using this)
      rw [List.take_succ_cons]
      show d + 4294967296 * val (l.take k) = d + 4294967296 * val l
      rw [this]

/-- A number in a box. -/
def Obj.num (neg : Bool) (s : Value) : Obj := .cells #[.bool neg, s] 30
variable {w0 w : World} {l l2 : List (Nat × Obj)}
theorem Keep.nm {b : Nat} {n : Bool} {s : Value} (K : Keep w0 l w) (m : (b, Obj.num n s) ∈ l) : (∀ o, w.frozen? ⟨b, o, none⟩ = false) ∧ w.cell? ⟨b, 0, none⟩ = some (.bool n) ∧ w.cell? ⟨b, 1, none⟩ = some s :=
  ⟨fun o => K.warm m o, K.cell m rfl, K.cell m rfl⟩
theorem Keep.anm {b : Nat} {n : Bool} {s : Value} (K : Hid (Keep w0 l w)) (m : (b, Obj.num n s) ∈ l) : (∀ p : At (Keep w0 l), p.w.cell? ⟨b, 0, none⟩ = some (.bool n)) ∧ (∀ p : At (Keep w0 l), p.w.cell? ⟨b, 1, none⟩ = some s) :=
  ⟨fun p => p.h.cell m rfl, fun p => p.h.cell m rfl⟩
theorem Keep.putn {b : Nat} {n : Bool} {s : Value} (l1 : List (Nat × Obj)) (K : Keep w0 (l1 ++ (b, Obj.num n s) :: l2) w) (n' : Bool) (s' : Value) : Keep w0 (l1 ++ (b, Obj.num n' s') :: l2) ((w.setCell ⟨b, 0, none⟩ (.bool n')).setCell ⟨b, 1, none⟩ s') := by
  have := (K.set l1 0 (.bool n')).set l1 1 s'
  simp at this
  exact this
theorem Keep.putn_0 {b : Nat} {n : Bool} {s : Value} (K : Keep w0 ((b, Obj.num n s) :: l2) w) (n' : Bool) (s' : Value) : Keep w0 ((b, Obj.num n' s') :: l2) ((w.setCell ⟨b, 0, none⟩ (.bool n')).setCell ⟨b, 1, none⟩ s') := K.putn [] n' s'
theorem Keep.nb {b : Nat} {n : Bool} {s : Value} (K : Keep w0 l w) (m : (b, Obj.num n s) ∈ l) : w.heap[b]? = some (Obj.num n s) := K.box _ m

theorem ret_nm {fn : Func} {p g : Nat} {tmps : Array Value} {w : World} {n : Bool} {s : Value} {R : Ending → World → Prop} (h : fn.results = #[.cell p 30]) (hp : tmps.getD p undef = .pointer (some ⟨g, 0, none⟩)) (hb : w.heap[g]? = some (Obj.num n s)) (hR : R (.returned (.agg #[.bool n, s])) w) : bodyPost Tryz.prog fn R .ret { tmps := tmps, defers := [] } w :=
  bodyPost_ret (results_cell_row h tmps w g 30 _ _ _ hp hb Tryz.underlying30 rfl (by kernel_rfl)) rfl hR

set_option maxHeartbeats 1000000 in
set_option maxRecDepth 100000 in
theorem made_raw (neg : Bool) (b c : Nat) (ds : List Int) (w : World) (hc : ds.length ≤ c) (hlt : b < w.heap.size) (hl : ds.length ≤ 1000000) (hcell : ∀ j, j < ds.length → w.cell? ⟨b, j, none⟩ = some (.int .u32 (ds.getD j 0))) :
    Calls Tryz.prog 53 #[.bool neg, .slice (some ⟨b, 0, none⟩) ds.length c] w fun e w' => ∃ k, k ≤ ds.length ∧ (∀ j, k ≤ j → j < ds.length → ds.getD j 0 = 0) ∧ (k = 0 ∨ ds.getD (k - 1) 0 ≠ 0) ∧
      e = .returned (.agg #[.bool (neg && decide (0 < k)), .slice (some ⟨b, 0, none⟩) k k]) ∧ Below w.heap.size w w' := by
  have HC := Lib.hid hcell
  have HL := Lib.hid hlt
  clear hcell hlt
  cases neg
  all_goals
    have K := Lib.hid (Keep.begin1 w (Obj.num false (.slice none 0 0)))
    go_enter Tryz.func53, Tryz.ntmps53
    go_upto_region 1 with fail
    (refine out_keep K.out ?_; clear K; intro W K; replace K := Lib.hid K)
    go_wp2_with fail
    go_loopg [5] ds.length (fun g nv wr => nv = .int .i64 (g : Int) ∧ g ≤ ds.length ∧ (∀ j, g ≤ j → j < ds.length → ds.getD j 0 = 0) ∧ wr = W)
    case atStart => exact ⟨rfl, Nat.le_refl _, fun j h1 h2 => absurd h2 (by omega), rfl⟩
    case round =>
      obtain ⟨rfl, hg, hz, rfl⟩ := hrel
      have HZ := Lib.hid hz
      clear hz
      obtain ⟨f1, c10, c11⟩ := K.out.nm (.head _)
      cases gk with
      | zero =>
        go_wp2_with fail
        exact ret_nm Tryz.results53 rfl ((K.out.putn_0 _ _).box _ (.head _)) ⟨0, Nat.zero_le _, HZ.out, .inl rfl, by simp, (K.out.putn_0 _ _).B⟩
      | succ k =>
        have hk := HC.out k (by omega)
        have hcl : wr.cell? ⟨b, k, none⟩ = some (.int .u32 (ds.getD k 0)) := by rw [K.out.B.cell (p := ⟨b, k, none⟩) HL.out]; exact hk
        clear hk
        generalize hdk : ds.getD k 0 = dk at hcl
        have HD := Lib.hid hdk
        clear hdk
        by_cases hd : dk = 0
        · have HD2 := Lib.hid hd
          go_wp2_with fail
          go_roundg k
          case measure => omega
          case rel =>
            refine ⟨congrArg (Value.int .i64) (by omega), by omega, fun j h1 h2 => ?_, rfl⟩
            by_cases e : j = k
            · rw [e, HD.out, HD2.out]
            · exact HZ.out j (by omega) h2
        · have HD2 := Lib.hid hd
          go_wp2_with fail
          exact ret_nm Tryz.results53 rfl ((K.out.putn_0 _ _).box _ (.head _)) ⟨k + 1, hg, HZ.out, .inr (by rw [Nat.add_sub_cancel, HD.out]; exact HD2.out), by simp, (K.out.putn_0 _ _).B⟩

set_option maxRecDepth 100000 in
theorem made_nil (neg : Bool) (w : World) : Calls Tryz.prog 53 #[.bool neg, .slice none 0 0] w fun e w' => e = .returned (.agg #[.bool false, .slice none 0 0]) ∧ Below w.heap.size w w' := by
  cases neg
  all_goals
    have K := Lib.hid (Keep.begin1 w (Obj.num false (.slice none 0 0)))
    go_enter Tryz.func53, Tryz.ntmps53
    go_upto_region 1 with fail
    (refine out_keep K.out ?_; clear K; intro W K; replace K := Lib.hid K)
    go_wp2_with fail
    go_loopg [5] 0 (fun g nv wr => nv = .int .i64 0 ∧ wr = W)
    case atStart => exact ⟨rfl, rfl⟩
    case round =>
      obtain ⟨rfl, rfl⟩ := hrel
      obtain ⟨f1, c10, c11⟩ := K.out.nm (.head _)
      go_wp2_with fail
      exact ret_nm Tryz.results53 rfl ((K.out.putn_0 _ _).box _ (.head _)) ⟨rfl, (K.out.putn_0 _ _).B⟩

/-- The parts of a number. -/
def Num (w : World) (neg : Bool) (s : Value) (ds : List Int) : Prop := Dg w s ds ∧ digits ds ∧ canon ds ∧ (neg = true → ds ≠ [])

theorem digits_nil : digits [] := by intro d h; cases h
theorem Num.nil (w : World) : Num w false (.slice none 0 0) [] := ⟨.inl ⟨rfl, rfl⟩, digits_nil, .inl rfl, fun h => by cases h⟩
theorem digits_take {ds : List Int} (h : digits ds) (k : Nat) : digits (ds.take k) := fun d hd => h d (List.mem_of_mem_take hd)
theorem getD_take {ds : List Int} {k j : Nat} (h : j < k) : (ds.take k).getD j 0 = ds.getD j 0 := by simp [List.getElem?_take, h]

/-- What made makes of parts. -/
theorem mad_any (neg : Bool) (s : Value) (ds : List Int) (w : World) (h : Dg w s ds) (hd : digits ds) (hl : ds.length ≤ 1000000) :
    Calls Tryz.prog 53 #[.bool neg, s] w fun e w' => ∃ n s' ds', e = .returned (.agg #[.bool n, s']) ∧ Num w' n s' ds' ∧ val ds' = val ds ∧ ds'.length ≤ ds.length ∧ n = (neg && decide (ds' ≠ [])) ∧ Below w.heap.size w w' := by
  rcases h with ⟨rfl, rfl⟩ | ⟨b, c, rfl, hc, hlt, hcell⟩
  · refine (made_nil neg w).mono ?_
    rintro e w' ⟨rfl, hb⟩
    exact ⟨false, _, [], rfl, Num.nil w', rfl, Nat.le_refl _, by simp, hb⟩
  · refine (made_raw neg b c ds w hc hlt hl hcell).mono ?_
    rintro e w' ⟨k, hk, hz, hlast, rfl, hb⟩
    have hlen : (ds.take k).length = k := by simp; omega
    have hne : ds.take k ≠ [] ↔ 0 < k := by
      rw [← List.length_pos_iff, hlen]
    refine ⟨_, _, ds.take k, rfl, ⟨.inr ⟨b, k, by rw [hlen], by rw [hlen]; omega, Nat.lt_of_lt_of_le hlt hb.size, fun j hj => ?_⟩, digits_take hd k, ?_, ?_⟩, val_take ds k hz, by rw [hlen]; exact hk, ?_, hb⟩
    · rw [hlen] at hj
      rw [hb.cell (p := ⟨b, j, none⟩) hlt, getD_take hj]
      exact hcell j (by omega)
    · rcases hlast with rfl | hlast
      · exact .inl rfl
      · by_cases h0 : k = 0
        · rw [h0]; exact .inl rfl
        · refine .inr ?_
          rw [hlen, getD_take (by omega)]
          exact hlast
    · intro h
      rw [hne]
      simp at h
      exact h.2
    · by_cases h0 : 0 < k
      · rw [decide_eq_true h0, decide_eq_true (hne.2 h0)]
      · rw [decide_eq_false h0, decide_eq_false (fun h => h0 (hne.1 h))]
end Go.Proofs.YtmidifgnpjlgcaaGreat
/- Parts of 32 bits, held against one another: plain. -/
set_option linter.unusedVariables false
set_option linter.unusedSimpArgs false
namespace Go.Proofs.YtmidifgnpjlgcaaGreat
open Go.RowKit

def cmpGo : Nat → List Int → List Int → Int
  | 0, _, _ => 0
  | k + 1, a, b => if a.getD k 0 < b.getD k 0 then -1 else if b.getD k 0 < a.getD k 0 then 1 else cmpGo k a b
def cmpD (a b : List Int) : Int := if a.length < b.length then -1 else if b.length < a.length then 1 else cmpGo a.length a b

def pb : Nat → Int
  | 0 => 1
  | k + 1 => 4294967296 * pb k
theorem pb_pos (k : Nat) : 0 < pb k := by
  induction k with
  | zero => decide
  | succ k ih => show 0 < 4294967296 * pb k; omega
def sgn (z : Int) : Int := if z < 0 then -1 else if 0 < z then 1 else 0

theorem digits_cons {d : Int} {l : List Int} (h : digits (d :: l)) : (0 ≤ d ∧ d < 4294967296) ∧ digits l := ⟨h d (List.mem_cons_self), fun x hx => h x (List.mem_cons_of_mem _ hx)⟩
theorem val_bounds (ds : List Int) : digits ds → 0 ≤ val ds ∧ val ds < pb ds.length := by
  induction ds with
  | nil => intro _; exact ⟨by decide, by decide⟩
  | cons d l ih =>
    intro h
    obtain ⟨hd, hl⟩ := digits_cons h
    have := ih hl
    show 0 ≤ d + 4294967296 * val l ∧ d + 4294967296 * val l < 4294967296 * pb l.length
    omega
theorem val_snoc (ds : List Int) (d : Int) : val (ds ++ [d]) = val ds + pb ds.length * d := by
  induction ds with
  | nil => show d + 4294967296 * 0 = 0 + 1 * d; omega
  | cons x l ih =>
    show x + 4294967296 * val (l ++ [d]) = x + 4294967296 * val l + 4294967296 * pb l.length * d
    rw [ih, Int.mul_add, ← Int.mul_assoc]; omega
theorem getD_mem {ds : List Int} (h : digits ds) (k : Nat) : 0 ≤ ds.getD k 0 ∧ ds.getD k 0 < 4294967296 := by
  by_cases hk : k < ds.length
  · have := h ds[k] (List.getElem_mem hk)
    simpa [hk] using this
  · rw [List.getD_eq_getElem?_getD, List.getElem?_eq_none (by omega)]; decide
theorem take_succ {ds : List Int} {k : Nat} (hk : k < ds.length) : ds.take (k + 1) = ds.take k ++ [ds.getD k 0] := by
  rw [List.take_succ_eq_append_getElem hk]
  simp [hk]
theorem val_take_succ {ds : List Int} {k : Nat} (hk : k < ds.length) : val (ds.take (k + 1)) = val (ds.take k) + pb k * ds.getD k 0 := by
  rw [take_succ hk, val_snoc]
  rw [show (ds.take k).length = k by simp; omega]

theorem cmpGo_sgn {a b : List Int} (ha : digits a) (hb : digits b) (k : Nat) : k ≤ a.length → k ≤ b.length → cmpGo k a b = sgn (val (a.take k) - val (b.take k)) := by
  induction k with
  | zero => intro _ _; simp [cmpGo, sgn]
  | succ k ih =>
    intro h1 h2
    rw [val_take_succ (by omega), val_take_succ (by omega)]
    have i := ih (by omega) (by omega)
    have ba := val_bounds _ (digits_take ha k)
    have bb := val_bounds _ (digits_take hb k)
    rw [show (a.take k).length = k by simp; omega] at ba
    rw [show (b.take k).length = k by simp; omega] at bb
    unfold cmpGo
    generalize val (a.take k) = x at *
    generalize val (b.take k) = y at *
    generalize a.getD k 0 = p at *
    generalize b.getD k 0 = q at *
    have e : x + pb k * p - (y + pb k * q) = x - y + pb k * (p - q) := by rw [Int.mul_sub]; omega
    rw [e]
    by_cases o1 : p < q
    · rw [if_pos o1]
      have := Int.mul_le_mul_of_nonneg_left (show p - q ≤ -1 by omega) (show 0 ≤ pb k by have := pb_pos k; omega)
      unfold sgn
      rw [if_pos (by omega)]
    · rw [if_neg o1]
      by_cases o2 : q < p
      · rw [if_pos o2]
        have := Int.mul_le_mul_of_nonneg_left (show 1 ≤ p - q by omega) (show 0 ≤ pb k by have := pb_pos k; omega)
        unfold sgn
        rw [if_neg (by omega), if_pos (by omega)]
      · rw [if_neg o2, show p - q = 0 by omega, Int.mul_zero, Int.add_zero]
        exact i

theorem pb_mono {a b : Nat} (h : a ≤ b) : pb a ≤ pb b := by
  induction b with
  | zero => rw [show a = 0 by omega]; exact Int.le_refl _
  | succ b ih =>
    by_cases e : a = b + 1
    · rw [e]; exact Int.le_refl _
    · have := ih (by omega)
      have := pb_pos b
      show pb a ≤ 4294967296 * pb b
      omega

theorem val_canon {ds : List Int} (h : digits ds) (hc : canon ds) (hne : ds ≠ []) : pb (ds.length - 1) ≤ val ds := by
  have hl := hc.resolve_left hne
  have hpos : 0 < ds.length := List.length_pos_iff.2 hne
  have e := val_take_succ (ds := ds) (k := ds.length - 1) (by omega)
  rw [show ds.length - 1 + 1 = ds.length by omega, List.take_length] at e
  have b := val_bounds _ (digits_take h (ds.length - 1))
  have g := getD_mem h (ds.length - 1)
  have := Int.mul_le_mul_of_nonneg_left (show 1 ≤ ds.getD (ds.length - 1) 0 by omega) (show 0 ≤ pb (ds.length - 1) by have := pb_pos (ds.length - 1); omega)
  omega

theorem val_pos {ds : List Int} (h : digits ds) (hc : canon ds) (hne : ds ≠ []) : 0 < val ds := by
  have := val_canon h hc hne
  have := pb_pos (ds.length - 1)
  omega

theorem cmpD_sgn {a b : List Int} (ha : digits a) (hb : digits b) (ca : canon a) (cb : canon b) : cmpD a b = sgn (val a - val b) := by
  have key : ∀ {a b : List Int}, digits a → digits b → canon b → a.length < b.length → val a < val b := by
    intro a b ha hb cb h
    have hne : b ≠ [] := by intro e; rw [e] at h; simp at h
    have := val_canon hb cb hne
    have := (val_bounds a ha).2
    have := pb_mono (show a.length ≤ b.length - 1 by omega)
    omega
  unfold cmpD
  split
  next h => have := key ha hb cb h; unfold sgn; rw [if_pos (by omega)]
  next h =>
    split
    next h2 => have := key hb ha ca h2; unfold sgn; rw [if_neg (by omega), if_pos (by omega)]
    next h2 =>
      have := cmpGo_sgn ha hb a.length (Nat.le_refl _) (by omega)
      rw [this, List.take_length, show a.length = b.length by omega, List.take_length]

theorem sgn_neg (z : Int) : sgn (-z) = -sgn z := by unfold sgn; split <;> split <;> (try split) <;> omega

/-- Digits stay where a number's own box is written. -/
theorem Dg.put {w : World} {s : Value} {ds : List Int} {g : Nat} {n : Bool} (h : Dg w s ds) (hg : w.cell? ⟨g, 0, none⟩ = some (.bool n)) (u v : Value) : Dg ((w.setCell ⟨g, 0, none⟩ u).setCell ⟨g, 1, none⟩ v) s ds := by
  rcases h with h | ⟨b, c, hs, hc, hlt, hcell⟩
  · exact .inl h
  · refine .inr ⟨b, c, hs, hc, by simpa [World.setCell] using hlt, fun j hj => ?_⟩
    by_cases e : b = g
    · have := hcell 0 (by omega)
      rw [e, hg] at this
      cases this
    · rw [cell_of_heap (Below.heap_setCell _ _ _ _ e), cell_of_heap (Below.heap_setCell _ _ _ _ e)]
      exact hcell j hj
theorem Num.put {w : World} {neg : Bool} {s : Value} {ds : List Int} {g : Nat} {n : Bool} (h : Num w neg s ds) (hg : w.cell? ⟨g, 0, none⟩ = some (.bool n)) (u v : Value) : Num ((w.setCell ⟨g, 0, none⟩ u).setCell ⟨g, 1, none⟩ v) neg s ds := ⟨h.1.put hg u v, h.2⟩
theorem Num.below {w w' : World} {neg : Bool} {s : Value} {ds : List Int} (h : Num w neg s ds) (hb : Below w.heap.size w w') : Num w' neg s ds := ⟨h.1.below hb, h.2⟩

end Go.Proofs.YtmidifgnpjlgcaaGreat
/- Parts of 32 bits held against one another: the walks of cmp, Sign, Neg. -/
set_option linter.unusedVariables false
set_option linter.unusedSimpArgs false
namespace Go.Proofs.YtmidifgnpjlgcaaGreat
open Go.RowKit

set_option maxHeartbeats 1000000 in
set_option maxRecDepth 100000 in
theorem cmp_any (s t : Value) (a b : List Int) (w : World) (h1 : Dg w s a) (h2 : Dg w t b) (l1 : a.length ≤ 1000000) (l2 : b.length ≤ 1000000) :
    Calls Tryz.prog 76 #[s, t] w fun e w' => e = .returned (.int .i64 (cmpD a b)) ∧ Below w.heap.size w w' := by
  obtain ⟨A, c, rfl, ha⟩ := h1.len
  obtain ⟨B, d, rfl, hb⟩ := h2.len
  clear h1 h2
  have HA := Lib.hid ha; have HB := Lib.hid hb
  clear ha hb
  have HR : Hid (cmpD a b = if a.length < b.length then -1 else if b.length < a.length then 1 else cmpGo a.length a b) := by show _ = _; rfl
  by_cases e1 : a.length < b.length
  · rw [if_pos e1] at HR
    go_enter Tryz.func76, Tryz.ntmps76
    go_wp2_with fail
    go_ret
    exact ⟨ret_int HR.out.symm, Below.refl _ _⟩
  · rw [if_neg e1] at HR
    by_cases e2 : b.length < a.length
    · rw [if_pos e2] at HR
      go_enter Tryz.func76, Tryz.ntmps76
      go_wp2_with fail
      go_ret
      exact ⟨ret_int HR.out.symm, Below.refl _ _⟩
    · rw [if_neg e2] at HR
      have e3 : b.length = a.length := by omega
      have E3 := Lib.hid e3
      rw [e3] at HB l2 ⊢
      clear e3 e1 e2
      have K := Lib.hid (Keep.start w)
      generalize hn : a.length = n at *
      have HN := Lib.hid hn
      clear hn
      go_enter Tryz.func76, Tryz.ntmps76
      go_wp2_with fail
      go_loopg [5] n (fun g nv wr => nv = .int .i64 ((g : Int) - 1) ∧ g ≤ n ∧ cmpGo g a b = cmpGo n a b ∧ Keep w [] wr)
      case atStart => exact ⟨rfl, Nat.le_refl _, rfl, K.out⟩
      case round =>
        clear K
        obtain ⟨rfl, hg, hcmp, k⟩ := hrel
        have K := Lib.hid k
        have HM := Lib.hid hcmp
        clear k hcmp
        cases gk with
        | zero =>
          go_wp2_with fail
          go_ret
          exact ⟨ret_int (by rw [HR.out, ← HM.out]; rfl), K.out.B⟩
        | succ k =>
          obtain ⟨x, rfl, hx, hxc⟩ := HA.out (by omega)
          obtain ⟨y, rfl, hy, hyc⟩ := HB.out (by omega)
          have X := hxc k (by omega)
          have Y := hyc k (by omega)
          have HC : Hid (cmpGo (k + 1) a b = if a.getD k 0 < b.getD k 0 then -1 else if b.getD k 0 < a.getD k 0 then 1 else cmpGo k a b) := by show _ = _; rfl
          rw [HC.out] at HM
          generalize a.getD k 0 = p at X HM HC
          generalize b.getD k 0 = q at Y HM HC
          have cp : ∀ pp : At (Keep w []), pp.w.cell? ⟨x, k, none⟩ = some (.int .u32 p) := fun pp => kept_cell pp.h hx X
          have cq : ∀ pp : At (Keep w []), pp.w.cell? ⟨y, k, none⟩ = some (.int .u32 q) := fun pp => kept_cell pp.h hy Y
          clear X Y hxc hyc HC hx hy
          by_cases o1 : p < q
          · rw [if_pos o1] at HM
            go_wp2_with fail
            (refine region_quiet _ (by kernel_rfl) (by kernel_rfl) K.out.drew ?_; haveI ne := Keep.ne K)
            repeat (go_big_quiet_step (fail))
            (refine wpQuiet_nil ?_; clear ne K; intro W K; replace K := Lib.hid K)
            go_wp2_with fail
            go_ret
            exact ⟨ret_int (by rw [HR.out, ← HM.out]), K.out.B⟩
          · rw [if_neg o1] at HM
            by_cases o2 : q < p
            · rw [if_pos o2] at HM
              go_wp2_with fail
              (refine region_quiet _ (by kernel_rfl) (by kernel_rfl) K.out.drew ?_; haveI ne := Keep.ne K)
              repeat (go_big_quiet_step (fail))
              (refine wpQuiet_nil ?_; clear ne K; intro W K; replace K := Lib.hid K)
              go_wp2_with fail
              (refine region_quiet _ (by kernel_rfl) (by kernel_rfl) K.out.drew ?_; haveI ne := Keep.ne K)
              repeat (go_big_quiet_step (fail))
              (refine wpQuiet_nil ?_; clear ne K; intro W K; replace K := Lib.hid K)
              go_wp2_with fail
              go_ret
              exact ⟨ret_int (by rw [HR.out, ← HM.out]), K.out.B⟩
            · rw [if_neg o2] at HM
              go_wp2_with fail
              (refine region_quiet _ (by kernel_rfl) (by kernel_rfl) K.out.drew ?_; haveI ne := Keep.ne K)
              repeat (go_big_quiet_step (fail))
              (refine wpQuiet_nil ?_; clear ne K; intro W K; replace K := Lib.hid K)
              go_wp2_with fail
              (refine region_quiet _ (by kernel_rfl) (by kernel_rfl) K.out.drew ?_; haveI ne := Keep.ne K)
              repeat (go_big_quiet_step (fail))
              (refine wpQuiet_nil ?_; clear ne K; intro W K; replace K := Lib.hid K)
              go_wp2_with fail
              go_roundg k
              case measure => omega
              case rel => exact ⟨congrArg (Value.int .i64) (by omega), by omega, HM.out, K.out⟩

set_option maxHeartbeats 1000000 in
set_option maxRecDepth 100000 in
theorem sign_any (n : Bool) (s : Value) (a : List Int) (w : World) (h : Num w n s a) :
    Calls Tryz.prog 15 #[.agg #[.bool n, s]] w fun e w' => e = .returned (.int .i64 (sgn (zof n a))) ∧ Below w.heap.size w w' := by
  obtain ⟨A, c, rfl, -⟩ := h.1.len
  have K := Lib.hid (Keep.begin1 w (Obj.num n (.slice A a.length c)))
  have HP := Lib.hid (fun hne => val_pos h.2.1 h.2.2.1 hne)
  have HF := Lib.hid h.2.2.2
  clear h
  by_cases h0 : a.length = 0
  · have HS : Hid (sgn (zof n a) = 0) := by
      have e := List.length_eq_zero_iff.1 h0
      show _ = _
      rw [e]; cases n <;> rfl
    have h0' : a.length ≤ 0 := by omega
    clear h0
    go_enter Tryz.func15, Tryz.ntmps15
    go_upto_region 1 with fail
    (refine out_keep K.out ?_; clear K; intro W K; replace K := Lib.hid K)
    obtain ⟨f1, c10, c11⟩ := K.out.nm (.head _)
    go_wp2_with fail
    go_ret
    exact ⟨ret_int HS.out.symm, K.out.B⟩
  · have hv := HP.out (fun e => h0 (by rw [e]; rfl))
    have h0' : 0 < a.length := by omega
    clear h0
    cases n with
    | true =>
      have HS : Hid (sgn (zof true a) = -1) := by show sgn (-val a) = -1; unfold sgn; rw [if_pos (by omega)]
      clear hv
      go_enter Tryz.func15, Tryz.ntmps15
      go_upto_region 1 with fail
      (refine out_keep K.out ?_; clear K; intro W K; replace K := Lib.hid K)
      obtain ⟨f1, c10, c11⟩ := K.out.nm (.head _)
      go_wp2_with fail
      go_ret
      exact ⟨ret_int HS.out.symm, K.out.B⟩
    | false =>
      have HS : Hid (sgn (zof false a) = 1) := by show sgn (val a) = 1; unfold sgn; rw [if_neg (by omega), if_pos hv]
      clear hv
      go_enter Tryz.func15, Tryz.ntmps15
      go_upto_region 1 with fail
      (refine out_keep K.out ?_; clear K; intro W K; replace K := Lib.hid K)
      obtain ⟨f1, c10, c11⟩ := K.out.nm (.head _)
      go_wp2_with fail
      go_ret
      exact ⟨ret_int HS.out.symm, K.out.B⟩

set_option maxHeartbeats 1000000 in
set_option maxRecDepth 100000 in
theorem neg_any (n : Bool) (s : Value) (a : List Int) (w : World) (h : Num w n s a) (l : a.length ≤ 1000000) :
    Calls Tryz.prog 67 #[.agg #[.bool n, s]] w fun e w' => ∃ m t b, e = .returned (.agg #[.bool m, t]) ∧ Num w' m t b ∧ zof m b = -zof n a ∧ b.length ≤ a.length ∧ Below w.heap.size w w' := by
  have K := Lib.hid (Keep.begin2 w (Obj.num n s) (Obj.num false (.slice none 0 0)))
  have H1 := Lib.hid h
  clear h
  go_enter Tryz.func67, Tryz.ntmps67
  go_upto_region 1 with fail
  (refine out_keep K.out ?_; clear K; intro W K; replace K := Lib.hid K)
  obtain ⟨f1, c10, c11⟩ := K.out.nm (.tail _ (.head _))
  go_wp2_with fail
  refine (mad_any (!n) s a _ (H1.out.1.below K.out.B) H1.out.2.1 l).mono ?_
  rintro e w2 ⟨m, t, b, rfl, hN, hv, hlen, hm, hb⟩
  obtain ⟨A, c, rfl, -⟩ := hN.1.len
  have HN := Lib.hid hN
  have HV := Lib.hid hv
  have HM := Lib.hid hm
  replace K := Lib.hid (Keep.stays _ _ K.out hb)
  clear hb hN hv hm f1 c10 c11
  obtain ⟨f1, c10, c11⟩ := K.out.nm (.head _)
  go_wp2_with fail
  refine ret_nm Tryz.results67 rfl ((K.out.putn_0 m _).nb (.head _)) ?_
  refine ⟨m, _, b, rfl, HN.out.put (K.out.nm (.head _)).2.1 _ _, ?_, hlen, (K.out.putn_0 m _).B⟩
  have h1 := HM.out
  have h2 := HV.out
  by_cases hb : b = []
  · have h3 : val a = 0 := by rw [← h2, hb]; rfl
    have h4 : m = false := by rw [h1, hb]; simp
    rw [h4]
    unfold zof
    rw [h2, h3]
    cases n <;> simp
  · have h4 : m = !n := by rw [h1]; simp [hb]
    rw [h4]
    unfold zof
    rw [h2]
    cases n <;> simp
end Go.Proofs.YtmidifgnpjlgcaaGreat
/- Rows of parts; the walk of Of. -/
set_option linter.unusedVariables false
set_option linter.unusedSimpArgs false
namespace Go.Proofs.YtmidifgnpjlgcaaGreat
open Go.RowKit

theorem info102 : (Tryz.prog.info? 102).map (fun i => (i.zero, i.size, i.bytes)) = some (some (.int .u32 0), 1, 4) := by kernel_rfl

def Obj.row (ds : List Int) : Obj := .cells (ds.map (Value.int .u32)).toArray 102

theorem mk_row (N : Nat) (hN : N ≤ 1000000) (x : Int) (hx : x = (N : Int)) (w : World) : (Instr.makeSlice 28 (.int .i64 x) (.int .i64 x)).run Tryz.prog w = .ok (.slice (some ⟨w.heap.size, 0, none⟩) N N) (w.alloc (Obj.row (List.replicate N 0))) := by
  obtain ⟨i0, hi, hx0⟩ := Option.map_eq_some_iff.1 info102
  simp only [Prod.mk.injEq] at hx0
  obtain ⟨hz0, hz1, hz2⟩ := hx0
  subst hx
  have := run_make (P := Tryz.prog) w 28 102 i0 (.int .u32 0) Tryz.underlying28 hi hz0 .i64 .i64 (N : Int) (N : Int) (by omega) (Int.le_refl _) (by rw [hz2]; omega) (by omega)
  rw [this, hz1]
  have e : madeCells (Value.int .u32 0).cells ((N : Int).toNat * 1) = ((List.replicate N (0 : Int)).map (Value.int .u32)).toArray := by
    apply Array.ext
    · simp [madeCells]
    · intro j h1 h2
      simp [madeCells, Value.cells, Nat.mod_one]
  rw [e]
  simp [Obj.row]

variable {w0 w : World} {l l2 : List (Nat × Obj)}
theorem Keep.rowc {b : Nat} {ds : List Int} (K : Keep w0 l w) (m : (b, Obj.row ds) ∈ l) (j : Nat) (hj : j < ds.length) : w.cell? ⟨b, j, none⟩ = some (.int .u32 (ds.getD j 0)) :=
  K.cell m (by simp [hj])
theorem Keep.roww {b : Nat} {ds : List Int} (K : Keep w0 l w) (m : (b, Obj.row ds) ∈ l) (o : Nat) : w.frozen? ⟨b, o, none⟩ = false := K.warm m o
theorem Keep.setr {b : Nat} {ds : List Int} (l1 : List (Nat × Obj)) (K : Keep w0 (l1 ++ (b, Obj.row ds) :: l2) w) (j : Nat) (v : Int) : Keep w0 (l1 ++ (b, Obj.row (ds.set j v)) :: l2) (w.setCell ⟨b, j, none⟩ (.int .u32 v)) := by
  have := K.set l1 j (.int .u32 v)
  have e : (ds.map (Value.int .u32)).toArray.setIfInBounds j (.int .u32 v) = ((ds.set j v).map (Value.int .u32)).toArray := by
    rw [List.map_set]; simp
  rw [e] at this
  exact this
theorem Keep.setr_0 {b : Nat} {ds : List Int} (K : Keep w0 ((b, Obj.row ds) :: l2) w) (j : Nat) (v : Int) : Keep w0 ((b, Obj.row (ds.set j v)) :: l2) (w.setCell ⟨b, j, none⟩ (.int .u32 v)) := K.setr [] j v
theorem Keep.rowd {b : Nat} {ds : List Int} {c : Nat} (K : Keep w0 l w) (m : (b, Obj.row ds) ∈ l) (hc : ds.length ≤ c) : Dg w (.slice (some ⟨b, 0, none⟩) ds.length c) ds :=
  .inr ⟨b, c, rfl, hc, K.lt m, fun j hj => K.rowc m j hj⟩

theorem val_set (ds : List Int) (d : Int) : ∀ j, j < ds.length → val (ds.set j d) = val ds + pb j * (d - ds.getD j 0) := by
  induction ds with
  | nil => intro j h; simp at h
  | cons x l ih =>
    intro j h
    cases j with
    | zero => show d + 4294967296 * val l = x + 4294967296 * val l + 1 * (d - x); omega
    | succ j =>
      show x + 4294967296 * val (l.set j d) = x + 4294967296 * val l + 4294967296 * pb j * (d - l.getD j 0)
      rw [ih j (by simpa using h), Int.mul_add, ← Int.mul_assoc]; omega
theorem digits_set {ds : List Int} (h : digits ds) (j : Nat) {d : Int} (hd : 0 ≤ d ∧ d < 4294967296) : digits (ds.set j d) := by
  intro x hx
  rcases List.mem_or_eq_of_mem_set hx with h1 | h1
  · exact h x h1
  · rw [h1]; exact hd
theorem digits_zero (n : Nat) : digits (List.replicate n 0) := by
  intro x hx
  rw [(List.mem_replicate.1 hx).2]; decide
theorem val_zero (n : Nat) : val (List.replicate n 0) = 0 := by
  induction n with
  | zero => rfl
  | succ n ih => show 0 + 4294967296 * val (List.replicate n 0) = 0; rw [ih]; rfl
theorem getD_set_at {ds : List Int} {j : Nat} (h : j < ds.length) (d : Int) : (ds.set j d).getD j 0 = d := by simp [h]

set_option maxHeartbeats 2000000 in
set_option maxRecDepth 100000 in
theorem int_any (n : Int) (w : World) (h1 : -9223372036854775808 ≤ n) (h2 : n ≤ 9223372036854775807) :
    Calls Tryz.prog 19 #[.int .i64 n] w fun e w' => ∃ m t b, e = .returned (.agg #[.bool m, t]) ∧ Num w' m t b ∧ zof m b = n ∧ b.length ≤ 2 ∧ Below w.heap.size w w' := by
  have K := Lib.hid (Keep.begin1 w (Obj.num false (.slice none 0 0)))
  by_cases hneg : n < 0
  · go_enter Tryz.func19, Tryz.ntmps19
    go_upto_region 1 with fail
    (refine out_keep K.out ?_; clear K; intro W K; replace K := Lib.hid K)
    go_wp2_with fail
    have hu : IntKind.u64.wrap (-IntKind.u64.wrap n) = -n := by rw [IntKind.wrap_u64, IntKind.wrap_u64]; omega
    rw [hu]
    have HV : Hid (val [-n % 4294967296, -n / 4294967296 % 4294967296] = -n) := by show -n % 4294967296 + 4294967296 * (-n / 4294967296 % 4294967296 + 4294967296 * 0) = -n; omega
    clear hu
    replace K := Lib.hid (K.out.alloc (Obj.row [-n % 4294967296, -n / 4294967296 % 4294967296]))
    refine (mad_any true _ [-n % 4294967296, -n / 4294967296 % 4294967296] _ (K.out.rowd (.head _) (c := 2) (Nat.le_refl _)) (by intro x hx; simp at hx; omega) (by simp)).mono ?_
    rintro e w2 ⟨m, t, b, rfl, hN, hv, hlen, hm, hb⟩
    obtain ⟨A, c, rfl, -⟩ := hN.1.len
    have HN := Lib.hid hN
    have HZ : Hid (zof m b = n) := by
      rw [HV.out] at hv
      have hne : b ≠ [] := by rintro rfl; have : (0 : Int) = -n := hv; omega
      have hm' : m = true := by rw [hm]; simp [hne]
      show zof m b = n
      rw [hm']
      show -val b = n
      omega
    replace K := Lib.hid (Keep.stays _ _ K.out hb).rest
    have hl2 : b.length ≤ 2 := by simpa using hlen
    clear hb hN hv hm HV hlen
    obtain ⟨f1, c10, c11⟩ := K.out.nm (.head _)
    go_wp2_with fail
    refine ret_nm Tryz.results19 rfl ((K.out.putn_0 m _).nb (.head _)) ?_
    exact ⟨m, _, b, rfl, HN.out.put (K.out.nm (.head _)).2.1 _ _, HZ.out, hl2, (K.out.putn_0 m _).B⟩
  · go_enter Tryz.func19, Tryz.ntmps19
    go_upto_region 1 with fail
    (refine out_keep K.out ?_; clear K; intro W K; replace K := Lib.hid K)
    go_wp2_with fail
    have HV : Hid (val [n % 4294967296, n / 4294967296] = n) := by show n % 4294967296 + 4294967296 * (n / 4294967296 + 4294967296 * 0) = n; omega
    replace K := Lib.hid (K.out.alloc (Obj.row [n % 4294967296, n / 4294967296]))
    refine (mad_any false _ [n % 4294967296, n / 4294967296] _ (K.out.rowd (.head _) (c := 2) (Nat.le_refl _)) (by intro x hx; simp at hx; omega) (by simp)).mono ?_
    rintro e w2 ⟨m, t, b, rfl, hN, hv, hlen, hm, hb⟩
    obtain ⟨A, c, rfl, -⟩ := hN.1.len
    have HN := Lib.hid hN
    have HZ : Hid (zof m b = n) := by
      rw [HV.out] at hv
      have hm' : m = false := by rw [hm]; rfl
      show zof m b = n
      rw [hm']
      exact hv
    replace K := Lib.hid (Keep.stays _ _ K.out hb).rest
    have hl2 : b.length ≤ 2 := by simpa using hlen
    clear hb hN hv hm HV hlen
    obtain ⟨f1, c10, c11⟩ := K.out.nm (.head _)
    go_wp2_with fail
    refine ret_nm Tryz.results19 rfl ((K.out.putn_0 m _).nb (.head _)) ?_
    exact ⟨m, _, b, rfl, HN.out.put (K.out.nm (.head _)).2.1 _ _, HZ.out, hl2, (K.out.putn_0 m _).B⟩
end Go.Proofs.YtmidifgnpjlgcaaGreat
/- Rows of the call's own, copied: the walk of Clone. -/
set_option linter.unusedVariables false
set_option linter.unusedSimpArgs false
namespace Go.Proofs.YtmidifgnpjlgcaaGreat
open Go.RowKit

/-- Parts in a row of the call's own. -/
def Own (w : World) (base : Nat) (v : Value) (ds : List Int) : Prop := w.ownsRow base 102 1 v ds.length (ds.map (Value.int .u32))

theorem Own.nil (w : World) (base : Nat) : Own w base (.slice none 0 0) [] := ⟨rfl, .inl ⟨rfl, rfl⟩⟩
theorem Own.base {w : World} {base : Nat} {v : Value} {ds : List Int} (h : Own w base v ds) (k : Nat) (hk : v.ownBlock = some k) : base ≤ k := by
  rcases h.2 with ⟨rfl, _⟩ | ⟨g, cap, cur, rfl, hb, _⟩
  · simp [Value.ownBlock] at hk
  · have : g = k := by simpa [Value.ownBlock] using hk
    omega
theorem Own.below {w w1 : World} {base : Nat} {v : Value} {ds : List Int} (h : Own w base v ds) (hb : Below w.heap.size w w1) : Own w1 base v ds :=
  World.ownsRow.kept h (row := none) ⟨hb.os, hb.tape, hb.output, hb.size, fun i hi _ => hb.block i hi⟩ (by cases v.ownBlock <;> simp)
theorem Own.dg {w : World} {base : Nat} {v : Value} {ds : List Int} (h : Own w base v ds) : Dg w v ds := by
  rcases h.2 with ⟨rfl, h0⟩ | ⟨g, cap, cur, rfl, hb, hh, hn, _, hcur, htake⟩
  · exact .inl ⟨rfl, List.length_eq_zero_iff.1 h0⟩
  · refine .inr ⟨g, cap, rfl, hn, (Array.getElem?_eq_some_iff.1 hh).1, fun j hj => ?_⟩
    have e : (cur.toList.take (ds.length * 1))[j]? = (ds.map (Value.int .u32))[j]? := by rw [htake]
    rw [List.getElem?_take, if_pos (by omega), List.getElem?_map, List.getElem?_eq_getElem hj] at e
    simp only [World.cell?, hh]
    rw [← Array.getElem?_toList, e]
    simp [hj]

/-- A row with more behind it. -/
def Obj.rowt (ds : List Int) (rest : List Value) : Obj := .cells (ds.map (Value.int .u32) ++ rest).toArray 102
theorem Own.row {w : World} {base : Nat} {v : Value} {ds : List Int} (h : Own w base v ds) : (v = .slice none 0 0 ∧ ds = []) ∨ ∃ g c rest, v = .slice (some ⟨g, 0, none⟩) ds.length c ∧ base ≤ g ∧ ds.length ≤ c ∧ w.heap[g]? = some (Obj.rowt ds rest) := by
  rcases h.2 with ⟨rfl, h0⟩ | ⟨g, cap, cur, rfl, hb, hh, hn, _, hcur, htake⟩
  · exact .inl ⟨rfl, List.length_eq_zero_iff.1 h0⟩
  · refine .inr ⟨g, cap, cur.toList.drop ds.length, rfl, hb, hn, ?_⟩
    rw [hh]
    unfold Obj.rowt
    rw [← htake, Nat.mul_one, List.take_append_drop]

variable {w0 w : World} {l l2 : List (Nat × Obj)}
theorem Keep.rtc {b : Nat} {ds : List Int} {rest : List Value} (K : Keep w0 l w) (m : (b, Obj.rowt ds rest) ∈ l) (j : Nat) (hj : j < ds.length) : w.cell? ⟨b, j, none⟩ = some (.int .u32 (ds.getD j 0)) :=
  K.cell m (by rw [List.getElem?_toArray, List.getElem?_append_left (by simpa using hj)]; simp [hj])
theorem Keep.rtw {b : Nat} {ds : List Int} {rest : List Value} (K : Keep w0 l w) (m : (b, Obj.rowt ds rest) ∈ l) (o : Nat) : w.frozen? ⟨b, o, none⟩ = false := K.warm m o
theorem Keep.setrt {b : Nat} {ds : List Int} {rest : List Value} (l1 : List (Nat × Obj)) (K : Keep w0 (l1 ++ (b, Obj.rowt ds rest) :: l2) w) (j : Nat) (hj : j < ds.length) (v : Int) : Keep w0 (l1 ++ (b, Obj.rowt (ds.set j v) rest) :: l2) (w.setCell ⟨b, j, none⟩ (.int .u32 v)) := by
  have := K.set l1 j (.int .u32 v)
  have e : (ds.map (Value.int .u32) ++ rest).toArray.setIfInBounds j (.int .u32 v) = ((ds.set j v).map (Value.int .u32) ++ rest).toArray := by
    rw [List.map_set, List.setIfInBounds_toArray, List.set_append, if_pos (by simpa using hj)]
  rw [e] at this
  exact this
theorem Keep.rtd {b : Nat} {ds : List Int} {rest : List Value} {c : Nat} (K : Keep w0 l w) (m : (b, Obj.rowt ds rest) ∈ l) (hc : ds.length ≤ c) : Dg w (.slice (some ⟨b, 0, none⟩) ds.length c) ds :=
  .inr ⟨b, c, rfl, hc, K.lt m, fun j hj => K.rtc m j hj⟩

theorem ownBlock_some {A : Option Addr} {n c : Nat} : (Value.slice A n c).ownBlock = A.map (·.block) := by cases A <;> rfl

/-- A copy of parts. -/
theorem app3 {ops : Array Oper} {rest : List Oper} {o : Oper} {a : Act} {Q : Exit → Act → World → Prop} {w : World} (hgd : o.guard = none) (s x : Operand)
    (ho : o.op = .call { callee := .builtin .append, args := #[s, x], argTypes := #[28, 28] }) (r : Value) (rs : List Int) (hs : a.eval s = .slice (some ⟨w.heap.size, 0, none⟩) 0 0) (hx : a.eval x = r) (hr : Da w r rs) (hlen : rs.length ≤ 1000000)
    (h : ∀ v' w', Own w' w.heap.size v' rs → Below w.heap.size w w' → wpList Tryz.prog ops Q rest (a.put o.dst v') w') :
    wpList Tryz.prog ops Q (o :: rest) a (w.alloc (.cells #[] 102)) := by
  obtain ⟨i0, hi, hx0⟩ := Option.map_eq_some_iff.1 info102
  simp only [Prod.mk.injEq] at hx0
  obtain ⟨hz0, hz1, hz2⟩ := hx0
  have hown : (w.alloc (.cells #[] 102)).ownsRow w.heap.size 102 1 (.slice (some ⟨w.heap.size, 0, none⟩) 0 0) 0 [] :=
    ⟨rfl, .inr ⟨w.heap.size, 0, #[], rfl, Nat.le_refl _, by show (w.heap.push _)[w.heap.size]? = _; exact Array.getElem?_push_size, Nat.le_refl _, by unfold maxLen; omega, rfl, rfl⟩⟩
  rcases hr with ⟨rfl, rfl⟩ | ⟨b, o', c, rfl, hc, hlt, hcell⟩
  · refine wpList_append_own_none hgd s x 28 ho w.heap.size 102 i0 1 Tryz.underlying28 hi _ 0 _ hs hown hx ?_
    exact h _ _ hown (below_one w _)
  · have hbe := below_one w (.cells #[] 102)
    refine wpList_append_own _ hgd s x 28 ho w.heap.size 102 i0 (.int .u32 0) 1 4 Tryz.underlying28 hi hz0 hz1 hz2 rfl (by decide) _ 0 _ hs hown ⟨b, o', none⟩ rs.length c (rs.map (Value.int .u32)) hx (by simp) ?_ ?_ (by unfold maxLen; omega) (by omega) (by simp) ?_
    · intro j u hu
      have hj : j < rs.length := by
        apply Classical.byContradiction
        intro hn
        rw [List.getElem?_eq_none (by simp; omega)] at hu
        cases hu
      have e : ((⟨b, o', none⟩ : Addr).add j) = ⟨b, o' + j, none⟩ := by unfold Addr.add; split <;> simp_all
      rw [e, hbe.cell (p := ⟨b, o' + j, none⟩) hlt, hcell j hj]
      rw [List.getElem?_map, List.getElem?_eq_getElem hj] at hu
      simpa [hj] using hu
    · intro u hu
      obtain ⟨z, _, rfl⟩ := List.mem_map.1 hu
      rfl
    · intro v' w' hown' hgrow _
      have hg : ∀ k, k < w.heap.size → w'.heap[k]? = (w.alloc (.cells #[] 102)).heap[k]? := fun k hk => hgrow.block k (by simp; omega) (fun e => by simp [Value.ownBlock] at e; omega)
      refine h v' w' ?_ ⟨hgrow.os, hgrow.tape, hgrow.output, Nat.le_trans hbe.size hgrow.size, fun k hk => (hg k hk).trans (hbe.block k hk)⟩
      unfold Own
      rw [Nat.zero_add] at hown'
      exact hown'

theorem nil28 : ∀ w : World, Sem.run Tryz.prog (binOp BinOp.eql 28 (Value.slice none 0 0) (Value.slice none 0 0)) w = .ok (.bool true) w := fun _ => by kernel_rfl
theorem some28 (p : Addr) (n c : Nat) : ∀ w : World, Sem.run Tryz.prog (binOp BinOp.eql 28 (Value.slice (some p) n c) (Value.slice none 0 0)) w = .ok (.bool false) w := fun _ => by kernel_rfl
attribute [go_sem] nil28 some28

set_option maxHeartbeats 1000000 in
set_option maxRecDepth 100000 in
theorem clone_any (s : Value) (ds : List Int) (w : World) (h : Da w s ds) (l : ds.length ≤ 1000000) :
    Calls Tryz.prog 103 #[s] w fun e w' => ∃ v, e = .returned v ∧ Own w' w.heap.size v ds ∧ Below w.heap.size w w' := by
  have H := Lib.hid h
  have HB := Lib.hid (Below.refl w.heap.size w)
  rcases h with ⟨rfl, rfl⟩ | ⟨b, o', c, rfl, hc, hlt, hcell⟩
  · go_enter Tryz.func103, Tryz.ntmps103
    go_wp2_with fail
    go_ret
    exact ⟨_, rfl, Own.nil _ _, HB.out⟩
  · clear hlt hcell
    go_enter Tryz.func103, Tryz.ntmps103
    go_wp2_with (at_builtin; refine app3 rfl (.tmp 5) (.tmp 6) rfl _ _ rfl rfl H.out l ?_; intro v' w' hown' hb')
    have Y := Lib.hid (And.intro hown' hb')
    clear hown' hb'
    go_wp2_with fail
    go_ret
    exact ⟨_, rfl, Y.out.1, Y.out.2⟩
end Go.Proofs.YtmidifgnpjlgcaaGreat
/- The walk of less: the difference of parts. -/
set_option linter.unusedVariables false
set_option linter.unusedSimpArgs false
namespace Go.Proofs.YtmidifgnpjlgcaaGreat
open Go.RowKit

theorem val_take_succ' (ds : List Int) (k : Nat) : val (ds.take (k + 1)) = val (ds.take k) + pb k * ds.getD k 0 := by
  by_cases h : k < ds.length
  · exact val_take_succ h
  · rw [List.take_of_length_le (by omega), List.take_of_length_le (by omega), List.getD_eq_getElem?_getD, List.getElem?_eq_none (by omega)]
    simp
theorem getD_out {b : List Int} {i : Nat} (h : ¬ i < b.length) : b.getD i 0 = 0 := by rw [List.getD_eq_getElem?_getD, List.getElem?_eq_none (by omega)]; rfl
theorem getD_set_ne' {ds : List Int} {i j : Nat} (h : i ≠ j) (d : Int) : (ds.set i d).getD j 0 = ds.getD j 0 := by
  rw [List.getD_eq_getElem?_getD, List.getElem?_set_ne h, ← List.getD_eq_getElem?_getD]
theorem val_take_set {ds : List Int} {i : Nat} (h : i < ds.length) (d : Int) : val ((ds.set i d).take (i + 1)) = val (ds.take i) + pb i * d := by
  rw [val_take_succ', getD_set_at h, List.take_set_of_le (Nat.le_refl i)]

/-- The first i parts of the difference. -/
def Lessed (a b : List Int) (i : Nat) (u : Int) (out : List Int) : Prop :=
  out.length = a.length ∧ digits out ∧ (0 ≤ u ∧ u ≤ 1) ∧ val (out.take i) = val (a.take i) - val (b.take i) + pb i * u ∧ ∀ j, i ≤ j → out.getD j 0 = a.getD j 0

theorem Lessed.start {a b : List Int} (ha : digits a) : Lessed a b 0 0 a := ⟨rfl, ha, by omega, by simp [val], fun _ _ => rfl⟩
theorem Lessed.step {a b : List Int} {i : Nat} {u : Int} {out : List Int} (h : Lessed a b i u out) (hi : i < a.length) (d u' : Int) (hd : 0 ≤ d ∧ d < 4294967296) (hu : 0 ≤ u' ∧ u' ≤ 1) (e : d = a.getD i 0 - u - b.getD i 0 + 4294967296 * u') : Lessed a b (i + 1) u' (out.set i d) := by
  obtain ⟨h1, h2, h3, h4, h5⟩ := h
  refine ⟨by simp [h1], digits_set h2 _ hd, hu, ?_, fun j hj => ?_⟩
  · rw [val_take_set (by omega), h4, val_take_succ' a, val_take_succ' b, e]
    show _ = _ + 4294967296 * pb i * u'
    generalize pb i = t
    generalize a.getD i 0 = x
    generalize b.getD i 0 = y
    grind
  · rw [getD_set_ne' (by omega), h5 j (by omega)]
theorem Lessed.done {a b : List Int} {u : Int} {out : List Int} (h : Lessed a b a.length u out) (hb : b.length ≤ a.length) (hv : val b ≤ val a) : val out = val a - val b := by
  obtain ⟨h1, h2, h3, h4, -⟩ := h
  rw [List.take_length, List.take_of_length_le hb, ← h1, List.take_length] at h4
  have := (val_bounds out h2).2
  have hp := pb_pos out.length
  by_cases e : u = 0
  · rw [e, Int.mul_zero] at h4; omega
  · rw [show u = 1 by omega, Int.mul_one] at h4; omega

/-- A part of the difference, as the machine has it. -/
theorem less_part {p u q : Int} (hp : 0 ≤ p ∧ p < 4294967296) (hu : 0 ≤ u ∧ u ≤ 1) (hq : 0 ≤ q ∧ q < 4294967296) :
    (0 ≤ IntKind.u64.wrap (IntKind.u64.wrap (p - u) - q) % 4294967296 ∧ IntKind.u64.wrap (IntKind.u64.wrap (p - u) - q) % 4294967296 < 4294967296) ∧ (0 ≤ IntKind.u64.wrap (IntKind.u64.wrap (p - u) - q) / 9223372036854775808 ∧ IntKind.u64.wrap (IntKind.u64.wrap (p - u) - q) / 9223372036854775808 ≤ 1) ∧
      IntKind.u64.wrap (IntKind.u64.wrap (p - u) - q) % 4294967296 = p - u - q + 4294967296 * (IntKind.u64.wrap (IntKind.u64.wrap (p - u) - q) / 9223372036854775808) := by
  rw [IntKind.wrap_u64, IntKind.wrap_u64]
  omega
theorem less_part0 {p u : Int} (hp : 0 ≤ p ∧ p < 4294967296) (hu : 0 ≤ u ∧ u ≤ 1) :
    (0 ≤ IntKind.u64.wrap (p - u) % 4294967296 ∧ IntKind.u64.wrap (p - u) % 4294967296 < 4294967296) ∧ (0 ≤ IntKind.u64.wrap (p - u) / 9223372036854775808 ∧ IntKind.u64.wrap (p - u) / 9223372036854775808 ≤ 1) ∧
      IntKind.u64.wrap (p - u) % 4294967296 = p - u - 0 + 4294967296 * (IntKind.u64.wrap (p - u) / 9223372036854775808) := by
  rw [IntKind.wrap_u64]
  omega

set_option maxHeartbeats 4000000 in
set_option maxRecDepth 100000 in
theorem less_any (s t : Value) (a b : List Int) (w : World) (h1 : Da w s a) (h2 : Dg w t b) (d1 : digits a) (d2 : digits b) (l1 : a.length ≤ 1000000) (l2 : b.length ≤ 1000000) :
    Calls Tryz.prog 77 #[s, t] w fun e w' => ∃ v out, e = .returned v ∧ Dg w' v out ∧ digits out ∧ out.length = a.length ∧ (b.length ≤ a.length → val b ≤ val a → val out = val a - val b) ∧ Below w.heap.size w w' := by
  obtain ⟨B, d, rfl, hb⟩ := h2.len
  have HB := Lib.hid hb
  have H1 := Lib.hid h1
  have D1 := Lib.hid (fun k => getD_mem d1 k); have D2 := Lib.hid (fun k => getD_mem d2 k)
  have HS := Lib.hid (Lessed.start (b := b) d1)
  clear hb d1 d2 h1 h2
  have K := Lib.hid (Keep.start w)
  go_enter Tryz.func77, Tryz.ntmps77
  go_wp2_with fail
  refine (clone_any s a _ (H1.out.below K.out.B) l1).mono ?_
  rintro e w2 ⟨v, rfl, hown, hb⟩
  rcases hown.row with ⟨rfl, rfl⟩ | ⟨g, c, rest, rfl, hg, hc, hrow⟩
  · replace K := Lib.hid (Keep.stays _ _ K.out hb)
    clear hown hb
    go_wp2_with fail
    go_loopg [6, 13] 0 (fun gk uv iv wr => iv = .int .i64 0 ∧ Keep w [] wr)
    case atStart => exact ⟨rfl, K.out⟩
    case round =>
      obtain ⟨rfl, k⟩ := hrel
      have K := Lib.hid k
      clear k
      go_wp2_with fail
      go_ret
      exact ⟨_, [], rfl, .inl ⟨rfl, rfl⟩, digits_nil, rfl, fun h1 h2 => HS.out.done h1 h2, K.out.B⟩
  · replace K := Lib.hid (Keep.held K.out (Keep.stays _ _ K.out hb) hrow hg)
    clear hown hb hrow
    go_wp2_with fail
    go_loopg [6, 13] a.length (fun gk uv iv wr => ∃ (i : Nat) (u : Int) (out : List Int), gk + i = a.length ∧ iv = .int .i64 (i : Int) ∧ uv = .int .u64 u ∧ Lessed a b i u out ∧ Keep w [(g, Obj.rowt out rest)] wr)
    case atStart => exact ⟨0, 0, a, by omega, rfl, rfl, HS.out, K.out⟩
    case round =>
      clear K
      obtain ⟨i, u, out, hgi, rfl, rfl, hl, k⟩ := hrel
      have K := Lib.hid k
      have HL := Lib.hid hl
      obtain ⟨u1, u2⟩ := hl.2.2.1
      have ho := hl.1
      have hsame := hl.2.2.2.2 i (Nat.le_refl i)
      clear k hl
      by_cases hi : i < a.length
      · have X := K.out.rtc (.head _) i (by omega)
        have f1 := K.out.rtw (.head _)
        rw [hsame] at X
        obtain ⟨p1, p2⟩ := D1.out i
        clear hsame ho
        by_cases hj : i < b.length
        · obtain ⟨y, rfl, hy, hyc⟩ := HB.out (by omega)
          have Y := kept_cell K.out hy (hyc i hj)
          obtain ⟨q1, q2⟩ := D2.out i
          clear hy hyc
          have HST := Lib.hid (fun d u' hd hu e => HL.out.step hi d u' hd hu e)
          have HLE := Lib.hid (show i < out.length by rw [HL.out.1]; exact hi)
          generalize a.getD i 0 = p at *
          generalize b.getD i 0 = q at *
          obtain ⟨t1, t2, t3⟩ := less_part ⟨p1, p2⟩ ⟨u1, u2⟩ ⟨q1, q2⟩
          have L2 := Lib.hid (HST.out _ _ t1 t2 t3)
          clear t1 t2 t3 HST HL
          go_wp2_with fail
          replace K := Lib.hid (K.out.setrt [] i HLE.out (IntKind.u64.wrap (IntKind.u64.wrap (p - u) - q) % 4294967296))
          clear X f1 Y
          go_roundg (gk - 1)
          case measure => omega
          case rel => exact ⟨i + 1, _, _, by omega, congrArg (Value.int .i64) (by omega), rfl, L2.out, K.out⟩
        · have HZ := Lib.hid (getD_out hj)
          have HST := Lib.hid (fun d u' hd hu e => HL.out.step hi d u' hd hu e)
          rw [HZ.out] at HST
          have HLE := Lib.hid (show i < out.length by rw [HL.out.1]; exact hi)
          generalize a.getD i 0 = p at *
          obtain ⟨t1, t2, t3⟩ := less_part0 ⟨p1, p2⟩ ⟨u1, u2⟩
          have L2 := Lib.hid (HST.out _ _ t1 t2 t3)
          clear t1 t2 t3 HST HL
          go_wp2_with fail
          replace K := Lib.hid (K.out.setrt [] i HLE.out (IntKind.u64.wrap (p - u) % 4294967296))
          clear X f1
          go_roundg (gk - 1)
          case measure => omega
          case rel => exact ⟨i + 1, _, _, by omega, congrArg (Value.int .i64) (by omega), rfl, L2.out, K.out⟩
      · have hia : i = a.length := by omega
        have HD := Lib.hid (fun h1 h2 => (hia ▸ HL.out : Lessed a b a.length u out).done h1 h2)
        clear hia
        have HG := Lib.hid (K.out.rtd (.head _) (c := c) (by omega))
        rw [ho] at HG
        have HO := Lib.hid ho
        clear ho hsame
        go_wp2_with fail
        go_ret
        exact ⟨_, out, rfl, HG.out, HL.out.2.1, HO.out, HD.out, K.out.B⟩
end Go.Proofs.YtmidifgnpjlgcaaGreat
/- The walk of plus: the sum of parts. -/
set_option linter.unusedVariables false
set_option linter.unusedSimpArgs false
namespace Go.Proofs.YtmidifgnpjlgcaaGreat
open Go.RowKit

/-- The first i parts of the sum; behind them the longer one's. -/
def Plused (a b : List Int) (i : Nat) (u : Int) (out : List Int) : Prop :=
  out.length = a.length + 1 ∧ digits out ∧ (0 ≤ u ∧ u ≤ 1) ∧ val (out.take i) + pb i * u = val (a.take i) + val (b.take i) ∧ ∀ j, i ≤ j → out.getD j 0 = a.getD j 0

theorem getD_app0 (a : List Int) (j : Nat) : (a ++ [0]).getD j 0 = a.getD j 0 := by
  by_cases h : j < a.length
  · rw [List.getD_eq_getElem?_getD, List.getElem?_append_left h, ← List.getD_eq_getElem?_getD]
  · rw [getD_out h, List.getD_eq_getElem?_getD, List.getElem?_append_right (by omega)]
    by_cases e : j - a.length = 0
    · rw [e]; rfl
    · rw [List.getElem?_eq_none (by simp; omega)]; rfl
theorem digits_app0 {a : List Int} (h : digits a) : digits (a ++ [0]) := by
  intro x hx
  rcases List.mem_append.1 hx with hx | hx
  · exact h x hx
  · rw [List.mem_singleton] at hx; omega
theorem Plused.start {a : List Int} (b : List Int) (ha : digits a) : Plused a b 0 0 (a ++ [0]) := ⟨by simp, digits_app0 ha, by omega, by simp [val], fun j _ => getD_app0 a j⟩
theorem Plused.step {a b : List Int} {i : Nat} {u : Int} {out : List Int} (h : Plused a b i u out) (hi : i < a.length + 1) (s : Int) (hs : 0 ≤ s ∧ s < 8589934592) (e : s = u + a.getD i 0 + b.getD i 0) : Plused a b (i + 1) (s / 4294967296) (out.set i (s % 4294967296)) := by
  obtain ⟨h1, h2, h3, h4, h5⟩ := h
  refine ⟨by simp [h1], digits_set h2 _ (by omega), by omega, ?_, fun j hj => ?_⟩
  · rw [val_take_set (by omega), val_take_succ' a, val_take_succ' b]
    show _ + 4294967296 * pb i * (s / 4294967296) = _
    have e2 : s = s % 4294967296 + 4294967296 * (s / 4294967296) := by omega
    generalize s % 4294967296 = r at *
    generalize s / 4294967296 = q at *
    generalize pb i = t at *
    generalize a.getD i 0 = x at *
    generalize b.getD i 0 = y at *
    grind
  · rw [getD_set_ne' (by omega), h5 j (by omega)]
theorem Plused.done {a b : List Int} {u : Int} {out : List Int} (h : Plused a b (a.length + 1) u out) (hb : b.length ≤ a.length) (da : digits a) (db : digits b) : val out = val a + val b := by
  obtain ⟨h1, h2, h3, h4, -⟩ := h
  rw [List.take_of_length_le (l := a) (by omega), List.take_of_length_le (l := b) (by omega), ← h1, List.take_length] at h4
  have v := (val_bounds out h2)
  have va := (val_bounds a da).2
  have vb := (val_bounds b db).2
  have m := pb_mono hb
  rw [h1] at h4
  have hp := pb_pos a.length
  have e : pb (a.length + 1) = 4294967296 * pb a.length := rfl
  by_cases e0 : u = 0
  · rw [e0, Int.mul_zero] at h4; omega
  · rw [show u = 1 by omega, Int.mul_one] at h4; omega

theorem size102 : (Tryz.prog.info? 102).map (·.size) = some 1 := by kernel_rfl
/-- Parts copied to the front of a row. -/
theorem copy_run {w w0 : World} {l : List (Nat × Obj)} {g dLen dCap : Nat} {cur : List Value} {r : Value} {ds : List Int} (K : Keep w0 ((g, .cells cur.toArray 102) :: l) w) (hr : Dg w r ds) (h1 : ds.length ≤ dLen) (h2 : ds.length ≤ cur.length) :
    ∃ w', Sem.run Tryz.prog (Builtin.copy_ #[28, 28] 3 #[.slice (some ⟨g, 0, none⟩) dLen dCap, r]) w = .ok (.int .i64 ds.length) w' ∧ Keep w0 ((g, .cells (ds.map (Value.int .u32) ++ cur.drop ds.length).toArray 102) :: l) w' := by
  have hg := K.box _ List.mem_cons_self
  by_cases h0 : ds.length = 0
  · obtain ⟨A, c, rfl, -⟩ := hr.len
    have e := List.length_eq_zero_iff.1 h0
    refine ⟨w, ?_, ?_⟩
    · have := run_copy_none (P := Tryz.prog) w 28 28 3 102 (some ⟨g, 0, none⟩) A dLen dCap ds.length c Tryz.underlying28 size102 (by rw [h0]; exact Nat.zero_min _)
      rw [this, h0]
      rfl
    · rw [e]
      simpa using K
  · rcases hr with ⟨rfl, h3⟩ | ⟨b, sc, rfl, hc, hlt, hcell⟩
    · rw [h3] at h0; simp at h0
    · have hrun := run_copy_row (P := Tryz.prog) w 28 28 3 102 g 0 dLen dCap ⟨b, 0, none⟩ ds.length sc cur.toArray 102 (ds.map (Value.int .u32)) Tryz.underlying28 size102 hg (by rw [List.length_map]; exact (Nat.min_eq_left h1).symm) (fun j v hv => by
        have hj : j < ds.length := by
          apply Classical.byContradiction
          intro hn
          rw [List.getElem?_eq_none (by simp; omega)] at hv
          cases hv
        have e : ((⟨b, 0, none⟩ : Addr).add j) = ⟨b, j, none⟩ := by unfold Addr.add; split <;> simp_all
        rw [e, hcell j hj]
        rw [List.getElem?_map, List.getElem?_eq_getElem hj] at hv
        simpa [hj] using hv) (by simpa using h2) (fun v hv => by obtain ⟨z, _, rfl⟩ := List.mem_map.1 hv; rfl)
      refine ⟨_, hrun.trans (by rw [List.length_map]; rfl), ?_⟩
      refine Keep.turn (l1 := []) K (below_setRow (Below.refl g w) (Nat.le_refl g) _) ?_ (fun k hk => setRow_other w g k _ hk)
      rw [setRow_heap w g _ _ 102 _ hg]
      simp

set_option maxHeartbeats 4000000 in
set_option maxRecDepth 100000 in
theorem plus_any (s t : Value) (a b : List Int) (w : World) (h1 : Dg w s a) (h2 : Dg w t b) (d1 : digits a) (d2 : digits b) (l1 : a.length ≤ 900000) (l2 : b.length ≤ 900000) :
    Calls Tryz.prog 75 #[s, t] w fun e w' => ∃ v out, e = .returned v ∧ Dg w' v out ∧ digits out ∧ out.length = max a.length b.length + 1 ∧ val out = val a + val b ∧ Below w.heap.size w w' := by
  have H1 := Lib.hid h1; have H2 := Lib.hid h2
  obtain ⟨A, c, rfl, ha⟩ := h1.len
  obtain ⟨B, d, rfl, hb⟩ := h2.len
  have HA := Lib.hid ha; have HB := Lib.hid hb
  have D1 := Lib.hid d1; have D2 := Lib.hid d2
  clear ha hb d1 d2 h1 h2
  have K := Lib.hid (Keep.start w)
  by_cases hlt : a.length < b.length
  · go_enter Tryz.func75, Tryz.ntmps75
    (have hmk := mk_row (b.length + 1) (by omega) ((b.length : Int) + 1) (by omega); go_upto_region 4 with fail; clear hmk; replace K := Lib.hid (K.out.alloc (Obj.row (List.replicate (b.length + 1) 0))); have HDG := Lib.hid (H2.out.below K.out.B); refine out_with (B := fun W => Dg W _ b) K.out HDG.out ?_; clear K HDG; intro W K HDG; replace K := Lib.hid K; replace HDG := Lib.hid HDG; obtain ⟨w3, hcp, k⟩ := copy_run (dLen := b.length + 1) (dCap := b.length + 1) K.out HDG.out (by omega) (by simp); go_upto_region 5 with fail; clear hcp; have HE : Hid ((List.map (Value.int .u32) b ++ (List.map (Value.int .u32) (List.replicate (b.length + 1) 0)).drop b.length).toArray = (List.map (Value.int .u32) (b ++ [0])).toArray) := (by show _ = _; simp); rw [HE.out] at k; replace K : Hid (Keep w [(w.heap.size, Obj.row (b ++ [0]))] w3) := k; clear k HDG HE; have HS := Lib.hid (Plused.start a D2.out); have DA := Lib.hid (fun k => getD_mem D2.out k); have DB := Lib.hid (fun k => getD_mem D1.out k); go_wp2_with fail; go_loopg [6, 24] (b.length + 1) (fun gk uv iv wr => ∃ (i : Nat) (u : Int) (out : List Int), gk + i = b.length + 1 ∧ iv = .int .i64 (i : Int) ∧ uv = .int .u64 u ∧ Plused b a i u out ∧ Keep w [(w.heap.size, Obj.row out)] wr); (case atStart => exact ⟨0, 0, b ++ [0], by omega, rfl, rfl, HS.out, K.out⟩); (case round => (clear K; obtain ⟨i, u, out, hgi, rfl, rfl, hl, k⟩ := hrel; have K := Lib.hid k; have HL := Lib.hid hl; obtain ⟨u1, u2⟩ := hl.2.2.1; have ho := hl.1; have hsame := hl.2.2.2.2 i (Nat.le_refl i); clear k hl; by_cases hi : i < b.length + 1; (focus (have X := K.out.rowc (.head _) i (by omega); have f1 := K.out.roww (.head _); rw [hsame] at X; obtain ⟨p1, p2⟩ := DA.out i; clear hsame ho; have HST := Lib.hid (fun s hs e => HL.out.step hi s hs e); by_cases hj : i < a.length; (focus (obtain ⟨y, rfl, hy, hyc⟩ := HA.out (by omega); have Y := kept_cell K.out hy (hyc i hj); obtain ⟨q1, q2⟩ := DB.out i; clear hy hyc; generalize b.getD i 0 = p at *; generalize a.getD i 0 = q at *; have L2 := Lib.hid (HST.out (u + p + q) (by omega) rfl); clear HST HL; (go_wp2_with fail; replace K := Lib.hid (K.out.setr_0 i ((u + p + q) % 4294967296)); clear X f1; (try clear Y); go_roundg (gk - 1); (case measure => omega); (case rel => exact ⟨i + 1, _, _, by omega, congrArg (Value.int .i64) (by omega), rfl, L2.out, K.out⟩)))); (have HZ := Lib.hid (getD_out hj); rw [HZ.out] at HST; generalize b.getD i 0 = p at *; have L2 := Lib.hid (HST.out (u + p) (by omega) (by omega)); clear HST HL; (go_wp2_with fail; replace K := Lib.hid (K.out.setr_0 i ((u + p) % 4294967296)); clear X f1; (try clear Y); go_roundg (gk - 1); (case measure => omega); (case rel => exact ⟨i + 1, _, _, by omega, congrArg (Value.int .i64) (by omega), rfl, L2.out, K.out⟩))))); (have HD := Lib.hid ((show i = b.length + 1 by omega) ▸ HL.out : Plused b a (b.length + 1) u out); have HV := Lib.hid (HD.out.done (by omega) D2.out D1.out); have HG := Lib.hid (K.out.rowd (.head _) (c := b.length + 1) (by omega)); rw [ho] at HG; have HO := Lib.hid ho; clear ho hsame; go_wp2_with fail; go_ret; exact ⟨_, out, rfl, HG.out, HL.out.2.1, by have := HO.out; omega, by have := HV.out; omega, K.out.B⟩))))
  · go_enter Tryz.func75, Tryz.ntmps75
    (have hmk := mk_row (a.length + 1) (by omega) ((a.length : Int) + 1) (by omega); go_upto_region 4 with fail; clear hmk; replace K := Lib.hid (K.out.alloc (Obj.row (List.replicate (a.length + 1) 0))); have HDG := Lib.hid (H1.out.below K.out.B); refine out_with (B := fun W => Dg W _ a) K.out HDG.out ?_; clear K HDG; intro W K HDG; replace K := Lib.hid K; replace HDG := Lib.hid HDG; obtain ⟨w3, hcp, k⟩ := copy_run (dLen := a.length + 1) (dCap := a.length + 1) K.out HDG.out (by omega) (by simp); go_upto_region 5 with fail; clear hcp; have HE : Hid ((List.map (Value.int .u32) a ++ (List.map (Value.int .u32) (List.replicate (a.length + 1) 0)).drop a.length).toArray = (List.map (Value.int .u32) (a ++ [0])).toArray) := (by show _ = _; simp); rw [HE.out] at k; replace K : Hid (Keep w [(w.heap.size, Obj.row (a ++ [0]))] w3) := k; clear k HDG HE; have HS := Lib.hid (Plused.start b D1.out); have DA := Lib.hid (fun k => getD_mem D1.out k); have DB := Lib.hid (fun k => getD_mem D2.out k); go_wp2_with fail; go_loopg [6, 24] (a.length + 1) (fun gk uv iv wr => ∃ (i : Nat) (u : Int) (out : List Int), gk + i = a.length + 1 ∧ iv = .int .i64 (i : Int) ∧ uv = .int .u64 u ∧ Plused a b i u out ∧ Keep w [(w.heap.size, Obj.row out)] wr); (case atStart => exact ⟨0, 0, a ++ [0], by omega, rfl, rfl, HS.out, K.out⟩); (case round => (clear K; obtain ⟨i, u, out, hgi, rfl, rfl, hl, k⟩ := hrel; have K := Lib.hid k; have HL := Lib.hid hl; obtain ⟨u1, u2⟩ := hl.2.2.1; have ho := hl.1; have hsame := hl.2.2.2.2 i (Nat.le_refl i); clear k hl; by_cases hi : i < a.length + 1; (focus (have X := K.out.rowc (.head _) i (by omega); have f1 := K.out.roww (.head _); rw [hsame] at X; obtain ⟨p1, p2⟩ := DA.out i; clear hsame ho; have HST := Lib.hid (fun s hs e => HL.out.step hi s hs e); by_cases hj : i < b.length; (focus (obtain ⟨y, rfl, hy, hyc⟩ := HB.out (by omega); have Y := kept_cell K.out hy (hyc i hj); obtain ⟨q1, q2⟩ := DB.out i; clear hy hyc; generalize a.getD i 0 = p at *; generalize b.getD i 0 = q at *; have L2 := Lib.hid (HST.out (u + p + q) (by omega) rfl); clear HST HL; (go_wp2_with fail; replace K := Lib.hid (K.out.setr_0 i ((u + p + q) % 4294967296)); clear X f1; (try clear Y); go_roundg (gk - 1); (case measure => omega); (case rel => exact ⟨i + 1, _, _, by omega, congrArg (Value.int .i64) (by omega), rfl, L2.out, K.out⟩)))); (have HZ := Lib.hid (getD_out hj); rw [HZ.out] at HST; generalize a.getD i 0 = p at *; have L2 := Lib.hid (HST.out (u + p) (by omega) (by omega)); clear HST HL; (go_wp2_with fail; replace K := Lib.hid (K.out.setr_0 i ((u + p) % 4294967296)); clear X f1; (try clear Y); go_roundg (gk - 1); (case measure => omega); (case rel => exact ⟨i + 1, _, _, by omega, congrArg (Value.int .i64) (by omega), rfl, L2.out, K.out⟩))))); (have HD := Lib.hid ((show i = a.length + 1 by omega) ▸ HL.out : Plused a b (a.length + 1) u out); have HV := Lib.hid (HD.out.done (by omega) D1.out D2.out); have HG := Lib.hid (K.out.rowd (.head _) (c := a.length + 1) (by omega)); rw [ho] at HG; have HO := Lib.hid ho; clear ho hsame; go_wp2_with fail; go_ret; exact ⟨_, out, rfl, HG.out, HL.out.2.1, by have := HO.out; omega, by have := HV.out; omega, K.out.B⟩))))
end Go.Proofs.YtmidifgnpjlgcaaGreat
