/- Decimal digits in memory; the walk of made. -/
import Derived.Test.YtehjfjdopeadfaaSpK
import Derived.Deep.LoopGhost
set_option linter.unusedVariables false
set_option linter.unusedSimpArgs false
namespace Go.Proofs.Ytehjfjdopeadfaa
open Go.RowKit

/-- What digits come to, the lowest first. -/
def val : List Int → Int
  | [] => 0
  | d :: l => d + 10 * val l

/-- A slice of numbers, as it lies: nothing, or a block of its own from the start. -/
def Dg (w : World) (s : Value) (ds : List Int) : Prop :=
  (s = .slice none 0 0 ∧ ds = []) ∨ ∃ b c, s = .slice (some ⟨b, 0, none⟩) ds.length c ∧ ds.length ≤ c ∧ b < w.heap.size ∧ ∀ j, j < ds.length → w.cell? ⟨b, j, none⟩ = some (.int .i64 (ds.getD j 0))

theorem Dg.below {w w' : World} {s : Value} {ds : List Int} (h : Dg w s ds) (hb : Below w.heap.size w w') : Dg w' s ds := by
  rcases h with h | ⟨b, c, hs, hc, hlt, hcell⟩
  · exact .inl h
  · exact .inr ⟨b, c, hs, hc, Nat.lt_of_lt_of_le hlt hb.size, fun j hj => by rw [hb.cell (p := ⟨b, j, none⟩) hlt]; exact hcell j hj⟩

def digits (ds : List Int) : Prop := ∀ d ∈ ds, 0 ≤ d ∧ d ≤ 9
/-- The last digit is not zero. -/
def canon (ds : List Int) : Prop := ds = [] ∨ ds.getD (ds.length - 1) 0 ≠ 0

/-- The rest of the digits are zero. -/
theorem val_take (ds : List Int) : ∀ k, (∀ j, k ≤ j → j < ds.length → ds.getD j 0 = 0) → val (ds.take k) = val ds := by
  induction ds with
  | nil => intro k _; simp
  | cons d l ih =>
    intro k h
    cases k with
    | zero =>
      have h0 : d = 0 := h 0 (by omega) (by simp)
      have := ih 0 (fun j _ hj => by have := h (j + 1) (by omega) (by simpa using hj); simpa using this)
      rw [List.take_zero] at this ⊢
      show val [] = d + 10 * val l
      rw [← this, h0]
      rfl
    | succ k =>
      have := ih k (fun j h1 hj => by have := h (j + 1) (by omega) (by simpa using hj); simpa using this)
      rw [List.take_succ_cons]
      show d + 10 * val (l.take k) = d + 10 * val l
      rw [this]

/-- A number of the document's in a box. -/
def Obj.num (neg : Bool) (s : Value) : Obj := .cells #[.bool neg, s] 79
variable {w0 w : World} {l l2 : List (Nat × Obj)}
theorem Keep.nm {b : Nat} {n : Bool} {s : Value} (K : Keep w0 l w) (m : (b, Obj.num n s) ∈ l) : (∀ o, w.frozen? ⟨b, o, none⟩ = false) ∧ w.cell? ⟨b, 0, none⟩ = some (.bool n) ∧ w.cell? ⟨b, 1, none⟩ = some s :=
  ⟨fun o => K.warm m o, K.cell m rfl, K.cell m rfl⟩
theorem Keep.anm {b : Nat} {n : Bool} {s : Value} (K : Hid (Keep w0 l w)) (m : (b, Obj.num n s) ∈ l) : (∀ p : At (Keep w0 l), p.w.cell? ⟨b, 0, none⟩ = some (.bool n)) ∧ (∀ p : At (Keep w0 l), p.w.cell? ⟨b, 1, none⟩ = some s) :=
  ⟨fun p => p.h.cell m rfl, fun p => p.h.cell m rfl⟩
theorem Keep.putn {b : Nat} {n : Bool} {s : Value} (l1 : List (Nat × Obj)) (K : Keep w0 (l1 ++ (b, Obj.num n s) :: l2) w) (n' : Bool) (s' : Value) : Keep w0 (l1 ++ (b, Obj.num n' s') :: l2) ((w.setCell ⟨b, 0, none⟩ (.bool n')).setCell ⟨b, 1, none⟩ s') := by
  have := (K.set l1 0 (.bool n')).set l1 1 s'
  simp at this
  exact this
theorem Keep.putn_0 {b : Nat} {n : Bool} {s : Value} (K : Keep w0 ((b, Obj.num n s) :: l2) w) (n' : Bool) (s' : Value) : Keep w0 ((b, Obj.num n' s') :: l2) ((w.setCell ⟨b, 0, none⟩ (.bool n')).setCell ⟨b, 1, none⟩ s') := K.putn [] n' s'
theorem Keep.putn_1 {p : Nat × Obj} {b : Nat} {n : Bool} {s : Value} (K : Keep w0 (p :: (b, Obj.num n s) :: l2) w) (n' : Bool) (s' : Value) : Keep w0 (p :: (b, Obj.num n' s') :: l2) ((w.setCell ⟨b, 0, none⟩ (.bool n')).setCell ⟨b, 1, none⟩ s') := K.putn [p] n' s'
theorem Keep.putn_2 {p q : Nat × Obj} {b : Nat} {n : Bool} {s : Value} (K : Keep w0 (p :: q :: (b, Obj.num n s) :: l2) w) (n' : Bool) (s' : Value) : Keep w0 (p :: q :: (b, Obj.num n' s') :: l2) ((w.setCell ⟨b, 0, none⟩ (.bool n')).setCell ⟨b, 1, none⟩ s') := K.putn [p, q] n' s'
theorem Keep.putn_3 {p q r : Nat × Obj} {b : Nat} {n : Bool} {s : Value} (K : Keep w0 (p :: q :: r :: (b, Obj.num n s) :: l2) w) (n' : Bool) (s' : Value) : Keep w0 (p :: q :: r :: (b, Obj.num n' s') :: l2) ((w.setCell ⟨b, 0, none⟩ (.bool n')).setCell ⟨b, 1, none⟩ s') := K.putn [p, q, r] n' s'

theorem ret_nm {fn : Func} {p g : Nat} {tmps : Array Value} {w : World} {n : Bool} {s : Value} {R : Ending → World → Prop} (h : fn.results = #[.cell p 79]) (hp : tmps.getD p undef = .pointer (some ⟨g, 0, none⟩)) (hb : w.heap[g]? = some (Obj.num n s)) (hR : R (.returned (.agg #[.bool n, s])) w) : bodyPost Try.prog fn R .ret { tmps := tmps, defers := [] } w :=
  bodyPost_ret (results_cell_row h tmps w g 79 _ _ _ hp hb Try.underlying79 rfl (by kernel_rfl)) rfl hR

set_option maxHeartbeats 1000000 in
set_option maxRecDepth 100000 in
theorem made_raw (neg : Bool) (b c : Nat) (ds : List Int) (w : World) (hc : ds.length ≤ c) (hlt : b < w.heap.size) (hl : ds.length ≤ 1000000) (hcell : ∀ j, j < ds.length → w.cell? ⟨b, j, none⟩ = some (.int .i64 (ds.getD j 0))) :
    Calls Try.prog 96 #[.bool neg, .slice (some ⟨b, 0, none⟩) ds.length c] w fun e w' => ∃ k, k ≤ ds.length ∧ (∀ j, k ≤ j → j < ds.length → ds.getD j 0 = 0) ∧ (k = 0 ∨ ds.getD (k - 1) 0 ≠ 0) ∧
      e = .returned (.agg #[.bool (neg && decide (0 < k)), .slice (some ⟨b, 0, none⟩) k c]) ∧ Below w.heap.size w w' := by
  have HC := Lib.hid hcell
  have HL := Lib.hid hlt
  clear hcell hlt
  cases neg
  all_goals
    have K := Lib.hid (Keep.begin1 w (Obj.num false (.slice none 0 0)))
    go_enter Try.func96, Try.ntmps96
    go_upto_region 1 with fail
    (refine out_keep K.out ?_; clear K; intro W K; replace K := Lib.hid K)
    go_wp2_with fail
    go_loopg [5] ds.length (fun g nv wr => nv = .int .i64 (g : Int) ∧ g ≤ ds.length ∧ (∀ j, g ≤ j → j < ds.length → ds.getD j 0 = 0) ∧ wr = W)
    case atStart => exact ⟨rfl, Nat.le_refl _, fun j h1 h2 => absurd h2 (by omega), rfl⟩
    case round =>
      obtain ⟨rfl, hg, hz, rfl⟩ := hrel
      have HZ := Lib.hid hz
      clear hz
      obtain ⟨f1, c10, c11⟩ := K.out.nm (.head _)
      cases gk with
      | zero =>
        go_wp2_with fail
        exact ret_nm Try.results96 rfl ((K.out.putn_0 _ _).box _ (.head _)) ⟨0, Nat.zero_le _, HZ.out, .inl rfl, by simp, (K.out.putn_0 _ _).B⟩
      | succ k =>
        have hk := HC.out k (by omega)
        have hcl : wr.cell? ⟨b, k, none⟩ = some (.int .i64 (ds.getD k 0)) := by rw [K.out.B.cell (p := ⟨b, k, none⟩) HL.out]; exact hk
        clear hk
        generalize hdk : ds.getD k 0 = dk at hcl
        have HD := Lib.hid hdk
        clear hdk
        by_cases hd : dk = 0
        · have HD2 := Lib.hid hd
          go_wp2_with fail
          go_roundg k
          case measure => omega
          case rel =>
            refine ⟨congrArg (Value.int .i64) (by omega), by omega, fun j h1 h2 => ?_, rfl⟩
            by_cases e : j = k
            · rw [e, HD.out, HD2.out]
            · exact HZ.out j (by omega) h2
        · have HD2 := Lib.hid hd
          go_wp2_with fail
          exact ret_nm Try.results96 rfl ((K.out.putn_0 _ _).box _ (.head _)) ⟨k + 1, hg, HZ.out, .inr (by rw [Nat.add_sub_cancel, HD.out]; exact HD2.out), by simp, (K.out.putn_0 _ _).B⟩

set_option maxRecDepth 100000 in
theorem made_nil (neg : Bool) (w : World) : Calls Try.prog 96 #[.bool neg, .slice none 0 0] w fun e w' => e = .returned (.agg #[.bool false, .slice none 0 0]) ∧ Below w.heap.size w w' := by
  cases neg
  all_goals
    have K := Lib.hid (Keep.begin1 w (Obj.num false (.slice none 0 0)))
    go_enter Try.func96, Try.ntmps96
    go_upto_region 1 with fail
    (refine out_keep K.out ?_; clear K; intro W K; replace K := Lib.hid K)
    go_wp2_with fail
    go_loopg [5] 0 (fun g nv wr => nv = .int .i64 0 ∧ wr = W)
    case atStart => exact ⟨rfl, rfl⟩
    case round =>
      obtain ⟨rfl, rfl⟩ := hrel
      obtain ⟨f1, c10, c11⟩ := K.out.nm (.head _)
      go_wp2_with fail
      exact ret_nm Try.results96 rfl ((K.out.putn_0 _ _).box _ (.head _)) ⟨rfl, (K.out.putn_0 _ _).B⟩

/-- A value is a whole number, as the document has it. -/
def Nm (w : World) (v : Value) (z : Int) : Prop := ∃ neg s ds, v = .agg #[.bool neg, s] ∧ Dg w s ds ∧ digits ds ∧ canon ds ∧ (neg = true → ds ≠ []) ∧ z = (if neg then -val ds else val ds)
/-- As Nm, the parts told, and how many digits there are at most. -/
def Num (w : World) (neg : Bool) (s : Value) (ds : List Int) : Prop := Dg w s ds ∧ digits ds ∧ canon ds ∧ (neg = true → ds ≠ [])

theorem digits_nil : digits [] := by intro d h; cases h
theorem Num.nil (w : World) : Num w false (.slice none 0 0) [] := ⟨.inl ⟨rfl, rfl⟩, digits_nil, .inl rfl, fun h => by cases h⟩
theorem digits_take {ds : List Int} (h : digits ds) (k : Nat) : digits (ds.take k) := fun d hd => h d (List.mem_of_mem_take hd)
theorem getD_take {ds : List Int} {k j : Nat} (h : j < k) : (ds.take k).getD j 0 = ds.getD j 0 := by simp [List.getElem?_take, h]

/-- What made makes of digits. -/
theorem mad_any (neg : Bool) (s : Value) (ds : List Int) (w : World) (h : Dg w s ds) (hd : digits ds) (hl : ds.length ≤ 1000000) :
    Calls Try.prog 96 #[.bool neg, s] w fun e w' => ∃ n s' ds', e = .returned (.agg #[.bool n, s']) ∧ Num w' n s' ds' ∧ val ds' = val ds ∧ ds'.length ≤ ds.length ∧ n = (neg && decide (ds' ≠ [])) ∧ Below w.heap.size w w' := by
  rcases h with ⟨rfl, rfl⟩ | ⟨b, c, rfl, hc, hlt, hcell⟩
  · refine (made_nil neg w).mono ?_
    rintro e w' ⟨rfl, hb⟩
    exact ⟨false, _, [], rfl, Num.nil w', rfl, Nat.le_refl _, by simp, hb⟩
  · refine (made_raw neg b c ds w hc hlt hl hcell).mono ?_
    rintro e w' ⟨k, hk, hz, hlast, rfl, hb⟩
    have hlen : (ds.take k).length = k := by simp; omega
    have hne : ds.take k ≠ [] ↔ 0 < k := by
      rw [← List.length_pos_iff, hlen]
    refine ⟨_, _, ds.take k, rfl, ⟨.inr ⟨b, c, by rw [hlen], by rw [hlen]; omega, Nat.lt_of_lt_of_le hlt hb.size, fun j hj => ?_⟩, digits_take hd k, ?_, fun h => ?_⟩, val_take ds k hz, by rw [hlen]; exact hk, ?_, hb⟩
    · rw [hlen] at hj
      rw [hb.cell (p := ⟨b, j, none⟩) hlt, getD_take hj]
      exact hcell j (by omega)
    · rcases hlast with rfl | hlast
      · exact .inl rfl
      · by_cases h0 : k = 0
        · rw [h0]; exact .inl rfl
        · refine .inr ?_
          rw [hlen, getD_take (by omega)]
          exact hlast
    · simp only [Bool.and_eq_true, decide_eq_true_eq] at h
      exact hne.2 h.2
    · simp only [hne]
end Go.Proofs.Ytehjfjdopeadfaa
