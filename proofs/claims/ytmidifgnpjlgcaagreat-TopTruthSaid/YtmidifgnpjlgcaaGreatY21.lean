/- The texts Pd of the walk of the law and of all that it calls, in one file. No condition. -/
import Derived.Test.YtmidifgnpjlgcaaGreatY20
/- Plain: the rows that are made of a flight are rows that the flight answers. -/
set_option linter.unusedVariables false
set_option linter.unusedSimpArgs false
namespace Go.Proofs.YtmidifgnpjlgcaaGreat
open Go.RowKit

theorem rows_eq : ∀ {rs ts : List Rw}, rs.map (fun r => (r.coef, r.knee, r.weight)) = ts.map (fun r => (r.coef, r.knee, r.weight)) → rs.map Rw.z = ts.map Rw.z → rs = ts
  | [], [], _, _ => rfl
  | [], _ :: _, h, _ => by simp at h
  | _ :: _, [], h, _ => by simp at h
  | ⟨c, z, k, w⟩ :: rs, ⟨c', z', k', w'⟩ :: ts, h, g => by
    simp only [List.map_cons, List.cons.injEq, Prod.mk.injEq] at h g
    obtain ⟨⟨rfl, rfl, rfl⟩, h⟩ := h
    obtain ⟨rfl, g⟩ := g
    rw [rows_eq h g]
/-- What rows ask of their shapes. -/
def chkR (n : Nat) (sh : List (List Int × Int)) : Bool := decide (sh.length ≤ 60) && (decide (n ≤ 11) && allN sh.length (fun k => decide ((shAt sh k).2 ≤ 100) && allN n (fun j => decide (-1000 ≤ (shAt sh k).1.getD j 0 ∧ (shAt sh k).1.getD j 0 ≤ 1000))))
theorem ok_of {n : Nat} {sh : List (List Int × Int)} {s : List Int} {T : Nat → Nat → Nat → Int} (h : Fits n sh s T) (hc : chkR n sh = true) : (trows sh s).length ≤ 60 ∧ ∀ r ∈ trows sh s, RwOk r n := by
  unfold chkR at hc
  simp only [Bool.and_eq_true] at hc
  obtain ⟨h1, h2, h3⟩ := hc
  refine ⟨by rw [trows_len]; exact of_decide_eq_true h1, fun r hr => ?_⟩
  obtain ⟨k, hk, rfl⟩ := List.mem_iff_getElem.1 hr
  rw [trows_len] at hk
  have e := trows_at (s := s) hk
  rw [List.getD_eq_getElem?_getD, List.getElem?_eq_getElem (by rw [trows_len]; exact hk), Option.getD_some] at e
  rw [e]
  have h4 := allN_at h3 hk
  simp only [Bool.and_eq_true] at h4
  have hs := h.small k hk
  have hw := h.wt k hk
  have hw2 := of_decide_eq_true h4.1
  exact ⟨h.len k hk, of_decide_eq_true h2, fun j hj => of_decide_eq_true (allN_at h4.2 hj), ⟨by show -1000000000 ≤ tdot (shAt sh k).1 s; omega, by show tdot (shAt sh k).1 s ≤ 1000000000; omega⟩, ⟨by show (1 : Int) ≤ 32768; decide, by show (32768 : Int) ≤ 32768; decide⟩, by show 1 ≤ (shAt sh k).2; omega, hw2⟩

set_option maxHeartbeats 4000000 in
set_option maxRecDepth 100000 in
theorem trows1 (ps ss : List Int) : rowsP 3 (kysT ps ss 1) = trows tsh1 (stT ps ss 1 ++ [0]) := by
  refine rows_eq rfl ?_
  show ([(ps.getD 0 0), (ss.getD 0 0), (ps.getD 0 0), 0] : List Int) = [0 + 1 * (ps.getD 0 0) + 0 * (ss.getD 0 0) + 0 * 0, 0 + 0 * (ps.getD 0 0) + 1 * (ss.getD 0 0) + 0 * 0, 0 + 1 * (ps.getD 0 0) + 0 * (ss.getD 0 0) + 1 * 0, 0 + 0 * (ps.getD 0 0) + 0 * (ss.getD 0 0) + 1 * 0]
  generalize ps.getD 0 0 = p0
  generalize ss.getD 0 0 = s0
  have h0 : p0 = 0 + 1 * p0 + 0 * s0 + 0 * 0 := by omega
  have h1 : s0 = 0 + 0 * p0 + 1 * s0 + 0 * 0 := by omega
  have h2 : p0 = 0 + 1 * p0 + 0 * s0 + 1 * 0 := by omega
  have h3 : 0 = 0 + 0 * p0 + 0 * s0 + 1 * 0 := by omega
  exact congr (congrArg List.cons h0) (congr (congrArg List.cons h1) (congr (congrArg List.cons h2) (congr (congrArg List.cons h3) (rfl))))
set_option maxRecDepth 1000000 in
theorem trok1 : chkR 3 tsh1 = true := by kernel_rfl
set_option maxHeartbeats 4000000 in
set_option maxRecDepth 100000 in
theorem trows2 (ps ss : List Int) : rowsP 5 (kysT ps ss 2) = trows tsh2 (stT ps ss 2 ++ [0]) := by
  refine rows_eq rfl ?_
  show ([(ps.getD 0 0), (ss.getD 0 0), (ps.getD 0 0), 100 * ((ps.getD 1 0) - (ps.getD 0 0) - (ss.getD 0 0)), (ss.getD 1 0) - (ss.getD 0 0), (ps.getD 1 0), (ss.getD 1 0), (ps.getD 1 0), 0] : List Int) = [0 + 1 * (ps.getD 0 0) + 0 * (ss.getD 0 0) + 0 * (ps.getD 1 0) + 0 * (ss.getD 1 0) + 0 * 0, 0 + 0 * (ps.getD 0 0) + 1 * (ss.getD 0 0) + 0 * (ps.getD 1 0) + 0 * (ss.getD 1 0) + 0 * 0, 0 + 1 * (ps.getD 0 0) + 0 * (ss.getD 0 0) + 0 * (ps.getD 1 0) + 0 * (ss.getD 1 0) + 1 * 0, 0 + (-100) * (ps.getD 0 0) + (-100) * (ss.getD 0 0) + 100 * (ps.getD 1 0) + 0 * (ss.getD 1 0) + 0 * 0, 0 + 0 * (ps.getD 0 0) + (-1) * (ss.getD 0 0) + 0 * (ps.getD 1 0) + 1 * (ss.getD 1 0) + 0 * 0, 0 + 0 * (ps.getD 0 0) + 0 * (ss.getD 0 0) + 1 * (ps.getD 1 0) + 0 * (ss.getD 1 0) + 0 * 0, 0 + 0 * (ps.getD 0 0) + 0 * (ss.getD 0 0) + 0 * (ps.getD 1 0) + 1 * (ss.getD 1 0) + 0 * 0, 0 + 0 * (ps.getD 0 0) + 0 * (ss.getD 0 0) + 1 * (ps.getD 1 0) + 0 * (ss.getD 1 0) + 1 * 0, 0 + 0 * (ps.getD 0 0) + 0 * (ss.getD 0 0) + 0 * (ps.getD 1 0) + 0 * (ss.getD 1 0) + 1 * 0]
  generalize ps.getD 0 0 = p0
  generalize ss.getD 0 0 = s0
  generalize ps.getD 1 0 = p1
  generalize ss.getD 1 0 = s1
  have h0 : p0 = 0 + 1 * p0 + 0 * s0 + 0 * p1 + 0 * s1 + 0 * 0 := by omega
  have h1 : s0 = 0 + 0 * p0 + 1 * s0 + 0 * p1 + 0 * s1 + 0 * 0 := by omega
  have h2 : p0 = 0 + 1 * p0 + 0 * s0 + 0 * p1 + 0 * s1 + 1 * 0 := by omega
  have h3 : 100 * (p1 - p0 - s0) = 0 + (-100) * p0 + (-100) * s0 + 100 * p1 + 0 * s1 + 0 * 0 := by omega
  have h4 : s1 - s0 = 0 + 0 * p0 + (-1) * s0 + 0 * p1 + 1 * s1 + 0 * 0 := by omega
  have h5 : p1 = 0 + 0 * p0 + 0 * s0 + 1 * p1 + 0 * s1 + 0 * 0 := by omega
  have h6 : s1 = 0 + 0 * p0 + 0 * s0 + 0 * p1 + 1 * s1 + 0 * 0 := by omega
  have h7 : p1 = 0 + 0 * p0 + 0 * s0 + 1 * p1 + 0 * s1 + 1 * 0 := by omega
  have h8 : 0 = 0 + 0 * p0 + 0 * s0 + 0 * p1 + 0 * s1 + 1 * 0 := by omega
  exact congr (congrArg List.cons h0) (congr (congrArg List.cons h1) (congr (congrArg List.cons h2) (congr (congrArg List.cons h3) (congr (congrArg List.cons h4) (congr (congrArg List.cons h5) (congr (congrArg List.cons h6) (congr (congrArg List.cons h7) (congr (congrArg List.cons h8) (rfl)))))))))
set_option maxRecDepth 1000000 in
theorem trok2 : chkR 5 tsh2 = true := by kernel_rfl
set_option maxHeartbeats 4000000 in
set_option maxRecDepth 100000 in
theorem trows3 (ps ss : List Int) : rowsP 7 (kysT ps ss 3) = trows tsh3 (stT ps ss 3 ++ [0]) := by
  refine rows_eq rfl ?_
  show ([(ps.getD 0 0), (ss.getD 0 0), (ps.getD 0 0), 100 * ((ps.getD 1 0) - (ps.getD 0 0) - (ss.getD 0 0)), (ss.getD 1 0) - (ss.getD 0 0), (ps.getD 1 0), (ss.getD 1 0), (ps.getD 1 0), 100 * ((ps.getD 2 0) - (ps.getD 1 0) - (ss.getD 1 0)), (ss.getD 2 0) - (ss.getD 1 0), (ps.getD 2 0), (ss.getD 2 0), (ps.getD 2 0), 0] : List Int) = [0 + 1 * (ps.getD 0 0) + 0 * (ss.getD 0 0) + 0 * (ps.getD 1 0) + 0 * (ss.getD 1 0) + 0 * (ps.getD 2 0) + 0 * (ss.getD 2 0) + 0 * 0, 0 + 0 * (ps.getD 0 0) + 1 * (ss.getD 0 0) + 0 * (ps.getD 1 0) + 0 * (ss.getD 1 0) + 0 * (ps.getD 2 0) + 0 * (ss.getD 2 0) + 0 * 0, 0 + 1 * (ps.getD 0 0) + 0 * (ss.getD 0 0) + 0 * (ps.getD 1 0) + 0 * (ss.getD 1 0) + 0 * (ps.getD 2 0) + 0 * (ss.getD 2 0) + 1 * 0, 0 + (-100) * (ps.getD 0 0) + (-100) * (ss.getD 0 0) + 100 * (ps.getD 1 0) + 0 * (ss.getD 1 0) + 0 * (ps.getD 2 0) + 0 * (ss.getD 2 0) + 0 * 0, 0 + 0 * (ps.getD 0 0) + (-1) * (ss.getD 0 0) + 0 * (ps.getD 1 0) + 1 * (ss.getD 1 0) + 0 * (ps.getD 2 0) + 0 * (ss.getD 2 0) + 0 * 0, 0 + 0 * (ps.getD 0 0) + 0 * (ss.getD 0 0) + 1 * (ps.getD 1 0) + 0 * (ss.getD 1 0) + 0 * (ps.getD 2 0) + 0 * (ss.getD 2 0) + 0 * 0, 0 + 0 * (ps.getD 0 0) + 0 * (ss.getD 0 0) + 0 * (ps.getD 1 0) + 1 * (ss.getD 1 0) + 0 * (ps.getD 2 0) + 0 * (ss.getD 2 0) + 0 * 0, 0 + 0 * (ps.getD 0 0) + 0 * (ss.getD 0 0) + 1 * (ps.getD 1 0) + 0 * (ss.getD 1 0) + 0 * (ps.getD 2 0) + 0 * (ss.getD 2 0) + 1 * 0, 0 + 0 * (ps.getD 0 0) + 0 * (ss.getD 0 0) + (-100) * (ps.getD 1 0) + (-100) * (ss.getD 1 0) + 100 * (ps.getD 2 0) + 0 * (ss.getD 2 0) + 0 * 0, 0 + 0 * (ps.getD 0 0) + 0 * (ss.getD 0 0) + 0 * (ps.getD 1 0) + (-1) * (ss.getD 1 0) + 0 * (ps.getD 2 0) + 1 * (ss.getD 2 0) + 0 * 0, 0 + 0 * (ps.getD 0 0) + 0 * (ss.getD 0 0) + 0 * (ps.getD 1 0) + 0 * (ss.getD 1 0) + 1 * (ps.getD 2 0) + 0 * (ss.getD 2 0) + 0 * 0, 0 + 0 * (ps.getD 0 0) + 0 * (ss.getD 0 0) + 0 * (ps.getD 1 0) + 0 * (ss.getD 1 0) + 0 * (ps.getD 2 0) + 1 * (ss.getD 2 0) + 0 * 0, 0 + 0 * (ps.getD 0 0) + 0 * (ss.getD 0 0) + 0 * (ps.getD 1 0) + 0 * (ss.getD 1 0) + 1 * (ps.getD 2 0) + 0 * (ss.getD 2 0) + 1 * 0, 0 + 0 * (ps.getD 0 0) + 0 * (ss.getD 0 0) + 0 * (ps.getD 1 0) + 0 * (ss.getD 1 0) + 0 * (ps.getD 2 0) + 0 * (ss.getD 2 0) + 1 * 0]
  generalize ps.getD 0 0 = p0
  generalize ss.getD 0 0 = s0
  generalize ps.getD 1 0 = p1
  generalize ss.getD 1 0 = s1
  generalize ps.getD 2 0 = p2
  generalize ss.getD 2 0 = s2
  have h0 : p0 = 0 + 1 * p0 + 0 * s0 + 0 * p1 + 0 * s1 + 0 * p2 + 0 * s2 + 0 * 0 := by omega
  have h1 : s0 = 0 + 0 * p0 + 1 * s0 + 0 * p1 + 0 * s1 + 0 * p2 + 0 * s2 + 0 * 0 := by omega
  have h2 : p0 = 0 + 1 * p0 + 0 * s0 + 0 * p1 + 0 * s1 + 0 * p2 + 0 * s2 + 1 * 0 := by omega
  have h3 : 100 * (p1 - p0 - s0) = 0 + (-100) * p0 + (-100) * s0 + 100 * p1 + 0 * s1 + 0 * p2 + 0 * s2 + 0 * 0 := by omega
  have h4 : s1 - s0 = 0 + 0 * p0 + (-1) * s0 + 0 * p1 + 1 * s1 + 0 * p2 + 0 * s2 + 0 * 0 := by omega
  have h5 : p1 = 0 + 0 * p0 + 0 * s0 + 1 * p1 + 0 * s1 + 0 * p2 + 0 * s2 + 0 * 0 := by omega
  have h6 : s1 = 0 + 0 * p0 + 0 * s0 + 0 * p1 + 1 * s1 + 0 * p2 + 0 * s2 + 0 * 0 := by omega
  have h7 : p1 = 0 + 0 * p0 + 0 * s0 + 1 * p1 + 0 * s1 + 0 * p2 + 0 * s2 + 1 * 0 := by omega
  have h8 : 100 * (p2 - p1 - s1) = 0 + 0 * p0 + 0 * s0 + (-100) * p1 + (-100) * s1 + 100 * p2 + 0 * s2 + 0 * 0 := by omega
  have h9 : s2 - s1 = 0 + 0 * p0 + 0 * s0 + 0 * p1 + (-1) * s1 + 0 * p2 + 1 * s2 + 0 * 0 := by omega
  have h10 : p2 = 0 + 0 * p0 + 0 * s0 + 0 * p1 + 0 * s1 + 1 * p2 + 0 * s2 + 0 * 0 := by omega
  have h11 : s2 = 0 + 0 * p0 + 0 * s0 + 0 * p1 + 0 * s1 + 0 * p2 + 1 * s2 + 0 * 0 := by omega
  have h12 : p2 = 0 + 0 * p0 + 0 * s0 + 0 * p1 + 0 * s1 + 1 * p2 + 0 * s2 + 1 * 0 := by omega
  have h13 : 0 = 0 + 0 * p0 + 0 * s0 + 0 * p1 + 0 * s1 + 0 * p2 + 0 * s2 + 1 * 0 := by omega
  exact congr (congrArg List.cons h0) (congr (congrArg List.cons h1) (congr (congrArg List.cons h2) (congr (congrArg List.cons h3) (congr (congrArg List.cons h4) (congr (congrArg List.cons h5) (congr (congrArg List.cons h6) (congr (congrArg List.cons h7) (congr (congrArg List.cons h8) (congr (congrArg List.cons h9) (congr (congrArg List.cons h10) (congr (congrArg List.cons h11) (congr (congrArg List.cons h12) (congr (congrArg List.cons h13) (rfl))))))))))))))
set_option maxRecDepth 1000000 in
theorem trok3 : chkR 7 tsh3 = true := by kernel_rfl
set_option maxHeartbeats 4000000 in
set_option maxRecDepth 100000 in
theorem trows4 (ps ss : List Int) : rowsP 9 (kysT ps ss 4) = trows tsh4 (stT ps ss 4 ++ [0]) := by
  refine rows_eq rfl ?_
  show ([(ps.getD 0 0), (ss.getD 0 0), (ps.getD 0 0), 100 * ((ps.getD 1 0) - (ps.getD 0 0) - (ss.getD 0 0)), (ss.getD 1 0) - (ss.getD 0 0), (ps.getD 1 0), (ss.getD 1 0), (ps.getD 1 0), 100 * ((ps.getD 2 0) - (ps.getD 1 0) - (ss.getD 1 0)), (ss.getD 2 0) - (ss.getD 1 0), (ps.getD 2 0), (ss.getD 2 0), (ps.getD 2 0), 100 * ((ps.getD 3 0) - (ps.getD 2 0) - (ss.getD 2 0)), (ss.getD 3 0) - (ss.getD 2 0), (ps.getD 3 0), (ss.getD 3 0), (ps.getD 3 0), 0] : List Int) = [0 + 1 * (ps.getD 0 0) + 0 * (ss.getD 0 0) + 0 * (ps.getD 1 0) + 0 * (ss.getD 1 0) + 0 * (ps.getD 2 0) + 0 * (ss.getD 2 0) + 0 * (ps.getD 3 0) + 0 * (ss.getD 3 0) + 0 * 0, 0 + 0 * (ps.getD 0 0) + 1 * (ss.getD 0 0) + 0 * (ps.getD 1 0) + 0 * (ss.getD 1 0) + 0 * (ps.getD 2 0) + 0 * (ss.getD 2 0) + 0 * (ps.getD 3 0) + 0 * (ss.getD 3 0) + 0 * 0, 0 + 1 * (ps.getD 0 0) + 0 * (ss.getD 0 0) + 0 * (ps.getD 1 0) + 0 * (ss.getD 1 0) + 0 * (ps.getD 2 0) + 0 * (ss.getD 2 0) + 0 * (ps.getD 3 0) + 0 * (ss.getD 3 0) + 1 * 0, 0 + (-100) * (ps.getD 0 0) + (-100) * (ss.getD 0 0) + 100 * (ps.getD 1 0) + 0 * (ss.getD 1 0) + 0 * (ps.getD 2 0) + 0 * (ss.getD 2 0) + 0 * (ps.getD 3 0) + 0 * (ss.getD 3 0) + 0 * 0, 0 + 0 * (ps.getD 0 0) + (-1) * (ss.getD 0 0) + 0 * (ps.getD 1 0) + 1 * (ss.getD 1 0) + 0 * (ps.getD 2 0) + 0 * (ss.getD 2 0) + 0 * (ps.getD 3 0) + 0 * (ss.getD 3 0) + 0 * 0, 0 + 0 * (ps.getD 0 0) + 0 * (ss.getD 0 0) + 1 * (ps.getD 1 0) + 0 * (ss.getD 1 0) + 0 * (ps.getD 2 0) + 0 * (ss.getD 2 0) + 0 * (ps.getD 3 0) + 0 * (ss.getD 3 0) + 0 * 0, 0 + 0 * (ps.getD 0 0) + 0 * (ss.getD 0 0) + 0 * (ps.getD 1 0) + 1 * (ss.getD 1 0) + 0 * (ps.getD 2 0) + 0 * (ss.getD 2 0) + 0 * (ps.getD 3 0) + 0 * (ss.getD 3 0) + 0 * 0, 0 + 0 * (ps.getD 0 0) + 0 * (ss.getD 0 0) + 1 * (ps.getD 1 0) + 0 * (ss.getD 1 0) + 0 * (ps.getD 2 0) + 0 * (ss.getD 2 0) + 0 * (ps.getD 3 0) + 0 * (ss.getD 3 0) + 1 * 0, 0 + 0 * (ps.getD 0 0) + 0 * (ss.getD 0 0) + (-100) * (ps.getD 1 0) + (-100) * (ss.getD 1 0) + 100 * (ps.getD 2 0) + 0 * (ss.getD 2 0) + 0 * (ps.getD 3 0) + 0 * (ss.getD 3 0) + 0 * 0, 0 + 0 * (ps.getD 0 0) + 0 * (ss.getD 0 0) + 0 * (ps.getD 1 0) + (-1) * (ss.getD 1 0) + 0 * (ps.getD 2 0) + 1 * (ss.getD 2 0) + 0 * (ps.getD 3 0) + 0 * (ss.getD 3 0) + 0 * 0, 0 + 0 * (ps.getD 0 0) + 0 * (ss.getD 0 0) + 0 * (ps.getD 1 0) + 0 * (ss.getD 1 0) + 1 * (ps.getD 2 0) + 0 * (ss.getD 2 0) + 0 * (ps.getD 3 0) + 0 * (ss.getD 3 0) + 0 * 0, 0 + 0 * (ps.getD 0 0) + 0 * (ss.getD 0 0) + 0 * (ps.getD 1 0) + 0 * (ss.getD 1 0) + 0 * (ps.getD 2 0) + 1 * (ss.getD 2 0) + 0 * (ps.getD 3 0) + 0 * (ss.getD 3 0) + 0 * 0, 0 + 0 * (ps.getD 0 0) + 0 * (ss.getD 0 0) + 0 * (ps.getD 1 0) + 0 * (ss.getD 1 0) + 1 * (ps.getD 2 0) + 0 * (ss.getD 2 0) + 0 * (ps.getD 3 0) + 0 * (ss.getD 3 0) + 1 * 0, 0 + 0 * (ps.getD 0 0) + 0 * (ss.getD 0 0) + 0 * (ps.getD 1 0) + 0 * (ss.getD 1 0) + (-100) * (ps.getD 2 0) + (-100) * (ss.getD 2 0) + 100 * (ps.getD 3 0) + 0 * (ss.getD 3 0) + 0 * 0, 0 + 0 * (ps.getD 0 0) + 0 * (ss.getD 0 0) + 0 * (ps.getD 1 0) + 0 * (ss.getD 1 0) + 0 * (ps.getD 2 0) + (-1) * (ss.getD 2 0) + 0 * (ps.getD 3 0) + 1 * (ss.getD 3 0) + 0 * 0, 0 + 0 * (ps.getD 0 0) + 0 * (ss.getD 0 0) + 0 * (ps.getD 1 0) + 0 * (ss.getD 1 0) + 0 * (ps.getD 2 0) + 0 * (ss.getD 2 0) + 1 * (ps.getD 3 0) + 0 * (ss.getD 3 0) + 0 * 0, 0 + 0 * (ps.getD 0 0) + 0 * (ss.getD 0 0) + 0 * (ps.getD 1 0) + 0 * (ss.getD 1 0) + 0 * (ps.getD 2 0) + 0 * (ss.getD 2 0) + 0 * (ps.getD 3 0) + 1 * (ss.getD 3 0) + 0 * 0, 0 + 0 * (ps.getD 0 0) + 0 * (ss.getD 0 0) + 0 * (ps.getD 1 0) + 0 * (ss.getD 1 0) + 0 * (ps.getD 2 0) + 0 * (ss.getD 2 0) + 1 * (ps.getD 3 0) + 0 * (ss.getD 3 0) + 1 * 0, 0 + 0 * (ps.getD 0 0) + 0 * (ss.getD 0 0) + 0 * (ps.getD 1 0) + 0 * (ss.getD 1 0) + 0 * (ps.getD 2 0) + 0 * (ss.getD 2 0) + 0 * (ps.getD 3 0) + 0 * (ss.getD 3 0) + 1 * 0]
  generalize ps.getD 0 0 = p0
  generalize ss.getD 0 0 = s0
  generalize ps.getD 1 0 = p1
  generalize ss.getD 1 0 = s1
  generalize ps.getD 2 0 = p2
  generalize ss.getD 2 0 = s2
  generalize ps.getD 3 0 = p3
  generalize ss.getD 3 0 = s3
  have h0 : p0 = 0 + 1 * p0 + 0 * s0 + 0 * p1 + 0 * s1 + 0 * p2 + 0 * s2 + 0 * p3 + 0 * s3 + 0 * 0 := by omega
  have h1 : s0 = 0 + 0 * p0 + 1 * s0 + 0 * p1 + 0 * s1 + 0 * p2 + 0 * s2 + 0 * p3 + 0 * s3 + 0 * 0 := by omega
  have h2 : p0 = 0 + 1 * p0 + 0 * s0 + 0 * p1 + 0 * s1 + 0 * p2 + 0 * s2 + 0 * p3 + 0 * s3 + 1 * 0 := by omega
  have h3 : 100 * (p1 - p0 - s0) = 0 + (-100) * p0 + (-100) * s0 + 100 * p1 + 0 * s1 + 0 * p2 + 0 * s2 + 0 * p3 + 0 * s3 + 0 * 0 := by omega
  have h4 : s1 - s0 = 0 + 0 * p0 + (-1) * s0 + 0 * p1 + 1 * s1 + 0 * p2 + 0 * s2 + 0 * p3 + 0 * s3 + 0 * 0 := by omega
  have h5 : p1 = 0 + 0 * p0 + 0 * s0 + 1 * p1 + 0 * s1 + 0 * p2 + 0 * s2 + 0 * p3 + 0 * s3 + 0 * 0 := by omega
  have h6 : s1 = 0 + 0 * p0 + 0 * s0 + 0 * p1 + 1 * s1 + 0 * p2 + 0 * s2 + 0 * p3 + 0 * s3 + 0 * 0 := by omega
  have h7 : p1 = 0 + 0 * p0 + 0 * s0 + 1 * p1 + 0 * s1 + 0 * p2 + 0 * s2 + 0 * p3 + 0 * s3 + 1 * 0 := by omega
  have h8 : 100 * (p2 - p1 - s1) = 0 + 0 * p0 + 0 * s0 + (-100) * p1 + (-100) * s1 + 100 * p2 + 0 * s2 + 0 * p3 + 0 * s3 + 0 * 0 := by omega
  have h9 : s2 - s1 = 0 + 0 * p0 + 0 * s0 + 0 * p1 + (-1) * s1 + 0 * p2 + 1 * s2 + 0 * p3 + 0 * s3 + 0 * 0 := by omega
  have h10 : p2 = 0 + 0 * p0 + 0 * s0 + 0 * p1 + 0 * s1 + 1 * p2 + 0 * s2 + 0 * p3 + 0 * s3 + 0 * 0 := by omega
  have h11 : s2 = 0 + 0 * p0 + 0 * s0 + 0 * p1 + 0 * s1 + 0 * p2 + 1 * s2 + 0 * p3 + 0 * s3 + 0 * 0 := by omega
  have h12 : p2 = 0 + 0 * p0 + 0 * s0 + 0 * p1 + 0 * s1 + 1 * p2 + 0 * s2 + 0 * p3 + 0 * s3 + 1 * 0 := by omega
  have h13 : 100 * (p3 - p2 - s2) = 0 + 0 * p0 + 0 * s0 + 0 * p1 + 0 * s1 + (-100) * p2 + (-100) * s2 + 100 * p3 + 0 * s3 + 0 * 0 := by omega
  have h14 : s3 - s2 = 0 + 0 * p0 + 0 * s0 + 0 * p1 + 0 * s1 + 0 * p2 + (-1) * s2 + 0 * p3 + 1 * s3 + 0 * 0 := by omega
  have h15 : p3 = 0 + 0 * p0 + 0 * s0 + 0 * p1 + 0 * s1 + 0 * p2 + 0 * s2 + 1 * p3 + 0 * s3 + 0 * 0 := by omega
  have h16 : s3 = 0 + 0 * p0 + 0 * s0 + 0 * p1 + 0 * s1 + 0 * p2 + 0 * s2 + 0 * p3 + 1 * s3 + 0 * 0 := by omega
  have h17 : p3 = 0 + 0 * p0 + 0 * s0 + 0 * p1 + 0 * s1 + 0 * p2 + 0 * s2 + 1 * p3 + 0 * s3 + 1 * 0 := by omega
  have h18 : 0 = 0 + 0 * p0 + 0 * s0 + 0 * p1 + 0 * s1 + 0 * p2 + 0 * s2 + 0 * p3 + 0 * s3 + 1 * 0 := by omega
  exact congr (congrArg List.cons h0) (congr (congrArg List.cons h1) (congr (congrArg List.cons h2) (congr (congrArg List.cons h3) (congr (congrArg List.cons h4) (congr (congrArg List.cons h5) (congr (congrArg List.cons h6) (congr (congrArg List.cons h7) (congr (congrArg List.cons h8) (congr (congrArg List.cons h9) (congr (congrArg List.cons h10) (congr (congrArg List.cons h11) (congr (congrArg List.cons h12) (congr (congrArg List.cons h13) (congr (congrArg List.cons h14) (congr (congrArg List.cons h15) (congr (congrArg List.cons h16) (congr (congrArg List.cons h17) (congr (congrArg List.cons h18) (rfl)))))))))))))))))))
set_option maxRecDepth 1000000 in
theorem trok4 : chkR 9 tsh4 = true := by kernel_rfl
set_option maxHeartbeats 4000000 in
set_option maxRecDepth 100000 in
theorem trows5 (ps ss : List Int) : rowsP 11 (kysT ps ss 5) = trows tsh5 (stT ps ss 5 ++ [0]) := by
  refine rows_eq rfl ?_
  show ([(ps.getD 0 0), (ss.getD 0 0), (ps.getD 0 0), 100 * ((ps.getD 1 0) - (ps.getD 0 0) - (ss.getD 0 0)), (ss.getD 1 0) - (ss.getD 0 0), (ps.getD 1 0), (ss.getD 1 0), (ps.getD 1 0), 100 * ((ps.getD 2 0) - (ps.getD 1 0) - (ss.getD 1 0)), (ss.getD 2 0) - (ss.getD 1 0), (ps.getD 2 0), (ss.getD 2 0), (ps.getD 2 0), 100 * ((ps.getD 3 0) - (ps.getD 2 0) - (ss.getD 2 0)), (ss.getD 3 0) - (ss.getD 2 0), (ps.getD 3 0), (ss.getD 3 0), (ps.getD 3 0), 100 * ((ps.getD 4 0) - (ps.getD 3 0) - (ss.getD 3 0)), (ss.getD 4 0) - (ss.getD 3 0), (ps.getD 4 0), (ss.getD 4 0), (ps.getD 4 0), 0] : List Int) = [0 + 1 * (ps.getD 0 0) + 0 * (ss.getD 0 0) + 0 * (ps.getD 1 0) + 0 * (ss.getD 1 0) + 0 * (ps.getD 2 0) + 0 * (ss.getD 2 0) + 0 * (ps.getD 3 0) + 0 * (ss.getD 3 0) + 0 * (ps.getD 4 0) + 0 * (ss.getD 4 0) + 0 * 0, 0 + 0 * (ps.getD 0 0) + 1 * (ss.getD 0 0) + 0 * (ps.getD 1 0) + 0 * (ss.getD 1 0) + 0 * (ps.getD 2 0) + 0 * (ss.getD 2 0) + 0 * (ps.getD 3 0) + 0 * (ss.getD 3 0) + 0 * (ps.getD 4 0) + 0 * (ss.getD 4 0) + 0 * 0, 0 + 1 * (ps.getD 0 0) + 0 * (ss.getD 0 0) + 0 * (ps.getD 1 0) + 0 * (ss.getD 1 0) + 0 * (ps.getD 2 0) + 0 * (ss.getD 2 0) + 0 * (ps.getD 3 0) + 0 * (ss.getD 3 0) + 0 * (ps.getD 4 0) + 0 * (ss.getD 4 0) + 1 * 0, 0 + (-100) * (ps.getD 0 0) + (-100) * (ss.getD 0 0) + 100 * (ps.getD 1 0) + 0 * (ss.getD 1 0) + 0 * (ps.getD 2 0) + 0 * (ss.getD 2 0) + 0 * (ps.getD 3 0) + 0 * (ss.getD 3 0) + 0 * (ps.getD 4 0) + 0 * (ss.getD 4 0) + 0 * 0, 0 + 0 * (ps.getD 0 0) + (-1) * (ss.getD 0 0) + 0 * (ps.getD 1 0) + 1 * (ss.getD 1 0) + 0 * (ps.getD 2 0) + 0 * (ss.getD 2 0) + 0 * (ps.getD 3 0) + 0 * (ss.getD 3 0) + 0 * (ps.getD 4 0) + 0 * (ss.getD 4 0) + 0 * 0, 0 + 0 * (ps.getD 0 0) + 0 * (ss.getD 0 0) + 1 * (ps.getD 1 0) + 0 * (ss.getD 1 0) + 0 * (ps.getD 2 0) + 0 * (ss.getD 2 0) + 0 * (ps.getD 3 0) + 0 * (ss.getD 3 0) + 0 * (ps.getD 4 0) + 0 * (ss.getD 4 0) + 0 * 0, 0 + 0 * (ps.getD 0 0) + 0 * (ss.getD 0 0) + 0 * (ps.getD 1 0) + 1 * (ss.getD 1 0) + 0 * (ps.getD 2 0) + 0 * (ss.getD 2 0) + 0 * (ps.getD 3 0) + 0 * (ss.getD 3 0) + 0 * (ps.getD 4 0) + 0 * (ss.getD 4 0) + 0 * 0, 0 + 0 * (ps.getD 0 0) + 0 * (ss.getD 0 0) + 1 * (ps.getD 1 0) + 0 * (ss.getD 1 0) + 0 * (ps.getD 2 0) + 0 * (ss.getD 2 0) + 0 * (ps.getD 3 0) + 0 * (ss.getD 3 0) + 0 * (ps.getD 4 0) + 0 * (ss.getD 4 0) + 1 * 0, 0 + 0 * (ps.getD 0 0) + 0 * (ss.getD 0 0) + (-100) * (ps.getD 1 0) + (-100) * (ss.getD 1 0) + 100 * (ps.getD 2 0) + 0 * (ss.getD 2 0) + 0 * (ps.getD 3 0) + 0 * (ss.getD 3 0) + 0 * (ps.getD 4 0) + 0 * (ss.getD 4 0) + 0 * 0, 0 + 0 * (ps.getD 0 0) + 0 * (ss.getD 0 0) + 0 * (ps.getD 1 0) + (-1) * (ss.getD 1 0) + 0 * (ps.getD 2 0) + 1 * (ss.getD 2 0) + 0 * (ps.getD 3 0) + 0 * (ss.getD 3 0) + 0 * (ps.getD 4 0) + 0 * (ss.getD 4 0) + 0 * 0, 0 + 0 * (ps.getD 0 0) + 0 * (ss.getD 0 0) + 0 * (ps.getD 1 0) + 0 * (ss.getD 1 0) + 1 * (ps.getD 2 0) + 0 * (ss.getD 2 0) + 0 * (ps.getD 3 0) + 0 * (ss.getD 3 0) + 0 * (ps.getD 4 0) + 0 * (ss.getD 4 0) + 0 * 0, 0 + 0 * (ps.getD 0 0) + 0 * (ss.getD 0 0) + 0 * (ps.getD 1 0) + 0 * (ss.getD 1 0) + 0 * (ps.getD 2 0) + 1 * (ss.getD 2 0) + 0 * (ps.getD 3 0) + 0 * (ss.getD 3 0) + 0 * (ps.getD 4 0) + 0 * (ss.getD 4 0) + 0 * 0, 0 + 0 * (ps.getD 0 0) + 0 * (ss.getD 0 0) + 0 * (ps.getD 1 0) + 0 * (ss.getD 1 0) + 1 * (ps.getD 2 0) + 0 * (ss.getD 2 0) + 0 * (ps.getD 3 0) + 0 * (ss.getD 3 0) + 0 * (ps.getD 4 0) + 0 * (ss.getD 4 0) + 1 * 0, 0 + 0 * (ps.getD 0 0) + 0 * (ss.getD 0 0) + 0 * (ps.getD 1 0) + 0 * (ss.getD 1 0) + (-100) * (ps.getD 2 0) + (-100) * (ss.getD 2 0) + 100 * (ps.getD 3 0) + 0 * (ss.getD 3 0) + 0 * (ps.getD 4 0) + 0 * (ss.getD 4 0) + 0 * 0, 0 + 0 * (ps.getD 0 0) + 0 * (ss.getD 0 0) + 0 * (ps.getD 1 0) + 0 * (ss.getD 1 0) + 0 * (ps.getD 2 0) + (-1) * (ss.getD 2 0) + 0 * (ps.getD 3 0) + 1 * (ss.getD 3 0) + 0 * (ps.getD 4 0) + 0 * (ss.getD 4 0) + 0 * 0, 0 + 0 * (ps.getD 0 0) + 0 * (ss.getD 0 0) + 0 * (ps.getD 1 0) + 0 * (ss.getD 1 0) + 0 * (ps.getD 2 0) + 0 * (ss.getD 2 0) + 1 * (ps.getD 3 0) + 0 * (ss.getD 3 0) + 0 * (ps.getD 4 0) + 0 * (ss.getD 4 0) + 0 * 0, 0 + 0 * (ps.getD 0 0) + 0 * (ss.getD 0 0) + 0 * (ps.getD 1 0) + 0 * (ss.getD 1 0) + 0 * (ps.getD 2 0) + 0 * (ss.getD 2 0) + 0 * (ps.getD 3 0) + 1 * (ss.getD 3 0) + 0 * (ps.getD 4 0) + 0 * (ss.getD 4 0) + 0 * 0, 0 + 0 * (ps.getD 0 0) + 0 * (ss.getD 0 0) + 0 * (ps.getD 1 0) + 0 * (ss.getD 1 0) + 0 * (ps.getD 2 0) + 0 * (ss.getD 2 0) + 1 * (ps.getD 3 0) + 0 * (ss.getD 3 0) + 0 * (ps.getD 4 0) + 0 * (ss.getD 4 0) + 1 * 0, 0 + 0 * (ps.getD 0 0) + 0 * (ss.getD 0 0) + 0 * (ps.getD 1 0) + 0 * (ss.getD 1 0) + 0 * (ps.getD 2 0) + 0 * (ss.getD 2 0) + (-100) * (ps.getD 3 0) + (-100) * (ss.getD 3 0) + 100 * (ps.getD 4 0) + 0 * (ss.getD 4 0) + 0 * 0, 0 + 0 * (ps.getD 0 0) + 0 * (ss.getD 0 0) + 0 * (ps.getD 1 0) + 0 * (ss.getD 1 0) + 0 * (ps.getD 2 0) + 0 * (ss.getD 2 0) + 0 * (ps.getD 3 0) + (-1) * (ss.getD 3 0) + 0 * (ps.getD 4 0) + 1 * (ss.getD 4 0) + 0 * 0, 0 + 0 * (ps.getD 0 0) + 0 * (ss.getD 0 0) + 0 * (ps.getD 1 0) + 0 * (ss.getD 1 0) + 0 * (ps.getD 2 0) + 0 * (ss.getD 2 0) + 0 * (ps.getD 3 0) + 0 * (ss.getD 3 0) + 1 * (ps.getD 4 0) + 0 * (ss.getD 4 0) + 0 * 0, 0 + 0 * (ps.getD 0 0) + 0 * (ss.getD 0 0) + 0 * (ps.getD 1 0) + 0 * (ss.getD 1 0) + 0 * (ps.getD 2 0) + 0 * (ss.getD 2 0) + 0 * (ps.getD 3 0) + 0 * (ss.getD 3 0) + 0 * (ps.getD 4 0) + 1 * (ss.getD 4 0) + 0 * 0, 0 + 0 * (ps.getD 0 0) + 0 * (ss.getD 0 0) + 0 * (ps.getD 1 0) + 0 * (ss.getD 1 0) + 0 * (ps.getD 2 0) + 0 * (ss.getD 2 0) + 0 * (ps.getD 3 0) + 0 * (ss.getD 3 0) + 1 * (ps.getD 4 0) + 0 * (ss.getD 4 0) + 1 * 0, 0 + 0 * (ps.getD 0 0) + 0 * (ss.getD 0 0) + 0 * (ps.getD 1 0) + 0 * (ss.getD 1 0) + 0 * (ps.getD 2 0) + 0 * (ss.getD 2 0) + 0 * (ps.getD 3 0) + 0 * (ss.getD 3 0) + 0 * (ps.getD 4 0) + 0 * (ss.getD 4 0) + 1 * 0]
  generalize ps.getD 0 0 = p0
  generalize ss.getD 0 0 = s0
  generalize ps.getD 1 0 = p1
  generalize ss.getD 1 0 = s1
  generalize ps.getD 2 0 = p2
  generalize ss.getD 2 0 = s2
  generalize ps.getD 3 0 = p3
  generalize ss.getD 3 0 = s3
  generalize ps.getD 4 0 = p4
  generalize ss.getD 4 0 = s4
  have h0 : p0 = 0 + 1 * p0 + 0 * s0 + 0 * p1 + 0 * s1 + 0 * p2 + 0 * s2 + 0 * p3 + 0 * s3 + 0 * p4 + 0 * s4 + 0 * 0 := by omega
  have h1 : s0 = 0 + 0 * p0 + 1 * s0 + 0 * p1 + 0 * s1 + 0 * p2 + 0 * s2 + 0 * p3 + 0 * s3 + 0 * p4 + 0 * s4 + 0 * 0 := by omega
  have h2 : p0 = 0 + 1 * p0 + 0 * s0 + 0 * p1 + 0 * s1 + 0 * p2 + 0 * s2 + 0 * p3 + 0 * s3 + 0 * p4 + 0 * s4 + 1 * 0 := by omega
  have h3 : 100 * (p1 - p0 - s0) = 0 + (-100) * p0 + (-100) * s0 + 100 * p1 + 0 * s1 + 0 * p2 + 0 * s2 + 0 * p3 + 0 * s3 + 0 * p4 + 0 * s4 + 0 * 0 := by omega
  have h4 : s1 - s0 = 0 + 0 * p0 + (-1) * s0 + 0 * p1 + 1 * s1 + 0 * p2 + 0 * s2 + 0 * p3 + 0 * s3 + 0 * p4 + 0 * s4 + 0 * 0 := by omega
  have h5 : p1 = 0 + 0 * p0 + 0 * s0 + 1 * p1 + 0 * s1 + 0 * p2 + 0 * s2 + 0 * p3 + 0 * s3 + 0 * p4 + 0 * s4 + 0 * 0 := by omega
  have h6 : s1 = 0 + 0 * p0 + 0 * s0 + 0 * p1 + 1 * s1 + 0 * p2 + 0 * s2 + 0 * p3 + 0 * s3 + 0 * p4 + 0 * s4 + 0 * 0 := by omega
  have h7 : p1 = 0 + 0 * p0 + 0 * s0 + 1 * p1 + 0 * s1 + 0 * p2 + 0 * s2 + 0 * p3 + 0 * s3 + 0 * p4 + 0 * s4 + 1 * 0 := by omega
  have h8 : 100 * (p2 - p1 - s1) = 0 + 0 * p0 + 0 * s0 + (-100) * p1 + (-100) * s1 + 100 * p2 + 0 * s2 + 0 * p3 + 0 * s3 + 0 * p4 + 0 * s4 + 0 * 0 := by omega
  have h9 : s2 - s1 = 0 + 0 * p0 + 0 * s0 + 0 * p1 + (-1) * s1 + 0 * p2 + 1 * s2 + 0 * p3 + 0 * s3 + 0 * p4 + 0 * s4 + 0 * 0 := by omega
  have h10 : p2 = 0 + 0 * p0 + 0 * s0 + 0 * p1 + 0 * s1 + 1 * p2 + 0 * s2 + 0 * p3 + 0 * s3 + 0 * p4 + 0 * s4 + 0 * 0 := by omega
  have h11 : s2 = 0 + 0 * p0 + 0 * s0 + 0 * p1 + 0 * s1 + 0 * p2 + 1 * s2 + 0 * p3 + 0 * s3 + 0 * p4 + 0 * s4 + 0 * 0 := by omega
  have h12 : p2 = 0 + 0 * p0 + 0 * s0 + 0 * p1 + 0 * s1 + 1 * p2 + 0 * s2 + 0 * p3 + 0 * s3 + 0 * p4 + 0 * s4 + 1 * 0 := by omega
  have h13 : 100 * (p3 - p2 - s2) = 0 + 0 * p0 + 0 * s0 + 0 * p1 + 0 * s1 + (-100) * p2 + (-100) * s2 + 100 * p3 + 0 * s3 + 0 * p4 + 0 * s4 + 0 * 0 := by omega
  have h14 : s3 - s2 = 0 + 0 * p0 + 0 * s0 + 0 * p1 + 0 * s1 + 0 * p2 + (-1) * s2 + 0 * p3 + 1 * s3 + 0 * p4 + 0 * s4 + 0 * 0 := by omega
  have h15 : p3 = 0 + 0 * p0 + 0 * s0 + 0 * p1 + 0 * s1 + 0 * p2 + 0 * s2 + 1 * p3 + 0 * s3 + 0 * p4 + 0 * s4 + 0 * 0 := by omega
  have h16 : s3 = 0 + 0 * p0 + 0 * s0 + 0 * p1 + 0 * s1 + 0 * p2 + 0 * s2 + 0 * p3 + 1 * s3 + 0 * p4 + 0 * s4 + 0 * 0 := by omega
  have h17 : p3 = 0 + 0 * p0 + 0 * s0 + 0 * p1 + 0 * s1 + 0 * p2 + 0 * s2 + 1 * p3 + 0 * s3 + 0 * p4 + 0 * s4 + 1 * 0 := by omega
  have h18 : 100 * (p4 - p3 - s3) = 0 + 0 * p0 + 0 * s0 + 0 * p1 + 0 * s1 + 0 * p2 + 0 * s2 + (-100) * p3 + (-100) * s3 + 100 * p4 + 0 * s4 + 0 * 0 := by omega
  have h19 : s4 - s3 = 0 + 0 * p0 + 0 * s0 + 0 * p1 + 0 * s1 + 0 * p2 + 0 * s2 + 0 * p3 + (-1) * s3 + 0 * p4 + 1 * s4 + 0 * 0 := by omega
  have h20 : p4 = 0 + 0 * p0 + 0 * s0 + 0 * p1 + 0 * s1 + 0 * p2 + 0 * s2 + 0 * p3 + 0 * s3 + 1 * p4 + 0 * s4 + 0 * 0 := by omega
  have h21 : s4 = 0 + 0 * p0 + 0 * s0 + 0 * p1 + 0 * s1 + 0 * p2 + 0 * s2 + 0 * p3 + 0 * s3 + 0 * p4 + 1 * s4 + 0 * 0 := by omega
  have h22 : p4 = 0 + 0 * p0 + 0 * s0 + 0 * p1 + 0 * s1 + 0 * p2 + 0 * s2 + 0 * p3 + 0 * s3 + 1 * p4 + 0 * s4 + 1 * 0 := by omega
  have h23 : 0 = 0 + 0 * p0 + 0 * s0 + 0 * p1 + 0 * s1 + 0 * p2 + 0 * s2 + 0 * p3 + 0 * s3 + 0 * p4 + 0 * s4 + 1 * 0 := by omega
  exact congr (congrArg List.cons h0) (congr (congrArg List.cons h1) (congr (congrArg List.cons h2) (congr (congrArg List.cons h3) (congr (congrArg List.cons h4) (congr (congrArg List.cons h5) (congr (congrArg List.cons h6) (congr (congrArg List.cons h7) (congr (congrArg List.cons h8) (congr (congrArg List.cons h9) (congr (congrArg List.cons h10) (congr (congrArg List.cons h11) (congr (congrArg List.cons h12) (congr (congrArg List.cons h13) (congr (congrArg List.cons h14) (congr (congrArg List.cons h15) (congr (congrArg List.cons h16) (congr (congrArg List.cons h17) (congr (congrArg List.cons h18) (congr (congrArg List.cons h19) (congr (congrArg List.cons h20) (congr (congrArg List.cons h21) (congr (congrArg List.cons h22) (congr (congrArg List.cons h23) (rfl))))))))))))))))))))))))
set_option maxRecDepth 1000000 in
theorem trok5 : chkR 11 tsh5 = true := by kernel_rfl
theorem stT_in {ps ss : List Int} : ∀ (i j : Nat), (∀ k, k < i → (-20 ≤ ps.getD k 0 ∧ ps.getD k 0 ≤ 20) ∧ -20 ≤ ss.getD k 0 ∧ ss.getD k 0 ≤ 20) → -20 ≤ (stT ps ss i ++ [0]).getD j 0 ∧ (stT ps ss i ++ [0]).getD j 0 ≤ 20
  | 0, j, _ => by
    show -20 ≤ ([0] : List Int).getD j 0 ∧ ([0] : List Int).getD j 0 ≤ 20
    match j with
    | 0 => decide
    | j + 1 => show (-20 : Int) ≤ 0 ∧ (0 : Int) ≤ 20; decide
  | i + 1, j, h => by
    have ih := stT_in i j (fun k hk => h k (by omega))
    have hi := h i (by omega)
    have hl := stT_len ps ss i
    show -20 ≤ ((stT ps ss i ++ [ps.getD i 0, ss.getD i 0]) ++ [0]).getD j 0 ∧ ((stT ps ss i ++ [ps.getD i 0, ss.getD i 0]) ++ [0]).getD j 0 ≤ 20
    rw [List.append_assoc, List.getD_eq_getElem?_getD]
    by_cases e : j < (stT ps ss i).length
    · rw [List.getElem?_append_left e]
      rw [List.getD_eq_getElem?_getD, List.getElem?_append_left e] at ih
      exact ih
    · rw [List.getElem?_append_right (by omega)]
      match j - (stT ps ss i).length with
      | 0 => exact hi.1
      | 1 => exact hi.2
      | 2 => show (-20 : Int) ≤ 0 ∧ (0 : Int) ≤ 20; decide
      | k + 3 => show (-20 : Int) ≤ 0 ∧ (0 : Int) ≤ 20; decide
theorem kysT_at (ps ss : List Int) : ∀ (n i : Nat), i < n → (kysT ps ss n).getD i Ky.zero = kyT ps ss i
  | n + 1, i, h => by
    show (kysT ps ss n ++ [kyT ps ss n]).getD i Ky.zero = kyT ps ss i
    have hl := kysT_len ps ss n
    rw [List.getD_eq_getElem?_getD]
    by_cases e : i < n
    · rw [List.getElem?_append_left (by omega), ← List.getD_eq_getElem?_getD]
      exact kysT_at ps ss n i e
    · obtain rfl : i = n := by omega
      rw [List.getElem?_append_right (by omega), hl, Nat.sub_self]
      rfl
theorem kysT_ok {ps ss : List Int} {n : Nat} (h : ∀ k, k < n → (-20 ≤ ps.getD k 0 ∧ ps.getD k 0 ≤ 20) ∧ -20 ≤ ss.getD k 0 ∧ ss.getD k 0 ≤ 20) : ∀ i, i < (kysT ps ss n).length → KyOk ((kysT ps ss n).getD i Ky.zero) ∧ (i ≠ 0 → ((kysT ps ss n).getD i Ky.zero).T = 100) := by
  intro i hi
  rw [kysT_len] at hi
  rw [kysT_at ps ss n i hi]
  obtain ⟨⟨a1, a2⟩, a3, a4⟩ := h i hi
  by_cases e : i = 0
  · subst e
    refine ⟨⟨?_, ?_, ?_, ?_, ?_, ?_⟩, fun h0 => absurd rfl h0⟩
    · show -100000 ≤ ps.getD 0 0 ∧ ps.getD 0 0 ≤ 100000; omega
    · show -100000 ≤ ss.getD 0 0 ∧ ss.getD 0 0 ≤ 100000; omega
    · show -100000 ≤ ps.getD 0 0 ∧ ps.getD 0 0 ≤ 100000; omega
    · show -100000 ≤ (0 : Int) ∧ (0 : Int) ≤ 100000; decide
    · show -100000 ≤ (0 : Int) ∧ (0 : Int) ≤ 100000; decide
    · show 0 ≤ (0 : Int) ∧ (0 : Int) ≤ 1000; decide
  · obtain ⟨⟨b1, b2⟩, b3, b4⟩ := h (i - 1) (by omega)
    have e1 : (kyT ps ss i).DV = ss.getD i 0 - ss.getD (i - 1) 0 := if_neg e
    have e2 : (kyT ps ss i).DP = ps.getD i 0 - ps.getD (i - 1) 0 - ss.getD (i - 1) 0 := if_neg e
    have e3 : (kyT ps ss i).T = 100 := if_neg e
    refine ⟨⟨?_, ?_, ?_, ?_, ?_, ?_⟩, fun _ => e3⟩
    · show -100000 ≤ ps.getD i 0 ∧ ps.getD i 0 ≤ 100000; omega
    · show -100000 ≤ ss.getD i 0 ∧ ss.getD i 0 ≤ 100000; omega
    · show -100000 ≤ ps.getD i 0 ∧ ps.getD i 0 ≤ 100000; omega
    · rw [e1]; omega
    · rw [e2]; omega
    · rw [e3]; decide
/-- What TopTruth asks of Solve. -/
theorem truth_fits (ps ss : List Int) (k : Nat) (h1 : 1 ≤ k) (h5 : k ≤ 5) (hb : ∀ j, j < k → (-20 ≤ ps.getD j 0 ∧ ps.getD j 0 ≤ 20) ∧ -20 ≤ ss.getD j 0 ∧ ss.getD j 0 ≤ 20) :
    ∃ sh T, Fits (2 * k + 1) sh (stT ps ss k ++ [0]) T ∧ rowsP (2 * k + 1) (kysT ps ss k) = trows sh (stT ps ss k ++ [0]) ∧ (rowsP (2 * k + 1) (kysT ps ss k)).length ≤ 60 ∧ ∀ r ∈ rowsP (2 * k + 1) (kysT ps ss k), RwOk r (2 * k + 1) := by
  have hl : (stT ps ss k ++ [0]).length = 2 * k + 1 := by rw [List.length_append, stT_len]; rfl
  have hi := fun j (_ : j < 2 * k + 1) => stT_in k j hb
  rcases (show k = 1 ∨ k = 2 ∨ k = 3 ∨ k = 4 ∨ k = 5 by omega) with rfl | rfl | rfl | rfl | rfl
  · have f := fits_of tchk1 ttab1 hl hi
    have o := ok_of f trok1
    rw [← trows1] at o
    exact ⟨_, _, f, trows1 ps ss, o⟩
  · have f := fits_of tchk2 ttab2 hl hi
    have o := ok_of f trok2
    rw [← trows2] at o
    exact ⟨_, _, f, trows2 ps ss, o⟩
  · have f := fits_of tchk3 ttab3 hl hi
    have o := ok_of f trok3
    rw [← trows3] at o
    exact ⟨_, _, f, trows3 ps ss, o⟩
  · have f := fits_of tchk4 ttab4 hl hi
    have o := ok_of f trok4
    rw [← trows4] at o
    exact ⟨_, _, f, trows4 ps ss, o⟩
  · have f := fits_of tchk5 ttab5 hl hi
    have o := ok_of f trok5
    rw [← trows5] at o
    exact ⟨_, _, f, trows5 ps ss, o⟩
end Go.Proofs.YtmidifgnpjlgcaaGreat
