/- (*frame.Scan).step as one contract, by FrMath: what comes of one step is what FrMath.run says of the first of all steps. -/
import Derived.Test.YtdecoenollejiaaFrStep
import Derived.Test.YtdecoenollejiaaFrPure
set_option linter.unusedVariables false
set_option linter.unusedSimpArgs false
namespace Go.Proofs.Ytdecoenollejiaa
open Go.RowKit CrcMath FrMath

/-- What a step leaves to the steps behind it. -/
def Next (l : List UInt8) (k : UInt8) (p : ByteArray) (tl on : Bool) (l' : List UInt8) (d : Nat) : Prop :=
  (on = true → l'.length < l.length ∧ d + l'.length ≤ l.length ∧ run l = ⟨(if tl then [⟨k, p.data.toList⟩] else []) ++ (run l').told, (run l').rest, d + (run l').bad⟩) ∧
  (on = false → tl = false ∧ l' = l ∧ d = 0 ∧ run l = ⟨[], l, 0⟩)

/-- What becomes of a call of step. -/
def Took (w : World) (g : Nat) (s : ByteArray) (b : Int) (e : Ending) (w' : World) : Prop :=
  ∃ (k : UInt8) (p : ByteArray) (tl on : Bool) (s' : ByteArray) (d : Nat), e = .returned (.tuple #[.agg #[.int .u8 (k.toNat : Int), .string p], .bool tl, .bool on]) ∧ w.grownBy w' (some g) ∧ ScanAt w' g s' (b + d) ∧ Next s.data.toList k p tl on s'.data.toList d

theorem hasPre_eq (s : ByteArray) : hasPre s = true ↔ s.data.toList.take 2 = [165, 90] := by
  unfold hasPre
  rw [Lib.toList_data, Lib.extract_data]
  simp only [List.drop_zero, Nat.sub_zero, Bool.and_eq_true, decide_eq_true_eq, beq_iff_eq]
  constructor
  · exact fun h => h.2
  · intro h
    refine ⟨?_, h⟩
    have := congrArg List.length h
    simp at this
    omega

theorem extract_end (s : ByteArray) (a : Nat) : (s.extract a s.size).data.toList = s.data.toList.drop a := by
  rw [Lib.extract_data]
  exact List.take_of_length_le (by simp)

theorem size_len (s : ByteArray) : s.data.toList.length = s.size := by simp
theorem nil_string : (⟨#[]⟩ : ByteArray).data.toList = [] := rfl

theorem get3 (s : ByteArray) (h : 3 < s.size) : s[3] = s.data.toList.getD 3 0 := by
  rw [List.getD_eq_getElem?_getD, List.getElem?_eq_getElem (by rw [size_len]; exact h)]
  rfl
theorem get2 (s : ByteArray) (h : 2 < s.size) : s[2] = s.data.toList.getD 2 0 := by
  rw [List.getD_eq_getElem?_getD, List.getElem?_eq_getElem (by rw [size_len]; exact h)]
  rfl

theorem right_list (s : ByteArray) (a b : Nat) : rightS (s.extract a b) = rightL ((s.data.toList.drop a).take (b - a)) := by
  unfold rightS rightL ofS
  rw [← size_len, Lib.extract_data]

set_option maxHeartbeats 1000000 in
theorem step_any (g : Nat) (s : ByteArray) (b : Int) (w : World) (hS : ScanAt w g s b) (hmax : s.size ≤ 281474976710656) (hb : 0 ≤ b ∧ b ≤ 4611686018427387904) :
    Calls Try.prog 35 #[.pointer (some ⟨g, 0, none⟩)] w (Took w g s b) := by
  have hstop : stepL s.data.toList = .stop → ∀ e w', Stepped w g 0 ⟨#[]⟩ false false s b e w' → Took w g s b e w' := by
    rintro hs e w' ⟨rfl, h1, h2⟩
    exact ⟨0, ⟨#[]⟩, false, false, s, 0, rfl, h1, by simpa using h2, fun h => (by cases h), fun _ => ⟨rfl, rfl, rfl, run_stop hs⟩⟩
  by_cases h0 : s.data.toList = []
  · exact (step_empty g s b w hS hmax (by rw [Lib.toList_data, h0]; rfl)).mono (hstop (by rw [h0]; exact stepL_nil))
  have hE : s.toList.isEmpty = false := by
    rw [Lib.toList_data]
    cases h : s.data.toList with
    | nil => exact absurd h h0
    | cons a l => rfl
  have hpos : 1 ≤ s.size := by
    rw [← size_len]
    exact List.length_pos_iff.2 h0
  by_cases h1 : s.data.toList = [165]
  · exact (step_one g s b w hS hmax hE (by rw [Lib.toList_data, h1]; rfl)).mono (hstop (by rw [h1]; simp [stepL]))
  have h1' : (s.toList == [165]) = false := by rw [Lib.toList_data]; simpa using h1
  have hne : ¬ (s.data.toList = [] ∨ s.data.toList = [165]) := by rintro (h | h); exact h0 h; exact h1 h
  by_cases hp : s.data.toList.take 2 ≠ [165, 90]
  · have hs : stepL s.data.toList = .skip := by unfold stepL; rw [if_neg hne, if_pos hp]
    refine (step_skip g s b w hS hmax hE hpos h1' (by rw [Bool.eq_false_iff]; exact fun h => hp ((hasPre_eq s).1 h))).mono ?_
    rintro e w' ⟨rfl, g1, g2⟩
    refine ⟨0, ⟨#[]⟩, false, true, s.extract 1 s.size, 0, rfl, g1, by simpa using g2, fun _ => ?_, fun h => by cases h⟩
    have e : (s.extract 1 s.size).data.toList = s.data.toList.drop 1 := extract_end s 1
    rw [e, run_skip hs]
    refine ⟨by rw [List.length_drop, size_len]; omega, by rw [List.length_drop]; omega, by simp⟩
  have hpre : hasPre s = true := (hasPre_eq s).2 (by simpa using hp)
  by_cases h4 : s.size < 4
  · exact (step_short g s b w hS hmax hE h1' hpre h4).mono (hstop (by unfold stepL; rw [if_neg hne, if_neg hp, if_pos (by rw [size_len]; exact h4)]))
  have hc : s[3] = s.data.toList.getD 3 0 := get3 s (by omega)
  have hl4 : ¬ s.data.toList.length < 4 := by rw [size_len]; exact h4
  have hbad : stepL s.data.toList = .bad → ∀ e w', Stepped w g 0 ⟨#[]⟩ false true (s.extract 2 s.size) (b + 1) e w' → Took w g s b e w' := by
    rintro hs e w' ⟨rfl, g1, g2⟩
    refine ⟨0, ⟨#[]⟩, false, true, s.extract 2 s.size, 1, rfl, g1, g2, fun _ => ?_, fun h => by cases h⟩
    have e : (s.extract 2 s.size).data.toList = s.data.toList.drop 2 := extract_end s 2
    rw [e, run_bad hs]
    refine ⟨by rw [List.length_drop, size_len]; omega, by rw [List.length_drop, size_len]; omega, by simp; omega⟩
  by_cases h64 : 64 < cnt s.data.toList
  · exact (step_count g s b w hS hmax hE h1' hpre (by omega) _ hc h64 ⟨by omega, hb.2⟩).mono (hbad (by unfold stepL; rw [if_neg hne, if_neg hp, if_neg hl4, if_pos h64]))
  by_cases hw : s.size < 6 + cnt s.data.toList
  · exact (step_wait g s b w hS hmax hE h1' hpre (by omega) _ hc (by unfold cnt at h64; omega) hw).mono (hstop (by unfold stepL; rw [if_neg hne, if_neg hp, if_neg hl4, if_neg h64, if_pos (by rw [size_len]; exact hw)]))
  have hlw : ¬ s.data.toList.length < 6 + cnt s.data.toList := by rw [size_len]; exact hw
  have hr : rightS (s.extract 2 (6 + (s.data.toList.getD 3 0).toNat)) = rightL ((s.data.toList.drop 2).take (4 + cnt s.data.toList)) := by
    rw [right_list]
    congr 2
    unfold cnt
    omega
  by_cases hright : rightL ((s.data.toList.drop 2).take (4 + cnt s.data.toList)) = true
  · have hs : stepL s.data.toList = .told := by unfold stepL; rw [if_neg hne, if_neg hp, if_neg hl4, if_neg h64, if_neg hlw, if_pos hright]
    refine (step_told g s b w hS hmax hE h1' hpre (by omega) _ hc (by unfold cnt at h64; omega) (by unfold cnt at hw; omega) (by rw [hr]; exact hright)).mono ?_
    rintro e w' ⟨rfl, g1, g2⟩
    refine ⟨s[2], s.extract 4 (6 + (s.data.toList.getD 3 0).toNat - 2), true, true, s.extract (6 + (s.data.toList.getD 3 0).toNat) s.size, 0, rfl, g1, by simpa using g2, fun _ => ?_, fun h => by cases h⟩
    have e : (s.extract (6 + (s.data.toList.getD 3 0).toNat) s.size).data.toList = s.data.toList.drop (6 + cnt s.data.toList) := extract_end s _
    have ep : (s.extract 4 (6 + (s.data.toList.getD 3 0).toNat - 2)).data.toList = (s.data.toList.drop 4).take (cnt s.data.toList) := by
      rw [Lib.extract_data]
      congr 1
      unfold cnt
      omega
    rw [e, run_told hs, get2 s (by omega), ep]
    refine ⟨by rw [List.length_drop, size_len]; omega, by rw [List.length_drop]; omega, by simp [frameL]⟩
  · exact (step_wrong g s b w hS hmax hE h1' hpre (by omega) _ hc (by unfold cnt at h64; omega) (by unfold cnt at hw; omega) (by rw [hr]; simpa using hright) ⟨by omega, hb.2⟩).mono (hbad (by unfold stepL; rw [if_neg hne, if_neg hp, if_neg hl4, if_neg h64, if_neg hlw, if_neg hright]))

end Go.Proofs.Ytdecoenollejiaa
