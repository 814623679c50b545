/- Walks of the laws CrcSums, CrcSeals, CrcGoesOn: each returns true; nothing that was there is changed. -/
import Derived.Test.YtdecoenollejiaaCrcR
import Derived.OpenShut
namespace Go.Proofs.Ytdecoenollejiaa
open Go.RowKit CrcMath

theorem u16_bv {a : Int} (h : (Lit.int .u16 a).wf = true) : ∃ x : BitVec 16, a = (x.toNat : Int) := by
  have hb : 0 ≤ a ∧ a < 65536 := by
    have := bounds_u16 h
    omega
  refine ⟨BitVec.ofNat 16 a.toNat, ?_⟩
  simp
  omega

theorem sealS_size (s : ByteArray) : (sealS s).size = s.size + 2 := by unfold sealS; rw [ByteArray.size_append, two_size]

theorem beq_self_int (a : Int) : (a == a) = true := by simp
theorem beq_bv (a b : BitVec 16) : ((a.toNat : Int) == (b.toNat : Int)) = (a == b) := by
  rw [Bool.eq_iff_iff]
  simp only [beq_iff_eq]
  constructor
  · intro h; apply BitVec.eq_of_toNat_eq; omega
  · rintro rfl; rfl

set_option maxHeartbeats 1000000 in
theorem CrcSums_walk (a0 : Int) (a1 : ByteArray) (w0 : (Lit.int .u16 a0).wf = true) (w1 : a1.size ≤ 140737488351232) (w : World) :
    Calls Try.prog 3 #[.int .u16 a0, .string a1] w fun e w' => e = .returned (.bool true) ∧ Below w.heap.size w w' := by
  obtain ⟨x, rfl⟩ := u16_bv w0
  clear w0
  have hm : a1.size ≤ maxLen := by unfold maxLen; omega
  have HM := Lib.hid hm
  clear hm
  go_enter Try.func3, Try.ntmps3
  have HB0 := Lib.hid (Below.refl w.heap.size w)
  go_wp2_with fail
  refine (awake_any _).mono ?_; rintro e w1 ⟨rfl, hb⟩
  have HB1 := Lib.hid (below_then HB0.out HB0.out.size hb); clear hb
  go_wp2_with fail
  refine (more_any _ _ _ HM.out).mono ?_; rintro e w2 ⟨rfl, hb⟩
  have HB2 := Lib.hid (below_then HB1.out HB1.out.size hb); clear hb
  go_wp2_with fail
  refine (of_any _ _ HM.out).mono ?_; rintro e w3 ⟨rfl, hb⟩
  have HB3 := Lib.hid (below_then HB2.out HB2.out.size hb); clear hb
  go_wp2_with fail
  refine (refmore_any _ _ _ HM.out).mono ?_; rintro e w4 ⟨rfl, rfl⟩
  go_wp2_with fail
  refine (refof_any _ _ HM.out).mono ?_; rintro e w5 ⟨rfl, rfl⟩
  go_wp2_with fail
  go_ret
  exact ⟨rfl, HB3.out⟩

set_option maxHeartbeats 1000000 in
theorem CrcSeals_walk (a0 : ByteArray) (w0 : a0.size ≤ 140737488351232) (w : World) :
    Calls Try.prog 4 #[.string a0] w fun e w' => e = .returned (.bool true) ∧ Below w.heap.size w w' := by
  have hm : a0.size ≤ 281474976710656 := by omega
  have HM := Lib.hid hm
  have hl : a0.size ≤ maxLen := by unfold maxLen; omega
  have HL := Lib.hid hl
  have hs : (sealS a0).size ≤ maxLen := by rw [sealS_size]; unfold maxLen; omega
  have HS := Lib.hid hs
  clear hm hl hs
  go_enter Try.func4, Try.ntmps4
  have HB0 := Lib.hid (Below.refl w.heap.size w)
  go_wp2_with fail
  refine (awake_any _).mono ?_; rintro e w1 ⟨rfl, hb⟩
  have HB1 := Lib.hid (below_then HB0.out HB0.out.size hb); clear hb
  go_wp2_with fail
  refine (seal_any _ _ HM.out).mono ?_; rintro e w2 ⟨rfl, hb⟩
  have HB2 := Lib.hid (below_then HB1.out HB1.out.size hb); clear hb
  go_wp2_with fail
  refine (right_any _ _ HL.out).mono ?_; rintro e w3 ⟨rfl, hb⟩
  have HB3 := Lib.hid (below_then HB2.out HB2.out.size hb); clear hb
  go_wp2_with fail
  refine (right_any _ _ HS.out).mono ?_; rintro e w4 ⟨rfl, hb⟩
  have HB4 := Lib.hid (below_then HB3.out HB3.out.size hb); clear hb
  rw [rightS_seal]
  go_wp2_with fail
  refine (refseal_any _ _ HM.out).mono ?_; rintro e w5 ⟨rfl, hb⟩
  have HB5 := Lib.hid (below_then HB4.out HB4.out.size hb); clear hb
  go_wp2_with fail
  refine (refright_any _ _ HM.out).mono ?_; rintro e w6 ⟨rfl, hb⟩
  have HB6 := Lib.hid (below_then HB5.out HB5.out.size hb); clear hb
  go_wp2_with fail
  go_ret
  exact ⟨rfl, HB6.out⟩

theorem more_beq (a b : BitVec 16) (l : List UInt8) : (more a l == more b l) = (a == b) := by
  rw [Bool.eq_iff_iff]
  simp only [beq_iff_eq]
  exact ⟨more_inj l, fun h => by rw [h]⟩

set_option maxHeartbeats 1000000 in
theorem CrcGoesOn_walk (a0 a1 : Int) (a2 a3 : ByteArray) (w0 : (Lit.int .u16 a0).wf = true) (w1 : (Lit.int .u16 a1).wf = true) (w2 : a2.size ≤ 140737488351232) (w3 : a3.size ≤ 140737488351232) (w : World) :
    Calls Try.prog 5 #[.int .u16 a0, .int .u16 a1, .string a2, .string a3] w fun e w' => e = .returned (.bool true) ∧ Below w.heap.size w w' := by
  obtain ⟨x, rfl⟩ := u16_bv w0
  obtain ⟨y, rfl⟩ := u16_bv w1
  clear w0 w1
  have HS : Hid (a2.size ≤ maxLen) := by show _ ≤ _; unfold maxLen; omega
  have HT : Hid (a3.size ≤ maxLen) := by show _ ≤ _; unfold maxLen; omega
  have HST : Hid ((a2 ++ a3).size ≤ maxLen) := by show _ ≤ _; rw [ByteArray.size_append]; unfold maxLen; omega
  go_enter Try.func5, Try.ntmps5
  have HB0 := Lib.hid (Below.refl w.heap.size w)
  go_wp2_with fail
  refine (awake_any _).mono ?_; rintro e w1 ⟨rfl, hb⟩
  have HB1 := Lib.hid (below_then HB0.out HB0.out.size hb); clear hb
  go_wp2_with fail
  refine (more_any _ _ _ HST.out).mono ?_; rintro e w2 ⟨rfl, hb⟩
  have HB2 := Lib.hid (below_then HB1.out HB1.out.size hb); clear hb
  rw [ByteArray.data_append, Array.toList_append, more_append]
  go_wp2_with fail
  refine (more_any _ _ _ HS.out).mono ?_; rintro e w3 ⟨rfl, hb⟩
  have HB3 := Lib.hid (below_then HB2.out HB2.out.size hb); clear hb
  go_wp2_with fail
  refine (more_any _ _ _ HT.out).mono ?_; rintro e w4 ⟨rfl, hb⟩
  have HB4 := Lib.hid (below_then HB3.out HB3.out.size hb); clear hb
  go_wp2_with fail
  refine (more_any _ _ _ HS.out).mono ?_; rintro e w5 ⟨rfl, hb⟩
  have HB5 := Lib.hid (below_then HB4.out HB4.out.size hb); clear hb
  go_wp2_with fail
  refine (more_any _ _ _ HS.out).mono ?_; rintro e w6 ⟨rfl, hb⟩
  have HB6 := Lib.hid (below_then HB5.out HB5.out.size hb); clear hb
  go_wp2_with fail
  go_ret
  exact ⟨ret_bool (by rw [beq_bv, beq_bv, more_beq]; simp), HB6.out⟩

end Go.Proofs.Ytdecoenollejiaa
