/- Walk of the law FrameWraps. -/
import Derived.Test.YtdecoenollejiaaFrAwake
set_option linter.unusedVariables false
set_option linter.unusedSimpArgs false
namespace Go.Proofs.Ytdecoenollejiaa
open Go.RowKit CrcMath FrMath

theorem u8_bv {a : Int} (h : (Lit.int .u8 a).wf = true) : ∃ x : UInt8, a = (x.toNat : Int) := by
  have hb := bounds_u8 h
  refine ⟨UInt8.ofNat a.toNat, ?_⟩
  simp
  omega

set_option maxHeartbeats 1000000 in
theorem FrameWraps_walk (a0 : Int) (a1 : ByteArray) (w0 : (Lit.int .u8 a0).wf = true) (w1 : a1.size ≤ 140737488351232) (w : World) :
    Calls Try.prog 9 #[.int .u8 a0, .string a1] w fun e w' => e = .returned (.bool true) ∧ Below w.heap.size w w' := by
  obtain ⟨k, rfl⟩ := u8_bv w0
  clear w0
  by_cases hl : 64 < a1.size
  · go_enter Try.func9, Try.ntmps9
    go_wp2_with fail
    refine (awake11_any _).mono ?_; rintro e wa ⟨rfl, hb1⟩
    have HB := Lib.hid hb1; clear hb1
    go_wp2_with fail
    refine (wrap_long k a1 _ hl w1).mono ?_; rintro e wb ⟨rfl, rfl⟩
    go_wp2_with fail
    refine (refwrap_long k a1 _ hl w1).mono ?_; rintro e wc ⟨rfl, rfl⟩
    go_wp2_with fail
    go_ret
    exact ⟨rfl, HB.out⟩
  · have hl' : a1.size ≤ 64 := by omega
    go_enter Try.func9, Try.ntmps9
    go_wp2_with fail
    refine (awake11_any _).mono ?_; rintro e wa ⟨rfl, hb1⟩
    have HB := Lib.hid hb1; clear hb1
    go_wp2_with fail
    refine (wrap_any k a1 _ hl').mono ?_; rintro e wb ⟨rfl, hb⟩
    have HB := Lib.hid (below_then HB.out HB.out.size hb); clear hb
    go_wp2_with fail
    refine (refwrap_any k a1 _ hl').mono ?_; rintro e wc ⟨rfl, hb⟩
    have HB := Lib.hid (below_then HB.out HB.out.size hb); clear hb
    go_wp2_with fail
    go_ret
    exact ⟨rfl, HB.out⟩
end Go.Proofs.Ytdecoenollejiaa
