/- Walk of the law FrameUnlike: unlike frames have unlike bytes; each is as long as what it carries, and six. -/
import Derived.Test.YtdecoenollejiaaFrLaws1
import Derived.Deep.QuietTactic
import Derived.BigQuiet
set_option linter.unusedVariables false
set_option linter.unusedSimpArgs false
namespace Go.Proofs.Ytdecoenollejiaa
open Go.RowKit CrcMath FrMath

theorem wrapS_size (k : Int) (p : ByteArray) : (wrapS k p).size = p.size + 6 := by
  unfold wrapS
  rw [ByteArray.size_append, sealS_size, ByteArray.size_append, two_size]
  show 2 + _ = _
  omega

theorem wrap_over (k : UInt8) (p : ByteArray) (w : World) (hp : 64 < p.size) (hmax : p.size ≤ maxLen) :
    Calls Try.prog 25 #[.int .u8 (k.toNat : Int), .string p] w fun e w' => e = .returned (.tuple #[.string ⟨#[]⟩, .int .i64 2]) ∧ w = w' := by
  have hp' : (64 : Int) < (p.size : Int) := by omega
  unfold maxLen at hmax
  go_enter Try.func25, Try.ntmps25
  go_wp2_with fail
  go_ret2
  exact ⟨rfl, rfl⟩

theorem wrapS_data (k : UInt8) (p : ByteArray) (hp : p.size ≤ 64) : ∃ z, (wrapS k.toNat p).data.toList = [165, 90] ++ ([k, UInt8.ofNat p.size] ++ p.data.toList) ++ z ∧ z.length = 2 ∧ rightL ([k, UInt8.ofNat p.size] ++ p.data.toList ++ z) = true := by
  have e2 : (two k.toNat (p.size : Int)).data.toList = [k, UInt8.ofNat p.size] := by
    unfold two
    rw [strOfNums_data]
    simp
  have hd := sealS_data (two k.toNat (p.size : Int) ++ p)
  have hr := rightS_seal (two k.toNat (p.size : Int) ++ p)
  refine ⟨[UInt8.ofNat ((ofS (two k.toNat (p.size : Int) ++ p)).toNat / 256), UInt8.ofNat ((ofS (two k.toNat (p.size : Int) ++ p)).toNat % 256)], ?_, rfl, ?_⟩
  · unfold wrapS
    rw [ByteArray.data_append, Array.toList_append, hd, ByteArray.data_append, Array.toList_append, e2]
    simp
  · unfold rightS ofS at hr
    rw [← size_len, hd, ByteArray.data_append, Array.toList_append, e2] at hr
    unfold rightL
    exact hr

theorem bytes_ext {a b : ByteArray} (h : a.data.toList = b.data.toList) : a = b := by
  cases a; cases b
  simp at h
  rw [h]

/-- Unlike frames have unlike bytes. -/
theorem wrap_ne (k j : UInt8) (p q : ByteArray) (hp : p.size ≤ 64) (hq : q.size ≤ 64) (h : ¬ (k = j ∧ p = q)) : ((wrapS k.toNat p).toList == (wrapS j.toNat q).toList) = false := by
  rw [beq_eq_false_iff_ne, Lib.toList_data, Lib.toList_data]
  intro e
  obtain ⟨z1, e1, l1, _⟩ := wrapS_data k p hp
  obtain ⟨z2, e2, l2, _⟩ := wrapS_data j q hq
  rw [e1, e2] at e
  have e3 := List.append_inj' e (by rw [l1, l2])
  have e4 := List.append_cancel_left e3.1
  simp only [List.cons_append, List.nil_append, List.cons.injEq] at e4
  exact h ⟨e4.1, bytes_ext e4.2.2⟩

set_option maxHeartbeats 1000000 in
theorem FrameUnlike_walk (k0 : Int) (p0 : ByteArray) (k1 : Int) (p1 : ByteArray) (w00 : (Lit.int .u8 k0).wf = true) (w01 : p0.size ≤ maxLen) (w10 : (Lit.int .u8 k1).wf = true) (w11 : p1.size ≤ maxLen) (w : World) :
    Calls Try.prog 14 #[.agg #[.int .u8 k0, .string p0], .agg #[.int .u8 k1, .string p1]] w fun e w' => e = .returned (.bool true) ∧ Below w.heap.size w w' := by
  obtain ⟨k0, rfl⟩ := u8_bv w00
  obtain ⟨k1, rfl⟩ := u8_bv w10
  clear w00 w10
  by_cases hl : 64 < p0.size
  · by_cases hl1 : 64 < p1.size
    · go_enter Try.func14, Try.ntmps14
      go_wp2_with fail
      refine (awake11_any _).mono ?_; rintro e wa ⟨rfl, hb1⟩
      have hza : w.heap.size + 1 < wa.heap.size := by have := hb1.size; simp at this; omega
      have hc0 : wa.cell? ⟨w.heap.size, 0, none⟩ = some (.int .u8 (k0.toNat : Int)) := by rw [hb1.cell (p := ⟨w.heap.size, 0, none⟩) (by simp; omega)]; go_simp
      have hc1 : wa.cell? ⟨w.heap.size, 1, none⟩ = some (.string p0) := by rw [hb1.cell (p := ⟨w.heap.size, 1, none⟩) (by simp; omega)]; go_simp
      have hc2 : wa.cell? ⟨w.heap.size + 1, 0, none⟩ = some (.int .u8 (k1.toNat : Int)) := by rw [hb1.cell (p := ⟨w.heap.size + 1, 0, none⟩) (by simp)]; go_simp
      have hc3 : wa.cell? ⟨w.heap.size + 1, 1, none⟩ = some (.string p1) := by rw [hb1.cell (p := ⟨w.heap.size + 1, 1, none⟩) (by simp)]; go_simp
      have HB := Lib.hid (below_then (((Below.refl w.heap.size w).alloc (Nat.le_refl _) (.cells #[.int .u8 (k0.toNat : Int), .string p0] 52)).alloc (by simp) (.cells #[.int .u8 (k1.toNat : Int), .string p1] 52)) (by simp; omega) hb1)
      clear hb1
      go_wp2_with fail
      refine (wrap_over k0 p0 _ hl w01).mono ?_; rintro e wb ⟨rfl, rfl⟩
      go_wp2_with fail
      refine (wrap_over k1 p1 _ hl1 w11).mono ?_; rintro e wc ⟨rfl, rfl⟩
      go_wp2_with fail
      go_ret
      exact ⟨rfl, HB.out⟩
    · have hl1' : p1.size ≤ 64 := by omega
      go_enter Try.func14, Try.ntmps14
      go_wp2_with fail
      refine (awake11_any _).mono ?_; rintro e wa ⟨rfl, hb1⟩
      have hza : w.heap.size + 1 < wa.heap.size := by have := hb1.size; simp at this; omega
      have hc0 : wa.cell? ⟨w.heap.size, 0, none⟩ = some (.int .u8 (k0.toNat : Int)) := by rw [hb1.cell (p := ⟨w.heap.size, 0, none⟩) (by simp; omega)]; go_simp
      have hc1 : wa.cell? ⟨w.heap.size, 1, none⟩ = some (.string p0) := by rw [hb1.cell (p := ⟨w.heap.size, 1, none⟩) (by simp; omega)]; go_simp
      have hc2 : wa.cell? ⟨w.heap.size + 1, 0, none⟩ = some (.int .u8 (k1.toNat : Int)) := by rw [hb1.cell (p := ⟨w.heap.size + 1, 0, none⟩) (by simp)]; go_simp
      have hc3 : wa.cell? ⟨w.heap.size + 1, 1, none⟩ = some (.string p1) := by rw [hb1.cell (p := ⟨w.heap.size + 1, 1, none⟩) (by simp)]; go_simp
      have HB := Lib.hid (below_then (((Below.refl w.heap.size w).alloc (Nat.le_refl _) (.cells #[.int .u8 (k0.toNat : Int), .string p0] 52)).alloc (by simp) (.cells #[.int .u8 (k1.toNat : Int), .string p1] 52)) (by simp; omega) hb1)
      clear hb1
      go_wp2_with fail
      refine (wrap_over k0 p0 _ hl w01).mono ?_; rintro e wb ⟨rfl, rfl⟩
      go_wp2_with fail
      refine (wrap_any k1 p1 _ hl1').mono ?_; rintro e wc ⟨rfl, hb⟩
      have HC0 := Lib.hid ((hb.cell (p := ⟨w.heap.size, 0, none⟩) (by simp; omega)).trans hc0)
      have HC1 := Lib.hid ((hb.cell (p := ⟨w.heap.size, 1, none⟩) (by simp; omega)).trans hc1)
      have HC2 := Lib.hid ((hb.cell (p := ⟨w.heap.size + 1, 0, none⟩) (by simp; omega)).trans hc2)
      have HC3 := Lib.hid ((hb.cell (p := ⟨w.heap.size + 1, 1, none⟩) (by simp; omega)).trans hc3)
      have HB := Lib.hid (below_then HB.out HB.out.size hb)
      have hz1 : w.heap.size + 1 < wc.heap.size := by have := hb.size; omega
      clear hc0 hc1 hc2 hc3 hb
      have hc0 := HC0.out
      have hc1 := HC1.out
      have hc2 := HC2.out
      have hc3 := HC3.out
      clear HC0 HC1 HC2 HC3
      go_wp2_with fail
      go_ret
      exact ⟨rfl, HB.out⟩
  have hl0' : p0.size ≤ 64 := by omega
  by_cases hl1 : 64 < p1.size
  · go_enter Try.func14, Try.ntmps14
    go_wp2_with fail
    refine (awake11_any _).mono ?_; rintro e wa ⟨rfl, hb1⟩
    have hza : w.heap.size + 1 < wa.heap.size := by have := hb1.size; simp at this; omega
    have hc0 : wa.cell? ⟨w.heap.size, 0, none⟩ = some (.int .u8 (k0.toNat : Int)) := by rw [hb1.cell (p := ⟨w.heap.size, 0, none⟩) (by simp; omega)]; go_simp
    have hc1 : wa.cell? ⟨w.heap.size, 1, none⟩ = some (.string p0) := by rw [hb1.cell (p := ⟨w.heap.size, 1, none⟩) (by simp; omega)]; go_simp
    have hc2 : wa.cell? ⟨w.heap.size + 1, 0, none⟩ = some (.int .u8 (k1.toNat : Int)) := by rw [hb1.cell (p := ⟨w.heap.size + 1, 0, none⟩) (by simp)]; go_simp
    have hc3 : wa.cell? ⟨w.heap.size + 1, 1, none⟩ = some (.string p1) := by rw [hb1.cell (p := ⟨w.heap.size + 1, 1, none⟩) (by simp)]; go_simp
    have HB := Lib.hid (below_then (((Below.refl w.heap.size w).alloc (Nat.le_refl _) (.cells #[.int .u8 (k0.toNat : Int), .string p0] 52)).alloc (by simp) (.cells #[.int .u8 (k1.toNat : Int), .string p1] 52)) (by simp; omega) hb1)
    clear hb1
    go_wp2_with fail
    refine (wrap_any k0 p0 _ hl0').mono ?_; rintro e wb ⟨rfl, hb⟩
    have HC0 := Lib.hid ((hb.cell (p := ⟨w.heap.size, 0, none⟩) (by simp; omega)).trans hc0)
    have HC1 := Lib.hid ((hb.cell (p := ⟨w.heap.size, 1, none⟩) (by simp; omega)).trans hc1)
    have HC2 := Lib.hid ((hb.cell (p := ⟨w.heap.size + 1, 0, none⟩) (by simp; omega)).trans hc2)
    have HC3 := Lib.hid ((hb.cell (p := ⟨w.heap.size + 1, 1, none⟩) (by simp; omega)).trans hc3)
    have HB := Lib.hid (below_then HB.out HB.out.size hb)
    have hz1 : w.heap.size + 1 < wb.heap.size := by have := hb.size; omega
    clear hc0 hc1 hc2 hc3 hb
    have hc0 := HC0.out
    have hc1 := HC1.out
    have hc2 := HC2.out
    have hc3 := HC3.out
    clear HC0 HC1 HC2 HC3
    go_wp2_with fail
    refine (wrap_over k1 p1 _ hl1 w11).mono ?_; rintro e wc ⟨rfl, rfl⟩
    go_wp2_with fail
    go_ret
    exact ⟨rfl, HB.out⟩
  have hl1' : p1.size ≤ 64 := by omega
  have hs0 := wrapS_size (k0.toNat : Int) p0
  by_cases hk : k0 = k1
  · subst hk
    by_cases hp : p0 = p1
    · subst hp
      go_enter Try.func14, Try.ntmps14
      go_wp2_with fail
      refine (awake11_any _).mono ?_; rintro e wa ⟨rfl, hb1⟩
      have hza : w.heap.size + 1 < wa.heap.size := by have := hb1.size; simp at this; omega
      have hc0 : wa.cell? ⟨w.heap.size, 0, none⟩ = some (.int .u8 (k0.toNat : Int)) := by rw [hb1.cell (p := ⟨w.heap.size, 0, none⟩) (by simp; omega)]; go_simp
      have hc1 : wa.cell? ⟨w.heap.size, 1, none⟩ = some (.string p0) := by rw [hb1.cell (p := ⟨w.heap.size, 1, none⟩) (by simp; omega)]; go_simp
      have hc2 : wa.cell? ⟨w.heap.size + 1, 0, none⟩ = some (.int .u8 (k0.toNat : Int)) := by rw [hb1.cell (p := ⟨w.heap.size + 1, 0, none⟩) (by simp)]; go_simp
      have hc3 : wa.cell? ⟨w.heap.size + 1, 1, none⟩ = some (.string p0) := by rw [hb1.cell (p := ⟨w.heap.size + 1, 1, none⟩) (by simp)]; go_simp
      have HB := Lib.hid (below_then (((Below.refl w.heap.size w).alloc (Nat.le_refl _) (.cells #[.int .u8 (k0.toNat : Int), .string p0] 52)).alloc (by simp) (.cells #[.int .u8 (k0.toNat : Int), .string p0] 52)) (by simp; omega) hb1)
      clear hb1
      go_wp2_with fail
      refine (wrap_any k0 p0 _ hl0').mono ?_; rintro e wb ⟨rfl, hb⟩
      have HC0 := Lib.hid ((hb.cell (p := ⟨w.heap.size, 0, none⟩) (by simp; omega)).trans hc0)
      have HC1 := Lib.hid ((hb.cell (p := ⟨w.heap.size, 1, none⟩) (by simp; omega)).trans hc1)
      have HC2 := Lib.hid ((hb.cell (p := ⟨w.heap.size + 1, 0, none⟩) (by simp; omega)).trans hc2)
      have HC3 := Lib.hid ((hb.cell (p := ⟨w.heap.size + 1, 1, none⟩) (by simp; omega)).trans hc3)
      have HB := Lib.hid (below_then HB.out HB.out.size hb)
      have hz1 : w.heap.size + 1 < wb.heap.size := by have := hb.size; omega
      clear hc0 hc1 hc2 hc3 hb
      have hc0 := HC0.out
      have hc1 := HC1.out
      have hc2 := HC2.out
      have hc3 := HC3.out
      clear HC0 HC1 HC2 HC3
      go_wp2_with fail
      refine (wrap_any k0 p0 _ hl0').mono ?_; rintro e wc ⟨rfl, hb⟩
      have HC0 := Lib.hid ((hb.cell (p := ⟨w.heap.size, 0, none⟩) (by simp; omega)).trans hc0)
      have HC1 := Lib.hid ((hb.cell (p := ⟨w.heap.size, 1, none⟩) (by simp; omega)).trans hc1)
      have HC2 := Lib.hid ((hb.cell (p := ⟨w.heap.size + 1, 0, none⟩) (by simp; omega)).trans hc2)
      have HC3 := Lib.hid ((hb.cell (p := ⟨w.heap.size + 1, 1, none⟩) (by simp; omega)).trans hc3)
      have HB := Lib.hid (below_then HB.out HB.out.size hb)
      have hz2 : w.heap.size + 1 < wc.heap.size := by have := hb.size; omega
      clear hc0 hc1 hc2 hc3 hb
      have hc0 := HC0.out
      have hc1 := HC1.out
      have hc2 := HC2.out
      have hc3 := HC3.out
      clear HC0 HC1 HC2 HC3
      go_wp2_with fail
      go_ret
      exact ⟨rfl, HB.out⟩
    · have hq : ¬ p0.toList = p1.toList := fun e => hp (bytes_ext (by rw [← Lib.toList_data, ← Lib.toList_data]; exact e))
      have hw : ((wrapS k0.toNat p0).toList == (wrapS k0.toNat p1).toList) = false := wrap_ne k0 k0 p0 p1 hl0' hl1' (fun e => hp e.2)
      go_enter Try.func14, Try.ntmps14
      go_wp2_with fail
      refine (awake11_any _).mono ?_; rintro e wa ⟨rfl, hb1⟩
      have hza : w.heap.size + 1 < wa.heap.size := by have := hb1.size; simp at this; omega
      have hc0 : wa.cell? ⟨w.heap.size, 0, none⟩ = some (.int .u8 (k0.toNat : Int)) := by rw [hb1.cell (p := ⟨w.heap.size, 0, none⟩) (by simp; omega)]; go_simp
      have hc1 : wa.cell? ⟨w.heap.size, 1, none⟩ = some (.string p0) := by rw [hb1.cell (p := ⟨w.heap.size, 1, none⟩) (by simp; omega)]; go_simp
      have hc2 : wa.cell? ⟨w.heap.size + 1, 0, none⟩ = some (.int .u8 (k0.toNat : Int)) := by rw [hb1.cell (p := ⟨w.heap.size + 1, 0, none⟩) (by simp)]; go_simp
      have hc3 : wa.cell? ⟨w.heap.size + 1, 1, none⟩ = some (.string p1) := by rw [hb1.cell (p := ⟨w.heap.size + 1, 1, none⟩) (by simp)]; go_simp
      have HB := Lib.hid (below_then (((Below.refl w.heap.size w).alloc (Nat.le_refl _) (.cells #[.int .u8 (k0.toNat : Int), .string p0] 52)).alloc (by simp) (.cells #[.int .u8 (k0.toNat : Int), .string p1] 52)) (by simp; omega) hb1)
      clear hb1
      go_wp2_with fail
      refine (wrap_any k0 p0 _ hl0').mono ?_; rintro e wb ⟨rfl, hb⟩
      have HC0 := Lib.hid ((hb.cell (p := ⟨w.heap.size, 0, none⟩) (by simp; omega)).trans hc0)
      have HC1 := Lib.hid ((hb.cell (p := ⟨w.heap.size, 1, none⟩) (by simp; omega)).trans hc1)
      have HC2 := Lib.hid ((hb.cell (p := ⟨w.heap.size + 1, 0, none⟩) (by simp; omega)).trans hc2)
      have HC3 := Lib.hid ((hb.cell (p := ⟨w.heap.size + 1, 1, none⟩) (by simp; omega)).trans hc3)
      have HB := Lib.hid (below_then HB.out HB.out.size hb)
      have hz1 : w.heap.size + 1 < wb.heap.size := by have := hb.size; omega
      clear hc0 hc1 hc2 hc3 hb
      have hc0 := HC0.out
      have hc1 := HC1.out
      have hc2 := HC2.out
      have hc3 := HC3.out
      clear HC0 HC1 HC2 HC3
      go_wp2_with fail
      refine (wrap_any k0 p1 _ hl1').mono ?_; rintro e wc ⟨rfl, hb⟩
      have HC0 := Lib.hid ((hb.cell (p := ⟨w.heap.size, 0, none⟩) (by simp; omega)).trans hc0)
      have HC1 := Lib.hid ((hb.cell (p := ⟨w.heap.size, 1, none⟩) (by simp; omega)).trans hc1)
      have HC2 := Lib.hid ((hb.cell (p := ⟨w.heap.size + 1, 0, none⟩) (by simp; omega)).trans hc2)
      have HC3 := Lib.hid ((hb.cell (p := ⟨w.heap.size + 1, 1, none⟩) (by simp; omega)).trans hc3)
      have HB := Lib.hid (below_then HB.out HB.out.size hb)
      have hz2 : w.heap.size + 1 < wc.heap.size := by have := hb.size; omega
      clear hc0 hc1 hc2 hc3 hb
      have hc0 := HC0.out
      have hc1 := HC1.out
      have hc2 := HC2.out
      have hc3 := HC3.out
      clear HC0 HC1 HC2 HC3
      go_wp2_with fail
      go_ret
      exact ⟨rfl, HB.out⟩
  · have hq : ¬ (k0.toNat : Int) = (k1.toNat : Int) := fun e => hk (UInt8.toNat_inj.1 (by omega))
    have hw : ((wrapS k0.toNat p0).toList == (wrapS k1.toNat p1).toList) = false := wrap_ne k0 k1 p0 p1 hl0' hl1' (fun e => hk e.1)
    go_enter Try.func14, Try.ntmps14
    go_wp2_with fail
    refine (awake11_any _).mono ?_; rintro e wa ⟨rfl, hb1⟩
    have hza : w.heap.size + 1 < wa.heap.size := by have := hb1.size; simp at this; omega
    have hc0 : wa.cell? ⟨w.heap.size, 0, none⟩ = some (.int .u8 (k0.toNat : Int)) := by rw [hb1.cell (p := ⟨w.heap.size, 0, none⟩) (by simp; omega)]; go_simp
    have hc1 : wa.cell? ⟨w.heap.size, 1, none⟩ = some (.string p0) := by rw [hb1.cell (p := ⟨w.heap.size, 1, none⟩) (by simp; omega)]; go_simp
    have hc2 : wa.cell? ⟨w.heap.size + 1, 0, none⟩ = some (.int .u8 (k1.toNat : Int)) := by rw [hb1.cell (p := ⟨w.heap.size + 1, 0, none⟩) (by simp)]; go_simp
    have hc3 : wa.cell? ⟨w.heap.size + 1, 1, none⟩ = some (.string p1) := by rw [hb1.cell (p := ⟨w.heap.size + 1, 1, none⟩) (by simp)]; go_simp
    have HB := Lib.hid (below_then (((Below.refl w.heap.size w).alloc (Nat.le_refl _) (.cells #[.int .u8 (k0.toNat : Int), .string p0] 52)).alloc (by simp) (.cells #[.int .u8 (k1.toNat : Int), .string p1] 52)) (by simp; omega) hb1)
    clear hb1
    go_wp2_with fail
    refine (wrap_any k0 p0 _ hl0').mono ?_; rintro e wb ⟨rfl, hb⟩
    have HC0 := Lib.hid ((hb.cell (p := ⟨w.heap.size, 0, none⟩) (by simp; omega)).trans hc0)
    have HC1 := Lib.hid ((hb.cell (p := ⟨w.heap.size, 1, none⟩) (by simp; omega)).trans hc1)
    have HC2 := Lib.hid ((hb.cell (p := ⟨w.heap.size + 1, 0, none⟩) (by simp; omega)).trans hc2)
    have HC3 := Lib.hid ((hb.cell (p := ⟨w.heap.size + 1, 1, none⟩) (by simp; omega)).trans hc3)
    have HB := Lib.hid (below_then HB.out HB.out.size hb)
    have hz1 : w.heap.size + 1 < wb.heap.size := by have := hb.size; omega
    clear hc0 hc1 hc2 hc3 hb
    have hc0 := HC0.out
    have hc1 := HC1.out
    have hc2 := HC2.out
    have hc3 := HC3.out
    clear HC0 HC1 HC2 HC3
    go_wp2_with fail
    refine (wrap_any k1 p1 _ hl1').mono ?_; rintro e wc ⟨rfl, hb⟩
    have HC0 := Lib.hid ((hb.cell (p := ⟨w.heap.size, 0, none⟩) (by simp; omega)).trans hc0)
    have HC1 := Lib.hid ((hb.cell (p := ⟨w.heap.size, 1, none⟩) (by simp; omega)).trans hc1)
    have HC2 := Lib.hid ((hb.cell (p := ⟨w.heap.size + 1, 0, none⟩) (by simp; omega)).trans hc2)
    have HC3 := Lib.hid ((hb.cell (p := ⟨w.heap.size + 1, 1, none⟩) (by simp; omega)).trans hc3)
    have HB := Lib.hid (below_then HB.out HB.out.size hb)
    have hz2 : w.heap.size + 1 < wc.heap.size := by have := hb.size; omega
    clear hc0 hc1 hc2 hc3 hb
    have hc0 := HC0.out
    have hc1 := HC1.out
    have hc2 := HC2.out
    have hc3 := HC3.out
    clear HC0 HC1 HC2 HC3
    go_wp2_with fail
    go_ret
    exact ⟨rfl, HB.out⟩
end Go.Proofs.Ytdecoenollejiaa
