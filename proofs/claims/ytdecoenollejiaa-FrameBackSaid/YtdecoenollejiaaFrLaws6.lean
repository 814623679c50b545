/- Walk of the law FrameBack: what was wrapped is told, in order, whatever other bytes stand between, but 165. -/
import Derived.Test.YtdecoenollejiaaFrLaws2
import Derived.Test.YtdecoenollejiaaFrPure2
import Derived.Test.YtdecoenollejiaaOpen2
import Derived.Deep.RegionWith
set_option linter.unusedVariables false
set_option linter.unusedSimpArgs false
namespace Go.Proofs.Ytdecoenollejiaa
open Go.RowKit CrcMath FrMath

/-- Whatever follows these bytes, they tell these frames, and no more of them stays. -/
def Pre (l : List UInt8) (fs : List Fr) : Prop := ∀ b, run (l ++ b) = ⟨fs ++ (run b).told, (run b).rest, (run b).bad⟩

theorem Pre.nil : Pre [] [] := fun b => rfl

theorem Pre.all {l : List UInt8} {fs : List Fr} (h : Pre l fs) : run l = ⟨fs, [], 0⟩ := by
  have := h []
  rwa [List.append_nil, run_nil, List.append_nil] at this

theorem Pre.frame {l m : List UInt8} {fs : List Fr} {f : Fr} (h : Pre l fs) (hm : Wrapped m f.kind f.pay) : Pre (l ++ m) (fs ++ [f]) := by
  intro b
  rw [List.append_assoc, h, hm.told]
  simp

theorem Pre.others {l a : List UInt8} {fs : List Fr} (h : Pre l fs) (ha : ∀ x ∈ a, x ≠ 165) : Pre (l ++ a) fs := by
  intro b
  rw [List.append_assoc, h, run_others _ _ ha]

theorem take_next {fs : List Fr} {i : Nat} (h : i < fs.length) : fs.take i ++ [fs.getD i ⟨0, []⟩] = fs.take (i + 1) := by
  rw [List.getD_eq_getElem?_getD, List.getElem?_eq_getElem h, Option.getD_some, List.take_append_getElem]

/-- What holds of the bytes so far. -/
def Upto (fs : List Fr) (i : Nat) (al : ByteArray) : Prop := al.size ≤ 270 * i ∧ Pre al.data.toList (fs.take i)

theorem Upto.frame {fs : List Fr} {i : Nat} {al : ByteArray} (h : Upto fs i al) (hi : i < fs.length) {t : ByteArray} (ht : Wrapped t.data.toList (fs.getD i ⟨0, []⟩).kind (fs.getD i ⟨0, []⟩).pay) : Upto fs (i + 1) (al ++ t) := by
  have hl := ht.length
  have h64 : (fs.getD i ⟨0, []⟩).pay.length ≤ 64 := by obtain ⟨_, _, _, h, _⟩ := ht; exact h
  rw [size_len] at hl
  refine ⟨by rw [ByteArray.size_append]; have := h.1; omega, ?_⟩
  rw [ByteArray.data_append, Array.toList_append, ← take_next hi]
  exact h.2.frame ht

theorem Upto.both {fs : List Fr} {i : Nat} {al : ByteArray} (h : Upto fs i al) (hi : i < fs.length) {c t : ByteArray} (hc : c.size ≤ 200) (hb : ∀ x ∈ c.data.toList, x ≠ 165) (ht : Wrapped t.data.toList (fs.getD i ⟨0, []⟩).kind (fs.getD i ⟨0, []⟩).pay) : Upto fs (i + 1) (al ++ c ++ t) := by
  have hl := ht.length
  have h64 : (fs.getD i ⟨0, []⟩).pay.length ≤ 64 := by obtain ⟨_, _, _, h, _⟩ := ht; exact h
  rw [size_len] at hl
  refine ⟨by rw [ByteArray.size_append, ByteArray.size_append]; have := h.1; omega, ?_⟩
  rw [ByteArray.data_append, Array.toList_append, ByteArray.data_append, Array.toList_append, ← take_next hi]
  exact (h.2.others hb).frame ht

theorem wrapS_wrapped' (f : Fr) (h : f.pay.length ≤ 64) : Wrapped (wrapS f.kind.toNat ⟨f.pay.toArray⟩).data.toList f.kind f.pay := by
  obtain ⟨z, e, hz, hr⟩ := wrapS_data f.kind ⟨f.pay.toArray⟩ h
  exact ⟨z, by rw [e]; simp [ByteArray.size], hz, h, by simpa [ByteArray.size] using hr⟩

theorem no165 {c : ByteArray} {k : Nat} (h : ∀ x ∈ c.data.toList.take k, x ≠ 165) (hk : k < c.size) (hn : c[k] ≠ 165) : ∀ x ∈ c.data.toList.take (k + 1), x ≠ 165 := by
  intro x hx
  rw [List.mem_take_iff_getElem] at hx
  obtain ⟨j, hj, rfl⟩ := hx
  by_cases hjk : j < k
  · exact h _ (List.mem_take_iff_getElem.2 ⟨j, by have := size_len c; omega, rfl⟩)
  · obtain rfl : j = k := by omega
    exact hn

set_option maxHeartbeats 4000000 in
set_option maxRecDepth 100000 in
theorem FrameBack_walk (A0 : Option Addr) (n0 c0 : Nat) (fs : List Fr) (A1 : Option Addr) (n1 c1 : Nat) (ss : List ByteArray) (w : World) (hF : FrIn w A0 n0 c0 fs) (hS : StrsAt w A1 n1 ss) :
    Calls Try.prog 12 #[.slice A0 n0 c0, .slice A1 n1 c1] w fun e w' => e = .returned (.bool true) ∧ Below w.heap.size w w' := by
  obtain ⟨hF, hFl, hFz⟩ := hF
  obtain ⟨hn1, hS⟩ := hS
  have HFR := Lib.hid hF
  obtain ⟨A, c, hv, hn46, hA⟩ := hF
  injection hv with e1 e2 e3
  subst e1; subst e3
  clear e2
  rw [hFl] at hA hn46
  have HA := Lib.hid hA; have HS := Lib.hid hS; have HFL := Lib.hid hFl; have HFZ := Lib.hid hFz
  clear hA hS hFl hFz
  by_cases h50 : 50 < n0
  · have d50 : decide ((50 : Int) < (n0 : Int)) = true := by simp; omega
    go_enter Try.func12, Try.ntmps12
    go_wp2_with fail
    refine (awake11_any _).mono ?_; rintro e wp ⟨rfl, hb1⟩
    have HB0 := Lib.hid hb1; clear hb1
    go_wp2_with fail
    go_ret
    exact ⟨rfl, HB0.out⟩
  have d50 : decide ((50 : Int) < (n0 : Int)) = false := by simp; omega
  have hn50 : n0 ≤ 50 := by omega
  clear h50
  go_enter Try.func12, Try.ntmps12
  go_wp2_with fail
  refine (awake11_any _).mono ?_; rintro e wp ⟨rfl, hb1⟩
  have HB0 := Lib.hid hb1; clear hb1
  go_wp2_with fail
  go_loopg [6, 7] n0 (fun g av iv wr => ∃ (i : Nat) (al : ByteArray), i + g = n0 ∧ iv = .int .i64 i ∧ av = .string al ∧ Upto fs i al ∧ Below w.heap.size w wr)
  case atStart =>
    exact ⟨0, ⟨#[]⟩, by omega, rfl, rfl, ⟨by decide, by rw [nil_string]; exact Pre.nil⟩, HB0.out⟩
  case round =>
    clear HB0
    obtain ⟨i, al, hig, rfl, rfl, hU, hB⟩ := hrel
    have hal : al.size ≤ 270 * i := hU.1
    have HU := Lib.hid hU; have HB := Lib.hid hB
    clear hU hB
    by_cases hlt : i < n0
    · have hlt' : (i : Int) < (n0 : Int) := by omega
      obtain ⟨b, off, rfl, hblt, hcs⟩ := HA.out (by omega)
      obtain ⟨hc0, hc1⟩ := hcs i hlt
      clear hcs
      have hz := HFZ.out i hlt
      have HWR := wrapS_wrapped' (fs.getD i ⟨0, []⟩)
      obtain ⟨f, hf⟩ : ∃ f, fs.getD i ⟨0, []⟩ = f := ⟨_, rfl⟩
      rw [hf] at hc0 hc1 hz HWR
      have HFF := Lib.hid hf
      clear hf
      have hr0 : wr.cell? ⟨b, off + i * 2, none⟩ = some (.int .u8 ((f.kind.toNat : Nat) : Int)) := (HB.out.cell (p := ⟨b, off + i * 2, none⟩) hblt).trans hc0
      have hr1 : wr.cell? ⟨b, off + i * 2 + 1, none⟩ = some (.string ⟨f.pay.toArray⟩) := (HB.out.cell (p := ⟨b, off + i * 2 + 1, none⟩) hblt).trans hc1
      clear hc0 hc1
      have hps : (⟨f.pay.toArray⟩ : ByteArray).size = f.pay.length := rfl
      generalize hpy : (⟨f.pay.toArray⟩ : ByteArray) = py at *
      have HPY := Lib.hid hpy
      clear hpy
      rw [← hps] at hz HWR
      clear hps
      by_cases hlong : 64 < py.size
      · have hlong2 : 64 < py.size := by omega
        have hlong3 : (64 : Int) < (py.size : Int) := by omega
        have CO := Lib.hid (fun w => wrap_over f.kind py w hlong2 (by unfold maxLen; omega))
        go_wp2_with fail
        go_region_with (go_at_call 25; with_reducible refine (CO.out _).mono ?_; rintro e w2 ⟨rfl, rfl⟩)
        all_goals
          clear CO
          go_wp2_with fail
          go_ret
          exact ⟨rfl, HB.out.drew⟩
      have hlen : py.size ≤ 64 := by omega
      have CO := Lib.hid (fun w => wrap_any f.kind py w hlen)
      have HT := Lib.hid (HWR (by omega))
      have hts := wrapS_size (f.kind.toNat : Int) py
      go_wp2_with fail
      go_region_with (go_at_call 25; with_reducible refine (CO.out _).mono ?_; rintro e w2 ⟨rfl, hb⟩; have HB2 := Lib.hid (below_then HB.out.drew HB.out.drew.size hb); clear hb)
      all_goals
        clear CO HB hr0 hr1
        generalize wrapS (f.kind.toNat : Int) py = t at *
        by_cases hlt2 : i < n1
        · have hlt2' : (i : Int) < (n1 : Int) := by omega
          obtain ⟨b2, off2, rfl, hblt2, hcs⟩ := HS.out (by omega)
          obtain ⟨hcell, hcsz⟩ := hcs i hlt2
          clear hcs
          obtain ⟨c, hc⟩ : ∃ c, ss.getD i ByteArray.empty = c := ⟨_, rfl⟩
          rw [hc] at hcell hcsz
          clear hc
          have hcr : w2.cell? ⟨b2, off2 + i, none⟩ = some (.string c) := (HB2.out.cell (p := ⟨b2, off2 + i, none⟩) hblt2).trans hcell
          clear hcell
          by_cases hbig : 200 < c.size
          · have hbig' : (200 : Int) < (c.size : Int) := by omega
            go_wp2_with fail
            go_ret
            exact ⟨rfl, HB2.out⟩
          · have hbig' : (c.size : Int) ≤ 200 := by omega
            go_wp2_with fail
            go_loopg [10] c.size (fun g kv wi => ∃ k : Nat, k + g = c.size ∧ kv = .int .i64 k ∧ wi = w2 ∧ Hid (∀ x ∈ c.data.toList.take k, x ≠ 165))
            case atStart => exact ⟨0, by omega, rfl, rfl, fun x hx => by simp at hx⟩
            case round =>
              obtain ⟨k, hkg, rfl, rfl, hno⟩ := hrel
              by_cases hk : k < c.size
              · have hk' : (k : Int) < (c.size : Int) := by omega
                by_cases h165 : c[k] = 165
                · have h165' : ((c[k].toNat : Nat) : Int) = 165 := by rw [h165]; rfl
                  clear h165
                  go_wp2_with fail
                  go_ret
                  exact ⟨rfl, HB2.out⟩
                · have h165' : ¬ ((c[k].toNat : Nat) : Int) = 165 := fun e => h165 (UInt8.toNat_inj.1 (by show c[k].toNat = 165; omega))
                  have HN := Lib.hid (no165 hno hk h165)
                  clear h165 hno
                  go_wp2_with fail
                  go_roundg (c.size - (k + 1))
                  case measure => omega
                  case rel => exact ⟨k + 1, by omega, by go_num, rfl, HN⟩
              · obtain rfl : k = c.size := by omega
                have hno2 : ∀ x ∈ c.data.toList, x ≠ 165 := by
                  have := hno.out
                  rwa [List.take_of_length_le (by rw [size_len]; exact Nat.le_refl _)] at this
                have HUN := Lib.hid (HU.out.both (c := c) (t := t) (by have := HFL.out; omega) (by omega) hno2 (by rw [HFF.out]; exact HT.out))
                clear hno hno2
                go_wp2_with fail
                go_roundg (n0 - (i + 1))
                case measure => omega
                case rel => exact ⟨i + 1, al ++ c ++ t, by omega, by go_num, rfl, HUN.out, HB2.out⟩
        · have hlt2' : (n1 : Int) ≤ (i : Int) := by omega
          have HUN := Lib.hid (HU.out.frame (t := t) (by have := HFL.out; omega) (by rw [HFF.out]; exact HT.out))
          go_wp2_with fail
          go_roundg (n0 - (i + 1))
          case measure => omega
          case rel => exact ⟨i + 1, al ++ t, by omega, by go_num, rfl, HUN.out, HB2.out⟩
    · obtain rfl : i = n0 := by omega
      have hrun : run al.data.toList = ⟨fs, [], 0⟩ := by
        have := HU.out.2.all
        rwa [List.take_of_length_le (Nat.le_of_eq HFL.out)] at this
      have HRUN := Lib.hid hrun
      have HR := Lib.hid (HFR.out.below HB.out)
      clear hrun
      go_wp2_with fail
      refine (new_any _).mono ?_; rintro e w2 ⟨rfl, rfl⟩
      go_wp2_with fail
      have S1 := Lib.hid (new_scan wr)
      have HB2 := Lib.hid (HB.out.alloc HB.out.size (.cells #[.string ⟨#[]⟩, .int .i64 0] 59))
      have hW : (wr.alloc (.cells #[.string ⟨#[]⟩, .int .i64 0] 59)).heap.size = wr.heap.size + 1 := by simp
      have hBz := HB.out.size
      generalize (wr.alloc (.cells #[.string ⟨#[]⟩, .int .i64 0] 59)) = W at *
      generalize wr.heap.size = m at *
      have hmW : m < W.heap.size := by omega
      refine (feed_is m ⟨#[]⟩ al 0 W S1.out (by show 0 + al.size ≤ _; omega) (by decide) al.data.toList fs [] 0 rfl HRUN.out).mono ?_
      rintro e wa ⟨A2, c2, s2, rfl, o1, g1, sc1, rest1⟩
      have HSC := Lib.hid sc1
      have hs2 : s2.size = 0 := by rw [← size_len, rest1]; rfl
      have HZ := Lib.hid hs2
      have HF1 := Lib.hid (own_frames o1 (by rw [HFL.out]; omega))
      have HB3 := Lib.hid (HB2.out.grown g1 HB2.out.size (fun j hj => by injection hj with hj; omega))
      have HF2 := Lib.hid (HFR.out.below HB3.out)
      clear o1 g1 sc1 rest1 hs2 HB2 S1
      go_wp2_with fail
      refine (bad_any m s2 _ wa HSC.out).mono ?_; rintro e wx ⟨rfl, rfl⟩
      go_wp2_with fail
      refine (waiting_any m s2 _ wa HSC.out (by rw [HZ.out]; omega)).mono ?_; rintro e wx ⟨rfl, rfl⟩
      rw [HZ.out]
      go_wp2_with fail
      refine (same_any _ _ fs wa HF1.out HF2.out).mono ?_
      rintro e wf ⟨rfl, m1, rfl⟩
      have HBF := Lib.hid (HB3.out.trans ((drewN_below wa m1).mono HB3.out.size))
      go_wp2_with fail
      go_ret
      exact ⟨rfl, HBF.out⟩
end Go.Proofs.Ytdecoenollejiaa
