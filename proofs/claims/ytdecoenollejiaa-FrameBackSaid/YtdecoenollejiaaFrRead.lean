/- gimbalref11.Read: it tells what FrMath.run says of all bytes. -/
import Derived.Test.YtdecoenollejiaaFrLaws1
import Derived.Test.YtdecoenollejiaaFrPure3
import Derived.Test.YtdecoenollejiaaCrcR
import Derived.Deep.RegionLaw
set_option linter.unusedVariables false
set_option linter.unusedSimpArgs false
namespace Go.Proofs.Ytdecoenollejiaa
open Go.RowKit CrcMath FrMath

/-- What holds ahead of each round of Read: behind the first i bytes. -/
def ReadAt (w wr : World) (s : ByteArray) (v : Value) (bd : Int) (i : Nat) : Prop :=
  ∃ (fs : List Fr) (d : Nat), bd = (d : Int) ∧ wr.ownsRow w.heap.size 52 2 v fs.length (rowF fs) ∧ Below w.heap.size w wr ∧ fs.length ≤ i ∧ d ≤ i ∧
    run s.data.toList = ⟨fs ++ (run (s.data.toList.drop i)).told, (run (s.data.toList.drop i)).rest, d + (run (s.data.toList.drop i)).bad⟩

/-- What Read tells. -/
def ReadOf (w : World) (l : List UInt8) (e : Ending) (w' : World) : Prop :=
  ∃ v, e = .returned (.tuple #[v, .int .i64 ((run l).bad : Nat), .int .i64 ((run l).rest.length : Nat)]) ∧ w'.ownsRow w.heap.size 52 2 v (run l).told.length (rowF (run l).told) ∧ Below w.heap.size w w'

theorem drop_at (s : ByteArray) (i : Nat) (h : i < s.size) : s.data.toList.drop i = s[i] :: s.data.toList.drop (i + 1) := by
  rw [List.drop_eq_getElem_cons (by rw [size_len]; exact h)]
  rfl

theorem st_ne165 (s : ByteArray) (i : Nat) (h : i < s.size) (h1 : s[i] ≠ 165) : stepL (s.data.toList.drop i) = .skip := by
  rw [drop_at s i h]
  unfold stepL
  rw [if_neg (by simp [h1]), if_pos (by cases s.data.toList.drop (i + 1) <;> simp [h1])]
theorem st_last (s : ByteArray) (i : Nat) (h : i < s.size) (h1 : s[i] = 165) (hl : i + 1 = s.size) : stepL (s.data.toList.drop i) = .stop := by
  rw [drop_at s i h, List.drop_eq_nil_of_le (by rw [size_len]; omega), h1]
  simp [stepL]
theorem st_ne90 (s : ByteArray) (i : Nat) (h : i + 1 < s.size) (h1 : s[i] = 165) (h2 : s[i + 1] ≠ 90) : stepL (s.data.toList.drop i) = .skip := by
  rw [drop_at s i (by omega), drop_at s (i + 1) h]
  unfold stepL
  rw [if_neg (by simp), if_pos (by simp [h2])]
theorem st_few (s : ByteArray) (i : Nat) (h : i + 1 < s.size) (h1 : s[i] = 165) (h2 : s[i + 1] = 90) (hl : s.size ≤ i + 3) : stepL (s.data.toList.drop i) = .stop := by
  have hlen : (s.data.toList.drop i).length < 4 := by rw [List.length_drop, size_len]; omega
  rw [drop_at s i (by omega), drop_at s (i + 1) h, h1, h2] at *
  unfold stepL
  rw [if_neg (by simp), if_neg (by simp), if_pos hlen]
theorem st_begin (s : ByteArray) (i : Nat) (h : i + 3 < s.size) (h1 : s[i] = 165) (h2 : s[i + 1] = 90) :
    stepL (s.data.toList.drop i) = if 64 < s[i + 3].toNat then .bad else if s.size < i + (6 + s[i + 3].toNat) then .stop else if rightS (s.extract (i + 2) (i + 6 + s[i + 3].toNat)) = true then .told else .bad := by
  have e := drop_at s i (by omega)
  rw [drop_at s (i + 1) (by omega), drop_at s (i + 1 + 1) (by omega), drop_at s (i + 1 + 1 + 1) (by omega)] at e
  have hcnt : cnt (s.data.toList.drop i) = s[i + 3].toNat := by
    rw [e]; rfl
  have hlen : (s.data.toList.drop i).length = s.size - i := by rw [List.length_drop, size_len]
  have hr : rightS (s.extract (i + 2) (i + 6 + s[i + 3].toNat)) = rightL (((s.data.toList.drop i).drop 2).take (4 + cnt (s.data.toList.drop i))) := by
    rw [right_list, hcnt, List.drop_drop]
    congr 2
    omega
  rw [hr]
  unfold stepL
  rw [hcnt]
  rw [if_neg (by rw [e, h1]; simp), if_neg (by rw [e, h1, h2]; simp), if_neg (by rw [hlen]; omega)]
  by_cases h64 : 64 < s[i + 3].toNat
  · rw [if_pos h64, if_pos h64]
  · rw [if_neg h64, if_neg h64]
    by_cases hw : s.size < i + (6 + s[i + 3].toNat)
    · rw [if_pos hw, if_pos (by rw [hlen]; omega)]
    · rw [if_neg hw, if_neg (by rw [hlen]; omega)]

theorem ReadAt.mono {w wr w2 : World} {s : ByteArray} {v : Value} {bd : Int} {i : Nat} (h : ReadAt w wr s v bd i) (hb : Below wr.heap.size wr w2) : ReadAt w w2 s v bd i := by
  obtain ⟨fs, d, h1, h2, h3, h4, h5, h6⟩ := h
  exact ⟨fs, d, h1, own_below h2 hb, below_then h3 h3.size hb, h4, h5, h6⟩
theorem ReadAt.skip {w wr : World} {s : ByteArray} {v : Value} {bd : Int} {i : Nat} (h : ReadAt w wr s v bd i) (hs : stepL (s.data.toList.drop i) = .skip) : ReadAt w wr s v bd (i + 1) := by
  obtain ⟨fs, d, h1, h2, h3, h4, h5, h6⟩ := h
  refine ⟨fs, d, h1, h2, h3, by omega, by omega, ?_⟩
  rw [h6, run_skip hs, List.drop_drop]
theorem ReadAt.bad {w wr : World} {s : ByteArray} {v : Value} {bd : Int} {i : Nat} (h : ReadAt w wr s v bd i) (hs : stepL (s.data.toList.drop i) = .bad) : ReadAt w wr s v (bd + 1) (i + 2) := by
  obtain ⟨fs, d, h1, h2, h3, h4, h5, h6⟩ := h
  refine ⟨fs, d + 1, by rw [h1]; rfl, h2, h3, by omega, by omega, ?_⟩
  rw [h6, run_bad hs, List.drop_drop]
  simp only [Res.mk.injEq, true_and]
  omega
theorem ReadAt.told3 {w wn : World} {s : ByteArray} {v' : Value} {bd : Int} {i d : Nat} {fs : List Fr} (h1 : bd = (d : Int)) (h4 : fs.length ≤ i) (h5 : d ≤ i) (h6 : run s.data.toList = ⟨fs ++ (run (s.data.toList.drop i)).told, (run (s.data.toList.drop i)).rest, d + (run (s.data.toList.drop i)).bad⟩) (hs : stepL (s.data.toList.drop i) = .told) (k : UInt8) (p : ByteArray) (hf : frameL (s.data.toList.drop i) = ⟨k, p.data.toList⟩) (hn : wn.ownsRow w.heap.size 52 2 v' (fs.length + 1) (rowF fs ++ [.int .u8 (k.toNat : Int), .string p])) (hb : Below w.heap.size w wn) (c : Nat) (hc : cnt (s.data.toList.drop i) = c) : ReadAt w wn s v' bd (i + (6 + c)) := by
  rw [rowF_snoc] at hn
  refine ⟨fs ++ [⟨k, p.data.toList⟩], d, h1, by simpa using hn, hb, by simp; omega, by omega, ?_⟩
  rw [h6, run_told hs, hf, hc, List.drop_drop]
  simp
theorem frame_at (s : ByteArray) (i : Nat) (h : i + 3 < s.size) (c2 : UInt8) (h2 : s[i + 2] = c2) (c3 : UInt8) (h3 : s[i + 3] = c3) (hw : i + (6 + c3.toNat) ≤ s.size) : frameL (s.data.toList.drop i) = ⟨c2, (s.extract (i + 4) (i + 4 + c3.toNat)).data.toList⟩ ∧ cnt (s.data.toList.drop i) = c3.toNat := by
  have e := drop_at s i (by omega)
  rw [drop_at s (i + 1) (by omega), drop_at s (i + 1 + 1) (by omega), drop_at s (i + 1 + 1 + 1) (by omega)] at e
  have hcnt : cnt (s.data.toList.drop i) = c3.toNat := by
    rw [e, ← h3]; rfl
  refine ⟨?_, hcnt⟩
  unfold frameL
  rw [hcnt, List.drop_drop, Lib.extract_data, show i + 4 + c3.toNat - (i + 4) = c3.toNat by omega]
  congr 1
  rw [e, ← h2]
  rfl
theorem ReadAt.stop {w wr : World} {s : ByteArray} {v : Value} {bd : Int} {i : Nat} (h : ReadAt w wr s v bd i) (hi : i ≤ s.size) (hs : stepL (s.data.toList.drop i) = .stop) : ReadOf w s.data.toList (.returned (.tuple #[v, .int .i64 bd, .int .i64 ((s.size : Int) - (i : Int))])) wr := by
  obtain ⟨fs, d, h1, h2, h3, h4, h5, h6⟩ := h
  rw [run_stop hs] at h6
  refine ⟨v, ?_, by rw [h6]; simpa using h2, h3⟩
  have e : ((s.size : Int) - (i : Int)) = (((s.data.toList.drop i).length : Nat) : Int) := by rw [List.length_drop, size_len]; omega
  rw [h6, h1, e]
  simp

set_option maxHeartbeats 4000000 in
set_option maxRecDepth 100000 in
theorem read_any (s : ByteArray) (w : World) (hs : s.size ≤ 1099511627776) :
    Calls Try.prog 29 #[.string s] w (ReadOf w s.data.toList) := by
  obtain ⟨i0, hi, hx⟩ := Option.map_eq_some_iff.1 info52
  simp only [Prod.mk.injEq] at hx
  obtain ⟨hz0, hz1, hz2⟩ := hx
  have HI : Hid (Try.prog.info? 52 = some i0 ∧ i0.zero = some (.agg #[.int .u8 0, .string ⟨#[]⟩]) ∧ i0.size = 2 ∧ i0.bytes = 24) := ⟨hi, hz0, hz1, hz2⟩
  clear hi hz0 hz1 hz2
  go_enter Try.func29, Try.ntmps29
  go_wp2_with fail
  go_loopg [5, 6, 7] s.size (fun g v bv iv wr => ∃ (i : Nat) (bd : Int), i + g = s.size ∧ bv = .int .i64 bd ∧ iv = .int .i64 i ∧ ReadAt w wr s v bd i)
  case atStart => exact ⟨0, 0, by omega, rfl, rfl, [], 0, rfl, ⟨by simp [rowF], .inl ⟨rfl, rfl⟩⟩, Below.refl _ _, by simp, by simp, by simp⟩
  case round =>
    obtain ⟨i, bd, hig, rfl, rfl, hR⟩ := hrel
    have hdb : -1099511627776 ≤ bd ∧ bd ≤ 1099511627776 := by obtain ⟨fs, d, h1, _, _, _, h5, _⟩ := hR; omega
    by_cases hlt : i < s.size
    · have hlt' : (i : Int) < (s.size : Int) := by omega
      obtain ⟨c0, hc0⟩ : ∃ c, s[i] = c := ⟨_, rfl⟩
      by_cases h165 : c0 = 165
      · have t0 : ((c0.toNat : Int) != 165) = false := by rw [h165]; rfl
        by_cases hl1 : i + 1 = s.size
        · have t1 : ((i : Int) + 1 == (s.size : Int)) = true := by simp; omega
          have HF := Lib.hid (hR.stop (by omega) (st_last s i hlt (hc0.trans h165) hl1))
          clear hR h165 hl1
          go_wp2_with fail

          go_ret3
          exact HF.out
        · have t1 : ((i : Int) + 1 == (s.size : Int)) = false := by simp; omega
          have hi1 : i + 1 < s.size := by omega
          have hi1' : (i : Int) + 1 < (s.size : Int) := by omega
          obtain ⟨c1, hc1⟩ : ∃ c, s[i + 1] = c := ⟨_, rfl⟩
          by_cases h90 : c1 = 90
          · have t2 : ((c1.toNat : Int) != 90) = false := by rw [h90]; rfl
            have h165' : s[i] = 165 := hc0.trans h165
            have h90' : s[i + 1] = 90 := hc1.trans h90
            have H165 := Lib.hid h165'
            have H90 := Lib.hid h90'
            clear h165' h90' h165 h90
            by_cases hl3 : s.size ≤ i + 3
            · have t3 : decide ((s.size : Int) ≤ (i : Int) + 3) = true := by simp; omega
              have HF := Lib.hid (hR.stop (by omega) (st_few s i hi1 H165.out H90.out hl3))
              clear hR
              go_wp2_with fail
              go_ret3
              exact HF.out
            · have hi3 : i + 3 < s.size := by omega
              have hi3' : (i : Int) + 3 < (s.size : Int) := by omega
              have hi2' : (i : Int) + 2 < (s.size : Int) := by omega
              have hi2 : i + 2 < s.size := by omega
              obtain ⟨c3, hc3⟩ : ∃ c, s[i + 3] = c := ⟨_, rfl⟩
              have hc255 := c3.toNat_lt
              have hst := st_begin s i hi3 H165.out H90.out
              rw [hc3] at hst
              by_cases h64 : 64 < c3.toNat
              · have h64' : (64 : Int) < (c3.toNat : Int) := by omega
                rw [if_pos h64] at hst
                have HN := Lib.hid (hR.bad hst)
                clear hR hst
                go_wp2_with fail
                go_roundg (s.size - (i + 2))
                case measure => omega
                case rel => exact ⟨i + 2, bd + 1, by omega, rfl, by go_num, HN.out⟩
              · have h64' : ¬ (64 : Int) < (c3.toNat : Int) := by omega
                rw [if_neg h64] at hst
                by_cases hw : s.size < i + (6 + c3.toNat)
                · have hw' : (s.size : Int) < (i : Int) + 6 + (c3.toNat : Int) := by omega
                  rw [if_pos hw] at hst
                  have HF := Lib.hid (hR.stop (by omega) hst)
                  clear hR hst
                  go_wp2_with fail

                  go_ret3
                  exact HF.out
                · have hw' : (i : Int) + 6 + (c3.toNat : Int) ≤ (s.size : Int) := by omega
                  rw [if_neg hw] at hst
                  have HX : Hid ((s.extract (i + 2) (i + 6 + c3.toNat)).size ≤ 281474976710656) := by show _ ≤ _; rw [ByteArray.size_extract]; omega
                  by_cases hr : rightS (s.extract (i + 2) (i + 6 + c3.toNat)) = true
                  · rw [if_pos hr] at hst
                    have HST := Lib.hid hst; have HRT := Lib.hid hr; have HRD := Lib.hid hR
                    clear hst hr hR
                    go_wp2_with fail
                    refine (refright_any _ _ HX.out).mono ?_; rintro e w2 ⟨rfl, hb⟩
                    rw [HRT.out]
                    have HBB := Lib.hid hb
                    clear hb
                    go_wp2_with fail
                    have HM := Lib.hid (HRD.out.mono HBB.out)
                    clear HRD HBB
                    obtain ⟨c2, hc2⟩ : ∃ c, s[i + 2] = c := ⟨_, rfl⟩
                    have hfr := frame_at s i hi3 c2 hc2 c3 hc3 (by omega)
                    have HFR := Lib.hid hfr
                    clear hfr
                    obtain ⟨fs, d, e1, own, bel, l1, l2, rn⟩ := HM.out
                    have HE1 := Lib.hid e1; have HRN := Lib.hid rn
                    clear e1 rn
                    have HO := Lib.hid own; have HBL := Lib.hid bel
                    have hsz2 := bel.size
                    clear own bel
                    obtain ⟨hi, hz0, hz1, hz2⟩ := HI.out
                    have HBS : ∀ o, w.heap.size ≤ (w2.alloc o).heap.size := fun o => by simp; omega
                    have H63 : fs.length + 1 ≤ maxLen := by unfold maxLen; omega
                    have HBY : (fs.length + 1) * 24 ≤ 140737488355328 := by omega
                    have HONE : ∀ v ∈ [Value.int .u8 (c2.toNat : Int), Value.string (s.extract (i + 4) (i + 4 + c3.toNat))], v.oneCell' = true := by intro u hu; simp at hu; rcases hu with rfl | rfl <;> rfl
                    have hi4 : (i : Int) + 4 ≤ (i : Int) + 4 + (c3.toNat : Int) := by omega
                    have hi5 : (i : Int) + 4 + (c3.toNat : Int) ≤ (s.size : Int) := by omega
                    have hi0 : 0 ≤ (i : Int) + 2 := by omega
                    have hi6 : 0 ≤ (i : Int) + 4 := by omega
                    have hT2 : ((i : Int) + 2).toNat = i + 2 := by omega
                    have hT4 : ((i : Int) + 4).toNat = i + 4 := by omega
                    have hT5 : ((i : Int) + 4 + (c3.toNat : Int)).toNat = i + 4 + c3.toNat := by omega
                    have hW2 : IntKind.i64.wrap ((i : Int) + 2) = (i : Int) + 2 := by rw [IntKind.wrap_i64]; omega
                    have hW4 : IntKind.i64.wrap ((i : Int) + 4) = (i : Int) + 4 := by rw [IntKind.wrap_i64]; omega
                    have hW5 : IntKind.i64.wrap ((i : Int) + 4 + (c3.toNat : Int)) = (i : Int) + 4 + (c3.toNat : Int) := by rw [IntKind.wrap_i64]; omega
                    go_region_law (refine step_append_lies _ rfl (.tmp 70) (.tmp 84) 43 rfl w.heap.size 52 i0 _ 2 24 Try.underlying43 hi hz0 hz1 hz2 rfl (by decide) u5 fs.length _ rfl (HO.out.alloc _) ⟨w2.heap.size, 0, none⟩ 1 1 [Value.int .u8 (c2.toNat : Int), Value.string (s.extract (i + 4) (i + 4 + c3.toNat))] rfl rfl (cell_two_new _ _ _ _) HONE (by decide) H63 HBY (HBS _) _ rfl ?_; intro g cap wn hown1 hgrow1 hat1 hlt1)
                    all_goals
                      have hbn := ((HBL.out.alloc HBL.out.size (.cells #[Value.int .u8 (c2.toNat : Int), Value.string (s.extract (i + 4) (i + 4 + c3.toNat))] 52)).drew).grown hgrow1 (HBS _) (fun j hj => own_base HO.out j hj)
                      have HN := Lib.hid (ReadAt.told3 HE1.out l1 l2 HRN.out HST.out c2 _ HFR.out.1 hown1 hbn c3.toNat HFR.out.2)
                      clear hT2 hT4 hT5 hW2 hW4 hW5
                      clear hown1 hgrow1 hat1 hlt1 hbn HO HM HBL HBS H63 HBY HONE hi hz0 hz1 hz2
                      go_wp2_with fail
                      go_roundg (s.size - (i + (6 + c3.toNat)))
                      case measure => omega
                      case rel => exact ⟨i + (6 + c3.toNat), bd, by omega, rfl, by rw [show ((i + (6 + c3.toNat) : Nat) : Int) = (i : Int) + 6 + (c3.toNat : Int) by omega], HN.out⟩
                  · rw [if_neg hr] at hst
                    have hr' : rightS (s.extract (i + 2) (i + 6 + c3.toNat)) = false := by simpa using hr
                    have HRT := Lib.hid hr'
                    have HN := Lib.hid (hR.bad hst)
                    clear hst hr hr' hR
                    go_wp2_with fail
                    refine (refright_any _ _ HX.out).mono ?_; rintro e w2 ⟨rfl, hb⟩
                    rw [HRT.out]
                    have HM := Lib.hid (HN.out.mono hb)
                    clear hb HN
                    go_wp2_with fail
                    go_roundg (s.size - (i + 2))
                    case measure => omega
                    case rel => exact ⟨i + 2, bd + 1, by omega, rfl, by go_num, HM.out⟩
          · have t2 : ((c1.toNat : Int) != 90) = true := by simp; intro e; exact h90 (UInt8.toNat_inj.1 (by simpa using (by omega : c1.toNat = 90)))
            have HN := Lib.hid (hR.skip (st_ne90 s i hi1 (hc0.trans h165) (by rw [hc1]; exact h90)))
            clear hR h165 h90
            go_wp2_with fail
            go_roundg (s.size - (i + 1))
            case measure => omega
            case rel => exact ⟨i + 1, bd, by omega, rfl, by go_num, HN.out⟩
      · have t0 : ((c0.toNat : Int) != 165) = true := by simp; intro e; exact h165 (UInt8.toNat_inj.1 (by simpa using (by omega : c0.toNat = 165)))
        have HN := Lib.hid (hR.skip (st_ne165 s i hlt (by rw [hc0]; exact h165)))
        clear hR h165
        go_wp2_with fail
        go_roundg (s.size - (i + 1))
        case measure => omega
        case rel => exact ⟨i + 1, bd, by omega, rfl, by go_num, HN.out⟩
    · obtain rfl : i = s.size := by omega
      have hF := hR.stop (by omega) (by rw [List.drop_eq_nil_of_le (by rw [size_len]; exact Nat.le_refl _)]; exact stepL_nil)
      rw [Int.sub_self] at hF
      have HF := Lib.hid hF
      clear hR hF
      go_wp2_with fail
      go_ret3
      exact HF.out
end Go.Proofs.Ytdecoenollejiaa
