/- Walk of the law FrameReads: what comes of any bytes, fed in any pieces, is as the document says of all of them. -/
import Derived.Test.YtdecoenollejiaaFrLaws4
import Derived.Test.YtdecoenollejiaaFrRead
set_option linter.unusedVariables false
set_option linter.unusedSimpArgs false
namespace Go.Proofs.Ytdecoenollejiaa
open Go.RowKit CrcMath FrMath

/-- A slice of n texts that came in. -/
def StrsAt (w : World) (A : Option Addr) (n : Nat) (ss : List ByteArray) : Prop :=
  n ≤ 140737488351232 ∧ (0 < n → ∃ b off, A = some ⟨b, off, none⟩ ∧ b < w.heap.size ∧ ∀ j, j < n → w.cell? ⟨b, off + j, none⟩ = some (.string (ss.getD j ByteArray.empty)) ∧ (ss.getD j ByteArray.empty).size ≤ 140737488351232)

theorem Told.mono {w wr w2 : World} {base g : Nat} {l : List UInt8} {v : Value} (h : Told w wr base g l v) (hb : Below wr.heap.size wr w2) : Told w w2 base g l v := by
  obtain ⟨s, h1, h2, h3, h4, h5⟩ := h
  exact ⟨s, (grown_below h1 hb).2, h2, own_below h3 hb, below_then h4 h4.size hb, Nat.le_trans h5 hb.size⟩

set_option maxHeartbeats 4000000 in
set_option maxRecDepth 100000 in
theorem FrameReads_walk (A0 : Option Addr) (n0 c0 : Nat) (ss : List ByteArray) (w : World) (hA0 : StrsAt w A0 n0 ss) :
    Calls Try.prog 10 #[.slice A0 n0 c0] w fun e w' => e = .returned (.bool true) ∧ Below w.heap.size w w' := by
  obtain ⟨i0, hi, hx⟩ := Option.map_eq_some_iff.1 info52
  simp only [Prod.mk.injEq] at hx
  obtain ⟨hz0, hz1, hz2⟩ := hx
  have HI : Hid (Try.prog.info? 52 = some i0 ∧ i0.zero = some (.agg #[.int .u8 0, .string ⟨#[]⟩]) ∧ i0.size = 2 ∧ i0.bytes = 24) := ⟨hi, hz0, hz1, hz2⟩
  clear hi hz0 hz1 hz2
  obtain ⟨hn0, hA0⟩ := hA0
  have HA := Lib.hid hA0
  clear hA0
  go_enter Try.func10, Try.ntmps10
  go_wp2_with fail
  refine (awake11_any _).mono ?_; rintro e wp ⟨rfl, hb1⟩
  have HB0 := Lib.hid hb1; clear hb1
  go_wp2_with fail
  refine (new_any _).mono ?_; rintro e w2 ⟨rfl, rfl⟩
  go_wp2_with fail
  have S1 := Lib.hid (new_scan wp)
  have HB2 := Lib.hid (HB0.out.alloc HB0.out.size (.cells #[.string ⟨#[]⟩, .int .i64 0] 59))
  have hW : (wp.alloc (.cells #[.string ⟨#[]⟩, .int .i64 0] 59)).heap.size = wp.heap.size + 1 := by simp
  have hBz := HB0.out.size
  clear HB0
  generalize (wp.alloc (.cells #[.string ⟨#[]⟩, .int .i64 0] 59)) = W at *
  generalize wp.heap.size = m at *
  have hWm : m < W.heap.size := by omega
  clear hW
  go_loopg [5, 6, 7] (n0 + 1) (fun g av tv iv wr => ∃ (i : Nat) (al : ByteArray), i + g = n0 + 1 ∧ i ≤ n0 ∧ iv = .int .i64 i ∧ av = .string al ∧ al.size ≤ 4000 ∧ Told w wr W.heap.size m al.data.toList tv)
  case atStart =>
    refine ⟨0, ⟨#[]⟩, by omega, by omega, rfl, rfl, by decide, ⟨#[]⟩, ?_, ?_, ?_, HB2.out, Nat.le_refl _⟩
    · rw [nil_string, run_nil]; exact S1.out
    · rw [nil_string, run_nil]
    · rw [nil_string, run_nil]; exact ⟨by simp [rowF], .inl ⟨rfl, rfl⟩⟩
  case round =>
    clear S1 HB2
    obtain ⟨i, al, hig, hin, rfl, rfl, hal, hT⟩ := hrel
    by_cases hlt : i < n0
    · have hlt' : (i : Int) < (n0 : Int) := by omega
      by_cases h100 : i < 100
      · have h100' : (i : Int) < 100 := by omega
        obtain ⟨b, off, rfl, hblt, hcs⟩ := HA.out (by omega)
        obtain ⟨hcell, hcsz⟩ := hcs i hlt
        clear hcs
        obtain ⟨c, hc⟩ : ∃ c, ss.getD i ByteArray.empty = c := ⟨_, rfl⟩
        rw [hc] at hcell hcsz
        clear hc
        have hTB : Below w.heap.size w wr := by obtain ⟨_, _, _, _, h, _⟩ := hT; exact h
        have hcr : wr.cell? ⟨b, off + i, none⟩ = some (.string c) := (hTB.cell (p := ⟨b, off + i, none⟩) hblt).trans hcell
        have HCB := Lib.hid hcell
        clear hcell
        by_cases hbig : 4000 < al.size + c.size
        · have hbig' : (4000 : Int) < (al.size : Int) + (c.size : Int) := by omega
          have HF := Lib.hid hTB
          clear hTB hT
          go_wp2_with fail
          go_ret
          exact ⟨rfl, HF.out⟩
        · have hbig' : (al.size : Int) + (c.size : Int) ≤ 4000 := by omega
          have HT := Lib.hid hT
          obtain ⟨sx, hsx, hrx, hox, hbx, hzx⟩ := HT.out
          clear hT hTB
          have hl1 := run_size al.data.toList
          have hl2 := run_size ((run al.data.toList).rest ++ c.data.toList)
          rw [size_len] at hl1
          rw [List.length_append, size_len] at hl2
          have hsxl : sx.size ≤ 4000 := by rw [← size_len, hrx]; omega
          have hpc := run_piece al.data.toList c.data.toList
          obtain ⟨r1, hr1⟩ : ∃ r, run al.data.toList = r := ⟨_, rfl⟩
          obtain ⟨r2, hr2⟩ : ∃ r, run ((run al.data.toList).rest ++ c.data.toList) = r := ⟨_, rfl⟩
          rw [hr1] at hr2 hl2
          rw [hr1, hr2] at hpc
          rw [hr2] at hl2
          rw [hr1] at hl1 hrx hsx hox
          have HPC := Lib.hid hpc
          clear hpc
          have hbl : 0 ≤ ((r1.bad : Nat) : Int) ∧ ((r1.bad : Nat) : Int) ≤ 2305843009213693952 := by omega
          go_wp2_with fail
          refine (feed_is m sx c _ wr hsx (by omega) hbl (r1.rest ++ c.data.toList) r2.told r2.rest r2.bad (by rw [hrx]) (by rw [hr2])).mono ?_
          rintro e w2 ⟨A3, c3, s3, rfl, o3, g3, sc3, rest3⟩
          have HT2 := Lib.hid (own_fed hox g3 (by omega))
          have HO3 := Lib.hid o3
          have HB3 := Lib.hid (hbx.grown g3 hbx.size (fun j hj => by injection hj with hj; omega))
          have hz3 := g3.size
          have HSC := Lib.hid sc3; have HR3 := Lib.hid rest3
          have H63 : r1.told.length + r2.told.length ≤ maxLen := by unfold maxLen; omega
          have HBY : (r1.told.length + r2.told.length) * 24 ≤ 140737488355328 := by omega
          have HSZ2 : Hid (r2.rest.length ≤ 4000 ∧ r1.told.length + r2.told.length ≤ 8000 ∧ r1.bad + r2.bad ≤ 8000) := ⟨by omega, by omega, by omega⟩
          clear hl1 hl2 hr1 hr2 hrx hsx hox hbx hsxl hbl HT sc3 rest3 g3 o3 hcr
          obtain ⟨hi', hz0, hz1, hz2⟩ := HI.out
          have HBS : W.heap.size ≤ w2.heap.size := by omega
          have HAL : Hid ((al ++ c).size ≤ 4000) := by show _ ≤ _; rw [ByteArray.size_append]; omega
          have hdat : (al ++ c).data.toList = al.data.toList ++ c.data.toList := by rw [ByteArray.data_append, Array.toList_append]
          rcases HO3.out.2 with ⟨hv, h0⟩ | ⟨g, cap, cur, hv, hgb, hgh, hnc, hcm, hcs, htk⟩
          · injection hv with hA hL hC
            subst hA; subst hC
            have H0 := Lib.hid h0
            rw [h0]
            have HX : Hid (Told w w2 W.heap.size m (al ++ c).data.toList u6) := by
              refine ⟨s3, ?_, ?_, ?_, HB3.out, HBS⟩
              · rw [hdat, HPC.out, show ((((⟨r1.told ++ r2.told, r2.rest, r1.bad + r2.bad⟩ : Res).bad : Nat)) : Int) = (r1.bad : Int) + (r2.bad : Int) from by simp]
                exact HSC.out
              · rw [hdat, HPC.out]; exact HR3.out
              · rw [hdat, HPC.out]
                have e : r2.told = [] := List.length_eq_zero_iff.1 H0.out
                simp only [e, List.append_nil]
                exact HT2.out
            have HRL : Hid ((run (al ++ c).data.toList).rest.length ≤ 4000 ∧ (run (al ++ c).data.toList).told.length ≤ 8000) := by
              rw [hdat, HPC.out]
              exact ⟨HSZ2.out.1, by have := HSZ2.out.2.1; simp; omega⟩
            clear h0 hdat HSZ2
            go_wp2_with (at_builtin; refine wpList_append_own_none rfl (.tmp 37) (.tmp 43) 43 rfl W.heap.size 52 i0 2 Try.underlying43 hi' _ r1.told.length _ rfl HT2.out rfl ?_; clear HT2 HO3 HB3 HSC HR3 H0)
            refine (read_any _ _ (by have := HAL.out; omega)).mono ?_
            rintro e wk ⟨vr, rfl, hor, hbr⟩
            have HX2 := Lib.hid (HX.out.mono hbr)
            have HOR := Lib.hid hor
            clear hor hbr HX
            obtain ⟨r, hr⟩ : ∃ r, run (al ++ c).data.toList = r := ⟨_, rfl⟩
            have HR := Lib.hid hr
            rw [hr]
            clear hr
            go_wp2_with fail
            obtain ⟨sy, hsy, hry, hoy, hby, hzy⟩ := HX2.out
            rw [HR.out] at hsy hry hoy
            have HSY := Lib.hid hsy
            have hsyz : sy.size = r.rest.length := by rw [← size_len, hry]
            have HSYZ := Lib.hid hsyz
            have HF1 := Lib.hid (own_frames hoy (by have := HRL.out.2; rw [HR.out] at this; omega))
            have HF2 : Hid (FrRow wk vr r.told) := by
              have h := HOR.out
              rw [HR.out] at h
              exact own_frames h (by have := HRL.out.2; rw [HR.out] at this; omega)
            have HBY2 := Lib.hid hby
            have hrl : r.rest.length ≤ 4000 := by have := HRL.out.1; rw [HR.out] at this; exact this
            clear hsy hry hoy hby hsyz
            refine (bad_any m sy _ wk HSY.out).mono ?_; rintro e wx ⟨rfl, rfl⟩
            go_wp2_with fail
            refine (waiting_any m sy _ wk HSY.out (by rw [HSYZ.out]; omega)).mono ?_; rintro e wx ⟨rfl, rfl⟩
            rw [HSYZ.out]
            go_wp2_with fail
            refine (same_any _ _ r.told wk HF1.out HF2.out).mono ?_
            rintro e wf ⟨rfl, m1, rfl⟩
            have HX3 := Lib.hid (HX2.out.mono (drewN_below wk m1))
            generalize World.drewN wk m1 = wz at *
            clear HX2 HF1 HF2 HOR HSY HSYZ HBY2
            go_wp2_with fail
            go_roundg (n0 - i)
            case measure => omega
            case rel => exact ⟨i + 1, al ++ c, by omega, by omega, by go_num, rfl, HAL.out, HX3.out⟩
          · injection hv with hA hL hC
            subst hA; subst hC
            have HNEWS : ∀ k u, (rowF r2.told)[k]? = some u → w2.cell? ((⟨g, 0, none⟩ : Addr).add k) = some u := fun k u hu => HO3.out.cells (g := g) rfl k u hu
            have HONE : ∀ v ∈ rowF r2.told, v.oneCell' = true := rowF_one r2.told
            have HLN : (rowF r2.told).length = r2.told.length * 2 := HO3.out.1
            have HRL : Hid ((run (al ++ c).data.toList).rest.length ≤ 4000 ∧ (run (al ++ c).data.toList).told.length ≤ 8000) := by
              rw [hdat, HPC.out]
              exact ⟨HSZ2.out.1, by have := HSZ2.out.2.1; simp; omega⟩
            have HPD : Hid (run (al ++ c).data.toList = ⟨r1.told ++ r2.told, r2.rest, r1.bad + r2.bad⟩) := by show _ = _; rw [hdat, HPC.out]
            clear hdat HSZ2
            go_wp2_with (at_builtin; refine wpList_append_own _ rfl (.tmp 37) (.tmp 43) 43 rfl W.heap.size 52 i0 _ 2 24 Try.underlying43 hi' hz0 hz1 hz2 rfl (by decide) _ r1.told.length _ rfl HT2.out ⟨g, 0, none⟩ r2.told.length _ (rowF r2.told) rfl HLN HNEWS HONE H63 HBY HBS ?_; intro v' wn hown1 hgrow1 hnil1; clear hnil1; have Y := Lib.hid (And.intro hown1 hgrow1); clear hown1 hgrow1; clear HNEWS HONE HLN)
            obtain ⟨hown1, hgrow1⟩ := Y.out
            have HX : Hid (Told w wn W.heap.size m (al ++ c).data.toList v') := by
              refine ⟨s3, ?_, ?_, ?_, HB3.out.grown hgrow1 HB3.out.size (fun j hj => by have := own_base HT2.out j hj; omega), by have := hgrow1.size; omega⟩
              · rw [HPD.out, show ((((⟨r1.told ++ r2.told, r2.rest, r1.bad + r2.bad⟩ : Res).bad : Nat)) : Int) = (r1.bad : Int) + (r2.bad : Int) from by simp]
                exact HSC.out.kept hgrow1 (fun e => by have := own_base HT2.out _ e.symm; omega)
              · rw [HPD.out]; exact HR3.out
              · rw [HPD.out]
                simp only [List.length_append]
                have e : rowF (r1.told ++ r2.told) = rowF r1.told ++ rowF r2.told := by unfold rowF; rw [List.flatMap_append]
                rw [e]
                exact hown1
            clear HT2 HO3 HB3 HSC HR3 hown1 hgrow1 Y
            refine (read_any _ _ (by have := HAL.out; omega)).mono ?_
            rintro e wk ⟨vr, rfl, hor, hbr⟩
            have HX2 := Lib.hid (HX.out.mono hbr)
            have HOR := Lib.hid hor
            clear hor hbr HX
            obtain ⟨r, hr⟩ : ∃ r, run (al ++ c).data.toList = r := ⟨_, rfl⟩
            have HR := Lib.hid hr
            rw [hr]
            clear hr
            go_wp2_with fail
            obtain ⟨sy, hsy, hry, hoy, hby, hzy⟩ := HX2.out
            rw [HR.out] at hsy hry hoy
            have HSY := Lib.hid hsy
            have hsyz : sy.size = r.rest.length := by rw [← size_len, hry]
            have HSYZ := Lib.hid hsyz
            have HF1 := Lib.hid (own_frames hoy (by have := HRL.out.2; rw [HR.out] at this; omega))
            have HF2 : Hid (FrRow wk vr r.told) := by
              have h := HOR.out
              rw [HR.out] at h
              exact own_frames h (by have := HRL.out.2; rw [HR.out] at this; omega)
            have HBY2 := Lib.hid hby
            have hrl : r.rest.length ≤ 4000 := by have := HRL.out.1; rw [HR.out] at this; exact this
            clear hsy hry hoy hby hsyz
            refine (bad_any m sy _ wk HSY.out).mono ?_; rintro e wx ⟨rfl, rfl⟩
            go_wp2_with fail
            refine (waiting_any m sy _ wk HSY.out (by rw [HSYZ.out]; omega)).mono ?_; rintro e wx ⟨rfl, rfl⟩
            rw [HSYZ.out]
            go_wp2_with fail
            refine (same_any _ _ r.told wk HF1.out HF2.out).mono ?_
            rintro e wf ⟨rfl, m1, rfl⟩
            have HX3 := Lib.hid (HX2.out.mono (drewN_below wk m1))
            generalize World.drewN wk m1 = wz at *
            clear HX2 HF1 HF2 HOR HSY HSYZ HBY2
            go_wp2_with fail
            go_roundg (n0 - i)
            case measure => omega
            case rel => exact ⟨i + 1, al ++ c, by omega, by omega, by go_num, rfl, HAL.out, HX3.out⟩
      · have h100' : (100 : Int) ≤ (i : Int) := by omega
        have HF : Hid (Below w.heap.size w wr) := by obtain ⟨_, _, _, _, h, _⟩ := hT; exact h
        clear hT
        go_wp2_with fail
        go_ret
        exact ⟨rfl, HF.out⟩
    · have hlt' : (n0 : Int) ≤ (i : Int) := by omega
      have HF : Hid (Below w.heap.size w wr) := by obtain ⟨_, _, _, _, h, _⟩ := hT; exact h
      clear hT
      go_wp2_with fail
      go_ret
      exact ⟨rfl, HF.out⟩
end Go.Proofs.Ytdecoenollejiaa
