/- Walk of the law FrameChunks: byte by byte, in pieces, or at once the same frames are told. -/
import Derived.Test.YtdecoenollejiaaFrLaws1
import Derived.Test.YtdecoenollejiaaFrPure3
import Derived.Laws.AppendOwnNone
set_option linter.unusedVariables false
set_option linter.unusedSimpArgs false
namespace Go.Proofs.Ytdecoenollejiaa
open Go.RowKit CrcMath FrMath

theorem min2_both (ats : Array TypeId) (ty : TypeId) (k : IntKind) (a b : Int) : Builtin.min_ ats ty #[.int k a, .int k b] = pure (.int k (min a b)) := by
  have h2 : ∀ x y : Int, Builtin.min2 (.int k x) (.int k y) = pure (.int k (min x y)) := by
    intro x y
    simp only [Builtin.min2]
    by_cases h : y < x
    · rw [if_pos h, show min x y = y by omega]
    · rw [if_neg h, show min x y = x by omega]
  simp only [Builtin.min_, List.foldlM_cons, List.foldlM_nil, h2, pure_bind]
attribute [local go_sem] min2_both

theorem rowF_one (fs : List Fr) : ∀ v ∈ rowF fs, v.oneCell' = true := by
  intro v hv
  unfold rowF at hv
  rw [List.mem_flatMap] at hv
  obtain ⟨f, _, hf⟩ := hv
  unfold encF at hf
  simp at hf
  rcases hf with rfl | rfl <;> rfl

/-- What holds behind the first i bytes, fed to the scan at g: what was told lies in v. -/
def Told (w wr : World) (base g : Nat) (l : List UInt8) (v : Value) : Prop :=
  ∃ (s : ByteArray), ScanAt wr g s ((run l).bad : Nat) ∧ s.data.toList = (run l).rest ∧ wr.ownsRow base 52 2 v (run l).told.length (rowF (run l).told) ∧ Below w.heap.size w wr ∧ base ≤ wr.heap.size

set_option maxHeartbeats 2000000 in
theorem FrameChunks_walk (a0 : ByteArray) (a1 : Int) (w0 : a0.size ≤ 140737488351232) (w1 : (Lit.int .i64 a1).wf = true) (w : World) :
    Calls Try.prog 11 #[.string a0, .int .i64 a1] w fun e w' => e = .returned (.bool true) ∧ Below w.heap.size w w' := by
  obtain ⟨i0, hi, hx⟩ := Option.map_eq_some_iff.1 info52
  simp only [Prod.mk.injEq] at hx
  obtain ⟨hz0, hz1, hz2⟩ := hx
  have HI : Hid (Try.prog.info? 52 = some i0 ∧ i0.zero = some (.agg #[.int .u8 0, .string ⟨#[]⟩]) ∧ i0.size = 2 ∧ i0.bytes = 24) := ⟨hi, hz0, hz1, hz2⟩
  clear hi hz0 hz1 hz2
  have hbd := bounds_i64 w1
  clear w1
  by_cases hn : a1 < 1
  · have d1 : decide (a1 < 1) = true := by simp; omega
    go_enter Try.func11, Try.ntmps11
    go_wp2_with fail
    refine (awake11_any _).mono ?_; rintro e wa ⟨rfl, hb1⟩
    go_wp2_with fail
    go_ret
    exact ⟨rfl, hb1⟩
  have d1 : decide (a1 < 1) = false := by simp; omega
  by_cases hl : 4000 < a0.size
  · have d2 : decide ((4000 : Int) < (a0.size : Int)) = true := by simp; omega
    go_enter Try.func11, Try.ntmps11
    go_wp2_with fail
    refine (awake11_any _).mono ?_; rintro e wa ⟨rfl, hb1⟩
    go_wp2_with fail
    go_ret
    exact ⟨rfl, hb1⟩
  have d2 : decide ((4000 : Int) < (a0.size : Int)) = false := by simp; omega
  have hl' : a0.size ≤ 4000 := by omega
  have HSZ := Lib.hid (size_len a0)
  go_enter Try.func11, Try.ntmps11
  go_wp2_with fail
  refine (awake11_any _).mono ?_; rintro e wp ⟨rfl, hb1⟩
  have HB0 := Lib.hid hb1; clear hb1
  go_wp2_with fail
  refine (new_any _).mono ?_; rintro e w2 ⟨rfl, rfl⟩
  go_wp2_with fail
  refine (new_any _).mono ?_; rintro e w3 ⟨rfl, rfl⟩
  go_wp2_with fail
  have S1 := (new_scan wp).kept (World.grownBy_alloc _ (.cells #[.string ⟨#[]⟩, .int .i64 0] 59) none) (by simp)
  have S2 := new_scan (wp.alloc (.cells #[.string ⟨#[]⟩, .int .i64 0] 59))
  have HB2 := Lib.hid ((HB0.out.alloc HB0.out.size (.cells #[.string ⟨#[]⟩, .int .i64 0] 59)).alloc (by have := HB0.out.size; simp; omega) (.cells #[.string ⟨#[]⟩, .int .i64 0] 59))
  have hW : ((wp.alloc (.cells #[.string ⟨#[]⟩, .int .i64 0] 59)).alloc (.cells #[.string ⟨#[]⟩, .int .i64 0] 59)).heap.size = wp.heap.size + 1 + 1 := by simp
  have hBz := HB0.out.size
  simp only [World.size_alloc] at S2
  clear HB0
  generalize ((wp.alloc (.cells #[.string ⟨#[]⟩, .int .i64 0] 59)).alloc (.cells #[.string ⟨#[]⟩, .int .i64 0] 59)) = W at *
  generalize wp.heap.size = m at *
  have hWm : m + 1 < W.heap.size := by omega
  clear hW
  have S1 := Lib.hid S1; have S2 := Lib.hid S2
  refine (feed_is m ⟨#[]⟩ a0 0 W S1.out (by show 0 + a0.size ≤ _; omega) (by decide) a0.data.toList (run a0.data.toList).told (run a0.data.toList).rest (run a0.data.toList).bad rfl rfl).mono ?_
  rintro e wa ⟨A1, c1, s1, rfl, o1, g1, sc1, rest1⟩
  have O1 := Lib.hid o1; have S1 := Lib.hid sc1; have R1 := Lib.hid rest1
  have S2 := Lib.hid (S2.out.kept g1 (by intro e; injection e with e; omega))
  have HB := Lib.hid (HB2.out.grown g1 HB2.out.size (fun j hj => by injection hj with hj; omega))
  have hza : W.heap.size ≤ wa.heap.size := g1.size
  clear o1 g1 sc1 rest1 HB2
  go_wp2_with fail
  have HLT : Hid (∀ k, (Value.slice A1 (run a0.data.toList).told.length c1).ownBlock = some k → k < wa.heap.size) := fun k hk => own_lt O1.out k hk
  go_loopg [9, 10] a0.size (fun g tv iv wr => ∃ i : Nat, i + g = a0.size ∧ iv = .int .i64 i ∧ Told w wr wa.heap.size (m + 1) (a0.data.toList.take i) tv ∧ ScanAt wr m s1 (0 + ((run a0.data.toList).bad : Nat)) ∧ wr.ownsRow W.heap.size 52 2 (.slice A1 (run a0.data.toList).told.length c1) (run a0.data.toList).told.length (rowF (run a0.data.toList).told))
  case atStart =>
    refine ⟨0, by omega, rfl, ⟨⟨#[]⟩, ?_, ?_, ?_, HB.out, Nat.le_refl _⟩, S1.out, O1.out⟩
    · rw [List.take_zero, run_nil]; exact S2.out
    · rw [List.take_zero, run_nil]
    · rw [List.take_zero, run_nil]; exact ⟨by simp [rowF], .inl ⟨rfl, rfl⟩⟩
  case round =>
    obtain ⟨i, hi, rfl, hT, hS, hO⟩ := hrel
    by_cases hlt : i < a0.size
    · have hlt' : (i : Int) < (a0.size : Int) := by omega
      obtain ⟨j, hj⟩ : ∃ j : Nat, min a1 ((a0.size : Int) - (i : Int)) = (j : Int) := ⟨(min a1 ((a0.size : Int) - (i : Int))).toNat, by omega⟩
      have hj1 : 1 ≤ j := by omega
      have hj2 : i + j ≤ a0.size := by omega
      have hj3 : (i : Int) + (j : Int) ≤ (a0.size : Int) := by omega
      go_wp2_with fail
      have HT := Lib.hid hT; have HS := Lib.hid hS; have HO := Lib.hid hO
      obtain ⟨sx, hsx, hrx, hox, hbx, hzx⟩ := HT.out
      clear hT hS hO
      have hl1 := run_size (a0.data.toList.take i)
      have hl2 := run_size ((run (a0.data.toList.take i)).rest ++ (a0.extract i (i + j)).data.toList)
      rw [List.length_take, size_len] at hl1
      rw [List.length_append, size_len, ByteArray.size_extract] at hl2
      have hsxl : sx.size ≤ 4000 := by rw [← size_len, hrx]; omega
      have hpc := run_piece (a0.data.toList.take i) (a0.extract i (i + j)).data.toList
      have htk : a0.data.toList.take i ++ (a0.extract i (i + j)).data.toList = a0.data.toList.take (i + j) := by
        rw [Lib.extract_data, show i + j - i = j by omega, ← List.take_add]
      rw [htk] at hpc
      obtain ⟨r1, hr1⟩ : ∃ r, run (a0.data.toList.take i) = r := ⟨_, rfl⟩
      obtain ⟨r2, hr2⟩ : ∃ r, run ((run (a0.data.toList.take i)).rest ++ (a0.extract i (i + j)).data.toList) = r := ⟨_, rfl⟩
      rw [hr1] at hr2 hl2
      rw [hr1, hr2] at hpc
      rw [hr2] at hl2
      rw [hr1] at hl1 hrx hsx hox
      have HPC := Lib.hid hpc
      clear hpc
      have hbl : 0 ≤ ((r1.bad : Nat) : Int) ∧ ((r1.bad : Nat) : Int) ≤ 2305843009213693952 := by omega
      refine (feed_is (m + 1) sx (a0.extract i (i + j)) _ wr hsx (by rw [ByteArray.size_extract]; omega) hbl (r1.rest ++ (a0.extract i (i + j)).data.toList) r2.told r2.rest r2.bad (by rw [hrx]) (by rw [hr2])).mono ?_
      rintro e w2 ⟨A3, c3, s3, rfl, o3, g3, sc3, rest3⟩
      have HO2 := Lib.hid (own_fed HO.out g3 (by omega))
      have HT2 := Lib.hid (own_fed hox g3 (by omega))
      have HO3 := Lib.hid o3
      have HSa := Lib.hid (HS.out.kept g3 (by intro e; injection e with e; omega))
      have HB3 := Lib.hid (hbx.grown g3 hbx.size (fun j hj => by injection hj with hj; omega))
      have hz3 := g3.size
      have HSC := Lib.hid sc3; have HR3 := Lib.hid rest3
      have H63 : r1.told.length + r2.told.length ≤ maxLen := by unfold maxLen; omega
      have HBY : (r1.told.length + r2.told.length) * 24 ≤ 140737488355328 := by omega
      clear hl1 hl2 hr1 hr2 hrx hsx hox hbx hsxl htk hbl HT HS HO sc3 rest3 g3 o3
      obtain ⟨hi', hz0, hz1, hz2⟩ := HI.out
      have HBS : wa.heap.size ≤ w2.heap.size := by omega
      -- what is appended: nothing, or a row of the call's own
      rcases HO3.out.2 with ⟨hv, h0⟩ | ⟨g, cap, cur, hv, hgb, hgh, hnc, hcm, hcs, htk⟩
      · injection hv with hA hL hC
        subst hA; subst hC
        have H0 := Lib.hid h0
        rw [h0]
        go_wp2_with (at_builtin; refine wpList_append_own_none rfl (.tmp 47) (.tmp 60) 43 rfl wa.heap.size 52 i0 2 Try.underlying43 hi' _ r1.told.length _ rfl HT2.out rfl ?_)
        have hrow : w2.ownsRow wa.heap.size 52 2 u9 (run (a0.data.toList.take (i + j))).told.length (rowF (run (a0.data.toList.take (i + j))).told) := by
          rw [HPC.out]
          have e : r2.told = [] := List.length_eq_zero_iff.1 H0.out
          simp only [e, List.append_nil]
          exact HT2.out
        have hscan : ScanAt w2 (m + 1) s3 (((run (a0.data.toList.take (i + j))).bad : Nat) : Int) := by
          rw [HPC.out, show ((((⟨r1.told ++ r2.told, r2.rest, r1.bad + r2.bad⟩ : Res).bad : Nat)) : Int) = (r1.bad : Int) + (r2.bad : Int) from by simp]
          exact HSC.out
        have hrest : s3.data.toList = (run (a0.data.toList.take (i + j))).rest := by rw [HPC.out]; exact HR3.out
        have HX : Hid (Told w w2 wa.heap.size (m + 1) (a0.data.toList.take (i + j)) u9) := ⟨s3, hscan, hrest, hrow, HB3.out, HBS⟩
        clear hrow hscan hrest
        go_roundg (a0.size - (i + j))
        case measure => omega
        case rel => exact ⟨i + j, by omega, by rw [Int.natCast_add], HX.out, HSa.out, HO2.out⟩
      · injection hv with hA hL hC
        subst hA; subst hC
        have HNEWS : ∀ k u, (rowF r2.told)[k]? = some u → w2.cell? ((⟨g, 0, none⟩ : Addr).add k) = some u := fun k u hu => HO3.out.cells (g := g) rfl k u hu
        have HONE : ∀ v ∈ rowF r2.told, v.oneCell' = true := rowF_one r2.told
        have HLN : (rowF r2.told).length = r2.told.length * 2 := HO3.out.1
        go_wp2_with (at_builtin; refine wpList_append_own _ rfl (.tmp 47) (.tmp 60) 43 rfl wa.heap.size 52 i0 _ 2 24 Try.underlying43 hi' hz0 hz1 hz2 rfl (by decide) _ r1.told.length _ rfl HT2.out ⟨g, 0, none⟩ r2.told.length _ (rowF r2.told) rfl HLN HNEWS HONE H63 HBY HBS ?_; intro v' wn hown1 hgrow1 hnil1; clear hnil1; have Y := Lib.hid (And.intro hown1 hgrow1); clear hown1 hgrow1)
        obtain ⟨hown1, hgrow1⟩ := Y.out
        have hrow : wn.ownsRow wa.heap.size 52 2 v' (run (a0.data.toList.take (i + j))).told.length (rowF (run (a0.data.toList.take (i + j))).told) := by
          rw [HPC.out]
          simp only [List.length_append]
          have e : rowF (r1.told ++ r2.told) = rowF r1.told ++ rowF r2.told := by unfold rowF; rw [List.flatMap_append]
          rw [e]
          exact hown1
        have hscan : ScanAt wn (m + 1) s3 (((run (a0.data.toList.take (i + j))).bad : Nat) : Int) := by
          rw [HPC.out, show ((((⟨r1.told ++ r2.told, r2.rest, r1.bad + r2.bad⟩ : Res).bad : Nat)) : Int) = (r1.bad : Int) + (r2.bad : Int) from by simp]
          exact HSC.out.kept hgrow1 (fun e => by have := own_base HT2.out _ e.symm; omega)
        have hrest : s3.data.toList = (run (a0.data.toList.take (i + j))).rest := by rw [HPC.out]; exact HR3.out
        have hBn := HB3.out.grown hgrow1 HB3.out.size (fun j hj => by have := own_base HT2.out j hj; omega)
        have HX : Hid (Told w wn wa.heap.size (m + 1) (a0.data.toList.take (i + j)) v') := ⟨s3, hscan, hrest, hrow, hBn, by have := hgrow1.size; omega⟩
        have HSn := Lib.hid (HSa.out.kept hgrow1 (fun e => by have := own_base HT2.out _ e.symm; omega))
        have HOn := Lib.hid (HO2.out.kept hgrow1 (by
          rcases hq : (Value.slice A1 (run a0.data.toList).told.length c1).ownBlock with _ | k
          · exact .inl rfl
          · right
            intro e
            have h1 := HLT.out k hq
            have h2 := own_base HT2.out k e.symm
            omega))
        clear hrow hscan hrest hBn hown1 hgrow1 hi' hz0 hz1 hz2 HBS HONE HLN HNEWS H63 HBY
        go_roundg (a0.size - (i + j))
        case measure => omega
        case rel => exact ⟨i + j, by omega, by rw [Int.natCast_add], HX.out, HSn.out, HOn.out⟩
    · obtain rfl : i = a0.size := by omega
      rw [List.take_of_length_le (by rw [size_len]; exact Nat.le_refl _)] at hT
      obtain ⟨sx, hsx, hrx, hox, hbx, hzx⟩ := hT
      have hrs := run_size a0.data.toList
      rw [size_len] at hrs
      have HA := Lib.hid (own_frames hO (by omega))
      have HBf := Lib.hid (own_frames hox (by omega))
      have hs1 : s1.size = (run a0.data.toList).rest.length := by rw [← size_len, R1.out]
      have hs2 : sx.size = (run a0.data.toList).rest.length := by rw [← size_len, hrx]
      have HZ1 := Lib.hid hs1; have HZ2 := Lib.hid hs2
      have HS := Lib.hid hS; have HSX := Lib.hid hsx; have HBX := Lib.hid hbx
      have hrl : (run a0.data.toList).rest.length ≤ 4000 := by omega
      clear hS hsx hrx hox hbx hO hs1 hs2 hrs
      go_wp2_with fail
      refine (bad_any m s1 _ wr HS.out).mono ?_; rintro e wx ⟨rfl, rfl⟩
      go_wp2_with fail
      refine (bad_any (m + 1) sx _ wr HSX.out).mono ?_; rintro e wx ⟨rfl, rfl⟩
      go_wp2_with fail
      refine (waiting_any m s1 _ wr HS.out (by rw [HZ1.out]; omega)).mono ?_; rintro e wx ⟨rfl, rfl⟩
      rw [HZ1.out]
      go_wp2_with fail
      refine (waiting_any (m + 1) sx _ wr HSX.out (by rw [HZ2.out]; omega)).mono ?_; rintro e wx ⟨rfl, rfl⟩
      rw [HZ2.out]
      go_wp2_with fail
      refine (same_any _ _ (run a0.data.toList).told wr HA.out HBf.out).mono ?_
      rintro e wf ⟨rfl, m1, rfl⟩
      have HBF := Lib.hid (HBX.out.trans ((drewN_below wr m1).mono HBX.out.size))
      go_wp2_with fail
      go_ret
      exact ⟨rfl, HBF.out⟩
end Go.Proofs.Ytdecoenollejiaa
