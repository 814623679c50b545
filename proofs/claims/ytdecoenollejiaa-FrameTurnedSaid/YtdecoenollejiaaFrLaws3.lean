/- Walk of the law FrameTurned: bits of a frame's copy behind its count are turned in a loop; the frame is then bad; what is cut off waits. -/
import Derived.Test.YtdecoenollejiaaFrLaws2
import Derived.Test.YtdecoenollejiaaFrPure2
import Derived.Test.YtdecoenollejiaaCrcTurn
set_option linter.unusedVariables false
set_option linter.unusedSimpArgs false
namespace Go.Proofs.Ytdecoenollejiaa
open Go.RowKit CrcMath FrMath

theorem Kept.yes2 {w wr : World} {B m : Nat} {l0 : List UInt8} {n p k j i : Nat} {c : UInt8} (h : Kept w wr B m l0 n p k) (hB : w.heap.size ≤ B) (hl : l0.length = m) (ej : (n + k) / 8 = j) (ei : (n + k) % 8 = i) (hc : (flips l0 n p k).getD j 0 = c) (hj : n + k < 8 * m) (hb : p.testBit (15 - k) = true) :
    Kept w (wr.setCell ⟨B, j, none⟩ (.int .u8 (bits BinOp.xor IntKind.u8 (c.toNat : Int) (128 / 2 ^ i)))).drew B m l0 n p (k + 1) ∧ turned l0 n p (k + 1) = true := by
  subst ej; subst ei
  exact h.yes hB hl hc hj hb

theorem wrapS_wrapped (k : UInt8) (p : ByteArray) (hp : p.size ≤ 64) : Wrapped (wrapS k.toNat p).data.toList k p.data.toList := by
  obtain ⟨z, e, hz, hr⟩ := wrapS_data k p hp
  exact ⟨z, by rw [e, size_len]; simp, hz, by rw [size_len]; exact hp, by rw [size_len]; simpa using hr⟩

theorem own_one {w : World} {base : Nat} {A : Option Addr} {c : Nat} {f : Fr} (h : w.ownsRow base 52 2 (.slice A 1 c) 1 (rowF [f])) : ∃ g, A = some ⟨g, 0, none⟩ ∧ w.cell? ⟨g, 0, none⟩ = some (.int .u8 (f.kind.toNat : Int)) ∧ w.cell? ⟨g, 1, none⟩ = some (.string ⟨f.pay.toArray⟩) := by
  rcases h.2 with ⟨_, h0⟩ | ⟨g, cap, cur, hv, _⟩
  · cases h0
  · injection hv with h1 h2 h3
    subst h1; subst h3
    exact ⟨g, rfl, h.cellAt 0 (by decide), h.cellAt 1 (by decide)⟩

theorem one_of_len {fs : List Fr} (h : fs.length = 1) : ∃ f, fs = [f] := by
  match fs, h with
  | [f], _ => exact ⟨f, rfl⟩

/-- What the law asks of what was turned. -/
theorem turned_end {l : List UInt8} {k : UInt8} {p : List UInt8} (h : Wrapped l k p) (n pt kk : Nat) (hk : kk ≤ 16) : (turned l (32 + n) pt kk = true → 0 < (run (flips l (32 + n) pt kk)).bad) ∧ (turned l (32 + n) pt kk = false → run (flips l (32 + n) pt kk) = ⟨[⟨k, p⟩], [], 0⟩) := by
  refine ⟨fun ht => h.turned (32 + n) pt kk (by omega) hk ht, fun ht => ?_⟩
  rw [flips_same _ _ _ _ ht]
  have := h.told []
  rw [List.append_nil, run_nil] at this
  exact this

set_option maxHeartbeats 2000000 in
set_option maxRecDepth 100000 in
theorem FrameTurned_walk (a0 : Int) (a1 : ByteArray) (a2 a3 a4 : Int) (w0 : (Lit.int .u8 a0).wf = true) (w1 : a1.size ≤ 140737488351232) (w2 : (Lit.int .i64 a2).wf = true) (w3 : (Lit.int .u16 a3).wf = true) (w4 : (Lit.int .i64 a4).wf = true) (w : World) :
    Calls Try.prog 13 #[.int .u8 a0, .string a1, .int .i64 a2, .int .u16 a3, .int .i64 a4] w fun e w' => e = .returned (.bool true) ∧ Below w.heap.size w w' := by
  obtain ⟨kd, rfl⟩ := u8_bv w0
  obtain ⟨pat, rfl⟩ := u16_bv w3
  clear w0 w2 w3 w4
  by_cases hlong : 64 < a1.size
  · go_enter Try.func13, Try.ntmps13
    go_wp2_with fail
    refine (awake11_any _).mono ?_; rintro e wa ⟨rfl, hb1⟩
    have HB0 := Lib.hid hb1; clear hb1
    go_wp2_with fail
    refine (wrap_over kd a1 _ hlong (by unfold maxLen; omega)).mono ?_; rintro e wb ⟨rfl, rfl⟩
    go_wp2_with fail
    go_ret
    exact ⟨rfl, HB0.out⟩
  have hlen : a1.size ≤ 64 := by omega
  obtain ⟨t, ht⟩ : ∃ t, wrapS kd.toNat a1 = t := ⟨_, rfl⟩
  have hts : t.size = a1.size + 6 := by rw [← ht, wrapS_size]
  have HT := Lib.hid ht
  have HW : Hid (Wrapped t.data.toList kd a1.data.toList) := by rw [← ht]; exact wrapS_wrapped kd a1 hlen
  have HTS := Lib.hid hts
  clear ht
  by_cases hneg : a2 < 0
  · have hn0 : decide (a2 < 0) = true := by simp; omega
    go_enter Try.func13, Try.ntmps13
    go_wp2_with fail
    refine (awake11_any _).mono ?_; rintro e wa ⟨rfl, hb1⟩
    have HB0 := Lib.hid hb1; clear hb1
    go_wp2_with fail
    refine (wrap_any kd a1 _ hlen).mono ?_; rintro e wb ⟨rfl, hb⟩
    rw [HT.out]
    have HB0 := Lib.hid (below_then HB0.out HB0.out.size hb); clear hb
    go_wp2_with fail
    go_ret
    exact ⟨rfl, HB0.out⟩
  obtain ⟨n, rfl⟩ := Int.eq_ofNat_of_zero_le (show 0 ≤ a2 by omega)
  have hn0 : decide ((n : Int) < 0) = false := by simp
  by_cases hbig : ((8 : Int) * (a1.size : Int) + 16) ≤ (n : Int)
  · have hn1 : decide (8 * (a1.size : Int) + 16 ≤ (n : Int)) = true := by simp; omega
    go_enter Try.func13, Try.ntmps13
    go_wp2_with fail
    refine (awake11_any _).mono ?_; rintro e wa ⟨rfl, hb1⟩
    have HB0 := Lib.hid hb1; clear hb1
    go_wp2_with fail
    refine (wrap_any kd a1 _ hlen).mono ?_; rintro e wb ⟨rfl, hb⟩
    rw [HT.out]
    have HB0 := Lib.hid (below_then HB0.out HB0.out.size hb); clear hb
    go_wp2_with fail
    go_ret
    exact ⟨rfl, HB0.out⟩
  have hn1 : decide (8 * (a1.size : Int) + 16 ≤ (n : Int)) = false := by simp; omega
  by_cases hcn : a4 < 0
  · have hn2 : decide (a4 < 0) = true := by simp; omega
    go_enter Try.func13, Try.ntmps13
    go_wp2_with fail
    refine (awake11_any _).mono ?_; rintro e wa ⟨rfl, hb1⟩
    have HB0 := Lib.hid hb1; clear hb1
    go_wp2_with fail
    refine (wrap_any kd a1 _ hlen).mono ?_; rintro e wb ⟨rfl, hb⟩
    rw [HT.out]
    have HB0 := Lib.hid (below_then HB0.out HB0.out.size hb); clear hb
    go_wp2_with fail
    go_ret
    exact ⟨rfl, HB0.out⟩
  obtain ⟨cut, rfl⟩ := Int.eq_ofNat_of_zero_le (show 0 ≤ a4 by omega)
  have hn2 : decide ((cut : Int) < 0) = false := by simp
  by_cases hcb : (t.size : Int) ≤ (cut : Int)
  · have hn3 : decide ((t.size : Int) ≤ (cut : Int)) = true := by simp; omega
    go_enter Try.func13, Try.ntmps13
    go_wp2_with fail
    refine (awake11_any _).mono ?_; rintro e wa ⟨rfl, hb1⟩
    have HB0 := Lib.hid hb1; clear hb1
    go_wp2_with fail
    refine (wrap_any kd a1 _ hlen).mono ?_; rintro e wb ⟨rfl, hb⟩
    rw [HT.out]
    have HB0 := Lib.hid (below_then HB0.out HB0.out.size hb); clear hb
    go_wp2_with fail
    go_ret
    exact ⟨rfl, HB0.out⟩
  have hn3 : decide ((t.size : Int) ≤ (cut : Int)) = false := by simp; omega
  have hcut : cut < t.size := by omega
  have HP : Hid (pat.toNat < 65536) := pat.isLt
  have hcv := fun w => Lib.run_convert_string_bytes (P := Try.prog) w 9 32 5 t Try.underlying9 Try.underlying32 Try.underlying5
  clear hts
  have hts2 : t.size ≤ 70 := by have := HTS.out; omega
  go_enter Try.func13, Try.ntmps13
  go_wp2_with fail
  refine (awake11_any _).mono ?_; rintro e wa ⟨rfl, hb1⟩
  have HB0 := Lib.hid hb1; clear hb1
  go_wp2_with fail
  refine (wrap_any kd a1 _ hlen).mono ?_; rintro e wq ⟨rfl, hb⟩
  rw [HT.out]
  have HB := Lib.hid (below_then HB0.out HB0.out.size hb); clear hb HB0
  go_wp2_with fail
  have K0 := Kept.start t (32 + n) pat.toNat HB.out
  have hBs : w.heap.size ≤ wq.heap.size := HB.out.size
  have HL : Hid (t.data.toList.length = t.size) := size_len t
  clear hcv
  generalize Lib.bytesWorld wq 5 t = wc at *
  generalize grownCap wq t.size 0 5 = cp at *
  have X := Lib.hid K0
  clear K0
  go_loopg [15, 16] 16 (fun g tv iv wr => ∃ k : Nat, k + g = 16 ∧ iv = .int .i64 k ∧ tv = .bool (turned t.data.toList (32 + n) pat.toNat k) ∧ Kept w wr wq.heap.size t.size t.data.toList (32 + n) pat.toNat k)
  case atStart => exact ⟨0, rfl, rfl, rfl, X.out⟩
  case round =>
    obtain ⟨k, hk, rfl, rfl, hK⟩ := hrel
    clear X
    by_cases h16 : k < 16
    · have d16 : decide ((k : Int) < 16) = true := by simp; omega
      by_cases hin : 32 + (n : Int) + (k : Int) < 8 * (t.size : Int)
      · have hp : pat.toNat < 65536 := HP.out
        have hbt := bit_test pat.toNat k hp
        by_cases hb : pat.toNat.testBit (15 - k) = true
        · rw [hb] at hbt
          obtain ⟨hR, hB, hlt⟩ := hK.out
          have hc := hR.2.1 (4 + (n + k) / 8) (by omega)
          have hf := hR.2.2 (4 + (n + k) / 8) (by omega)
          have hi0 : 0 ≤ 4 + ((n : Int) + (k : Int)) / 8 := by omega
          have hi1 : 4 + ((n : Int) + (k : Int)) / 8 < (t.size : Int) := by omega
          obtain ⟨c, hcc⟩ : ∃ c, (flips t.data.toList (32 + n) pat.toNat k).getD (4 + (n + k) / 8) 0 = c := ⟨_, rfl⟩
          rw [hcc] at hc
          have Y := Lib.hid (hK.yes2 hBs HL.out (j := 4 + (n + k) / 8) (i := (n + k) % 8) (by omega) (by omega) hcc (by omega) hb)
          clear hK hR hB hcc hb
          go_wp2
          go_region
          all_goals go_wp2
          go_roundg (gk - 1)
          case measure => omega
          case rel => exact ⟨k + 1, by omega, by go_num, by rw [Y.out.2], Y.out.1⟩
        · have hb' : pat.toNat.testBit (15 - k) = false := by simpa using hb
          rw [hb'] at hbt
          have Y := Lib.hid (hK.no hb')
          clear hK hb hb'
          go_wp2
          go_roundg (gk - 1)
          case measure => omega
          case rel => exact ⟨k + 1, by omega, by go_num, by rw [Y.out.2], Y.out.1⟩
      · have hk16 : k ≤ 16 := by omega
        obtain ⟨hR, hB, hlt⟩ := hK.out
        have HE := Lib.hid (turned_end HW.out n pat.toNat k hk16)
        have HFL : Hid ((flips t.data.toList (32 + n) pat.toNat k).length = t.size) := by show _ = _; rw [flips_length, HL.out]
        generalize turned t.data.toList (32 + n) pat.toNat k = tb at *
        generalize flips t.data.toList (32 + n) pat.toNat k = fl at *
        have hs := (hR.below hlt (((Below.refl wr.heap.size wr).alloc (Nat.le_refl _) (.cells #[.string ⟨#[]⟩, .int .i64 0] 59)).alloc (by simp) (.cells #[.string ⟨#[]⟩, .int .i64 0] 59))).string cp
        have HB2 := Lib.hid ((hB.alloc hB.size (.cells #[.string ⟨#[]⟩, .int .i64 0] 59)).alloc (by have := hB.size; simp; omega) (.cells #[.string ⟨#[]⟩, .int .i64 0] 59))
        have S1 := (new_scan wr).kept (World.grownBy_alloc _ (.cells #[.string ⟨#[]⟩, .int .i64 0] 59) none) (by simp)
        have S2 := new_scan (wr.alloc (.cells #[.string ⟨#[]⟩, .int .i64 0] 59))
        have hW : ((wr.alloc (.cells #[.string ⟨#[]⟩, .int .i64 0] 59)).alloc (.cells #[.string ⟨#[]⟩, .int .i64 0] 59)).heap.size = wr.heap.size + 1 + 1 := by simp
        have hBz := hB.size
        simp only [World.size_alloc] at S2
        clear hK hR hB
        go_wp2_with fail
        refine (new_any _).mono ?_; rintro e w2 ⟨rfl, rfl⟩
        go_wp2_with fail
        refine (new_any _).mono ?_; rintro e w3 ⟨rfl, rfl⟩
        go_wp2_with fail
        clear hs
        generalize ((wr.alloc (.cells #[.string ⟨#[]⟩, .int .i64 0] 59)).alloc (.cells #[.string ⟨#[]⟩, .int .i64 0] 59)) = W at *
        generalize wr.heap.size = m at *
        have hWm : m + 1 < W.heap.size := by omega
        clear hW
        have S1 := Lib.hid S1; have S2 := Lib.hid S2
        refine (feed_is m ⟨#[]⟩ ⟨fl.toArray⟩ 0 W S1.out (by show 0 + (⟨fl.toArray⟩ : ByteArray).size ≤ _; rw [list_size, HFL.out]; omega) (by decide) fl (run fl).told (run fl).rest (run fl).bad (by rw [list_data]; rfl) rfl).mono ?_
        rintro e wa ⟨A1, c1, s1, rfl, o1, g1, sc1, rest1⟩
        have O1 := Lib.hid o1; have S1 := Lib.hid sc1
        have S2 := Lib.hid (S2.out.kept g1 (by intro e; injection e with e; omega))
        have HB := Lib.hid (HB2.out.grown g1 HB2.out.size (fun j hj => by injection hj with hj; omega))
        have hza : W.heap.size ≤ wa.heap.size := g1.size
        clear o1 g1 sc1 rest1 HB2
        go_wp2_with fail
        refine (bad_any m s1 _ wa S1.out).mono ?_; rintro e wx ⟨rfl, rfl⟩
        go_wp2_with fail
        have hcl : cut ≤ t.size := by omega
        refine (feed_is (m + 1) ⟨#[]⟩ (t.extract 0 cut) 0 wa S2.out (by rw [ByteArray.size_extract]; show 0 + _ ≤ _; omega) (by decide) (t.data.toList.take cut) [] (t.data.toList.take cut) 0 (by rw [Lib.extract_data]; rfl) (HW.out.cut cut (by rw [size_len]; exact hcut))).mono ?_
        rintro e wb ⟨A2, c2, s2, rfl, o2, g2, sc2, rest2⟩
        have O1 := Lib.hid (own_fed O1.out g2 (by omega)); have S2 := Lib.hid sc2
        have HB := Lib.hid (HB.out.grown g2 HB.out.size (fun j hj => by injection hj with hj; omega))
        have hsz2 : s2.size = cut := by rw [← size_len, rest2, List.length_take, size_len]; omega
        have HZ := Lib.hid hsz2
        clear o2 g2 sc2 rest2 S1 hsz2
        go_wp2_with fail
        refine (waiting_any (m + 1) s2 _ wb S2.out (by rw [HZ.out]; omega)).mono ?_; rintro e wx ⟨rfl, rfl⟩
        rw [HZ.out]
        cases tb with
        | false =>
          have hr := HE.out.2 rfl
          have O1' := O1.out
          rw [hr] at O1'
          obtain ⟨g, rfl, hc0, hc1⟩ := own_one O1'
          have hp : (⟨a1.data.toList.toArray⟩ : ByteArray) = a1 := rfl
          rw [hr]
          rw [show ((⟨[⟨kd, a1.data.toList⟩], [], 0⟩ : Res).bad) = 0 from rfl, show ((⟨[⟨kd, a1.data.toList⟩], [], 0⟩ : Res).told).length = 1 from rfl]
          clear O1' hr
          go_wp2_with fail
          go_ret
          exact ⟨rfl, HB.out⟩
        | true =>
          have hbad := HE.out.1 rfl
          have hb1 : (0 : Int) < ((run fl).bad : Int) := by omega
          have hb2 : decide ((0 : Int) < ((run fl).bad : Int)) = true := by simp; omega
          by_cases hone : (run fl).told.length = 1
          · obtain ⟨f, hf⟩ := one_of_len hone
            have O1' := O1.out
            rw [hf] at O1'
            obtain ⟨g, rfl, hc0, hc1⟩ := own_one O1'
            rw [hf, show ([f]).length = 1 from rfl]
            clear O1' hf hone
            go_wp2_with fail
            all_goals
              go_ret
              exact ⟨rfl, HB.out⟩
          · have hone' : (((run fl).told.length : Int) == 1) = false := by simp; omega
            go_wp2_with fail
            all_goals
              go_ret
              exact ⟨rfl, HB.out⟩
    · have hk16 : k ≤ 16 := by omega
      have d16 : decide ((k : Int) < 16) = false := by simp; omega
      obtain ⟨hR, hB, hlt⟩ := hK.out
      have HE := Lib.hid (turned_end HW.out n pat.toNat k hk16)
      have HFL : Hid ((flips t.data.toList (32 + n) pat.toNat k).length = t.size) := by show _ = _; rw [flips_length, HL.out]
      generalize turned t.data.toList (32 + n) pat.toNat k = tb at *
      generalize flips t.data.toList (32 + n) pat.toNat k = fl at *
      have hs := (hR.below hlt (((Below.refl wr.heap.size wr).alloc (Nat.le_refl _) (.cells #[.string ⟨#[]⟩, .int .i64 0] 59)).alloc (by simp) (.cells #[.string ⟨#[]⟩, .int .i64 0] 59))).string cp
      have HB2 := Lib.hid ((hB.alloc hB.size (.cells #[.string ⟨#[]⟩, .int .i64 0] 59)).alloc (by have := hB.size; simp; omega) (.cells #[.string ⟨#[]⟩, .int .i64 0] 59))
      have S1 := (new_scan wr).kept (World.grownBy_alloc _ (.cells #[.string ⟨#[]⟩, .int .i64 0] 59) none) (by simp)
      have S2 := new_scan (wr.alloc (.cells #[.string ⟨#[]⟩, .int .i64 0] 59))
      have hW : ((wr.alloc (.cells #[.string ⟨#[]⟩, .int .i64 0] 59)).alloc (.cells #[.string ⟨#[]⟩, .int .i64 0] 59)).heap.size = wr.heap.size + 1 + 1 := by simp
      have hBz := hB.size
      simp only [World.size_alloc] at S2
      clear hK hR hB
      go_wp2_with fail
      refine (new_any _).mono ?_; rintro e w2 ⟨rfl, rfl⟩
      go_wp2_with fail
      refine (new_any _).mono ?_; rintro e w3 ⟨rfl, rfl⟩
      go_wp2_with fail
      clear hs
      generalize ((wr.alloc (.cells #[.string ⟨#[]⟩, .int .i64 0] 59)).alloc (.cells #[.string ⟨#[]⟩, .int .i64 0] 59)) = W at *
      generalize wr.heap.size = m at *
      have hWm : m + 1 < W.heap.size := by omega
      clear hW
      have S1 := Lib.hid S1; have S2 := Lib.hid S2
      refine (feed_is m ⟨#[]⟩ ⟨fl.toArray⟩ 0 W S1.out (by show 0 + (⟨fl.toArray⟩ : ByteArray).size ≤ _; rw [list_size, HFL.out]; omega) (by decide) fl (run fl).told (run fl).rest (run fl).bad (by rw [list_data]; rfl) rfl).mono ?_
      rintro e wa ⟨A1, c1, s1, rfl, o1, g1, sc1, rest1⟩
      have O1 := Lib.hid o1; have S1 := Lib.hid sc1
      have S2 := Lib.hid (S2.out.kept g1 (by intro e; injection e with e; omega))
      have HB := Lib.hid (HB2.out.grown g1 HB2.out.size (fun j hj => by injection hj with hj; omega))
      have hza : W.heap.size ≤ wa.heap.size := g1.size
      clear o1 g1 sc1 rest1 HB2
      go_wp2_with fail
      refine (bad_any m s1 _ wa S1.out).mono ?_; rintro e wx ⟨rfl, rfl⟩
      go_wp2_with fail
      have hcl : cut ≤ t.size := by omega
      refine (feed_is (m + 1) ⟨#[]⟩ (t.extract 0 cut) 0 wa S2.out (by rw [ByteArray.size_extract]; show 0 + _ ≤ _; omega) (by decide) (t.data.toList.take cut) [] (t.data.toList.take cut) 0 (by rw [Lib.extract_data]; rfl) (HW.out.cut cut (by rw [size_len]; exact hcut))).mono ?_
      rintro e wb ⟨A2, c2, s2, rfl, o2, g2, sc2, rest2⟩
      have O1 := Lib.hid (own_fed O1.out g2 (by omega)); have S2 := Lib.hid sc2
      have HB := Lib.hid (HB.out.grown g2 HB.out.size (fun j hj => by injection hj with hj; omega))
      have hsz2 : s2.size = cut := by rw [← size_len, rest2, List.length_take, size_len]; omega
      have HZ := Lib.hid hsz2
      clear o2 g2 sc2 rest2 S1 hsz2
      go_wp2_with fail
      refine (waiting_any (m + 1) s2 _ wb S2.out (by rw [HZ.out]; omega)).mono ?_; rintro e wx ⟨rfl, rfl⟩
      rw [HZ.out]
      cases tb with
      | false =>
        have hr := HE.out.2 rfl
        have O1' := O1.out
        rw [hr] at O1'
        obtain ⟨g, rfl, hc0, hc1⟩ := own_one O1'
        have hp : (⟨a1.data.toList.toArray⟩ : ByteArray) = a1 := rfl
        rw [hr]
        rw [show ((⟨[⟨kd, a1.data.toList⟩], [], 0⟩ : Res).bad) = 0 from rfl, show ((⟨[⟨kd, a1.data.toList⟩], [], 0⟩ : Res).told).length = 1 from rfl]
        clear O1' hr
        go_wp2_with fail
        go_ret
        exact ⟨rfl, HB.out⟩
      | true =>
        have hbad := HE.out.1 rfl
        have hb1 : (0 : Int) < ((run fl).bad : Int) := by omega
        have hb2 : decide ((0 : Int) < ((run fl).bad : Int)) = true := by simp; omega
        by_cases hone : (run fl).told.length = 1
        · obtain ⟨f, hf⟩ := one_of_len hone
          have O1' := O1.out
          rw [hf] at O1'
          obtain ⟨g, rfl, hc0, hc1⟩ := own_one O1'
          rw [hf, show ([f]).length = 1 from rfl]
          clear O1' hf hone
          go_wp2_with fail
          all_goals
            go_ret
            exact ⟨rfl, HB.out⟩
        · have hone' : (((run fl).told.length : Int) == 1) = false := by simp; omega
          go_wp2_with fail
          all_goals
            go_ret
            exact ⟨rfl, HB.out⟩
end Go.Proofs.Ytdecoenollejiaa
