/- The examples of the law's own text (gimballaw11.awake): they hold. -/
import Derived.Test.YtdecoenollejiaaFrSame
import Derived.KernelRfl
set_option linter.unusedVariables false
set_option linter.unusedSimpArgs false
namespace Go.Proofs.Ytdecoenollejiaa
open Go.RowKit CrcMath FrMath

theorem w7 : wrapS 7 ⟨#[97, 98]⟩ = ⟨#[165, 90, 7, 2, 97, 98, 207, 114]⟩ := by decide +kernel
theorem w1 : wrapS 1 ⟨#[]⟩ = ⟨#[165, 90, 1, 0, 46, 62]⟩ := by decide +kernel
theorem ex1 : (ByteArray.extract ⟨#[165, 90, 7, 2, 97, 98, 207, 114]⟩ 0 7) = ⟨#[165, 90, 7, 2, 97, 98, 207]⟩ := by decide +kernel
theorem ex2 : (ByteArray.extract ⟨#[165, 90, 7, 2, 97, 98, 207, 114]⟩ 7 8) = ⟨#[114]⟩ := by decide +kernel
theorem ap1 : (⟨#[120, 165]⟩ ++ ⟨#[165, 90, 1, 0, 46, 62]⟩ : ByteArray) ++ ⟨#[121]⟩ = ⟨#[120, 165, 165, 90, 1, 0, 46, 62, 121]⟩ := by decide +kernel
theorem r1 : run [165, 90, 7, 2, 97, 98, 207] = ⟨[], [165, 90, 7, 2, 97, 98, 207], 0⟩ := by kernel_rfl
theorem r2 : run [165, 90, 7, 2, 97, 98, 207, 114] = ⟨[⟨7, [97, 98]⟩], [], 0⟩ := by kernel_rfl
theorem r3 : run [120, 165, 165, 90, 1, 0, 46, 62, 121] = ⟨[⟨1, []⟩], [], 0⟩ := by kernel_rfl
theorem r4 : run [165, 90, 1, 65] = ⟨[], [], 1⟩ := by kernel_rfl

theorem wrap_c7 (w : World) : Calls Try.prog 25 #[.int .u8 7, .string ⟨#[97, 98]⟩] w fun e w' => e = .returned (.tuple #[.string ⟨#[165, 90, 7, 2, 97, 98, 207, 114]⟩, .int .i64 0]) ∧ Below w.heap.size w w' := by
  have h := wrap_any 7 ⟨#[97, 98]⟩ w (by decide)
  rw [show (((7 : UInt8).toNat : Nat) : Int) = 7 from rfl, w7] at h
  exact h
theorem wrap_c1 (w : World) : Calls Try.prog 25 #[.int .u8 1, .string ⟨#[]⟩] w fun e w' => e = .returned (.tuple #[.string ⟨#[165, 90, 1, 0, 46, 62]⟩, .int .i64 0]) ∧ Below w.heap.size w w' := by
  have h := wrap_any 1 ⟨#[]⟩ w (by decide)
  rw [show (((1 : UInt8).toNat : Nat) : Int) = 1 from rfl, w1] at h
  exact h

/-- What a Feed leaves, its answer written out. -/
def Fed2 (w : World) (g : Nat) (fs : List Fr) (rest : List UInt8) (b : Int) (e : Ending) (w' : World) : Prop :=
  ∃ (A : Option Addr) (c : Nat) (s : ByteArray), e = .returned (.slice A fs.length c) ∧ w'.ownsRow w.heap.size 52 2 (.slice A fs.length c) fs.length (rowF fs) ∧ w.grownBy w' (some g) ∧ ScanAt w' g s b ∧ s.data.toList = rest

theorem feed_is (g : Nat) (s t : ByteArray) (b : Int) (w : World) (hS : ScanAt w g s b) (hmax : s.size + t.size ≤ 1099511627776) (hb : 0 ≤ b ∧ b ≤ 2305843009213693952) (l : List UInt8) (fs : List Fr) (rest : List UInt8) (bad : Nat) (hl : s.data.toList ++ t.data.toList = l) (hr : run l = ⟨fs, rest, bad⟩) :
    Calls Try.prog 28 #[.pointer (some ⟨g, 0, none⟩), .string t] w (Fed2 w g fs rest (b + bad)) := by
  refine (feed_any g s t b w hS hmax hb).mono ?_
  rintro e w' ⟨v, s', rfl, h1, h2, h3, h4⟩
  rw [hl, hr] at h1 h3 h4
  have hv : ∃ A c, v = .slice A fs.length c := by
    rcases h1.2 with ⟨rfl, h0⟩ | ⟨g', cap, cur, rfl, _⟩
    · exact ⟨none, 0, by rw [show fs.length = 0 from h0]⟩
    · exact ⟨_, cap, rfl⟩
  obtain ⟨A, c, rfl⟩ := hv
  exact ⟨A, c, s', rfl, h1, h2, h3, h4⟩

/-- A row of the call's own and another scan's fields stay where a scan is fed. -/
theorem own_fed {w1 w2 : World} {base g : Nat} {v : Value} {fs : List Fr} (h : w1.ownsRow base 52 2 v fs.length (rowF fs)) (hg : w1.grownBy w2 (some g)) (hb : g < base) : w2.ownsRow base 52 2 v fs.length (rowF fs) :=
  own_kept h hg (fun e => by have := own_base h g e; omega)

/-- A slice of one frame that the text lays. -/
theorem lit_row (W : World) (k : UInt8) (p : ByteArray) : FrRow (W.alloc (.cells #[.int .u8 (k.toNat : Int), .string p] 52)) (.slice (some ⟨W.heap.size, 0, none⟩) 1 1) [⟨k, p.data.toList⟩] := by
  refine ⟨_, 1, rfl, by simp, fun _ => ⟨W.heap.size, 0, rfl, by simp, fun j hj => ?_⟩⟩
  obtain rfl : j = 0 := by simpa using hj
  refine ⟨?_, ?_⟩
  · simp
  · simp

set_option maxHeartbeats 2000000 in
theorem awake11_any (w : World) : Calls Try.prog 24 #[] w fun e w' => e = .returned (.bool true) ∧ Below w.heap.size w w' := by
  have he1 := ex1
  have he2 := ex2
  have he3 := ap1
  go_enter Try.func24, Try.ntmps24
  go_wp2_with fail
  refine (wrap_c7 _).mono ?_; rintro e w1 ⟨rfl, hb1⟩
  have HB1 := Lib.hid hb1; clear hb1
  go_wp2_with fail
  refine (new_any _).mono ?_; rintro e w2 ⟨rfl, rfl⟩
  go_wp2_with fail
  refine (new_any _).mono ?_; rintro e w3 ⟨rfl, rfl⟩
  go_wp2_with fail
  refine (new_any _).mono ?_; rintro e w4 ⟨rfl, rfl⟩
  go_wp2_with fail
  have S1 := ((new_scan w1).kept (World.grownBy_alloc _ (.cells #[.string ⟨#[]⟩, .int .i64 0] 59) none) (by simp)).kept (World.grownBy_alloc _ (.cells #[.string ⟨#[]⟩, .int .i64 0] 59) none) (by simp)
  have S2 := (new_scan (w1.alloc (.cells #[.string ⟨#[]⟩, .int .i64 0] 59))).kept (World.grownBy_alloc _ (.cells #[.string ⟨#[]⟩, .int .i64 0] 59) none) (by simp)
  have S3 := new_scan ((w1.alloc (.cells #[.string ⟨#[]⟩, .int .i64 0] 59)).alloc (.cells #[.string ⟨#[]⟩, .int .i64 0] 59))
  have HBW := Lib.hid (((HB1.out.alloc HB1.out.size (.cells #[.string ⟨#[]⟩, .int .i64 0] 59)).alloc (by have := HB1.out.size; simp; omega) (.cells #[.string ⟨#[]⟩, .int .i64 0] 59)).alloc (by have := HB1.out.size; simp; omega) (.cells #[.string ⟨#[]⟩, .int .i64 0] 59))
  simp only [World.size_alloc] at S2 S3
  have hn := HB1.out.size
  have hW : (((w1.alloc (.cells #[.string ⟨#[]⟩, .int .i64 0] 59)).alloc (.cells #[.string ⟨#[]⟩, .int .i64 0] 59)).alloc (.cells #[.string ⟨#[]⟩, .int .i64 0] 59)).heap.size = w1.heap.size + 1 + 1 + 1 := by simp
  generalize (((w1.alloc (.cells #[.string ⟨#[]⟩, .int .i64 0] 59)).alloc (.cells #[.string ⟨#[]⟩, .int .i64 0] 59)).alloc (.cells #[.string ⟨#[]⟩, .int .i64 0] 59)) = W at *
  clear HB1
  generalize w1.heap.size = n at *
  have S1 := Lib.hid S1; have S2 := Lib.hid S2; have S3 := Lib.hid S3
  have hW' : n + 1 + 1 < W.heap.size := by omega
  clear hW
  refine (feed_is n ⟨#[]⟩ ⟨#[165, 90, 7, 2, 97, 98, 207]⟩ 0 W S1.out (by decide) (by decide) [165, 90, 7, 2, 97, 98, 207] [] [165, 90, 7, 2, 97, 98, 207] 0 rfl r1).mono ?_
  rintro e wa ⟨A1, c1, s1, rfl, o1, g1, sc1, rest1⟩
  have O1 := Lib.hid o1; have S1 := Lib.hid sc1; have R1 := Lib.hid rest1
  have S2 := Lib.hid (S2.out.kept g1 (by intro e; injection e with e; omega)); have S3 := Lib.hid (S3.out.kept g1 (by intro e; injection e with e; omega))
  have HB := Lib.hid (HBW.out.grown g1 HBW.out.size (fun j hj => by injection hj with hj; omega))
  have hza : W.heap.size ≤ wa.heap.size := g1.size
  clear o1 g1 sc1 rest1 HBW
  go_wp2_with fail
  refine (waiting_any n s1 _ wa S1.out (by rw [← size_len, R1.out]; decide)).mono ?_; rintro e wa' ⟨rfl, rfl⟩
  rw [show ((s1.size : Nat) : Int) = 7 by rw [← size_len, R1.out]; rfl]
  go_wp2_with fail
  refine (feed_is n s1 ⟨#[114]⟩ _ wa S1.out (by rw [← size_len, R1.out]; decide) (by decide) [165, 90, 7, 2, 97, 98, 207, 114] [⟨7, [97, 98]⟩] [] 0 (by rw [R1.out]; rfl) r2).mono ?_
  rintro e wb ⟨A2, c2, s2, rfl, o2, g2, sc2, rest2⟩
  have O2 := Lib.hid o2; have O1 := Lib.hid (own_fed O1.out g2 (by omega))
  have S2 := Lib.hid (S2.out.kept g2 (by intro e; injection e with e; omega)); have S3 := Lib.hid (S3.out.kept g2 (by intro e; injection e with e; omega))
  have HB := Lib.hid (HB.out.grown g2 HB.out.size (fun j hj => by injection hj with hj; omega))
  have hzb : wa.heap.size ≤ wb.heap.size := g2.size
  clear o2 g2 sc2 rest2 S1 R1
  go_wp2_with fail
  refine (wrap_c1 _).mono ?_; rintro e wc ⟨rfl, hb⟩
  have O2 := Lib.hid (own_below O2.out hb); have O1 := Lib.hid (own_below O1.out hb)
  have S2 := Lib.hid (grown_below S2.out hb).2; have S3 := Lib.hid (grown_below S3.out hb).2
  have HB := Lib.hid (below_then HB.out HB.out.size hb)
  have hzc : wb.heap.size ≤ wc.heap.size := hb.size
  clear hb
  go_wp2_with fail
  refine (feed_is (n + 1) ⟨#[]⟩ ⟨#[120, 165, 165, 90, 1, 0, 46, 62, 121]⟩ 0 wc S2.out (by decide) (by decide) [120, 165, 165, 90, 1, 0, 46, 62, 121] [⟨1, []⟩] [] 0 rfl r3).mono ?_
  rintro e wd ⟨A3, c3, s3, rfl, o3, g3, sc3, rest3⟩
  have O3 := Lib.hid o3; have O2 := Lib.hid (own_fed O2.out g3 (by omega)); have O1 := Lib.hid (own_fed O1.out g3 (by omega))
  have S3 := Lib.hid (S3.out.kept g3 (by intro e; injection e with e; omega))
  have HB := Lib.hid (HB.out.grown g3 HB.out.size (fun j hj => by injection hj with hj; omega))
  have hzd : wc.heap.size ≤ wd.heap.size := g3.size
  clear o3 g3 sc3 rest3 S2
  go_wp2_with fail
  refine (feed_is (n + 1 + 1) ⟨#[]⟩ ⟨#[165, 90, 1, 65]⟩ 0 wd S3.out (by decide) (by decide) [165, 90, 1, 65] [] [] 1 rfl r4).mono ?_
  rintro e we ⟨A4, c4, s4, rfl, o4, g4, sc4, rest4⟩
  have O2 := Lib.hid (own_fed O2.out g4 (by omega)); have O3 := Lib.hid (own_fed O3.out g4 (by omega))
  have S3 := Lib.hid sc4; have R4 := Lib.hid rest4
  have HB := Lib.hid (HB.out.grown g4 HB.out.size (fun j hj => by injection hj with hj; omega))
  have hze : wd.heap.size ≤ we.heap.size := g4.size
  clear o4 g4 sc4 rest4 O1
  go_wp2_with fail
  refine (bad_any (n + 1 + 1) s4 _ we S3.out).mono ?_; rintro e wx ⟨rfl, rfl⟩
  go_wp2_with fail
  refine (waiting_any (n + 1 + 1) s4 _ we S3.out (by rw [← size_len, R4.out]; decide)).mono ?_; rintro e wx ⟨rfl, rfl⟩
  rw [show ((s4.size : Nat) : Int) = 0 by rw [← size_len, R4.out]; rfl]
  go_wp2_with fail
  have hl7 := lit_row we 7 ⟨#[97, 98]⟩
  rw [show (((7 : UInt8).toNat : Nat) : Int) = 7 from rfl] at hl7
  have c5 := same_any (.slice A2 1 c2) (.slice (some ⟨we.heap.size, 0, none⟩) 1 1) [⟨7, [97, 98]⟩] (we.alloc (.cells #[.int .u8 7, .string ⟨#[97, 98]⟩] 52)) ((own_frames (fs := [⟨7, [97, 98]⟩]) O2.out (by decide)).below ((Below.refl _ _).alloc (Nat.le_refl _) _)) hl7
  have C5 := Lib.hid c5
  clear c5 hl7
  refine C5.out.mono ?_
  rintro e wf ⟨rfl, m1, rfl⟩
  have HB := Lib.hid ((HB.out.alloc HB.out.size (.cells #[.int .u8 7, .string ⟨#[97, 98]⟩] 52)).trans ((drewN_below (we.alloc (.cells #[.int .u8 7, .string ⟨#[97, 98]⟩] 52)) m1).mono (by have := HB.out.size; simp; omega)))
  have O3 := Lib.hid (own_below (own_below O3.out ((Below.refl _ _).alloc (Nat.le_refl _) (.cells #[.int .u8 7, .string ⟨#[97, 98]⟩] 52))) (drewN_below (we.alloc (.cells #[.int .u8 7, .string ⟨#[97, 98]⟩] 52)) m1))
  clear C5
  generalize World.drewN (we.alloc (.cells #[.int .u8 7, .string ⟨#[97, 98]⟩] 52)) m1 = wf at *
  go_wp2_with fail
  have hl1 := lit_row wf 1 ⟨#[]⟩
  rw [show (((1 : UInt8).toNat : Nat) : Int) = 1 from rfl] at hl1
  have c6 := same_any (.slice A3 1 c3) (.slice (some ⟨wf.heap.size, 0, none⟩) 1 1) [⟨1, []⟩] (wf.alloc (.cells #[.int .u8 1, .string ⟨#[]⟩] 52)) ((own_frames (fs := [⟨1, []⟩]) O3.out (by decide)).below ((Below.refl _ _).alloc (Nat.le_refl _) _)) hl1
  have C6 := Lib.hid c6
  clear c6 hl1
  refine C6.out.mono ?_
  rintro e wg ⟨rfl, m2, rfl⟩
  have HB := Lib.hid ((HB.out.alloc HB.out.size (.cells #[.int .u8 1, .string ⟨#[]⟩] 52)).trans ((drewN_below (wf.alloc (.cells #[.int .u8 1, .string ⟨#[]⟩] 52)) m2).mono (by have := HB.out.size; simp; omega)))
  clear C6
  generalize World.drewN (wf.alloc (.cells #[.int .u8 1, .string ⟨#[]⟩] 52)) m2 = wg at *
  go_wp2_with fail
  go_ret
  exact ⟨rfl, HB.out⟩
end Go.Proofs.Ytdecoenollejiaa
