/- Walks of package crc: More, Of, Seal, Right, and the law's own examples: each call's result by CrcMath; nothing that was there is changed. -/
import Derived.Test.YtdecoenollejiaaProg
import Derived.Test.YtdecoenollejiaaCrc
import Derived.WalkKit
import Derived.WalkSpells
import Derived.WalkLawsBesides
import Derived.Lib.ConvBytes
import Derived.Lib.Hide
import Derived.Deep.LoopGhost
namespace Go.Proofs.Ytdecoenollejiaa
open Go.RowKit CrcMath

theorem ret_int {k : IntKind} {a b : Int} (h : a = b) : Ending.returned (.int k a) = .returned (.int k b) := by rw [h]

/-- A sum as Go holds it. -/
def sumV (b : BitVec 16) : Value := .int .u16 (b.toNat : Int)

theorem wrap_u16 (n : Int) : IntKind.u16.wrap n = n % 65536 := by simp [IntKind.wrap, IntKind.bits, IntKind.signed]

theorem bits_u16 (a b : BitVec 16) : bits .xor .u16 (a.toNat : Int) (b.toNat : Int) = ((a ^^^ b).toNat : Int) := by
  have e : ∀ x : BitVec 16, BitVec.ofInt 16 (x.toNat : Int) = x := fun x => by simp
  show IntKind.u16.wrap ((BitVec.ofInt 16 (a.toNat : Int) ^^^ BitVec.ofInt 16 (b.toNat : Int)).toNat : Int) = _
  rw [e, e, wrap_u16]
  have := (a ^^^ b).isLt
  omega

theorem top_toNat (c : UInt8) : (top c).toNat = c.toNat * 256 := by
  unfold top
  have := c.toNat_lt
  simp
  omega

theorem go_top (b : BitVec 16) (c : UInt8) : bits .xor .u16 (b.toNat : Int) (IntKind.u16.wrap (IntKind.u16.wrap (c.toNat : Int) * 256)) = ((b ^^^ top c).toNat : Int) := by
  have e : IntKind.u16.wrap (IntKind.u16.wrap (c.toNat : Int) * 256) = ((top c).toNat : Int) := by
    rw [wrap_u16, wrap_u16, top_toNat]
    have := c.toNat_lt
    omega
  rw [e, bits_u16]

theorem go_shl (b : BitVec 16) : IntKind.u16.wrap ((b.toNat : Int) * 2) = ((b <<< 1).toNat : Int) := by
  rw [wrap_u16, BitVec.toNat_shiftLeft, Nat.shiftLeft_eq]
  omega

theorem msb_iff (b : BitVec 16) : b.msb = decide (32768 ≤ b.toNat) := by
  rw [BitVec.msb_eq_decide]

theorem T_low (b : BitVec 16) (h : b.toNat < 32768) : T b = b <<< 1 := by
  unfold T
  rw [if_neg]
  rw [msb_iff]
  simp
  omega

theorem T_high (b : BitVec 16) (h : 32768 ≤ b.toNat) : T b = (b <<< 1) ^^^ 0x1021#16 := by
  unfold T
  rw [if_pos]
  rw [msb_iff]
  simp
  omega

theorem go_low (b : BitVec 16) (h : b.toNat < 32768) : (b.toNat : Int) * 2 = ((T b).toNat : Int) := by
  rw [T_low b h, ← go_shl, wrap_u16]
  omega

theorem go_high (b : BitVec 16) (h : 32768 ≤ b.toNat) : bits .xor .u16 (IntKind.u16.wrap ((b.toNat : Int) * 2)) 4129 = ((T b).toNat : Int) := by
  rw [T_high b h, go_shl]
  exact bits_u16 _ 0x1021#16

theorem more_take (x : BitVec 16) (s : ByteArray) (k : Nat) (h : k < s.size) : more x (s.data.toList.take (k + 1)) = Tn 8 (more x (s.data.toList.take k) ^^^ top s.data[k]) := by
  have e : s.data.toList.take (k + 1) = s.data.toList.take k ++ [s.data[k]] := by
    rw [List.take_succ_eq_append_getElem (by simpa using h)]; rfl
  rw [e, more_append]
  rfl

set_option maxHeartbeats 400000 in
theorem more_any (x : BitVec 16) (s : ByteArray) (w : World) (hs : s.size ≤ maxLen) :
    Calls Try.prog 16 #[.int .u16 (x.toNat : Int), .string s] w fun e w' => e = .returned (.int .u16 ((more x s.data.toList).toNat : Int)) ∧ Below w.heap.size w w' := by
  unfold maxLen at hs
  have hcv := fun w => Lib.run_convert_string_bytes (P := Try.prog) w 9 32 5 s Try.underlying9 Try.underlying32 Try.underlying5
  have hcell := fun j hj => Lib.bytesWorld_cell w 5 s j hj
  have HB : Hid (Below w.heap.size w (Lib.bytesWorld w 5 s)) := ⟨rfl, rfl, rfl, by rw [Lib.bytesWorld_size]; omega, fun k hk => Lib.bytesWorld_at_old w 5 s k hk⟩
  go_enter Try.func16, Try.ntmps16
  go_wp2
  obtain ⟨W, hW⟩ : ∃ W, W = Lib.bytesWorld w 5 s := ⟨_, rfl⟩
  rw [← hW]
  rw [← hW] at hcell HB
  clear hW hcv
  have HC := Lib.hid hcell
  clear hcell
  go_loop [0, 11] (fun v i => ∃ k : Nat, k ≤ s.size ∧ i = .int .i64 k ∧ v = .int .u16 ((more x (s.data.toList.take k)).toNat : Int)) (fun _ i => s.size - (intOf i).toNat)
  case atStart => exact ⟨0, by omega, rfl, rfl⟩
  case round =>
    obtain ⟨k, hk, rfl, rfl⟩ := hrel
    by_cases hlt : k < s.size
    · have hc := HC.out k hlt
      have hi : (k : Int) < (s.size : Int) := by omega
      have HM := Lib.hid (more_take x s k hlt)
      generalize more x (s.data.toList.take k) = b at HM ⊢
      go_wp2
      go_step3
      go_wp2
      go_step3
      go_wp2
      rw [go_top]
      generalize hb : b ^^^ top s.data[k] = c at HM ⊢
      clear hb
      go_loop [0, 7] (fun v i => ∃ (j : Nat), j ≤ 8 ∧ i = .int .i64 j ∧ v = .int .u16 ((Tn j c).toNat : Int)) (fun _ i => 8 - (intOf i).toNat)
      case atStart => exact ⟨0, by omega, rfl, rfl⟩
      case round =>
        obtain ⟨j, hj, rfl, rfl⟩ := hrel
        by_cases hj8 : j < 8
        · have HT := Lib.hid (Tn_succ' j c)
          generalize Tn j c = y at HT ⊢
          have hy := y.isLt
          by_cases hyl : y.toNat < 32768
          · have hq : ((y.toNat : Int) / 32768 == 0) = true := by simp; omega
            have HL := Lib.hid (go_low y hyl)
            go_wp2
            refine ⟨⟨j + 1, by omega, by go_num, ?_⟩, by simp [intOf]; omega⟩
            rw [HT.out, HL.out]
          · have hq : ((y.toNat : Int) / 32768 == 0) = false := by simp; omega
            have HL := Lib.hid (go_high y (by omega))
            go_wp2
            refine ⟨⟨j + 1, by omega, by go_num, ?_⟩, by simp [intOf]; omega⟩
            rw [HT.out, HL.out]
        · obtain rfl : j = 8 := by omega
          go_wp2
          refine ⟨⟨k + 1, by omega, by go_num, ?_⟩, by simp [intOf]; omega⟩
          rw [HM.out]
    · obtain rfl : k = s.size := by omega
      have HE : Hid (s.data.toList.take s.size = s.data.toList) := List.take_of_length_le (by simp)
      go_wp2
      go_ret
      exact ⟨ret_int (by rw [HE.out]), HB⟩
theorem below_then {B : Nat} {w w1 w2 : World} (h : Below B w w1) (hB : B ≤ w1.heap.size) (k : Below w1.heap.size w1 w2) : Below B w w2 := h.trans (k.mono hB)

/-- A text's sum. -/
def ofS (s : ByteArray) : BitVec 16 := more 0xffff#16 s.data.toList

set_option maxHeartbeats 400000 in
theorem of_any (s : ByteArray) (w : World) (hs : s.size ≤ maxLen) :
    Calls Try.prog 17 #[.string s] w fun e w' => e = .returned (.int .u16 ((ofS s).toNat : Int)) ∧ Below w.heap.size w w' := by
  have hc := more_any 0xffff#16 s w hs
  have HC := Lib.hid hc
  clear hc
  go_enter Try.func17, Try.ntmps17
  go_wp2_with (go_at_call 16; refine HC.out.mono ?_; rintro e w1 ⟨rfl, hb⟩)
  go_ret
  exact ⟨rfl, hb⟩

/-- Is a text one? -/
def rightS (s : ByteArray) : Bool := decide (2 ≤ s.size) && (ofS s == 0#16)

theorem ret_bool {a b : Bool} (h : a = b) : Ending.returned (.bool a) = .returned (.bool b) := by rw [h]

theorem nat_beq (b : BitVec 16) : ((b.toNat : Int) == 0) = (b == 0#16) := by
  rw [Bool.eq_iff_iff]
  simp
  constructor
  · intro h; apply BitVec.eq_of_toNat_eq; simpa using h
  · rintro rfl; rfl

set_option maxHeartbeats 400000 in
theorem right_any (s : ByteArray) (w : World) (hs : s.size ≤ maxLen) :
    Calls Try.prog 21 #[.string s] w fun e w' => e = .returned (.bool (rightS s)) ∧ Below w.heap.size w w' := by
  have hc := of_any s w hs
  have HC := Lib.hid hc
  clear hc
  unfold maxLen at hs
  by_cases h2 : 2 ≤ s.size
  · have h2' : (2 : Int) ≤ (s.size : Int) := by omega
    have HR : Hid ((((ofS s).toNat : Int) == 0) = rightS s) := by
      show _ = _
      rw [nat_beq]; unfold rightS; simp [h2]
    go_enter Try.func21, Try.ntmps21
    go_wp2_with (go_at_call 17; refine HC.out.mono ?_; rintro e w1 ⟨rfl, hb⟩)
    go_ret
    exact ⟨ret_bool HR.out, hb⟩
  · have h2' : ¬ (2 : Int) ≤ (s.size : Int) := by omega
    have HR : Hid (false = rightS s) := by
      show _ = _
      unfold rightS; simp [h2]
    go_enter Try.func21, Try.ntmps21
    go_wp2_with (go_at_call 17; refine HC.out.mono ?_; rintro e w1 ⟨rfl, hb⟩)
    go_ret
    exact ⟨ret_bool HR.out, Below.refl _ _⟩

/-- Two bytes as a text. -/
def two (p q : Int) : ByteArray := strOfNums [p, q]
theorem two_size (p q : Int) : (two p q).size = 2 := strOfNums_size _

theorem conv2 (w1 : World) (p q : Int) : (convert 32 9 (.slice (some ⟨w1.heap.size, 0, none⟩) 2 2)).run Try.prog (w1.alloc (.cells #[.int .u8 p, .int .u8 q] 5)) = .ok (.string (two p q)) (w1.alloc (.cells #[.int .u8 p, .int .u8 q] 5)) := by
  refine run_convert_bytes_arg _ 32 5 Try.underlying32 Try.underlying5 w1.heap.size 0 2 2 [p, q] rfl ?_ 9 Try.underlying9
  intro i hi
  have h : i = 0 ∨ i = 1 := by omega
  rcases h with rfl | rfl <;> go_simp

/-- A text with its sum. -/
def sealS (s : ByteArray) : ByteArray := s ++ two ((ofS s).toNat / 256) ((ofS s).toNat % 256)

theorem ret_string {a b : ByteArray} (h : a = b) : Ending.returned (.string a) = .returned (.string b) := by rw [h]

set_option maxHeartbeats 400000 in
theorem seal_any (s : ByteArray) (w : World) (hs : s.size ≤ 281474976710656) :
    Calls Try.prog 20 #[.string s] w fun e w' => e = .returned (.string (sealS s)) ∧ Below w.heap.size w w' := by
  have hc := of_any s w (by unfold maxLen; omega)
  have HC := Lib.hid hc
  clear hc
  have hcv := conv2
  have hsz := two_size
  go_enter Try.func20, Try.ntmps20
  go_wp2_with (go_at_call 17; refine HC.out.mono ?_; rintro e w1 ⟨rfl, hb⟩)
  go_ret
  exact ⟨rfl, hb.alloc hb.size _⟩

theorem awake_1 : ofS ⟨#[49, 50, 51, 52, 53, 54, 55, 56, 57]⟩ = 10673#16 := by decide +kernel
theorem awake_2 : ofS ⟨#[]⟩ = 65535#16 := by decide +kernel
theorem awake_3 : rightS (sealS ⟨#[97]⟩) = true := by decide +kernel
theorem awake_4 : rightS ⟨#[]⟩ = false := by decide +kernel
theorem awake_5 : rightS ⟨#[97, 98]⟩ = false := by decide +kernel
theorem awake_6 : rightS ⟨#[255, 255]⟩ = true := by decide +kernel

set_option maxHeartbeats 400000 in
theorem awake_any (w : World) : Calls Try.prog 15 #[] w fun e w' => e = .returned (.bool true) ∧ Below w.heap.size w w' := by
  go_enter Try.func15, Try.ntmps15
  go_wp2_with fail
  refine (of_any _ _ (by unfold maxLen; decide)).mono ?_; rintro e w1 ⟨rfl, hb1⟩
  rw [awake_1]
  have HB1 := Lib.hid hb1; clear hb1
  go_wp2_with fail
  refine (of_any _ _ (by unfold maxLen; decide)).mono ?_; rintro e w2 ⟨rfl, hb2⟩
  rw [awake_2]
  have HB2 := Lib.hid (below_then HB1.out HB1.out.size hb2); clear hb2
  go_wp2_with fail
  refine (seal_any _ _ (by decide)).mono ?_; rintro e w3 ⟨rfl, hb3⟩
  have HB3 := Lib.hid (below_then HB2.out HB2.out.size hb3); clear hb3
  go_wp2_with fail
  refine (right_any _ _ (by decide)).mono ?_; rintro e w4 ⟨rfl, hb4⟩
  rw [awake_3]
  have HB4 := Lib.hid (below_then HB3.out HB3.out.size hb4); clear hb4
  go_wp2_with fail
  refine (right_any _ _ (by decide)).mono ?_; rintro e w5 ⟨rfl, hb5⟩
  rw [awake_4]
  have HB5 := Lib.hid (below_then HB4.out HB4.out.size hb5); clear hb5
  go_wp2_with fail
  refine (right_any _ _ (by decide)).mono ?_; rintro e w6 ⟨rfl, hb6⟩
  rw [awake_5]
  have HB6 := Lib.hid (below_then HB5.out HB5.out.size hb6); clear hb6
  go_wp2_with fail
  refine (right_any _ _ (by decide)).mono ?_; rintro e w7 ⟨rfl, hb7⟩
  rw [awake_6]
  have HB7 := Lib.hid (below_then HB6.out HB6.out.size hb7); clear hb7
  go_wp2_with fail
  go_ret
  exact ⟨rfl, HB7.out⟩
end Go.Proofs.Ytdecoenollejiaa
