/- Walks of package gimbalref10: bit, More, Of, Seal, Right: the same results as package crc's. -/
import Derived.Test.YtdecoenollejiaaCrcW
import Derived.Lib.Strings
namespace Go.Proofs.Ytdecoenollejiaa
open Go.RowKit CrcMath

theorem bits_i64 (a b : BitVec 16) : bits .xor .i64 (a.toNat : Int) (b.toNat : Int) = ((a ^^^ b).toNat : Int) := by
  show IntKind.i64.wrap (((BitVec.ofInt 64 (a.toNat : Int) ^^^ BitVec.ofInt 64 (b.toNat : Int)).toNat : Nat) : Int) = _
  have e : ∀ x : BitVec 16, (BitVec.ofInt 64 (x.toNat : Int)).toNat = x.toNat := fun x => by
    have := x.isLt
    simp [BitVec.ofInt_natCast]
    omega
  rw [BitVec.toNat_xor, e, e, ← BitVec.toNat_xor, IntKind.wrap_i64]
  have := (a ^^^ b).isLt
  omega

theorem ref_bit_high (b : BitVec 16) (h : 32768 ≤ b.toNat) : bits .xor .i64 ((b.toNat : Int) * 2 % 65536) 4129 = ((T b).toNat : Int) := by
  have e := go_shl b
  rw [wrap_u16] at e
  rw [T_high b h, e]
  exact bits_i64 _ 0x1021#16

theorem ref_bit_low (b : BitVec 16) (h : b.toNat < 32768) : (b.toNat : Int) * 2 % 65536 = ((T b).toNat : Int) := by
  rw [T_low b h, ← go_shl, wrap_u16]

set_option maxHeartbeats 400000 in
theorem refbit_any (b : BitVec 16) (w : World) :
    Calls Try.prog 33 #[.int .i64 (b.toNat : Int)] w fun e w' => e = .returned (.int .i64 ((T b).toNat : Int)) ∧ w = w' := by
  have hb := b.isLt
  by_cases h : b.toNat < 32768
  · have h' : ¬ (32768 : Int) ≤ (b.toNat : Int) := by omega
    have HL := Lib.hid (ref_bit_low b h)
    go_enter Try.func33, Try.ntmps33
    go_wp2
    go_ret
    exact ⟨ret_int HL.out, rfl⟩
  · have h' : (32768 : Int) ≤ (b.toNat : Int) := by omega
    have HL := Lib.hid (ref_bit_high b (by omega))
    go_enter Try.func33, Try.ntmps33
    go_wp2
    go_ret
    exact ⟨ret_int HL.out, rfl⟩

theorem ref_top (b : BitVec 16) (c : UInt8) : bits .xor .i64 (b.toNat : Int) (wrap64 (wrap64 (c.toNat : Int) * 256)) = ((b ^^^ top c).toNat : Int) := by
  have e : wrap64 (wrap64 (c.toNat : Int) * 256) = ((top c).toNat : Int) := by
    have := c.toNat_lt
    rw [top_toNat]; unfold wrap64; omega
  rw [e, bits_i64]

set_option maxHeartbeats 400000 in
theorem refmore_any (x : BitVec 16) (s : ByteArray) (w : World) (hs : s.size ≤ maxLen) :
    Calls Try.prog 18 #[.int .i64 (x.toNat : Int), .string s] w fun e w' => e = .returned (.int .i64 ((more x s.data.toList).toNat : Int)) ∧ w = w' := by
  unfold maxLen at hs
  go_enter Try.func18, Try.ntmps18
  go_wp2
  go_loop [0, 5] (fun v i => ∃ k : Nat, k ≤ s.size ∧ i = .int .i64 k ∧ v = .int .i64 ((more x (s.data.toList.take k)).toNat : Int)) (fun _ i => s.size - (intOf i).toNat)
  case atStart => exact ⟨0, by omega, rfl, rfl⟩
  case round =>
    obtain ⟨k, hk, rfl, rfl⟩ := hrel
    by_cases hlt : k < s.size
    · have hi : (k : Int) < (s.size : Int) := by omega
      have HM := Lib.hid (more_take x s k hlt)
      generalize more x (s.data.toList.take k) = b at HM ⊢
      go_wp2
      have e : (s[k]'hlt) = s.data[k] := rfl
      rw [e, ref_top]
      clear e
      generalize hb : b ^^^ top s.data[k] = c at HM ⊢
      clear hb
      go_loop [0, 6] (fun v i => ∃ (j : Nat), j ≤ 8 ∧ i = .int .i64 j ∧ v = .int .i64 ((Tn j c).toNat : Int)) (fun _ i => 8 - (intOf i).toNat)
      case atStart => exact ⟨0, by omega, rfl, rfl⟩
      case round =>
        obtain ⟨j, hj, rfl, rfl⟩ := hrel
        by_cases hj8 : j < 8
        · have HT := Lib.hid (Tn_succ' j c)
          have HC := Lib.hid (refbit_any (Tn j c) w)
          generalize Tn j c = y at HT HC ⊢
          go_wp2_with (go_at_call 33; refine HC.out.mono ?_; rintro e w1 ⟨rfl, rfl⟩)
          refine ⟨⟨j + 1, by omega, by go_num, ?_⟩, by simp [intOf]; omega⟩
          rw [HT.out]
        · obtain rfl : j = 8 := by omega
          go_wp2
          refine ⟨⟨k + 1, by omega, by go_num, ?_⟩, by simp [intOf]; omega⟩
          rw [HM.out]
    · obtain rfl : k = s.size := by omega
      have HE : Hid (s.data.toList.take s.size = s.data.toList) := List.take_of_length_le (by simp)
      go_wp2
      go_ret
      exact ⟨ret_int (by rw [HE.out]), rfl⟩
set_option maxHeartbeats 400000 in
theorem refof_any (s : ByteArray) (w : World) (hs : s.size ≤ maxLen) :
    Calls Try.prog 19 #[.string s] w fun e w' => e = .returned (.int .i64 ((ofS s).toNat : Int)) ∧ w = w' := by
  have HC := Lib.hid (refmore_any 0xffff#16 s w hs)
  go_enter Try.func19, Try.ntmps19
  go_wp2_with (go_at_call 18; refine HC.out.mono ?_; rintro e w1 ⟨rfl, rfl⟩)
  go_ret
  exact ⟨rfl, rfl⟩

set_option maxHeartbeats 400000 in
theorem refseal_any (s : ByteArray) (w : World) (hs : s.size ≤ 281474976710656) :
    Calls Try.prog 22 #[.string s] w fun e w' => e = .returned (.string (sealS s)) ∧ Below w.heap.size w w' := by
  have HC := Lib.hid (refof_any s w (by unfold maxLen; omega))
  have hcv := conv2
  have hsz := two_size
  have hb := (ofS s).isLt
  go_enter Try.func22, Try.ntmps22
  go_wp2_with (go_at_call 19; refine HC.out.mono ?_; rintro e w1 ⟨rfl, rfl⟩)
  go_ret
  exact ⟨rfl, (Below.refl _ _).alloc (Nat.le_refl _) _⟩

theorem list_end (l : List UInt8) (h : 2 ≤ l.length) : ∃ m a b, l = m ++ [a, b] := by
  refine ⟨l.take (l.length - 2), l[l.length - 2], l[l.length - 1], ?_⟩
  have h1 := List.take_append_drop (l.length - 2) l
  conv => lhs; rw [← h1]
  congr 1
  have h2 : l.drop (l.length - 2) = l[l.length - 2] :: l.drop (l.length - 2 + 1) := List.drop_eq_getElem_cons (by omega)
  rw [h2]
  congr 1
  have h3 : l.drop (l.length - 2 + 1) = l[l.length - 2 + 1] :: l.drop (l.length - 2 + 1 + 1) := List.drop_eq_getElem_cons (by omega)
  rw [h3, List.drop_eq_nil_of_le (by omega)]
  congr 1
  congr 1
  omega

theorem sealS_data (s : ByteArray) : (sealS s).data.toList = s.data.toList ++ [UInt8.ofNat ((ofS s).toNat / 256), UInt8.ofNat ((ofS s).toNat % 256)] := by
  unfold sealS two
  rw [ByteArray.data_append, Array.toList_append]
  congr 1

theorem ofS_seal (m : List UInt8) (a b : UInt8) : (more 0xffff#16 (m ++ [a, b]) = 0#16) ↔ (a = UInt8.ofNat ((more 0xffff#16 m).toNat / 256) ∧ b = UInt8.ofNat ((more 0xffff#16 m).toNat % 256)) := by
  rw [more_append, more_seal_iff]
  have hx := (more 0xffff#16 m).isLt
  generalize more 0xffff#16 m = x at hx ⊢
  have ha := a.toNat_lt
  have hb := b.toNat_lt
  constructor
  · intro h
    have h1 : x.toNat = a.toNat * 256 + b.toNat := by rw [h]; simp; omega
    constructor
    · apply UInt8.toNat_inj.1; simp; omega
    · apply UInt8.toNat_inj.1; simp; omega
  · rintro ⟨rfl, rfl⟩
    apply BitVec.eq_of_toNat_eq
    simp
    omega

theorem rightS_ref (s : ByteArray) (h : 2 ≤ s.size) : ((sealS (s.extract 0 (s.size - 2))).toList == s.toList) = rightS s := by
  rw [Lib.toList_data, Lib.toList_data, sealS_data]
  obtain ⟨m, a, b, e⟩ := list_end s.data.toList (by simpa using h)
  have hx : (s.extract 0 (s.size - 2)).data.toList = m := by
    rw [Lib.extract_data]
    have hl : s.size = m.length + 2 := by
      have := congrArg List.length e
      simpa using this
    rw [e, hl]
    simp
  unfold rightS ofS
  rw [hx, e]
  simp only [h, decide_true, Bool.true_and]
  rw [Bool.eq_iff_iff, beq_iff_eq, beq_iff_eq, ofS_seal, List.append_cancel_left_eq]
  constructor
  · intro h
    injection h with h1 h2
    injection h2 with h2 _
    exact ⟨h1.symm, h2.symm⟩
  · rintro ⟨h1, h2⟩
    rw [← h1, ← h2]

theorem rightS_seal (s : ByteArray) : rightS (sealS s) = true := by
  have hsz : (sealS s).size = s.size + 2 := by unfold sealS; rw [ByteArray.size_append, two_size]
  unfold rightS ofS
  rw [sealS_data]
  have := (ofS_seal s.data.toList _ _).2 ⟨rfl, rfl⟩
  unfold ofS
  rw [this, hsz]
  simp

set_option maxHeartbeats 400000 in
theorem refright_any (s : ByteArray) (w : World) (hs : s.size ≤ 281474976710656) :
    Calls Try.prog 23 #[.string s] w fun e w' => e = .returned (.bool (rightS s)) ∧ Below w.heap.size w w' := by
  by_cases h2 : 2 ≤ s.size
  · have h2' : ¬ (s.size : Int) < 2 := by omega
    have hl : s.size - 2 ≤ s.size := by omega
    have HC := Lib.hid (refseal_any (s.extract 0 (s.size - 2)) w (by simp; omega))
    have HR := Lib.hid (rightS_ref s h2)
    go_enter Try.func23, Try.ntmps23
    go_wp2_with fail
    refine HC.out.mono ?_; rintro e w1 ⟨rfl, hb1⟩
    go_wp2_with fail
    go_ret
    exact ⟨ret_bool HR.out, hb1⟩
  · have h2' : (s.size : Int) < 2 := by omega
    have HR : Hid (false = rightS s) := by
      show _ = _
      unfold rightS; simp [h2]
    go_enter Try.func23, Try.ntmps23
    go_wp2
    go_ret
    exact ⟨ret_bool HR.out, Below.refl _ _⟩
end Go.Proofs.Ytdecoenollejiaa
