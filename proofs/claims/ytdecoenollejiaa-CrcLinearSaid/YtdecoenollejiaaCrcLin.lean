/- Walk of the law CrcLinear: three texts, cut to one length, are turned together byte by byte; the law returns true; nothing that was there is changed. -/
import Derived.Test.YtdecoenollejiaaCrcLaws
import Derived.Deep.AppendLies
import Derived.Deep.RegionLaw
import Derived.Laws.AppendOwn
import Derived.Laws.BytesArg
import Derived.Deep.LoopGhost
set_option linter.unusedVariables false
set_option linter.unusedSimpArgs false
namespace Go.Proofs.Ytdecoenollejiaa
open Go.RowKit CrcMath

theorem min3_int (ats : Array TypeId) (ty : TypeId) (k : IntKind) (a b c : Int) : Builtin.min_ ats ty #[.int k a, .int k b, .int k c] = pure (.int k (min (min a b) c)) := by
  have h2 : ∀ x y : Int, Builtin.min2 (.int k x) (.int k y) = pure (.int k (min x y)) := by
    intro x y
    simp only [Builtin.min2]
    by_cases h : y < x
    · rw [if_pos h, show min x y = y by omega]
    · rw [if_neg h, show min x y = x by omega]
  simp only [Builtin.min_, List.foldlM_cons, List.foldlM_nil, h2, pure_bind]
attribute [local go_sem] min3_int

/-- The three texts' bytes turned together, k of them. -/
def xor3 (s t u : List UInt8) (k : Nat) : List UInt8 := (List.zipWith (· ^^^ ·) (List.zipWith (· ^^^ ·) s t) u).take k

theorem info5 : (Try.prog.info? 5).map (fun i => (i.zero, i.size, i.bytes)) = some (some (.int .u8 0), 1, 1) := by kernel_rfl

def encB (c : UInt8) : Value := .int .u8 (c.toNat : Int)

theorem xor3_val (a b c : UInt8) : Value.int .u8 (bits BinOp.xor IntKind.u8 (bits BinOp.xor IntKind.u8 (a.toNat : Int) (b.toNat : Int)) (c.toNat : Int)) = encB (a ^^^ b ^^^ c) := by
  have e : ∀ c d : UInt8, bits BinOp.xor IntKind.u8 (c.toNat : Int) (d.toNat : Int) = (((c ^^^ d).toNat : Nat) : Int) := by
    intro c d
    show IntKind.u8.wrap (((BitVec.ofInt 8 (c.toNat : Int) ^^^ BitVec.ofInt 8 (d.toNat : Int)).toNat : Nat) : Int) = _
    have e : ∀ x : UInt8, (BitVec.ofInt 8 (x.toNat : Int)).toNat = x.toNat := fun x => by
      have := x.toNat_lt
      simp [BitVec.ofInt_natCast]
    rw [BitVec.toNat_xor, e, e, UInt8.toNat_xor, IntKind.wrap_u8]
    have h : (c ^^^ d).toNat < 256 := (c ^^^ d).toNat_lt
    rw [UInt8.toNat_xor] at h
    omega
  rw [e, e]
  rfl

theorem xor3_snoc (s t u : ByteArray) (k : Nat) (h0 : k < s.size) (h1 : k < t.size) (h2 : k < u.size) : xor3 s.data.toList t.data.toList u.data.toList (k + 1) = xor3 s.data.toList t.data.toList u.data.toList k ++ [s[k] ^^^ t[k] ^^^ u[k]] := by
  unfold xor3
  rw [List.take_succ_eq_append_getElem (by simp; omega)]
  congr 1
  simp
  rfl

theorem xor3_row (s t u : ByteArray) (k : Nat) (h0 : k < s.size) (h1 : k < t.size) (h2 : k < u.size) : (xor3 s.data.toList t.data.toList u.data.toList k).map encB ++ [Value.int .u8 (bits BinOp.xor IntKind.u8 (bits BinOp.xor IntKind.u8 (s[k].toNat : Int) (t[k].toNat : Int)) (u[k].toNat : Int))] = (xor3 s.data.toList t.data.toList u.data.toList (k + 1)).map encB := by
  rw [xor3_snoc s t u k h0 h1 h2, List.map_append, xor3_val]
  rfl

theorem xor3_length (s t u : ByteArray) (m : Nat) (h0 : m ≤ s.size) (h1 : m ≤ t.size) (h2 : m ≤ u.size) : (xor3 s.data.toList t.data.toList u.data.toList m).length = m := by
  unfold xor3
  simp
  omega

theorem xor3_more (s t u : ByteArray) (m : Nat) (h0 : m ≤ s.size) (h1 : m ≤ t.size) (h2 : m ≤ u.size) : more 0xffff#16 (xor3 s.data.toList t.data.toList u.data.toList m) = ofS (s.extract 0 m) ^^^ ofS (t.extract 0 m) ^^^ ofS (u.extract 0 m) := by
  unfold ofS xor3
  rw [Lib.extract_data, Lib.extract_data, Lib.extract_data, List.drop_zero, List.drop_zero, List.drop_zero, Nat.sub_zero]
  rw [List.take_zipWith, List.take_zipWith]
  rw [← more_xor _ _ _ _ (by simp; omega), ← more_xor _ _ _ _ (by simp; omega)]
  rw [BitVec.xor_self, BitVec.zero_xor]

theorem own_base {w : World} {base : Nat} {e : TypeId} {size n : Nat} {v : Value} {xs : List Value} (h : w.ownsRow base e size v n xs) (k : Nat) (hk : v.ownBlock = some k) : base ≤ k := by
  rcases h.2 with ⟨rfl, _⟩ | ⟨g, cap, cur, rfl, hb, _⟩
  · simp [Value.ownBlock] at hk
  · have : g = k := by simpa [Value.ownBlock] using hk
    omega

theorem own_below {w w1 : World} {base : Nat} {e : TypeId} {size n : Nat} {v : Value} {xs : List Value} (h : w.ownsRow base e size v n xs) (hb : Below w.heap.size w w1) : w1.ownsRow base e size v n xs :=
  h.kept (row := none) ⟨hb.os, hb.tape, hb.output, hb.size, fun i hi _ => hb.block i hi⟩ (by cases v.ownBlock <;> simp)

theorem own_string {wr : World} {base k : Nat} {v : Value} {l : List UInt8} (h : wr.ownsRow base 5 1 v k (l.map encB)) : (convert 32 9 v).run Try.prog wr = .ok (.string ⟨l.toArray⟩) wr := by
  have hl : l.length = k := by have := h.1; simpa using this
  rcases h.2 with ⟨rfl, h0⟩ | ⟨g, cap, cur, rfl, _⟩
  · have e : l = [] := List.length_eq_zero_iff.1 (by omega)
    subst e
    exact run_convert_bytes_nil (P := Try.prog) wr 32 5 Try.underlying32 Try.underlying5 0 0 9 Try.underlying9
  · have := run_convert_bytes_arg (P := Try.prog) wr 32 5 Try.underlying32 Try.underlying5 g 0 k cap (l.map fun c => (c.toNat : Int)) (by rw [List.length_map]; exact hl) (fun i hi => by
      have h3 := h.cells (g := g) rfl i (encB (l.getD i 0)) (by simp [List.getD_eq_getElem?_getD, List.getElem?_eq_getElem (show i < l.length by omega)])
      have hplain : (⟨g, 0, none⟩ : Addr).add i = ⟨g, 0 + i, none⟩ := by unfold Addr.add; split <;> simp_all
      rw [hplain] at h3
      rw [h3]
      simp [encB, List.getD_eq_getElem?_getD, List.getElem?_eq_getElem (show i < l.length by omega)]) 9 Try.underlying9
    rw [this]
    congr 2
    unfold strOfNums
    congr 1
    congr 1
    rw [List.map_map]
    have e : ((fun n : Int => UInt8.ofNat n.toNat) ∘ fun c : UInt8 => (c.toNat : Int)) = id := by funext c; simp
    rw [e, List.map_id]

theorem bits_u16_3 (a b c : BitVec 16) : bits .xor .u16 (bits .xor .u16 (a.toNat : Int) (b.toNat : Int)) (c.toNat : Int) = ((a ^^^ b ^^^ c).toNat : Int) := by rw [bits_u16, bits_u16]

set_option maxHeartbeats 1000000 in
theorem CrcLinear_walk (a0 a1 a2 : ByteArray) (w0 : a0.size ≤ 140737488351232) (w1 : a1.size ≤ 140737488351232) (w2 : a2.size ≤ 140737488351232) (w : World) :
    Calls Try.prog 7 #[.string a0, .string a1, .string a2] w fun e w' => e = .returned (.bool true) ∧ Below w.heap.size w w' := by
  obtain ⟨i0, hi, hx⟩ := Option.map_eq_some_iff.1 info5
  simp only [Prod.mk.injEq] at hx
  obtain ⟨hz0, hz1, hz2⟩ := hx
  have HI : Hid (Try.prog.info? 5 = some i0 ∧ i0.zero = some (.int .u8 0) ∧ i0.size = 1 ∧ i0.bytes = 1) := ⟨hi, hz0, hz1, hz2⟩
  clear hi hz0 hz1 hz2
  obtain ⟨m, hm⟩ : ∃ m : Nat, min (min (a0.size : Int) (a1.size : Int)) (a2.size : Int) = (m : Int) := ⟨min (min a0.size a1.size) a2.size, by omega⟩
  have hm0 : m ≤ a0.size := by omega
  have hm1 : m ≤ a1.size := by omega
  have hm2 : m ≤ a2.size := by omega
  go_enter Try.func7, Try.ntmps7
  go_wp2_with fail
  refine (awake_any _).mono ?_; rintro e wp ⟨rfl, hb1⟩
  have HB0 := Lib.hid hb1; clear hb1
  go_wp2_with fail
  clear hm
  go_loopg [9, 10] m (fun g v i wr => ∃ k : Nat, k + g = m ∧ i = .int .i64 k ∧ wr.ownsRow w.heap.size 5 1 v k ((xor3 a0.data.toList a1.data.toList a2.data.toList k).map encB) ∧ Below w.heap.size w wr)
  case atStart => exact ⟨0, by omega, rfl, ⟨by simp [xor3], .inl ⟨rfl, rfl⟩⟩, HB0.out⟩
  case round =>
    obtain ⟨k, hk, rfl, hown, hB⟩ := hrel
    by_cases hkm : k < m
    · have hkm' : (k : Int) < (m : Int) := by omega
      have HO := Lib.hid hown; have HB := Lib.hid hB
      clear hown hB
      have h0 : k < a0.size := by omega
      have h1 : k < a1.size := by omega
      have h2 : k < a2.size := by omega
      go_wp2

      obtain ⟨hi, hz0, hz1, hz2⟩ := HI.out
      have HBS : ∀ o, w.heap.size ≤ (wr.alloc o).heap.size := fun o => by have := HB.out.size; simp; omega
      have H63 : k + 1 ≤ maxLen := by unfold maxLen; omega
      have HBY : (k + 1) * 1 ≤ 140737488355328 := by omega
      have HONE : ∀ v ∈ [Value.int .u8 (bits BinOp.xor IntKind.u8 (bits BinOp.xor IntKind.u8 (a0[k].toNat : Int) (a1[k].toNat : Int)) (a2[k].toNat : Int))], v.oneCell' = true := by intro u hu; simp at hu; subst hu; rfl
      go_region_law (refine step_append_lies _ rfl (.tmp 28) (.tmp 40) 32 rfl w.heap.size 5 i0 (.int .u8 0) 1 1 Try.underlying32 hi hz0 hz1 hz2 rfl (by decide) u9 k _ rfl (HO.out.alloc _) ⟨wr.heap.size, 0, none⟩ 1 1 [Value.int .u8 (bits BinOp.xor IntKind.u8 (bits BinOp.xor IntKind.u8 (a0[k].toNat : Int) (a1[k].toNat : Int)) (a2[k].toNat : Int))] rfl rfl (cell_one_new _ _ _) HONE (by decide) H63 HBY (HBS _) _ rfl ?_; intro g cap wn hown1 hgrow1 hat1 hlt1)
      all_goals
        rw [xor3_row a0 a1 a2 k h0 h1 h2] at hown1
        have Y := Lib.hid (And.intro hown1 ((HB.out.alloc HB.out.size (.cells #[Value.int .u8 (bits BinOp.xor IntKind.u8 (bits BinOp.xor IntKind.u8 (a0[k].toNat : Int) (a1[k].toNat : Int)) (a2[k].toNat : Int))] 5)).drew.grown hgrow1 (HBS _) (fun j hj => own_base HO.out j hj)))
        clear hown1 hgrow1 hat1 hlt1 HO HB HBS HONE hi hz0 hz1 hz2 H63 HBY
        go_wp2
        go_roundg (gk - 1)
        case measure => omega
        case rel => exact ⟨k + 1, by omega, by go_num, Y.out.1, Y.out.2⟩
    · obtain rfl : k = m := by omega
      have HB := Lib.hid hB
      have HX := Lib.hid (xor3_more a0 a1 a2 k hm0 hm1 hm2)
      have HL := Lib.hid (xor3_length a0 a1 a2 k hm0 hm1 hm2)
      generalize xor3 a0.data.toList a1.data.toList a2.data.toList k = l at *
      have HO := Lib.hid hown
      have HE0 : Hid ((a0.extract 0 k).size ≤ maxLen) := by show _ ≤ _; rw [ByteArray.size_extract]; unfold maxLen; omega
      have HE1 : Hid ((a1.extract 0 k).size ≤ maxLen) := by show _ ≤ _; rw [ByteArray.size_extract]; unfold maxLen; omega
      have HE2 : Hid ((a2.extract 0 k).size ≤ maxLen) := by show _ ≤ _; rw [ByteArray.size_extract]; unfold maxLen; omega
      have HE3 : Hid ((⟨l.toArray⟩ : ByteArray).size ≤ maxLen) := by show _ ≤ _; rw [show (⟨l.toArray⟩ : ByteArray).size = l.length by simp [ByteArray.size], HL.out]; unfold maxLen; omega
      clear hown hB
      go_wp2_with fail
      refine (of_any _ _ HE0.out).mono ?_; rintro e we1 ⟨rfl, hb⟩
      have HB1 := Lib.hid (below_then HB.out HB.out.size hb); have HO1 := Lib.hid (own_below HO.out hb); clear hb
      go_wp2_with fail
      refine (of_any _ _ HE1.out).mono ?_; rintro e we2 ⟨rfl, hb⟩
      have HB2 := Lib.hid (below_then HB1.out HB1.out.size hb); have HO2 := Lib.hid (own_below HO1.out hb); clear hb
      go_wp2_with fail
      refine (of_any _ _ HE2.out).mono ?_; rintro e we3 ⟨rfl, hb⟩
      have HB3 := Lib.hid (below_then HB2.out HB2.out.size hb); have hs := own_string (own_below HO2.out hb); clear hb
      go_wp2_with fail
      clear hs
      refine (of_any _ _ HE3.out).mono ?_; rintro e we4 ⟨rfl, hb⟩
      have HB4 := Lib.hid (below_then HB3.out HB3.out.size hb); clear hb
      have HF : Hid ((((ofS ⟨l.toArray⟩).toNat : Int) == bits .xor .u16 (bits .xor .u16 ((ofS (a0.extract 0 k)).toNat : Int) ((ofS (a1.extract 0 k)).toNat : Int)) ((ofS (a2.extract 0 k)).toNat : Int)) = true) := by
        show _ = _
        rw [bits_u16_3, ← HX.out]
        unfold ofS
        rw [show (⟨l.toArray⟩ : ByteArray).data.toList = l by simp]
        simp
      go_wp2_with fail
      go_ret
      exact ⟨ret_bool HF.out, HB4.out⟩
end Go.Proofs.Ytdecoenollejiaa
