/- Walks of the laws CrcUnlike and CrcTells: bits of a copy are turned in a loop; each law returns true; nothing that was there is changed. -/
import Derived.Test.YtdecoenollejiaaCrcLaws
import Derived.Test.YtdecoenollejiaaFlips
import Derived.RegionTactic
import Derived.BigRegion
import Derived.ChangeAlike
import Derived.Laws.BytesArg
import Derived.Deep.LoopGhost
namespace Go.Proofs.Ytdecoenollejiaa
open Go.RowKit CrcMath

/-- A row of bytes of the call's own, none of them frozen. -/
def Row (wr : World) (B n : Nat) (l : List UInt8) : Prop :=
  l.length = n ∧ (∀ j, j < n → wr.cell? ⟨B, j, none⟩ = some (.int .u8 ((l.getD j 0).toNat : Int))) ∧ ∀ j, j < n → wr.frozen? ⟨B, j, none⟩ = false

theorem Row.new (w : World) (s : ByteArray) : Row (Lib.bytesWorld w 5 s) w.heap.size s.size s.data.toList := by
  refine ⟨by simp, fun j hj => Lib.bytesWorld_cell w 5 s j hj, fun j hj => ?_⟩
  unfold World.frozen?
  rw [Lib.bytesWorld_at_new]
  have : s.size ≤ (Lib.bytesCells w 5 s).size := by simp [Lib.bytesCells]
  simp
  omega

theorem Row.set {wr : World} {B n : Nat} {l : List UInt8} (h : Row wr B n l) (j : Nat) (c : UInt8) (hj : j < n) : Row (wr.setCell ⟨B, j, none⟩ (.int .u8 (c.toNat : Int))) B n (l.set j c) := by
  refine ⟨by rw [List.length_set]; exact h.1, fun k hk => ?_, fun k hk => by rw [World.frozen?_setCell]; exact h.2.2 k hk⟩
  by_cases e : k = j
  · subst e
    rw [World.cell?_setCell_same (h := h.2.1 k hk)]
    rw [List.getD_eq_getElem?_getD, List.getElem?_set_self (by rw [h.1]; exact hj)]
    rfl
  · rw [World.cell?_setCell_other (h := by intro h; injection h with _ h2; exact e h2.symm), h.2.1 k hk]
    rw [List.getD_eq_getElem?_getD, List.getD_eq_getElem?_getD, List.getElem?_set_ne (fun h => e h.symm)]

theorem Row.drew {wr : World} {B n : Nat} {l : List UInt8} (h : Row wr B n l) : Row wr.drew B n l := h


theorem bit_test (p : Nat) (k : Nat) (hp : p < 65536) : (bits BinOp.and IntKind.u16 ((p : Int) / 2 ^ (15 - k)) 1 == 1) = p.testBit (15 - k) := by
  have h1 : ((p : Int) / 2 ^ (15 - k)) = ((p / 2 ^ (15 - k) : Nat) : Int) := by simp
  have h2 : p / 2 ^ (15 - k) ≤ p := Nat.div_le_self _ _
  have h3 : bits BinOp.and IntKind.u16 ((p / 2 ^ (15 - k) : Nat) : Int) ((1 : Nat) : Int) = ((p / 2 ^ (15 - k) &&& 1 : Nat) : Int) := (bits_nat .u16 16 (by decide) (fun n h0 h1 => by rw [wrap_u16]; omega) _ 1 (by omega) (by decide)).1
  rw [h1]
  have e : ((1 : Nat) : Int) = 1 := rfl
  rw [e] at h3
  rw [h3, Nat.and_one_is_mod, Nat.testBit_eq_decide_div_mod_eq, Bool.eq_iff_iff]
  simp
  omega

theorem go_mask (c : UInt8) (j : Nat) : bits BinOp.xor IntKind.u8 (c.toNat : Int) (128 / 2 ^ (j % 8)) = (((c ^^^ mask j).toNat : Nat) : Int) := by
  have e : ∀ c d : UInt8, bits BinOp.xor IntKind.u8 (c.toNat : Int) (d.toNat : Int) = (((c ^^^ d).toNat : Nat) : Int) := by
    intro c d
    show IntKind.u8.wrap (((BitVec.ofInt 8 (c.toNat : Int) ^^^ BitVec.ofInt 8 (d.toNat : Int)).toNat : Nat) : Int) = _
    have e : ∀ x : UInt8, (BitVec.ofInt 8 (x.toNat : Int)).toNat = x.toNat := fun x => by
      have := x.toNat_lt
      simp [BitVec.ofInt_natCast]
    rw [BitVec.toNat_xor, e, e, UInt8.toNat_xor, IntKind.wrap_u8]
    have h : (c ^^^ d).toNat < 256 := (c ^^^ d).toNat_lt
    rw [UInt8.toNat_xor] at h
    omega
  have h : ((128 : Int) / 2 ^ (j % 8)) = ((mask j).toNat : Int) := by
    have : ∀ a, a < 8 → ((128 : Int) / 2 ^ a) = ((UInt8.ofNat (128 / 2 ^ a)).toNat : Int) := by decide
    exact this _ (Nat.mod_lt _ (by decide))
  rw [h, e]

theorem Row.flip {wr : World} {B n : Nat} {l : List UInt8} (h : Row wr B n l) (j : Nat) (c : UInt8) (hc : l.getD (j / 8) 0 = c) (hj : j < 8 * n) : Row (wr.setCell ⟨B, j / 8, none⟩ (.int .u8 (bits BinOp.xor IntKind.u8 (c.toNat : Int) (128 / 2 ^ (j % 8))))) B n (flipBit l j) := by
  rw [go_mask, ← hc]
  exact h.set (j / 8) _ (by omega)

theorem Row.string {wr : World} {B n : Nat} {l : List UInt8} (h : Row wr B n l) (cap : Nat) : (convert 32 9 (.slice (some ⟨B, 0, none⟩) n cap)).run Try.prog wr = .ok (.string ⟨l.toArray⟩) wr := by
  have := run_convert_bytes_arg (P := Try.prog) wr 32 5 Try.underlying32 Try.underlying5 B 0 n cap (l.map fun c => (c.toNat : Int)) (by rw [List.length_map]; exact h.1) (fun i hi => by
    rw [Nat.zero_add, h.2.1 i hi]
    simp [List.getD_eq_getElem?_getD, List.getElem?_eq_getElem (show i < l.length by rw [h.1]; exact hi)]) 9 Try.underlying9
  rw [this]
  congr 2
  unfold strOfNums
  congr 1
  congr 1
  rw [List.map_map]
  have e : ((fun n : Int => UInt8.ofNat n.toNat) ∘ fun c : UInt8 => (c.toNat : Int)) = id := by funext c; simp
  rw [e, List.map_id]

theorem Row.below {wr w' : World} {B n : Nat} {l : List UInt8} (h : Row wr B n l) (hB : B < wr.heap.size) (hb : Below wr.heap.size wr w') : Row w' B n l :=
  ⟨h.1, fun j hj => by rw [hb.cell (p := ⟨B, j, none⟩) hB]; exact h.2.1 j hj, fun j hj => by rw [hb.frozen (p := ⟨B, j, none⟩) hB]; exact h.2.2 j hj⟩

/-- What holds of the copy behind k of the 16 bits. -/
def Kept (w wr : World) (B m : Nat) (l0 : List UInt8) (n p k : Nat) : Prop := Row wr B m (flips l0 n p k) ∧ Below w.heap.size w wr ∧ B < wr.heap.size
theorem Kept.out {w wr : World} {B m : Nat} {l0 : List UInt8} {n p k : Nat} (h : Kept w wr B m l0 n p k) : Row wr B m (flips l0 n p k) ∧ Below w.heap.size w wr ∧ B < wr.heap.size := h

theorem Kept.yes {w wr : World} {B m : Nat} {l0 : List UInt8} {n p k : Nat} {c : UInt8} (h : Kept w wr B m l0 n p k) (hB : w.heap.size ≤ B) (hl : l0.length = m) (hc : (flips l0 n p k).getD ((n + k) / 8) 0 = c) (hj : n + k < 8 * m) (hb : p.testBit (15 - k) = true) :
    Kept w (wr.setCell ⟨B, (n + k) / 8, none⟩ (.int .u8 (bits BinOp.xor IntKind.u8 (c.toNat : Int) (128 / 2 ^ ((n + k) % 8))))).drew B m l0 n p (k + 1) ∧ turned l0 n p (k + 1) = true := by
  obtain ⟨h1, h2, h3⟩ := h
  obtain ⟨e1, e2⟩ := flips_yes (l := l0) (n := n) (by rw [hl]; exact hj) hb
  refine ⟨⟨?_, ?_, ?_⟩, e2⟩
  · rw [e1]
    exact (h1.flip (n + k) c hc hj).drew
  · exact (h2.setCell (p := ⟨B, (n + k) / 8, none⟩) hB _).drew
  · simpa using h3

theorem Kept.no {w wr : World} {B m : Nat} {l0 : List UInt8} {n p k : Nat} (h : Kept w wr B m l0 n p k) (hb : p.testBit (15 - k) = false) : Kept w wr B m l0 n p (k + 1) ∧ turned l0 n p (k + 1) = turned l0 n p k := by
  obtain ⟨e1, e2⟩ := flips_no (l := l0) (n := n) hb
  unfold Kept
  rw [e1]
  exact ⟨h, e2⟩

theorem Kept.start {w w1 : World} (s : ByteArray) (n p : Nat) (hb1 : Below w.heap.size w w1) : Kept w (Lib.bytesWorld w1 5 s) w1.heap.size s.size s.data.toList n p 0 :=
  ⟨Row.new w1 s, hb1.trans ⟨rfl, rfl, rfl, by rw [Lib.bytesWorld_size]; omega, fun k hk => Lib.bytesWorld_at_old w1 5 s k (by have := hb1.size; omega)⟩, by rw [Lib.bytesWorld_size]; omega⟩

theorem list_data (l : List UInt8) : (⟨l.toArray⟩ : ByteArray).data.toList = l := by simp
theorem list_size (l : List UInt8) : (⟨l.toArray⟩ : ByteArray).size = l.length := by simp [ByteArray.size]

/-- The end of CrcUnlike. -/
theorem unlike_end (x : BitVec 16) (s : ByteArray) (n p k : Nat) (hk : k ≤ 16) : ((((more x s.data.toList).toNat : Int) != ((more x (⟨(flips s.data.toList n p k).toArray⟩ : ByteArray).data.toList).toNat : Int)) == turned s.data.toList n p k) = true := by
  rw [bne, beq_bv, list_data]
  have h := flips_more x s.data.toList n p k hk
  cases ht : turned s.data.toList n p k
  · have := h.2 ht
    simp [← this]
  · have : ¬ (more x s.data.toList = more x (flips s.data.toList n p k)) := fun e => by rw [h.1 e] at ht; cases ht
    simp [this]

/-- The end of CrcTells. -/
theorem tells_end (s : ByteArray) (n p k : Nat) (hk : k ≤ 16) : rightS ⟨(flips (sealS s).data.toList n p k).toArray⟩ = !turned (sealS s).data.toList n p k := by
  have h := flips_more 0xffff#16 (sealS s).data.toList n p k hk
  have h0 : more 0xffff#16 (sealS s).data.toList = 0#16 := by
    have := rightS_seal s
    unfold rightS ofS at this
    simp at this
    exact this.2
  have hsz : 2 ≤ (flips (sealS s).data.toList n p k).length := by
    rw [flips_length]
    have := sealS_size s
    simp
    omega
  unfold rightS ofS
  rw [list_size, list_data]
  simp only [hsz, decide_true, Bool.true_and]
  rw [h0] at h
  cases ht : turned (sealS s).data.toList n p k
  · rw [← h.2 ht]; rfl
  · have : ¬ (more 0xffff#16 (flips (sealS s).data.toList n p k) = 0#16) := fun e => by rw [h.1 e.symm] at ht; cases ht
    simp [this]

set_option maxHeartbeats 1000000 in
theorem CrcUnlike_walk (a0 : Int) (a1 : ByteArray) (a2 a3 : Int) (w0 : (Lit.int .u16 a0).wf = true) (w1 : a1.size ≤ 140737488351232) (w2 : (Lit.int .i64 a2).wf = true) (w3 : (Lit.int .u16 a3).wf = true) (w : World) :
    Calls Try.prog 8 #[.int .u16 a0, .string a1, .int .i64 a2, .int .u16 a3] w fun e w' => e = .returned (.bool true) ∧ Below w.heap.size w w' := by
  obtain ⟨x, rfl⟩ := u16_bv w0
  obtain ⟨pat, rfl⟩ := u16_bv w3
  clear w0 w3 w2
  by_cases hneg : a2 < 0
  · have hn0 : decide (a2 < 0) = true := by simp; omega
    go_enter Try.func8, Try.ntmps8
    go_wp2_with fail
    refine (awake_any _).mono ?_; rintro e wa1 ⟨rfl, hb1⟩
    go_wp2_with fail
    go_ret
    exact ⟨rfl, hb1⟩
  obtain ⟨n, rfl⟩ := Int.eq_ofNat_of_zero_le (show 0 ≤ a2 by omega)
  by_cases hbig : ((8 : Int) * (a1.size : Int)) ≤ (n : Int)
  · have hn0 : decide (8 * (a1.size : Int) ≤ (n : Int)) = true := by simp; omega
    go_enter Try.func8, Try.ntmps8
    go_wp2_with fail
    refine (awake_any _).mono ?_; rintro e wa1 ⟨rfl, hb1⟩
    go_wp2_with fail
    go_ret
    exact ⟨rfl, hb1⟩
  by_cases hlong : (100000 : Int) < (a1.size : Int)
  · have hn0 : decide ((100000 : Int) < (a1.size : Int)) = true := by simp; omega
    go_enter Try.func8, Try.ntmps8
    go_wp2_with fail
    refine (awake_any _).mono ?_; rintro e wa1 ⟨rfl, hb1⟩
    go_wp2_with fail
    go_ret
    exact ⟨rfl, hb1⟩
  have HM : Hid (a1.size ≤ maxLen) := by show _ ≤ _; unfold maxLen; omega
  have HP : Hid (pat.toNat < 65536) := pat.isLt
  have hcv := fun w => Lib.run_convert_string_bytes (P := Try.prog) w 9 32 5 a1 Try.underlying9 Try.underlying32 Try.underlying5
  go_enter Try.func8, Try.ntmps8
  go_wp2_with fail
  refine (awake_any _).mono ?_; rintro e wq ⟨rfl, hb1⟩
  have HB := Lib.hid hb1; clear hb1
  go_wp2_with fail
  have K0 := Kept.start a1 n pat.toNat HB.out
  have hBs : w.heap.size ≤ wq.heap.size := HB.out.size
  have HL : Hid (a1.data.toList.length = a1.size) := by show _ = _; simp
  clear hcv
  generalize Lib.bytesWorld wq 5 a1 = wc at *
  generalize grownCap wq a1.size 0 5 = cp at *
  have X := Lib.hid K0
  clear K0
  go_loopg [11, 12] 16 (fun g tv iv wr => ∃ k : Nat, k + g = 16 ∧ iv = .int .i64 k ∧ tv = .bool (turned a1.data.toList n pat.toNat k) ∧ Kept w wr wq.heap.size a1.size a1.data.toList n pat.toNat k)
  case atStart => exact ⟨0, rfl, rfl, rfl, X.out⟩
  case round =>
    obtain ⟨k, hk, rfl, rfl, hK⟩ := hrel
    clear X
    by_cases h16 : k < 16
    · have d16 : decide ((k : Int) < 16) = true := by simp; omega
      by_cases hin : (n : Int) + (k : Int) < 8 * (a1.size : Int)
      · have hp : pat.toNat < 65536 := HP.out
        have hbt := bit_test pat.toNat k hp
        by_cases hb : pat.toNat.testBit (15 - k) = true
        · rw [hb] at hbt
          obtain ⟨hR, hB, hlt⟩ := hK.out
          have hc := hR.2.1 ((n + k) / 8) (by omega)
          have hf := hR.2.2 ((n + k) / 8) (by omega)
          have hi0 : 0 ≤ ((n : Int) + (k : Int)) / 8 := by omega
          have hi1 : ((n : Int) + (k : Int)) / 8 < (a1.size : Int) := by omega
          obtain ⟨c, hcc⟩ : ∃ c, (flips a1.data.toList n pat.toNat k).getD ((n + k) / 8) 0 = c := ⟨_, rfl⟩
          rw [hcc] at hc
          have Y := Lib.hid (hK.yes hBs HL.out hcc (by omega) hb)
          clear hK hR hB hcc hb
          go_wp2
          go_region
          all_goals go_wp2
          go_roundg (gk - 1)
          case measure => omega
          case rel => exact ⟨k + 1, by omega, by go_num, by rw [Y.out.2], Y.out.1⟩
        · have hb' : pat.toNat.testBit (15 - k) = false := by simpa using hb
          rw [hb'] at hbt
          have Y := Lib.hid (hK.no hb')
          clear hK hb hb'
          go_wp2
          go_roundg (gk - 1)
          case measure => omega
          case rel => exact ⟨k + 1, by omega, by go_num, by rw [Y.out.2], Y.out.1⟩
      · have hk16 : k ≤ 16 := by omega
        obtain ⟨hR, hB, hlt⟩ := hK.out
        have HE := Lib.hid (unlike_end x a1 n pat.toNat k hk16)
        generalize turned a1.data.toList n pat.toNat k = tb at *
        have HF : Hid ((flips a1.data.toList n pat.toNat k).length ≤ maxLen) := by show _ ≤ _; rw [flips_length, HL.out]; exact HM.out
        generalize flips a1.data.toList n pat.toNat k = fl at *
        have HR := Lib.hid hR; have HB2 := Lib.hid hB; have HLT := Lib.hid hlt
        clear hK hR hB hlt
        go_wp2_with fail
        refine (more_any _ _ _ HM.out).mono ?_; rintro e we ⟨rfl, hb⟩
        have HB3 := Lib.hid (below_then HB2.out HB2.out.size hb)
        have hs := (HR.out.below HLT.out hb).string cp
        clear hb
        go_wp2_with fail
        clear hs
        refine (more_any _ _ _ (by rw [list_size]; exact HF.out)).mono ?_; rintro e wf ⟨rfl, hb⟩
        have HB4 := Lib.hid (below_then HB3.out HB3.out.size hb)
        clear hb
        go_wp2_with fail
        go_ret
        exact ⟨ret_bool HE.out, HB4.out⟩
    · have hk16 : k ≤ 16 := by omega
      have d16 : decide ((k : Int) < 16) = false := by simp; omega
      obtain ⟨hR, hB, hlt⟩ := hK.out
      have HE := Lib.hid (unlike_end x a1 n pat.toNat k hk16)
      generalize turned a1.data.toList n pat.toNat k = tb at *
      have HF : Hid ((flips a1.data.toList n pat.toNat k).length ≤ maxLen) := by show _ ≤ _; rw [flips_length, HL.out]; exact HM.out
      generalize flips a1.data.toList n pat.toNat k = fl at *
      have HR := Lib.hid hR; have HB2 := Lib.hid hB; have HLT := Lib.hid hlt
      clear hK hR hB hlt
      go_wp2_with fail
      refine (more_any _ _ _ HM.out).mono ?_; rintro e we ⟨rfl, hb⟩
      have HB3 := Lib.hid (below_then HB2.out HB2.out.size hb)
      have hs := (HR.out.below HLT.out hb).string cp
      clear hb
      go_wp2_with fail
      clear hs
      refine (more_any _ _ _ (by rw [list_size]; exact HF.out)).mono ?_; rintro e wf ⟨rfl, hb⟩
      have HB4 := Lib.hid (below_then HB3.out HB3.out.size hb)
      clear hb
      go_wp2_with fail
      go_ret
      exact ⟨ret_bool HE.out, HB4.out⟩

set_option maxHeartbeats 1000000 in
theorem CrcTells_walk (a0 : ByteArray) (a1 a2 : Int) (w0 : a0.size ≤ 140737488351232) (w1 : (Lit.int .i64 a1).wf = true) (w2 : (Lit.int .u16 a2).wf = true) (w : World) :
    Calls Try.prog 6 #[.string a0, .int .i64 a1, .int .u16 a2] w fun e w' => e = .returned (.bool true) ∧ Below w.heap.size w w' := by
  obtain ⟨pat, rfl⟩ := u16_bv w2
  clear w1 w2
  have HS : Hid (a0.size ≤ 281474976710656) := by show _ ≤ _; omega
  have hsz := sealS_size a0
  by_cases hneg : a1 < 0
  · have hn0 : decide (a1 < 0) = true := by simp; omega
    go_enter Try.func6, Try.ntmps6
    go_wp2_with fail
    refine (awake_any _).mono ?_; rintro e wa1 ⟨rfl, hb1⟩
    go_wp2_with fail
    refine (seal_any _ _ HS.out).mono ?_; rintro e wa2 ⟨rfl, hb2⟩
    go_wp2_with fail
    go_ret
    exact ⟨rfl, below_then hb1 hb1.size hb2⟩
  obtain ⟨n, rfl⟩ := Int.eq_ofNat_of_zero_le (show 0 ≤ a1 by omega)
  obtain ⟨t, ht⟩ : ∃ t, sealS a0 = t := ⟨_, rfl⟩
  have hts : t.size ≤ 140737488351234 := by rw [← ht, hsz]; omega
  clear hsz
  by_cases hbig : ((8 : Int) * (t.size : Int)) ≤ (n : Int)
  · have hn0 : decide (8 * (t.size : Int) ≤ (n : Int)) = true := by simp; omega
    have HT := Lib.hid ht
    clear ht
    go_enter Try.func6, Try.ntmps6
    go_wp2_with fail
    refine (awake_any _).mono ?_; rintro e wa1 ⟨rfl, hb1⟩
    go_wp2_with fail
    refine (seal_any _ _ HS.out).mono ?_; rintro e wa2 ⟨rfl, hb2⟩
    rw [HT.out]
    go_wp2_with fail
    go_ret
    exact ⟨rfl, below_then hb1 hb1.size hb2⟩
  have HM : Hid (t.size ≤ maxLen) := by show _ ≤ _; unfold maxLen; omega
  have HP : Hid (pat.toNat < 65536) := pat.isLt
  have HT := Lib.hid ht
  clear ht
  have hcv := fun w => Lib.run_convert_string_bytes (P := Try.prog) w 9 32 5 t Try.underlying9 Try.underlying32 Try.underlying5
  go_enter Try.func6, Try.ntmps6
  go_wp2_with fail
  refine (awake_any _).mono ?_; rintro e wp ⟨rfl, hb1⟩
  have HB0 := Lib.hid hb1; clear hb1
  go_wp2_with fail
  refine (seal_any _ _ HS.out).mono ?_; rintro e wq ⟨rfl, hb1⟩
  rw [HT.out]
  have HB := Lib.hid (below_then HB0.out HB0.out.size hb1); clear hb1
  go_wp2_with fail
  have K0 := Kept.start t n pat.toNat HB.out
  have hBs : w.heap.size ≤ wq.heap.size := HB.out.size
  have HL : Hid (t.data.toList.length = t.size) := by show _ = _; simp
  clear hcv
  generalize Lib.bytesWorld wq 5 t = wc at *
  generalize grownCap wq t.size 0 5 = cp at *
  have X := Lib.hid K0
  clear K0
  go_loopg [10, 11] 16 (fun g tv iv wr => ∃ k : Nat, k + g = 16 ∧ iv = .int .i64 k ∧ tv = .bool (turned t.data.toList n pat.toNat k) ∧ Kept w wr wq.heap.size t.size t.data.toList n pat.toNat k)
  case atStart => exact ⟨0, rfl, rfl, rfl, X.out⟩
  case round =>
    obtain ⟨k, hk, rfl, rfl, hK⟩ := hrel
    clear X
    by_cases h16 : k < 16
    · have d16 : decide ((k : Int) < 16) = true := by simp; omega
      by_cases hin : (n : Int) + (k : Int) < 8 * (t.size : Int)
      · have hp : pat.toNat < 65536 := HP.out
        have hbt := bit_test pat.toNat k hp
        by_cases hb : pat.toNat.testBit (15 - k) = true
        · rw [hb] at hbt
          obtain ⟨hR, hB, hlt⟩ := hK.out
          have hc := hR.2.1 ((n + k) / 8) (by omega)
          have hf := hR.2.2 ((n + k) / 8) (by omega)
          have hi0 : 0 ≤ ((n : Int) + (k : Int)) / 8 := by omega
          have hi1 : ((n : Int) + (k : Int)) / 8 < (t.size : Int) := by omega
          obtain ⟨c, hcc⟩ : ∃ c, (flips t.data.toList n pat.toNat k).getD ((n + k) / 8) 0 = c := ⟨_, rfl⟩
          rw [hcc] at hc
          have Y := Lib.hid (hK.yes hBs HL.out hcc (by omega) hb)
          clear hK hR hB hcc hb
          go_wp2
          go_region
          all_goals go_wp2
          go_roundg (gk - 1)
          case measure => omega
          case rel => exact ⟨k + 1, by omega, by go_num, by rw [Y.out.2], Y.out.1⟩
        · have hb' : pat.toNat.testBit (15 - k) = false := by simpa using hb
          rw [hb'] at hbt
          have Y := Lib.hid (hK.no hb')
          clear hK hb hb'
          go_wp2
          go_roundg (gk - 1)
          case measure => omega
          case rel => exact ⟨k + 1, by omega, by go_num, by rw [Y.out.2], Y.out.1⟩
      · have hk16 : k ≤ 16 := by omega
        obtain ⟨hR, hB, hlt⟩ := hK.out
        have HE : Hid ((rightS ⟨(flips t.data.toList n pat.toNat k).toArray⟩ == !turned t.data.toList n pat.toNat k) = true) := by show _ = _; rw [← HT.out, tells_end a0 n pat.toNat k hk16]; simp
        generalize turned t.data.toList n pat.toNat k = tb at *
        have HF : Hid ((flips t.data.toList n pat.toNat k).length ≤ maxLen) := by show _ ≤ _; rw [flips_length, HL.out]; exact HM.out
        generalize flips t.data.toList n pat.toNat k = fl at *
        have HB2 := Lib.hid hB
        have hs := hR.string cp
        clear hK hR hB hlt
        go_wp2_with fail
        clear hs
        refine (right_any _ _ (by rw [list_size]; exact HF.out)).mono ?_; rintro e wf ⟨rfl, hb⟩
        have HB4 := Lib.hid (below_then HB2.out HB2.out.size hb)
        clear hb
        go_wp2_with fail
        go_ret
        exact ⟨ret_bool HE.out, HB4.out⟩
    · have hk16 : k ≤ 16 := by omega
      have d16 : decide ((k : Int) < 16) = false := by simp; omega
      obtain ⟨hR, hB, hlt⟩ := hK.out
      have HE : Hid ((rightS ⟨(flips t.data.toList n pat.toNat k).toArray⟩ == !turned t.data.toList n pat.toNat k) = true) := by show _ = _; rw [← HT.out, tells_end a0 n pat.toNat k hk16]; simp
      generalize turned t.data.toList n pat.toNat k = tb at *
      have HF : Hid ((flips t.data.toList n pat.toNat k).length ≤ maxLen) := by show _ ≤ _; rw [flips_length, HL.out]; exact HM.out
      generalize flips t.data.toList n pat.toNat k = fl at *
      have HB2 := Lib.hid hB
      have hs := hR.string cp
      clear hK hR hB hlt
      go_wp2_with fail
      clear hs
      refine (right_any _ _ (by rw [list_size]; exact HF.out)).mono ?_; rintro e wf ⟨rfl, hb⟩
      have HB4 := Lib.hid (below_then HB2.out HB2.out.size hb)
      clear hb
      go_wp2_with fail
      go_ret
      exact ⟨ret_bool HE.out, HB4.out⟩
end Go.Proofs.Ytdecoenollejiaa
