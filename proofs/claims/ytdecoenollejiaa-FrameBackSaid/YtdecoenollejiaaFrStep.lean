/- Walks of (*frame.Scan).step, way by way, and of strings.HasPrefix: what each call does to the scan that lies at block g. -/
import Derived.Test.YtdecoenollejiaaCrcLaws
import Derived.RegionTactic
import Derived.BigRegion
import Derived.Deep.LoopGhost
set_option linter.unusedVariables false
set_option linter.unusedSimpArgs false
namespace Go.Proofs.Ytdecoenollejiaa
open Go.RowKit CrcMath

/-- A scan that lies at block g: what waits, how many were bad. -/
def ScanAt (w : World) (g : Nat) (s : ByteArray) (b : Int) : Prop := w.heap[g]? = some (.cells #[.string s, .int .i64 b] 59 (0, 0))
theorem ScanAt.lt {w : World} {g : Nat} {s : ByteArray} {b : Int} (h : ScanAt w g s b) : g < w.heap.size := by
  apply Nat.lt_of_not_le
  intro hle
  rw [ScanAt, Array.getElem?_eq_none hle] at h
  cases h
theorem ScanAt.cell0 {w : World} {g : Nat} {s : ByteArray} {b : Int} (h : ScanAt w g s b) : w.cell? ⟨g, 0, none⟩ = some (.string s) := by
  unfold World.cell?
  rw [show w.heap[(⟨g, 0, none⟩ : Addr).block]? = _ from h]
  rfl
theorem ScanAt.cell1 {w : World} {g : Nat} {s : ByteArray} {b : Int} (h : ScanAt w g s b) : w.cell? ⟨g, 1, none⟩ = some (.int .i64 b) := by
  unfold World.cell?
  rw [show w.heap[(⟨g, 1, none⟩ : Addr).block]? = _ from h]
  rfl
theorem ScanAt.free {w : World} {g : Nat} {s : ByteArray} {b : Int} (h : ScanAt w g s b) (o : Nat) : w.frozen? ⟨g, o, none⟩ = false := by
  unfold World.frozen?
  rw [show w.heap[(⟨g, o, none⟩ : Addr).block]? = _ from h]
  simp

/-- Does it begin as a frame does? -/
def hasPre (s : ByteArray) : Bool := decide (2 ≤ s.size) && ((s.extract 0 2).toList == [165, 90])

set_option maxHeartbeats 400000 in
theorem pre_any (s : ByteArray) (w : World) (hs : s.size ≤ maxLen) :
    Calls Try.prog 37 #[.string s, .string ⟨#[165, 90]⟩] w fun e w' => e = .returned (.bool (hasPre s)) ∧ w = w' := by
  unfold maxLen at hs
  by_cases h2 : 2 ≤ s.size
  · have h2' : decide ((2 : Int) ≤ (s.size : Int)) = true := by simp; omega
    have h2'' : (2 : Int) ≤ (s.size : Int) := by omega
    have HR : Hid (((s.extract 0 2).toList == [165, 90]) = hasPre s) := by
      show _ = _
      unfold hasPre; simp [h2]
    have h3 : (⟨#[165, 90]⟩ : ByteArray).toList = [165, 90] := by rw [ByteArray.toList_eq]
    have h4 : (⟨#[165, 90]⟩ : ByteArray).size = 2 := rfl
    go_enter Try.func37, Try.ntmps37
    go_wp2_with fail
    go_ret
    exact ⟨ret_bool HR.out, rfl⟩
  · have h2' : decide ((2 : Int) ≤ (s.size : Int)) = false := by simp; omega
    have h2'' : (s.size : Int) < 2 := by omega
    have HR : Hid (false = hasPre s) := by
      show _ = _
      unfold hasPre; simp [h2]
    go_enter Try.func37, Try.ntmps37
    go_wp2_with fail
    go_ret
    exact ⟨ret_bool HR.out, rfl⟩

set_option maxHeartbeats 400000 in
theorem hasprefix_any (s : ByteArray) (w : World) (hs : s.size ≤ maxLen) :
    Calls Try.prog 36 #[.string s, .string ⟨#[165, 90]⟩] w fun e w' => e = .returned (.bool (hasPre s)) ∧ w = w' := by
  have HC := Lib.hid (pre_any s w hs)
  go_enter Try.func36, Try.ntmps36
  go_wp2_with (go_at_call 37; refine HC.out.mono ?_; rintro e w1 ⟨rfl, rfl⟩)
  go_ret
  exact ⟨rfl, rfl⟩

theorem begin1 : (ByteArray.extract ⟨#[165, 90]⟩ 0 1).toList = [165] := by rw [ByteArray.toList_eq]; rfl

theorem grown_set {w : World} {g : Nat} {s : ByteArray} {b : Int} (h : ScanAt w g s b) (s' : ByteArray) : w.grownBy (w.setCell ⟨g, 0, none⟩ (.string s')) (some g) ∧ ScanAt (w.setCell ⟨g, 0, none⟩ (.string s')) g s' b := by
  refine ⟨⟨rfl, rfl, rfl, by simp, fun k _ hk => heap_setCell_other _ _ _ _ (fun e => hk (by rw [e]))⟩, ?_⟩
  unfold ScanAt
  rw [heap_setCell_same w g 0 _ 59 _ h]
  rfl
theorem grown_set1 {w : World} {g : Nat} {s : ByteArray} {b : Int} (h : ScanAt w g s b) (b' : Int) : w.grownBy (w.setCell ⟨g, 1, none⟩ (.int .i64 b')) (some g) ∧ ScanAt (w.setCell ⟨g, 1, none⟩ (.int .i64 b')) g s b' := by
  refine ⟨⟨rfl, rfl, rfl, by simp, fun k _ hk => heap_setCell_other _ _ _ _ (fun e => hk (by rw [e]))⟩, ?_⟩
  unfold ScanAt
  rw [heap_setCell_same w g 1 _ 59 _ h]
  rfl
theorem grown_alloc {w w' : World} {g : Nat} {s : ByteArray} {b : Int} (h : w.grownBy w' (some g) ∧ ScanAt w' g s b) (o : Obj) : w.grownBy (w'.alloc o) (some g) ∧ ScanAt (w'.alloc o) g s b := by
  obtain ⟨hg, hs⟩ := h
  refine ⟨⟨hg.os, hg.tape, hg.output, by have := hg.size; simp; omega, fun k hk hne => ?_⟩, ?_⟩
  · rw [Below.heap_alloc _ _ _ (by have := hg.size; omega)]
    exact hg.block k hk hne
  · unfold ScanAt
    rw [Below.heap_alloc _ _ _ hs.lt]
    exact hs
theorem grown_refl {w : World} {g : Nat} {s : ByteArray} {b : Int} (h : ScanAt w g s b) : w.grownBy w (some g) ∧ ScanAt w g s b := ⟨⟨rfl, rfl, rfl, Nat.le_refl _, fun _ _ _ => rfl⟩, h⟩
theorem grown_trans {w w1 w2 : World} {g : Nat} {s1 s2 : ByteArray} {b1 b2 : Int} (h : w.grownBy w1 (some g) ∧ ScanAt w1 g s1 b1) (k : w1.grownBy w2 (some g) ∧ ScanAt w2 g s2 b2) : w.grownBy w2 (some g) ∧ ScanAt w2 g s2 b2 :=
  ⟨⟨k.1.os.trans h.1.os, k.1.tape.trans h.1.tape, k.1.output.trans h.1.output, Nat.le_trans h.1.size k.1.size, fun i hi hne => (k.1.block i (Nat.lt_of_lt_of_le hi h.1.size) hne).trans (h.1.block i hi hne)⟩, k.2⟩
theorem grown_below {w w1 : World} {g : Nat} {s : ByteArray} {b : Int} (h : ScanAt w g s b) (k : Below w.heap.size w w1) : w.grownBy w1 (some g) ∧ ScanAt w1 g s b :=
  ⟨⟨k.os, k.tape, k.output, k.size, fun i hi _ => k.block i hi⟩, by unfold ScanAt; rw [k.block g h.lt]; exact h⟩

/-- What step leaves. -/
def Stepped (w : World) (g : Nat) (k : Int) (p : ByteArray) (told on : Bool) (s : ByteArray) (b : Int) (e : Ending) (w' : World) : Prop :=
  e = .returned (.tuple #[.agg #[.int .u8 k, .string p], .bool told, .bool on]) ∧ w.grownBy w' (some g) ∧ ScanAt w' g s b

set_option maxHeartbeats 1000000 in
theorem step_empty (g : Nat) (s : ByteArray) (b : Int) (w : World) (hS : ScanAt w g s b) (hmax : s.size ≤ 281474976710656) (hE : s.toList.isEmpty = true) :
    Calls Try.prog 35 #[.pointer (some ⟨g, 0, none⟩)] w (Stepped w g 0 ⟨#[]⟩ false false s b) := by
  have hc0 := hS.cell0
  have hc1 := hS.cell1
  have hf0 := hS.free 0
  have hf1 := hS.free 1
  have hlt := hS.lt
  have hb1 := begin1
  have hm : s.size ≤ maxLen := by unfold maxLen; omega
  have HM := Lib.hid hm; clear hm
  have HS := Lib.hid hS; clear hS
  go_enter Try.func35, Try.ntmps35
  go_wp2_with fail
  refine bodyPost_ret (v := .tuple #[.agg #[.int .u8 0, .string ⟨#[]⟩], .bool false, .bool false]) (by simp [results, Try.results35, go_sem]) rfl ⟨rfl, ?_⟩
  exact grown_alloc (grown_refl HS.out) _

set_option maxHeartbeats 1000000 in
theorem step_one (g : Nat) (s : ByteArray) (b : Int) (w : World) (hS : ScanAt w g s b) (hmax : s.size ≤ 281474976710656) (hE : s.toList.isEmpty = false) (h1 : (s.toList == [165]) = true) :
    Calls Try.prog 35 #[.pointer (some ⟨g, 0, none⟩)] w (Stepped w g 0 ⟨#[]⟩ false false s b) := by
  have hc0 := hS.cell0
  have hc1 := hS.cell1
  have hf0 := hS.free 0
  have hf1 := hS.free 1
  have hlt := hS.lt
  have hb1 := begin1
  have hm : s.size ≤ maxLen := by unfold maxLen; omega
  have HM := Lib.hid hm; clear hm
  have HS := Lib.hid hS; clear hS
  go_enter Try.func35, Try.ntmps35
  go_wp2_with fail
  refine bodyPost_ret (v := .tuple #[.agg #[.int .u8 0, .string ⟨#[]⟩], .bool false, .bool false]) (by simp [results, Try.results35, go_sem]) rfl ⟨rfl, ?_⟩
  exact grown_alloc (grown_refl HS.out) _

set_option maxHeartbeats 1000000 in
theorem step_skip (g : Nat) (s : ByteArray) (b : Int) (w : World) (hS : ScanAt w g s b) (hmax : s.size ≤ 281474976710656) (hE : s.toList.isEmpty = false) (hs : 1 ≤ s.size) (h1 : (s.toList == [165]) = false) (hp : hasPre s = false) :
    Calls Try.prog 35 #[.pointer (some ⟨g, 0, none⟩)] w (Stepped w g 0 ⟨#[]⟩ false true (s.extract 1 s.size) b) := by
  have hc0 := hS.cell0
  have hc1 := hS.cell1
  have hf0 := hS.free 0
  have hf1 := hS.free 1
  have hlt := hS.lt
  have hb1 := begin1
  have hm : s.size ≤ maxLen := by unfold maxLen; omega
  have HM := Lib.hid hm; clear hm
  have HS := Lib.hid hS; clear hS
  have HP := Lib.hid hp; clear hp
  have hs' : (1 : Int) ≤ (s.size : Int) := by omega
  go_enter Try.func35, Try.ntmps35
  go_wp2_with fail
  refine (hasprefix_any _ _ HM.out).mono ?_; rintro e w1 ⟨rfl, rfl⟩
  rw [HP.out]
  go_wp2_with fail
  refine bodyPost_ret (v := .tuple #[.agg #[.int .u8 0, .string ⟨#[]⟩], .bool false, .bool true]) (by simp [results, Try.results35, go_sem]) rfl ⟨rfl, ?_⟩
  exact grown_alloc (grown_set HS.out _) _

set_option maxHeartbeats 1000000 in
theorem step_short (g : Nat) (s : ByteArray) (b : Int) (w : World) (hS : ScanAt w g s b) (hmax : s.size ≤ 281474976710656) (hE : s.toList.isEmpty = false) (h1 : (s.toList == [165]) = false) (hp : hasPre s = true) (h4 : s.size < 4) :
    Calls Try.prog 35 #[.pointer (some ⟨g, 0, none⟩)] w (Stepped w g 0 ⟨#[]⟩ false false s b) := by
  have hc0 := hS.cell0
  have hc1 := hS.cell1
  have hf0 := hS.free 0
  have hf1 := hS.free 1
  have hlt := hS.lt
  have hb1 := begin1
  have hm : s.size ≤ maxLen := by unfold maxLen; omega
  have HM := Lib.hid hm; clear hm
  have HS := Lib.hid hS; clear hS
  have HP := Lib.hid hp; clear hp
  have h4' : (s.size : Int) < 4 := by omega
  go_enter Try.func35, Try.ntmps35
  go_wp2_with fail
  refine (hasprefix_any _ _ HM.out).mono ?_; rintro e w1 ⟨rfl, rfl⟩
  rw [HP.out]
  go_wp2_with fail
  refine bodyPost_ret (v := .tuple #[.agg #[.int .u8 0, .string ⟨#[]⟩], .bool false, .bool false]) (by simp [results, Try.results35, go_sem]) rfl ⟨rfl, ?_⟩
  exact grown_alloc (grown_refl HS.out) _

set_option maxHeartbeats 1000000 in
theorem step_count (g : Nat) (s : ByteArray) (b : Int) (w : World) (hS : ScanAt w g s b) (hmax : s.size ≤ 281474976710656) (hE : s.toList.isEmpty = false) (h1 : (s.toList == [165]) = false) (hp : hasPre s = true) (h4 : 4 ≤ s.size) (c : UInt8) (hc : s[3] = c) (h64 : 64 < c.toNat) (hb : -4611686018427387904 ≤ b ∧ b ≤ 4611686018427387904) :
    Calls Try.prog 35 #[.pointer (some ⟨g, 0, none⟩)] w (Stepped w g 0 ⟨#[]⟩ false true (s.extract 2 s.size) (b + 1)) := by
  have hc0 := hS.cell0
  have hc1 := hS.cell1
  have hf0 := hS.free 0
  have hf1 := hS.free 1
  have hlt := hS.lt
  have hb1 := begin1
  have hm : s.size ≤ maxLen := by unfold maxLen; omega
  have HM := Lib.hid hm; clear hm
  have HS := Lib.hid hS; clear hS
  have HP := Lib.hid hp; clear hp
  have h4' : ¬ (s.size : Int) < 4 := by omega
  have h3 : 3 < s.size := by omega
  have h3' : (3 : Int) < (s.size : Int) := by omega
  have h64' : (64 : Int) < (c.toNat : Int) := by omega
  go_enter Try.func35, Try.ntmps35
  go_wp2_with fail
  refine (hasprefix_any _ _ HM.out).mono ?_; rintro e w1 ⟨rfl, rfl⟩
  rw [HP.out]
  go_wp2_with fail
  refine bodyPost_ret (v := .tuple #[.agg #[.int .u8 0, .string ⟨#[]⟩], .bool false, .bool true]) (by simp [results, Try.results35, go_sem]) rfl ⟨rfl, ?_⟩
  exact grown_alloc (grown_trans (grown_set HS.out _) (grown_set1 (grown_set HS.out _).2 _)) _

set_option maxHeartbeats 1000000 in
theorem step_wait (g : Nat) (s : ByteArray) (b : Int) (w : World) (hS : ScanAt w g s b) (hmax : s.size ≤ 281474976710656) (hE : s.toList.isEmpty = false) (h1 : (s.toList == [165]) = false) (hp : hasPre s = true) (h4 : 4 ≤ s.size) (c : UInt8) (hc : s[3] = c) (h64 : c.toNat ≤ 64) (hl : s.size < 6 + c.toNat) :
    Calls Try.prog 35 #[.pointer (some ⟨g, 0, none⟩)] w (Stepped w g 0 ⟨#[]⟩ false false s b) := by
  have hc0 := hS.cell0
  have hc1 := hS.cell1
  have hf0 := hS.free 0
  have hf1 := hS.free 1
  have hlt := hS.lt
  have hb1 := begin1
  have hm : s.size ≤ maxLen := by unfold maxLen; omega
  have HM := Lib.hid hm; clear hm
  have HS := Lib.hid hS; clear hS
  have HP := Lib.hid hp; clear hp
  have h4' : ¬ (s.size : Int) < 4 := by omega
  have h3 : 3 < s.size := by omega
  have h3' : (3 : Int) < (s.size : Int) := by omega
  have h64' : ¬ (64 : Int) < (c.toNat : Int) := by omega
  have hc255 := c.toNat_lt
  have hl' : (s.size : Int) < 6 + (c.toNat : Int) := by omega
  go_enter Try.func35, Try.ntmps35
  go_wp2_with fail
  refine (hasprefix_any _ _ HM.out).mono ?_; rintro e w1 ⟨rfl, rfl⟩
  rw [HP.out]
  go_wp2_with fail

  refine bodyPost_ret (v := .tuple #[.agg #[.int .u8 0, .string ⟨#[]⟩], .bool false, .bool false]) (by simp [results, Try.results35, go_sem]) rfl ⟨rfl, ?_⟩
  exact grown_alloc (grown_refl HS.out) _

theorem grown_far {w w' : World} {g : Nat} {s : ByteArray} {b : Int} (h : w.grownBy w' (some g) ∧ ScanAt w' g s b) (hg : g < w.heap.size) {p : Addr} (hp : w.heap.size ≤ p.block) (v : Value) : w.grownBy (w'.setCell p v) (some g) ∧ ScanAt (w'.setCell p v) g s b := by
  obtain ⟨h1, h2⟩ := h
  refine ⟨⟨h1.os, h1.tape, h1.output, by have := h1.size; simp; omega, fun k hk hne => ?_⟩, ?_⟩
  · rw [heap_setCell_other _ _ _ _ (by omega)]
    exact h1.block k hk hne
  · unfold ScanAt
    rw [heap_setCell_other _ _ _ _ (by omega)]
    exact h2
theorem grown_drew {w w' : World} {g : Nat} {s : ByteArray} {b : Int} (h : w.grownBy w' (some g) ∧ ScanAt w' g s b) : w.grownBy w'.drew (some g) ∧ ScanAt w'.drew g s b :=
  ⟨⟨h.1.os, h.1.tape, h.1.output, h.1.size, h.1.block⟩, h.2⟩

theorem box_cell {w : World} {p q : Addr} {u : Value} (h : w.cell? p = some u) (hne : p.block ≠ q.block) (v : Value) : (w.setCell q v).cell? p = some u := by
  rw [World.cell?_setCell_other (h := fun e => hne (by rw [e]))]
  exact h
theorem box_set0 {w : World} {k : Nat} {u v v1 : Value} (h : w.cell? ⟨k, 0, none⟩ = some u) : ((w.setCell ⟨k, 0, none⟩ v).setCell ⟨k, 1, none⟩ v1).cell? ⟨k, 0, none⟩ = some v := by
  rw [World.cell?_setCell_other (h := by simp)]
  exact World.cell?_setCell_same _ _ _ h
theorem box_cell0 {w : World} {k : Nat} {u : Value} (h : w.cell? ⟨k, 1, none⟩ = some u) (v : Value) : (w.setCell ⟨k, 0, none⟩ v).cell? ⟨k, 1, none⟩ = some u := by
  rw [World.cell?_setCell_other (h := by simp)]
  exact h
theorem box_set1 {w : World} {k : Nat} {u v : Value} (h : w.cell? ⟨k, 1, none⟩ = some u) : (w.setCell ⟨k, 1, none⟩ v).cell? ⟨k, 1, none⟩ = some v := World.cell?_setCell_same _ _ _ h

set_option maxHeartbeats 1000000 in
theorem step_wrong (g : Nat) (s : ByteArray) (b : Int) (w : World) (hS : ScanAt w g s b) (hmax : s.size ≤ 281474976710656) (hE : s.toList.isEmpty = false) (h1 : (s.toList == [165]) = false) (hp : hasPre s = true) (h4 : 4 ≤ s.size) (c : UInt8) (hc : s[3] = c) (h64 : c.toNat ≤ 64) (hl : 6 + c.toNat ≤ s.size) (hr : rightS (s.extract 2 (6 + c.toNat)) = false) (hb : -4611686018427387904 ≤ b ∧ b ≤ 4611686018427387904) :
    Calls Try.prog 35 #[.pointer (some ⟨g, 0, none⟩)] w (Stepped w g 0 ⟨#[]⟩ false true (s.extract 2 s.size) (b + 1)) := by
  have hc0 := hS.cell0
  have hc1 := hS.cell1
  have hf0 := hS.free 0
  have hf1 := hS.free 1
  have hlt := hS.lt
  have hb1 := begin1
  have hm : s.size ≤ maxLen := by unfold maxLen; omega
  have HM := Lib.hid hm; clear hm
  have HS := Lib.hid hS; clear hS
  have HP := Lib.hid hp; clear hp
  have h4' : ¬ (s.size : Int) < 4 := by omega
  have h3 : 3 < s.size := by omega
  have h3' : (3 : Int) < (s.size : Int) := by omega
  have h64' : ¬ (64 : Int) < (c.toNat : Int) := by omega
  have hc255 := c.toNat_lt
  have hl' : 6 + (c.toNat : Int) ≤ (s.size : Int) := by omega
  have HR := Lib.hid hr; clear hr
  have hx : (s.extract 2 (6 + c.toNat)).size ≤ maxLen := by rw [ByteArray.size_extract]; unfold maxLen; omega
  have HX := Lib.hid hx; clear hx
  go_enter Try.func35, Try.ntmps35
  go_wp2_with fail
  refine (hasprefix_any _ _ HM.out).mono ?_; rintro e w1 ⟨rfl, rfl⟩
  rw [HP.out]
  go_wp2_with fail
  refine (right_any _ _ HX.out).mono ?_; rintro e w2 ⟨rfl, hbel⟩
  rw [HR.out]
  clear hc0 hc1 hf0 hf1
  obtain ⟨hS2, hz⟩ : (w.grownBy w2 (some g) ∧ ScanAt w2 g s b) ∧ w.heap.size < w2.heap.size := ⟨grown_trans (grown_alloc (grown_refl HS.out) _) (grown_below (grown_alloc (grown_refl HS.out) _).2 hbel), by have := hbel.size; simp at this; omega⟩
  have hd0 : w2.cell? ⟨w.heap.size, 0, none⟩ = some (.int .u8 0) := by rw [hbel.cell (p := ⟨w.heap.size, 0, none⟩) (by simp)]; go_simp
  have hd1 : w2.cell? ⟨w.heap.size, 1, none⟩ = some (.string ⟨#[]⟩) := by rw [hbel.cell (p := ⟨w.heap.size, 1, none⟩) (by simp)]; go_simp
  have he0 : w2.frozen? ⟨w.heap.size, 0, none⟩ = false := by rw [hbel.frozen (p := ⟨w.heap.size, 0, none⟩) (by simp)]; go_simp
  have he1 : w2.frozen? ⟨w.heap.size, 1, none⟩ = false := by rw [hbel.frozen (p := ⟨w.heap.size, 1, none⟩) (by simp)]; go_simp
  have hc0 := hS2.2.cell0
  have hc1 := hS2.2.cell1
  have hf0 := hS2.2.free 0
  have hf1 := hS2.2.free 1
  have hgn : ¬ g = w.heap.size := by omega
  have hgn' : ¬ w.heap.size = g := by omega
  have H2 := Lib.hid hS2
  clear hS2 hbel
  go_wp2_with fail
  obtain ⟨W, hW⟩ : ∃ W, W = (((w2.setCell ⟨g, 0, none⟩ (.string (s.extract 2 s.size))).setCell ⟨g, 1, none⟩ (.int .i64 (b + 1))).setCell ⟨w.heap.size, 0, none⟩ (.int .u8 0)).setCell ⟨w.heap.size, 1, none⟩ (.string ⟨#[]⟩) := ⟨_, rfl⟩
  have hq0 : W.cell? ⟨w.heap.size, 0, none⟩ = some (.int .u8 0) := by rw [hW]; exact box_set0 (box_cell (box_cell hd0 (by omega) _) (by omega) _)
  have hq1 : W.cell? ⟨w.heap.size, 1, none⟩ = some (.string ⟨#[]⟩) := by rw [hW]; exact box_set1 (box_cell0 (box_cell (box_cell hd1 (by omega) _) (by omega) _) _)
  have HF : Hid (w.grownBy W (some g) ∧ ScanAt W g (s.extract 2 s.size) (b + 1)) := by show _ ∧ _; rw [hW]; exact grown_far (grown_far (grown_trans (grown_trans H2.out (grown_set H2.out.2 _)) (grown_set1 (grown_set H2.out.2 _).2 _)) hlt (Nat.le_refl _) _) hlt (Nat.le_refl _) _
  clear H2
  rw [← hW]
  clear hW hd0 hd1 he0 he1 hc0 hc1 hf0 hf1
  refine bodyPost_ret (v := .tuple #[.agg #[.int .u8 0, .string ⟨#[]⟩], .bool false, .bool true]) (by simp [results, Try.results35, go_sem, hq0, hq1]) rfl ⟨rfl, HF.out⟩

set_option maxHeartbeats 1000000 in
theorem step_told (g : Nat) (s : ByteArray) (b : Int) (w : World) (hS : ScanAt w g s b) (hmax : s.size ≤ 281474976710656) (hE : s.toList.isEmpty = false) (h1 : (s.toList == [165]) = false) (hp : hasPre s = true) (h4 : 4 ≤ s.size) (c : UInt8) (hc : s[3] = c) (h64 : c.toNat ≤ 64) (hl : 6 + c.toNat ≤ s.size) (hr : rightS (s.extract 2 (6 + c.toNat)) = true) :
    Calls Try.prog 35 #[.pointer (some ⟨g, 0, none⟩)] w (Stepped w g (s[2].toNat : Int) (s.extract 4 (6 + c.toNat - 2)) true true (s.extract (6 + c.toNat) s.size) b) := by
  have hc0 := hS.cell0
  have hc1 := hS.cell1
  have hf0 := hS.free 0
  have hf1 := hS.free 1
  have hlt := hS.lt
  have hb1 := begin1
  have hm : s.size ≤ maxLen := by unfold maxLen; omega
  have HM := Lib.hid hm; clear hm
  have HS := Lib.hid hS; clear hS
  have HP := Lib.hid hp; clear hp
  have h4' : ¬ (s.size : Int) < 4 := by omega
  have h3 : 3 < s.size := by omega
  have h3' : (3 : Int) < (s.size : Int) := by omega
  have h64' : ¬ (64 : Int) < (c.toNat : Int) := by omega
  have hc255 := c.toNat_lt
  have h2i : (2 : Int) < (s.size : Int) := by omega
  have hl' : 6 + (c.toNat : Int) ≤ (s.size : Int) := by omega
  have HR := Lib.hid hr; clear hr
  have hx : (s.extract 2 (6 + c.toNat)).size ≤ maxLen := by rw [ByteArray.size_extract]; unfold maxLen; omega
  have HX := Lib.hid hx; clear hx
  go_enter Try.func35, Try.ntmps35
  go_wp2_with fail
  refine (hasprefix_any _ _ HM.out).mono ?_; rintro e w1 ⟨rfl, rfl⟩
  rw [HP.out]
  go_wp2_with fail
  refine (right_any _ _ HX.out).mono ?_; rintro e w2 ⟨rfl, hbel⟩
  rw [HR.out]
  clear hc0 hc1 hf0 hf1
  obtain ⟨hS2, hz⟩ : (w.grownBy w2 (some g) ∧ ScanAt w2 g s b) ∧ w.heap.size < w2.heap.size := ⟨grown_trans (grown_alloc (grown_refl HS.out) _) (grown_below (grown_alloc (grown_refl HS.out) _).2 hbel), by have := hbel.size; simp at this; omega⟩
  have hd0 : w2.cell? ⟨w.heap.size, 0, none⟩ = some (.int .u8 0) := by rw [hbel.cell (p := ⟨w.heap.size, 0, none⟩) (by simp)]; go_simp
  have hd1 : w2.cell? ⟨w.heap.size, 1, none⟩ = some (.string ⟨#[]⟩) := by rw [hbel.cell (p := ⟨w.heap.size, 1, none⟩) (by simp)]; go_simp
  have he0 : w2.frozen? ⟨w.heap.size, 0, none⟩ = false := by rw [hbel.frozen (p := ⟨w.heap.size, 0, none⟩) (by simp)]; go_simp
  have he1 : w2.frozen? ⟨w.heap.size, 1, none⟩ = false := by rw [hbel.frozen (p := ⟨w.heap.size, 1, none⟩) (by simp)]; go_simp
  have hc0 := hS2.2.cell0
  have hc1 := hS2.2.cell1
  have hf0 := hS2.2.free 0
  have hf1 := hS2.2.free 1
  have hgn : ¬ g = w.heap.size := by omega
  have hgn' : ¬ w.heap.size = g := by omega
  have H2 := Lib.hid hS2
  clear hS2 hbel
  go_wp2_with fail
  go_region
  all_goals go_wp2
  obtain ⟨W, hW⟩ : ∃ W, W = (((w2.setCell ⟨g, 0, none⟩ (.string (s.extract (6 + c.toNat) s.size))).setCell ⟨w.heap.size, 0, none⟩ (.int .u8 (s[2].toNat : Int))).setCell ⟨w.heap.size, 1, none⟩ (.string (s.extract 4 (6 + c.toNat - 2)))).drew := ⟨_, rfl⟩
  have hq0 : W.cell? ⟨w.heap.size, 0, none⟩ = some (.int .u8 (s[2].toNat : Int)) := by rw [hW]; exact box_set0 (box_cell hd0 (by omega) _)
  have hq1 : W.cell? ⟨w.heap.size, 1, none⟩ = some (.string (s.extract 4 (6 + c.toNat - 2))) := by rw [hW]; exact box_set1 (box_cell0 (box_cell hd1 (by omega) _) _)
  have HF : Hid (w.grownBy W (some g) ∧ ScanAt W g (s.extract (6 + c.toNat) s.size) b) := by show _ ∧ _; rw [hW]; exact grown_drew (grown_far (grown_far (grown_trans H2.out (grown_set H2.out.2 _)) hlt (Nat.le_refl _) _) hlt (Nat.le_refl _) _)
  clear H2
  rw [← hW]
  clear hW hd0 hd1 he0 he1 hc0 hc1 hf0 hf1
  refine bodyPost_ret (v := .tuple #[.agg #[.int .u8 (s[2].toNat : Int), .string (s.extract 4 (6 + c.toNat - 2))], .bool true, .bool true]) (by simp [results, Try.results35, go_sem, hq0, hq1]) rfl ⟨rfl, HF.out⟩

end Go.Proofs.Ytdecoenollejiaa
