/- Walks of Feed, New, Bad, Waiting, Wrap, and of the document's Wrap. -/
import Derived.Test.YtdecoenollejiaaFrAll
import Derived.Deep.RegionWith
set_option linter.unusedVariables false
set_option linter.unusedSimpArgs false
namespace Go.Proofs.Ytdecoenollejiaa
open Go.RowKit CrcMath FrMath

set_option maxHeartbeats 1000000 in
theorem feed_any (g : Nat) (s t : ByteArray) (b : Int) (w : World) (hS : ScanAt w g s b) (hmax : s.size + t.size ≤ 1099511627776) (hb : 0 ≤ b ∧ b ≤ 2305843009213693952) :
    Calls Try.prog 28 #[.pointer (some ⟨g, 0, none⟩), .string t] w (Fed w g (s.data.toList ++ t.data.toList) b) := by
  have hc0 := hS.cell0
  have hc1 := hS.cell1
  have hf0 := hS.free 0
  have hf1 := hS.free 1
  have hlt := hS.lt
  have HA := Lib.hid (all_any g (s ++ t) b (w.setCell ⟨g, 0, none⟩ (.string (s ++ t))) (grown_set hS _).2 (by rw [ByteArray.size_append]; exact hmax) hb)
  have HS := Lib.hid hS; clear hS
  go_enter Try.func28, Try.ntmps28
  go_wp2_with fail
  refine HA.out.mono ?_
  rintro e w2 ⟨v, s2, rfl, h1, h2, h3, h4⟩
  have HF : Hid (Fed w g (s.data.toList ++ t.data.toList) b (.returned v) w2) := by
    rw [ByteArray.data_append, Array.toList_append] at h1 h3 h4
    refine ⟨v, s2, rfl, ?_, ?_, h3, h4⟩
    · simpa using h1
    · exact grown_own2 (grown_set HS.out _).1 h2
  clear h1 h2 h3 h4
  go_wp2_with fail
  go_ret
  exact HF.out

set_option maxHeartbeats 400000 in
theorem new_any (w : World) : Calls Try.prog 27 #[] w fun e w' => e = .returned (.pointer (some ⟨w.heap.size, 0, none⟩)) ∧ w' = w.alloc (.cells #[.string ⟨#[]⟩, .int .i64 0] 59) := by
  go_enter Try.func27, Try.ntmps27
  go_wp2_with fail
  go_ret
  exact ⟨rfl, rfl⟩

set_option maxHeartbeats 400000 in
theorem bad_any (g : Nat) (s : ByteArray) (b : Int) (w : World) (hS : ScanAt w g s b) : Calls Try.prog 30 #[.pointer (some ⟨g, 0, none⟩)] w fun e w' => e = .returned (.int .i64 b) ∧ w = w' := by
  have hc1 := hS.cell1
  go_enter Try.func30, Try.ntmps30
  go_wp2_with fail
  go_ret
  exact ⟨rfl, rfl⟩

set_option maxHeartbeats 400000 in
theorem waiting_any (g : Nat) (s : ByteArray) (b : Int) (w : World) (hS : ScanAt w g s b) (hs : s.size ≤ 1099511627776) : Calls Try.prog 31 #[.pointer (some ⟨g, 0, none⟩)] w fun e w' => e = .returned (.int .i64 (s.size : Int)) ∧ w = w' := by
  have hc0 := hS.cell0
  go_enter Try.func31, Try.ntmps31
  go_wp2_with fail
  go_ret
  exact ⟨rfl, rfl⟩

theorem new_scan (w : World) : ScanAt (w.alloc (.cells #[.string ⟨#[]⟩, .int .i64 0] 59)) w.heap.size ⟨#[]⟩ 0 := by
  unfold ScanAt World.alloc
  simp

/-- What a payload is wrapped into. -/
def wrapS (k : Int) (p : ByteArray) : ByteArray := ⟨#[165, 90]⟩ ++ sealS (two k (p.size : Int) ++ p)

set_option maxHeartbeats 1000000 in
theorem wrap_any (k : UInt8) (p : ByteArray) (w : World) (hp : p.size ≤ 64) :
    Calls Try.prog 25 #[.int .u8 (k.toNat : Int), .string p] w fun e w' => e = .returned (.tuple #[.string (wrapS k.toNat p), .int .i64 0]) ∧ Below w.heap.size w w' := by
  have hp' : ¬ (64 : Int) < (p.size : Int) := by omega
  have hcv := conv2
  have hsz := two_size
  have HS : Hid ((two k.toNat (p.size : Int) ++ p).size ≤ 281474976710656) := by show _ ≤ _; rw [ByteArray.size_append, two_size]; omega
  have HL : Hid ((two k.toNat (p.size : Int) ++ p).size = p.size + 2) := by show _ = _; rw [ByteArray.size_append, two_size]; omega
  go_enter Try.func25, Try.ntmps25
  go_wp2_with fail
  refine (seal_any _ _ HS.out).mono ?_; rintro e w1 ⟨rfl, hb⟩
  have hs2 := sealS_size (two k.toNat (p.size : Int) ++ p)
  rw [HL.out] at hs2
  have HB := Lib.hid (below_then ((Below.refl w.heap.size w).alloc (Nat.le_refl _) _) (by simp) hb)
  clear hb
  go_wp2_with fail
  go_ret2
  exact ⟨rfl, HB.out⟩

set_option maxHeartbeats 1000000 in
theorem wrap_long (k : UInt8) (p : ByteArray) (w : World) (hp : 64 < p.size) (hmax : p.size ≤ 140737488351232) :
    Calls Try.prog 25 #[.int .u8 (k.toNat : Int), .string p] w fun e w' => e = .returned (.tuple #[.string ⟨#[]⟩, .int .i64 2]) ∧ w = w' := by
  have hp' : (64 : Int) < (p.size : Int) := by omega
  go_enter Try.func25, Try.ntmps25
  go_wp2_with fail
  go_ret2
  exact ⟨rfl, rfl⟩

set_option maxHeartbeats 1000000 in
theorem refwrap_long (k : UInt8) (p : ByteArray) (w : World) (hp : 64 < p.size) (hmax : p.size ≤ 140737488351232) :
    Calls Try.prog 26 #[.int .u8 (k.toNat : Int), .string p] w fun e w' => e = .returned (.tuple #[.string ⟨#[]⟩, .int .i64 2]) ∧ w = w' := by
  have hp' : (64 : Int) < (p.size : Int) := by omega
  go_enter Try.func26, Try.ntmps26
  go_wp2_with fail
  go_ret2
  exact ⟨rfl, rfl⟩

theorem conv_kept (w1 : World) (p q : Int) {w2 : World} (hb : Below (w1.alloc (.cells #[.int .u8 p, .int .u8 q] 5)).heap.size (w1.alloc (.cells #[.int .u8 p, .int .u8 q] 5)).drew w2) : (convert 32 9 (.slice (some ⟨w1.heap.size, 0, none⟩) 2 2)).run Try.prog w2 = .ok (.string (two p q)) w2 := by
  refine run_convert_bytes_arg _ 32 5 Try.underlying32 Try.underlying5 w1.heap.size 0 2 2 [p, q] rfl ?_ 9 Try.underlying9
  intro i hi
  rw [hb.cell (p := ⟨w1.heap.size, 0 + i, none⟩) (by simp)]
  have h : i = 0 ∨ i = 1 := by omega
  rcases h with rfl | rfl <;> go_simp

theorem wrap_below {w : World} {W w2 : World} (hb : Below W.heap.size W w2) (hW : Below w.heap.size w W) : Below w.heap.size w w2 := below_then hW hW.size hb

theorem conv_kept2 {w : World} {o : Obj} {p q : Int} {w2 : World} (hb : Below ((w.alloc o).alloc (.cells #[.int .u8 p, .int .u8 q] 5)).drew.heap.size ((w.alloc o).alloc (.cells #[.int .u8 p, .int .u8 q] 5)).drew w2) : (convert 32 9 (.slice (some ⟨w.heap.size + 1, 0, none⟩) 2 2)).run Try.prog w2 = .ok (.string (two p q)) w2 := by
  have h := conv_kept (w.alloc o) p q hb
  simpa using h

theorem ret_wrap (k : Int) (p : ByteArray) : Ending.returned (.tuple #[.string (two 165 90 ++ sealS (two k (p.size : Int) ++ p)), .int .i64 0]) = .returned (.tuple #[.string (wrapS k p), .int .i64 0]) := by
  have e : two 165 90 = ⟨#[165, 90]⟩ := by unfold two strOfNums; rfl
  rw [e]
  rfl

set_option maxHeartbeats 1000000 in
theorem refwrap_any (k : UInt8) (p : ByteArray) (w : World) (hp : p.size ≤ 64) :
    Calls Try.prog 26 #[.int .u8 (k.toNat : Int), .string p] w fun e w' => e = .returned (.tuple #[.string (wrapS k.toNat p), .int .i64 0]) ∧ Below w.heap.size w w' := by
  have hp' : ¬ (64 : Int) < (p.size : Int) := by omega
  have hcv := conv2
  have hsz := two_size
  have HS : Hid ((two k.toNat (p.size : Int) ++ p).size ≤ 281474976710656) := by show _ ≤ _; rw [ByteArray.size_append, two_size]; omega
  have HL : Hid ((two k.toNat (p.size : Int) ++ p).size = p.size + 2) := by show _ = _; rw [ByteArray.size_append, two_size]; omega
  go_enter Try.func26, Try.ntmps26
  go_wp2_with fail
  have hcv2 : (convert 32 9 (.slice (some ⟨w.heap.size + 1, 0, none⟩) 2 2)).run Try.prog ((w.alloc (Obj.cells #[Value.int IntKind.u8 k.toNat, Value.int IntKind.u8 p.size] 5)).alloc (Obj.cells #[Value.int IntKind.u8 165, Value.int IntKind.u8 90] 5)).drew = .ok (.string (two 165 90)) ((w.alloc (Obj.cells #[Value.int IntKind.u8 k.toNat, Value.int IntKind.u8 p.size] 5)).alloc (Obj.cells #[Value.int IntKind.u8 165, Value.int IntKind.u8 90] 5)).drew := by
    have h := conv_kept (w.alloc (Obj.cells #[Value.int IntKind.u8 k.toNat, Value.int IntKind.u8 p.size] 5)) 165 90 (Below.refl _ _)
    simpa using h
  have cA := refseal_any (two k.toNat (p.size : Int) ++ p) (w.alloc (Obj.cells #[Value.int IntKind.u8 k.toNat, Value.int IntKind.u8 p.size] 5)).drew HS.out
  have cB := refseal_any (two k.toNat (p.size : Int) ++ p) ((w.alloc (Obj.cells #[Value.int IntKind.u8 k.toNat, Value.int IntKind.u8 p.size] 5)).alloc (Obj.cells #[Value.int IntKind.u8 165, Value.int IntKind.u8 90] 5)).drew HS.out
  have CA := Lib.hid cA
  have CB := Lib.hid cB
  clear cA cB
  have hs2 := sealS_size (two k.toNat (p.size : Int) ++ p)
  rw [HL.out] at hs2
  go_region_with (first
    | (go_at_call 22; with_reducible refine CA.out.mono ?_; rintro e w2 ⟨rfl, hb⟩; have HB := Lib.hid (wrap_below hb ((Below.refl w.heap.size w).alloc (Nat.le_refl _) _).drew); clear hb)
    | (go_at_call 22; with_reducible refine CB.out.mono ?_; rintro e w2 ⟨rfl, hb⟩; have hq := conv_kept2 hb; have HB := Lib.hid (wrap_below hb (((Below.refl w.heap.size w).alloc (Nat.le_refl _) _).alloc (by simp) _).drew); clear hb))
  all_goals
    clear hcv2 hcv hsz
    go_wp2_with fail
    go_ret2
    first
      | exact ⟨ret_wrap _ _, HB.out⟩
      | exact ⟨ret_wrap _ _, HB.out.alloc HB.out.size _⟩
end Go.Proofs.Ytdecoenollejiaa
