/- frame.all: it tells what FrMath.run says of what waits in the scan at block g; nothing else that was there is changed. -/
import Derived.Test.YtdecoenollejiaaFrTook
import Derived.Deep.AppendLies
import Derived.Deep.LoopGhost
import Derived.Laws.EntriesVeiled
import Derived.WalkSmall
set_option linter.unusedVariables false
set_option linter.unusedSimpArgs false
namespace Go.Proofs.Ytdecoenollejiaa
open Go.RowKit CrcMath FrMath

/-- A frame's cells; those of a list of frames. -/
def encF (f : Fr) : List Value := [.int .u8 (f.kind.toNat : Int), .string ⟨f.pay.toArray⟩]
def rowF (fs : List Fr) : List Value := fs.flatMap encF
theorem encF_mk (k : UInt8) (p : ByteArray) : encF ⟨k, p.data.toList⟩ = [.int .u8 (k.toNat : Int), .string p] := by
  unfold encF
  rfl
theorem rowF_snoc (fs : List Fr) (k : UInt8) (p : ByteArray) : rowF fs ++ [.int .u8 (k.toNat : Int), .string p] = rowF (fs ++ [⟨k, p.data.toList⟩]) := by
  unfold rowF
  rw [List.flatMap_append, ← encF_mk]
  simp

/-- A frame in a variable of its own at block q. -/
def BoxAt (w : World) (q : Nat) (k : UInt8) (p : ByteArray) : Prop := w.heap[q]? = some (.cells #[.int .u8 (k.toNat : Int), .string p] 52 (0, 0))
theorem BoxAt.lt {w : World} {q : Nat} {k : UInt8} {p : ByteArray} (h : BoxAt w q k p) : q < w.heap.size := by
  apply Nat.lt_of_not_le
  intro hle
  rw [BoxAt, Array.getElem?_eq_none hle] at h
  cases h
theorem BoxAt.cell0 {w : World} {q : Nat} {k : UInt8} {p : ByteArray} (h : BoxAt w q k p) : w.cell? ⟨q, 0, none⟩ = some (.int .u8 (k.toNat : Int)) := by
  unfold World.cell?
  rw [show w.heap[(⟨q, 0, none⟩ : Addr).block]? = _ from h]
  rfl
theorem BoxAt.cell1 {w : World} {q : Nat} {k : UInt8} {p : ByteArray} (h : BoxAt w q k p) : w.cell? ⟨q, 1, none⟩ = some (.string p) := by
  unfold World.cell?
  rw [show w.heap[(⟨q, 1, none⟩ : Addr).block]? = _ from h]
  rfl
theorem BoxAt.free {w : World} {q : Nat} {k : UInt8} {p : ByteArray} (h : BoxAt w q k p) (o : Nat) : w.frozen? ⟨q, o, none⟩ = false := by
  unfold World.frozen?
  rw [show w.heap[(⟨q, o, none⟩ : Addr).block]? = _ from h]
  simp
theorem BoxAt.set {w : World} {q : Nat} {k : UInt8} {p : ByteArray} (h : BoxAt w q k p) (k' : UInt8) (p' : ByteArray) : BoxAt ((w.setCell ⟨q, 0, none⟩ (.int .u8 (k'.toNat : Int))).setCell ⟨q, 1, none⟩ (.string p')) q k' p' := by
  have h1 := heap_setCell_same w q 0 _ 52 (.int .u8 (k'.toNat : Int)) h
  have h2 := heap_setCell_same _ q 1 _ 52 (.string p') h1
  unfold BoxAt
  rw [h2]
  rfl

theorem grownBy_setCell (w : World) (p : Addr) (v : Value) : w.grownBy (w.setCell p v) (some p.block) :=
  ⟨rfl, rfl, rfl, by simp, fun k _ hk => heap_setCell_other _ _ _ _ (fun e => hk (by rw [e]))⟩
theorem own_set {w : World} {base : Nat} {e : TypeId} {size n : Nat} {v : Value} {xs : List Value} (h : w.ownsRow base e size v n xs) {p : Addr} (hne : v.ownBlock ≠ some p.block) (u : Value) : (w.setCell p u).ownsRow base e size v n xs :=
  h.kept (grownBy_setCell w p u) (.inr hne)
theorem BoxAt.kept {w w' : World} {q : Nat} {k : UInt8} {p : ByteArray} (h : BoxAt w q k p) {row : Option Nat} (hg : w.grownBy w' row) (hne : some q ≠ row) : BoxAt w' q k p := by
  unfold BoxAt
  rw [hg.block q h.lt hne]
  exact h
theorem ScanAt.kept {w w' : World} {g : Nat} {s : ByteArray} {b : Int} (h : ScanAt w g s b) {row : Option Nat} (hg : w.grownBy w' row) (hne : some g ≠ row) : ScanAt w' g s b := by
  unfold ScanAt
  rw [hg.block g h.lt hne]
  exact h
theorem own_base {w : World} {base : Nat} {e : TypeId} {size n : Nat} {v : Value} {xs : List Value} (h : w.ownsRow base e size v n xs) (k : Nat) (hk : v.ownBlock = some k) : base ≤ k := by
  rcases h.2 with ⟨rfl, _⟩ | ⟨g, cap, cur, rfl, hb, _⟩
  · simp [Value.ownBlock] at hk
  · have : g = k := by simpa [Value.ownBlock] using hk
    omega
theorem own_lt {w : World} {base : Nat} {e : TypeId} {size n : Nat} {v : Value} {xs : List Value} (h : w.ownsRow base e size v n xs) (k : Nat) (hk : v.ownBlock = some k) : k < w.heap.size := by
  rcases h.2 with ⟨rfl, _⟩ | ⟨g, cap, cur, rfl, hb, hh, _⟩
  · simp [Value.ownBlock] at hk
  · have : g = k := by simpa [Value.ownBlock] using hk
    subst this
    exact (Array.getElem?_eq_some_iff.1 hh).1
/-- What was there ahead of the call is there, but for block g. -/
theorem grown_own {w w1 w2 : World} {g : Nat} {row : Option Nat} (h : w.grownBy w1 (some g)) (k : w1.grownBy w2 row) (hr : ∀ j, row = some j → w.heap.size ≤ j) : w.grownBy w2 (some g) :=
  ⟨k.os.trans h.os, k.tape.trans h.tape, k.output.trans h.output, Nat.le_trans h.size k.size, fun i hi hne => (k.block i (Nat.lt_of_lt_of_le hi h.size) (fun e => by have := hr i e.symm; omega)).trans (h.block i hi hne)⟩
theorem grown_own2 {w w1 w2 : World} {g : Nat} (h : w.grownBy w1 (some g)) (k : w1.grownBy w2 (some g)) : w.grownBy w2 (some g) :=
  ⟨k.os.trans h.os, k.tape.trans h.tape, k.output.trans h.output, Nat.le_trans h.size k.size, fun i hi hne => (k.block i (Nat.lt_of_lt_of_le hi h.size) hne).trans (h.block i hi hne)⟩
theorem box_new (w : World) (k : UInt8) (p : ByteArray) : BoxAt (w.alloc (.cells #[.int .u8 (k.toNat : Int), .string p] 52)) w.heap.size k p := by
  unfold BoxAt World.alloc
  simp

/-- What holds ahead of each round of 'all': n rounds at most are still to come. -/
def Round (w : World) (g : Nat) (s0 : List UInt8) (b0 : Int) (n : Nat) (v3 v4 v5 v6 : Value) (wr : World) : Prop :=
  ∃ (q : Nat) (k : UInt8) (p : ByteArray) (tl on : Bool) (s : ByteArray) (fs : List Fr) (d : Nat),
    v4 = .pointer (some ⟨q, 0, none⟩) ∧ v5 = .bool tl ∧ v6 = .bool on ∧ BoxAt wr q k p ∧ w.heap.size ≤ q ∧ w.grownBy wr (some g) ∧ ScanAt wr g s (b0 + d) ∧
    wr.ownsRow w.heap.size 52 2 v3 fs.length (rowF fs) ∧ v3.ownBlock ≠ some q ∧ fs.length + (if tl then 1 else 0) + s.size ≤ s0.length ∧ d + s.size ≤ s0.length ∧
    (on = true → n = s.size + 1 ∧ run s0 = ⟨fs ++ (if tl then [⟨k, p.data.toList⟩] else []) ++ (run s.data.toList).told, (run s.data.toList).rest, d + (run s.data.toList).bad⟩) ∧
    (on = false → n = 0 ∧ run s0 = ⟨fs, s.data.toList, d⟩)

/-- The round of step that begins each way: the frame so far lies in the box at q. -/
theorem Round.mk' {w wb w2 : World} {g : Nat} {s0 : List UInt8} {b0 : Int} {v3 : Value} {q : Nat} {k0 k : UInt8} {p0 p : ByteArray} {tl on : Bool} {sr s' : ByteArray} {fs : List Fr} {d d' : Nat}
    (hlt : g < w.heap.size) (hb : BoxAt wb q k0 p0) (hq : w.heap.size ≤ q) (hg : w.grownBy wb (some g)) (hown : wb.ownsRow w.heap.size 52 2 v3 fs.length (rowF fs)) (hqo : v3.ownBlock ≠ some q)
    (hf : fs.length + sr.size ≤ s0.length) (hd : d + sr.size ≤ s0.length) (hrun : run s0 = ⟨fs ++ (run sr.data.toList).told, (run sr.data.toList).rest, d + (run sr.data.toList).bad⟩)
    (hg2 : wb.grownBy w2 (some g)) (hS2 : ScanAt w2 g s' (b0 + d + d')) (hN : Next sr.data.toList k p tl on s'.data.toList d') :
    Round w g s0 b0 (if on then s'.size + 1 else 0) v3 (.pointer (some ⟨q, 0, none⟩)) (.bool tl) (.bool on) ((w2.setCell ⟨q, 0, none⟩ (.int .u8 (k.toNat : Int))).setCell ⟨q, 1, none⟩ (.string p)) ∧ (on = true → s'.size < sr.size) := by
  have hgq : some q ≠ some g := by intro e; injection e with e; omega
  have hog : v3.ownBlock ≠ some g := fun e => by have := own_base hown g e; omega
  have hb2 := hb.kept hg2 hgq
  refine ⟨⟨q, k, p, tl, on, s', fs, d + d', rfl, rfl, rfl, hb2.set k p, hq, ?_, ?_, own_set (own_set (hown.kept hg2 (.inr hog)) hqo _) hqo _, hqo, ?_, ?_, ?_, ?_⟩, ?_⟩
  · exact grown_own (grown_own (grown_own2 hg hg2) (grownBy_setCell _ _ _) (fun j hj => by injection hj with hj; simp at hj; omega)) (grownBy_setCell _ _ _) (fun j hj => by injection hj with hj; simp at hj; omega)
  · rw [show b0 + ((d + d' : Nat) : Int) = b0 + d + d' by omega]
    exact (hS2.kept (grownBy_setCell _ _ _) (by intro e; injection e with e; simp at e; omega)).kept (grownBy_setCell _ _ _) (by intro e; injection e with e; simp at e; omega)
  · cases on with
    | true =>
      have := (hN.1 rfl).1
      rw [size_len, size_len] at this
      cases tl <;> simp <;> omega
    | false =>
      obtain ⟨rfl, h2, rfl, _⟩ := hN.2 rfl
      have := congrArg List.length h2
      rw [size_len, size_len] at this
      simp; omega
  · cases on with
    | true =>
      have := (hN.1 rfl).2.1
      rw [size_len, size_len] at this
      omega
    | false =>
      obtain ⟨rfl, h2, rfl, _⟩ := hN.2 rfl
      have := congrArg List.length h2
      rw [size_len, size_len] at this
      omega
  · rintro rfl
    refine ⟨rfl, ?_⟩
    rw [hrun, (hN.1 rfl).2.2]
    simp [Nat.add_assoc]
  · rintro rfl
    obtain ⟨rfl, h2, rfl, h4⟩ := hN.2 rfl
    refine ⟨rfl, ?_⟩
    rw [hrun, h4, h2]
    simp
  · rintro rfl
    have := (hN.1 rfl).1
    rwa [size_len, size_len] at this

/-- What 'all' leaves. -/
def Fed (w : World) (g : Nat) (s0 : List UInt8) (b0 : Int) (e : Ending) (w' : World) : Prop :=
  ∃ (v : Value) (s : ByteArray), e = .returned v ∧ w'.ownsRow w.heap.size 52 2 v (run s0).told.length (rowF (run s0).told) ∧ w.grownBy w' (some g) ∧ ScanAt w' g s (b0 + (run s0).bad) ∧ s.data.toList = (run s0).rest

theorem info52 : (Try.prog.info? 52).map (fun i => (i.zero, i.size, i.bytes)) = some (some (.agg #[.int .u8 0, .string ⟨#[]⟩]), 2, 24) := by kernel_rfl

set_option maxHeartbeats 1000000 in
theorem all_any (g : Nat) (s : ByteArray) (b : Int) (w : World) (hS : ScanAt w g s b) (hmax : s.size ≤ 1099511627776) (hb : 0 ≤ b ∧ b ≤ 2305843009213693952) :
    Calls Try.prog 34 #[.func (.func 35) #[.pointer (some ⟨g, 0, none⟩)] #[]] w (Fed w g s.data.toList b) := by
  obtain ⟨i0, hi, hx⟩ := Option.map_eq_some_iff.1 info52
  simp only [Prod.mk.injEq] at hx
  obtain ⟨hz0, hz1, hz2⟩ := hx
  have HI : Hid (Try.prog.info? 52 = some i0 ∧ i0.zero = some (.agg #[.int .u8 0, .string ⟨#[]⟩]) ∧ i0.size = 2 ∧ i0.bytes = 24) := ⟨hi, hz0, hz1, hz2⟩
  clear hi hz0 hz1 hz2
  have HS := Lib.hid hS
  have hlt := hS.lt
  have HSZ : Hid (s.data.toList.length = s.size) := size_len s
  clear hS
  go_enter Try.func34, Try.ntmps34
  go_wp2_with fail
  refine (step_any g s b w HS.out (by omega) ⟨hb.1, by omega⟩).mono ?_
  rintro e w1 ⟨k, p, tl, on, s1, d, rfl, hg1, hS1, hN⟩
  have H1 := Lib.hid hg1; have HS1 := Lib.hid hS1; have HN := Lib.hid hN
  have hsz := hg1.size
  clear hg1 hS1 hN
  go_wp2_with fail
  go_loopg [3, 4, 5, 6] (if on then s1.size + 1 else 0) (fun n v3 v4 v5 v6 wr => Round w g s.data.toList b n v3 v4 v5 v6 wr)
  case atStart =>
    refine ⟨w1.heap.size, k, p, tl, on, s1, [], d, rfl, rfl, rfl, box_new _ _ _, hsz, ?_, ?_, ⟨by simp [rowF], .inl ⟨rfl, rfl⟩⟩, by simp [Value.ownBlock], ?_, ?_, ?_, ?_⟩
    · exact grown_own H1.out (World.grownBy_alloc _ _ none) (fun j hj => by cases hj)
    · exact HS1.out.kept (World.grownBy_alloc _ _ none) (by simp)
    · have := HSZ.out
      cases on with
      | true =>
        have := (HN.out.1 rfl).1
        rw [size_len] at this
        cases tl <;> simp <;> omega
      | false =>
        obtain ⟨rfl, h2, rfl, _⟩ := HN.out.2 rfl
        have := congrArg List.length h2
        rw [size_len] at this
        simp; omega
    · cases on with
      | true =>
        have := (HN.out.1 rfl).2.1
        rw [size_len] at this
        omega
      | false =>
        obtain ⟨rfl, h2, rfl, _⟩ := HN.out.2 rfl
        have := congrArg List.length h2
        rw [size_len] at this
        omega
    · rintro rfl
      refine ⟨rfl, ?_⟩
      rw [(HN.out.1 rfl).2.2]
      simp
    · rintro rfl
      obtain ⟨rfl, h2, rfl, h4⟩ := HN.out.2 rfl
      refine ⟨rfl, ?_⟩
      rw [h4, h2]
  case round =>
    clear H1 HS1 HN HS
    clear hsz
    obtain ⟨q, k, p, tl, on, sr, fs, dd, rfl, rfl, rfl, hbox, hq, hgr, hSr, hown, hqo, hfs, hds, hon, hoff⟩ := hrel
    cases on with
    | false =>
      have HR := Lib.hid (hoff rfl).2
      have HG := Lib.hid hgr; have HSr := Lib.hid hSr; have HO := Lib.hid hown
      clear hon hoff hgr hSr hown hqo hbox
      go_wp2_with fail
      refine bodyPost_ret (v := u3) (by simp [results, Try.results34, go_sem]) rfl ⟨u3, sr, rfl, ?_, HG.out, ?_, ?_⟩
      · rw [HR.out]; exact HO.out
      · rw [HR.out]; exact HSr.out
      · rw [HR.out]
    | true =>
      have hn := Lib.hid (hon rfl).1
      have HR := Lib.hid (hon rfl).2
      have hb0 := hbox.cell0
      have hb1 := hbox.cell1
      have HQO := Lib.hid hqo
      have HG := Lib.hid hgr; have HSr := Lib.hid hSr; have HB := Lib.hid hbox
      have hgz := hgr.size
      have hsr : sr.size ≤ 1099511627776 := by have := HSZ.out; omega
      have hdb : 0 ≤ b + (dd : Int) ∧ b + (dd : Int) ≤ 4611686018427387904 := by have := HSZ.out; omega
      clear hon hoff hqo hgr hSr hbox
      cases tl with
      | false =>
        have HO := Lib.hid hown
        clear hown
        go_wp2_with fail
        have hnew := box_new wr k p
        refine (step_any g sr (b + (dd : Int)) _ (HSr.out.kept (World.grownBy_alloc _ _ none) (by simp)) (by omega) hdb).mono ?_
        rintro e w2 ⟨k2, p2, tl2, on2, s2, d2, rfl, hg2, hS2, hN2⟩
        obtain ⟨HF, HL⟩ := Round.mk' (s0 := s.data.toList) (b0 := b) hlt (box_new wr k p) (by omega) (grown_own HG.out (World.grownBy_alloc _ _ none) (fun j hj => by cases hj)) (HO.out.alloc _) (fun e => by have := own_lt HO.out _ e; omega) (by simpa using hfs) hds (by rw [HR.out]; simp) hg2 hS2 hN2
        have hd0 := (hnew.kept hg2 (by intro e; injection e with e; have := HSr.out.lt; omega)).cell0
        have hd1 := (hnew.kept hg2 (by intro e; injection e with e; have := HSr.out.lt; omega)).cell1
        have he0 := (hnew.kept hg2 (by intro e; injection e with e; have := HSr.out.lt; omega)).free 0
        have he1 := (hnew.kept hg2 (by intro e; injection e with e; have := HSr.out.lt; omega)).free 1
        have HF := Lib.hid HF; have HL := Lib.hid HL
        clear hnew hg2 hS2 hN2
        go_wp2_with fail
        go_roundg (if on2 then s2.size + 1 else 0)
        case measure =>
          have h1 := hn.out; have h2 := HL.out
          cases on2 with
          | true => have := h2 rfl; simp; omega
          | false => simp; omega
        case rel => exact HF.out
      | true =>
        have HO := Lib.hid hown
        have hqlt := HB.out.lt
        clear hown
        have hf1 : fs.length + 1 + sr.size ≤ s.data.toList.length := by simpa using hfs
        have HBS : ∀ o, w.heap.size ≤ (wr.alloc o).heap.size := fun o => by simp; omega
        have HLL := HSZ.out
        have H63 : fs.length + 1 ≤ maxLen := by unfold maxLen; omega
        have HBY : (fs.length + 1) * 24 ≤ 140737488355328 := by omega
        clear HLL
        have HONE : ∀ v ∈ [Value.int .u8 (k.toNat : Int), Value.string p], v.oneCell' = true := by intro u hu; simp at hu; rcases hu with rfl | rfl <;> rfl
        obtain ⟨hi, hz0, hz1, hz2⟩ := HI.out
        go_wp2_with (at_builtin; refine wpList_append_lies _ rfl (.tmp 21) (.tmp 23) 43 rfl w.heap.size 52 i0 _ 2 24 Try.underlying43 hi hz0 hz1 hz2 rfl (by decide) _ fs.length _ rfl (HO.out.alloc _) ⟨wr.heap.size, 0, none⟩ 1 1 [Value.int .u8 (k.toNat : Int), Value.string p] rfl rfl (cell_two_new _ _ _ _) HONE (by decide) H63 HBY (HBS _) _ rfl ?_; intro gg cap wn hown1 hgrow1 hat1 hlt1; have hbn := ((HB.out.kept (World.grownBy_alloc _ _ none) (by simp)).kept hgrow1 (fun e => HQO.out e.symm)); have hc0 := hbn.cell0; have hc1 := hbn.cell1; rw [rowF_snoc, show fs.length + 1 = (fs ++ [(⟨k, p.data.toList⟩ : Fr)]).length by simp] at hown1; have Y := Lib.hid (And.intro hown1 hgrow1); clear hown1 hgrow1 hat1 hbn)
        obtain ⟨hown1, hgrow1⟩ := Y.out
        have hog : some g ≠ u3.ownBlock := fun e => by have := own_base HO.out g e.symm; omega
        have hSn : ScanAt (wn.alloc (.cells #[.int .u8 (k.toNat : Int), .string p] 52)) g sr (b + (dd : Int)) := ((HSr.out.kept (World.grownBy_alloc _ _ none) (by simp)).kept hgrow1 hog).kept (World.grownBy_alloc _ _ none) (by simp)
        have hGn : w.grownBy wn (some g) := grown_own (grown_own HG.out (World.grownBy_alloc _ _ none) (fun j hj => by cases hj)) hgrow1 (fun j hj => own_base HO.out j hj)
        have hSlt := hSn.lt
        have hSlt2 : g < wn.heap.size := ((HSr.out.kept (World.grownBy_alloc _ _ none) (by simp)).kept hgrow1 hog).lt
        have hnew := box_new wn k p
        refine (step_any g sr (b + (dd : Int)) _ hSn (by omega) hdb).mono ?_
        rintro e w2 ⟨k2, p2, tl2, on2, s2, d2, rfl, hg2, hS2, hN2⟩
        obtain ⟨HF, HL⟩ := Round.mk' (s0 := s.data.toList) (b0 := b) hlt (box_new wn k p) hGn.size (grown_own hGn (World.grownBy_alloc _ _ none) (fun j hj => by cases hj)) (hown1.alloc _) (by simp only [Value.ownBlock]; intro e; injection e with e; omega) (by have := HSZ.out; simp; omega) hds (by rw [HR.out]; simp) hg2 hS2 hN2
        have hd0 := (hnew.kept hg2 (by intro e; injection e with e; omega)).cell0
        have hd1 := (hnew.kept hg2 (by intro e; injection e with e; omega)).cell1
        have he0 := (hnew.kept hg2 (by intro e; injection e with e; omega)).free 0
        have he1 := (hnew.kept hg2 (by intro e; injection e with e; omega)).free 1
        rw [show (fs ++ [(⟨k, p.data.toList⟩ : Fr)]).length = fs.length + 1 by simp] at HF
        have HF := Lib.hid HF; have HL := Lib.hid HL
        clear hnew hg2 hS2 hN2 hown1 hgrow1 hc0 hc1 HBS H63 HBY HONE hi hz0 hz1 hz2 hSn hGn hSlt hSlt2 hog
        go_wp2_with fail

        go_roundg (if on2 then s2.size + 1 else 0)
        case measure =>
          have h1 := hn.out; have h2 := HL.out
          cases on2 with
          | true => have := h2 rfl; simp; omega
          | false => simp; omega
        case rel => exact HF.out
end Go.Proofs.Ytdecoenollejiaa
