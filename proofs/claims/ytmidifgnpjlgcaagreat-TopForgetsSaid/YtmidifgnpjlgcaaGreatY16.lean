/- The texts Tc of the walk of the law and of all that it calls, in one file. No condition. -/
import Derived.WalkMore
import Derived.Test.YtmidifgnpjlgcaaGreatY15
/- Solve: what it computes, and its walk. -/
set_option linter.unusedVariables false
set_option linter.unusedSimpArgs false
namespace Go.Proofs.YtmidifgnpjlgcaaGreat
open Go.RowKit

/-- How far Solve has come: where it stands, its status, how many steps were taken, how many were tried. -/
structure Rz where
  X : List Int
  st : Int
  acc : Nat
  tried : Int
def mvP (xs ds : List Int) : List Int := (List.range xs.length).map (fun j => xs.getD j 0 + ds.getD j 0)
theorem mvP_eq {xs ds ys : List Int} (hl : ys.length = xs.length) (h : ∀ j, ys.getD j 0 = xs.getD j 0 + ds.getD j 0) : ys = mvP xs ds := by
  apply List.ext_getElem
  · simp [mvP, hl]
  · intro j h1 h2
    have := h j
    rw [List.getD_eq_getElem?_getD, List.getElem?_eq_getElem h1] at this
    simp only [Option.getD_some] at this
    rw [this]
    simp [mvP]
/-- A list that lies in neither block. -/
def Aw (b k B : Nat) (A : Option Addr) : Prop := ∀ p, A = some p → p.block ≠ b ∧ p.block ≠ k ∧ B ≤ p.block
theorem Aw.off {b k B l c : Nat} {A : Option Addr} (h : Aw b k B A) : Off B (.slice A l c) := fun p l c e => by cases e; exact (h p rfl).2.2
theorem iv_set {w : World} {A : Option Addr} {m c : Nat} {xs : List Int} (h : Iv w (.slice A m c) xs) (b k : Nat) (u : Value) (hb : ∀ p, A = some p → p.block ≠ b) : Iv (w.setCell ⟨b, k, none⟩ u) (.slice A m c) xs := by
  obtain ⟨A2, c2, hv, h0, h⟩ := h
  injection hv with h1 h2 h3
  subst h1
  refine ⟨A, c2, by rw [h2, h3], h0, fun j hj => ?_⟩
  obtain ⟨hi, p, hp, hlt, hc⟩ := h j hj
  refine ⟨hi, p, hp, by simpa using hlt, ?_⟩
  rw [← hc]
  unfold World.cell?
  rw [Below.heap_setCell w ⟨b, k, none⟩ u (p.add j).block (by rw [add_block]; exact hb p hp)]
theorem sta_set {w : World} {A : Option Addr} {m c : Nat} {xs : List Int} {n : Nat} (h : Sta w (.slice A m c) xs n) (b k : Nat) (u : Value) (hb : ∀ p, A = some p → p.block ≠ b) : Sta (w.setCell ⟨b, k, none⟩ u) (.slice A m c) xs n := ⟨iv_set h.1 b k u hb, h.2⟩

variable {w0 w : World} {l l2 : List (Nat × Obj)}
set_option maxHeartbeats 8000000 in
set_option maxRecDepth 100000 in
theorem moved_own (s t : Value) (xs ds : List Int) (w : World) (h : Iv w s xs) (hd : Iv w t ds) (l : xs.length ≤ 1000000) (ld : ds.length ≤ xs.length)
    (bx : ∀ j, j < xs.length → -1000000 ≤ xs.getD j 0 ∧ xs.getD j 0 ≤ 1000000) (bd : ∀ j, j < ds.length → -10000000 ≤ ds.getD j 0 ∧ ds.getD j 0 ≤ 10000000) :
    Calls Tryz.prog 36 #[s, t] w fun e w' => ∃ v ys, e = .returned v ∧ Off w.heap.size v ∧ Iv w' v ys ∧ ys.length = xs.length ∧ (∀ j, ys.getD j 0 = xs.getD j 0 + ds.getD j 0) ∧ Below w.heap.size w w' := by
  have H := Lib.hid h
  obtain ⟨B, d, rfl, -, hb⟩ := hd
  have HB := Lib.hid hb; have BX := Lib.hid bx; have BD := Lib.hid bd
  have K := Lib.hid (Keep.start w)
  clear hb bx bd h
  go_enter Tryz.func36, Tryz.ntmps36
  go_wp2_with fail
  refine (clone64_any s xs _ (H.out.below K.out.B) l).mono ?_
  rintro e w2 ⟨v, rfl, hown, hb⟩
  rcases hown.row with ⟨rfl, rfl⟩ | ⟨g, c, rest, rfl, hg, hc, hrow⟩
  · replace K := Lib.hid (Keep.stays _ _ K.out hb)
    clear hown hb
    have hd0 : ds.length ≤ 0 := by simpa using ld
    go_wp2_with fail
    go_loopg [11] 0 (fun gk iv wr => iv = .int .i64 0 ∧ Keep w [] wr)
    case atStart => exact ⟨rfl, K.out⟩
    case round =>
      obtain ⟨rfl, k⟩ := hrel
      have K := Lib.hid k
      clear k
      go_wp2_with fail
      go_ret
      exact ⟨_, [], rfl, Off.nil _ _ _, ⟨none, 0, rfl, fun _ => rfl, fun j hj => absurd hj (by simp)⟩, rfl, fun j => by rw [show ds = [] from List.length_eq_zero_iff.1 (by omega)]; rfl, K.out.B⟩
  · replace K := Lib.hid (Keep.held K.out (Keep.stays _ _ K.out hb) hrow hg)
    clear hown hb hrow hg
    go_wp2_with fail
    go_loopg [11] ds.length (fun gk iv wr => ∃ (i : Nat) (ys : List Int), gk + i = ds.length ∧ iv = .int .i64 (i : Int) ∧ ys.length = xs.length ∧ (∀ j, j < xs.length → i64 (ys.getD j 0)) ∧ ((∀ j, i ≤ j → ys.getD j 0 = xs.getD j 0) ∧ ∀ j, j < i → ys.getD j 0 = xs.getD j 0 + ds.getD j 0) ∧ Keep w [(g, Obj.qowt ys rest)] wr)
    case atStart => exact ⟨0, xs, by omega, rfl, rfl, fun j hj => by have := BX.out j hj; exact ⟨by omega, by omega⟩, ⟨fun j _ => rfl, fun j hj => absurd hj (by omega)⟩, K.out⟩
    case round =>
      clear K
      obtain ⟨i, ys, hgi, rfl, hy, hi6, hsame, k⟩ := hrel
      have K := Lib.hid k
      have HY := Lib.hid (And.intro hy (And.intro hi6 hsame))
      clear k hy hi6 hsame
      by_cases hi : i < ds.length
      · obtain ⟨-, q, rfl, hq, hqc⟩ := HB.out i hi
        have hiy : Hid (i < ys.length) := by show _ < _; rw [HY.out.1]; omega
        have e1 : ∀ p : At (Keep w [(g, Obj.qowt ys rest)]), p.w.cell? ⟨g, i, none⟩ = some (.int .i64 (xs.getD i 0)) := fun p => by rw [p.h.qtc (.head _) i hiy.out, HY.out.2.2.1 i (Nat.le_refl i)]
        have e2 : ∀ p : At (Keep w [(g, Obj.qowt ys rest)]), p.w.cell? (q.add i) = some (.int .i64 (ds.getD i 0)) := fun p => by rw [p.h.B.cell (p := q.add i) (by rw [add_block]; exact hq)]; exact hqc
        obtain ⟨x1, x2⟩ := BX.out i (by omega)
        obtain ⟨d1, d2⟩ := BD.out i hi
        clear hq hqc
        have HXY : Hid (∀ x y, xs.getD i 0 = x → ds.getD i 0 = y → x + y = xs.getD i 0 + ds.getD i 0) := fun x y h1 h2 => by rw [h1, h2]
        generalize hxx : xs.getD i 0 = x at e1 x1 x2
        generalize hyy : ds.getD i 0 = y at e2 d1 d2
        replace HXY := Lib.hid (HXY.out x y hxx hyy)
        clear hxx hyy
        have hw : IntKind.i64.wrap (x + y) = x + y := IntWalk.i64_in _ (by omega)
        go_wp2_with fail
        (refine region_tail _ 9 (by kernel_rfl) (by kernel_rfl) K.out.drew ?_; haveI ne := Keep.ne K)
        (simp only [List.take_succ_cons, List.take_zero, List.drop_succ_cons, List.drop_zero])
        repeat (go_big_quiet_step (fail))
        (refine wpQuiet_nil ?_; clear ne K; intro W K; replace K := Lib.hid K)
        clear e1 e2 hw
        have Z := K.out.qtc (.head _) i hiy.out
        have f5 := K.out.qtw (.head _)
        go_wp2_with fail
        replace K := Lib.hid (K.out.setqt [] i hiy.out (x + y))
        clear Z f5
        go_roundg (gk - 1)
        case measure => omega
        case rel =>
          refine ⟨i + 1, _, by omega, congrArg (Value.int .i64) (by omega), by rw [List.length_set]; exact HY.out.1, fun j hj => ?_, ⟨fun j hj => ?_, fun j hj => ?_⟩, K.out⟩
          · by_cases e : i = j
            · rw [← e, getD_set_at hiy.out]; exact ⟨by omega, by omega⟩
            · rw [getD_set_ne' e]; exact HY.out.2.1 j hj
          · rw [getD_set_ne' (by omega)]; exact HY.out.2.2.1 j (by omega)
          · by_cases e : i = j
            · rw [← e, getD_set_at hiy.out]; exact HXY.out
            · rw [getD_set_ne' e]; exact HY.out.2.2.2 j (by omega)
      · have HG := Lib.hid (K.out.qiv (c := c) (.head _) (fun j hj => HY.out.2.1 j (by rw [← HY.out.1]; exact hj)))
        rw [HY.out.1] at HG
        go_wp2_with fail
        go_ret
        exact ⟨_, ys, rfl, Off.of (K.out.own _ (.head _)) _ _ _, HG.out, HY.out.1, fun j => by
          by_cases hj : j < i
          · exact HY.out.2.2.2 j hj
          · rw [HY.out.2.2.1 j (by omega), getD_out (b := ds) (by omega), Int.add_zero], K.out.B⟩
/-- The raises from r on, so many of them left; whether a step was taken. -/
def raiseP (n : Nat) (rs : List Rw) : Nat → Nat → Rz → Rz × Bool
  | 0, _, z => (z, false)
  | k + 1, r, z => match stepP n rs z.X r with
    | none => raiseP n rs k (r + 1) z
    | some ds =>
      let z1 : Rz := { z with tried := z.tried + 1, st := if z.st = 5 then 3 else z.st }
      if nonz ds = false then (z1, false)
      else if stateB (mvP z.X ds) = false then raiseP n rs k (r + 1) { z1 with st := 4 }
      else if cost rs (mvP z.X ds) < cost rs z.X then ({ z1 with X := mvP z.X ds, acc := z.acc + 1 }, true)
      else raiseP n rs k (r + 1) z1
theorem raiseP_none {n : Nat} {rs : List Rw} {k r : Nat} {z : Rz} (h : stepP n rs z.X r = none) : raiseP n rs (k + 1) r z = raiseP n rs k (r + 1) z := by rw [raiseP, h]
theorem raiseP_some {n : Nat} {rs : List Rw} {k r : Nat} {X ds : List Int} {st st3 tried : Int} {acc : Nat} (h : stepP n rs X r = some ds) (h3 : (if st = 5 then 3 else st) = st3) :
    raiseP n rs (k + 1) r ⟨X, st, acc, tried⟩ = if nonz ds = false then (⟨X, st3, acc, tried + 1⟩, false) else if stateB (mvP X ds) = false then raiseP n rs k (r + 1) ⟨X, 4, acc, tried + 1⟩
      else if cost rs (mvP X ds) < cost rs X then (⟨mvP X ds, st3, acc + 1, tried + 1⟩, true) else raiseP n rs k (r + 1) ⟨X, st3, acc, tried + 1⟩ := by
  rw [raiseP, h]
  simp only [h3]
/-- Solve, so many rounds left. -/
def solveP (n : Nat) (rs : List Rw) (rounds raises : Nat) (flat : Int) : Nat → Rz → Rz
  | 0, z => z
  | f + 1, z =>
    if flatB rs z.X n flat then { z with st := 1 }
    else if z.acc = rounds then { z with st := 2 }
    else
      let p := raiseP n rs (raises + 1) 0 { z with st := 5 }
      if p.2 then solveP n rs rounds raises flat f p.1 else p.1

theorem stop_end {n : Nat} {rs : List Rw} {rounds raises f : Nat} {flat : Int} {p : Rz × Bool} {z Z : Rz} (hp : (z, false) = p) (hz : (if p.2 = true then solveP n rs rounds raises flat f p.1 else p.1) = Z) : Z = z := by
  subst hp
  exact hz.symm
theorem raise_end {n : Nat} {rs : List Rw} {rounds raises f gk r : Nat} {flat : Int} {p : Rz × Bool} {z Z : Rz} (hp : raiseP n rs gk r z = p) (h0 : gk = 0) (hz : (if p.2 = true then solveP n rs rounds raises flat f p.1 else p.1) = Z) : Z = z := by
  subst h0
  exact stop_end hp hz
theorem take_end {n : Nat} {rs : List Rw} {rounds raises f : Nat} {flat : Int} {p : Rz × Bool} {z Z : Rz} (hp : (z, true) = p) (hz : (if p.2 = true then solveP n rs rounds raises flat f p.1 else p.1) = Z) : solveP n rs rounds raises flat f z = Z := by
  subst hp
  exact hz

/-- What Solve tells. -/
def SoR (z : Rz) (B : Nat) (e : Ending) (w' : World) : Prop := ∃ u, e = .returned (.tuple #[.agg #[u, .int .i64 z.st, .int .i64 (z.acc : Int), .int .i64 z.tried], .int .i64 0]) ∧ Off B u ∧ Iv w' u z.X

theorem ret_res {fn : Func} {p u g : Nat} {tmps : Array Value} {w : World} {A : Option Addr} {m n : Nat} {a b c : Int} {R : Ending → World → Prop} (h : fn.results = #[.cell p 44, .tmp u]) (hp : tmps.getD p undef = .pointer (some ⟨g, 0, none⟩))
    (hb : w.heap[g]? = some (.cells #[.slice A m n, .int .i64 a, .int .i64 b, .int .i64 c] 44)) (hR : R (.returned (.tuple #[.agg #[.slice A m n, .int .i64 a, .int .i64 b, .int .i64 c], tmps.getD u undef])) w) : bodyPost Tryz.prog fn R .ret { tmps := tmps, defers := [] } w := by
  refine bodyPost_ret ?_ rfl hR
  have hp' : tmps[p]?.getD undef = .pointer (some ⟨g, 0, none⟩) := by simpa using hp
  have e1 := run_loadVar_row (P := Tryz.prog) w g 44 44 _ _ _ hb Tryz.underlying44 rfl (by kernel_rfl)
  simp [results, h, hp', asAddr, e1]

variable {w0 w : World} {l l2 : List (Nat × Obj)}
set_option maxHeartbeats 16000000 in
set_option maxRecDepth 100000 in
theorem solve_any (rv pv qv cs ds t : Value) (cn dn : Bool) (n : Nat) (rs : List Rw) (xs : List Int) (w : World) (h : Gz w rv pv qv cn cs dn ds n rs) (hx : Sta w t xs n)
    (a : Nat → Int) (ha : cfgOk a) (a0 a1 a2 a3 a4 a5 a6 a7 a8 a9 a10 a11 a12 a13 : Int) (rounds raises : Nat) (flat : Int) (hl : ∀ k, k < 17 → some (Value.int .i64 (a k)) = ((#[.int .i64 a0, .int .i64 a1, .int .i64 a2, .int .i64 a3, .int .i64 a4, .int .i64 a5, .int .i64 a6, .int .i64 a7, .int .i64 a8, .int .i64 a9, .int .i64 a10, .int .i64 a11, .int .i64 a12, .int .i64 a13, .int .i64 (rounds : Nat), .int .i64 (raises : Nat), .int .i64 flat]) : Array Value)[k]?) (hro : rounds ≤ 30) (hra : raises ≤ 12) (hfl : i64 flat) :
    Calls Tryz.prog 10 #[.agg #[.int .i64 n, rv, pv, qv, .bool cn, cs, .bool dn, ds], .agg (#[.int .i64 a0, .int .i64 a1, .int .i64 a2, .int .i64 a3, .int .i64 a4, .int .i64 a5, .int .i64 a6, .int .i64 a7, .int .i64 a8, .int .i64 a9, .int .i64 a10, .int .i64 a11, .int .i64 a12, .int .i64 a13, .int .i64 (rounds : Nat), .int .i64 (raises : Nat), .int .i64 flat]), t] w fun e w' => SoR (solveP n rs rounds raises flat (rounds + 1) ⟨xs, 0, 0, 0⟩) w.heap.size e w' ∧ Below w.heap.size w w' := by
  generalize hZ : solveP n rs rounds raises flat (rounds + 1) ⟨xs, 0, 0, 0⟩ = Z
  replace hZ := Lib.hid hZ
  obtain ⟨CA, cl, cc, rfl⟩ := h.2.2.1.2.2.sl
  obtain ⟨DA, dl, dc, rfl⟩ := h.2.2.2.1.sl
  have HG := Lib.hid h; have HX := Lib.hid hx
  obtain ⟨hl60, hn11⟩ := h.2.2.2.2
  obtain ⟨RA, rc, rfl, -⟩ := h.1
  obtain ⟨PA, pc, rfl, -⟩ := h.2.2.1.1
  obtain ⟨QA, qc, rfl, -⟩ := h.2.2.1.2.1
  obtain ⟨B, d, rfl, -⟩ := hx.1
  have HXL := Lib.hid hx.2.1
  have HSB : Hid (stateB xs = true) := decide_eq_true (fun j hj => hx.2.2 j (by rw [← hx.2.1]; exact hj))
  have K := Lib.hid (Keep.begin3 w (.cells (#[.int .i64 n, .slice RA rs.length rc, .slice PA n pc, .slice QA n qc, .bool cn, .slice CA cl cc, .bool dn, .slice DA dl dc]) 34) (.cells (#[.int .i64 a0, .int .i64 a1, .int .i64 a2, .int .i64 a3, .int .i64 a4, .int .i64 a5, .int .i64 a6, .int .i64 a7, .int .i64 a8, .int .i64 a9, .int .i64 a10, .int .i64 a11, .int .i64 a12, .int .i64 a13, .int .i64 (rounds : Nat), .int .i64 (raises : Nat), .int .i64 flat]) 41) (.cells #[.slice none 0 0, .int .i64 0, .int .i64 0, .int .i64 0] 44))
  have HA := Lib.hid ha
  have HL := Lib.hid hl
  clear h hx ha hl
  go_enter Tryz.func10, Tryz.ntmps10
  go_upto_region 1 with fail
  (refine out_keep K.out ?_; clear K; intro W K; replace K := Lib.hid K)
  go_step3
  go_upto_region 1 with fail
  go_step
  refine wpList_load_row rfl 41 _ rfl (w.heap.size + 1) rfl 41 _ (0, 0) _ (K.out.gb (.tail _ (.head _))) Tryz.underlying41 rfl (by kernel_rfl) ?_
  simp only [Act.put, List.setIfInBounds_toArray, List.set_cons_zero, List.set_cons_succ]
  go_wp2_with fail
  refine (callsIn_wide.1 (check_any a HA.out a0 a1 a2 a3 a4 a5 a6 a7 a8 a9 a10 a11 a12 a13 rounds raises flat HL.out _)).mono ?_
  rintro e w2 ⟨rfl, hb⟩
  replace K := Lib.hid (Keep.stays _ _ K.out hb)
  clear hb HA HL
  have H14 : Hid (((#[.int .i64 a0, .int .i64 a1, .int .i64 a2, .int .i64 a3, .int .i64 a4, .int .i64 a5, .int .i64 a6, .int .i64 a7, .int .i64 a8, .int .i64 a9, .int .i64 a10, .int .i64 a11, .int .i64 a12, .int .i64 a13, .int .i64 (rounds : Nat), .int .i64 (raises : Nat), .int .i64 flat]) : Array Value)[14]? = some (.int .i64 (rounds : Nat))) := rfl
  have H15 : Hid (((#[.int .i64 a0, .int .i64 a1, .int .i64 a2, .int .i64 a3, .int .i64 a4, .int .i64 a5, .int .i64 a6, .int .i64 a7, .int .i64 a8, .int .i64 a9, .int .i64 a10, .int .i64 a11, .int .i64 a12, .int .i64 a13, .int .i64 (rounds : Nat), .int .i64 (raises : Nat), .int .i64 flat]) : Array Value)[15]? = some (.int .i64 (raises : Nat))) := rfl
  have H16 : Hid (((#[.int .i64 a0, .int .i64 a1, .int .i64 a2, .int .i64 a3, .int .i64 a4, .int .i64 a5, .int .i64 a6, .int .i64 a7, .int .i64 a8, .int .i64 a9, .int .i64 a10, .int .i64 a11, .int .i64 a12, .int .i64 a13, .int .i64 (rounds : Nat), .int .i64 (raises : Nat), .int .i64 flat]) : Array Value)[16]? = some (.int .i64 flat)) := rfl
  generalize ((#[.int .i64 a0, .int .i64 a1, .int .i64 a2, .int .i64 a3, .int .i64 a4, .int .i64 a5, .int .i64 a6, .int .i64 a7, .int .i64 a8, .int .i64 a9, .int .i64 a10, .int .i64 a11, .int .i64 a12, .int .i64 a13, .int .i64 (rounds : Nat), .int .i64 (raises : Nat), .int .i64 flat]) : Array Value) = cf at *
  have x0 := K.out.cell (k := 0) (.tail _ (.tail _ (.head _))) rfl
  rw [HXL.out] at HX ⊢
  go_wp2_with fail
  refine (state_any _ xs _ (HX.out.1.below K.out.B) (by rw [HXL.out]; omega)).mono ?_
  rintro e w3 ⟨rfl, hb⟩
  rw [HSB.out]
  replace K := Lib.hid (Keep.stays _ _ K.out hb)
  clear hb x0 HSB
  go_wp2_with fail
  refine (clone64_any _ xs _ (HX.out.1.below K.out.B) (by rw [HXL.out]; omega)).mono ?_
  rintro e w4 ⟨v, rfl, hq, hb⟩
  have HW3 : Hid (w.heap.size + 1 + 1 < w3.heap.size) := K.out.lt (.head _)
  have HQ : Hid (∀ g, v.ownBlock = some g → w3.heap.size ≤ g ∧ g < w4.heap.size) := Lib.hid (fun g hg => ⟨hq.base g hg, by rcases hq.row with ⟨rfl, _⟩ | ⟨g', c, rest, rfl, _, _, hh⟩; cases hg; cases hg; exact (Array.getElem?_eq_some_iff.1 hh).1⟩)
  have HI := Lib.hid (hq.iv (fun j hj => by have := HX.out.2.2 j (by rw [← HXL.out]; exact hj); unfold i64; omega))
  replace K := Lib.hid (Keep.stays _ _ K.out hb)
  clear hb hq
  obtain ⟨A4, c4, rfl, -⟩ := HI.out
  go_upto_region 7 with fail
  replace K := Lib.hid (K.out.alloc (.cells #[.slice A4 xs.length c4, .int .i64 0, .int .i64 0, .int .i64 0] 44))
  replace HI := Lib.hid (HI.out.below (Ext.alloc w4 (.cells #[.slice A4 xs.length c4, .int .i64 0, .int .i64 0, .int .i64 0] 44)))
  have HS : Hid (Sta _ (.slice A4 xs.length c4) xs n) := Lib.hid (And.intro HI.out HX.out.2)
  rw [HXL.out] at HS K ⊢
  clear HI
  have HAW : Hid (Aw w4.heap.size (w.heap.size + 1 + 1) w.heap.size A4) := Lib.hid (fun p hp => by subst hp; have := HQ.out p.block rfl; have := HW3.out; exact ⟨by omega, by omega, by omega⟩)
  clear HQ HW3
  refine out_with (B := fun W => Sta W (.slice A4 n c4) xs n) K.out HS.out ?_
  generalize w4.heap.size = b10 at HAW ⊢
  clear K HS
  intro W5 K HS
  replace K := Lib.hid K
  replace HS := Lib.hid HS
  go_step3
  go_wp2_with fail
  go_loopg [] (rounds + 1) (fun gk wr => ∃ (z : Rz) (A : Option Addr) (c : Nat), gk + z.acc = rounds + 1 ∧ z.acc ≤ rounds ∧ 0 ≤ z.tried ∧ z.tried ≤ 13 * (z.acc : Int) ∧ Sta wr (.slice A n c) z.X n ∧ Aw b10 (w.heap.size + 1 + 1) w.heap.size A ∧ Keep w [(b10, .cells #[.slice A n c, .int .i64 z.st, .int .i64 (z.acc : Int), .int .i64 z.tried] 44), (w.heap.size + 1 + 1, .cells #[.slice none 0 0, .int .i64 0, .int .i64 0, .int .i64 0] 44), (w.heap.size + 1, .cells cf 41), (w.heap.size, .cells (#[.int .i64 n, .slice RA rs.length rc, .slice PA n pc, .slice QA n qc, .bool cn, .slice CA cl cc, .bool dn, .slice DA dl dc]) 34)] wr ∧ solveP n rs rounds raises flat gk z = Z)
  case atStart => exact ⟨⟨xs, 0, 0, 0⟩, A4, c4, rfl, by simp, by simp, by simp, HS.out, HAW.out, K.out, hZ.out⟩
  case round =>
    clear K HS
    obtain ⟨⟨X, st, acc, tried⟩, A, c, hg, hacc, ht0, ht1, hs, haw, k, hz⟩ := hrel
    have K := Lib.hid k
    have HS := Lib.hid hs
    replace hz := Lib.hid hz
    have HAW := Lib.hid haw
    clear haw
    clear k hs hZ
    simp only [] at hg hacc ht0 ht1 K HS
    (have x0 := K.out.cell (k := 0) (.tail _ (.tail _ (.tail _ (.head _)))) rfl; have x1 := K.out.cell (k := 1) (.tail _ (.tail _ (.tail _ (.head _)))) rfl; have x2 := K.out.cell (k := 2) (.tail _ (.tail _ (.tail _ (.head _)))) rfl; have x3 := K.out.cell (k := 3) (.tail _ (.tail _ (.tail _ (.head _)))) rfl; have x4 := K.out.cell (k := 4) (.tail _ (.tail _ (.tail _ (.head _)))) rfl; have x5 := K.out.cell (k := 5) (.tail _ (.tail _ (.tail _ (.head _)))) rfl; have x6 := K.out.cell (k := 6) (.tail _ (.tail _ (.tail _ (.head _)))) rfl; have x7 := K.out.cell (k := 7) (.tail _ (.tail _ (.tail _ (.head _)))) rfl)
    (have y0 := K.out.cell (k := 0) (.head _) rfl; have y1 := K.out.cell (k := 1) (.head _) rfl; have y2 := K.out.cell (k := 2) (.head _) rfl; have y3 := K.out.cell (k := 3) (.head _) rfl; have fy := K.out.warm (.head _) 0; have fy1 := K.out.warm (.head _) 1; have fy2 := K.out.warm (.head _) 2; have fy3 := K.out.warm (.head _) 3)
    have c16 := K.out.cell (k := 16) (.tail _ (.tail _ (.head _))) H16.out
    go_wp2_with fail
    refine (flat_any _ _ _ _ _ _ cn dn n rs X flat _ (HG.out.below K.out.B) HS.out hfl).mono ?_
    rintro e w6 ⟨rfl, hb⟩
    replace K := Lib.hid (Keep.stays _ _ K.out hb)
    replace HS := Lib.hid (HS.out.below hb)
    clear hb c16
    (clear x0 x1 x2 x3 x4 x5 x6 x7)
    (clear y0 y1 y2 y3 fy fy1 fy2 fy3)
    obtain ⟨f, rfl⟩ : ∃ f, gk = f + 1 := ⟨gk - 1, by omega⟩
    (have y0 := K.out.cell (k := 0) (.head _) rfl; have y1 := K.out.cell (k := 1) (.head _) rfl; have y2 := K.out.cell (k := 2) (.head _) rfl; have y3 := K.out.cell (k := 3) (.head _) rfl; have fy := K.out.warm (.head _) 0; have fy1 := K.out.warm (.head _) 1; have fy2 := K.out.warm (.head _) 2; have fy3 := K.out.warm (.head _) 3)
    cases hf : flatB rs X n flat
    · have hf2 : ¬ flatB rs X n flat = true := by rw [hf]; decide
      have c14 := K.out.cell (k := 14) (.tail _ (.tail _ (.head _))) H14.out
      by_cases hr : acc = rounds
      · subst hr
        have hz2 : Hid (Z = ⟨X, 2, acc, tried⟩) := Lib.hid (by have := hz.out; rw [solveP, if_neg hf2, if_pos rfl] at this; exact this.symm)
        clear hf hf2
        go_upto_region 12 with fail
        clear c14
        (clear y0 y1 y2 y3 fy fy1 fy2 fy3)
        refine out_with (B := fun W => Sta W (.slice A n c) X n) (K.out.set_0 1 (.int .i64 2)) (sta_set HS.out b10 1 (.int .i64 2) (fun p hp => (HAW.out p hp).1)) ?_
        clear K HS
        intro W7 K HS
        replace K := Lib.hid K
        replace HS := Lib.hid HS
        ((have y0 := K.out.cell (k := 0) (.head _) rfl; have y1 := K.out.cell (k := 1) (.head _) rfl; have y2 := K.out.cell (k := 2) (.head _) rfl; have y3 := K.out.cell (k := 3) (.head _) rfl; have fy := K.out.warm (.head _) 0; have fy1 := K.out.warm (.head _) 1; have fy2 := K.out.warm (.head _) 2; have fy3 := K.out.warm (.head _) 3); (have k0 := K.out.cell (k := 0) (.tail _ (.head _)) rfl; have k1 := K.out.cell (k := 1) (.tail _ (.head _)) rfl; have k2 := K.out.cell (k := 2) (.tail _ (.head _)) rfl; have k3 := K.out.cell (k := 3) (.tail _ (.head _)) rfl; have fk := K.out.warm (.tail _ (.head _)) 0; have fk1 := K.out.warm (.tail _ (.head _)) 1; have fk2 := K.out.warm (.tail _ (.head _)) 2; have fk3 := K.out.warm (.tail _ (.head _)) 3); go_wp2_with fail; simp only [Exit.noGoto_ret]; go_wp2_with fail; refine ret_res Tryz.results10 rfl (((((K.out.set_1 0 (.slice A n c)).set_1 1 (.int .i64 2)).set_1 2 (.int .i64 _)).set_1 3 (.int .i64 _)).gb (.tail _ (.head _))) ?_; rw [hz2.out]; exact ⟨⟨_, rfl, HAW.out.off, (sta_set (sta_set (sta_set (sta_set HS.out _ 0 _ (fun p hp => (HAW.out p hp).2.1)) _ 1 _ (fun p hp => (HAW.out p hp).2.1)) _ 2 _ (fun p hp => (HAW.out p hp).2.1)) _ 3 _ (fun p hp => (HAW.out p hp).2.1)).1⟩, ((((K.out.set_1 0 (.slice A n c)).set_1 1 (.int .i64 2)).set_1 2 (.int .i64 _)).set_1 3 (.int .i64 _)).B⟩)
      · have hne : ¬ (acc : Int) = (rounds : Int) := by omega
        have HP : Hid (∃ p, raiseP n rs (raises + 1) 0 ⟨X, 5, acc, tried⟩ = p ∧ (if p.2 = true then solveP n rs rounds raises flat f p.1 else p.1) = Z) := Lib.hid ⟨_, rfl, by have := hz.out; rw [solveP, if_neg hf2, if_neg hr] at this; exact this⟩
        obtain ⟨p, hp, hz3⟩ := HP.out
        replace hp := Lib.hid hp
        replace hz3 := Lib.hid hz3
        clear hf hf2 HP hz
        go_upto_region 14 with fail
        have he : ((acc : Int) == (rounds : Int)) = false := beq_eq_false_iff_ne.2 hne
        rw [he]
        clear he hne c14
        (clear y0 y1 y2 y3 fy fy1 fy2 fy3)
        refine out_with (B := fun W => Sta W (.slice A n c) X n) (K.out.set_0 1 (.int .i64 5)) (sta_set HS.out b10 1 (.int .i64 5) (fun p hp => (HAW.out p hp).1)) ?_
        clear K HS
        intro W7 K HS
        replace K := Lib.hid K
        replace HS := Lib.hid HS
        rename World => Wo
        go_wp2_with fail
        go_loopg [11] (raises + 1) (fun gk2 iv wr => ∃ (r : Nat) (st2 tried2 : Int), gk2 + r = raises + 1 ∧ iv = .int .i64 (r : Int) ∧ 0 ≤ tried2 ∧ tried2 ≤ 13 * (acc : Int) + r ∧ Sta wr (.slice A n c) X n ∧ Keep w [(b10, .cells #[.slice A n c, .int .i64 st2, .int .i64 (acc : Int), .int .i64 tried2] 44), (w.heap.size + 1 + 1, .cells #[.slice none 0 0, .int .i64 0, .int .i64 0, .int .i64 0] 44), (w.heap.size + 1, .cells cf 41), (w.heap.size, .cells (#[.int .i64 n, .slice RA rs.length rc, .slice PA n pc, .slice QA n qc, .bool cn, .slice CA cl cc, .bool dn, .slice DA dl dc]) 34)] wr ∧ raiseP n rs gk2 r ⟨X, st2, acc, tried2⟩ = p)
        case atStart => exact ⟨0, 5, tried, by omega, rfl, ht0, by omega, HS.out, K.out, hp.out⟩
        case round =>
          clear K HS hp
          obtain ⟨r, st2, tried2, hg2, rfl, hu0, hu1, hs, k, hp⟩ := hrel
          have K := Lib.hid k
          have HS := Lib.hid hs
          replace hp := Lib.hid hp
          clear k hs
          have c15 := K.out.cell (k := 15) (.tail _ (.tail _ (.head _))) H15.out
          by_cases hrr : r ≤ raises
          · (have x0 := K.out.cell (k := 0) (.tail _ (.tail _ (.tail _ (.head _)))) rfl; have x1 := K.out.cell (k := 1) (.tail _ (.tail _ (.tail _ (.head _)))) rfl; have x2 := K.out.cell (k := 2) (.tail _ (.tail _ (.tail _ (.head _)))) rfl; have x3 := K.out.cell (k := 3) (.tail _ (.tail _ (.tail _ (.head _)))) rfl; have x4 := K.out.cell (k := 4) (.tail _ (.tail _ (.tail _ (.head _)))) rfl; have x5 := K.out.cell (k := 5) (.tail _ (.tail _ (.tail _ (.head _)))) rfl; have x6 := K.out.cell (k := 6) (.tail _ (.tail _ (.tail _ (.head _)))) rfl; have x7 := K.out.cell (k := 7) (.tail _ (.tail _ (.tail _ (.head _)))) rfl)
            (have y0 := K.out.cell (k := 0) (.head _) rfl; have y1 := K.out.cell (k := 1) (.head _) rfl; have y2 := K.out.cell (k := 2) (.head _) rfl; have y3 := K.out.cell (k := 3) (.head _) rfl; have fy := K.out.warm (.head _) 0; have fy1 := K.out.warm (.head _) 1; have fy2 := K.out.warm (.head _) 2; have fy3 := K.out.warm (.head _) 3)
            have hr64 : (r : Int) ≤ (raises : Int) := by omega
            have hr64b : (raises : Int) ≤ 12 := by omega
            go_wp2_with fail
            refine (step_any _ _ _ _ _ _ cn dn n rs X r _ (HG.out.below K.out.B) HS.out (by omega)).mono ?_
            rintro e w8 ⟨hst, hb⟩
            have HLT : Hid (b10 < wr.heap.size) := K.out.lt (.head _)
            have HLT2 : Hid (w.heap.size + 1 + 1 < wr.heap.size) := K.out.lt (.tail _ (.head _))
            replace K := Lib.hid (Keep.stays _ _ K.out hb)
            replace HS := Lib.hid (HS.out.below hb)
            clear hb c15
            (clear x0 x1 x2 x3 x4 x5 x6 x7)
            (clear y0 y1 y2 y3 fy fy1 fy2 fy3)
            obtain ⟨k, rfl⟩ : ∃ k, gk = k + 1 := ⟨gk - 1, by omega⟩
            (have y0 := K.out.cell (k := 0) (.head _) rfl; have y1 := K.out.cell (k := 1) (.head _) rfl; have y2 := K.out.cell (k := 2) (.head _) rfl; have y3 := K.out.cell (k := 3) (.head _) rfl; have fy := K.out.warm (.head _) 0; have fy1 := K.out.warm (.head _) 1; have fy2 := K.out.warm (.head _) 2; have fy3 := K.out.warm (.head _) 3)
            rcases hst with ⟨hno, rfl⟩ | ⟨ds2, u, hsome, rfl, hof, hIu⟩
            · have hp2 : Hid (raiseP n rs k (r + 1) ⟨X, st2, acc, tried2⟩ = p) := Lib.hid (by rw [← hp.out]; exact (raiseP_none (z := ⟨X, st2, acc, tried2⟩) hno).symm)
              clear hno hp
              go_wp2_with fail
              go_roundg k
              case measure => omega
              case rel => exact ⟨r + 1, st2, tried2, by omega, congrArg (Value.int .i64) (by omega), by omega, by omega, HS.out, K.out, hp2.out⟩
            · obtain ⟨hdl, hdb⟩ := stepP_in hsome
              have HU := Lib.hid hIu
              obtain ⟨UA, uc, rfl, -⟩ := hIu
              have HUA : Hid (∀ p, UA = some p → p.block ≠ b10) := Lib.hid (fun p hp => by subst hp; have := hof p _ _ rfl; have := HLT.out; omega)
              clear hof
              have hXn : X.length = n := HS.out.2.1
              obtain ⟨st3, h3⟩ : ∃ s, (if st2 = 5 then 3 else st2) = s := ⟨_, rfl⟩
              have hp2 := Lib.hid ((raiseP_some (k := k) (tried := tried2) (acc := acc) hsome h3).symm.trans hp.out)
              have HDB := Lib.hid hdb
              clear hp hsome hdb
              by_cases h5 : st2 = 5
              · subst h5
                obtain rfl : 3 = st3 := h3
                go_upto_region 22 with fail
                (clear y0 y1 y2 y3 fy fy1 fy2 fy3)
                refine out_with (B := fun W => Sta W (.slice A n c) X n ∧ Iv W (.slice UA ds2.length uc) ds2) ((K.out.set_0 3 (.int .i64 (tried2 + 1))).set_0 1 (.int .i64 3)) ⟨sta_set (sta_set HS.out b10 3 _ (fun p hp => (HAW.out p hp).1)) b10 1 _ (fun p hp => (HAW.out p hp).1), iv_set (iv_set HU.out b10 3 _ HUA.out) b10 1 _ HUA.out⟩ ?_
                clear K HS HU
                intro W9 K HS
                replace K := Lib.hid K
                replace HS := Lib.hid HS
                (go_wp2_with fail; refine (contains64_any _ ds2 _ HS.out.2 (by omega)).mono ?_; rintro e w10 ⟨rfl, hb⟩; replace K := Lib.hid (Keep.stays _ _ K.out hb); replace HS := Lib.hid (And.intro (HS.out.1.below hb) (HS.out.2.below hb)); clear hb; cases hnz : nonz ds2; (focus (have hz2 := Lib.hid (stop_end (by rw [← hp2.out, if_pos hnz]) hz3.out); clear hnz hp2; replace HS := Lib.hid HS.out.1; go_upto_region 29 with fail; ((have y0 := K.out.cell (k := 0) (.head _) rfl; have y1 := K.out.cell (k := 1) (.head _) rfl; have y2 := K.out.cell (k := 2) (.head _) rfl; have y3 := K.out.cell (k := 3) (.head _) rfl; have fy := K.out.warm (.head _) 0; have fy1 := K.out.warm (.head _) 1; have fy2 := K.out.warm (.head _) 2; have fy3 := K.out.warm (.head _) 3); (have k0 := K.out.cell (k := 0) (.tail _ (.head _)) rfl; have k1 := K.out.cell (k := 1) (.tail _ (.head _)) rfl; have k2 := K.out.cell (k := 2) (.tail _ (.head _)) rfl; have k3 := K.out.cell (k := 3) (.tail _ (.head _)) rfl; have fk := K.out.warm (.tail _ (.head _)) 0; have fk1 := K.out.warm (.tail _ (.head _)) 1; have fk2 := K.out.warm (.tail _ (.head _)) 2; have fk3 := K.out.warm (.tail _ (.head _)) 3); go_wp2_with fail; simp only [Exit.noGoto_ret]; go_wp2_with fail; refine ret_res Tryz.results10 rfl (((((K.out.set_1 0 (.slice A n c)).set_1 1 (.int .i64 3)).set_1 2 (.int .i64 _)).set_1 3 (.int .i64 _)).gb (.tail _ (.head _))) ?_; rw [hz2.out]; exact ⟨⟨_, rfl, HAW.out.off, (sta_set (sta_set (sta_set (sta_set HS.out _ 0 _ (fun p hp => (HAW.out p hp).2.1)) _ 1 _ (fun p hp => (HAW.out p hp).2.1)) _ 2 _ (fun p hp => (HAW.out p hp).2.1)) _ 3 _ (fun p hp => (HAW.out p hp).2.1)).1⟩, ((((K.out.set_1 0 (.slice A n c)).set_1 1 (.int .i64 3)).set_1 2 (.int .i64 _)).set_1 3 (.int .i64 _)).B⟩))); (focus (have hnz2 : ¬ nonz ds2 = false := (by rw [hnz]; decide); have hp3 := Lib.hid ((if_neg hnz2).symm.trans hp2.out); clear hp2 hnz hnz2; (have y0 := K.out.cell (k := 0) (.head _) rfl; have y1 := K.out.cell (k := 1) (.head _) rfl; have y2 := K.out.cell (k := 2) (.head _) rfl; have y3 := K.out.cell (k := 3) (.head _) rfl; have fy := K.out.warm (.head _) 0; have fy1 := K.out.warm (.head _) 1; have fy2 := K.out.warm (.head _) 2; have fy3 := K.out.warm (.head _) 3); go_wp2_with fail; refine (moved_own _ _ X ds2 _ HS.out.1.1 HS.out.2 (by omega) (by omega) (fun j hj => HS.out.1.2.2 j (by omega)) HDB.out).mono ?_; rintro e w11 ⟨v2, ys, rfl, hof2, hIy, hyl, hyj, hb⟩; have hys := mvP_eq hyl hyj; subst hys; have HY := Lib.hid hIy; obtain ⟨YA, yc, rfl, -⟩ := hIy; have HYA : Hid (Aw b10 (w.heap.size + 1 + 1) w.heap.size YA) := Lib.hid (fun p hp => (by subst hp; have h1 := hof2 p _ _ rfl; have h2 : b10 < w10.heap.size := K.out.lt (.head _); have h3 : w.heap.size + 1 + 1 < w10.heap.size := K.out.lt (.tail _ (.head _)); exact ⟨by omega, by omega, by omega⟩)); replace K := Lib.hid (Keep.stays _ _ K.out hb); replace HS := Lib.hid (HS.out.1.below hb); clear hb hof2 hyj; have hyn : (mvP X ds2).length = n := hyl.trans hXn; clear hyl; rw [hyn] at HY ⊢; (clear y0 y1 y2 y3 fy fy1 fy2 fy3); go_wp2_with fail; refine (state_any _ (mvP X ds2) _ HY.out (by omega)).mono ?_; rintro e w12 ⟨rfl, hb⟩; replace K := Lib.hid (Keep.stays _ _ K.out hb); replace HS := Lib.hid (HS.out.below hb); replace HY := Lib.hid (HY.out.below hb); clear hb; cases hsb : stateB (mvP X ds2); (focus (have hp4 := Lib.hid ((if_pos hsb).symm.trans hp3.out); clear hsb hp3; (have y0 := K.out.cell (k := 0) (.head _) rfl; have y1 := K.out.cell (k := 1) (.head _) rfl; have y2 := K.out.cell (k := 2) (.head _) rfl; have y3 := K.out.cell (k := 3) (.head _) rfl; have fy := K.out.warm (.head _) 0; have fy1 := K.out.warm (.head _) 1; have fy2 := K.out.warm (.head _) 2; have fy3 := K.out.warm (.head _) 3); go_wp2_with fail; (clear y0 y1 y2 y3 fy fy1 fy2 fy3); go_roundg k; (case measure => omega); (case rel => exact ⟨r + 1, 4, tried2 + 1, by omega, congrArg (Value.int .i64) (by omega), by omega, by omega, sta_set HS.out b10 1 _ (fun p hp => (HAW.out p hp).1), K.out.set_0 1 (.int .i64 4), hp4.out⟩))); (focus (have hsb2 : ¬ stateB (mvP X ds2) = false := (by rw [hsb]; decide); have hp4 := Lib.hid ((if_neg hsb2).symm.trans hp3.out); have HSY : Hid (Sta w12 (.slice YA n yc) (mvP X ds2) n) := Lib.hid ⟨HY.out, hyn, fun j hj => of_decide_eq_true hsb j (by omega)⟩; clear hsb hsb2 hp3 HY; (have x0 := K.out.cell (k := 0) (.tail _ (.tail _ (.tail _ (.head _)))) rfl; have x1 := K.out.cell (k := 1) (.tail _ (.tail _ (.tail _ (.head _)))) rfl; have x2 := K.out.cell (k := 2) (.tail _ (.tail _ (.tail _ (.head _)))) rfl; have x3 := K.out.cell (k := 3) (.tail _ (.tail _ (.tail _ (.head _)))) rfl; have x4 := K.out.cell (k := 4) (.tail _ (.tail _ (.tail _ (.head _)))) rfl; have x5 := K.out.cell (k := 5) (.tail _ (.tail _ (.tail _ (.head _)))) rfl; have x6 := K.out.cell (k := 6) (.tail _ (.tail _ (.tail _ (.head _)))) rfl; have x7 := K.out.cell (k := 7) (.tail _ (.tail _ (.tail _ (.head _)))) rfl); (have y0 := K.out.cell (k := 0) (.head _) rfl; have y1 := K.out.cell (k := 1) (.head _) rfl; have y2 := K.out.cell (k := 2) (.head _) rfl; have y3 := K.out.cell (k := 3) (.head _) rfl; have fy := K.out.warm (.head _) 0; have fy1 := K.out.warm (.head _) 1; have fy2 := K.out.warm (.head _) 2; have fy3 := K.out.warm (.head _) 3); go_wp2_with fail; refine (less11_any _ _ _ _ _ _ _ cn dn n rs (mvP X ds2) X _ (HG.out.below K.out.B) HSY.out HS.out).mono ?_; rintro e w13 ⟨rfl, hb⟩; replace K := Lib.hid (Keep.stays _ _ K.out hb); replace HS := Lib.hid (HS.out.below hb); replace HSY := Lib.hid (HSY.out.below hb); clear hb; (clear x0 x1 x2 x3 x4 x5 x6 x7); (clear y0 y1 y2 y3 fy fy1 fy2 fy3); by_cases hlt : cost rs (mvP X ds2) < cost rs X; (focus (have hp5 := Lib.hid (take_end ((if_pos hlt).symm.trans hp4.out) hz3.out); rw [decide_eq_true hlt]; clear hlt hp4; have hacc30 : (acc : Int) < 30 := (by omega); (have y0 := K.out.cell (k := 0) (.head _) rfl; have y1 := K.out.cell (k := 1) (.head _) rfl; have y2 := K.out.cell (k := 2) (.head _) rfl; have y3 := K.out.cell (k := 3) (.head _) rfl; have fy := K.out.warm (.head _) 0; have fy1 := K.out.warm (.head _) 1; have fy2 := K.out.warm (.head _) 2; have fy3 := K.out.warm (.head _) 3); go_wp2_with fail; (clear y0 y1 y2 y3 fy fy1 fy2 fy3); go_roundg f; (case measure => omega); (case rel => exact ⟨⟨mvP X ds2, 3, acc + 1, tried2 + 1⟩, YA, yc, by simp only []; omega, by simp only []; omega, by simp only []; omega, by simp only []; omega, sta_set (sta_set HSY.out b10 0 _ (fun p hp => (HYA.out p hp).1)) b10 2 _ (fun p hp => (HYA.out p hp).1), HYA.out, (by have KE := (K.out.set_0 0 (.slice YA n yc)).set_0 2 (.int .i64 ((acc : Int) + 1)); simp only [Int.natCast_add]; exact KE), hp5.out⟩))); (focus (have hp5 := Lib.hid ((if_neg hlt).symm.trans hp4.out); rw [decide_eq_false hlt]; clear hlt hp4; go_wp2_with fail; go_roundg k; (case measure => omega); (case rel => exact ⟨r + 1, 3, tried2 + 1, by omega, congrArg (Value.int .i64) (by omega), by omega, by omega, HS.out, K.out, hp5.out⟩))))))))
              · obtain rfl : st2 = st3 := by rw [← h3, if_neg h5]
                clear h3
                go_upto_region 22 with fail
                (clear y0 y1 y2 y3 fy fy1 fy2 fy3)
                refine out_with (B := fun W => Sta W (.slice A n c) X n ∧ Iv W (.slice UA ds2.length uc) ds2) (K.out.set_0 3 (.int .i64 (tried2 + 1))) ⟨sta_set HS.out b10 3 _ (fun p hp => (HAW.out p hp).1), iv_set HU.out b10 3 _ HUA.out⟩ ?_
                clear K HS HU
                intro W9 K HS
                replace K := Lib.hid K
                replace HS := Lib.hid HS
                (go_wp2_with fail; refine (contains64_any _ ds2 _ HS.out.2 (by omega)).mono ?_; rintro e w10 ⟨rfl, hb⟩; replace K := Lib.hid (Keep.stays _ _ K.out hb); replace HS := Lib.hid (And.intro (HS.out.1.below hb) (HS.out.2.below hb)); clear hb; cases hnz : nonz ds2; (focus (have hz2 := Lib.hid (stop_end (by rw [← hp2.out, if_pos hnz]) hz3.out); clear hnz hp2; replace HS := Lib.hid HS.out.1; go_upto_region 29 with fail; ((have y0 := K.out.cell (k := 0) (.head _) rfl; have y1 := K.out.cell (k := 1) (.head _) rfl; have y2 := K.out.cell (k := 2) (.head _) rfl; have y3 := K.out.cell (k := 3) (.head _) rfl; have fy := K.out.warm (.head _) 0; have fy1 := K.out.warm (.head _) 1; have fy2 := K.out.warm (.head _) 2; have fy3 := K.out.warm (.head _) 3); (have k0 := K.out.cell (k := 0) (.tail _ (.head _)) rfl; have k1 := K.out.cell (k := 1) (.tail _ (.head _)) rfl; have k2 := K.out.cell (k := 2) (.tail _ (.head _)) rfl; have k3 := K.out.cell (k := 3) (.tail _ (.head _)) rfl; have fk := K.out.warm (.tail _ (.head _)) 0; have fk1 := K.out.warm (.tail _ (.head _)) 1; have fk2 := K.out.warm (.tail _ (.head _)) 2; have fk3 := K.out.warm (.tail _ (.head _)) 3); go_wp2_with fail; simp only [Exit.noGoto_ret]; go_wp2_with fail; refine ret_res Tryz.results10 rfl (((((K.out.set_1 0 (.slice A n c)).set_1 1 (.int .i64 st2)).set_1 2 (.int .i64 _)).set_1 3 (.int .i64 _)).gb (.tail _ (.head _))) ?_; rw [hz2.out]; exact ⟨⟨_, rfl, HAW.out.off, (sta_set (sta_set (sta_set (sta_set HS.out _ 0 _ (fun p hp => (HAW.out p hp).2.1)) _ 1 _ (fun p hp => (HAW.out p hp).2.1)) _ 2 _ (fun p hp => (HAW.out p hp).2.1)) _ 3 _ (fun p hp => (HAW.out p hp).2.1)).1⟩, ((((K.out.set_1 0 (.slice A n c)).set_1 1 (.int .i64 st2)).set_1 2 (.int .i64 _)).set_1 3 (.int .i64 _)).B⟩))); (focus (have hnz2 : ¬ nonz ds2 = false := (by rw [hnz]; decide); have hp3 := Lib.hid ((if_neg hnz2).symm.trans hp2.out); clear hp2 hnz hnz2; (have y0 := K.out.cell (k := 0) (.head _) rfl; have y1 := K.out.cell (k := 1) (.head _) rfl; have y2 := K.out.cell (k := 2) (.head _) rfl; have y3 := K.out.cell (k := 3) (.head _) rfl; have fy := K.out.warm (.head _) 0; have fy1 := K.out.warm (.head _) 1; have fy2 := K.out.warm (.head _) 2; have fy3 := K.out.warm (.head _) 3); go_wp2_with fail; refine (moved_own _ _ X ds2 _ HS.out.1.1 HS.out.2 (by omega) (by omega) (fun j hj => HS.out.1.2.2 j (by omega)) HDB.out).mono ?_; rintro e w11 ⟨v2, ys, rfl, hof2, hIy, hyl, hyj, hb⟩; have hys := mvP_eq hyl hyj; subst hys; have HY := Lib.hid hIy; obtain ⟨YA, yc, rfl, -⟩ := hIy; have HYA : Hid (Aw b10 (w.heap.size + 1 + 1) w.heap.size YA) := Lib.hid (fun p hp => (by subst hp; have h1 := hof2 p _ _ rfl; have h2 : b10 < w10.heap.size := K.out.lt (.head _); have h3 : w.heap.size + 1 + 1 < w10.heap.size := K.out.lt (.tail _ (.head _)); exact ⟨by omega, by omega, by omega⟩)); replace K := Lib.hid (Keep.stays _ _ K.out hb); replace HS := Lib.hid (HS.out.1.below hb); clear hb hof2 hyj; have hyn : (mvP X ds2).length = n := hyl.trans hXn; clear hyl; rw [hyn] at HY ⊢; (clear y0 y1 y2 y3 fy fy1 fy2 fy3); go_wp2_with fail; refine (state_any _ (mvP X ds2) _ HY.out (by omega)).mono ?_; rintro e w12 ⟨rfl, hb⟩; replace K := Lib.hid (Keep.stays _ _ K.out hb); replace HS := Lib.hid (HS.out.below hb); replace HY := Lib.hid (HY.out.below hb); clear hb; cases hsb : stateB (mvP X ds2); (focus (have hp4 := Lib.hid ((if_pos hsb).symm.trans hp3.out); clear hsb hp3; (have y0 := K.out.cell (k := 0) (.head _) rfl; have y1 := K.out.cell (k := 1) (.head _) rfl; have y2 := K.out.cell (k := 2) (.head _) rfl; have y3 := K.out.cell (k := 3) (.head _) rfl; have fy := K.out.warm (.head _) 0; have fy1 := K.out.warm (.head _) 1; have fy2 := K.out.warm (.head _) 2; have fy3 := K.out.warm (.head _) 3); go_wp2_with fail; (clear y0 y1 y2 y3 fy fy1 fy2 fy3); go_roundg k; (case measure => omega); (case rel => exact ⟨r + 1, 4, tried2 + 1, by omega, congrArg (Value.int .i64) (by omega), by omega, by omega, sta_set HS.out b10 1 _ (fun p hp => (HAW.out p hp).1), K.out.set_0 1 (.int .i64 4), hp4.out⟩))); (focus (have hsb2 : ¬ stateB (mvP X ds2) = false := (by rw [hsb]; decide); have hp4 := Lib.hid ((if_neg hsb2).symm.trans hp3.out); have HSY : Hid (Sta w12 (.slice YA n yc) (mvP X ds2) n) := Lib.hid ⟨HY.out, hyn, fun j hj => of_decide_eq_true hsb j (by omega)⟩; clear hsb hsb2 hp3 HY; (have x0 := K.out.cell (k := 0) (.tail _ (.tail _ (.tail _ (.head _)))) rfl; have x1 := K.out.cell (k := 1) (.tail _ (.tail _ (.tail _ (.head _)))) rfl; have x2 := K.out.cell (k := 2) (.tail _ (.tail _ (.tail _ (.head _)))) rfl; have x3 := K.out.cell (k := 3) (.tail _ (.tail _ (.tail _ (.head _)))) rfl; have x4 := K.out.cell (k := 4) (.tail _ (.tail _ (.tail _ (.head _)))) rfl; have x5 := K.out.cell (k := 5) (.tail _ (.tail _ (.tail _ (.head _)))) rfl; have x6 := K.out.cell (k := 6) (.tail _ (.tail _ (.tail _ (.head _)))) rfl; have x7 := K.out.cell (k := 7) (.tail _ (.tail _ (.tail _ (.head _)))) rfl); (have y0 := K.out.cell (k := 0) (.head _) rfl; have y1 := K.out.cell (k := 1) (.head _) rfl; have y2 := K.out.cell (k := 2) (.head _) rfl; have y3 := K.out.cell (k := 3) (.head _) rfl; have fy := K.out.warm (.head _) 0; have fy1 := K.out.warm (.head _) 1; have fy2 := K.out.warm (.head _) 2; have fy3 := K.out.warm (.head _) 3); go_wp2_with fail; refine (less11_any _ _ _ _ _ _ _ cn dn n rs (mvP X ds2) X _ (HG.out.below K.out.B) HSY.out HS.out).mono ?_; rintro e w13 ⟨rfl, hb⟩; replace K := Lib.hid (Keep.stays _ _ K.out hb); replace HS := Lib.hid (HS.out.below hb); replace HSY := Lib.hid (HSY.out.below hb); clear hb; (clear x0 x1 x2 x3 x4 x5 x6 x7); (clear y0 y1 y2 y3 fy fy1 fy2 fy3); by_cases hlt : cost rs (mvP X ds2) < cost rs X; (focus (have hp5 := Lib.hid (take_end ((if_pos hlt).symm.trans hp4.out) hz3.out); rw [decide_eq_true hlt]; clear hlt hp4; have hacc30 : (acc : Int) < 30 := (by omega); (have y0 := K.out.cell (k := 0) (.head _) rfl; have y1 := K.out.cell (k := 1) (.head _) rfl; have y2 := K.out.cell (k := 2) (.head _) rfl; have y3 := K.out.cell (k := 3) (.head _) rfl; have fy := K.out.warm (.head _) 0; have fy1 := K.out.warm (.head _) 1; have fy2 := K.out.warm (.head _) 2; have fy3 := K.out.warm (.head _) 3); go_wp2_with fail; (clear y0 y1 y2 y3 fy fy1 fy2 fy3); go_roundg f; (case measure => omega); (case rel => exact ⟨⟨mvP X ds2, st2, acc + 1, tried2 + 1⟩, YA, yc, by simp only []; omega, by simp only []; omega, by simp only []; omega, by simp only []; omega, sta_set (sta_set HSY.out b10 0 _ (fun p hp => (HYA.out p hp).1)) b10 2 _ (fun p hp => (HYA.out p hp).1), HYA.out, (by have KE := (K.out.set_0 0 (.slice YA n yc)).set_0 2 (.int .i64 ((acc : Int) + 1)); simp only [Int.natCast_add]; exact KE), hp5.out⟩))); (focus (have hp5 := Lib.hid ((if_neg hlt).symm.trans hp4.out); rw [decide_eq_false hlt]; clear hlt hp4; go_wp2_with fail; go_roundg k; (case measure => omega); (case rel => exact ⟨r + 1, st2, tried2 + 1, by omega, congrArg (Value.int .i64) (by omega), by omega, by omega, HS.out, K.out, hp5.out⟩))))))))
          · have hz2 := Lib.hid (raise_end hp.out (by omega) hz3.out)
            go_upto_region 29 with fail
            clear c15
            ((have y0 := K.out.cell (k := 0) (.head _) rfl; have y1 := K.out.cell (k := 1) (.head _) rfl; have y2 := K.out.cell (k := 2) (.head _) rfl; have y3 := K.out.cell (k := 3) (.head _) rfl; have fy := K.out.warm (.head _) 0; have fy1 := K.out.warm (.head _) 1; have fy2 := K.out.warm (.head _) 2; have fy3 := K.out.warm (.head _) 3); (have k0 := K.out.cell (k := 0) (.tail _ (.head _)) rfl; have k1 := K.out.cell (k := 1) (.tail _ (.head _)) rfl; have k2 := K.out.cell (k := 2) (.tail _ (.head _)) rfl; have k3 := K.out.cell (k := 3) (.tail _ (.head _)) rfl; have fk := K.out.warm (.tail _ (.head _)) 0; have fk1 := K.out.warm (.tail _ (.head _)) 1; have fk2 := K.out.warm (.tail _ (.head _)) 2; have fk3 := K.out.warm (.tail _ (.head _)) 3); go_wp2_with fail; simp only [Exit.noGoto_ret]; go_wp2_with fail; refine ret_res Tryz.results10 rfl (((((K.out.set_1 0 (.slice A n c)).set_1 1 (.int .i64 st2)).set_1 2 (.int .i64 _)).set_1 3 (.int .i64 _)).gb (.tail _ (.head _))) ?_; rw [hz2.out]; exact ⟨⟨_, rfl, HAW.out.off, (sta_set (sta_set (sta_set (sta_set HS.out _ 0 _ (fun p hp => (HAW.out p hp).2.1)) _ 1 _ (fun p hp => (HAW.out p hp).2.1)) _ 2 _ (fun p hp => (HAW.out p hp).2.1)) _ 3 _ (fun p hp => (HAW.out p hp).2.1)).1⟩, ((((K.out.set_1 0 (.slice A n c)).set_1 1 (.int .i64 st2)).set_1 2 (.int .i64 _)).set_1 3 (.int .i64 _)).B⟩)
    · have hz2 : Hid (Z = ⟨X, 1, acc, tried⟩) := Lib.hid (by have := hz.out; rw [solveP, if_pos hf] at this; exact this.symm)
      clear hf
      go_upto_region 9 with fail
      (clear y0 y1 y2 y3 fy fy1 fy2 fy3)
      refine out_with (B := fun W => Sta W (.slice A n c) X n) (K.out.set_0 1 (.int .i64 1)) (sta_set HS.out b10 1 (.int .i64 1) (fun p hp => (HAW.out p hp).1)) ?_
      clear K HS
      intro W7 K HS
      replace K := Lib.hid K
      replace HS := Lib.hid HS
      ((have y0 := K.out.cell (k := 0) (.head _) rfl; have y1 := K.out.cell (k := 1) (.head _) rfl; have y2 := K.out.cell (k := 2) (.head _) rfl; have y3 := K.out.cell (k := 3) (.head _) rfl; have fy := K.out.warm (.head _) 0; have fy1 := K.out.warm (.head _) 1; have fy2 := K.out.warm (.head _) 2; have fy3 := K.out.warm (.head _) 3); (have k0 := K.out.cell (k := 0) (.tail _ (.head _)) rfl; have k1 := K.out.cell (k := 1) (.tail _ (.head _)) rfl; have k2 := K.out.cell (k := 2) (.tail _ (.head _)) rfl; have k3 := K.out.cell (k := 3) (.tail _ (.head _)) rfl; have fk := K.out.warm (.tail _ (.head _)) 0; have fk1 := K.out.warm (.tail _ (.head _)) 1; have fk2 := K.out.warm (.tail _ (.head _)) 2; have fk3 := K.out.warm (.tail _ (.head _)) 3); go_wp2_with fail; simp only [Exit.noGoto_ret]; go_wp2_with fail; refine ret_res Tryz.results10 rfl (((((K.out.set_1 0 (.slice A n c)).set_1 1 (.int .i64 1)).set_1 2 (.int .i64 _)).set_1 3 (.int .i64 _)).gb (.tail _ (.head _))) ?_; rw [hz2.out]; exact ⟨⟨_, rfl, HAW.out.off, (sta_set (sta_set (sta_set (sta_set HS.out _ 0 _ (fun p hp => (HAW.out p hp).2.1)) _ 1 _ (fun p hp => (HAW.out p hp).2.1)) _ 2 _ (fun p hp => (HAW.out p hp).2.1)) _ 3 _ (fun p hp => (HAW.out p hp).2.1)).1⟩, ((((K.out.set_1 0 (.slice A n c)).set_1 1 (.int .i64 1)).set_1 2 (.int .i64 _)).set_1 3 (.int .i64 _)).B⟩)
end Go.Proofs.YtmidifgnpjlgcaaGreat
