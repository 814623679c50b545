/- The texts Oc, Od, Oe, Of, Og of the walk of the law and of all that it calls, in one file. No condition. -/
import Derived.Test.YtmidifgnpjlgcaaGreatY6
/- Lists of numbers of one's own, written in place; the walk of list. -/
set_option linter.unusedVariables false
set_option linter.unusedSimpArgs false
namespace Go.Proofs.YtmidifgnpjlgcaaGreat
open Go.RowKit

/-- A number as it lies in a list. -/
structure Nm where
  n : Bool
  A : Option Addr
  l : Nat
  c : Nat
def Nm.zero : Nm := ⟨false, none, 0, 0⟩
def Nm.cells (x : Nm) : List Value := [.bool x.n, .slice x.A x.l x.c]
def flat : List Nm → List Value
  | [] => []
  | x :: l => .bool x.n :: .slice x.A x.l x.c :: flat l
def Obj.lst (L : List Nm) : Obj := .cells (flat L).toArray 30
theorem flat_length (L : List Nm) : (flat L).length = L.length * 2 := by
  induction L with
  | nil => rfl
  | cons x l ih => simp only [flat, List.length_cons, ih]; omega
theorem flat_get0 (L : List Nm) : ∀ j (h : j < L.length), (flat L)[j * 2]? = some (.bool L[j].n) := by
  induction L with
  | nil => intro j h; simp at h
  | cons x l ih =>
    intro j h
    cases j with
    | zero => rfl
    | succ j => rw [show (j + 1) * 2 = j * 2 + 1 + 1 by omega]; exact ih j (by simpa using h)
theorem flat_get1 (L : List Nm) : ∀ j (h : j < L.length), (flat L)[j * 2 + 1]? = some (.slice L[j].A L[j].l L[j].c) := by
  induction L with
  | nil => intro j h; simp at h
  | cons x l ih =>
    intro j h
    cases j with
    | zero => rfl
    | succ j => rw [show (j + 1) * 2 + 1 = j * 2 + 1 + 1 + 1 by omega]; exact ih j (by simpa using h)
theorem flat_set (x : Nm) (L : List Nm) : ∀ j, ((flat L).set (j * 2) (.bool x.n)).set (j * 2 + 1) (.slice x.A x.l x.c) = flat (L.set j x) := by
  induction L with
  | nil => intro j; rfl
  | cons y l ih =>
    intro j
    cases j with
    | zero => rfl
    | succ j =>
      rw [show (j + 1) * 2 = j * 2 + 1 + 1 by omega]
      show _ :: _ :: ((flat l).set (j * 2) _).set (j * 2 + 1) _ = _
      rw [ih j]
      rfl
theorem flat_app (L M : List Nm) : flat (L ++ M) = flat L ++ flat M := by
  induction L with
  | nil => rfl
  | cons x l ih => simp only [List.cons_append, flat, ih]
theorem flat_zero (n : Nat) : flat (List.replicate n Nm.zero) = (List.replicate n [Value.bool false, Value.slice none 0 0]).flatten := by
  induction n with
  | zero => rfl
  | succ n ih => simp only [List.replicate_succ, flat, List.flatten_cons, ih]; rfl

theorem info30 : (Tryz.prog.info? 30).map (fun i => (i.zero, i.size, i.bytes)) = some (some (.agg #[.bool false, .slice none 0 0]), 2, 32) := by kernel_rfl

theorem mk_lst (N : Nat) (hN : N ≤ 1000000) (x : Int) (hx : x = (N : Int)) (w : World) : (Instr.makeSlice 27 (.int .i64 x) (.int .i64 x)).run Tryz.prog w = .ok (.slice (some ⟨w.heap.size, 0, none⟩) N N) (w.alloc (Obj.lst (List.replicate N Nm.zero))) := by
  obtain ⟨i0, hi, hx0⟩ := Option.map_eq_some_iff.1 info30
  simp only [Prod.mk.injEq] at hx0
  obtain ⟨hz0, hz1, hz2⟩ := hx0
  subst hx
  have := run_make (P := Tryz.prog) w 27 30 i0 (.agg #[.bool false, .slice none 0 0]) Tryz.underlying27 hi hz0 .i64 .i64 (N : Int) (N : Int) (by omega) (Int.le_refl _) (by rw [hz2]; omega) (by omega)
  rw [this, hz1]
  have e : madeCells (Value.agg #[.bool false, .slice none 0 0]).cells ((N : Int).toNat * 2) = (flat (List.replicate N Nm.zero)).toArray := by
    apply Array.ext
    · simp [madeCells, flat_length]
    · intro j h1 h2
      simp [madeCells, flat_length] at h1 h2
      have hcs : (Value.agg #[.bool false, .slice none 0 0]).cells = #[.bool false, .slice none 0 0] := by rfl
      apply Option.some.inj
      rw [← Array.getElem?_eq_getElem, ← Array.getElem?_eq_getElem]
      rcases Nat.mod_two_eq_zero_or_one j with e | e
      · have e2 : j = j / 2 * 2 := by omega
        have e3 : (flat (List.replicate N Nm.zero)).toArray[j]? = (flat (List.replicate N Nm.zero))[j]? := by simp
        rw [e3]
        have g := flat_get0 (List.replicate N Nm.zero) (j / 2) (by simp; omega)
        rw [← e2] at g
        rw [g]
        simp [madeCells, hcs, Nm.zero, e, h1]
      · have e2 : j = j / 2 * 2 + 1 := by omega
        have e3 : (flat (List.replicate N Nm.zero)).toArray[j]? = (flat (List.replicate N Nm.zero))[j]? := by simp
        rw [e3]
        have g := flat_get1 (List.replicate N Nm.zero) (j / 2) (by simp; omega)
        rw [← e2] at g
        rw [g]
        simp [madeCells, hcs, Nm.zero, e, h1]
  rw [e]
  simp [Obj.lst]

variable {w0 w : World} {l l2 : List (Nat × Obj)}
theorem Keep.lstc {b : Nat} {L : List Nm} (K : Keep w0 l w) (m : (b, Obj.lst L) ∈ l) (j : Nat) (hj : j < L.length) : w.cell? ⟨b, j * 2, none⟩ = some (.bool L[j].n) ∧ w.cell? ⟨b, j * 2 + 1, none⟩ = some (.slice L[j].A L[j].l L[j].c) :=
  ⟨K.cell m (by rw [List.getElem?_toArray]; exact flat_get0 L j hj), K.cell m (by rw [List.getElem?_toArray]; exact flat_get1 L j hj)⟩
theorem Keep.lstw {b : Nat} {L : List Nm} (K : Keep w0 l w) (m : (b, Obj.lst L) ∈ l) (o : Nat) : w.frozen? ⟨b, o, none⟩ = false := K.warm m o
theorem Keep.setl {b : Nat} {L : List Nm} (l1 : List (Nat × Obj)) (K : Keep w0 (l1 ++ (b, Obj.lst L) :: l2) w) (j : Nat) (x : Nm) : Keep w0 (l1 ++ (b, Obj.lst (L.set j x)) :: l2) ((w.setCell ⟨b, j * 2, none⟩ (.bool x.n)).setCell ⟨b, j * 2 + 1, none⟩ (.slice x.A x.l x.c)) := by
  have := (K.set l1 (j * 2) (.bool x.n)).set l1 (j * 2 + 1) (.slice x.A x.l x.c)
  have e : ((flat L).toArray.setIfInBounds (j * 2) (.bool x.n)).setIfInBounds (j * 2 + 1) (.slice x.A x.l x.c) = (flat (L.set j x)).toArray := by
    rw [List.setIfInBounds_toArray, List.setIfInBounds_toArray, flat_set]
  rw [e] at this
  exact this
theorem Keep.setl_0 {b : Nat} {L : List Nm} (K : Keep w0 ((b, Obj.lst L) :: l2) w) (j : Nat) (x : Nm) : Keep w0 ((b, Obj.lst (L.set j x)) :: l2) ((w.setCell ⟨b, j * 2, none⟩ (.bool x.n)).setCell ⟨b, j * 2 + 1, none⟩ (.slice x.A x.l x.c)) := K.setl [] j x

theorem Dg.putAt {w : World} {s : Value} {ds : List Int} {g i j : Nat} {n : Bool} (h : Dg w s ds) (hg : w.cell? ⟨g, 0, none⟩ = some (.bool n)) (u v : Value) : Dg ((w.setCell ⟨g, i, none⟩ u).setCell ⟨g, j, none⟩ v) s ds := by
  rcases h with h | ⟨b, c, hs, hc, hlt, hcell⟩
  · exact .inl h
  · refine .inr ⟨b, c, hs, hc, by simpa [World.setCell] using hlt, fun j hj => ?_⟩
    by_cases e : b = g
    · have := hcell 0 (by omega)
      rw [e, hg] at this
      cases this
    · rw [cell_of_heap (Below.heap_setCell _ _ _ _ e), cell_of_heap (Below.heap_setCell _ _ _ _ e)]
      exact hcell j hj
theorem Nz.putAt {w : World} {n m : Bool} {s : Value} {z : Int} {N g i j : Nat} (h : Nz w n s z N) (hg : w.cell? ⟨g, 0, none⟩ = some (.bool m)) (u v : Value) : Nz ((w.setCell ⟨g, i, none⟩ u).setCell ⟨g, j, none⟩ v) n s z N := by
  obtain ⟨ds, h1, h2, h3⟩ := h
  exact ⟨ds, ⟨h1.1.putAt hg u v, h1.2⟩, h2, h3⟩

/-- What each number of a list is. -/
def Els (w : World) (L : List Nm) (N : Nat) (f : Nat → Int) : Prop := ∀ j (h : j < L.length), Nz w L[j].n (.slice L[j].A L[j].l L[j].c) (f j) N
theorem Els.below {w w' : World} {L : List Nm} {N : Nat} {f : Nat → Int} (h : Els w L N f) (hb : Below w.heap.size w w') : Els w' L N f := fun j hj => (h j hj).below hb
theorem Els.more {w : World} {L : List Nm} {N N' : Nat} {f f' : Nat → Int} (h : Els w L N f) (hN : N ≤ N') (hf : ∀ j, j < L.length → f j = f' j) : Els w L N' f' := fun j hj => ((h j hj).more hN).val (hf j hj)
theorem Els.nil (w : World) (N : Nat) (f : Nat → Int) : Els w [] N f := fun j hj => absurd hj (by simp)
theorem Els.zero (w : World) (n N : Nat) : Els w (List.replicate n Nm.zero) N (fun _ => 0) := fun j hj => by
  rw [List.getElem_replicate]
  exact (Nz.nil w).more (Nat.zero_le _)
theorem Els.set {w : World} {L : List Nm} {N : Nat} {f : Nat → Int} (h : Els w L N f) (j : Nat) (x : Nm) {z : Int} (hx : Nz w x.n (.slice x.A x.l x.c) z N) : Els w (L.set j x) N (fun k => if k = j then z else f k) := fun k hk => by
  have hk' := hk
  rw [List.length_set] at hk'
  by_cases e : k = j
  · subst e
    have e2 : (L.set k x)[k]'hk = x := by simp
    rw [e2]
    show Nz _ _ _ (if k = k then z else f k) _
    rw [if_pos rfl]
    exact hx
  · have e2 : (L.set j x)[k]'hk = L[k] := List.getElem_set_ne (fun e' => e e'.symm) _
    rw [e2]
    show Nz _ _ _ (if k = j then z else f k) _
    rw [if_neg e]
    exact h k hk'
theorem Els.snoc {w : World} {L : List Nm} {N : Nat} {f : Nat → Int} (h : Els w L N f) (x : Nm) (hx : Nz w x.n (.slice x.A x.l x.c) (f L.length) N) : Els w (L ++ [x]) N f := fun k hk => by
  by_cases e : k < L.length
  · have e2 : (L ++ [x])[k]'hk = L[k] := List.getElem_append_left e
    rw [e2]
    exact h k e
  · have e3 : k = L.length := by simp at hk; omega
    subst e3
    have e2 : (L ++ [x])[L.length]'hk = x := by simp
    rw [e2]
    exact hx
/-- So many are done, the others 0. -/
def upto (i : Nat) (f : Nat → Int) (k : Nat) : Int := if k < i then f k else 0
theorem upto_zero (f : Nat → Int) (k : Nat) : (0 : Int) = upto 0 f k := by simp [upto]
theorem upto_succ (i : Nat) (f : Nat → Int) (k : Nat) : (if k = i then f i else upto i f k) = upto (i + 1) f k := by
  unfold upto
  by_cases e : k = i
  · subst e; simp
  · rw [if_neg e]
    by_cases h : k < i
    · rw [if_pos h, if_pos (by omega)]
    · rw [if_neg h, if_neg (by omega)]
theorem upto_all {n : Nat} (f : Nat → Int) {k : Nat} (h : k < n) : upto n f k = f k := by unfold upto; rw [if_pos h]
theorem Els.fill {w : World} {L : List Nm} {N i : Nat} {f : Nat → Int} (h : Els w L N (upto i f)) (x : Nm) (hx : Nz w x.n (.slice x.A x.l x.c) (f i) N) : Els w (L.set i x) N (upto (i + 1) f) :=
  (h.set i x hx).more (Nat.le_refl _) (fun k _ => upto_succ i f k)
theorem Els.putAt {w : World} {L : List Nm} {N g i j : Nat} {f : Nat → Int} {m : Bool} (h : Els w L N f) (hg : w.cell? ⟨g, 0, none⟩ = some (.bool m)) (u v : Value) : Els ((w.setCell ⟨g, i, none⟩ u).setCell ⟨g, j, none⟩ v) L N f := fun k hk => (h k hk).putAt hg u v

/-- A list of the call's own. -/
def Lo (w : World) (base : Nat) (v : Value) (m N : Nat) (f : Nat → Int) : Prop := ∃ g L, v = .slice (some ⟨g, 0, none⟩) m m ∧ base ≤ g ∧ w.heap[g]? = some (Obj.lst L) ∧ L.length = m ∧ Els w L N f
theorem Lo.below {w w' : World} {base : Nat} {v : Value} {m N : Nat} {f : Nat → Int} (h : Lo w base v m N f) (hb : Below w.heap.size w w') : Lo w' base v m N f := by
  obtain ⟨g, L, hv, hg, hh, hl, he⟩ := h
  exact ⟨g, L, hv, hg, by rw [hb.block g (Array.getElem?_eq_some_iff.1 hh).1]; exact hh, hl, he.below hb⟩
theorem Lo.lv {w : World} {base : Nat} {v : Value} {m N : Nat} {f : Nat → Int} (h : Lo w base v m N f) : Lv w v m N f := by
  obtain ⟨g, L, hv, hg, hh, hl, he⟩ := h
  refine ⟨_, m, hv, (fun h => by cases h), fun j hj => ?_⟩
  refine ⟨g, _, _, _, _, rfl, (Array.getElem?_eq_some_iff.1 hh).1, ?_, ?_, he j (by omega)⟩
  · simp only [World.cell?, hh, Obj.lst]
    rw [List.getElem?_toArray]
    exact flat_get0 L j (by omega)
  · simp only [World.cell?, hh, Obj.lst]
    rw [List.getElem?_toArray]
    exact flat_get1 L j (by omega)

/-- What a function tells of a place: a number. -/
def Told1 (w : World) (N : Nat) (z : Int) (e : Ending) (w' : World) : Prop := ∃ q A l c, e = .returned (.agg #[.bool q, .slice A l c]) ∧ Nz w' q (.slice A l c) z N ∧ Below w.heap.size w w'

set_option maxHeartbeats 4000000 in
set_option maxRecDepth 100000 in
theorem list90_any (c1 c2 : Value) (n N : Nat) (f : Nat → Int) (w : World) (hF : ∀ k : Nat, k < n → ∀ w', Below w.heap.size w w' → Calls Tryz.prog 90 #[.int .i64 k, c1, c2] w' (Told1 w' N (f k))) (hn : n ≤ 1000000) :
    Calls Tryz.prog 87 #[.int .i64 n, .func (.func 90) #[] #[c1, c2]] w fun e w' => ∃ v, e = .returned v ∧ Lo w' w.heap.size v n N f ∧ Below w.heap.size w w' := by
  have K := Lib.hid (Keep.begin1 w (Obj.lst (List.replicate n Nm.zero)))
  have HF := Lib.hid hF
  have hmk := mk_lst n hn n rfl
  clear hF
  go_enter Tryz.func87, Tryz.ntmps87
  go_wp2_with fail
  go_loopg [11] n (fun gk iv wr => ∃ (i : Nat) (L : List Nm), gk + i = n ∧ iv = .int .i64 (i : Int) ∧ L.length = n ∧ Els wr L N (upto i f) ∧ Keep w [(w.heap.size, Obj.lst L)] wr)
  case atStart => exact ⟨0, _, by omega, rfl, by simp, (Els.zero _ _ _).more (Nat.le_refl _) (fun k _ => upto_zero f k), K.out⟩
  case round =>
    clear K hmk
    obtain ⟨i, L, hgi, rfl, hl, he, k'⟩ := hrel
    have K := Lib.hid k'
    have HL := Lib.hid hl
    have HE := Lib.hid he
    clear k' hl he
    by_cases hi : i < n
    · go_upto_region 5 with fail
      go_wp2_with fail
      refine (HF.out i hi _ K.out.B).mono ?_
      rintro e w2 ⟨n1, B1, l1, d1, rfl, hn1, hb⟩
      replace K := Lib.hid (Keep.stays _ _ K.out hb)
      replace HE := Lib.hid (HE.out.below hb)
      have H1 := Lib.hid hn1
      clear hb hn1
      obtain ⟨c0, c1⟩ := K.out.lstc (.head _) i (by rw [HL.out]; exact hi)
      have f1 := K.out.lstw (.head _)
      go_wp2_with fail
      clear c0 c1 f1
      go_roundg (gk - 1)
      case measure => omega
      case rel =>
        have c00 := (K.out.lstc (.head _) 0 (by rw [HL.out]; omega)).1
        exact ⟨i + 1, L.set i ⟨n1, B1, l1, d1⟩, by omega, congrArg (Value.int .i64) (by omega), by rw [List.length_set]; exact HL.out, (HE.out.putAt c00 _ _).fill _ (H1.out.putAt c00 _ _), K.out.setl_0 i ⟨n1, B1, l1, d1⟩⟩
    · replace HE := Lib.hid (HE.out.more (Nat.le_refl _) (fun k hk => upto_all f (show k < i by have := HL.out; omega)))
      go_wp2_with fail
      go_ret
      exact ⟨_, rfl, ⟨w.heap.size, L, rfl, Nat.le_refl _, K.out.box _ (.head _), HL.out, HE.out⟩, K.out.B⟩

end Go.Proofs.YtmidifgnpjlgcaaGreat
/- The walks of Apply, Quad, less. -/
set_option linter.unusedVariables false
set_option linter.unusedSimpArgs false
namespace Go.Proofs.YtmidifgnpjlgcaaGreat
open Go.RowKit

variable {w0 w : World} {l l2 : List (Nat × Obj)}
set_option maxHeartbeats 4000000 in
set_option maxRecDepth 100000 in
theorem app90_any (ga gx : Nat) (v t : Value) (i n N M : Nat) (f : Nat → Nat → Int) (g : Nat → Int) (w : World) (ha : Cap w ga v) (hx : Cap w gx t) (h1 : Mv w v n n N f) (h2 : Lv w t n M g) (li : i < n) (hN : N + M + n ≤ 300000) :
    Calls Tryz.prog 90 #[.int .i64 i, .pointer (some ⟨ga, 0, none⟩), .pointer (some ⟨gx, 0, none⟩)] w (Told1 w (N + M + 1 + n) (sumTo (fun k => f i k * g k) n)) := by
  have K := Lib.hid (Keep.begin2 w (.cells #[.int .i64 i] 3) (Obj.num false (.slice none 0 0)))
  have HA := Lib.hid ha; have HX := Lib.hid hx; have H1 := Lib.hid h1; have H2 := Lib.hid h2
  obtain ⟨A, c, rfl, -⟩ := h1
  clear ha hx h2
  go_enter Tryz.func90, Tryz.ntmps90
  go_upto_region 1 with fail
  (refine out_keep K.out ?_; clear K; intro W K; replace K := Lib.hid K)
  have ca := kept_cell K.out HA.out.1 HA.out.2
  have HI : Hid (Cap W w.heap.size (.int .i64 i)) := Lib.hid ⟨K.out.lt (.tail _ (.head _)), K.out.cell (.tail _ (.head _)) rfl⟩
  go_wp2_with fail
  refine (sum91_any _ _ _ n N M (fun k => f i k) g W (fun k hk w' hb => two91_any ga w.heap.size gx _ t i k n n N M f g w' ((HA.out.below K.out.B).below hb) (HI.out.below hb) ((HX.out.below K.out.B).below hb) ((H1.out.below K.out.B).below hb) ((H2.out.below K.out.B).below hb) li hk) hN).mono ?_
  rintro e w2 ⟨q, A2, l2, c2, rfl, hN2, hb⟩
  replace K := Lib.hid (Keep.stays _ _ K.out hb)
  have HN := Lib.hid hN2
  clear hb hN2 ca HI
  obtain ⟨f1, c10, c11⟩ := K.out.nm (.head _)
  go_wp2_with fail
  refine ret_nm Tryz.results90 rfl ((K.out.putn_0 _ _).nb (.head _)) ?_
  exact ⟨q, A2, l2, c2, rfl, HN.out.put (K.out.nm (.head _)).2.1 _ _, (K.out.putn_0 q (.slice A2 l2 c2)).B⟩

set_option maxHeartbeats 4000000 in
set_option maxRecDepth 100000 in
theorem apply_any (v t : Value) (n N M : Nat) (f : Nat → Nat → Int) (g : Nat → Int) (w : World) (h1 : Mv w v n n N f) (h2 : Lv w t n M g) (hN : N + M + n ≤ 300000) :
    Calls Tryz.prog 61 #[v, t] w fun e w' => ∃ u, e = .returned u ∧ Lo w' w.heap.size u n (N + M + 1 + n) (fun i => sumTo (fun k => f i k * g k) n) ∧ Below w.heap.size w w' := by
  have K := Lib.hid (Keep.begin2 w (.cells #[v] 26) (.cells #[t] 27))
  have H1 := Lib.hid h1; have H2 := Lib.hid h2
  obtain ⟨A, c, rfl, -⟩ := h1
  obtain ⟨B, d, rfl, -⟩ := h2
  go_enter Tryz.func61, Tryz.ntmps61
  go_upto_region 1 with fail
  (refine out_keep K.out ?_; clear K; intro W K; replace K := Lib.hid K)
  have ca := K.out.cell (k := 0) (.tail _ (.head _)) rfl
  have HA : Hid (Cap W w.heap.size (.slice A n c)) := Lib.hid ⟨K.out.lt (.tail _ (.head _)), K.out.cell (.tail _ (.head _)) rfl⟩
  have HX : Hid (Cap W (w.heap.size + 1) (.slice B n d)) := Lib.hid ⟨K.out.lt (.head _), K.out.cell (.head _) rfl⟩
  go_wp2_with fail
  refine (list90_any _ _ n (N + M + 1 + n) (fun i => sumTo (fun k => f i k * g k) n) W (fun k hk w' hb => app90_any w.heap.size (w.heap.size + 1) _ _ k n N M f g w' (HA.out.below hb) (HX.out.below hb) ((H1.out.below K.out.B).below hb) ((H2.out.below K.out.B).below hb) hk hN) (by omega)).mono ?_
  rintro e w2 ⟨u, rfl, hL, hb⟩
  have KB := K.out.B
  replace K := Lib.hid (Keep.stays _ _ K.out hb)
  have HL := Lib.hid hL
  obtain ⟨g, L, rfl, hg, -⟩ := hL
  clear hb ca HA HX
  go_wp2_with fail
  go_ret
  obtain ⟨g', L', e', hg', hh⟩ := HL.out
  exact ⟨_, rfl, ⟨g', L', e', Nat.le_trans KB.size hg', hh⟩, K.out.B⟩

set_option maxHeartbeats 4000000 in
set_option maxRecDepth 100000 in
theorem quad_any (v t : Value) (n N M : Nat) (f : Nat → Nat → Int) (g' : Nat → Int) (w : World) (h1 : Mv w v n n N f) (h2 : Lv w t n M g') (hN : N + M + n + M + n + 1 ≤ 300000) :
    Calls Tryz.prog 22 #[v, t] w fun e w' => ∃ q A l c, e = .returned (.agg #[.bool q, .slice A l c]) ∧ Nz w' q (.slice A l c) (sumTo (fun i => g' i * sumTo (fun k => f i k * g' k) n) n) (M + (N + M + 1 + n) + 1 + n) ∧ Below w.heap.size w w' := by
  have K := Lib.hid (Keep.begin2 w (.cells #[t] 27) (Obj.num false (.slice none 0 0)))
  have H1 := Lib.hid h1; have H2 := Lib.hid h2
  obtain ⟨A, c, rfl, -⟩ := h1
  obtain ⟨B, d, rfl, -⟩ := h2
  go_enter Tryz.func22, Tryz.ntmps22
  go_upto_region 1 with fail
  (refine out_keep K.out ?_; clear K; intro W K; replace K := Lib.hid K)
  have ca := K.out.cell (k := 0) (.tail _ (.head _)) rfl
  go_wp2_with fail
  refine (apply_any _ _ n N M f g' W (H1.out.below K.out.B) (H2.out.below K.out.B) (by omega)).mono ?_
  rintro e w2 ⟨u, rfl, hL, hb⟩
  replace K := Lib.hid (Keep.stays _ _ K.out hb)
  have HL := Lib.hid hL
  obtain ⟨g, L, rfl, hg, -⟩ := hL
  clear hb ca
  go_upto_region 2 with fail
  replace HL := Lib.hid (HL.out.below (below_one _ (.cells #[.slice (some ⟨g, 0, none⟩) n n] 27)))
  replace K := Lib.hid (K.out.alloc (.cells #[.slice (some ⟨g, 0, none⟩) n n] 27))
  generalize w2.heap.size = g5 at *
  refine out_with (B := fun w2 => Lo w2 W.heap.size (Value.slice (some { block := g, off := 0 }) n n) n (N + M + 1 + n) (fun i => sumTo (fun k => f i k * g' k) n)) K.out HL.out ?_
  clear K HL w2
  intro W2 K HL
  replace K := Lib.hid K
  replace HL := Lib.hid HL
  have HX : Hid (Cap W2 w.heap.size (.slice B n d)) := Lib.hid ⟨K.out.lt (.tail _ (.tail _ (.head _))), K.out.cell (.tail _ (.tail _ (.head _))) rfl⟩
  have HY : Hid (Cap W2 g5 (.slice (some ⟨g, 0, none⟩) n n)) := Lib.hid ⟨K.out.lt (.head _), K.out.cell (.head _) rfl⟩
  go_wp2_with fail
  refine (sum63_any _ _ n M (N + M + 1 + n) g' (fun i => sumTo (fun k => f i k * g' k) n) W2 (fun k hk w' hb => two63_any w.heap.size g5 _ _ k n M _ g' (fun i => sumTo (fun k => f i k * g' k) n) w' (HX.out.below hb) (HY.out.below hb) ((H2.out.below K.out.B).below hb) (HL.out.lv.below hb) hk) (by omega)).mono ?_
  rintro e w3 ⟨q, A2, l2, c2, rfl, hN2, hb⟩
  replace K := Lib.hid (Keep.stays _ _ K.out hb).rest
  have HN := Lib.hid hN2
  clear hb hN2 HX HY HL
  obtain ⟨f1, c10, c11⟩ := K.out.nm (.head _)
  go_wp2_with fail
  refine ret_nm Tryz.results22 rfl ((K.out.putn_0 _ _).nb (.head _)) ?_
  exact ⟨q, A2, l2, c2, rfl, HN.out.put (K.out.nm (.head _)).2.1 _ _, (K.out.putn_0 q (.slice A2 l2 c2)).B⟩

set_option maxHeartbeats 4000000 in
set_option maxRecDepth 100000 in
theorem qless_any (v t : Value) (n N M : Nat) (f g : Nat → Int) (w : World) (h1 : Lv w v n N f) (h2 : Lv w t n M g) (hN : N + M + n ≤ 300000) :
    Calls Tryz.prog 83 #[v, t] w fun e w' => ∃ u, e = .returned u ∧ Lo w' w.heap.size u n (N + M + 1) (fun j => f j - g j) ∧ Below w.heap.size w w' := by
  obtain ⟨A, c, rfl, ha0, ha⟩ := h1
  obtain ⟨B, d, rfl, hb0, hb⟩ := h2
  have K := Lib.hid (Keep.begin1 w (Obj.lst (List.replicate n Nm.zero)))
  have hmk := mk_lst n (by omega) n rfl
  have HA := Lib.hid ha; have HB := Lib.hid hb
  clear ha hb ha0 hb0
  go_enter Tryz.func83, Tryz.ntmps83
  go_wp2_with fail
  go_loopg [12] n (fun gk iv wr => ∃ (i : Nat) (L : List Nm), gk + i = n ∧ iv = .int .i64 (i : Int) ∧ L.length = n ∧ Els wr L (N + M + 1) (upto i (fun j => f j - g j)) ∧ Keep w [(w.heap.size, Obj.lst L)] wr)
  case atStart => exact ⟨0, _, by omega, rfl, by simp, (Els.zero _ _ _).more (Nat.le_refl _) (fun k _ => upto_zero _ k), K.out⟩
  case round =>
    clear K hmk
    obtain ⟨i, L, hgi, rfl, hl, he, k'⟩ := hrel
    have K := Lib.hid k'
    have HL := Lib.hid hl
    have HE := Lib.hid he
    clear k' hl he
    by_cases hi : i < n
    · obtain ⟨b, n1, B1, l1, d1, rfl, hlt1, x0, x1, hn1⟩ := HA.out i hi
      obtain ⟨b2, n2, B2, l2, d2, rfl, hlt2, y0, y1, hn2⟩ := HB.out i hi
      have X0 := Keep.far K hlt1 x0
      have X1 := Keep.far K hlt1 x1
      have Y0 := Keep.far K hlt2 y0
      have Y1 := Keep.far K hlt2 y1
      have H1 := Lib.hid hn1; have H2 := Lib.hid hn2
      clear x0 x1 y0 y1 hn1 hn2
      go_upto_region 5 with fail
      (refine region_ord _ 11 (by kernel_rfl) (by kernel_rfl) K.out.drew ?_; clear K; intro W K hbw; replace K := Lib.hid K)
      replace HE := Lib.hid (HE.out.below hbw)
      clear hbw
      (refine Ord.take' 0 rfl (by kernel_rfl) (fun _ _ _ _ h => h) K.out (by rfl) ?_; apply Exists.intro; refine ⟨fun p => ?_, ?_⟩; (focus (go_simp; (try (with_reducible rfl)); done)); (try simp only [Act.put, List.setIfInBounds_toArray, List.set_cons_zero, List.set_cons_succ]))
      (refine Ord.take' 1 rfl (by kernel_rfl) (fun _ _ _ _ h => h) K.out (by rfl) ?_; apply Exists.intro; refine ⟨fun p => ?_, ?_⟩; (focus (go_simp; (try (with_reducible rfl)); done)); (try simp only [Act.put, List.setIfInBounds_toArray, List.set_cons_zero, List.set_cons_succ]))
      (refine Ord.take' 2 rfl (by kernel_rfl) (fun _ _ _ _ h => h) K.out (by rfl) ?_; apply Exists.intro; refine ⟨fun p => ?_, ?_⟩; (focus (go_simp; (try (with_reducible rfl)); done)); (try simp only [Act.put, List.setIfInBounds_toArray, List.set_cons_zero, List.set_cons_succ]))
      (refine Ord.take' 3 rfl (by kernel_rfl) (fun _ _ _ _ h => h) K.out (by rfl) ?_; apply Exists.intro; refine ⟨fun p => ?_, ?_⟩; (focus (go_simp; (try (with_reducible rfl)); done)); (try simp only [Act.put, List.setIfInBounds_toArray, List.set_cons_zero, List.set_cons_succ]))
      (refine Ord.take' 4 rfl (by kernel_rfl) (fun _ _ _ _ h => h) K.out (by rfl) ?_; apply Exists.intro; refine ⟨fun p => ?_, ?_⟩; (focus (go_simp; (try (with_reducible rfl)); done)); (try simp only [Act.put, List.setIfInBounds_toArray, List.set_cons_zero, List.set_cons_succ]))
      (refine Ord.take' 5 rfl (by kernel_rfl) (fun _ _ _ _ h => h) K.out (by rfl) ?_; apply Exists.intro; refine ⟨fun p => ?_, ?_⟩; (focus (go_simp; (try (with_reducible rfl)); done)); (try simp only [Act.put, List.setIfInBounds_toArray, List.set_cons_zero, List.set_cons_succ]))
      (refine Ord.take' 6 rfl (by kernel_rfl) (fun _ _ _ _ h => h) K.out (by rfl) ?_; apply Exists.intro; refine ⟨fun p => ?_, ?_⟩; (focus (go_simp; (try (with_reducible rfl)); done)); (try simp only [Act.put, List.setIfInBounds_toArray, List.set_cons_zero, List.set_cons_succ]))
      (refine Ord.take' 7 rfl (by kernel_rfl) (fun _ _ _ _ h => h) K.out (by rfl) ?_; apply Exists.intro; refine ⟨fun p => ?_, ?_⟩; (focus (go_simp; (try (with_reducible rfl)); done)); (try simp only [Act.put, List.setIfInBounds_toArray, List.set_cons_zero, List.set_cons_succ]))
      (refine Ord.take' 8 rfl (by kernel_rfl) (fun _ _ _ _ h => h) K.out (by rfl) ?_; apply Exists.intro; refine ⟨fun p => ?_, ?_⟩; (focus (go_simp; (try (with_reducible rfl)); done)); (try simp only [Act.put, List.setIfInBounds_toArray, List.set_cons_zero, List.set_cons_succ]))
      (refine Ord.take' 9 rfl (by kernel_rfl) (fun _ _ _ _ h => h) K.out (by rfl) ?_; apply Exists.intro; refine ⟨fun p => ?_, ?_⟩; (focus (go_simp; (try (with_reducible rfl)); done)); (try simp only [Act.put, List.setIfInBounds_toArray, List.set_cons_zero, List.set_cons_succ]))
      clear X0 X1 Y0 Y1
      (refine Ord.call 10 (g := 59) (args := (#[.agg #[.bool n1, .slice B1 l1 d1], .agg #[.bool n2, .slice B2 l2 d2]])) rfl (by kernel_rfl) (by rfl) (by (go_simp; try (with_reducible rfl))) ?_)
      refine (sub_nz (H1.out.below K.out.B) (H2.out.below K.out.B) (by omega) (by omega)).mono ?_
      rintro e w3 ⟨q3, A3, l3, c3, rfl, hN3, hb⟩
      (refine ⟨_, rfl, Keep.stays _ _ K.out hb, ?_⟩; replace K := Lib.hid (Keep.stays _ _ K.out hb); simp only [Act.put, List.setIfInBounds_toArray, List.set_cons_zero, List.set_cons_succ])
      replace HE := Lib.hid (HE.out.below hb)
      have H3 := Lib.hid hN3
      clear hb hN3
      (refine Ord.done (by kernel_rfl) ?_; simp only [List.drop_succ_cons, List.drop_zero, Act.put, List.setIfInBounds_toArray, List.set_cons_zero, List.set_cons_succ])
      obtain ⟨c0, c1⟩ := K.out.lstc (.head _) i (by rw [HL.out]; exact hi)
      have f1 := K.out.lstw (.head _)
      go_wp2_with fail
      clear c0 c1 f1
      go_roundg (gk - 1)
      case measure => omega
      case rel =>
        have c00 := (K.out.lstc (.head _) 0 (by rw [HL.out]; omega)).1
        exact ⟨i + 1, L.set i ⟨q3, A3, l3, c3⟩, by omega, congrArg (Value.int .i64) (by omega), by rw [List.length_set]; exact HL.out, (HE.out.putAt c00 _ _).fill _ ((H3.out.putAt c00 _ _).more (by omega)), K.out.setl_0 i ⟨q3, A3, l3, c3⟩⟩
    · replace HE := Lib.hid (HE.out.more (Nat.le_refl _) (fun k hk => upto_all _ (show k < i by have := HL.out; omega)))
      go_wp2_with fail
      go_ret
      exact ⟨_, rfl, ⟨w.heap.size, L, rfl, Nat.le_refl _, K.out.box _ (.head _), HL.out, HE.out⟩, K.out.B⟩
end Go.Proofs.YtmidifgnpjlgcaaGreat
/- Lists of numbers that grow; the walk of each of numbers. -/
set_option linter.unusedVariables false
set_option linter.unusedSimpArgs false
namespace Go.Proofs.YtmidifgnpjlgcaaGreat
open Go.RowKit

theorem cellOf {w : World} {g k : Nat} {cur : Array Value} {t : TypeId} (hh : w.heap[g]? = some (.cells cur t)) : w.cell? ⟨g, k, none⟩ = cur[k]? := by simp [World.cell?, hh]

/-- What is elsewhere stays. -/
def Turn (o : Option Nat) (w w' : World) : Prop := w.heap.size ≤ w'.heap.size ∧ ∀ k, k < w.heap.size → o ≠ some k → w'.heap[k]? = w.heap[k]?
theorem Dg.turn {w w' : World} {o : Option Nat} {s : Value} {ds : List Int} (h : Dg w s ds) (hT : Turn o w w') (hO : ∀ k, o = some k → ∀ z, w.cell? ⟨k, 0, none⟩ ≠ some (.int .u32 z)) : Dg w' s ds := by
  rcases h with h | ⟨b, c, hs, hc, hlt, hcell⟩
  · exact .inl h
  · by_cases e : o = some b
    · by_cases h0 : ds.length = 0
      · exact .inr ⟨b, c, hs, hc, Nat.lt_of_lt_of_le hlt hT.1, fun j hj => by omega⟩
      · exact absurd (hcell 0 (by omega)) (hO b e _)
    · exact .inr ⟨b, c, hs, hc, Nat.lt_of_lt_of_le hlt hT.1, fun j hj => by rw [cell_of_heap (hT.2 b hlt e)]; exact hcell j hj⟩
theorem Nz.turn {w w' : World} {o : Option Nat} {n : Bool} {s : Value} {z : Int} {N : Nat} (h : Nz w n s z N) (hT : Turn o w w') (hO : ∀ k, o = some k → ∀ z, w.cell? ⟨k, 0, none⟩ ≠ some (.int .u32 z)) : Nz w' n s z N := by
  obtain ⟨ds, h1, h2, h3⟩ := h
  exact ⟨ds, ⟨h1.1.turn hT hO, h1.2⟩, h2, h3⟩
theorem Els.turn {w w' : World} {L : List Nm} {N : Nat} {f : Nat → Int} (h : Els w L N f) (hT : ∀ n s z N, Nz w n s z N → Nz w' n s z N) : Els w' L N f := fun j hj => hT _ _ _ _ (h j hj)

/-- A list of the call's own that grows. -/
def Lwn (w : World) (base : Nat) (v : Value) (L : List Nm) : Prop := w.ownsRow base 30 2 v L.length (flat L) ∧ ∀ k, v.ownBlock = some k → ∀ z, w.cell? ⟨k, 0, none⟩ ≠ some (.int .u32 z)
theorem Lwn.nil (w : World) (base : Nat) : Lwn w base (.slice none 0 0) [] := ⟨⟨rfl, .inl ⟨rfl, rfl⟩⟩, fun k h => by cases h⟩
theorem Lwn.base {w : World} {base : Nat} {v : Value} {L : List Nm} (h : Lwn w base v L) (k : Nat) (hk : v.ownBlock = some k) : base ≤ k := by
  rcases h.1.2 with ⟨rfl, _⟩ | ⟨g, cap, cur, rfl, hb, _⟩
  · simp [Value.ownBlock] at hk
  · have : g = k := by simpa [Value.ownBlock] using hk
    omega
theorem Lwn.lt {w : World} {base : Nat} {v : Value} {L : List Nm} (h : Lwn w base v L) (k : Nat) (hk : v.ownBlock = some k) : k < w.heap.size := by
  rcases h.1.2 with ⟨rfl, _⟩ | ⟨g, cap, cur, rfl, hb, hh, _⟩
  · simp [Value.ownBlock] at hk
  · have : g = k := by simpa [Value.ownBlock] using hk
    rw [← this]
    exact (Array.getElem?_eq_some_iff.1 hh).1
theorem Lwn.below {w w1 : World} {base : Nat} {v : Value} {L : List Nm} (h : Lwn w base v L) (hb : Below w.heap.size w w1) : Lwn w1 base v L :=
  ⟨World.ownsRow.kept h.1 (row := none) ⟨hb.os, hb.tape, hb.output, hb.size, fun i hi _ => hb.block i hi⟩ (by cases v.ownBlock <;> simp), fun k hk z => by rw [hb.cell (p := ⟨k, 0, none⟩) (h.lt k hk)]; exact h.2 k hk z⟩
theorem Lwn.sl {w : World} {base : Nat} {v : Value} {L : List Nm} (h : Lwn w base v L) : ∃ A c, v = .slice A L.length c := by
  rcases h.1.2 with ⟨rfl, h0⟩ | ⟨g, cap, cur, rfl, _⟩
  · exact ⟨none, 0, by rw [h0]⟩
  · exact ⟨_, cap, rfl⟩
theorem Lwn.lv {w : World} {base : Nat} {v : Value} {L : List Nm} {N : Nat} {f : Nat → Int} (h : Lwn w base v L) (he : Els w L N f) : Lv w v L.length N f := by
  rcases h.1.2 with ⟨rfl, h0⟩ | ⟨g, cap, cur, rfl, hb, hh, hn, _, hcur, htake⟩
  · exact ⟨none, 0, by rw [h0], fun _ => rfl, fun j hj => by omega⟩
  · refine ⟨_, cap, rfl, (fun h => by cases h), fun j hj => ?_⟩
    have h1 := he j hj
    have hc : ∀ k, k < L.length * 2 → w.cell? ⟨g, k, none⟩ = (flat L)[k]? := by
      intro k hk
      rw [cellOf hh, ← htake, List.getElem?_take, if_pos hk, Array.getElem?_toList]
    exact ⟨g, _, _, _, _, rfl, (Array.getElem?_eq_some_iff.1 hh).1, (hc _ (by omega)).trans (flat_get0 L j hj), (hc _ (by omega)).trans (flat_get1 L j hj), h1⟩

theorem mk0_lst (N : Nat) (hN : N ≤ 1000000) (x : Int) (hx : x = (N : Int)) (w : World) : (Instr.makeSlice 27 (.int .i64 0) (.int .i64 x)).run Tryz.prog w = .ok (.slice (some ⟨w.heap.size, 0, none⟩) 0 N) (w.alloc (Obj.lst (List.replicate N Nm.zero))) := by
  have a := mk_lst N hN x hx w
  obtain ⟨i0, hi, hx0⟩ := Option.map_eq_some_iff.1 info30
  simp only [Prod.mk.injEq] at hx0
  obtain ⟨hz0, hz1, hz2⟩ := hx0
  subst hx
  rw [run_make (P := Tryz.prog) w 27 30 i0 (.agg #[.bool false, .slice none 0 0]) Tryz.underlying27 hi hz0 .i64 .i64 (N : Int) (N : Int) (by omega) (Int.le_refl _) (by rw [hz2]; omega) (by omega)] at a
  rw [run_make (P := Tryz.prog) w 27 30 i0 (.agg #[.bool false, .slice none 0 0]) Tryz.underlying27 hi hz0 .i64 .i64 0 (N : Int) (by omega) (by omega) (by rw [hz2]; omega) (by omega)]
  simp only [Result.ok.injEq] at a
  rw [a.2, Int.toNat_natCast, Int.toNat_zero]
theorem Lwn.mk0 (w : World) (N : Nat) (hN : N ≤ 1000000) : Lwn (w.alloc (Obj.lst (List.replicate N Nm.zero))) w.heap.size (.slice (some ⟨w.heap.size, 0, none⟩) 0 N) [] := by
  have hh : (w.alloc (Obj.lst (List.replicate N Nm.zero))).heap[w.heap.size]? = some (Obj.lst (List.replicate N Nm.zero)) := by
    show (w.heap.push _)[w.heap.size]? = _; exact Array.getElem?_push_size
  refine ⟨⟨rfl, .inr ⟨w.heap.size, N, _, rfl, Nat.le_refl _, hh, Nat.zero_le _, by unfold maxLen; omega, by simp [flat_length], rfl⟩⟩, fun k hk z => ?_⟩
  have : w.heap.size = k := by simpa [Value.ownBlock] using hk
  subst this
  rw [cellOf hh, List.getElem?_toArray]
  cases N with
  | zero => simp [flat]
  | succ n => simp [List.replicate_succ, flat]

/-- A number more. -/
theorem app1l {ops : Array Oper} {rest : List Oper} {o : Oper} {a : Act} {Q : Exit → Act → World → Prop} {w : World} (hgd : o.guard = none) (s x : Operand)
    (ho : o.op = .call { callee := .builtin .append, args := #[s, x], argTypes := #[27, 27] }) (base : Nat) (v : Value) (L : List Nm) (q : Bool) (A : Option Addr) (ll lc : Nat) (hs : a.eval s = v) (hown : Lwn w base v L) (hx : a.eval x = .slice (some ⟨w.heap.size, 0, none⟩) 1 1)
    (hlen : L.length ≤ 1000000) (hbase : base ≤ w.heap.size)
    (h : ∀ v' w', Lwn w' base v' (L ++ [⟨q, A, ll, lc⟩]) → (∀ n s z N, Nz w n s z N → Nz w' n s z N) → (∀ w0 l, Keep w0 l w → (∀ p ∈ l, p.1 < base) → w0.heap.size ≤ base → Keep w0 l w') → wpList Tryz.prog ops Q rest (a.put o.dst v') w') :
    wpList Tryz.prog ops Q (o :: rest) a (w.alloc (.cells #[.bool q, .slice A ll lc] 30)) := by
  obtain ⟨i0, hi, hx0⟩ := Option.map_eq_some_iff.1 info30
  simp only [Prod.mk.injEq] at hx0
  obtain ⟨hz0, hz1, hz2⟩ := hx0
  have hnew : (w.alloc (.cells #[.bool q, .slice A ll lc] 30)).heap[w.heap.size]? = some (.cells #[.bool q, .slice A ll lc] 30) := by
    show (w.heap.push _)[w.heap.size]? = _; exact Array.getElem?_push_size
  have hown2 := hown.below (below_one w (.cells #[.bool q, .slice A ll lc] 30))
  refine wpList_append_own _ hgd s x 27 ho base 30 i0 (.agg #[.bool false, .slice none 0 0]) 2 32 Tryz.underlying27 hi hz0 hz1 hz2 (by rfl) (by decide) v L.length _ hs hown2.1 ⟨w.heap.size, 0, none⟩ 1 1 [.bool q, .slice A ll lc] hx rfl ?_ ?_ (by unfold maxLen; omega) (by omega) (by simp; omega) ?_
  · intro j u hu
    have e : ((⟨w.heap.size, 0, none⟩ : Addr).add j) = ⟨w.heap.size, j, none⟩ := by unfold Addr.add; split <;> simp_all
    rw [e]
    rw [cellOf hnew, List.getElem?_toArray]
    exact hu
  · intro u hu
    simp only [List.mem_cons, List.mem_singleton, List.not_mem_nil, or_false] at hu
    rcases hu with rfl | rfl <;> rfl
  · intro v' w' hown' hgrow _
    have e : flat (L ++ [⟨q, A, ll, lc⟩]) = flat L ++ [.bool q, .slice A ll lc] := flat_app _ _
    have hT : Turn v.ownBlock w w' := by
      have hb := below_one w (.cells #[.bool q, .slice A ll lc] 30)
      refine ⟨Nat.le_trans hb.size hgrow.size, fun k hk hne => ?_⟩
      rw [hgrow.block k (Nat.lt_of_lt_of_le hk hb.size) (fun e => hne e.symm), hb.block k hk]
    refine h v' w' ⟨?_, fun k hk z => ?_⟩ (fun n s z N hN => hN.turn hT hown.2) fun w0 l K hl h0 => ?_
    · rw [e, List.length_append]
      exact hown'
    · rcases hown'.2 with ⟨rfl, _⟩ | ⟨g, cap, cur, rfl, hb, hh, hn, _, hcur, htake⟩
      · simp [Value.ownBlock] at hk
      · have hgk : g = k := by simpa [Value.ownBlock] using hk
        subst hgk
        have htake2 : List.take ((L.length + 1) * 2) cur.toList = flat (L ++ [⟨q, A, ll, lc⟩]) := by rw [e]; exact htake
        have hc : w'.cell? ⟨g, 0, none⟩ = (flat L ++ [.bool q, .slice A ll lc])[0]? := by
          rw [cellOf hh, ← e, ← htake2, List.getElem?_take, if_pos (by omega), Array.getElem?_toList]
        rw [hc]
        cases L with
        | nil => simp [flat]
        | cons y L => simp [flat]
    · have Ka := (K.alloc (.cells #[.bool q, .slice A ll lc] 30)).rest
      have hg : ∀ k, k < base → w'.heap[k]? = (w.alloc (.cells #[.bool q, .slice A ll lc] 30)).heap[k]? := fun k hk => hgrow.block k (by simp; omega) (fun e => by have := hown.base k e.symm; omega)
      refine ⟨fun p hp => ?_, Ka.own, Ka.one, ⟨hgrow.os.trans Ka.B.os, hgrow.tape.trans Ka.B.tape, hgrow.output.trans Ka.B.output, Nat.le_trans Ka.B.size hgrow.size, fun k hk => (hg k (by omega)).trans (Ka.B.block k hk)⟩⟩
      rw [hg p.1 (hl p hp)]
      exact Ka.box p hp

set_option maxHeartbeats 4000000 in
set_option maxRecDepth 100000 in
theorem each45_any (s : Value) (xs : List Int) (w : World) (h : Iv w s xs) (l : xs.length ≤ 1000000) :
    Calls Tryz.prog 45 #[s, .func (.func 19) #[] #[]] w fun e w' => ∃ v, e = .returned v ∧ Lv w' v xs.length 2 (fun j => xs.getD j 0) ∧ Below w.heap.size w w' := by
  obtain ⟨A, c, rfl, -, ha⟩ := h
  have HA := Lib.hid ha
  have K := Lib.hid (Keep.start w)
  have hmk := mk0_lst xs.length l xs.length rfl
  have HW := Lib.hid (Lwn.mk0 w xs.length l)
  have HB := Lib.hid (below_one w (Obj.lst (List.replicate xs.length Nm.zero)))
  clear ha
  go_enter Tryz.func45, Tryz.ntmps45
  go_wp2_with fail
  go_loopg [5, 13] xs.length (fun gk ov iv wr => ∃ (i : Nat) (L : List Nm), gk + i = xs.length ∧ iv = .int .i64 (i : Int) ∧ L.length = i ∧ Lwn wr w.heap.size ov L ∧ Els wr L 2 (fun j => xs.getD j 0) ∧ Below w.heap.size w wr)
  case atStart => exact ⟨0, [], by omega, rfl, rfl, HW.out, Els.nil _ _ _, HB.out⟩
  case round =>
    clear K hmk HW HB
    obtain ⟨i, L, hgi, rfl, hl, hown, he, hb⟩ := hrel
    have HL := Lib.hid hl; have HO := Lib.hid hown; have HE := Lib.hid he
    have K := Lib.hid (show Keep w [] wr from ⟨fun _ h => (by cases h), fun _ h => (by cases h), List.nodup_nil, hb⟩)
    clear hl hown he hb
    by_cases hi : i < xs.length
    · obtain ⟨hx64, p, rfl, hp, hpc⟩ := HA.out i hi
      have X : wr.cell? (p.add i) = some (.int .i64 (xs.getD i 0)) := by rw [K.out.B.cell (p := p.add i) (by rw [add_block]; exact hp)]; exact hpc
      clear hp hpc
      generalize hxx : xs.getD i 0 = x at X hx64
      have HX := Lib.hid hxx
      clear hxx
      go_wp2_with fail
      refine (int_nz x _ hx64.1 hx64.2).mono ?_
      rintro e w2 ⟨q, A2, l2, c2, rfl, hN, hb⟩
      replace K := Lib.hid (Keep.stays _ _ K.out hb)
      replace HO := Lib.hid (HO.out.below hb)
      replace HE := Lib.hid (HE.out.below hb)
      have HN := Lib.hid hN
      clear hb hN X hx64
      go_wp2_with (at_builtin; refine app1l rfl (.tmp 17) (.tmp 21) rfl w.heap.size u5 L q A2 l2 c2 rfl HO.out rfl (by rw [HL.out]; omega) K.out.B.size ?_; intro v' w' hown' hnz' hkeep')
      have Y := Lib.hid (And.intro hown' (And.intro (hkeep' _ _ K.out (by simp) (Nat.le_refl _)) (And.intro (HE.out.turn hnz') (hnz' _ _ _ _ HN.out))))
      have HYL : Hid ((L ++ [(⟨q, A2, l2, c2⟩ : Nm)]).length = i + 1) := by show _ = _; rw [List.length_append, HL.out]; rfl
      clear hown' hkeep' hnz' HO K HE HN
      go_roundg (gk - 1)
      case measure => omega
      case rel =>
        exact ⟨i + 1, _, by omega, congrArg (Value.int .i64) (by omega), HYL.out, Y.out.1, Y.out.2.2.1.snoc _ (Y.out.2.2.2.val (by show x = xs.getD L.length 0; rw [HL.out]; exact HX.out.symm)), Y.out.2.1.B⟩
    · have HG := Lib.hid (HO.out.lv HE.out)
      have HI : Hid (L.length = xs.length) := by have := HL.out; show _ = _; omega
      rw [HI.out] at HG
      go_wp2_with fail
      go_ret
      exact ⟨_, rfl, HG.out, K.out.B⟩
end Go.Proofs.YtmidifgnpjlgcaaGreat
/- Rows as they lie; the walks of each of rows, and of a quadratic function's value. -/
set_option linter.unusedVariables false
set_option linter.unusedSimpArgs false
namespace Go.Proofs.YtmidifgnpjlgcaaGreat
open Go.RowKit

def Rw.zero : Rw := ⟨[], 0, 0, 0⟩
/-- Rows as they lie. -/
def Rws (w : World) (v : Value) (rs : List Rw) : Prop :=
  ∃ A c, v = .slice A rs.length c ∧ (A = none → c = 0) ∧ ∀ j, j < rs.length → ∃ b off B d, A = some ⟨b, off, none⟩ ∧ b < w.heap.size ∧ Iv w (.slice B (rs.getD j Rw.zero).coef.length d) (rs.getD j Rw.zero).coef ∧
    w.cell? ⟨b, off + j * 4, none⟩ = some (.slice B (rs.getD j Rw.zero).coef.length d) ∧ w.cell? ⟨b, off + j * 4 + 1, none⟩ = some (.int .i64 (rs.getD j Rw.zero).z) ∧ w.cell? ⟨b, off + j * 4 + 2, none⟩ = some (.int .i64 (rs.getD j Rw.zero).knee) ∧ w.cell? ⟨b, off + j * 4 + 3, none⟩ = some (.int .i64 (rs.getD j Rw.zero).weight)
theorem Rws.below {w w' : World} {v : Value} {rs : List Rw} (h : Rws w v rs) (hb : Below w.heap.size w w') : Rws w' v rs := by
  obtain ⟨A, c, hv, h0, h⟩ := h
  refine ⟨A, c, hv, h0, fun j hj => ?_⟩
  obtain ⟨b, off, B, d, hA, hlt, hI, c0, c1, c2, c3⟩ := h j hj
  exact ⟨b, off, B, d, hA, Nat.lt_of_lt_of_le hlt hb.size, hI.below hb, by rw [hb.cell (p := ⟨b, _, none⟩) hlt]; exact c0, by rw [hb.cell (p := ⟨b, _, none⟩) hlt]; exact c1, by rw [hb.cell (p := ⟨b, _, none⟩) hlt]; exact c2, by rw [hb.cell (p := ⟨b, _, none⟩) hlt]; exact c3⟩

/-- A state: so many numbers of a million at most. -/
def Sta (w : World) (t : Value) (xs : List Int) (n : Nat) : Prop := Iv w t xs ∧ xs.length = n ∧ ∀ j, j < n → -1000000 ≤ xs.getD j 0 ∧ xs.getD j 0 ≤ 1000000
theorem Sta.below {w w' : World} {t : Value} {xs : List Int} {n : Nat} (h : Sta w t xs n) (hb : Below w.heap.size w w') : Sta w' t xs n := ⟨h.1.below hb, h.2⟩

theorem mk0_qow (N : Nat) (hN : N ≤ 1000000) (x : Int) (hx : x = (N : Int)) (w : World) : (Instr.makeSlice 23 (.int .i64 0) (.int .i64 x)).run Tryz.prog w = .ok (.slice (some ⟨w.heap.size, 0, none⟩) 0 N) (w.alloc (Obj.qow (List.replicate N 0))) := by
  have a := mk_qow N hN x hx w
  obtain ⟨i0, hi, hx0⟩ := Option.map_eq_some_iff.1 info2
  simp only [Prod.mk.injEq] at hx0
  obtain ⟨hz0, hz1, hz2⟩ := hx0
  subst hx
  rw [run_make (P := Tryz.prog) w 23 2 i0 (.int .i64 0) Tryz.underlying23 hi hz0 .i64 .i64 (N : Int) (N : Int) (by omega) (Int.le_refl _) (by rw [hz2]; omega) (by omega)] at a
  rw [run_make (P := Tryz.prog) w 23 2 i0 (.int .i64 0) Tryz.underlying23 hi hz0 .i64 .i64 0 (N : Int) (by omega) (by omega) (by rw [hz2]; omega) (by omega)]
  simp only [Result.ok.injEq] at a
  rw [a.2, Int.toNat_natCast, Int.toNat_zero]
theorem Qwn.mk0 (w : World) (N : Nat) (hN : N ≤ 1000000) : Qwn (w.alloc (Obj.qow (List.replicate N 0))) w.heap.size (.slice (some ⟨w.heap.size, 0, none⟩) 0 N) [] := by
  have hh : (w.alloc (Obj.qow (List.replicate N 0))).heap[w.heap.size]? = some (Obj.qow (List.replicate N 0)) := by
    show (w.heap.push _)[w.heap.size]? = _; exact Array.getElem?_push_size
  exact ⟨rfl, .inr ⟨w.heap.size, N, _, rfl, Nat.le_refl _, hh, Nat.zero_le _, by unfold maxLen; omega, by simp, rfl⟩⟩
theorem Keep.of {w wr : World} (hb : Below w.heap.size w wr) : Keep w [] wr := ⟨fun _ h => (by cases h), fun _ h => (by cases h), List.nodup_nil, hb⟩
theorem mem_of_lt {rs : List Rw} {j : Nat} (h : j < rs.length) : rs.getD j Rw.zero ∈ rs := by
  rw [List.getD_eq_getElem?_getD, List.getElem?_eq_getElem h]
  exact List.getElem_mem h

variable {w0 w : World} {l l2 : List (Nat × Obj)}
set_option maxHeartbeats 4000000 in
set_option maxRecDepth 100000 in
theorem val41_any (v : Value) (r : Rw) (g : Nat) (t : Value) (xs : List Int) (n : Nat) (w : World) (h : Iv w v r.coef) (hr : RwOk r n) (hc : Cap w g t) (hx : Sta w t xs n) :
    Calls Tryz.prog 41 #[.agg #[v, .int .i64 r.z, .int .i64 r.knee, .int .i64 r.weight], .pointer (some ⟨g, 0, none⟩)] w fun e w' => e = .returned (.int .i64 (rcost r xs)) ∧ Below w.heap.size w w' := by
  have K := Lib.hid (Keep.begin1 w (Obj.rw v r))
  have HI := Lib.hid h; have HX := Lib.hid hx; have HR := Lib.hid hr; have HC := Lib.hid hc
  obtain ⟨A, c, rfl, -⟩ := h
  obtain ⟨⟨B, d, rfl, -⟩, -⟩ := hx
  clear hc hr
  go_enter Tryz.func41, Tryz.ntmps41
  go_upto_region 1 with fail
  (refine out_keep K.out ?_; clear K; intro W K; replace K := Lib.hid K)
  (have c0 := K.out.cell (k := 0) (.head _) rfl; have c1 := K.out.cell (k := 1) (.head _) rfl; have c2 := K.out.cell (k := 2) (.head _) rfl; have c3 := K.out.cell (k := 3) (.head _) rfl; have f1 := fun o => K.out.warm (.head _) o)
  have cx := kept_cell K.out HC.out.1 HC.out.2
  go_wp2_with fail
  refine (rcost_any _ _ r n xs _ (HI.out.below K.out.B) HR.out (HX.out.1.below K.out.B) HX.out.2.1 HX.out.2.2).mono ?_
  rintro e w2 ⟨rfl, hb⟩
  replace K := Lib.hid (Keep.stays _ _ K.out hb)
  clear hb cx
  ((try clear f1); clear c0 c1 c2 c3)
  obtain ⟨z, hz⟩ : ∃ z, z = rcost r xs := ⟨_, rfl⟩
  have HZ := Lib.hid hz
  rw [← hz]
  clear hz
  go_wp2_with fail
  go_ret
  exact ⟨ret_int HZ.out, K.out.B⟩

set_option maxHeartbeats 4000000 in
set_option maxRecDepth 100000 in
theorem each40_any (s : Value) (rs : List Rw) (g : Nat) (t : Value) (xs : List Int) (n : Nat) (w : World) (h : Rws w s rs) (l : rs.length ≤ 1000000) (hr : ∀ r ∈ rs, RwOk r n) (hc : Cap w g t) (hx : Sta w t xs n) :
    Calls Tryz.prog 40 #[s, .func (.func 41) #[] #[.pointer (some ⟨g, 0, none⟩)]] w fun e w' => ∃ v, e = .returned v ∧ Qwn w' w.heap.size v (rs.map (fun r => rcost r xs)) ∧ Below w.heap.size w w' := by
  obtain ⟨A, c, rfl, -, ha⟩ := h
  have HA := Lib.hid ha
  have K := Lib.hid (Keep.start w)
  have HR := Lib.hid hr; have HC := Lib.hid hc; have HX := Lib.hid hx
  have hmk := mk0_qow rs.length l rs.length rfl
  have HW := Lib.hid (Qwn.mk0 w rs.length l)
  have HB := Lib.hid (below_one w (Obj.qow (List.replicate rs.length 0)))
  clear ha hr hc hx
  go_enter Tryz.func40, Tryz.ntmps40
  go_wp2_with fail
  go_loopg [5, 13] rs.length (fun gk ov iv wr => ∃ (i : Nat), gk + i = rs.length ∧ iv = .int .i64 (i : Int) ∧ Qwn wr w.heap.size ov ((rs.take i).map (fun r => rcost r xs)) ∧ Below w.heap.size w wr)
  case atStart => exact ⟨0, by omega, rfl, HW.out, HB.out⟩
  case round =>
    clear K hmk HW HB
    obtain ⟨i, hgi, rfl, hown, hb⟩ := hrel
    have HO := Lib.hid hown
    have K := Lib.hid (Keep.of hb)
    clear hown hb
    by_cases hi : i < rs.length
    · have HM := Lib.hid (HR.out _ (mem_of_lt hi))
      have HT : Hid (rs.take (i + 1) = rs.take i ++ [rs.getD i Rw.zero]) := by
        show _ = _
        rw [List.take_add_one, List.getElem?_eq_getElem hi, List.getD_eq_getElem?_getD, List.getElem?_eq_getElem hi]; rfl
      obtain ⟨b, off, B, d, rfl, hlt, hI, x0, x1, x2, x3⟩ := HA.out i hi
      have X0 := kept_cell K.out hlt x0; have X1 := kept_cell K.out hlt x1; have X2 := kept_cell K.out hlt x2; have X3 := kept_cell K.out hlt x3
      have HI := Lib.hid (hI.below K.out.B)
      clear hI x0 x1 x2 x3
      generalize rs.getD i Rw.zero = r at *
      go_upto_region 5 with fail
      clear X0 X1 X2 X3
      have HO1 := Lib.hid (HO.out.below (below_one wr (Obj.rw (.slice B r.coef.length d) r)))
      replace K := Lib.hid (K.out.alloc (Obj.rw (.slice B r.coef.length d) r))
      replace HI := Lib.hid (HI.out.below (below_one wr (Obj.rw (.slice B r.coef.length d) r)))
      generalize wr.heap.size = gr at *
      refine out_with (B := fun W => Qwn W w.heap.size u5 ((rs.take i).map (fun r => rcost r xs)) ∧ Iv W (.slice B r.coef.length d) r.coef) K.out ⟨HO1.out, HI.out⟩ ?_
      clear K HO HO1 HI
      intro W K HO
      replace K := Lib.hid K
      replace HO := Lib.hid HO
      (have c0 := K.out.cell (k := 0) (.head _) rfl; have c1 := K.out.cell (k := 1) (.head _) rfl; have c2 := K.out.cell (k := 2) (.head _) rfl; have c3 := K.out.cell (k := 3) (.head _) rfl; have f1 := fun o => K.out.warm (.head _) o)
      go_wp2_with fail
      refine (val41_any _ r g t xs n _ HO.out.2 HM.out (HC.out.below K.out.B) (HX.out.below K.out.B)).mono ?_
      rintro e w2 ⟨rfl, hb⟩
      replace K := Lib.hid (Keep.stays _ _ K.out hb).rest
      replace HO := Lib.hid (HO.out.1.below hb)
      clear hb
      ((try clear f1); clear c0 c1 c2 c3)
      go_wp2_with (at_builtin; refine app1q rfl (.tmp 17) (.tmp 21) rfl w.heap.size u5 ((rs.take i).map (fun r => rcost r xs)) (rcost r xs) rfl HO.out rfl (by rw [List.length_map, List.length_take]; omega) K.out.B.size ?_; intro v' w' hown' hkeep')
      have Y := Lib.hid (And.intro hown' (hkeep' _ _ K.out (by simp) (Nat.le_refl _)).B)
      clear hown' hkeep' HO K
      go_roundg (gk - 1)
      case measure => omega
      case rel =>
        refine ⟨i + 1, by omega, congrArg (Value.int .i64) (by omega), ?_, Y.out.2⟩
        rw [HT.out, List.map_append]
        exact Y.out.1
    · have HI : Hid (rs.take i = rs) := Lib.hid (List.take_of_length_le (by omega))
      rw [HI.out] at HO
      go_wp2_with fail
      go_ret
      exact ⟨_, rfl, HO.out, K.out.B⟩
end Go.Proofs.YtmidifgnpjlgcaaGreat
/- The walks of a quadratic function's value, of Value and of Less. -/
set_option linter.unusedVariables false
set_option linter.unusedSimpArgs false
namespace Go.Proofs.YtmidifgnpjlgcaaGreat
open Go.RowKit

/-- A quadratic function, of numbers of N parts at most. -/
def Qg (w : World) (vp vq : Value) (cn : Bool) (cs : Value) (n N : Nat) (P : Nat → Nat → Int) (q : Nat → Int) (c : Int) : Prop := Mv w vp n n N P ∧ Lv w vq n N q ∧ Nz w cn cs c N
theorem Qg.below {w w' : World} {vp vq cs : Value} {cn : Bool} {n N : Nat} {P : Nat → Nat → Int} {q : Nat → Int} {c : Int} (h : Qg w vp vq cn cs n N P q c) (hb : Below w.heap.size w w') : Qg w' vp vq cn cs n N P q c := ⟨h.1.below hb, h.2.1.below hb, h.2.2.below hb⟩
/-- A quadratic function's value. -/
def qval (n : Nat) (P : Nat → Nat → Int) (q : Nat → Int) (c : Int) (x : Nat → Int) : Int := sumTo (fun i => x i * sumTo (fun k => P i k * x k) n) n - sumTo (fun k => q k * x k) n * 2 + c

variable {w0 w : World} {l l2 : List (Nat × Obj)}
set_option maxHeartbeats 4000000 in
set_option maxRecDepth 100000 in
theorem qvalue_any (vp vq t cs : Value) (cn : Bool) (n N M : Nat) (P : Nat → Nat → Int) (q : Nat → Int) (c : Int) (x : Nat → Int) (w : World) (h : Qg w vp vq cn cs n N P q c) (hx : Lv w t n M x) (hn : n ≤ 11) (hN : N ≤ 20000) (hM : M ≤ 20000) :
    Calls Tryz.prog 44 #[.agg #[vp, vq, .bool cn, cs], t] w fun e w' => ∃ u A l k, e = .returned (.agg #[.bool u, .slice A l k]) ∧ Nz w' u (.slice A l k) (qval n P q c x) (N + 2 * M + 2 * n + 10) ∧ Below w.heap.size w w' := by
  obtain ⟨CA, cl, cc, rfl⟩ := h.2.2.sl
  have K := Lib.hid (Keep.begin2 w (.cells #[vp, vq, .bool cn, .slice CA cl cc] 32) (Obj.num false (.slice none 0 0)))
  have HQ := Lib.hid h; have HX := Lib.hid hx
  obtain ⟨⟨PA, pc, rfl, -⟩, ⟨QA, qc, rfl, -⟩, -⟩ := h
  obtain ⟨B, d, rfl, -⟩ := hx
  go_enter Tryz.func44, Tryz.ntmps44
  go_upto_region 1 with fail
  (refine out_keep K.out ?_; clear K; intro W K; replace K := Lib.hid K)
  (refine region_ord _ 14 (by kernel_rfl) (by kernel_rfl) K.out.drew ?_; clear K; intro W K hbw; replace K := Lib.hid K)
  clear hbw
  have x0 := Keep.acell (k := 0) K (.tail _ (.head _)) rfl
  have x1 := Keep.acell (k := 1) K (.tail _ (.head _)) rfl
  have x2 := Keep.acell (k := 2) K (.tail _ (.head _)) rfl
  have x3 := Keep.acell (k := 3) K (.tail _ (.head _)) rfl
  (refine Ord.take' 0 rfl (by kernel_rfl) (fun _ _ _ _ h => h) K.out (by rfl) ?_; apply Exists.intro; refine ⟨fun p => ?_, ?_⟩; (focus (go_simp; (try (with_reducible rfl)); done)); (try simp only [Act.put, List.setIfInBounds_toArray, List.set_cons_zero, List.set_cons_succ]))
  (refine Ord.take' 1 rfl (by kernel_rfl) (fun _ _ _ _ h => h) K.out (by rfl) ?_; apply Exists.intro; refine ⟨fun p => ?_, ?_⟩; (focus (go_simp; (try (with_reducible rfl)); done)); (try simp only [Act.put, List.setIfInBounds_toArray, List.set_cons_zero, List.set_cons_succ]))
  (refine Ord.take' 2 rfl (by kernel_rfl) (fun _ _ _ _ h => h) K.out (by rfl) ?_; apply Exists.intro; refine ⟨fun p => ?_, ?_⟩; (focus (go_simp; (try (with_reducible rfl)); done)); (try simp only [Act.put, List.setIfInBounds_toArray, List.set_cons_zero, List.set_cons_succ]))
  (refine Ord.take' 4 rfl (by kernel_rfl) (fun _ _ _ _ h => h) K.out (by rfl) ?_; apply Exists.intro; refine ⟨fun p => ?_, ?_⟩; (focus (go_simp; (try (with_reducible rfl)); done)); (try simp only [Act.put, List.setIfInBounds_toArray, List.set_cons_zero, List.set_cons_succ]))
  (refine Ord.take' 5 rfl (by kernel_rfl) (fun _ _ _ _ h => h) K.out (by rfl) ?_; apply Exists.intro; refine ⟨fun p => ?_, ?_⟩; (focus (go_simp; (try (with_reducible rfl)); done)); (try simp only [Act.put, List.setIfInBounds_toArray, List.set_cons_zero, List.set_cons_succ]))
  (refine Ord.take' 6 rfl (by kernel_rfl) (fun _ _ _ _ h => h) K.out (by rfl) ?_; apply Exists.intro; refine ⟨fun p => ?_, ?_⟩; (focus (go_simp; (try (with_reducible rfl)); done)); (try simp only [Act.put, List.setIfInBounds_toArray, List.set_cons_zero, List.set_cons_succ]))
  (refine Ord.take' 11 rfl (by kernel_rfl) (fun _ _ _ _ h => h) K.out (by rfl) ?_; apply Exists.intro; refine ⟨fun p => ?_, ?_⟩; (focus (go_simp; (try (with_reducible rfl)); done)); (try simp only [Act.put, List.setIfInBounds_toArray, List.set_cons_zero, List.set_cons_succ]))
  (refine Ord.take' 12 rfl (by kernel_rfl) (fun _ _ _ _ h => h) K.out (by rfl) ?_; apply Exists.intro; refine ⟨fun p => ?_, ?_⟩; (focus (go_simp; (try (with_reducible rfl)); done)); (try simp only [Act.put, List.setIfInBounds_toArray, List.set_cons_zero, List.set_cons_succ]))
  clear x0 x1 x2 x3
  (refine Ord.call 3 (g := 22) (args := (#[.slice PA n pc, .slice B n d])) rfl (by kernel_rfl) (by rfl) (by (go_simp; try (with_reducible rfl))) ?_)
  refine (quad_any _ _ n N M P x _ (HQ.out.1.below K.out.B) (HX.out.below K.out.B) (by omega)).mono ?_
  rintro e w2 ⟨q1, A1, l1, c1, rfl, hN1, hb⟩
  (refine ⟨_, rfl, Keep.stays _ _ K.out hb, ?_⟩; replace K := Lib.hid (Keep.stays _ _ K.out hb); simp only [Act.put, List.setIfInBounds_toArray, List.set_cons_zero, List.set_cons_succ])
  clear hb
  (refine Ord.call 7 (g := 60) (args := (#[.slice QA n qc, .slice B n d])) rfl (by kernel_rfl) (by rfl) (by (go_simp; try (with_reducible rfl))) ?_)
  refine (dot_any _ _ n N M q x _ (HQ.out.2.1.below K.out.B) (HX.out.below K.out.B) (by omega)).mono ?_
  rintro e w3 ⟨q2, A2, l2, c2, rfl, hN2, hb⟩
  (refine ⟨_, rfl, Keep.stays _ _ K.out hb, ?_⟩; replace K := Lib.hid (Keep.stays _ _ K.out hb); simp only [Act.put, List.setIfInBounds_toArray, List.set_cons_zero, List.set_cons_succ])
  replace hN1 := hN1.below hb
  clear hb
  (refine Ord.call 8 (g := 19) (args := (#[.int .i64 2])) rfl (by kernel_rfl) (by rfl) (by (go_simp; try (with_reducible rfl))) ?_)
  refine (int_nz 2 _ (by omega) (by omega)).mono ?_
  rintro e w4 ⟨q3, A3, l3, c3, rfl, hN3, hb⟩
  (refine ⟨_, rfl, Keep.stays _ _ K.out hb, ?_⟩; replace K := Lib.hid (Keep.stays _ _ K.out hb); simp only [Act.put, List.setIfInBounds_toArray, List.set_cons_zero, List.set_cons_succ])
  replace hN1 := hN1.below hb
  replace hN2 := hN2.below hb
  clear hb
  (refine Ord.call 9 (g := 23) (args := (#[.agg #[.bool q2, .slice A2 l2 c2], .agg #[.bool q3, .slice A3 l3 c3]])) rfl (by kernel_rfl) (by rfl) (by (go_simp; try (with_reducible rfl))) ?_)
  refine (mul_nz hN2 hN3 (by omega) (by omega)).mono ?_
  rintro e w5 ⟨q4, A4, l4, c4, rfl, hN4, hb⟩
  (refine ⟨_, rfl, Keep.stays _ _ K.out hb, ?_⟩; replace K := Lib.hid (Keep.stays _ _ K.out hb); simp only [Act.put, List.setIfInBounds_toArray, List.set_cons_zero, List.set_cons_succ])
  replace hN1 := hN1.below hb
  clear hb hN2 hN3
  (refine Ord.call 10 (g := 59) (args := (#[.agg #[.bool q1, .slice A1 l1 c1], .agg #[.bool q4, .slice A4 l4 c4]])) rfl (by kernel_rfl) (by rfl) (by (go_simp; try (with_reducible rfl))) ?_)
  refine (sub_nz hN1 hN4 (by omega) (by omega)).mono ?_
  rintro e w6 ⟨q5, A5, l5, c5, rfl, hN5, hb⟩
  (refine ⟨_, rfl, Keep.stays _ _ K.out hb, ?_⟩; replace K := Lib.hid (Keep.stays _ _ K.out hb); simp only [Act.put, List.setIfInBounds_toArray, List.set_cons_zero, List.set_cons_succ])
  clear hb hN1 hN4
  (refine Ord.call 13 (g := 43) (args := (#[.agg #[.bool q5, .slice A5 l5 c5], .agg #[.bool cn, .slice CA cl cc]])) rfl (by kernel_rfl) (by rfl) (by (go_simp; try (with_reducible rfl))) ?_)
  refine (add_nz hN5 (HQ.out.2.2.below K.out.B) (by omega) (by omega)).mono ?_
  rintro e w7 ⟨q6, A6, l6, c6, rfl, hN6, hb⟩
  (refine ⟨_, rfl, Keep.stays _ _ K.out hb, ?_⟩; replace K := Lib.hid (Keep.stays _ _ K.out hb); simp only [Act.put, List.setIfInBounds_toArray, List.set_cons_zero, List.set_cons_succ])
  have H6 := Lib.hid hN6
  clear hb hN5 hN6
  (refine Ord.done (by kernel_rfl) ?_; simp only [List.drop_succ_cons, List.drop_zero, Act.put, List.setIfInBounds_toArray, List.set_cons_zero, List.set_cons_succ])
  obtain ⟨f1, c10, c11⟩ := K.out.nm (.head _)
  go_wp2_with fail
  refine ret_nm Tryz.results44 rfl ((K.out.putn_0 q6 (.slice A6 l6 c6)).nb (.head _)) ?_
  exact ⟨q6, _, _, _, rfl, (H6.out.put (K.out.nm (.head _)).2.1 _ _).more (by omega), (K.out.putn_0 q6 (.slice A6 l6 c6)).B⟩
end Go.Proofs.YtmidifgnpjlgcaaGreat
