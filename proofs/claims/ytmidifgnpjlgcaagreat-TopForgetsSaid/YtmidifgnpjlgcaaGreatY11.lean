/- The texts Rb, Rc, Rd of the walk of the law and of all that it calls, in one file. No condition. -/
import Derived.Test.YtmidifgnpjlgcaaGreatY10
/- The rows of swept. -/
set_option linter.unusedVariables false
set_option linter.unusedSimpArgs false
namespace Go.Proofs.YtmidifgnpjlgcaaGreat
open Go.RowKit

set_option maxHeartbeats 4000000 in
set_option maxRecDepth 100000 in
theorem list110_any (k1 k2 k3 k4 : Value) (n N : Nat) (f : Nat → Int) (w : World) (hF : ∀ k : Nat, k < n → ∀ w', Below w.heap.size w w' → Calls Tryz.prog 110 #[.int .i64 k, k1, k2, k3, k4] w' (Told1 w' N (f k))) (hn : n ≤ 1000000) :
    Calls Tryz.prog 87 #[.int .i64 n, .func (.func 110) #[] #[k1, k2, k3, k4]] w fun e w' => ∃ v, e = .returned v ∧ Lo w' w.heap.size v n N f ∧ Below w.heap.size w w' := by
  have K := Lib.hid (Keep.begin1 w (Obj.lst (List.replicate n Nm.zero)))
  have HF := Lib.hid hF
  have hmk := mk_lst n hn n rfl
  clear hF
  go_enter Tryz.func87, Tryz.ntmps87
  go_wp2_with fail
  go_loopg [11] n (fun gk iv wr => ∃ (i : Nat) (L : List Nm), gk + i = n ∧ iv = .int .i64 (i : Int) ∧ L.length = n ∧ Els wr L N (upto i f) ∧ Keep w [(w.heap.size, Obj.lst L)] wr)
  case atStart => exact ⟨0, _, by omega, rfl, by simp, (Els.zero _ _ _).more (Nat.le_refl _) (fun k _ => upto_zero f k), K.out⟩
  case round =>
    clear K hmk
    obtain ⟨i, L, hgi, rfl, hl, he, k'⟩ := hrel
    have K := Lib.hid k'
    have HL := Lib.hid hl
    have HE := Lib.hid he
    clear k' hl he
    by_cases hi : i < n
    · go_upto_region 5 with fail
      go_wp2_with fail
      refine (HF.out i hi _ K.out.B).mono ?_
      rintro e w2 ⟨n1, B1, l1, d1, rfl, hn1, hb⟩
      replace K := Lib.hid (Keep.stays _ _ K.out hb)
      replace HE := Lib.hid (HE.out.below hb)
      have H1 := Lib.hid hn1
      clear hb hn1
      obtain ⟨c0, c1⟩ := K.out.lstc (.head _) i (by rw [HL.out]; exact hi)
      have f1 := K.out.lstw (.head _)
      go_wp2_with fail
      clear c0 c1 f1
      go_roundg (gk - 1)
      case measure => omega
      case rel =>
        have c00 := (K.out.lstc (.head _) 0 (by rw [HL.out]; omega)).1
        exact ⟨i + 1, L.set i ⟨n1, B1, l1, d1⟩, by omega, congrArg (Value.int .i64) (by omega), by rw [List.length_set]; exact HL.out, (HE.out.putAt c00 _ _).fill _ (H1.out.putAt c00 _ _), K.out.setl_0 i ⟨n1, B1, l1, d1⟩⟩
    · replace HE := Lib.hid (HE.out.more (Nat.le_refl _) (fun k hk => upto_all f (show k < i by have := HL.out; omega)))
      go_wp2_with fail
      go_ret
      exact ⟨_, rfl, ⟨w.heap.size, L, rfl, Nat.le_refl _, K.out.box _ (.head _), HL.out, HE.out⟩, K.out.B⟩


/-- A matrix with a list behind. -/
def aug (n : Nat) (A : Nat → Nat → Int) (b : Nat → Int) (i j : Nat) : Int := if j < n then A i j else b i

set_option maxHeartbeats 4000000 in
set_option maxRecDepth 100000 in
theorem entry110_any (gn ga gi gb : Nat) (v t : Value) (i j n N : Nat) (f : Nat → Nat → Int) (fb : Nat → Int) (w : World) (hn : Cap w gn (.int .i64 n)) (ha : Cap w ga v) (hi : Cap w gi (.int .i64 i)) (hb : Cap w gb t) (h1 : Mv w v n n N f) (h2 : Lv w t n N fb) (li : i < n) (lj : j < n + 1) :
    Calls Tryz.prog 110 #[.int .i64 j, .pointer (some ⟨gn, 0, none⟩), .pointer (some ⟨ga, 0, none⟩), .pointer (some ⟨gi, 0, none⟩), .pointer (some ⟨gb, 0, none⟩)] w (Told1 w N (aug n f fb i j)) := by
  obtain ⟨A, c, rfl, -, hm⟩ := h1
  obtain ⟨ba, B, d, rfl, hlt, c0, hL⟩ := hm i li
  obtain ⟨D, q, rfl, -, hb2⟩ := h2
  obtain ⟨b2, n2, B2, l2, d2, rfl, hlt2, y0, y1, hn2⟩ := hb2 i li
  have K := Lib.hid (Keep.begin1 w (Obj.num false (.slice none 0 0)))
  have HN := Lib.hid hn; have HA := Lib.hid ha; have HI := Lib.hid hi; have HB := Lib.hid hb
  have HL := Lib.hid hL; have H2 := Lib.hid hn2
  have HC := Lib.hid (And.intro c0 (And.intro y0 y1))
  clear hn ha hi hb hm hb2 hL c0 y0 y1 hn2
  go_enter Tryz.func110, Tryz.ntmps110
  go_upto_region 1 with fail
  (refine out_keep K.out ?_; clear K; intro W K; replace K := Lib.hid K)
  have cn := kept_cell K.out HN.out.1 HN.out.2
  have ci := kept_cell K.out HI.out.1 HI.out.2
  by_cases hj : j < n
  · have ca := kept_cell K.out HA.out.1 HA.out.2
    have cr := kept_cell K.out hlt HC.out.1
    obtain ⟨b1, n1, B1, l1, d1, rfl, hlt1, x0, x1, hn1⟩ := HL.out.at j hj
    have xx0 := kept_cell K.out hlt1 x0
    have xx1 := kept_cell K.out hlt1 x1
    have H1 := Lib.hid hn1
    clear x0 x1 hn1
    obtain ⟨f1, c10, c11⟩ := K.out.nm (.head _)
    go_wp2_with fail
    refine ret_nm Tryz.results110 rfl ((K.out.putn_0 n1 (.slice B1 l1 d1)).nb (.head _)) ?_
    exact ⟨n1, B1, l1, d1, rfl, ((H1.out.below K.out.B).put (K.out.nm (.head _)).2.1 _ _).val (by unfold aug; rw [if_pos hj]), (K.out.putn_0 n1 (.slice B1 l1 d1)).B⟩
  · have cb := kept_cell K.out HB.out.1 HB.out.2
    have yy0 := kept_cell K.out hlt2 HC.out.2.1
    have yy1 := kept_cell K.out hlt2 HC.out.2.2
    obtain ⟨f1, c10, c11⟩ := K.out.nm (.head _)
    go_wp2_with fail
    refine ret_nm Tryz.results110 rfl ((K.out.putn_0 n2 (.slice B2 l2 d2)).nb (.head _)) ?_
    exact ⟨n2, B2, l2, d2, rfl, ((H2.out.below K.out.B).put (K.out.nm (.head _)).2.1 _ _).val (by unfold aug; rw [if_neg hj]), (K.out.putn_0 n2 (.slice B2 l2 d2)).B⟩

set_option maxHeartbeats 4000000 in
set_option maxRecDepth 100000 in
theorem row109_any (gn ga gb : Nat) (v t : Value) (i n N : Nat) (f : Nat → Nat → Int) (fb : Nat → Int) (w : World) (hn : Cap w gn (.int .i64 n)) (ha : Cap w ga v) (hb : Cap w gb t) (h1 : Mv w v n n N f) (h2 : Lv w t n N fb) (li : i < n) (hn11 : n ≤ 11) :
    Calls Tryz.prog 109 #[.int .i64 i, .pointer (some ⟨gn, 0, none⟩), .pointer (some ⟨ga, 0, none⟩), .pointer (some ⟨gb, 0, none⟩)] w fun e w' => ∃ u, e = .returned u ∧ Lo w' w.heap.size u (n + 1) N (aug n f fb i) ∧ Below w.heap.size w w' := by
  have K := Lib.hid (Keep.begin1 w (.cells #[.int .i64 i] 3))
  have HN := Lib.hid hn; have HA := Lib.hid ha; have HB := Lib.hid hb; have H1 := Lib.hid h1; have H2 := Lib.hid h2
  clear hn ha hb h1 h2
  go_enter Tryz.func109, Tryz.ntmps109
  go_upto_region 1 with fail
  (refine out_keep K.out ?_; clear K; intro W K; replace K := Lib.hid K)
  have cn := kept_cell K.out HN.out.1 HN.out.2
  have HI : Hid (Cap W w.heap.size (.int .i64 i)) := Lib.hid ⟨K.out.lt (.head _), K.out.cell (.head _) rfl⟩
  go_wp2_with fail
  rw [show (n : Int) + 1 = ((n + 1 : Nat) : Int) by omega]
  refine (list110_any _ _ _ _ (n + 1) N (aug n f fb i) W (fun k hk w' hb => entry110_any gn ga w.heap.size gb v t i k n N f fb w' ((HN.out.below K.out.B).below hb) ((HA.out.below K.out.B).below hb) (HI.out.below hb) ((HB.out.below K.out.B).below hb) ((H1.out.below K.out.B).below hb) ((H2.out.below K.out.B).below hb) li hk) (by omega)).mono ?_
  rintro e w2 ⟨u, rfl, hL, hb⟩
  have KB := K.out.B.size
  replace K := Lib.hid (Keep.stays _ _ K.out hb)
  have HL := Lib.hid hL
  obtain ⟨g, L, rfl, hg, -⟩ := hL
  clear hb cn HI
  go_wp2_with fail
  go_ret
  obtain ⟨g', L', e', hg', hh⟩ := HL.out
  exact ⟨_, rfl, ⟨g', L', e', Nat.le_trans KB hg', hh⟩, K.out.B⟩
end Go.Proofs.YtmidifgnpjlgcaaGreat
/- The state of swept: rows of one's own. -/
set_option linter.unusedVariables false
set_option linter.unusedSimpArgs false
namespace Go.Proofs.YtmidifgnpjlgcaaGreat
open Go.RowKit

/-- A row of one's own, by its block. -/
def Rowg (w : World) (base g m N : Nat) (f : Nat → Int) : Prop := ∃ L, base ≤ g ∧ w.heap[g]? = some (Obj.lst L) ∧ L.length = m ∧ Els w L N f
theorem Rowg.below {w w' : World} {base g m N : Nat} {f : Nat → Int} (h : Rowg w base g m N f) (hb : Below w.heap.size w w') : Rowg w' base g m N f := by
  obtain ⟨L, h1, h2, h3, h4⟩ := h
  exact ⟨L, h1, by rw [hb.block g (Array.getElem?_eq_some_iff.1 h2).1]; exact h2, h3, h4.below hb⟩
theorem Rowg.turn {w w' : World} {base g m N : Nat} {f : Nat → Int} {o : Option Nat} {e : TypeId} (h : Rowg w base g m N f) (hT : Turn o w w') (ho : Tagged w o e) (he : e ≠ 30) (hc : ∀ k, o = some k → ∀ z, w.cell? ⟨k, 0, none⟩ ≠ some (.int .u32 z)) : Rowg w' base g m N f := by
  obtain ⟨L, h1, h2, h3, h4⟩ := h
  refine ⟨L, h1, ?_, h3, h4.turn (fun _ _ _ _ hN => hN.turn hT hc)⟩
  rw [hT.2 g (Array.getElem?_eq_some_iff.1 h2).1 (fun eo => by
    obtain ⟨cs, hcs⟩ := ho g eo
    rw [h2] at hcs
    injection hcs with hcs
    injection hcs with _ hcs
    exact he hcs.symm)]
  exact h2
def rsl (m g : Nat) : Value := .slice (some ⟨g, 0, none⟩) m m
theorem set_fill (gs : List Nat) (m g n : Nat) (h : gs.length < n) : (gs.map (rsl m) ++ List.replicate (n - gs.length) (Value.slice none 0 0)).toArray.setIfInBounds gs.length (rsl m g) = ((gs ++ [g]).map (rsl m) ++ List.replicate (n - (gs ++ [g]).length) (Value.slice none 0 0)).toArray := by
  obtain ⟨k, hk⟩ : ∃ k, n - gs.length = k + 1 := ⟨n - gs.length - 1, by omega⟩
  have hk2 : n - (gs ++ [g]).length = k := by rw [List.length_append]; simp; omega
  rw [List.setIfInBounds_toArray, List.set_append, if_neg (by simp), hk, hk2, List.replicate_succ]
  simp
theorem Keep.fill32 {w0 w : World} {l : List (Nat × Obj)} {b m k : Nat} {gs : List Nat} (K : Keep w0 l w) (h : (b, Obj.cells (gs.map (rsl m) ++ List.replicate k (Value.slice none 0 0)).toArray 27) ∈ l) : ∀ q, some b = some q → ∀ z, w.cell? ⟨q, 0, none⟩ ≠ some (.int .u32 z) := by
  intro q hq z
  injection hq with hq
  subst hq
  rw [cellOf (K.gb h), List.getElem?_toArray]
  cases gs with
  | nil => cases k <;> simp [List.replicate_succ]
  | cons g gs => simp [rsl]
/-- Of each of a list, by its place. -/
def AllN (vs : List Nat) (R : Nat → Nat → Prop) : Prop := ∀ j (h : j < vs.length), R j vs[j]
theorem AllN.nil (R : Nat → Nat → Prop) : AllN [] R := fun j h => absurd h (by simp)
theorem AllN.mono {vs : List Nat} {R R' : Nat → Nat → Prop} (h : AllN vs R) (hR : ∀ j x, R j x → R' j x) : AllN vs R' := fun j hj => hR j _ (h j hj)
theorem AllN.snoc {vs : List Nat} {R : Nat → Nat → Prop} (h : AllN vs R) (x : Nat) (hx : R vs.length x) : AllN (vs ++ [x]) R := fun k hk => by
  by_cases e : k < vs.length
  · have e2 : (vs ++ [x])[k]'hk = vs[k] := List.getElem_append_left e
    rw [e2]
    exact h k e
  · have e3 : k = vs.length := by simp at hk; omega
    subst e3
    have e2 : (vs ++ [x])[vs.length]'hk = x := by simp
    rw [e2]
    exact hx
/-- Rows of one's own, in a block of slices. -/
def Wm (w : World) (base bm : Nat) (gs : List Nat) (m N : Nat) (f : Nat → Nat → Int) : Prop := base ≤ bm ∧ w.heap[bm]? = some (.cells (gs.map (rsl m)).toArray 27) ∧ AllN gs (fun i g => Rowg w base g m N (f i))

set_option maxHeartbeats 4000000 in
set_option maxRecDepth 100000 in
theorem rlist109_any (k1 k2 k3 : Value) (n m N : Nat) (f : Nat → Nat → Int) (w : World) (hF : ∀ k : Nat, k < n → ∀ w', Below w.heap.size w w' → Calls Tryz.prog 109 #[.int .i64 k, k1, k2, k3] w' fun e w'' => ∃ u, e = .returned u ∧ Lo w'' w'.heap.size u m N (f k) ∧ Below w'.heap.size w' w'') (hn : n ≤ 1000000) :
    Calls Tryz.prog 106 #[.int .i64 n, .func (.func 109) #[] #[k1, k2, k3]] w fun e w' => ∃ bm gs, e = .returned (.slice (some ⟨bm, 0, none⟩) n n) ∧ gs.length = n ∧ Wm w' w.heap.size bm gs m N f ∧ gs.Nodup ∧ Below w.heap.size w w' := by
  have K := Lib.hid (Keep.begin1 w (.cells (List.replicate n (Value.slice none 0 0)).toArray 27))
  have HF := Lib.hid hF
  have hmk := mk0_sow 25 27 Tryz.underlying25 info27 n hn n n rfl (Nat.le_refl _) n rfl
  clear hF
  go_enter Tryz.func106, Tryz.ntmps106
  go_wp2_with fail
  go_loopg [11] n (fun gk iv wr => ∃ (gs : List Nat), gk + gs.length = n ∧ iv = .int .i64 (gs.length : Int) ∧ AllN gs (fun i g => Rowg wr w.heap.size g m N (f i)) ∧ (gs.Nodup ∧ ∀ g ∈ gs, g < wr.heap.size) ∧ Keep w [(w.heap.size, .cells (gs.map (rsl m) ++ List.replicate (n - gs.length) (Value.slice none 0 0)).toArray 27)] wr)
  case atStart => exact ⟨[], by simp, rfl, AllN.nil _, ⟨List.nodup_nil, fun g hg => (by cases hg)⟩, by simpa using K.out⟩
  case round =>
    clear K hmk
    obtain ⟨gs, hgi, rfl, hall, hnd, k'⟩ := hrel
    have HND := Lib.hid hnd
    have K := Lib.hid k'
    have HA := Lib.hid hall
    clear k' hall hnd
    by_cases hi : gs.length < n
    · go_upto_region 5 with fail
      go_wp2_with fail
      refine (HF.out gs.length hi _ K.out.B).mono ?_
      rintro e w2 ⟨u, rfl, ⟨g, L, rfl, hg, hh, hl, he⟩, hb⟩
      have HB := Lib.hid K.out.B.size
      have HNg : Hid ((gs ++ [g]).Nodup ∧ ∀ x ∈ gs ++ [g], x < w2.heap.size) := by
        refine Lib.hid ⟨List.nodup_append.2 ⟨HND.out.1, by simp, fun a ha b hb' => ?_⟩, fun x hx => ?_⟩
        · rw [List.mem_singleton.1 hb']; have := HND.out.2 a ha; omega
        · rcases List.mem_append.1 hx with h1 | h1
          · have := HND.out.2 x h1; have := hb.size; omega
          · rw [List.mem_singleton.1 h1]; exact (Array.getElem?_eq_some_iff.1 hh).1
      replace K := Lib.hid (Keep.stays _ _ K.out hb)
      replace HA := Lib.hid (HA.out.mono fun j x hx => hx.below hb)
      have H1 : Hid (Rowg w2 w.heap.size g m N (f gs.length)) := Lib.hid ⟨L, Nat.le_trans HB.out hg, hh, hl, he⟩
      clear hb hh hl he hg HB
      have hcell : (gs.map (rsl m) ++ List.replicate (n - gs.length) (Value.slice none 0 0)).toArray[gs.length]? = some (.slice none 0 0) := by
        rw [List.getElem?_toArray, List.getElem?_append_right (by simp), List.getElem?_replicate, if_pos (by rw [List.length_map]; omega)]
      have c0 := K.out.cell (.head _) hcell
      have f1 := fun o => K.out.warm (.head _) o
      clear hcell
      have hne32 := K.out.fill32 (.head _)
      have htag := K.out.tagg (.head _)
      go_wp2_with fail
      clear c0 f1
      go_roundg (gk - 1)
      case measure => omega
      case rel =>
        have hT := Turn.set w2 w.heap.size gs.length (rsl m g)
        refine ⟨gs ++ [g], by rw [List.length_append]; simp; omega, congrArg (Value.int .i64) (by rw [List.length_append]; simp), (HA.out.mono fun j x hx => hx.turn hT htag (by decide) hne32).snoc _ (H1.out.turn hT htag (by decide) hne32), ⟨HNg.out.1, fun x hx => by have := HNg.out.2 x hx; simpa [World.setCell] using this⟩, ?_⟩
        have k2 := Keep.set [] K.out gs.length (rsl m g)
        rw [set_fill _ _ _ _ hi] at k2
        exact k2
    · have hnn : gs.length = n := by omega
      have HK := Lib.hid (K.out.gb (.head _))
      go_wp2_with fail
      go_ret
      have e : gs.map (rsl m) ++ List.replicate (n - gs.length) (Value.slice none 0 0) = gs.map (rsl m) := by rw [hnn]; simp
      have h2 := HK.out
      rw [e] at h2
      exact ⟨_, gs, rfl, hnn, ⟨Nat.le_refl _, h2, HA.out⟩, HND.out.1, K.out.B⟩

end Go.Proofs.YtmidifgnpjlgcaaGreat
/- The state of swept. -/
set_option linter.unusedVariables false
set_option linter.unusedSimpArgs false
namespace Go.Proofs.YtmidifgnpjlgcaaGreat
open Go.RowKit

theorem Nz.tight {w : World} {n : Bool} {s : Value} {z : Int} {N M : Nat} (h : Nz w n s z N) (h1 : -pb M < z) (h2 : z < pb M) : Nz w n s z M := by
  obtain ⟨ds, h3, rfl, h4⟩ := h
  refine ⟨ds, h3, rfl, ?_⟩
  apply Classical.byContradiction
  intro hn
  have k := val_canon h3.2.1 h3.2.2.1 (by intro e; rw [e] at hn; simp at hn)
  have k2 := pb_mono (show M ≤ ds.length - 1 by omega)
  unfold zof at h1 h2
  split at h1 <;> simp_all <;> omega

/-- A row in a block, with a bound of parts for each place, and what each comes to. -/
def Rwb (w : World) (g m : Nat) (bd : Nat → Nat) (f : Nat → Int) : Prop := ∃ L : List Nm, w.heap[g]? = some (Obj.lst L) ∧ L.length = m ∧ ∀ c (h : c < L.length), Nz w L[c].n (.slice L[c].A L[c].l L[c].c) (f c) (bd c)
/-- The matrix of swept: its block, its rows' blocks (no two the same), its numbers. -/
structure Sw (w : World) (lo hi bm n m : Nat) (gs : Nat → Nat) (bd : Nat → Nat → Nat) (f : Nat → Nat → Int) : Prop where
  b1 : lo ≤ bm
  b2 : bm < hi
  b3 : hi ≤ w.heap.size
  top : ∃ cs : Array Value, w.heap[bm]? = some (.cells cs 27) ∧ cs.size = n ∧ ∀ r, r < n → cs[r]? = some (rsl m (gs r))
  inj : ∀ r s, r < n → s < n → gs r = gs s → r = s
  at1 : ∀ r, r < n → lo ≤ gs r ∧ gs r < hi
  row : ∀ r, r < n → Rwb w (gs r) m (bd r) (f r)

theorem Rwb.below {w w' : World} {g m : Nat} {bd : Nat → Nat} {f : Nat → Int} (h : Rwb w g m bd f) (hb : Below w.heap.size w w') : Rwb w' g m bd f := by
  obtain ⟨L, h1, h2, h3⟩ := h
  exact ⟨L, by rw [hb.block g (Array.getElem?_eq_some_iff.1 h1).1]; exact h1, h2, fun c hc => (h3 c hc).below hb⟩
theorem Rwb.more {w : World} {g m : Nat} {bd bd' : Nat → Nat} {f f' : Nat → Int} (h : Rwb w g m bd f) (hb : ∀ c, c < m → bd c ≤ bd' c) (hf : ∀ c, c < m → f c = f' c) : Rwb w g m bd' f' := by
  obtain ⟨L, h1, h2, h3⟩ := h
  exact ⟨L, h1, h2, fun c hc => ((h3 c hc).more (hb c (by omega))).val (hf c (by omega))⟩
theorem Rwb.turn {w w' : World} {g m : Nat} {bd : Nat → Nat} {f : Nat → Int} {o : Nat} (h : Rwb w g m bd f) (hT : Turn (some o) w w') (ho : o ≠ g) (hc : ∀ k, some o = some k → ∀ z, w.cell? ⟨k, 0, none⟩ ≠ some (.int .u32 z)) : Rwb w' g m bd f := by
  obtain ⟨L, h1, h2, h3⟩ := h
  refine ⟨L, ?_, h2, fun c hcm => (h3 c hcm).turn hT hc⟩
  rw [hT.2 g (Array.getElem?_eq_some_iff.1 h1).1 (fun e => ho (by injection e))]; exact h1
theorem Rwb.bool0 {w : World} {g m : Nat} {bd : Nat → Nat} {f : Nat → Int} (h : Rwb w g m bd f) (hm : 0 < m) : ∃ q, w.cell? ⟨g, 0, none⟩ = some (.bool q) := by
  obtain ⟨L, h1, h2, h3⟩ := h
  exact ⟨_, by rw [cellOf h1, List.getElem?_toArray]; exact flat_get0 L 0 (by omega)⟩
theorem Rwb.at {w : World} {g m c : Nat} {bd : Nat → Nat} {f : Nat → Int} (h : Rwb w g m bd f) (hc : c < m) : ∃ q A l k, g < w.heap.size ∧ w.cell? ⟨g, c * 2, none⟩ = some (.bool q) ∧ w.cell? ⟨g, c * 2 + 1, none⟩ = some (.slice A l k) ∧ Nz w q (.slice A l k) (f c) (bd c) := by
  obtain ⟨L, h1, h2, h3⟩ := h
  have hcl : c < L.length := by omega
  exact ⟨L[c].n, L[c].A, L[c].l, L[c].c, (Array.getElem?_eq_some_iff.1 h1).1, by rw [cellOf h1, List.getElem?_toArray]; exact flat_get0 L c (by omega), by rw [cellOf h1, List.getElem?_toArray]; exact flat_get1 L c (by omega), h3 c (by omega)⟩
theorem Rwb.put {w : World} {g m c : Nat} {bd : Nat → Nat} {f : Nat → Int} (h : Rwb w g m bd f) (hc : c < m) (x : Nm) {z : Int} {B : Nat} (hx : Nz w x.n (.slice x.A x.l x.c) z B) : Rwb ((w.setCell ⟨g, c * 2, none⟩ (.bool x.n)).setCell ⟨g, c * 2 + 1, none⟩ (.slice x.A x.l x.c)) g m (fun c' => if c' = c then B else bd c') (fun c' => if c' = c then z else f c') := by
  obtain ⟨q, hq⟩ := h.bool0 (by omega)
  obtain ⟨L, h1, h2, h3⟩ := h
  refine ⟨L.set c x, ?_, by rw [List.length_set]; exact h2, fun c' hc' => ?_⟩
  · have e1 := setCell_block w g (c * 2) (.bool x.n) _ _ h1
    have e2 := setCell_block _ g (c * 2 + 1) (.slice x.A x.l x.c) _ _ e1
    rw [e2, List.setIfInBounds_toArray, List.setIfInBounds_toArray, flat_set]
    rfl
  · have hc2 := hc'
    rw [List.length_set] at hc2
    by_cases e : c' = c
    · subst e
      have e3 : (L.set c' x)[c']'hc' = x := by simp
      rw [e3]
      show Nz _ _ _ (if c' = c' then z else f c') (if c' = c' then B else bd c')
      rw [if_pos rfl, if_pos rfl]
      exact hx.putAt hq _ _
    · have e3 : (L.set c x)[c']'hc' = L[c'] := List.getElem_set_ne (fun e' => e e'.symm) _
      rw [e3]
      show Nz _ _ _ (if c' = c then z else f c') (if c' = c then B else bd c')
      rw [if_neg e, if_neg e]
      exact (h3 c' hc2).putAt hq _ _

variable {w w' : World} {lo hi bm n m : Nat} {gs : Nat → Nat} {bd : Nat → Nat → Nat} {f : Nat → Nat → Int}
theorem Sw.below (h : Sw w lo hi bm n m gs bd f) (hb : Below w.heap.size w w') : Sw w' lo hi bm n m gs bd f := by
  refine ⟨h.b1, h.b2, Nat.le_trans h.b3 hb.size, ?_, h.inj, h.at1, fun r hr => (h.row r hr).below hb⟩
  obtain ⟨cs, h1, h2⟩ := h.top
  exact ⟨cs, by rw [hb.block bm (Array.getElem?_eq_some_iff.1 h1).1]; exact h1, h2⟩
theorem Sw.more {bd' : Nat → Nat → Nat} {f' : Nat → Nat → Int} (h : Sw w lo hi bm n m gs bd f) (hb : ∀ r c, r < n → c < m → bd r c ≤ bd' r c) (hf : ∀ r c, r < n → c < m → f r c = f' r c) : Sw w lo hi bm n m gs bd' f' :=
  ⟨h.b1, h.b2, h.b3, h.top, h.inj, h.at1, fun r hr => (h.row r hr).more (fun c hc => hb r c hr hc) (fun c hc => hf r c hr hc)⟩
theorem Sw.cell (h : Sw w lo hi bm n m gs bd f) {r : Nat} (hr : r < n) : bm < w.heap.size ∧ w.cell? ⟨bm, r, none⟩ = some (.slice (some ⟨gs r, 0, none⟩) m m) := by
  obtain ⟨cs, h1, h2, h3⟩ := h.top
  exact ⟨(Array.getElem?_eq_some_iff.1 h1).1, (cellOf h1).trans (h3 r hr)⟩
/-- A box that is not of the matrix is written. -/
theorem Sw.turn {o : Nat} (h : Sw w lo hi bm n m gs bd f) (hT : Turn (some o) w w') (ho : o < lo ∨ hi ≤ o) (hc : ∀ k, some o = some k → ∀ z, w.cell? ⟨k, 0, none⟩ ≠ some (.int .u32 z)) : Sw w' lo hi bm n m gs bd f := by
  refine ⟨h.b1, h.b2, Nat.le_trans h.b3 hT.1, ?_, h.inj, h.at1, fun r hr => (h.row r hr).turn hT (by have := h.at1 r hr; omega) hc⟩
  obtain ⟨cs, h1, h2, h3⟩ := h.top
  have := h.b1; have := h.b2
  exact ⟨cs, by rw [hT.2 bm (Array.getElem?_eq_some_iff.1 h1).1 (fun e => by injection e; omega)]; exact h1, h2, h3⟩
/-- A number of the matrix is written. -/
theorem Sw.put (h : Sw w lo hi bm n m gs bd f) {r c : Nat} (hr : r < n) (hc : c < m) (x : Nm) {z : Int} {B : Nat} (hx : Nz w x.n (.slice x.A x.l x.c) z B) (hbm : ∀ r, r < n → gs r ≠ bm) :
    Sw ((w.setCell ⟨gs r, c * 2, none⟩ (.bool x.n)).setCell ⟨gs r, c * 2 + 1, none⟩ (.slice x.A x.l x.c)) lo hi bm n m gs (fun r' c' => if r' = r ∧ c' = c then B else bd r' c') (fun r' c' => if r' = r ∧ c' = c then z else f r' c') := by
  have hT := Turn.put w (gs r) (c * 2) (c * 2 + 1) (.bool x.n) (.slice x.A x.l x.c)
  obtain ⟨q, hq⟩ := (h.row r hr).bool0 (by omega)
  have hne32 : ∀ k, some (gs r) = some k → ∀ z, w.cell? ⟨k, 0, none⟩ ≠ some (.int .u32 z) := by
    intro k hk z
    injection hk with hk
    rw [← hk, hq]
    intro e; cases e
  refine ⟨h.b1, h.b2, Nat.le_trans h.b3 hT.1, ?_, h.inj, h.at1, fun r' hr' => ?_⟩
  · obtain ⟨cs, h1, h2, h3⟩ := h.top
    exact ⟨cs, by rw [hT.2 bm (Array.getElem?_eq_some_iff.1 h1).1 (fun e => hbm r hr (by injection e))]; exact h1, h2, h3⟩
  · by_cases e : r' = r
    · subst e
      exact ((h.row r' hr').put hc x hx).more (fun c' _ => by by_cases e : c' = c <;> simp [e]) (fun c' _ => by by_cases e : c' = c <;> simp [e])
    · exact ((h.row r' hr').turn hT (fun e2 => e (h.inj _ _ hr' hr e2.symm)) hne32).more (fun c' _ => by simp [e]) (fun c' _ => by simp [e])
/-- Rows change places. -/
def swapN {α : Type} (p k : Nat) (g : Nat → α) (r : Nat) : α := if r = p then g k else if r = k then g p else g r
theorem Sw.swap (h : Sw w lo hi bm n m gs bd f) {p k : Nat} (hp : p < n) (hk : k < n) (hpk : p ≠ k) (hbm : ∀ r, r < n → gs r ≠ bm) :
    Sw ((w.setCell ⟨bm, p, none⟩ (rsl m (gs k))).setCell ⟨bm, k, none⟩ (rsl m (gs p))) lo hi bm n m (swapN p k gs) (swapN p k bd) (swapN p k f) := by
  have hT := Turn.put w bm p k (rsl m (gs k)) (rsl m (gs p))
  obtain ⟨cs, h1, h2, h3⟩ := h.top
  have hne32 : ∀ k, some bm = some k → ∀ z, w.cell? ⟨k, 0, none⟩ ≠ some (.int .u32 z) := by
    intro k hk z
    injection hk with hk
    rw [← hk, cellOf h1, h3 0 (by omega)]
    intro e; cases e
  refine ⟨h.b1, h.b2, Nat.le_trans h.b3 hT.1, ?_, fun r s hr hs e => ?_, fun r hr => ?_, fun r hr => ?_⟩
  · refine ⟨(cs.setIfInBounds p (rsl m (gs k))).setIfInBounds k (rsl m (gs p)), ?_, by simp [h2], fun r hr => ?_⟩
    · have e1 := setCell_block w bm p (rsl m (gs k)) _ _ h1
      exact setCell_block _ bm k (rsl m (gs p)) _ _ e1
    · unfold swapN
      by_cases e1 : r = p
      · subst e1
        rw [if_pos rfl, Array.getElem?_setIfInBounds_ne (fun e => hpk e.symm), Array.getElem?_setIfInBounds_self_of_lt (by omega)]
      · rw [if_neg e1]
        by_cases e2 : r = k
        · subst e2
          rw [if_pos rfl, Array.getElem?_setIfInBounds_self_of_lt (by simp; omega)]
        · rw [if_neg e2, Array.getElem?_setIfInBounds_ne (fun e => e2 e.symm), Array.getElem?_setIfInBounds_ne (fun e => e1 e.symm)]
          exact h3 r hr
  · unfold swapN at e
    have q1 := h.inj r s hr hs
    have q2 := h.inj k s hk hs
    have q3 := h.inj p s hp hs
    have q4 := h.inj r k hr hk
    have q5 := h.inj r p hr hp
    have q6 := h.inj k p hk hp
    have q7 := h.inj p k hp hk
    split at e <;> split at e <;> (try split at e) <;> (try split at e) <;> first | omega | (have := q1 e; omega) | (have := q2 e; omega) | (have := q3 e; omega) | (have := q4 e; omega) | (have := q5 e; omega) | (have := q6 e; omega) | (have := q7 e; omega)
  · unfold swapN
    split
    · exact h.at1 k hk
    · split
      · exact h.at1 p hp
      · exact h.at1 r hr
  · have hrow : ∀ s, s < n → Rwb _ (gs s) m (bd s) (f s) := fun s hs => (h.row s hs).turn hT (fun e => hbm s hs e.symm) hne32
    unfold swapN
    split
    · exact hrow k hk
    · split
      · exact hrow p hp
      · exact hrow r hr
theorem Sw.nbm (h : Sw w lo hi bm n m gs bd f) : ∀ r, r < n → gs r ≠ bm := fun r hr e => by
  obtain ⟨cs, h1, -⟩ := h.top
  obtain ⟨L, h2, -⟩ := h.row r hr
  rw [e, h1] at h2
  injection h2 with h2
  injection h2 with _ h2
  exact absurd h2 (by decide)
end Go.Proofs.YtmidifgnpjlgcaaGreat
