/- The texts Ua, Ub, Uc of the walk of the law and of all that it calls, in one file. No condition. -/
import Derived.Test.YtmidifgnpjlgcaaGreatY17
/- A growing list of one's own among other blocks that are held. -/
set_option linter.unusedVariables false
set_option linter.unusedSimpArgs false
namespace Go.Proofs.YtmidifgnpjlgcaaGreat
open Go.RowKit

variable {w0 w w2 : World} {l l2 A : List (Nat × Obj)}
theorem Keep.perm (K : Keep w0 l w) (h : l.Perm l2) : Keep w0 l2 w := ⟨fun p hp => K.box p (h.mem_iff.2 hp), fun p hp => K.own p (h.mem_iff.2 hp), (h.map Prod.fst).nodup_iff.1 K.one, K.B⟩
theorem Keep.join (K : Keep w0 l w) (K2 : Keep w l2 w2) : Keep w0 (l2 ++ l) w2 := by
  have K' := Keep.stays _ _ K K2.B
  refine ⟨fun p hp => ?_, fun p hp => ?_, ?_, K'.B⟩
  · rcases List.mem_append.1 hp with h | h
    · exact K2.box p h
    · exact K'.box p h
  · rcases List.mem_append.1 hp with h | h
    · exact Nat.le_trans K.B.size (K2.own p h)
    · exact K'.own p h
  · rw [List.map_append, List.nodup_append]
    refine ⟨K2.one, K.one, fun a ha b hb => ?_⟩
    obtain ⟨p, hp, rfl⟩ := List.mem_map.1 ha
    obtain ⟨q, hq, rfl⟩ := List.mem_map.1 hb
    have h1 := K2.own p hp
    have h2 := K.lt hq
    omega

theorem Keep.front (K : Keep w0 (A ++ l) w) : Keep w0 A w :=
  ⟨fun p hp => K.box p (List.mem_append_left _ hp), fun p hp => K.own p (List.mem_append_left _ hp), by have := K.one; rw [List.map_append, List.nodup_append] at this; exact this.1, K.B⟩
theorem exec_append {P : Program} {o : Oper} {a : Act} {v' : Value} {w w' : World} (s x : Operand) (t : TypeId) (ho : o.op = .call { callee := .builtin .append, args := #[s, x], argTypes := #[t, t] }) (h : (Builtin.append_ #[t, t] o.type #[a.eval s, a.eval x]).run P w = .ok v' w') : (execOp a.eval o).run P w = .ok (.value v') w' := by
  unfold execOp
  simp only [ho, resolve, invoke, builtin, Sem.run_bind, Sem.run_pure, Result.andThen_ok, List.map_toArray, List.map_cons, List.map_nil, h]
/-- A growing list: so many of its elements, what its cells hold; front blocks, other blocks. -/
def GL (w0 : World) (A : List (Nat × Obj)) (e : TypeId) (size : Nat) (v : Value) (n : Nat) (xs : List Value) (l : List (Nat × Obj)) (w : World) : Prop :=
  xs.length = n * size ∧ ((n = 0 ∧ v = .slice none 0 0 ∧ Keep w0 (A ++ l) w) ∨
    ∃ h cap rest, v = .slice (some ⟨h, 0, none⟩) n cap ∧ Keep w0 (A ++ (h, .cells (xs ++ rest).toArray e) :: l) w ∧ n ≤ cap ∧ cap ≤ maxLen ∧ (xs ++ rest).length = cap * size)
theorem GL.nil {e : TypeId} {size : Nat} (K : Keep w0 (A ++ l) w) : GL w0 A e size (.slice none 0 0) 0 [] l w := ⟨by simp, .inl ⟨rfl, rfl, K⟩⟩
/-- The blocks behind the front are whatever they are. -/
theorem GL.out {e : TypeId} {size n : Nat} {v : Value} {xs : List Value} (G : GL w0 A e size v n xs l w) : ∃ R, Keep w0 (A ++ R) w ∧ ∀ A' w', Keep w0 (A' ++ R) w' → GL w0 A' e size v n xs l w' := by
  obtain ⟨hl, ⟨h0, hv, K⟩ | ⟨h, cap, rest, hv, K, h1, h2, h3⟩⟩ := G
  · exact ⟨l, K, fun A' w' K' => ⟨hl, .inl ⟨h0, hv, K'⟩⟩⟩
  · exact ⟨_, K, fun A' w' K' => ⟨hl, .inr ⟨h, cap, rest, hv, K', h1, h2, h3⟩⟩⟩
theorem GL.sink {e : TypeId} {size n : Nat} {v : Value} {xs : List Value} {x : Nat × Obj} (G : GL w0 (x :: A) e size v n xs l w) : GL w0 A e size v n xs (x :: l) w := by
  obtain ⟨hl, ⟨h0, hv, K⟩ | ⟨h, cap, rest, hv, K, h1, h2, h3⟩⟩ := G
  · exact ⟨hl, .inl ⟨h0, hv, K.perm List.perm_middle.symm⟩⟩
  · refine ⟨hl, .inr ⟨h, cap, rest, hv, K.perm ?_, h1, h2, h3⟩⟩
    have e1 : (x :: A ++ (h, Obj.cells (xs ++ rest).toArray e) :: l).Perm (x :: (A ++ (h, Obj.cells (xs ++ rest).toArray e) :: l)) := List.Perm.refl _
    refine e1.trans ?_
    have e2 : (A ++ (h, Obj.cells (xs ++ rest).toArray e) :: x :: l) = ((A ++ [(h, Obj.cells (xs ++ rest).toArray e)]) ++ x :: l) := by simp
    rw [e2]
    refine List.Perm.trans ?_ List.perm_middle.symm
    simp
theorem GL.drop {e : TypeId} {size n : Nat} {v : Value} {xs : List Value} {x : Nat × Obj} (G : GL w0 (x :: A) e size v n xs l w) : GL w0 A e size v n xs l w := by
  obtain ⟨hl, ⟨h0, hv, K⟩ | ⟨h, cap, rest, hv, K, h1, h2, h3⟩⟩ := G
  · exact ⟨hl, .inl ⟨h0, hv, K.rest⟩⟩
  · exact ⟨hl, .inr ⟨h, cap, rest, hv, K.rest, h1, h2, h3⟩⟩
theorem GL.perm {e : TypeId} {size n : Nat} {v : Value} {xs : List Value} (G : GL w0 A e size v n xs l w) (hp : l.Perm l2) : GL w0 A e size v n xs l2 w := by
  obtain ⟨hl, ⟨h0, hv, K⟩ | ⟨h, cap, rest, hv, K, h1, h2, h3⟩⟩ := G
  · exact ⟨hl, .inl ⟨h0, hv, K.perm (hp.append_left A)⟩⟩
  · exact ⟨hl, .inr ⟨h, cap, rest, hv, K.perm ((hp.cons _).append_left A), h1, h2, h3⟩⟩
theorem GL.stay {e : TypeId} {size n : Nat} {v : Value} {xs : List Value} (G : GL w0 A e size v n xs l w) (hb : Below w.heap.size w w2) : GL w0 A e size v n xs l w2 := by
  obtain ⟨R, K, h⟩ := G.out
  exact h A w2 (Keep.stays _ _ K hb)
theorem GL.sl {e : TypeId} {size n : Nat} {v : Value} {xs : List Value} (G : GL w0 A e size v n xs l w) : ∃ B c, v = .slice B n c := by
  obtain ⟨hl, ⟨h0, hv, K⟩ | ⟨h, cap, rest, hv, K, h1, h2, h3⟩⟩ := G
  · exact ⟨none, 0, by rw [h0]; exact hv⟩
  · exact ⟨_, _, hv⟩
/-- What the list's cells hold. -/
theorem GL.cell {e : TypeId} {size n : Nat} {B : Option Addr} {n2 c : Nat} {xs : List Value} (G : GL w0 A e size (.slice B n2 c) n xs l w) {j : Nat} (hj : j < xs.length) : ∃ h, B = some ⟨h, 0, none⟩ ∧ w0.heap.size ≤ h ∧ h < w.heap.size ∧ w.cell? ⟨h, j, none⟩ = some (xs.getD j undef) := by
  obtain ⟨hl, ⟨h0, hv, K⟩ | ⟨h, cap, rest, hv, K, h1, h2, h3⟩⟩ := G
  · rw [hl, h0] at hj
    simp at hj
  · cases hv
    have m : (h, Obj.cells (xs ++ rest).toArray e) ∈ A ++ (h, .cells (xs ++ rest).toArray e) :: l := by simp
    refine ⟨h, rfl, K.own _ m, K.lt m, K.cell m ?_⟩
    rw [List.getElem?_toArray, List.getElem?_append_left hj, List.getD_eq_getElem?_getD, List.getElem?_eq_getElem hj]
    rfl

theorem GL.app {e t ty : TypeId} {i : TypeInfo} {z : Value} {size bytes n m : Nat} {v : Value} {xs news : List Value} (G : GL w0 A e size v n xs l w) (ht : Tryz.prog.underlying t = some (.slice e)) (hi : Tryz.prog.info? e = some i) (hz : i.zero = some z) (hsize : i.size = size) (hby : i.bytes = bytes) (hzs : z.cells.size = size)
    (b : Addr) (hl : news.length = m * size) (hnews : ∀ j u, news[j]? = some u → w.cell? (b.add j) = some u) (h1 : ∀ u ∈ news, u.oneCell' = true) (hm : 0 < m) (h63 : n + m ≤ maxLen) (hbytes : (n + m) * bytes ≤ 140737488355328) (c : Nat) :
    ∃ v' w', (Builtin.append_ #[t, t] ty #[v, .slice (some b) m c]).run Tryz.prog w = .ok v' w' ∧ GL w0 A e size v' (n + m) (xs ++ news) l w' := by
  subst hsize
  subst hby
  have hsmall : n + m ≤ 9223372036854775807 := by simp only [maxLen] at h63; omega
  have hx := G.1
  have hlen : (xs ++ news).length = (n + m) * i.size := by rw [List.length_append, hx, hl, Nat.add_mul]
  have fresh : ∀ (old : Nat) {l3 : List (Nat × Obj)}, old < n + m → Keep w0 (A ++ l3) w → (∀ o, ((w.heap.size, o) :: (A ++ l3)).Perm (A ++ (w.heap.size, o) :: l3)) ∧
      Keep w0 (A ++ (w.heap.size, .cells ((xs ++ news) ++ (Builtin.zeroCells z.cells (grownCap w (n + m) old e - (n + m))).toList).toArray e) :: l3) (w.drew.alloc (.cells (xs.toArray ++ news.toArray ++ Builtin.zeroCells z.cells (grownCap w (n + m) old e - (n + m))) e)) := by
    intro old l3 ho K
    have ep : ∀ o, ((w.heap.size, o) :: (A ++ l3)).Perm (A ++ (w.heap.size, o) :: l3) := fun o => List.perm_middle.symm
    refine ⟨ep, ?_⟩
    have K2 := (K.drew.alloc (.cells (xs.toArray ++ news.toArray ++ Builtin.zeroCells z.cells (grownCap w (n + m) old e - (n + m))) e)).perm (ep _)
    have eo : xs.toArray ++ news.toArray ++ Builtin.zeroCells z.cells (grownCap w (n + m) old e - (n + m)) = ((xs ++ news) ++ (Builtin.zeroCells z.cells (grownCap w (n + m) old e - (n + m))).toList).toArray := by
      apply Array.ext'
      simp
    rw [eo] at K2 ⊢
    exact K2
  have cap : ∀ old, old < n + m → n + m ≤ grownCap w (n + m) old e ∧ grownCap w (n + m) old e ≤ maxLen ∧ ((xs ++ news) ++ (Builtin.zeroCells z.cells (grownCap w (n + m) old e - (n + m))).toList).length = grownCap w (n + m) old e * i.size := by
    intro old ho
    have hge := grownCap_ge w (n + m) old e
    refine ⟨hge, grownCap_le_maxLen w (n + m) old e h63, ?_⟩
    rw [List.length_append, hlen, Array.length_toList, size_zeroCells, hzs, ← Nat.add_mul, Nat.add_sub_cancel' hge]
  obtain ⟨-, ⟨rfl, rfl, K⟩ | ⟨h, cap0, rest, rfl, K, hc1, hc2, hc3⟩⟩ := G
  · have hx0 : xs = [] := List.eq_nil_of_length_eq_zero (by simpa using hx)
    subst hx0
    have hr := run_append_nil (P := Tryz.prog) (w := w) t ty e i z ht hi hz b m c news hl hnews (by omega) (by omega) (by have hb := hbytes; simp only [Nat.zero_add] at hb; omega)
    have f := (fresh 0 (by omega) K).2
    have cc := cap 0 (by omega)
    simp only [Nat.zero_add, List.nil_append, Array.empty_append] at f cc hlen hr ⊢
    exact ⟨_, _, hr, hlen, .inr ⟨_, _, _, rfl, f, cc.1, cc.2.1, cc.2.2⟩⟩
  · by_cases hroom : n + m ≤ cap0
    · have hg := K.gb (b := h) (vs := (xs ++ rest).toArray) (t := e) (by simp)
      have hfit : n * i.size + news.length ≤ (xs ++ rest).toArray.size := by
        rw [List.size_toArray, hc3, hl, ← Nat.add_mul]
        exact Nat.mul_le_mul_right _ hroom
      have hr := run_append_room (P := Tryz.prog) w t ty e i ht hi h n cap0 _ hg b m c news hl hnews h1 hroom hfit
      have et : ((xs ++ rest).toArray.toList.take (n * i.size) ++ news ++ (xs ++ rest).toArray.toList.drop (n * i.size + news.length)) = (xs ++ news) ++ rest.drop news.length := by
        show (xs ++ rest).take (n * i.size) ++ news ++ (xs ++ rest).drop (n * i.size + news.length) = _
        rw [← hx, List.take_left, ← List.drop_drop, show (xs ++ rest).drop xs.length = rest from List.drop_left]
      rw [et] at hr
      have hs : ((xs ++ news) ++ rest.drop news.length).length = (xs ++ rest).length := by
        rw [List.size_toArray] at hfit
        rw [List.length_append] at hfit
        rw [List.length_append, List.length_append, List.length_append, List.length_drop]
        omega
      refine ⟨_, _, hr, hlen, .inr ⟨h, cap0, rest.drop news.length, rfl, Keep.setRow A K _ (by rw [List.size_toArray, List.size_toArray, hs]), hroom, hc2, by rw [hs, hc3]⟩⟩
    · have holds : ∀ j u, xs[j]? = some u → w.cell? ((⟨h, 0, none⟩ : Addr).add j) = some u := by
        intro j u hu
        have ea : ((⟨h, 0, none⟩ : Addr).add j) = ⟨h, j, none⟩ := by unfold Addr.add; split <;> simp_all
        rw [ea]
        refine K.cell (b := h) (vs := (xs ++ rest).toArray) (t := e) (by simp) ?_
        rw [List.getElem?_toArray, List.getElem?_append_left (List.getElem?_eq_some_iff.1 hu).1]
        exact hu
      have hr := run_append_grow (P := Tryz.prog) (w := w) t ty e i z ht hi hz ⟨h, 0, none⟩ n cap0 xs hx holds b m c news hl hnews (by omega) (by omega) (growslice_fits (by omega) hbytes)
      have f := (fresh cap0 (by omega) K).2
      have cc := cap cap0 (by omega)
      refine ⟨_, _, hr, hlen, .inr ⟨_, _, _, rfl, ?_, cc.1, cc.2.1, cc.2.2⟩⟩
      have p1 : ∀ o o2 : Obj, (A ++ (w.heap.size, o) :: (h, o2) :: l).Perm ((h, o2) :: (A ++ (w.heap.size, o) :: l)) := by
        intro o o2
        have e2 : (A ++ (w.heap.size, o) :: (h, o2) :: l) = ((A ++ [(w.heap.size, o)]) ++ (h, o2) :: l) := by simp
        rw [e2]
        refine List.perm_middle.trans ?_
        simp
      exact (f.perm (p1 _ _)).rest
end Go.Proofs.YtmidifgnpjlgcaaGreat
/- The maker of rows: what it holds; the walk of row. -/
set_option linter.unusedVariables false
set_option linter.unusedSimpArgs false
namespace Go.Proofs.YtmidifgnpjlgcaaGreat
open Go.RowKit

/-- The maker's cells. -/
def mkc (n : Nat) (v : Value) : Array Value := #[.int .i64 n, .int .i64 100, .int .i64 50, .int .i64 5, .int .i64 5, .int .i64 2097152, .int .i64 33554432, .int .i64 32768, .int .i64 32768, .int .i64 32768, .int .i64 32768, .int .i64 4, .int .i64 1, .int .i64 2, .int .i64 8, .int .i64 12, .int .i64 6, .int .i64 0, v]
def w4 (s : Nat) : Int := [4, 1, 2, 8].getD s 0
/-- Pairs of places and times, put into a list. -/
def putP (c : List Int) : List Int → List Int
  | p :: a :: r => putP (c.set p.toNat a) r
  | _ => c
def rowVs (n : Nat) : List Nat → List Rw → List Value
  | g :: gs, r :: rs => .slice (some ⟨g, 0, none⟩) n n :: .int .i64 r.z :: .int .i64 r.knee :: .int .i64 r.weight :: rowVs n gs rs
  | _, _ => []
theorem rowVs_app (n g : Nat) (r : Rw) : ∀ (gs : List Nat) (rs : List Rw), gs.length = rs.length → rowVs n (gs ++ [g]) (rs ++ [r]) = rowVs n gs rs ++ [.slice (some ⟨g, 0, none⟩) n n, .int .i64 r.z, .int .i64 r.knee, .int .i64 r.weight]
  | [], [], _ => rfl
  | a :: gs, b :: rs, h => by
    show Value.slice (some ⟨a, 0, none⟩) n n :: .int .i64 b.z :: .int .i64 b.knee :: .int .i64 b.weight :: rowVs n (gs ++ [g]) (rs ++ [r]) = _
    rw [rowVs_app n g r gs rs (by simpa using h)]
    rfl
theorem rowVs_at (n : Nat) : ∀ (gs : List Nat) (rs : List Rw) (j : Nat), gs.length = rs.length → j < rs.length → (rowVs n gs rs).getD (j * 4) undef = .slice (some ⟨gs.getD j 0, 0, none⟩) n n ∧ (rowVs n gs rs).getD (j * 4 + 1) undef = .int .i64 (rs.getD j Rw.zero).z ∧ (rowVs n gs rs).getD (j * 4 + 2) undef = .int .i64 (rs.getD j Rw.zero).knee ∧ (rowVs n gs rs).getD (j * 4 + 3) undef = .int .i64 (rs.getD j Rw.zero).weight
  | [], rs, j, h, hj => absurd hj (by rw [← h]; simp)
  | a :: gs, [], j, h, hj => absurd hj (by simp)
  | a :: gs, b :: rs, 0, _, _ => ⟨rfl, rfl, rfl, rfl⟩
  | a :: gs, b :: rs, j + 1, h, hj => by
    have ih := rowVs_at n gs rs j (by simpa using h) (by simpa using hj)
    have e : ∀ k, (rowVs n (a :: gs) (b :: rs)).getD ((j + 1) * 4 + k) undef = (rowVs n gs rs).getD (j * 4 + k) undef := by
      intro k
      rw [show (j + 1) * 4 + k = (j * 4 + k) + 4 by omega]
      rfl
    have e0 := e 0
    simp only [Nat.add_zero] at e0
    rw [e0, e 1, e 2, e 3]
    exact ih
theorem drop2 {ps : List Int} {k : Nat} (h : k + 1 < ps.length) : ps.drop k = ps.getD k 0 :: ps.getD (k + 1) 0 :: ps.drop (k + 2) := by
  rw [List.drop_eq_getElem_cons (by omega), List.drop_eq_getElem_cons h, List.getD_eq_getElem?_getD, List.getElem?_eq_getElem (by omega), List.getD_eq_getElem?_getD, List.getElem?_eq_getElem h]
  rfl
/-- A maker that has made rows, among other blocks that are held. -/
def MK (w0 : World) (g n : Nat) (rs : List Rw) (l : List (Nat × Obj)) (w : World) : Prop :=
  ∃ v gs C, GL w0 [(g, .cells (mkc n v) 87)] 70 4 v rs.length (rowVs n gs rs) (C ++ l) w ∧ gs.length = rs.length ∧ ∀ j, j < rs.length → (gs.getD j 0, Obj.qowt (rs.getD j Rw.zero).coef []) ∈ C ∧ (rs.getD j Rw.zero).coef.length = n ∧ ∀ i, i < n → i64 ((rs.getD j Rw.zero).coef.getD i 0)
theorem qow_t (ds : List Int) : Obj.qow ds = Obj.qowt ds [] := by simp [Obj.qow, Obj.qowt]
theorem info70 : (Tryz.prog.info? 70).map (fun i => (i.zero, i.size, i.bytes)) = some (some (.agg #[.slice none 0 0, .int .i64 0, .int .i64 0, .int .i64 0]), 4, 48) := by kernel_rfl

variable {w0 w : World} {l l2 : List (Nat × Obj)}
set_option maxHeartbeats 8000000 in
set_option maxRecDepth 100000 in
theorem row_any (g n sort m : Nat) (z : Int) (t : Value) (ps : List Int) (rs : List Rw) (w : World) (h : MK w0 g n rs l w) (hp : Iv w t ps) (hs : sort < 4) (hm : ps.length = 2 * m) (hm3 : m ≤ 3) (hi : ∀ j, j < m → 0 ≤ ps.getD (2 * j) 0 ∧ ps.getD (2 * j) 0 < n) (hn : n ≤ 11) (hr : rs.length ≤ 1000) :
    Calls Tryz.prog 39 #[.pointer (some ⟨g, 0, none⟩), .int .i64 sort, .int .i64 z, t] w fun e w' => e = .returned (.tuple #[]) ∧ MK w0 g n (rs ++ [⟨putP (List.replicate n 0) ps, z, 32768, w4 sort⟩]) l w' := by
  obtain ⟨v, gs, C, G, hgs, hC⟩ := h
  obtain ⟨R, KR, back⟩ := G.out
  have HC := Lib.hid hC; have HBK := Lib.hid back; have HKR := Lib.hid KR; have HP := Lib.hid hp; have HGS := Lib.hid hgs; have HI := Lib.hid hi; have HM := Lib.hid hm
  obtain ⟨B, c, rfl, -, hb⟩ := hp
  have HB := Lib.hid hb
  clear hb
  have hlt : g < w.heap.size := KR.lt (.head _)
  have K := Lib.hid (Keep.start w)
  have c0 := Keep.far K hlt (KR.cell (k := 0) (v := .int .i64 n) (.head _) rfl)
  have ck := Keep.far K hlt (KR.cell (k := 7 + sort) (v := .int .i64 32768) (.head _) (by rcases (show sort = 0 ∨ sort = 1 ∨ sort = 2 ∨ sort = 3 by omega) with rfl | rfl | rfl | rfl <;> rfl))
  have cw := Keep.far K hlt (KR.cell (k := 11 + sort) (v := .int .i64 (w4 sort)) (.head _) (by rcases (show sort = 0 ∨ sort = 1 ∨ sort = 2 ∨ sort = 3 by omega) with rfl | rfl | rfl | rfl <;> rfl))
  clear G KR back hC hgs hi hm
  generalize w4 sort = wt at *
  have hs0 : (0 : Int) ≤ (sort : Int) := by omega
  have hs4 : (sort : Int) < 4 := by omega
  go_enter Tryz.func39, Tryz.ntmps39
  go_upto_region 0 with fail
  refine region_float1 _ 22 ⟨21, 8, .cells #[.slice none 0 0, .int .i64 0, .int .i64 0, .int .i64 0] 70⟩ [(1, 0), (1, 1), (1, 2), (0, 3), (1, 5), (1, 6), (1, 7), (1, 8), (1, 9), (1, 10), (1, 11), (0, 12), (1, 13), (1, 14), (1, 15), (1, 16), (1, 17), (1, 18), (0, 19), (2, 4), (1, 20)] (by kernel_rfl) (by kernel_rfl) ⟨_, rfl, rfl, rfl, fun a w => rfl, fun md e he => by simp at he⟩ (fun _ _ d _ _ => by cases d <;> exact Iff.rfl) Keep.stays K.out.drew ?_; clear K; intro W K hbw; replace K := Lib.hid K; have K0 := K
  (refine Ph.pure rfl (by rfl) ?_; apply Exists.intro; refine ⟨fun w => ?_, ?_⟩; (focus (go_simp; (try (with_reducible rfl)); done)); (try simp only [Act.put, List.setIfInBounds_toArray, List.set_cons_zero, List.set_cons_succ]))
  (refine Ph.pure rfl (by rfl) ?_; apply Exists.intro; refine ⟨fun w => ?_, ?_⟩; (focus (go_simp; (try (with_reducible rfl)); done)); (try simp only [Act.put, List.setIfInBounds_toArray, List.set_cons_zero, List.set_cons_succ]))
  (refine Ph.pure rfl (by rfl) ?_; apply Exists.intro; refine ⟨fun w => ?_, ?_⟩; (focus (go_simp; (try (with_reducible rfl)); done)); (try simp only [Act.put, List.setIfInBounds_toArray, List.set_cons_zero, List.set_cons_succ]))
  (refine Ph.read rfl (by rfl) ?_; apply Exists.intro; refine ⟨fun p => ?_, ?_⟩; (focus (go_simp; (try (with_reducible rfl)); done)); (try simp only [Act.put, List.setIfInBounds_toArray, List.set_cons_zero, List.set_cons_succ]))
  iterate 6 (refine Ph.pure rfl (by rfl) ?_; apply Exists.intro; refine ⟨fun w => ?_, ?_⟩; (focus (go_simp; (try (with_reducible rfl)); done)); (try simp only [Act.put, List.setIfInBounds_toArray, List.set_cons_zero, List.set_cons_succ]))
  (refine Ph.pure rfl (by rfl) ?_; apply Exists.intro; refine ⟨fun w => ?_, ?_⟩; (focus (go_simp; (try (with_reducible rfl)); done)); (try simp only [Act.put, List.setIfInBounds_toArray, List.set_cons_zero, List.set_cons_succ]))
  (refine Ph.read rfl (by rfl) ?_; apply Exists.intro; refine ⟨fun p => ?_, ?_⟩; (focus (go_simp; (try (with_reducible rfl)); done)); (try simp only [Act.put, List.setIfInBounds_toArray, List.set_cons_zero, List.set_cons_succ]))
  iterate 5 (refine Ph.pure rfl (by rfl) ?_; apply Exists.intro; refine ⟨fun w => ?_, ?_⟩; (focus (go_simp; (try (with_reducible rfl)); done)); (try simp only [Act.put, List.setIfInBounds_toArray, List.set_cons_zero, List.set_cons_succ]))
  (refine Ph.pure rfl (by rfl) ?_; apply Exists.intro; refine ⟨fun w => ?_, ?_⟩; (focus (go_simp; (try (with_reducible rfl)); done)); (try simp only [Act.put, List.setIfInBounds_toArray, List.set_cons_zero, List.set_cons_succ]))
  (refine Ph.read rfl (by rfl) ?_; apply Exists.intro; refine ⟨fun p => ?_, ?_⟩; (focus (go_simp; (try (with_reducible rfl)); done)); (try simp only [Act.put, List.setIfInBounds_toArray, List.set_cons_zero, List.set_cons_succ]))
  refine Ph.lay rfl (by rfl) ?_
  intro w2 hb
  replace K := Lib.hid (Keep.stays _ _ K.out hb)
  clear hb
  have hmk := mk_qow n (by omega) (n : Int) rfl w2
  refine ⟨.slice (some ⟨w2.heap.size, 0, none⟩) n n, w2.alloc (Obj.qow (List.replicate n 0)), ?_, Ext.alloc _ _, ?_⟩
  focus (go_simp; (try (with_reducible rfl)); done)
  replace K := Lib.hid (K.out.alloc (Obj.qow (List.replicate n 0)))
  generalize w2.heap.size = gj at *
  generalize w2.alloc _ = w3 at *
  rw [qow_t] at K
  clear hmk
  (try simp only [Act.put, List.setIfInBounds_toArray, List.set_cons_zero, List.set_cons_succ])
  (refine Ph.pure rfl (by rfl) ?_; apply Exists.intro; refine ⟨fun w => ?_, ?_⟩; (focus (go_simp; (try (with_reducible rfl)); done)); (try simp only [Act.put, List.setIfInBounds_toArray, List.set_cons_zero, List.set_cons_succ]))
  intro w4' hb gr hg hge
  replace K := Lib.hid ((Keep.stays _ _ K.out hb).heldNe hg (Nat.le_trans K0.out.B.size hge) (by simp [Obj.qowt]))
  clear hg hge K0 hb ck cw c0
  simp only [ptr, List.drop_succ_cons, List.drop_zero, Act.put, List.setIfInBounds_toArray, List.set_cons_zero, List.set_cons_succ]
  have k0 := K.out.cell (k := 0) (.head _) rfl; have k1 := K.out.cell (k := 1) (.head _) rfl; have k2 := K.out.cell (k := 2) (.head _) rfl; have k3 := K.out.cell (k := 3) (.head _) rfl
  have fk := K.out.warm (.head _) 0; have fk1 := K.out.warm (.head _) 1; have fk2 := K.out.warm (.head _) 2; have fk3 := K.out.warm (.head _) 3
  go_upto_region 1 with fail
  clear k0 k1 k2 k3 fk fk1 fk2 fk3
  replace K := Lib.hid ((((K.out.set_0 0 (.slice (some ⟨gj, 0, none⟩) n n)).set_0 1 (.int .i64 z)).set_0 2 (.int .i64 32768)).set_0 3 (.int .i64 wt))
  simp only [List.setIfInBounds_toArray, List.set_cons_zero, List.set_cons_succ] at K
  refine out_keep K.out ?_
  clear K
  intro W5 K
  replace K := Lib.hid K
  go_wp2_with fail
  go_loopg [9] m (fun gk iv wr => ∃ (i k : Nat) (ys : List Int), gk + i = m ∧ k = 2 * i ∧ iv = .int .i64 (k : Int) ∧ ys.length = n ∧ putP ys (ps.drop k) = putP (List.replicate n 0) ps ∧ (∀ j, j < n → i64 (ys.getD j 0)) ∧ Keep w [(gr, .cells #[.slice (some ⟨gj, 0, none⟩) n n, .int .i64 z, .int .i64 32768, .int .i64 wt] 70), (gj, Obj.qowt ys [])] wr)
  case atStart => exact ⟨0, 0, List.replicate n 0, by omega, rfl, rfl, List.length_replicate, rfl, fun j hj => by rw [List.getD_eq_getElem?_getD, List.getElem?_replicate, if_pos hj]; show i64 0; unfold i64; decide, K.out⟩
  case round =>
    clear K
    obtain ⟨i, k, ys, hgi, hk, rfl, hy, hput, h64, kk⟩ := hrel
    have K := Lib.hid kk
    have HY := Lib.hid hput
    have H64 := Lib.hid h64
    have HK := Lib.hid hk
    clear kk hput h64 hk
    by_cases him : i < m
    · have hps : k + 1 < ps.length := by have := HM.out; have := HK.out; omega
      obtain ⟨p64, q, rfl, hq, hqc⟩ := HB.out k (Nat.lt_of_succ_lt hps)
      obtain ⟨a64, q2, he, -, hqd⟩ := HB.out (k + 1) hps
      cases he
      obtain ⟨p0, pn⟩ := HI.out i him
      rw [← HK.out] at p0 pn
      obtain ⟨pk, hpk⟩ := Int.eq_ofNat_of_zero_le p0
      have HD := Lib.hid (drop2 (ps := ps) (k := k) hps)
      rw [hpk] at hqc pn HD
      have e1 := Keep.fara K hq hqc
      have e2 := Keep.fara K hq hqd
      have ea : q.add (k + 1) = ⟨q.block, q.off + (k + 1), none⟩ := by unfold Addr.add; rw [if_neg (by omega)]
      simp only [ea] at e2
      clear ea
      have HY2 : Hid (putP (ys.set pk (ps.getD (k + 1) 0)) (ps.drop (k + 2)) = putP (List.replicate n 0) ps) := Lib.hid (by
        have := HY.out
        rw [HD.out] at this
        simpa [putP] using this)
      have hk6 : k < 6 := by have := HK.out; omega
      have hk1 : ((k : Int) + 1).toNat = k + 1 := by omega
      have hl2 : (k : Int) < (ps.length : Int) := by omega
      have hl3 : (k : Int) + 1 < (ps.length : Int) := by omega
      have hpn : (pk : Int) < (n : Int) := pn
      clear hqc hqd HD HY p0 hpk
      generalize ps.getD (k + 1) 0 = a at *
      have k0 := Keep.acell (k := 0) K (.head _) rfl
      go_wp2_with fail
      (refine region_tail _ 12 (by kernel_rfl) (by kernel_rfl) K.out.drew ?_; haveI ne := Keep.ne K)
      (simp only [List.take_succ_cons, List.take_zero, List.drop_succ_cons, List.drop_zero])
      repeat (go_big_quiet_step (fail))
      (refine wpQuiet_nil ?_; clear ne K; intro W K; replace K := Lib.hid K)
      clear e1 e2 k0
      have Z := K.out.qtc (.tail _ (.head _)) pk (by rw [hy]; omega)
      have f5 := K.out.qtw (.tail _ (.head _))
      go_wp2_with fail
      replace K := Lib.hid (K.out.setqt [_] pk (by rw [hy]; omega) a)
      clear Z f5
      go_roundg (gk - 1)
      case measure => omega
      case rel => exact ⟨i + 1, k + 2, _, by omega, by have := HK.out; omega, congrArg (Value.int .i64) (by omega), by rw [List.length_set]; exact hy, HY2.out, fun j hj => by
        by_cases e : pk = j
        · rw [← e, getD_set_at (by rw [hy]; omega)]; exact a64
        · rw [getD_set_ne' e]; exact H64.out j hj, K.out⟩
    · have hps : ps.length = k := by have := HM.out; have := HK.out; omega
      have HE : Hid (ys = putP (List.replicate n 0) ps) := Lib.hid (by
        have := HY.out
        rw [List.drop_eq_nil_of_le (by omega)] at this
        exact this)
      have K5 := Lib.hid (Keep.join HKR.out K.out)
      replace K : Hid (Keep w0 [(gr, .cells #[.slice (some ⟨gj, 0, none⟩) n n, .int .i64 z, .int .i64 32768, .int .i64 wt] 70), (gj, Obj.qowt ys []), (g, .cells (mkc n v) 87)] wr) := Lib.hid (Keep.front (l := R) K5.out)
      go_upto_region 5 with fail
      (refine region_ord _ 8 (by kernel_rfl) (by kernel_rfl) K.out.drew ?_; clear K; intro W K hbw; replace K := Lib.hid K)
      replace K5 := Lib.hid (Keep.stays _ _ K5.out hbw)
      clear hbw
      have k0 := Keep.acell (k := 0) K (.head _) rfl; have k1 := Keep.acell (k := 1) K (.head _) rfl; have k2 := Keep.acell (k := 2) K (.head _) rfl; have k3 := Keep.acell (k := 3) K (.head _) rfl
      have g18 := Keep.acell (k := 18) (v := v) K (.tail _ (.tail _ (.head _))) rfl
      (refine Ord.take' 0 rfl (by kernel_rfl) (fun _ _ _ _ h => h) K.out (by rfl) ?_; apply Exists.intro; refine ⟨fun p => ?_, ?_⟩; (focus (go_simp; (try (with_reducible rfl)); done)); (try simp only [Act.put, List.setIfInBounds_toArray, List.set_cons_zero, List.set_cons_succ]))
      (refine Ord.take' 1 rfl (by kernel_rfl) (fun _ _ _ _ h => h) K.out (by rfl) ?_; apply Exists.intro; refine ⟨fun p => ?_, ?_⟩; (focus (go_simp; (try (with_reducible rfl)); done)); (try simp only [Act.put, List.setIfInBounds_toArray, List.set_cons_zero, List.set_cons_succ]))
      (refine Ord.take' 2 rfl (by kernel_rfl) (fun _ _ _ _ h => h) K.out (by rfl) ?_; apply Exists.intro; refine ⟨fun p => ?_, ?_⟩; (focus (go_simp; (try (with_reducible rfl)); done)); (try simp only [Act.put, List.setIfInBounds_toArray, List.set_cons_zero, List.set_cons_succ]))
      (refine Ord.take' 3 rfl (by kernel_rfl) (fun _ _ _ _ h => h) K.out (by rfl) ?_; apply Exists.intro; refine ⟨fun p => ?_, ?_⟩; (focus (go_simp; (try (with_reducible rfl)); done)); (try simp only [Act.put, List.setIfInBounds_toArray, List.set_cons_zero, List.set_cons_succ]))
      (refine Ord.take' 4 rfl (by kernel_rfl) (fun _ _ _ _ h => h) K.out (by rfl) ?_; apply Exists.intro; refine ⟨fun p => ?_, ?_⟩; (focus (go_simp; (try (with_reducible rfl)); done)); (try simp only [Act.put, List.setIfInBounds_toArray, List.set_cons_zero, List.set_cons_succ]))
      (refine Ord.take' 5 rfl (by kernel_rfl) (fun _ _ _ _ h => h) K.out (by rfl) ?_; apply Exists.intro; refine ⟨fun p => ?_, ?_⟩; (focus (go_simp; (try (with_reducible rfl)); done)); (try simp only [Act.put, List.setIfInBounds_toArray, List.set_cons_zero, List.set_cons_succ]))
      clear k0 k1 k2 k3 g18
      have KT := Lib.hid (K.out.alloc (.cells #[.slice (some ⟨gj, 0, none⟩) n n, .int .i64 z, .int .i64 32768, .int .i64 wt] 70))
      refine Ord.lay 6 (v := .slice (some ⟨W.heap.size, 0, none⟩) 1 1) rfl (by kernel_rfl) (by rfl) (by (go_simp; try (with_reducible rfl))) KT.out.rest ?_
      replace K5 := Lib.hid (K5.out.alloc (.cells #[.slice (some ⟨gj, 0, none⟩) n n, .int .i64 z, .int .i64 32768, .int .i64 wt] 70))
      clear KT K
      generalize W.heap.size = bt at *
      generalize W.alloc _ = W6 at *
      simp only [Act.put, List.setIfInBounds_toArray, List.set_cons_zero, List.set_cons_succ]
      have G := HBK.out [(bt, .cells #[.slice (some ⟨gj, 0, none⟩) n n, .int .i64 z, .int .i64 32768, .int .i64 wt] 70), (gr, .cells #[.slice (some ⟨gj, 0, none⟩) n n, .int .i64 z, .int .i64 32768, .int .i64 wt] 70), (gj, Obj.qowt ys []), (g, .cells (mkc n v) 87)] W6 K5.out
      obtain ⟨i0, hi0, hx0⟩ := Option.map_eq_some_iff.1 info70
      simp only [Prod.mk.injEq] at hx0
      obtain ⟨hz0, hz1, hz2⟩ := hx0
      obtain ⟨v', W7, hrun, G7⟩ := G.app (ty := 22) Tryz.underlying22 hi0 hz0 hz1 hz2 (by rfl) ⟨bt, 0, none⟩ (m := 1) (news := [.slice (some ⟨gj, 0, none⟩) n n, .int .i64 z, .int .i64 32768, .int .i64 wt]) rfl (by
        intro j u hu
        have ea : ((⟨bt, 0, none⟩ : Addr).add j) = ⟨bt, j, none⟩ := by unfold Addr.add; split <;> simp_all
        rw [ea]
        exact K5.out.cell (.head _) (by rw [List.getElem?_toArray]; exact hu)) (by
        intro u hu
        simp only [List.mem_cons, List.not_mem_nil, or_false] at hu
        rcases hu with rfl | rfl | rfl | rfl <;> rfl) (by decide) (by unfold maxLen; omega) (by omega) 1
      obtain ⟨R7, K7, back7⟩ := G7.out
      have hgl := Lib.hid G7.sl
      refine Ord.lay 7 (v := v') rfl (by kernel_rfl) (by rfl) (exec_append (.tmp 53) (.tmp 55) 22 rfl hrun) (Keep.front (l := R7) K7.rest) ?_
      have K := Lib.hid K7
      have HBK7 := Lib.hid back7
      clear K7 back7 hrun K5 G G7 hi0 hz0 hz1 hz2 HKR HBK
      simp only [Act.put, List.setIfInBounds_toArray, List.set_cons_zero, List.set_cons_succ]
      (refine Ord.done (by kernel_rfl) ?_; simp only [List.drop_succ_cons, List.drop_zero, Act.put, List.setIfInBounds_toArray, List.set_cons_zero, List.set_cons_succ])
      obtain ⟨VB, vc, rfl⟩ := hgl.out
      have k18 := K.out.cell (k := 18) (v := v) (.tail _ (.tail _ (.tail _ (.head _)))) rfl
      have fk := K.out.warm (.tail _ (.tail _ (.tail _ (.head _)))) 18
      go_wp2_with fail
      clear k18 fk
      replace K := Lib.hid (K.out.set_3 18 (.slice VB (rs.length + 1) vc))
      refine bodyPost_end (results_none Tryz.results39 _ _ _) rfl ⟨rfl, ?_⟩
      have HB9 := HBK7.out [(bt, .cells #[.slice (some ⟨gj, 0, none⟩) n n, .int .i64 z, .int .i64 32768, .int .i64 wt] 70), (gr, .cells #[.slice (some ⟨gj, 0, none⟩) n n, .int .i64 z, .int .i64 32768, .int .i64 wt] 70), (gj, Obj.qowt ys []), (g, .cells (mkc n (.slice VB (rs.length + 1) vc)) 87)] _ K.out
      have H9 := HB9.drop.drop.sink
      have er : rowVs n (gs ++ [gj]) (rs ++ [⟨ys, z, 32768, wt⟩]) = rowVs n gs rs ++ [.slice (some ⟨gj, 0, none⟩) n n, .int .i64 z, .int .i64 32768, .int .i64 wt] := rowVs_app n gj ⟨ys, z, 32768, wt⟩ gs rs HGS.out
      rw [← er] at H9
      rw [← HE.out]
      refine ⟨_, gs ++ [gj], (gj, Obj.qowt ys []) :: C, by rw [List.length_append]; exact H9, by rw [List.length_append, List.length_append, HGS.out]; rfl, fun j hj => ?_⟩
      rw [List.length_append] at hj
      by_cases e : j < rs.length
      · have := HC.out j e
        rw [List.getD_eq_getElem?_getD, List.getElem?_append_left (by rw [HGS.out]; exact e), ← List.getD_eq_getElem?_getD, List.getD_eq_getElem?_getD (l := rs ++ _), List.getElem?_append_left e, ← List.getD_eq_getElem?_getD]
        exact ⟨List.mem_cons_of_mem _ this.1, this.2⟩
      · have e2 : j = rs.length := by simp at hj; omega
        subst e2
        rw [List.getD_eq_getElem?_getD, ← HGS.out, List.getElem?_append_right (Nat.le_refl _), Nat.sub_self, HGS.out, List.getD_eq_getElem?_getD, List.getElem?_append_right (Nat.le_refl _), Nat.sub_self]
        exact ⟨.head _, hy, H64.out⟩
end Go.Proofs.YtmidifgnpjlgcaaGreat
/- The walk of key. -/
set_option linter.unusedVariables false
set_option linter.unusedSimpArgs false
namespace Go.Proofs.YtmidifgnpjlgcaaGreat
open Go.RowKit

variable {w0 w w2 : World} {l l2 A : List (Nat × Obj)} {g n : Nat} {rs : List Rw}
theorem GL.dropl {e : TypeId} {size m : Nat} {v : Value} {xs : List Value} {x : Nat × Obj} (G : GL w0 A e size v m xs (x :: l) w) : GL w0 A e size v m xs l w := by
  obtain ⟨hl, ⟨h0, hv, K⟩ | ⟨h, cap, rest, hv, K, h1, h2, h3⟩⟩ := G
  · exact ⟨hl, .inl ⟨h0, hv, (K.perm List.perm_middle).rest⟩⟩
  · refine ⟨hl, .inr ⟨h, cap, rest, hv, (K.perm (l2 := x :: (A ++ (h, Obj.cells (xs ++ rest).toArray e) :: l)) ?_).rest, h1, h2, h3⟩⟩
    have e2 : (A ++ (h, Obj.cells (xs ++ rest).toArray e) :: x :: l) = ((A ++ [(h, Obj.cells (xs ++ rest).toArray e)]) ++ x :: l) := by simp
    rw [e2]
    refine List.perm_middle.trans ?_
    simp
theorem GL.box {e : TypeId} {size m : Nat} {v : Value} {xs : List Value} (G : GL w0 A e size v m xs l w) {p : Nat × Obj} (hp : p ∈ A ∨ p ∈ l) : w.heap[p.1]? = some p.2 := by
  obtain ⟨hl, ⟨h0, hv, K⟩ | ⟨h, cap, rest, hv, K, h1, h2, h3⟩⟩ := G
  · exact K.box p (List.mem_append.2 hp)
  · refine K.box p (List.mem_append.2 ?_)
    rcases hp with hp | hp
    · exact .inl hp
    · exact .inr (List.mem_cons_of_mem _ hp)
theorem MK.stay (M : MK w0 g n rs l w) (hb : Below w.heap.size w w2) : MK w0 g n rs l w2 := by
  obtain ⟨v, gs, C, G, h⟩ := M
  exact ⟨v, gs, C, G.stay hb, h⟩
theorem MK.alloc (M : MK w0 g n rs l w) (o : Obj) : MK w0 g n rs ((w.heap.size, o) :: l) (w.alloc o) := by
  obtain ⟨v, gs, C, G, h⟩ := M
  obtain ⟨R, K, back⟩ := G.out
  exact ⟨v, gs, C, ((back ((w.heap.size, o) :: [(g, .cells (mkc n v) 87)]) _ (K.alloc o)).sink).perm List.perm_middle.symm, h⟩
theorem MK.drop {x : Nat × Obj} (M : MK w0 g n rs (x :: l) w) : MK w0 g n rs l w := by
  obtain ⟨v, gs, C, G, h⟩ := M
  exact ⟨v, gs, C, (G.perm List.perm_middle).dropl, h⟩
theorem MK.box (M : MK w0 g n rs l w) {p : Nat × Obj} (hp : p ∈ l) : w.heap[p.1]? = some p.2 := by
  obtain ⟨v, gs, C, G, h⟩ := M
  exact G.box (.inr (List.mem_append_right _ hp))
theorem MK.top (M : MK w0 g n rs l w) : ∃ v, w.heap[g]? = some (.cells (mkc n v) 87) := by
  obtain ⟨v, gs, C, G, h⟩ := M
  exact ⟨v, G.box (p := (g, .cells (mkc n v) 87)) (.inl (.head _))⟩
theorem iv_heap {b c : Nat} {ps : List Int} (h : w.heap[b]? = some (.cells (ps.map (Value.int .i64)).toArray 2)) (hp : ∀ j, j < ps.length → i64 (ps.getD j 0)) : Iv w (.slice (some ⟨b, 0, none⟩) ps.length c) ps := by
  refine ⟨_, c, rfl, fun e => (by cases e), fun j hj => ⟨hp j hj, _, rfl, (Array.getElem?_eq_some_iff.1 h).1, ?_⟩⟩
  have ea : ((⟨b, 0, none⟩ : Addr).add j) = ⟨b, j, none⟩ := by unfold Addr.add; split <;> simp_all
  rw [ea, cellOf h, List.getElem?_toArray, List.getElem?_map, List.getElem?_eq_getElem hj, List.getD_eq_getElem?_getD, List.getElem?_eq_getElem hj]
  rfl
/-- What a key's regions read. -/
def KeyS (g n kb : Nat) (cs : Array Value) (w : World) : Prop := (∀ k u, k < 18 → (mkc n (.slice none 0 0))[k]? = some u → w.cell? ⟨g, k, none⟩ = some u) ∧ ∀ k u, cs[k]? = some u → w.cell? ⟨kb, k, none⟩ = some u
theorem MK.keyS {kb : Nat} {cs : Array Value} {t : TypeId} (M : MK w0 g n rs ((kb, .cells cs t) :: l) w) : KeyS g n kb cs w := by
  obtain ⟨v, hv⟩ := M.top
  have hb := M.box (p := (kb, .cells cs t)) (.head _)
  refine ⟨fun k u hk hu => ?_, fun k u hu => by rw [cellOf hb]; exact hu⟩
  rw [cellOf hv]
  have e : (mkc n v)[k]? = (mkc n (.slice none 0 0))[k]? := by
    rcases (show k = 0 ∨ k = 1 ∨ k = 2 ∨ k = 3 ∨ k = 4 ∨ k = 5 ∨ k = 6 ∨ k = 7 ∨ k = 8 ∨ k = 9 ∨ k = 10 ∨ k = 11 ∨ k = 12 ∨ k = 13 ∨ k = 14 ∨ k = 15 ∨ k = 16 ∨ k = 17 by omega) with rfl | rfl | rfl | rfl | rfl | rfl | rfl | rfl | rfl | rfl | rfl | rfl | rfl | rfl | rfl | rfl | rfl | rfl <;> rfl
  rw [e]
  exact hu

theorem all64 {ps : List Int} (h : ∀ x ∈ ps, i64 x) : ∀ j, j < ps.length → i64 (ps.getD j 0) := fun j hj => by
  rw [List.getD_eq_getElem?_getD, List.getElem?_eq_getElem hj]
  exact h _ (List.getElem_mem hj)
def mkRw (n sort : Nat) (z : Int) (ps : List Int) : Rw := ⟨putP (List.replicate n 0) ps, z, 32768, w4 sort⟩
def motRows (n i : Nat) (DV DP : Int) : List Rw := if i = 0 then [] else [mkRw n 0 (100 * DP) [2 * i, 100, 2 * i - 2, -100, 2 * i - 1, -100], mkRw n 0 DV [2 * i + 1, 1, 2 * i - 1, -1]]
def keyRows (n i : Nat) (P V H DV DP : Int) : List Rw := motRows n i DV DP ++ [mkRw n 1 P [2 * i, 1], mkRw n 1 V [2 * i + 1, 1], mkRw n 2 H [2 * i, 1, n - 1, 1]]

set_option maxHeartbeats 8000000 in
set_option maxRecDepth 100000 in
theorem key_any (g n i : Nat) (P V H DV DP T : Int) (rs : List Rw) (w : World) (h : MK w0 g n rs l w) (hi : 2 * i + 2 ≤ n) (hn : n ≤ 11) (hr : rs.length ≤ 900) (hT : i ≠ 0 → T = 100) (hP : -100000 ≤ DP ∧ DP ≤ 100000) :
    Calls Tryz.prog 38 #[.pointer (some ⟨g, 0, none⟩), .int .i64 i, .agg #[.bool true, .bool true, .bool true, .int .i64 P, .int .i64 V, .int .i64 H, .int .i64 DV, .int .i64 DP, .int .i64 T]] w fun e w' => e = .returned (.tuple #[]) ∧ MK w0 g n (rs ++ keyRows n i P V H DV DP) l w' := by
  have M := Lib.hid (h.alloc (.cells #[.bool true, .bool true, .bool true, .int .i64 P, .int .i64 V, .int .i64 H, .int .i64 DV, .int .i64 DP, .int .i64 T] 51))
  clear h
  go_enter Tryz.func38, Tryz.ntmps38
  go_upto_region 1 with fail
  generalize w.heap.size = kb at *
  generalize w.alloc _ = W1 at *
  (have K := Lib.hid M.out.keyS; have g0 := K.out.1 0 (.int .i64 n) (by decide) rfl; have g1 := K.out.1 1 (.int .i64 100) (by decide) rfl; have b0 := K.out.2 0 (.bool true) rfl; have b1 := K.out.2 1 (.bool true) rfl; have b2 := K.out.2 2 (.bool true) rfl; have b3 := K.out.2 3 (.int .i64 P) rfl; have b4 := K.out.2 4 (.int .i64 V) rfl; have b5 := K.out.2 5 (.int .i64 H) rfl; have b6 := K.out.2 6 (.int .i64 DV) rfl; have b7 := K.out.2 7 (.int .i64 DP) rfl)
  have b8 := K.out.2 8 (.int .i64 T) rfl
  have hi4 : (i : Int) ≤ 4 := by omega
  have hi0 : (0 : Int) ≤ (i : Int) := by omega
  have hn0 : (2 : Int) ≤ (n : Int) := by omega
  have hn1 : (n : Int) ≤ 11 := by omega
  by_cases h0 : i = 0
  · have hi00 : ¬ 0 < (i : Int) := by omega
    have H0 := Lib.hid h0
    clear h0
    go_upto_region 6 with fail
    clear b8
    ((go_wp2_with fail; (clear g0 g1 b0 b1 b2 b3 b4 b5 b6 b7 K); have M2 := Lib.hid (M.out.alloc (.cells (List.map (Value.int .i64) [2 * (i : Int), 1]).toArray 2)); refine (row_any g n 1 1 P _ [2 * (i : Int), 1] _ _ M2.out (iv_heap (M2.out.box (.head _)) (all64 (by intro x hx; simp only [List.mem_cons, List.not_mem_nil, or_false] at hx; rcases hx with rfl | rfl <;> (unfold i64; omega)))) (by decide) rfl (by decide) (fun j hj => (by rcases (show j = 0 ∨ j = 1 ∨ j = 2 by omega) with rfl | rfl | rfl <;> first | (exfalso; omega) | exact ⟨(show (0 : Int) ≤ (2 * (i : Int)) by omega), (show (2 * (i : Int)) < (n : Int) by omega)⟩ | exact ⟨(show (0 : Int) ≤ (2 * (i : Int)) by omega), (show (2 * (i : Int)) < (n : Int) by omega)⟩ | exact ⟨(show (0 : Int) ≤ (2 * (i : Int)) by omega), (show (2 * (i : Int)) < (n : Int) by omega)⟩)) hn (by first | omega | (simp only [List.length_append, List.length_cons, List.length_nil]; omega))).mono ?_; rintro e W3 ⟨rfl, M3⟩; replace M := Lib.hid M3.drop; clear M2 M3; (have K := Lib.hid M.out.keyS; have g0 := K.out.1 0 (.int .i64 n) (by decide) rfl; have g1 := K.out.1 1 (.int .i64 100) (by decide) rfl; have b0 := K.out.2 0 (.bool true) rfl; have b1 := K.out.2 1 (.bool true) rfl; have b2 := K.out.2 2 (.bool true) rfl; have b3 := K.out.2 3 (.int .i64 P) rfl; have b4 := K.out.2 4 (.int .i64 V) rfl; have b5 := K.out.2 5 (.int .i64 H) rfl; have b6 := K.out.2 6 (.int .i64 DV) rfl; have b7 := K.out.2 7 (.int .i64 DP) rfl)); (go_wp2_with fail; (clear g0 g1 b0 b1 b2 b3 b4 b5 b6 b7 K); have M2 := Lib.hid (M.out.alloc (.cells (List.map (Value.int .i64) [2 * (i : Int) + 1, 1]).toArray 2)); refine (row_any g n 1 1 V _ [2 * (i : Int) + 1, 1] _ _ M2.out (iv_heap (M2.out.box (.head _)) (all64 (by intro x hx; simp only [List.mem_cons, List.not_mem_nil, or_false] at hx; rcases hx with rfl | rfl <;> (unfold i64; omega)))) (by decide) rfl (by decide) (fun j hj => (by rcases (show j = 0 ∨ j = 1 ∨ j = 2 by omega) with rfl | rfl | rfl <;> first | (exfalso; omega) | exact ⟨(show (0 : Int) ≤ (2 * (i : Int) + 1) by omega), (show (2 * (i : Int) + 1) < (n : Int) by omega)⟩ | exact ⟨(show (0 : Int) ≤ (2 * (i : Int) + 1) by omega), (show (2 * (i : Int) + 1) < (n : Int) by omega)⟩ | exact ⟨(show (0 : Int) ≤ (2 * (i : Int) + 1) by omega), (show (2 * (i : Int) + 1) < (n : Int) by omega)⟩)) hn (by first | omega | (simp only [List.length_append, List.length_cons, List.length_nil]; omega))).mono ?_; rintro e W4 ⟨rfl, M3⟩; replace M := Lib.hid M3.drop; clear M2 M3; (have K := Lib.hid M.out.keyS; have g0 := K.out.1 0 (.int .i64 n) (by decide) rfl; have g1 := K.out.1 1 (.int .i64 100) (by decide) rfl; have b0 := K.out.2 0 (.bool true) rfl; have b1 := K.out.2 1 (.bool true) rfl; have b2 := K.out.2 2 (.bool true) rfl; have b3 := K.out.2 3 (.int .i64 P) rfl; have b4 := K.out.2 4 (.int .i64 V) rfl; have b5 := K.out.2 5 (.int .i64 H) rfl; have b6 := K.out.2 6 (.int .i64 DV) rfl; have b7 := K.out.2 7 (.int .i64 DP) rfl)); (go_wp2_with fail; (clear g0 g1 b0 b1 b2 b3 b4 b5 b6 b7 K); have M2 := Lib.hid (M.out.alloc (.cells (List.map (Value.int .i64) [2 * (i : Int), 1, (n : Int) - 1, 1]).toArray 2)); refine (row_any g n 2 2 H _ [2 * (i : Int), 1, (n : Int) - 1, 1] _ _ M2.out (iv_heap (M2.out.box (.head _)) (all64 (by intro x hx; simp only [List.mem_cons, List.not_mem_nil, or_false] at hx; rcases hx with rfl | rfl | rfl | rfl <;> (unfold i64; omega)))) (by decide) rfl (by decide) (fun j hj => (by rcases (show j = 0 ∨ j = 1 ∨ j = 2 by omega) with rfl | rfl | rfl <;> first | (exfalso; omega) | exact ⟨(show (0 : Int) ≤ (2 * (i : Int)) by omega), (show (2 * (i : Int)) < (n : Int) by omega)⟩ | exact ⟨(show (0 : Int) ≤ ((n : Int) - 1) by omega), (show ((n : Int) - 1) < (n : Int) by omega)⟩ | exact ⟨(show (0 : Int) ≤ ((n : Int) - 1) by omega), (show ((n : Int) - 1) < (n : Int) by omega)⟩)) hn (by first | omega | (simp only [List.length_append, List.length_cons, List.length_nil]; omega))).mono ?_; rintro e W5 ⟨rfl, M3⟩; replace M := Lib.hid M3.drop; clear M2 M3; (have K := Lib.hid M.out.keyS; have g0 := K.out.1 0 (.int .i64 n) (by decide) rfl; have g1 := K.out.1 1 (.int .i64 100) (by decide) rfl; have b0 := K.out.2 0 (.bool true) rfl; have b1 := K.out.2 1 (.bool true) rfl; have b2 := K.out.2 2 (.bool true) rfl; have b3 := K.out.2 3 (.int .i64 P) rfl; have b4 := K.out.2 4 (.int .i64 V) rfl; have b5 := K.out.2 5 (.int .i64 H) rfl; have b6 := K.out.2 6 (.int .i64 DV) rfl; have b7 := K.out.2 7 (.int .i64 DP) rfl)); go_wp2_with fail; refine bodyPost_end (results_none Tryz.results38 _ _ _) rfl ⟨rfl, ?_⟩; have MF := M.out.drop)
    rw [keyRows, motRows, if_pos H0.out, List.nil_append]
    simp only [List.append_assoc] at MF
    exact MF
  · obtain rfl := hT h0
    have hi1 : 0 < (i : Int) := by omega
    go_upto_region 4 with fail
    clear b8
    (clear g0 g1 b0 b1 b2 b3 b4 b5 b6 b7 K)
    have hw0 : IntKind.i64.wrap (-100) = -100 := by decide
    have hw1 : IntKind.i64.wrap (100 * DP) = 100 * DP := IntWalk.i64_in _ (by omega)
    have hw2 : IntKind.i64.wrap (2 * (i : Int) - 2) = 2 * (i : Int) - 2 := IntWalk.i64_in _ (by omega)
    have hw3 : IntKind.i64.wrap (2 * (i : Int) - 1) = 2 * (i : Int) - 1 := IntWalk.i64_in _ (by omega)
    refine region_ord (KeyS g n kb (#[.bool true, .bool true, .bool true, .int .i64 P, .int .i64 V, .int .i64 H, .int .i64 DV, .int .i64 DP, .int .i64 100])) 30 (by kernel_rfl) (by kernel_rfl) M.out.keyS ?_
    intro W K hbw
    replace M := Lib.hid (M.out.stay hbw)
    clear hbw
    replace K := Lib.hid K
    have g1 : ∀ p : At (KeyS g n kb (#[.bool true, .bool true, .bool true, .int .i64 P, .int .i64 V, .int .i64 H, .int .i64 DV, .int .i64 DP, .int .i64 100])), p.w.cell? ⟨g, 1, none⟩ = some (.int .i64 100) := fun p => p.h.1 1 _ (by decide) rfl
    have b7 : ∀ p : At (KeyS g n kb (#[.bool true, .bool true, .bool true, .int .i64 P, .int .i64 V, .int .i64 H, .int .i64 DV, .int .i64 DP, .int .i64 100])), p.w.cell? ⟨kb, 7, none⟩ = some (.int .i64 DP) := fun p => p.h.2 7 _ rfl
    have b8 : ∀ p : At (KeyS g n kb (#[.bool true, .bool true, .bool true, .int .i64 P, .int .i64 V, .int .i64 H, .int .i64 DV, .int .i64 DP, .int .i64 100])), p.w.cell? ⟨kb, 8, none⟩ = some (.int .i64 100) := fun p => p.h.2 8 _ rfl
    (refine Ord.take' 0 rfl (by kernel_rfl) (fun _ _ _ _ h => h) K.out (by rfl) ?_; apply Exists.intro; refine ⟨fun p => ?_, ?_⟩; (focus (go_simp; (try (with_reducible rfl)); done)); (try simp only [Act.put, List.setIfInBounds_toArray, List.set_cons_zero, List.set_cons_succ]))
    (refine Ord.take' 1 rfl (by kernel_rfl) (fun _ _ _ _ h => h) K.out (by rfl) ?_; apply Exists.intro; refine ⟨fun p => ?_, ?_⟩; (focus (go_simp; (try (with_reducible rfl)); done)); (try simp only [Act.put, List.setIfInBounds_toArray, List.set_cons_zero, List.set_cons_succ]))
    (refine Ord.take' 2 rfl (by kernel_rfl) (fun _ _ _ _ h => h) K.out (by rfl) ?_; apply Exists.intro; refine ⟨fun p => ?_, ?_⟩; (focus (go_simp; (try (with_reducible rfl)); done)); (try simp only [Act.put, List.setIfInBounds_toArray, List.set_cons_zero, List.set_cons_succ]))
    (refine Ord.take' 3 rfl (by kernel_rfl) (fun _ _ _ _ h => h) K.out (by rfl) ?_; apply Exists.intro; refine ⟨fun p => ?_, ?_⟩; (focus (go_simp; (try (with_reducible rfl)); done)); (try simp only [Act.put, List.setIfInBounds_toArray, List.set_cons_zero, List.set_cons_succ]))
    (refine Ord.take' 4 rfl (by kernel_rfl) (fun _ _ _ _ h => h) K.out (by rfl) ?_; apply Exists.intro; refine ⟨fun p => ?_, ?_⟩; (focus (go_simp; (try (with_reducible rfl)); done)); (try simp only [Act.put, List.setIfInBounds_toArray, List.set_cons_zero, List.set_cons_succ]))
    (refine Ord.take' 5 rfl (by kernel_rfl) (fun _ _ _ _ h => h) K.out (by rfl) ?_; apply Exists.intro; refine ⟨fun p => ?_, ?_⟩; (focus (go_simp; (try (with_reducible rfl)); done)); (try simp only [Act.put, List.setIfInBounds_toArray, List.set_cons_zero, List.set_cons_succ]))
    (refine Ord.take' 6 rfl (by kernel_rfl) (fun _ _ _ _ h => h) K.out (by rfl) ?_; apply Exists.intro; refine ⟨fun p => ?_, ?_⟩; (focus (go_simp; (try (with_reducible rfl)); done)); (try simp only [Act.put, List.setIfInBounds_toArray, List.set_cons_zero, List.set_cons_succ]))
    (refine Ord.take' 7 rfl (by kernel_rfl) (fun _ _ _ _ h => h) K.out (by rfl) ?_; apply Exists.intro; refine ⟨fun p => ?_, ?_⟩; (focus (go_simp; (try (with_reducible rfl)); done)); (try simp only [Act.put, List.setIfInBounds_toArray, List.set_cons_zero, List.set_cons_succ]))
    (refine Ord.take' 8 rfl (by kernel_rfl) (fun _ _ _ _ h => h) K.out (by rfl) ?_; apply Exists.intro; refine ⟨fun p => ?_, ?_⟩; (focus (go_simp; (try (with_reducible rfl)); done)); (try simp only [Act.put, List.setIfInBounds_toArray, List.set_cons_zero, List.set_cons_succ]))
    (refine Ord.take' 9 rfl (by kernel_rfl) (fun _ _ _ _ h => h) K.out (by rfl) ?_; apply Exists.intro; refine ⟨fun p => ?_, ?_⟩; (focus (go_simp; (try (with_reducible rfl)); done)); (try simp only [Act.put, List.setIfInBounds_toArray, List.set_cons_zero, List.set_cons_succ]))
    (refine Ord.take' 10 rfl (by kernel_rfl) (fun _ _ _ _ h => h) K.out (by rfl) ?_; apply Exists.intro; refine ⟨fun p => ?_, ?_⟩; (focus (go_simp; (try (with_reducible rfl)); done)); (try simp only [Act.put, List.setIfInBounds_toArray, List.set_cons_zero, List.set_cons_succ]))
    (refine Ord.take' 11 rfl (by kernel_rfl) (fun _ _ _ _ h => h) K.out (by rfl) ?_; apply Exists.intro; refine ⟨fun p => ?_, ?_⟩; (focus (go_simp; (try (with_reducible rfl)); done)); (try simp only [Act.put, List.setIfInBounds_toArray, List.set_cons_zero, List.set_cons_succ]))
    (refine Ord.take' 12 rfl (by kernel_rfl) (fun _ _ _ _ h => h) K.out (by rfl) ?_; apply Exists.intro; refine ⟨fun p => ?_, ?_⟩; (focus (go_simp; (try (with_reducible rfl)); done)); (try simp only [Act.put, List.setIfInBounds_toArray, List.set_cons_zero, List.set_cons_succ]))
    (refine Ord.take' 13 rfl (by kernel_rfl) (fun _ _ _ _ h => h) K.out (by rfl) ?_; apply Exists.intro; refine ⟨fun p => ?_, ?_⟩; (focus (go_simp; (try (with_reducible rfl)); done)); (try simp only [Act.put, List.setIfInBounds_toArray, List.set_cons_zero, List.set_cons_succ]))
    (refine Ord.take' 14 rfl (by kernel_rfl) (fun _ _ _ _ h => h) K.out (by rfl) ?_; apply Exists.intro; refine ⟨fun p => ?_, ?_⟩; (focus (go_simp; (try (with_reducible rfl)); done)); (try simp only [Act.put, List.setIfInBounds_toArray, List.set_cons_zero, List.set_cons_succ]))
    (refine Ord.take' 15 rfl (by kernel_rfl) (fun _ _ _ _ h => h) K.out (by rfl) ?_; apply Exists.intro; refine ⟨fun p => ?_, ?_⟩; (focus (go_simp; (try (with_reducible rfl)); done)); (try simp only [Act.put, List.setIfInBounds_toArray, List.set_cons_zero, List.set_cons_succ]))
    (refine Ord.take' 16 rfl (by kernel_rfl) (fun _ _ _ _ h => h) K.out (by rfl) ?_; apply Exists.intro; refine ⟨fun p => ?_, ?_⟩; (focus (go_simp; (try (with_reducible rfl)); done)); (try simp only [Act.put, List.setIfInBounds_toArray, List.set_cons_zero, List.set_cons_succ]))
    (refine Ord.take' 17 rfl (by kernel_rfl) (fun _ _ _ _ h => h) K.out (by rfl) ?_; apply Exists.intro; refine ⟨fun p => ?_, ?_⟩; (focus (go_simp; (try (with_reducible rfl)); done)); (try simp only [Act.put, List.setIfInBounds_toArray, List.set_cons_zero, List.set_cons_succ]))
    (refine Ord.take' 18 rfl (by kernel_rfl) (fun _ _ _ _ h => h) K.out (by rfl) ?_; apply Exists.intro; refine ⟨fun p => ?_, ?_⟩; (focus (go_simp; (try (with_reducible rfl)); done)); (try simp only [Act.put, List.setIfInBounds_toArray, List.set_cons_zero, List.set_cons_succ]))
    (refine Ord.take' 19 rfl (by kernel_rfl) (fun _ _ _ _ h => h) K.out (by rfl) ?_; apply Exists.intro; refine ⟨fun p => ?_, ?_⟩; (focus (go_simp; (try (with_reducible rfl)); done)); (try simp only [Act.put, List.setIfInBounds_toArray, List.set_cons_zero, List.set_cons_succ]))
    (refine Ord.take' 20 rfl (by kernel_rfl) (fun _ _ _ _ h => h) K.out (by rfl) ?_; apply Exists.intro; refine ⟨fun p => ?_, ?_⟩; (focus (go_simp; (try (with_reducible rfl)); done)); (try simp only [Act.put, List.setIfInBounds_toArray, List.set_cons_zero, List.set_cons_succ]))
    (refine Ord.take' 21 rfl (by kernel_rfl) (fun _ _ _ _ h => h) K.out (by rfl) ?_; apply Exists.intro; refine ⟨fun p => ?_, ?_⟩; (focus (go_simp; (try (with_reducible rfl)); done)); (try simp only [Act.put, List.setIfInBounds_toArray, List.set_cons_zero, List.set_cons_succ]))
    (refine Ord.take' 22 rfl (by kernel_rfl) (fun _ _ _ _ h => h) K.out (by rfl) ?_; apply Exists.intro; refine ⟨fun p => ?_, ?_⟩; (focus (go_simp; (try (with_reducible rfl)); done)); (try simp only [Act.put, List.setIfInBounds_toArray, List.set_cons_zero, List.set_cons_succ]))
    (refine Ord.take' 23 rfl (by kernel_rfl) (fun _ _ _ _ h => h) K.out (by rfl) ?_; apply Exists.intro; refine ⟨fun p => ?_, ?_⟩; (focus (go_simp; (try (with_reducible rfl)); done)); (try simp only [Act.put, List.setIfInBounds_toArray, List.set_cons_zero, List.set_cons_succ]))
    (refine Ord.take' 24 rfl (by kernel_rfl) (fun _ _ _ _ h => h) K.out (by rfl) ?_; apply Exists.intro; refine ⟨fun p => ?_, ?_⟩; (focus (go_simp; (try (with_reducible rfl)); done)); (try simp only [Act.put, List.setIfInBounds_toArray, List.set_cons_zero, List.set_cons_succ]))
    (refine Ord.take' 25 rfl (by kernel_rfl) (fun _ _ _ _ h => h) K.out (by rfl) ?_; apply Exists.intro; refine ⟨fun p => ?_, ?_⟩; (focus (go_simp; (try (with_reducible rfl)); done)); (try simp only [Act.put, List.setIfInBounds_toArray, List.set_cons_zero, List.set_cons_succ]))
    (refine Ord.take' 26 rfl (by kernel_rfl) (fun _ _ _ _ h => h) K.out (by rfl) ?_; apply Exists.intro; refine ⟨fun p => ?_, ?_⟩; (focus (go_simp; (try (with_reducible rfl)); done)); (try simp only [Act.put, List.setIfInBounds_toArray, List.set_cons_zero, List.set_cons_succ]))
    (refine Ord.take' 27 rfl (by kernel_rfl) (fun _ _ _ _ h => h) K.out (by rfl) ?_; apply Exists.intro; refine ⟨fun p => ?_, ?_⟩; (focus (go_simp; (try (with_reducible rfl)); done)); (try simp only [Act.put, List.setIfInBounds_toArray, List.set_cons_zero, List.set_cons_succ]))
    clear g1 b7 b8
    have M2 := Lib.hid (M.out.alloc (.cells (List.map (Value.int .i64) [2 * (i : Int), 100, 2 * (i : Int) - 2, -100, 2 * (i : Int) - 1, -100]).toArray 2))
    refine Ord.lay 28 (v := .slice (some ⟨W.heap.size, 0, none⟩) 6 6) rfl (by kernel_rfl) (by rfl) (by (go_simp; try (with_reducible rfl))) M2.out.drop.keyS ?_
    simp only [Act.put, List.setIfInBounds_toArray, List.set_cons_zero, List.set_cons_succ]
    refine Ord.call 29 (g := 39) (args := #[.pointer (some ⟨g, 0, none⟩), .int .i64 0, .int .i64 (100 * DP), .slice (some ⟨W.heap.size, 0, none⟩) 6 6]) rfl (by kernel_rfl) (by rfl) (by (go_simp; try (with_reducible rfl))) ?_
    refine (row_any g n 0 3 (100 * DP) _ [2 * (i : Int), 100, 2 * (i : Int) - 2, -100, 2 * (i : Int) - 1, -100] _ _ M2.out (iv_heap (M2.out.box (.head _)) (all64 (by intro x hx; simp only [List.mem_cons, List.not_mem_nil, or_false] at hx; rcases hx with rfl | rfl | rfl | rfl | rfl | rfl <;> (unfold i64; omega)))) (by decide) rfl (by decide) (fun j hj => (by rcases (show j = 0 ∨ j = 1 ∨ j = 2 by omega) with rfl | rfl | rfl <;> first | (exfalso; omega) | exact ⟨(show (0 : Int) ≤ (2 * (i : Int)) by omega), (show (2 * (i : Int)) < (n : Int) by omega)⟩ | exact ⟨(show (0 : Int) ≤ (2 * (i : Int) - 2) by omega), (show (2 * (i : Int) - 2) < (n : Int) by omega)⟩ | exact ⟨(show (0 : Int) ≤ (2 * (i : Int) - 1) by omega), (show (2 * (i : Int) - 1) < (n : Int) by omega)⟩)) hn (by first | omega | (simp only [List.length_append, List.length_cons, List.length_nil]; omega))).mono ?_
    rintro e W7 ⟨rfl, M3⟩
    refine ⟨_, rfl, M3.drop.keyS, ?_⟩
    replace M := Lib.hid M3.drop
    clear M2 M3 K hw1 hw0
    simp only [Act.put, List.setIfInBounds_toArray, List.set_cons_zero, List.set_cons_succ]
    (refine Ord.done (by kernel_rfl) ?_; simp only [List.drop_succ_cons, List.drop_zero, Act.put, List.setIfInBounds_toArray, List.set_cons_zero, List.set_cons_succ])
    (have K := Lib.hid M.out.keyS; have g0 := K.out.1 0 (.int .i64 n) (by decide) rfl; have g1 := K.out.1 1 (.int .i64 100) (by decide) rfl; have b0 := K.out.2 0 (.bool true) rfl; have b1 := K.out.2 1 (.bool true) rfl; have b2 := K.out.2 2 (.bool true) rfl; have b3 := K.out.2 3 (.int .i64 P) rfl; have b4 := K.out.2 4 (.int .i64 V) rfl; have b5 := K.out.2 5 (.int .i64 H) rfl; have b6 := K.out.2 6 (.int .i64 DV) rfl; have b7 := K.out.2 7 (.int .i64 DP) rfl)
    (go_wp2_with fail; (clear g0 g1 b0 b1 b2 b3 b4 b5 b6 b7 K); have M2 := Lib.hid (M.out.alloc (.cells (List.map (Value.int .i64) [2 * (i : Int) + 1, 1, 2 * (i : Int) - 1, -1]).toArray 2)); refine (row_any g n 0 2 DV _ [2 * (i : Int) + 1, 1, 2 * (i : Int) - 1, -1] _ _ M2.out (iv_heap (M2.out.box (.head _)) (all64 (by intro x hx; simp only [List.mem_cons, List.not_mem_nil, or_false] at hx; rcases hx with rfl | rfl | rfl | rfl <;> (unfold i64; omega)))) (by decide) rfl (by decide) (fun j hj => (by rcases (show j = 0 ∨ j = 1 ∨ j = 2 by omega) with rfl | rfl | rfl <;> first | (exfalso; omega) | exact ⟨(show (0 : Int) ≤ (2 * (i : Int) + 1) by omega), (show (2 * (i : Int) + 1) < (n : Int) by omega)⟩ | exact ⟨(show (0 : Int) ≤ (2 * (i : Int) - 1) by omega), (show (2 * (i : Int) - 1) < (n : Int) by omega)⟩ | exact ⟨(show (0 : Int) ≤ (2 * (i : Int) - 1) by omega), (show (2 * (i : Int) - 1) < (n : Int) by omega)⟩)) hn (by first | omega | (simp only [List.length_append, List.length_cons, List.length_nil]; omega))).mono ?_; rintro e W8 ⟨rfl, M3⟩; replace M := Lib.hid M3.drop; clear M2 M3; (have K := Lib.hid M.out.keyS; have g0 := K.out.1 0 (.int .i64 n) (by decide) rfl; have g1 := K.out.1 1 (.int .i64 100) (by decide) rfl; have b0 := K.out.2 0 (.bool true) rfl; have b1 := K.out.2 1 (.bool true) rfl; have b2 := K.out.2 2 (.bool true) rfl; have b3 := K.out.2 3 (.int .i64 P) rfl; have b4 := K.out.2 4 (.int .i64 V) rfl; have b5 := K.out.2 5 (.int .i64 H) rfl; have b6 := K.out.2 6 (.int .i64 DV) rfl; have b7 := K.out.2 7 (.int .i64 DP) rfl))
    clear hw2 hw3
    ((go_wp2_with fail; (clear g0 g1 b0 b1 b2 b3 b4 b5 b6 b7 K); have M2 := Lib.hid (M.out.alloc (.cells (List.map (Value.int .i64) [2 * (i : Int), 1]).toArray 2)); refine (row_any g n 1 1 P _ [2 * (i : Int), 1] _ _ M2.out (iv_heap (M2.out.box (.head _)) (all64 (by intro x hx; simp only [List.mem_cons, List.not_mem_nil, or_false] at hx; rcases hx with rfl | rfl <;> (unfold i64; omega)))) (by decide) rfl (by decide) (fun j hj => (by rcases (show j = 0 ∨ j = 1 ∨ j = 2 by omega) with rfl | rfl | rfl <;> first | (exfalso; omega) | exact ⟨(show (0 : Int) ≤ (2 * (i : Int)) by omega), (show (2 * (i : Int)) < (n : Int) by omega)⟩ | exact ⟨(show (0 : Int) ≤ (2 * (i : Int)) by omega), (show (2 * (i : Int)) < (n : Int) by omega)⟩ | exact ⟨(show (0 : Int) ≤ (2 * (i : Int)) by omega), (show (2 * (i : Int)) < (n : Int) by omega)⟩)) hn (by first | omega | (simp only [List.length_append, List.length_cons, List.length_nil]; omega))).mono ?_; rintro e W3 ⟨rfl, M3⟩; replace M := Lib.hid M3.drop; clear M2 M3; (have K := Lib.hid M.out.keyS; have g0 := K.out.1 0 (.int .i64 n) (by decide) rfl; have g1 := K.out.1 1 (.int .i64 100) (by decide) rfl; have b0 := K.out.2 0 (.bool true) rfl; have b1 := K.out.2 1 (.bool true) rfl; have b2 := K.out.2 2 (.bool true) rfl; have b3 := K.out.2 3 (.int .i64 P) rfl; have b4 := K.out.2 4 (.int .i64 V) rfl; have b5 := K.out.2 5 (.int .i64 H) rfl; have b6 := K.out.2 6 (.int .i64 DV) rfl; have b7 := K.out.2 7 (.int .i64 DP) rfl)); (go_wp2_with fail; (clear g0 g1 b0 b1 b2 b3 b4 b5 b6 b7 K); have M2 := Lib.hid (M.out.alloc (.cells (List.map (Value.int .i64) [2 * (i : Int) + 1, 1]).toArray 2)); refine (row_any g n 1 1 V _ [2 * (i : Int) + 1, 1] _ _ M2.out (iv_heap (M2.out.box (.head _)) (all64 (by intro x hx; simp only [List.mem_cons, List.not_mem_nil, or_false] at hx; rcases hx with rfl | rfl <;> (unfold i64; omega)))) (by decide) rfl (by decide) (fun j hj => (by rcases (show j = 0 ∨ j = 1 ∨ j = 2 by omega) with rfl | rfl | rfl <;> first | (exfalso; omega) | exact ⟨(show (0 : Int) ≤ (2 * (i : Int) + 1) by omega), (show (2 * (i : Int) + 1) < (n : Int) by omega)⟩ | exact ⟨(show (0 : Int) ≤ (2 * (i : Int) + 1) by omega), (show (2 * (i : Int) + 1) < (n : Int) by omega)⟩ | exact ⟨(show (0 : Int) ≤ (2 * (i : Int) + 1) by omega), (show (2 * (i : Int) + 1) < (n : Int) by omega)⟩)) hn (by first | omega | (simp only [List.length_append, List.length_cons, List.length_nil]; omega))).mono ?_; rintro e W4 ⟨rfl, M3⟩; replace M := Lib.hid M3.drop; clear M2 M3; (have K := Lib.hid M.out.keyS; have g0 := K.out.1 0 (.int .i64 n) (by decide) rfl; have g1 := K.out.1 1 (.int .i64 100) (by decide) rfl; have b0 := K.out.2 0 (.bool true) rfl; have b1 := K.out.2 1 (.bool true) rfl; have b2 := K.out.2 2 (.bool true) rfl; have b3 := K.out.2 3 (.int .i64 P) rfl; have b4 := K.out.2 4 (.int .i64 V) rfl; have b5 := K.out.2 5 (.int .i64 H) rfl; have b6 := K.out.2 6 (.int .i64 DV) rfl; have b7 := K.out.2 7 (.int .i64 DP) rfl)); (go_wp2_with fail; (clear g0 g1 b0 b1 b2 b3 b4 b5 b6 b7 K); have M2 := Lib.hid (M.out.alloc (.cells (List.map (Value.int .i64) [2 * (i : Int), 1, (n : Int) - 1, 1]).toArray 2)); refine (row_any g n 2 2 H _ [2 * (i : Int), 1, (n : Int) - 1, 1] _ _ M2.out (iv_heap (M2.out.box (.head _)) (all64 (by intro x hx; simp only [List.mem_cons, List.not_mem_nil, or_false] at hx; rcases hx with rfl | rfl | rfl | rfl <;> (unfold i64; omega)))) (by decide) rfl (by decide) (fun j hj => (by rcases (show j = 0 ∨ j = 1 ∨ j = 2 by omega) with rfl | rfl | rfl <;> first | (exfalso; omega) | exact ⟨(show (0 : Int) ≤ (2 * (i : Int)) by omega), (show (2 * (i : Int)) < (n : Int) by omega)⟩ | exact ⟨(show (0 : Int) ≤ ((n : Int) - 1) by omega), (show ((n : Int) - 1) < (n : Int) by omega)⟩ | exact ⟨(show (0 : Int) ≤ ((n : Int) - 1) by omega), (show ((n : Int) - 1) < (n : Int) by omega)⟩)) hn (by first | omega | (simp only [List.length_append, List.length_cons, List.length_nil]; omega))).mono ?_; rintro e W5 ⟨rfl, M3⟩; replace M := Lib.hid M3.drop; clear M2 M3; (have K := Lib.hid M.out.keyS; have g0 := K.out.1 0 (.int .i64 n) (by decide) rfl; have g1 := K.out.1 1 (.int .i64 100) (by decide) rfl; have b0 := K.out.2 0 (.bool true) rfl; have b1 := K.out.2 1 (.bool true) rfl; have b2 := K.out.2 2 (.bool true) rfl; have b3 := K.out.2 3 (.int .i64 P) rfl; have b4 := K.out.2 4 (.int .i64 V) rfl; have b5 := K.out.2 5 (.int .i64 H) rfl; have b6 := K.out.2 6 (.int .i64 DV) rfl; have b7 := K.out.2 7 (.int .i64 DP) rfl)); go_wp2_with fail; refine bodyPost_end (results_none Tryz.results38 _ _ _) rfl ⟨rfl, ?_⟩; have MF := M.out.drop)
    rw [keyRows, motRows, if_neg h0]
    simp only [List.append_assoc] at MF
    exact MF
end Go.Proofs.YtmidifgnpjlgcaaGreat
