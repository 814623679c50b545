/- The texts Ua, Uz, Va, Vb of the walk of the law and of all that it calls, in one file. No condition. -/
import Derived.Test.YtmidifgnpjlgcaaGreatY17
/- A growing list of one's own among other blocks that are held. -/
set_option linter.unusedVariables false
set_option linter.unusedSimpArgs false
namespace Go.Proofs.YtmidifgnpjlgcaaGreat
open Go.RowKit

variable {w0 w w2 : World} {l l2 A : List (Nat × Obj)}
theorem Keep.perm (K : Keep w0 l w) (h : l.Perm l2) : Keep w0 l2 w := ⟨fun p hp => K.box p (h.mem_iff.2 hp), fun p hp => K.own p (h.mem_iff.2 hp), (h.map Prod.fst).nodup_iff.1 K.one, K.B⟩
theorem Keep.join (K : Keep w0 l w) (K2 : Keep w l2 w2) : Keep w0 (l2 ++ l) w2 := by
  have K' := Keep.stays _ _ K K2.B
  refine ⟨fun p hp => ?_, fun p hp => ?_, ?_, K'.B⟩
  · rcases List.mem_append.1 hp with h | h
    · exact K2.box p h
    · exact K'.box p h
  · rcases List.mem_append.1 hp with h | h
    · exact Nat.le_trans K.B.size (K2.own p h)
    · exact K'.own p h
  · rw [List.map_append, List.nodup_append]
    refine ⟨K2.one, K.one, fun a ha b hb => ?_⟩
    obtain ⟨p, hp, rfl⟩ := List.mem_map.1 ha
    obtain ⟨q, hq, rfl⟩ := List.mem_map.1 hb
    have h1 := K2.own p hp
    have h2 := K.lt hq
    omega

theorem Keep.front (K : Keep w0 (A ++ l) w) : Keep w0 A w :=
  ⟨fun p hp => K.box p (List.mem_append_left _ hp), fun p hp => K.own p (List.mem_append_left _ hp), by have := K.one; rw [List.map_append, List.nodup_append] at this; exact this.1, K.B⟩
theorem exec_append {P : Program} {o : Oper} {a : Act} {v' : Value} {w w' : World} (s x : Operand) (t : TypeId) (ho : o.op = .call { callee := .builtin .append, args := #[s, x], argTypes := #[t, t] }) (h : (Builtin.append_ #[t, t] o.type #[a.eval s, a.eval x]).run P w = .ok v' w') : (execOp a.eval o).run P w = .ok (.value v') w' := by
  unfold execOp
  simp only [ho, resolve, invoke, builtin, Sem.run_bind, Sem.run_pure, Result.andThen_ok, List.map_toArray, List.map_cons, List.map_nil, h]
/-- A growing list: so many of its elements, what its cells hold; front blocks, other blocks. -/
def GL (w0 : World) (A : List (Nat × Obj)) (e : TypeId) (size : Nat) (v : Value) (n : Nat) (xs : List Value) (l : List (Nat × Obj)) (w : World) : Prop :=
  xs.length = n * size ∧ ((n = 0 ∧ v = .slice none 0 0 ∧ Keep w0 (A ++ l) w) ∨
    ∃ h cap rest, v = .slice (some ⟨h, 0, none⟩) n cap ∧ Keep w0 (A ++ (h, .cells (xs ++ rest).toArray e) :: l) w ∧ n ≤ cap ∧ cap ≤ maxLen ∧ (xs ++ rest).length = cap * size)
theorem GL.nil {e : TypeId} {size : Nat} (K : Keep w0 (A ++ l) w) : GL w0 A e size (.slice none 0 0) 0 [] l w := ⟨by simp, .inl ⟨rfl, rfl, K⟩⟩
/-- The blocks behind the front are whatever they are. -/
theorem GL.out {e : TypeId} {size n : Nat} {v : Value} {xs : List Value} (G : GL w0 A e size v n xs l w) : ∃ R, Keep w0 (A ++ R) w ∧ ∀ A' w', Keep w0 (A' ++ R) w' → GL w0 A' e size v n xs l w' := by
  obtain ⟨hl, ⟨h0, hv, K⟩ | ⟨h, cap, rest, hv, K, h1, h2, h3⟩⟩ := G
  · exact ⟨l, K, fun A' w' K' => ⟨hl, .inl ⟨h0, hv, K'⟩⟩⟩
  · exact ⟨_, K, fun A' w' K' => ⟨hl, .inr ⟨h, cap, rest, hv, K', h1, h2, h3⟩⟩⟩
theorem GL.sink {e : TypeId} {size n : Nat} {v : Value} {xs : List Value} {x : Nat × Obj} (G : GL w0 (x :: A) e size v n xs l w) : GL w0 A e size v n xs (x :: l) w := by
  obtain ⟨hl, ⟨h0, hv, K⟩ | ⟨h, cap, rest, hv, K, h1, h2, h3⟩⟩ := G
  · exact ⟨hl, .inl ⟨h0, hv, K.perm List.perm_middle.symm⟩⟩
  · refine ⟨hl, .inr ⟨h, cap, rest, hv, K.perm ?_, h1, h2, h3⟩⟩
    have e1 : (x :: A ++ (h, Obj.cells (xs ++ rest).toArray e) :: l).Perm (x :: (A ++ (h, Obj.cells (xs ++ rest).toArray e) :: l)) := List.Perm.refl _
    refine e1.trans ?_
    have e2 : (A ++ (h, Obj.cells (xs ++ rest).toArray e) :: x :: l) = ((A ++ [(h, Obj.cells (xs ++ rest).toArray e)]) ++ x :: l) := by simp
    rw [e2]
    refine List.Perm.trans ?_ List.perm_middle.symm
    simp
theorem GL.drop {e : TypeId} {size n : Nat} {v : Value} {xs : List Value} {x : Nat × Obj} (G : GL w0 (x :: A) e size v n xs l w) : GL w0 A e size v n xs l w := by
  obtain ⟨hl, ⟨h0, hv, K⟩ | ⟨h, cap, rest, hv, K, h1, h2, h3⟩⟩ := G
  · exact ⟨hl, .inl ⟨h0, hv, K.rest⟩⟩
  · exact ⟨hl, .inr ⟨h, cap, rest, hv, K.rest, h1, h2, h3⟩⟩
theorem GL.perm {e : TypeId} {size n : Nat} {v : Value} {xs : List Value} (G : GL w0 A e size v n xs l w) (hp : l.Perm l2) : GL w0 A e size v n xs l2 w := by
  obtain ⟨hl, ⟨h0, hv, K⟩ | ⟨h, cap, rest, hv, K, h1, h2, h3⟩⟩ := G
  · exact ⟨hl, .inl ⟨h0, hv, K.perm (hp.append_left A)⟩⟩
  · exact ⟨hl, .inr ⟨h, cap, rest, hv, K.perm ((hp.cons _).append_left A), h1, h2, h3⟩⟩
theorem GL.stay {e : TypeId} {size n : Nat} {v : Value} {xs : List Value} (G : GL w0 A e size v n xs l w) (hb : Below w.heap.size w w2) : GL w0 A e size v n xs l w2 := by
  obtain ⟨R, K, h⟩ := G.out
  exact h A w2 (Keep.stays _ _ K hb)
theorem GL.sl {e : TypeId} {size n : Nat} {v : Value} {xs : List Value} (G : GL w0 A e size v n xs l w) : ∃ B c, v = .slice B n c := by
  obtain ⟨hl, ⟨h0, hv, K⟩ | ⟨h, cap, rest, hv, K, h1, h2, h3⟩⟩ := G
  · exact ⟨none, 0, by rw [h0]; exact hv⟩
  · exact ⟨_, _, hv⟩
/-- What the list's cells hold. -/
theorem GL.cell {e : TypeId} {size n : Nat} {B : Option Addr} {n2 c : Nat} {xs : List Value} (G : GL w0 A e size (.slice B n2 c) n xs l w) {j : Nat} (hj : j < xs.length) : ∃ h, B = some ⟨h, 0, none⟩ ∧ w0.heap.size ≤ h ∧ h < w.heap.size ∧ w.cell? ⟨h, j, none⟩ = some (xs.getD j undef) := by
  obtain ⟨hl, ⟨h0, hv, K⟩ | ⟨h, cap, rest, hv, K, h1, h2, h3⟩⟩ := G
  · rw [hl, h0] at hj
    simp at hj
  · cases hv
    have m : (h, Obj.cells (xs ++ rest).toArray e) ∈ A ++ (h, .cells (xs ++ rest).toArray e) :: l := by simp
    refine ⟨h, rfl, K.own _ m, K.lt m, K.cell m ?_⟩
    rw [List.getElem?_toArray, List.getElem?_append_left hj, List.getD_eq_getElem?_getD, List.getElem?_eq_getElem hj]
    rfl

theorem GL.app {e t ty : TypeId} {i : TypeInfo} {z : Value} {size bytes n m : Nat} {v : Value} {xs news : List Value} (G : GL w0 A e size v n xs l w) (ht : Tryz.prog.underlying t = some (.slice e)) (hi : Tryz.prog.info? e = some i) (hz : i.zero = some z) (hsize : i.size = size) (hby : i.bytes = bytes) (hzs : z.cells.size = size)
    (b : Addr) (hl : news.length = m * size) (hnews : ∀ j u, news[j]? = some u → w.cell? (b.add j) = some u) (h1 : ∀ u ∈ news, u.oneCell' = true) (hm : 0 < m) (h63 : n + m ≤ maxLen) (hbytes : (n + m) * bytes ≤ 140737488355328) (c : Nat) :
    ∃ v' w', (Builtin.append_ #[t, t] ty #[v, .slice (some b) m c]).run Tryz.prog w = .ok v' w' ∧ GL w0 A e size v' (n + m) (xs ++ news) l w' := by
  subst hsize
  subst hby
  have hsmall : n + m ≤ 9223372036854775807 := by simp only [maxLen] at h63; omega
  have hx := G.1
  have hlen : (xs ++ news).length = (n + m) * i.size := by rw [List.length_append, hx, hl, Nat.add_mul]
  have fresh : ∀ (old : Nat) {l3 : List (Nat × Obj)}, old < n + m → Keep w0 (A ++ l3) w → (∀ o, ((w.heap.size, o) :: (A ++ l3)).Perm (A ++ (w.heap.size, o) :: l3)) ∧
      Keep w0 (A ++ (w.heap.size, .cells ((xs ++ news) ++ (Builtin.zeroCells z.cells (grownCap w (n + m) old e - (n + m))).toList).toArray e) :: l3) (w.drew.alloc (.cells (xs.toArray ++ news.toArray ++ Builtin.zeroCells z.cells (grownCap w (n + m) old e - (n + m))) e)) := by
    intro old l3 ho K
    have ep : ∀ o, ((w.heap.size, o) :: (A ++ l3)).Perm (A ++ (w.heap.size, o) :: l3) := fun o => List.perm_middle.symm
    refine ⟨ep, ?_⟩
    have K2 := (K.drew.alloc (.cells (xs.toArray ++ news.toArray ++ Builtin.zeroCells z.cells (grownCap w (n + m) old e - (n + m))) e)).perm (ep _)
    have eo : xs.toArray ++ news.toArray ++ Builtin.zeroCells z.cells (grownCap w (n + m) old e - (n + m)) = ((xs ++ news) ++ (Builtin.zeroCells z.cells (grownCap w (n + m) old e - (n + m))).toList).toArray := by
      apply Array.ext'
      simp
    rw [eo] at K2 ⊢
    exact K2
  have cap : ∀ old, old < n + m → n + m ≤ grownCap w (n + m) old e ∧ grownCap w (n + m) old e ≤ maxLen ∧ ((xs ++ news) ++ (Builtin.zeroCells z.cells (grownCap w (n + m) old e - (n + m))).toList).length = grownCap w (n + m) old e * i.size := by
    intro old ho
    have hge := grownCap_ge w (n + m) old e
    refine ⟨hge, grownCap_le_maxLen w (n + m) old e h63, ?_⟩
    rw [List.length_append, hlen, Array.length_toList, size_zeroCells, hzs, ← Nat.add_mul, Nat.add_sub_cancel' hge]
  obtain ⟨-, ⟨rfl, rfl, K⟩ | ⟨h, cap0, rest, rfl, K, hc1, hc2, hc3⟩⟩ := G
  · have hx0 : xs = [] := List.eq_nil_of_length_eq_zero (by simpa using hx)
    subst hx0
    have hr := run_append_nil (P := Tryz.prog) (w := w) t ty e i z ht hi hz b m c news hl hnews (by omega) (by omega) (by have hb := hbytes; simp only [Nat.zero_add] at hb; omega)
    have f := (fresh 0 (by omega) K).2
    have cc := cap 0 (by omega)
    simp only [Nat.zero_add, List.nil_append, Array.empty_append] at f cc hlen hr ⊢
    exact ⟨_, _, hr, hlen, .inr ⟨_, _, _, rfl, f, cc.1, cc.2.1, cc.2.2⟩⟩
  · by_cases hroom : n + m ≤ cap0
    · have hg := K.gb (b := h) (vs := (xs ++ rest).toArray) (t := e) (by simp)
      have hfit : n * i.size + news.length ≤ (xs ++ rest).toArray.size := by
        rw [List.size_toArray, hc3, hl, ← Nat.add_mul]
        exact Nat.mul_le_mul_right _ hroom
      have hr := run_append_room (P := Tryz.prog) w t ty e i ht hi h n cap0 _ hg b m c news hl hnews h1 hroom hfit
      have et : ((xs ++ rest).toArray.toList.take (n * i.size) ++ news ++ (xs ++ rest).toArray.toList.drop (n * i.size + news.length)) = (xs ++ news) ++ rest.drop news.length := by
        show (xs ++ rest).take (n * i.size) ++ news ++ (xs ++ rest).drop (n * i.size + news.length) = _
        rw [← hx, List.take_left, ← List.drop_drop, show (xs ++ rest).drop xs.length = rest from List.drop_left]
      rw [et] at hr
      have hs : ((xs ++ news) ++ rest.drop news.length).length = (xs ++ rest).length := by
        rw [List.size_toArray] at hfit
        rw [List.length_append] at hfit
        rw [List.length_append, List.length_append, List.length_append, List.length_drop]
        omega
      refine ⟨_, _, hr, hlen, .inr ⟨h, cap0, rest.drop news.length, rfl, Keep.setRow A K _ (by rw [List.size_toArray, List.size_toArray, hs]), hroom, hc2, by rw [hs, hc3]⟩⟩
    · have holds : ∀ j u, xs[j]? = some u → w.cell? ((⟨h, 0, none⟩ : Addr).add j) = some u := by
        intro j u hu
        have ea : ((⟨h, 0, none⟩ : Addr).add j) = ⟨h, j, none⟩ := by unfold Addr.add; split <;> simp_all
        rw [ea]
        refine K.cell (b := h) (vs := (xs ++ rest).toArray) (t := e) (by simp) ?_
        rw [List.getElem?_toArray, List.getElem?_append_left (List.getElem?_eq_some_iff.1 hu).1]
        exact hu
      have hr := run_append_grow (P := Tryz.prog) (w := w) t ty e i z ht hi hz ⟨h, 0, none⟩ n cap0 xs hx holds b m c news hl hnews (by omega) (by omega) (growslice_fits (by omega) hbytes)
      have f := (fresh cap0 (by omega) K).2
      have cc := cap cap0 (by omega)
      refine ⟨_, _, hr, hlen, .inr ⟨_, _, _, rfl, ?_, cc.1, cc.2.1, cc.2.2⟩⟩
      have p1 : ∀ o o2 : Obj, (A ++ (w.heap.size, o) :: (h, o2) :: l).Perm ((h, o2) :: (A ++ (w.heap.size, o) :: l)) := by
        intro o o2
        have e2 : (A ++ (w.heap.size, o) :: (h, o2) :: l) = ((A ++ [(w.heap.size, o)]) ++ (h, o2) :: l) := by simp
        rw [e2]
        refine List.perm_middle.trans ?_
        simp
      exact (f.perm (p1 _ _)).rest
end Go.Proofs.YtmidifgnpjlgcaaGreat
/- Two general lemmas: a call at the head of a region, the place of a cell. -/
set_option linter.unusedVariables false
set_option linter.unusedSimpArgs false
namespace Go.Proofs.YtmidifgnpjlgcaaGreat
open Go.RowKit

theorem wpList_exec {P : Program} {ops : Array Oper} {rest : List Oper} {o : Oper} {a : Act} {Q : Exit → Act → World → Prop} {w w' : World} {v : Value} (hgd : o.guard = none) (hr : (execOp a.eval o).run P w = .ok (.value v) w') (h : wpList P ops Q rest (a.put o.dst v) w') : wpList P ops Q (o :: rest) a w :=
  wpList_plain hgd fun K hK => by
    unfold Oper.wp
    rw [hr]
    exact hK _ _ h
theorem add0 (b j : Nat) : ((⟨b, 0, none⟩ : Addr).add j) = ⟨b, j, none⟩ := by unfold Addr.add; split <;> simp_all
end Go.Proofs.YtmidifgnpjlgcaaGreat
/- The walks of touches, times, first. -/
set_option linter.unusedVariables false
set_option linter.unusedSimpArgs false
namespace Go.Proofs.YtmidifgnpjlgcaaGreat
open Go.RowKit

set_option maxHeartbeats 1000000 in
set_option maxRecDepth 100000 in
theorem touch81_any (n : Int) (w : World) : Calls Tryz.prog 81 #[.int .i64 n] w fun e w' => e = .returned (.bool (!decide (n = 0))) ∧ Below w.heap.size w w' := by
  have HB := Lib.hid (Below.refl w.heap.size w)
  go_enter Tryz.func81, Tryz.ntmps81
  go_wp2_with fail
  go_ret
  exact ⟨ret_bool (by first | rfl | (by_cases h : n = 0 <;> simp [h])), HB.out⟩

set_option maxHeartbeats 4000000 in
set_option maxRecDepth 100000 in
theorem index81_any (s : Value) (xs : List Int) (w : World) (h : Iv w s xs) (l : xs.length ≤ 1000000) :
    Calls Tryz.prog 72 #[s, .func (.func 81) #[] #[]] w fun e w' => ∃ k, e = .returned (.int .i64 k) ∧ (-1 ≤ k ∧ k ≤ 1000000) ∧ decide (0 ≤ k) = nonz xs ∧ Below w.heap.size w w' := by
  obtain ⟨A, c, rfl, -, ha⟩ := h
  have HA := Lib.hid ha
  have K := Lib.hid (Keep.start w)
  clear ha
  go_enter Tryz.func72, Tryz.ntmps72
  go_wp2_with fail
  go_loopg [8] xs.length (fun gk iv wr => ∃ i : Nat, gk + i = xs.length ∧ iv = .int .i64 (i : Int) ∧ (∀ j, j < i → xs.getD j 0 = 0) ∧ Keep w [] wr)
  case atStart => exact ⟨0, by omega, rfl, fun j hj => absurd hj (by omega), K.out⟩
  case round =>
    clear K
    obtain ⟨i, hgi, rfl, hz, k⟩ := hrel
    have K := Lib.hid k
    have HZ := Lib.hid hz
    clear k hz
    by_cases hi : i < xs.length
    · obtain ⟨-, p, rfl, hp, hpc⟩ := HA.out i hi
      have X : wr.cell? (p.add i) = some (.int .i64 (xs.getD i 0)) := by rw [K.out.B.cell (p := p.add i) (by rw [add_block]; exact hp)]; exact hpc
      clear hp hpc
      generalize hxx : xs.getD i 0 = x at X
      have HX := Lib.hid hxx
      clear hxx
      go_wp2_with fail
      (refine ((touch81_any x _)).mono ?_; rintro e w2 ⟨rfl, hb⟩; replace K := Lib.hid (Keep.stays _ _ K.out hb); clear hb)
      clear X
      by_cases hx : x = 0
      · subst hx
        go_wp2_with fail
        go_roundg (gk - 1)
        case measure => omega
        case rel =>
          refine ⟨i + 1, by omega, congrArg (Value.int .i64) (by omega), fun j hj => ?_, K.out⟩
          by_cases e : j = i
          · rw [e]; exact HX.out
          · exact HZ.out j (by omega)
      · go_wp2_with fail
        go_ret
        refine ⟨_, rfl, by omega, ?_, K.out.B⟩
        rw [decide_eq_true (by omega)]
        unfold nonz
        rw [decide_eq_false (fun h => hx (by rw [← HX.out]; exact h i hi))]
        rfl
    · go_wp2_with fail
      go_ret
      refine ⟨_, rfl, by omega, ?_, K.out.B⟩
      rw [decide_eq_false (by omega)]
      unfold nonz
      rw [decide_eq_true (fun j hj => HZ.out j (by omega))]
      rfl

set_option maxHeartbeats 4000000 in
set_option maxRecDepth 100000 in
theorem contains81_any (s : Value) (xs : List Int) (w : World) (h : Iv w s xs) (l : xs.length ≤ 1000000) :
    Calls Tryz.prog 34 #[s, .func (.func 81) #[] #[]] w fun e w' => e = .returned (.bool (nonz xs)) ∧ Below w.heap.size w w' := by
  have K := Lib.hid (Keep.start w)
  have H := Lib.hid h
  clear h
  go_enter Tryz.func34, Tryz.ntmps34
  go_wp2_with fail
  refine (index81_any s xs _ (H.out.below K.out.B) l).mono ?_
  rintro e w2 ⟨k, rfl, ⟨k1, k2⟩, hk, hb⟩
  replace K := Lib.hid (Keep.stays _ _ K.out hb)
  have HK := Lib.hid hk
  clear hb hk
  go_wp2_with fail
  go_ret
  exact ⟨ret_bool HK.out, K.out.B⟩

theorem iv_take {w : World} {A : Option Addr} {n c k : Nat} {xs : List Int} (h : Iv w (.slice A n c) xs) (hk : k ≤ n) : Iv w (.slice A k c) (xs.take k) := by
  obtain ⟨A2, c2, hv, h0, hh⟩ := h
  injection hv with e1 e2 e3
  subst e1
  refine ⟨A, c, by rw [List.length_take, Nat.min_eq_left (by omega)], fun e => by rw [e3]; exact h0 e, fun j hj => ?_⟩
  rw [List.length_take] at hj
  have e : (xs.take k).getD j 0 = xs.getD j 0 := by
    rw [List.getD_eq_getElem?_getD, List.getElem?_take, if_pos (by omega), ← List.getD_eq_getElem?_getD]
  rw [e]
  exact hh j (by omega)
variable {w0 w : World} {l l2 : List (Nat × Obj)}
set_option maxHeartbeats 4000000 in
set_option maxRecDepth 100000 in
theorem touches_any (B : Option Addr) (d n k : Nat) (r : Rw) (w : World) (h : Iv w (.slice B n d) r.coef) (hl : r.coef.length = n) (hd : n ≤ d) (hk0 : 0 < k) (hk : k ≤ n) (hn : n ≤ 11) :
    Calls Tryz.prog 48 #[.agg #[.slice B n d, .int .i64 r.z, .int .i64 r.knee, .int .i64 r.weight], .int .i64 k] w fun e w' => e = .returned (.bool (nonz (r.coef.take k))) ∧ Below w.heap.size w w' := by
  have K := Lib.hid (Keep.begin1 w (.cells #[.slice B n d, .int .i64 r.z, .int .i64 r.knee, .int .i64 r.weight] 70))
  have H := Lib.hid (iv_take h hk)
  have hsome : ∃ p, B = some p := by
    obtain ⟨A2, c2, hv, -, hh⟩ := h
    injection hv with e
    obtain ⟨-, p, hp, -⟩ := hh 0 (by omega)
    exact ⟨p, e.trans hp⟩
  obtain ⟨p, rfl⟩ := hsome
  have hk1 : (0 : Int) ≤ (k : Int) := by omega
  have hk2 : (k : Int) ≤ (d : Int) := by omega
  clear h
  go_enter Tryz.func48, Tryz.ntmps48
  go_upto_region 1 with fail
  have x0 := K.out.cell (k := 0) (.head _) rfl
  go_wp2_with fail
  refine (contains81_any _ (r.coef.take k) _ (H.out.below K.out.B) (by rw [List.length_take]; omega)).mono ?_
  rintro e w2 ⟨rfl, hb⟩
  replace K := Lib.hid (Keep.stays _ _ K.out hb)
  clear hb x0
  go_wp2_with fail
  go_ret
  exact ⟨rfl, K.out.B⟩

set_option maxHeartbeats 4000000 in
set_option maxRecDepth 100000 in
theorem times_any (v t : Value) (q : Bool) (n N M : Nat) (f : Nat → Int) (z : Int) (w : World) (h1 : Lv w v n N f) (h2 : Nz w q t z M) (hN : N + M + n ≤ 300000) :
    Calls Tryz.prog 56 #[v, .agg #[.bool q, t]] w fun e w' => ∃ u, e = .returned u ∧ Lo w' w.heap.size u n (N + M + 1) (fun j => f j * z) ∧ Below w.heap.size w w' := by
  obtain ⟨A, c, rfl, ha0, ha⟩ := h1
  obtain ⟨TA, tl, tc, rfl⟩ := h2.sl
  have K := Lib.hid (Keep.begin2 w (Obj.num q (.slice TA tl tc)) (Obj.lst (List.replicate n Nm.zero)))
  have hmk := mk_lst n (by omega) n rfl
  have HA := Lib.hid ha; have HB := Lib.hid h2
  clear ha h2 ha0
  go_enter Tryz.func56, Tryz.ntmps56
  go_wp2_with fail
  go_loopg [12] n (fun gk iv wr => ∃ (i : Nat) (L : List Nm), gk + i = n ∧ iv = .int .i64 (i : Int) ∧ L.length = n ∧ Els wr L (N + M + 1) (upto i (fun j => f j * z)) ∧ Keep w [(w.heap.size + 1, Obj.lst L), (w.heap.size, Obj.num q (.slice TA tl tc))] wr)
  case atStart => exact ⟨0, _, by omega, rfl, by simp, (Els.zero _ _ _).more (Nat.le_refl _) (fun k _ => upto_zero _ k), K.out⟩
  case round =>
    clear K hmk
    obtain ⟨i, L, hgi, rfl, hl, he, k'⟩ := hrel
    have K := Lib.hid k'
    have HL := Lib.hid hl
    have HE := Lib.hid he
    clear k' hl he
    by_cases hi : i < n
    · obtain ⟨b, n1, B1, l1, d1, rfl, hlt1, x0, x1, hn1⟩ := HA.out i hi
      have X0 := Keep.far K hlt1 x0
      have X1 := Keep.far K hlt1 x1
      obtain ⟨e10, e11⟩ := Keep.anm K (.tail _ (.head _))
      have H1 := Lib.hid hn1
      clear x0 x1 hn1
      go_upto_region 5 with fail
      (refine region_ord _ 8 (by kernel_rfl) (by kernel_rfl) K.out.drew ?_; clear K; intro W K hbw; replace K := Lib.hid K)
      replace HE := Lib.hid (HE.out.below hbw)
      clear hbw
      (refine Ord.take' 0 rfl (by kernel_rfl) (fun _ _ _ _ h => h) K.out (by rfl) ?_; apply Exists.intro; refine ⟨fun p => ?_, ?_⟩; (focus (go_simp; (try (with_reducible rfl)); done)); (try simp only [Act.put, List.setIfInBounds_toArray, List.set_cons_zero, List.set_cons_succ]))
      (refine Ord.take' 1 rfl (by kernel_rfl) (fun _ _ _ _ h => h) K.out (by rfl) ?_; apply Exists.intro; refine ⟨fun p => ?_, ?_⟩; (focus (go_simp; (try (with_reducible rfl)); done)); (try simp only [Act.put, List.setIfInBounds_toArray, List.set_cons_zero, List.set_cons_succ]))
      (refine Ord.take' 2 rfl (by kernel_rfl) (fun _ _ _ _ h => h) K.out (by rfl) ?_; apply Exists.intro; refine ⟨fun p => ?_, ?_⟩; (focus (go_simp; (try (with_reducible rfl)); done)); (try simp only [Act.put, List.setIfInBounds_toArray, List.set_cons_zero, List.set_cons_succ]))
      (refine Ord.take' 3 rfl (by kernel_rfl) (fun _ _ _ _ h => h) K.out (by rfl) ?_; apply Exists.intro; refine ⟨fun p => ?_, ?_⟩; (focus (go_simp; (try (with_reducible rfl)); done)); (try simp only [Act.put, List.setIfInBounds_toArray, List.set_cons_zero, List.set_cons_succ]))
      (refine Ord.take' 4 rfl (by kernel_rfl) (fun _ _ _ _ h => h) K.out (by rfl) ?_; apply Exists.intro; refine ⟨fun p => ?_, ?_⟩; (focus (go_simp; (try (with_reducible rfl)); done)); (try simp only [Act.put, List.setIfInBounds_toArray, List.set_cons_zero, List.set_cons_succ]))
      (refine Ord.take' 5 rfl (by kernel_rfl) (fun _ _ _ _ h => h) K.out (by rfl) ?_; apply Exists.intro; refine ⟨fun p => ?_, ?_⟩; (focus (go_simp; (try (with_reducible rfl)); done)); (try simp only [Act.put, List.setIfInBounds_toArray, List.set_cons_zero, List.set_cons_succ]))
      (refine Ord.take' 6 rfl (by kernel_rfl) (fun _ _ _ _ h => h) K.out (by rfl) ?_; apply Exists.intro; refine ⟨fun p => ?_, ?_⟩; (focus (go_simp; (try (with_reducible rfl)); done)); (try simp only [Act.put, List.setIfInBounds_toArray, List.set_cons_zero, List.set_cons_succ]))
      clear X0 X1 e10 e11
      (refine Ord.call 7 (g := 23) (args := (#[.agg #[.bool n1, .slice B1 l1 d1], .agg #[.bool q, .slice TA tl tc]])) rfl (by kernel_rfl) (by rfl) (by (go_simp; try (with_reducible rfl))) ?_)
      refine (mul_nz (H1.out.below K.out.B) (HB.out.below K.out.B) (by omega) (by omega)).mono ?_
      rintro e w3 ⟨q3, A3, l3, c3, rfl, hN3, hb⟩
      (refine ⟨_, rfl, Keep.stays _ _ K.out hb, ?_⟩; replace K := Lib.hid (Keep.stays _ _ K.out hb); simp only [Act.put, List.setIfInBounds_toArray, List.set_cons_zero, List.set_cons_succ])
      replace HE := Lib.hid (HE.out.below hb)
      have H3 := Lib.hid hN3
      clear hb hN3
      (refine Ord.done (by kernel_rfl) ?_; simp only [List.drop_succ_cons, List.drop_zero, Act.put, List.setIfInBounds_toArray, List.set_cons_zero, List.set_cons_succ])
      obtain ⟨c0, c1⟩ := K.out.lstc (.head _) i (by rw [HL.out]; exact hi)
      have f1 := K.out.lstw (.head _)
      go_wp2_with fail
      clear c0 c1 f1
      go_roundg (gk - 1)
      case measure => omega
      case rel =>
        have c00 := (K.out.lstc (.head _) 0 (by rw [HL.out]; omega)).1
        exact ⟨i + 1, L.set i ⟨q3, A3, l3, c3⟩, by omega, congrArg (Value.int .i64) (by omega), by rw [List.length_set]; exact HL.out, (HE.out.putAt c00 _ _).fill _ ((H3.out.putAt c00 _ _).more (by omega)), K.out.setl_0 i ⟨q3, A3, l3, c3⟩⟩
    · replace HE := Lib.hid (HE.out.more (Nat.le_refl _) (fun k hk => upto_all _ (show k < i by have := HL.out; omega)))
      go_wp2_with fail
      go_ret
      exact ⟨_, rfl, ⟨w.heap.size + 1, L, rfl, by omega, K.out.box _ (.head _), HL.out, HE.out⟩, K.out.B⟩

/-- A list of numbers that may be cut. -/
def Lw (w : World) (v : Value) (m N : Nat) (f : Nat → Int) : Prop := ∃ g d, v = .slice (some ⟨g, 0, none⟩) m d ∧ m ≤ d ∧ Lv w v m N f
theorem Lw.below {w w' : World} {v : Value} {m N : Nat} {f : Nat → Int} (h : Lw w v m N f) (hb : Below w.heap.size w w') : Lw w' v m N f := by
  obtain ⟨g, d, h1, h2, h3⟩ := h
  exact ⟨g, d, h1, h2, h3.below hb⟩
/-- A matrix that may be cut. -/
def Mw (w : World) (v : Value) (n m N : Nat) (f : Nat → Nat → Int) : Prop := ∃ b c, v = .slice (some ⟨b, 0, none⟩) n c ∧ n ≤ c ∧ b < w.heap.size ∧ ∀ j, j < n → ∃ x, w.cell? ⟨b, j, none⟩ = some x ∧ Lw w x m N (f j)
theorem Mw.below {w w' : World} {v : Value} {n m N : Nat} {f : Nat → Nat → Int} (h : Mw w v n m N f) (hb : Below w.heap.size w w') : Mw w' v n m N f := by
  obtain ⟨b, c, h1, h2, h3, h4⟩ := h
  refine ⟨b, c, h1, h2, Nat.lt_of_lt_of_le h3 hb.size, fun j hj => ?_⟩
  obtain ⟨x, k1, k2⟩ := h4 j hj
  exact ⟨x, by rw [hb.cell (p := ⟨b, j, none⟩) h3]; exact k1, k2.below hb⟩
theorem Mw.mv {w : World} {v : Value} {n m N : Nat} {f : Nat → Nat → Int} (h : Mw w v n m N f) : Mv w v n m N f := by
  obtain ⟨b, c, rfl, h2, h3, h4⟩ := h
  refine ⟨_, c, rfl, fun e => (by cases e), fun j hj => ?_⟩
  obtain ⟨x, k1, g, d, rfl, k2, k3⟩ := h4 j hj
  exact ⟨b, _, d, rfl, h3, k1, k3⟩
theorem Lv.take {w : World} {A : Option Addr} {m c k d N : Nat} {f : Nat → Int} (h : Lv w (.slice A m c) m N f) (hk : k ≤ m) (hd : A = none → d = 0) : Lv w (.slice A k d) k N f := by
  obtain ⟨A2, c2, hv, h0, hh⟩ := h
  cases hv
  exact ⟨A, d, rfl, hd, fun j hj => hh j (by omega)⟩
/-- A growing list of lists. -/
def rowsOf (k : Nat) (gs : List Nat) : List Value := gs.map (fun g => .slice (some ⟨g, 0, none⟩) k k)
set_option maxHeartbeats 4000000 in
set_option maxRecDepth 100000 in
theorem first_any (v : Value) (n m k N : Nat) (f : Nat → Nat → Int) (w : World) (h : Mw w v n m N f) (hk0 : 0 < k) (hk : k ≤ n) (hkm : k ≤ m) (hn : n ≤ 1000) :
    Calls Tryz.prog 55 #[v, .int .i64 k] w fun e w' => ∃ u, e = .returned u ∧ Mw w' u k k N f ∧ Below w.heap.size w w' := by
  obtain ⟨b, c, rfl, hc, hb, hr⟩ := h
  have HR := Lib.hid hr
  have K := Lib.hid (Keep.start w)
  have hk1 : (0 : Int) ≤ (k : Int) := by omega
  have hk2 : (k : Int) ≤ (c : Int) := by omega
  clear hr
  go_enter Tryz.func55, Tryz.ntmps55
  go_wp2_with fail
  go_loopg [5, 12] k (fun gk ov iv wr => ∃ (i : Nat) (gs : List Nat), gk + i = k ∧ iv = .int .i64 (i : Int) ∧ gs.length = i ∧ (∀ j, j < i → Lv w (.slice (some ⟨gs.getD j 0, 0, none⟩) k k) k N (f j)) ∧ GL w [] 27 1 ov i (rowsOf k gs) [] wr)
  case atStart => exact ⟨0, [], by omega, rfl, rfl, fun j hj => absurd hj (by omega), GL.nil K.out⟩
  case round =>
    clear K
    obtain ⟨i, gs, hgi, rfl, hgs, hL, G⟩ := hrel
    have HL := Lib.hid hL
    have HGS := Lib.hid hgs
    clear hL hgs
    obtain ⟨B, oc, rfl⟩ := G.sl
    by_cases hi : i < k
    · obtain ⟨x, hx, g, d, rfl, hd, hlv⟩ := HR.out i (by omega)
      obtain ⟨S, KK, back⟩ := G.out
      have e1 := (KK.B.cell (p := ⟨b, i, none⟩) hb).trans hx
      have HN := Lib.hid (Lv.take (d := k) hlv hkm (fun e => by cases e))
      have hkd : (k : Int) ≤ (d : Int) := by omega
      have hiz : (i : Int) < (k : Int) := by omega
      have KT := Lib.hid (KK.alloc (.cells #[.slice (some ⟨g, 0, none⟩) k k] 27))
      obtain ⟨i0, hi0, hx0⟩ := Option.map_eq_some_iff.1 info27
      simp only [Prod.mk.injEq] at hx0
      obtain ⟨hz0, hz1, hz2⟩ := hx0
      obtain ⟨v', W', hrun, G2⟩ := (back [(wr.heap.size, .cells #[.slice (some ⟨g, 0, none⟩) k k] 27)] _ KT.out).app (t := 26) (ty := 26) Tryz.underlying26 hi0 hz0 hz1 hz2 (by rfl) ⟨wr.heap.size, 0, none⟩ (m := 1) (news := [.slice (some ⟨g, 0, none⟩) k k]) rfl (fun j u hu => (by rw [add0]; exact KT.out.cell (.head _) (by rw [List.getElem?_toArray]; exact hu))) (fun u hu => (by simp only [List.mem_cons, List.not_mem_nil, or_false] at hu; rcases hu with rfl; rfl)) (by decide) (by unfold maxLen; omega) (by omega) 1
      have HG2 := Lib.hid G2.drop
      have HRUN := Lib.hid hrun
      obtain ⟨B2, oc2, rfl⟩ := G2.sl
      clear hx hlv KT KK back G G2 hrun hi0 hz0 hz1 hz2
      go_wp2_with (at_builtin; refine wpList_exec rfl (exec_append (.tmp 16) (.tmp 21) 26 rfl HRUN.out) ?_)
      have er : rowsOf k gs ++ [.slice (some ⟨g, 0, none⟩) k k] = rowsOf k (gs ++ [g]) := by unfold rowsOf; rw [List.map_append]; rfl
      rw [er] at HG2
      go_roundg (gk - 1)
      case measure => omega
      case rel =>
        refine ⟨i + 1, gs ++ [g], by omega, congrArg (Value.int .i64) (by omega), by rw [List.length_append, HGS.out]; rfl, fun j hj => ?_, HG2.out⟩
        rw [List.getD_eq_getElem?_getD]
        by_cases e : j < i
        · rw [List.getElem?_append_left (by rw [HGS.out]; exact e), ← List.getD_eq_getElem?_getD]
          exact HL.out j e
        · obtain rfl : j = i := by omega
          rw [List.getElem?_append_right (by rw [HGS.out]; omega), HGS.out, Nat.sub_self]
          exact HN.out
    · have hie : i = k := by omega
      subst hie
      have hiz : ¬ (i : Int) < (i : Int) := by omega
      have HG := Lib.hid G
      clear G
      go_wp2_with fail
      go_ret
      refine ⟨_, rfl, ?_, ?_⟩
      · have hlen : (rowsOf i gs).length = i := by unfold rowsOf; rw [List.length_map, HGS.out]
        obtain ⟨h0, rfl, h1, h2, -⟩ := HG.out.cell (j := 0) (by omega)
        obtain ⟨hl, ⟨z, -⟩ | ⟨h9, cap, rest, hv, K9, q1, q2, q3⟩⟩ := HG.out
        · omega
        · cases hv
          refine ⟨_, oc, rfl, q1, h2, fun j hj => ?_⟩
          obtain ⟨h8, e, -, -, hcell⟩ := HG.out.cell (j := j) (by omega)
          cases e
          refine ⟨_, hcell, gs.getD j 0, i, ?_, Nat.le_refl _, ?_⟩
          · unfold rowsOf
            rw [List.getD_eq_getElem?_getD, List.getElem?_map, List.getElem?_eq_getElem (by rw [HGS.out]; exact hj), List.getD_eq_getElem?_getD, List.getElem?_eq_getElem (by rw [HGS.out]; exact hj)]
            rfl
          · have hv : (rowsOf i gs).getD j undef = .slice (some ⟨gs.getD j 0, 0, none⟩) i i := by
              unfold rowsOf
              rw [List.getD_eq_getElem?_getD, List.getElem?_map, List.getElem?_eq_getElem (by rw [HGS.out]; exact hj), List.getD_eq_getElem?_getD, List.getElem?_eq_getElem (by rw [HGS.out]; exact hj)]
              rfl
            rw [hv]
            exact (HL.out j hj).below K9.B
      · obtain ⟨R, K9, -⟩ := HG.out.out
        exact K9.B
end Go.Proofs.YtmidifgnpjlgcaaGreat
/- The walk of sums. -/
set_option linter.unusedVariables false
set_option linter.unusedSimpArgs false
namespace Go.Proofs.YtmidifgnpjlgcaaGreat
open Go.RowKit

/-- A copy of numbers, behind a list that was cut to nothing. -/
theorem app0l {w : World} {v : Value} {m N : Nat} {f : Nat → Int} (h : Lv w v m N f) (h0 : 0 < m) (hm : m ≤ 1000000) (p : Addr) : ∃ L cap rest w', (Builtin.append_ #[27, 27] 27 #[.slice (some p) 0 0, v]).run Tryz.prog w = .ok (.slice (some ⟨w.heap.size, 0, none⟩) m cap) w' ∧ L.length = m ∧ Els w L N f ∧ m ≤ cap ∧ cap ≤ maxLen ∧ (flat L ++ rest).length = cap * 2 ∧ ∀ w0 l, Keep w0 l w → Keep w0 ((w.heap.size, Obj.lstt L rest) :: l) w' := by
  obtain ⟨i0, hi, hx0⟩ := Option.map_eq_some_iff.1 info30
  simp only [Prod.mk.injEq] at hx0
  obtain ⟨hz0, hz1, hz2⟩ := hx0
  obtain ⟨P, c, L, rfl, hnone, hl, he, hcell⟩ := h.list
  obtain ⟨b, rfl, hlt, -⟩ := hcell 0 (by omega)
  have hcells : ∀ k, k < L.length * 2 → w.cell? ⟨b, k, none⟩ = (flat L)[k]? := flat_cells (fun j hj => by
    obtain ⟨b', hb', -, h1, h2⟩ := hcell j hj
    injection hb' with hb'
    injection hb' with hb'
    rw [hb']
    exact ⟨h1, h2⟩)
  have hr := run_append_grow (P := Tryz.prog) (w := w) 27 27 30 i0 (.agg #[.bool false, .slice none 0 0]) Tryz.underlying27 hi hz0 p 0 0 [] (by simp) (fun j v hv => by simp at hv) ⟨b, 0, none⟩ m c (flat L) (by rw [flat_length, hl, hz1]) (fun j u hu => by
    have hj : j < L.length * 2 := by
      rw [← flat_length]
      exact (List.getElem?_eq_some_iff.1 hu).1
    rw [add0, hcells j hj]
    exact hu) (by omega) (by omega) (by rw [hz2]; exact growslice_fits (by omega) (by omega))
  have hge := grownCap_ge w (0 + m) 0 30
  have hcm := grownCap_le_maxLen w (0 + m) 0 30 (by unfold maxLen; omega)
  simp only [Nat.zero_add] at hr hge hcm
  refine ⟨L, _, (Builtin.zeroCells (Value.agg #[.bool false, .slice none 0 0]).cells (grownCap w m 0 30 - m)).toList, _, hr, hl, he, hge, hcm, ?_, fun w0 l K => ?_⟩
  · have hz : (Builtin.zeroCells (Value.agg #[.bool false, .slice none 0 0]).cells (grownCap w m 0 30 - m)).toList.length = (grownCap w m 0 30 - m) * 2 := by rw [Array.length_toList, size_zeroCells]; rfl
    rw [List.length_append, flat_length, hz, hl]
    omega
  · have K2 := K.drew.alloc (.cells (([] : List Value).toArray ++ (flat L).toArray ++ Builtin.zeroCells (Value.agg #[.bool false, .slice none 0 0]).cells (grownCap w m 0 30 - m)) 30)
    have eo : (([] : List Value).toArray ++ (flat L).toArray ++ Builtin.zeroCells (Value.agg #[.bool false, .slice none 0 0]).cells (grownCap w m 0 30 - m)) = (flat L ++ (Builtin.zeroCells (Value.agg #[.bool false, .slice none 0 0]).cells (grownCap w m 0 30 - m)).toList).toArray := by
      apply Array.ext'
      simp
    rw [eo] at K2 ⊢
    exact K2
theorem Lw.of {w : World} {g c m N : Nat} {L : List Nm} {rest : List Value} {f : Nat → Int} (hh : w.heap[g]? = some (Obj.lstt L rest)) (hl : L.length = m) (hc : m ≤ c) (he : Els w L N f) : Lw w (.slice (some ⟨g, 0, none⟩) m c) m N f := by
  subst hl
  refine ⟨g, c, rfl, hc, _, c, rfl, fun e => (by cases e), fun j hj => ?_⟩
  refine ⟨g, L[j].n, L[j].A, L[j].l, L[j].c, rfl, (Array.getElem?_eq_some_iff.1 hh).1, ?_, ?_, he j hj⟩
  · rw [cellOf hh, List.getElem?_toArray, List.getElem?_append_left (by rw [flat_length]; omega)]
    exact flat_get0 L j hj
  · rw [cellOf hh, List.getElem?_toArray, List.getElem?_append_left (by rw [flat_length]; omega)]
    exact flat_get1 L j hj
/-- So many of the numbers added. -/
def addI (i : Nat) (f g : Nat → Int) (k : Nat) : Int := if k < i then f k + g k else f k
variable {w0 w : World} {l l2 : List (Nat × Obj)}
set_option maxHeartbeats 8000000 in
set_option maxRecDepth 100000 in
theorem sums_any (v t : Value) (ob oc : Nat) (m N M : Nat) (f g : Nat → Int) (w : World) (h1 : Lv w v m N f) (h2 : Lv w t m M g) (ho : w.cell? ⟨ob, 0, none⟩ = some t) (hob : ob < w.heap.size) (h0 : 0 < m) (hm : m ≤ 1000) (hN : N ≤ 300000) (hM : M ≤ 300000) :
    Calls Tryz.prog 82 #[v, .slice (some ⟨ob, 0, none⟩) 1 oc] w fun e w' => ∃ u, e = .returned u ∧ Lr w' u m (max N M + 1) (fun j => f j + g j) ∧ Below w.heap.size w w' := by
  obtain ⟨A, vc, rfl, -, hat⟩ := id h1
  obtain ⟨vb, -, -, -, -, rfl, -⟩ := hat 0 h0
  obtain ⟨L0, cap, rest, w1, hrun, hl0, he0, hc1, hc2, hc3, hk1⟩ := app0l h1 h0 (by omega) ⟨vb, 0, none⟩
  have K := Lib.hid (hk1 w [] (Keep.start w))
  have HRUN := Lib.hid hrun
  have hb1 := (hk1 w [] (Keep.start w)).B
  have HE0 := Lib.hid (he0.below hb1)
  obtain ⟨B, td, rfl, -, hbt⟩ := h2
  have HB := Lib.hid hbt
  have HC := Lib.hid (And.intro hc1 (And.intro hc2 hc3))
  have ho2 := (hb1.cell (p := ⟨ob, 0, none⟩) hob).trans ho
  have HL0 := Lib.hid hl0
  clear h1 hat he0 hk1 hrun hbt
  go_enter Tryz.func82, Tryz.ntmps82
  go_wp2_with (at_builtin; refine wpList_exec rfl (exec_append (.tmp 10) (.tmp 11) 27 rfl HRUN.out) ?_)
  clear HRUN
  go_wp2_with fail
  clear hb1 ho2
  go_loopg [15] 1 (fun gk iv wr => ∃ (i : Nat) (L : List Nm), gk + i = 1 ∧ iv = .int .i64 (i : Int) ∧ L.length = m ∧ ((i = 0 ∧ Els wr L N f) ∨ (i = 1 ∧ Els wr L (max N M + 1) (fun j => f j + g j))) ∧ Keep w [(w.heap.size, Obj.lstt L rest)] wr)
  case atStart => exact ⟨0, L0, by omega, rfl, hl0, .inl ⟨rfl, HE0.out⟩, K.out⟩
  case round =>
    clear K HE0
    obtain ⟨i, L, hgi, rfl, hl, hE, k⟩ := hrel
    have K := Lib.hid k
    clear k
    rcases hE with ⟨rfl, he⟩ | ⟨rfl, he⟩
    · have ho2 : wr.cell? ⟨ob, 0, none⟩ = some (.slice B m td) := (K.out.B.cell (p := ⟨ob, 0, none⟩) hob).trans ho
      have HE := Lib.hid he
      clear he
      go_wp2_with fail
      clear ho2
      go_loopg [21] m (fun gk jv wr2 => ∃ (j : Nat) (L : List Nm), gk + j = m ∧ jv = .int .i64 (j : Int) ∧ L.length = m ∧ Els wr2 L (max N M + 1) (addI j f g) ∧ (∀ k (hk : k < L.length), j ≤ k → Nz wr2 L[k].n (.slice L[k].A L[k].l L[k].c) (f k) N) ∧ Keep w [(w.heap.size, Obj.lstt L rest)] wr2)
      case atStart => exact ⟨0, L, by omega, rfl, hl, HE.out.more (by omega) (fun k _ => by unfold addI; rw [if_neg (by omega)]), fun k hk _ => HE.out k hk, K.out⟩
      case round =>
        clear K HE hl
        obtain ⟨j, L, hgj, rfl, hl, he, ht, k⟩ := hrel
        have K := Lib.hid k
        have HE := Lib.hid he
        have HL := Lib.hid hl
        clear k he
        by_cases hj : j < m
        · have hjL : j < L.length := by omega
          have HNJ := Lib.hid (ht j hjL (Nat.le_refl _))
          have HT := Lib.hid ht
          obtain ⟨b2, n2, B2, l2, d2, rfl, hlt2, y0, y1, hn2⟩ := HB.out j hj
          have Y0 := Keep.far K hlt2 y0
          have Y1 := Keep.far K hlt2 y1
          have H2 := Lib.hid hn2
          clear y0 y1 hn2 ht
          go_upto_region 8 with fail
          (refine region_ord _ 11 (by kernel_rfl) (by kernel_rfl) K.out.drew ?_; clear K; intro W K hbw; replace K := Lib.hid K)
          replace HE := Lib.hid (HE.out.below hbw)
          replace HNJ := Lib.hid (HNJ.out.below hbw)
          replace HT := Lib.hid (fun k hk h => (HT.out k hk h).below hbw)
          clear hbw
          have y0 : ∀ p : At (Keep w [(w.heap.size, Obj.lstt L rest)]), p.w.cell? ⟨w.heap.size, j * 2, none⟩ = some (.bool L[j].n) := fun p => (p.h.lttc (.head _) j hjL).1
          have y1 : ∀ p : At (Keep w [(w.heap.size, Obj.lstt L rest)]), p.w.cell? ⟨w.heap.size, j * 2 + 1, none⟩ = some (.slice L[j].A L[j].l L[j].c) := fun p => (p.h.lttc (.head _) j hjL).2
          generalize L[j].n = n1 at *
          generalize L[j].A = A1 at *
          generalize L[j].l = l1 at *
          generalize L[j].c = c1 at *
          (refine Ord.take' 0 rfl (by kernel_rfl) (fun _ _ _ _ h => h) K.out (by rfl) ?_; apply Exists.intro; refine ⟨fun p => ?_, ?_⟩; (focus (go_simp; (try (with_reducible rfl)); done)); (try simp only [Act.put, List.setIfInBounds_toArray, List.set_cons_zero, List.set_cons_succ]))
          (refine Ord.take' 1 rfl (by kernel_rfl) (fun _ _ _ _ h => h) K.out (by rfl) ?_; apply Exists.intro; refine ⟨fun p => ?_, ?_⟩; (focus (go_simp; (try (with_reducible rfl)); done)); (try simp only [Act.put, List.setIfInBounds_toArray, List.set_cons_zero, List.set_cons_succ]))
          (refine Ord.take' 2 rfl (by kernel_rfl) (fun _ _ _ _ h => h) K.out (by rfl) ?_; apply Exists.intro; refine ⟨fun p => ?_, ?_⟩; (focus (go_simp; (try (with_reducible rfl)); done)); (try simp only [Act.put, List.setIfInBounds_toArray, List.set_cons_zero, List.set_cons_succ]))
          (refine Ord.take' 3 rfl (by kernel_rfl) (fun _ _ _ _ h => h) K.out (by rfl) ?_; apply Exists.intro; refine ⟨fun p => ?_, ?_⟩; (focus (go_simp; (try (with_reducible rfl)); done)); (try simp only [Act.put, List.setIfInBounds_toArray, List.set_cons_zero, List.set_cons_succ]))
          (refine Ord.take' 4 rfl (by kernel_rfl) (fun _ _ _ _ h => h) K.out (by rfl) ?_; apply Exists.intro; refine ⟨fun p => ?_, ?_⟩; (focus (go_simp; (try (with_reducible rfl)); done)); (try simp only [Act.put, List.setIfInBounds_toArray, List.set_cons_zero, List.set_cons_succ]))
          (refine Ord.take' 5 rfl (by kernel_rfl) (fun _ _ _ _ h => h) K.out (by rfl) ?_; apply Exists.intro; refine ⟨fun p => ?_, ?_⟩; (focus (go_simp; (try (with_reducible rfl)); done)); (try simp only [Act.put, List.setIfInBounds_toArray, List.set_cons_zero, List.set_cons_succ]))
          (refine Ord.take' 6 rfl (by kernel_rfl) (fun _ _ _ _ h => h) K.out (by rfl) ?_; apply Exists.intro; refine ⟨fun p => ?_, ?_⟩; (focus (go_simp; (try (with_reducible rfl)); done)); (try simp only [Act.put, List.setIfInBounds_toArray, List.set_cons_zero, List.set_cons_succ]))
          (refine Ord.take' 7 rfl (by kernel_rfl) (fun _ _ _ _ h => h) K.out (by rfl) ?_; apply Exists.intro; refine ⟨fun p => ?_, ?_⟩; (focus (go_simp; (try (with_reducible rfl)); done)); (try simp only [Act.put, List.setIfInBounds_toArray, List.set_cons_zero, List.set_cons_succ]))
          (refine Ord.take' 8 rfl (by kernel_rfl) (fun _ _ _ _ h => h) K.out (by rfl) ?_; apply Exists.intro; refine ⟨fun p => ?_, ?_⟩; (focus (go_simp; (try (with_reducible rfl)); done)); (try simp only [Act.put, List.setIfInBounds_toArray, List.set_cons_zero, List.set_cons_succ]))
          (refine Ord.take' 9 rfl (by kernel_rfl) (fun _ _ _ _ h => h) K.out (by rfl) ?_; apply Exists.intro; refine ⟨fun p => ?_, ?_⟩; (focus (go_simp; (try (with_reducible rfl)); done)); (try simp only [Act.put, List.setIfInBounds_toArray, List.set_cons_zero, List.set_cons_succ]))
          clear Y0 Y1 y0 y1
          (refine Ord.call 10 (g := 43) (args := (#[.agg #[.bool n1, .slice A1 l1 c1], .agg #[.bool n2, .slice B2 l2 d2]])) rfl (by kernel_rfl) (by rfl) (by (go_simp; try (with_reducible rfl))) ?_)
          refine (add_nz HNJ.out (H2.out.below K.out.B) (by omega) (by omega)).mono ?_
          rintro e w5 ⟨q5, A5, l5, c5, rfl, hN5, hb⟩
          (refine ⟨_, rfl, Keep.stays _ _ K.out hb, ?_⟩; replace K := Lib.hid (Keep.stays _ _ K.out hb); simp only [Act.put, List.setIfInBounds_toArray, List.set_cons_zero, List.set_cons_succ])
          replace HE := Lib.hid (HE.out.below hb)
          replace HT := Lib.hid (fun k hk h => (HT.out k hk h).below hb)
          have H5 := Lib.hid hN5
          clear hb hN5 HNJ
          (refine Ord.done (by kernel_rfl) ?_; simp only [List.drop_succ_cons, List.drop_zero, Act.put, List.setIfInBounds_toArray, List.set_cons_zero, List.set_cons_succ])
          obtain ⟨z0, z1⟩ := K.out.lttc (.head _) j hjL
          have c00 := (K.out.lttc (.head _) 0 (by omega)).1
          have f1 := fun o => K.out.warm (.head _) o
          go_wp2_with fail
          clear z0 z1 f1
          have K2 := Lib.hid (K.out.setlt [] j hjL ⟨q5, A5, l5, c5⟩)
          have HE2 := Lib.hid ((HE.out.putAt (i := j * 2) (j := j * 2 + 1) c00 (.bool q5) (.slice A5 l5 c5)).set j ⟨q5, A5, l5, c5⟩ (H5.out.putAt (i := j * 2) (j := j * 2 + 1) c00 _ _))
          go_roundg (m - j - 1)
          case measure => omega
          case rel =>
            refine ⟨j + 1, L.set j ⟨q5, A5, l5, c5⟩, by omega, congrArg (Value.int .i64) (by omega), by rw [List.length_set]; exact HL.out, HE2.out.more (Nat.le_refl _) (fun k _ => ?_), fun k hk hjk => ?_, K2.out⟩
            · unfold addI
              by_cases e : k = j
              · subst e; rw [if_pos rfl, if_pos (by omega)]
              · rw [if_neg e]
                by_cases e2 : k < j
                · rw [if_pos e2, if_pos (by omega)]
                · rw [if_neg e2, if_neg (by omega)]
            · rw [List.getElem_set_ne (by omega)]
              exact (HT.out k (by rw [List.length_set] at hk; exact hk) (by omega)).putAt c00 _ _
        · have hje : j = m := by omega
          have hjz : ¬ (j : Int) < (m : Int) := by omega
          replace HE := Lib.hid (HE.out.more (Nat.le_refl _) (f' := fun j => f j + g j) (fun k hk => by unfold addI; rw [if_pos (by omega)]))
          clear ht
          go_wp2_with fail
          go_roundg 0
          case measure => omega
          case rel => exact ⟨1, L, rfl, rfl, hl, .inr ⟨rfl, HE.out⟩, K.out⟩
    · have HE := Lib.hid he
      have HL := Lib.hid hl
      clear he
      go_wp2_with fail
      go_ret
      refine ⟨_, rfl, ⟨L, ?_, HL.out, HE.out⟩, K.out.B⟩
      have hlen : L.length = L0.length := by rw [HL.out, HL0.out]
      have := Lwn.of (base := 0) (Nat.zero_le _) (K.out.box _ (.head _)) (c := cap) (by rw [HL.out]; exact HC.out.1) HC.out.2.1 (by have := HC.out.2.2; rw [List.length_append, flat_length] at this ⊢; rw [hlen]; exact this) (by rw [HL.out]; exact h0)
      rwa [HL.out] at this
end Go.Proofs.YtmidifgnpjlgcaaGreat
