/- Digits held against one another: the walks of size, Cmp, Minus. -/
import Derived.Test.YtehjfjdopeadfaaDg
set_option linter.unusedVariables false
set_option linter.unusedSimpArgs false
namespace Go.Proofs.Ytehjfjdopeadfaa
open Go.RowKit

def cmpGo : Nat → List Int → List Int → Int
  | 0, _, _ => 0
  | k + 1, a, b => if a.getD k 0 < b.getD k 0 then -1 else if b.getD k 0 < a.getD k 0 then 1 else cmpGo k a b
def cmpD (a b : List Int) : Int := if a.length < b.length then -1 else if b.length < a.length then 1 else cmpGo a.length a b

theorem Dg.len {w : World} {s : Value} {ds : List Int} (h : Dg w s ds) : ∃ A c, s = .slice A ds.length c ∧ (0 < ds.length → ∃ b, A = some ⟨b, 0, none⟩ ∧ b < w.heap.size ∧ ∀ j, j < ds.length → w.cell? ⟨b, j, none⟩ = some (.int .i64 (ds.getD j 0))) := by
  rcases h with ⟨rfl, rfl⟩ | ⟨b, c, rfl, hc, hlt, hcell⟩
  · exact ⟨none, 0, rfl, fun h => by simp at h⟩
  · exact ⟨_, c, rfl, fun _ => ⟨b, rfl, hlt, hcell⟩⟩

theorem kept_cell {w0 w : World} {b j : Nat} {v : Value} {l : List (Nat × Obj)} (K : Keep w0 l w) (hlt : b < w0.heap.size) (h : w0.cell? ⟨b, j, none⟩ = some v) : w.cell? ⟨b, j, none⟩ = some v := by
  rw [K.B.cell (p := ⟨b, j, none⟩) hlt]; exact h

set_option maxHeartbeats 1000000 in
set_option maxRecDepth 100000 in
theorem size_any (s t : Value) (a b : List Int) (w : World) (h1 : Dg w s a) (h2 : Dg w t b) (l1 : a.length ≤ 1000000) (l2 : b.length ≤ 1000000) :
    Calls Try.prog 98 #[s, t] w fun e w' => e = .returned (.int .i64 (cmpD a b)) ∧ Below w.heap.size w w' := by
  obtain ⟨A, c, rfl, ha⟩ := h1.len
  obtain ⟨B, d, rfl, hb⟩ := h2.len
  clear h1 h2
  have HA := Lib.hid ha; have HB := Lib.hid hb
  clear ha hb
  have HR : Hid (cmpD a b = if a.length < b.length then -1 else if b.length < a.length then 1 else cmpGo a.length a b) := by show _ = _; rfl
  by_cases e1 : a.length < b.length
  · rw [if_pos e1] at HR
    go_enter Try.func98, Try.ntmps98
    go_wp2_with fail
    go_ret
    exact ⟨ret_int HR.out.symm, Below.refl _ _⟩
  · rw [if_neg e1] at HR
    by_cases e2 : b.length < a.length
    · rw [if_pos e2] at HR
      go_enter Try.func98, Try.ntmps98
      go_wp2_with fail
      go_ret
      exact ⟨ret_int HR.out.symm, Below.refl _ _⟩
    · rw [if_neg e2] at HR
      have e3 : b.length = a.length := by omega
      have E3 := Lib.hid e3
      rw [e3] at HB l2 ⊢
      clear e3 e1 e2
      have K := Lib.hid (Keep.start w)
      generalize hn : a.length = n at *
      have HN := Lib.hid hn
      clear hn
      go_enter Try.func98, Try.ntmps98
      go_wp2_with fail
      go_loopg [5] n (fun g nv wr => nv = .int .i64 ((g : Int) - 1) ∧ g ≤ n ∧ cmpGo g a b = cmpGo n a b ∧ Keep w [] wr)
      case atStart => exact ⟨rfl, Nat.le_refl _, rfl, K.out⟩
      case round =>
        clear K
        obtain ⟨rfl, hg, hcmp, k⟩ := hrel
        have K := Lib.hid k
        have HM := Lib.hid hcmp
        clear k hcmp
        cases gk with
        | zero =>
          go_wp2_with fail
          go_ret
          exact ⟨ret_int (by rw [HR.out, ← HM.out]; rfl), K.out.B⟩
        | succ k =>
          obtain ⟨x, rfl, hx, hxc⟩ := HA.out (by omega)
          obtain ⟨y, rfl, hy, hyc⟩ := HB.out (by omega)
          have X := hxc k (by omega)
          have Y := hyc k (by omega)
          have HC : Hid (cmpGo (k + 1) a b = if a.getD k 0 < b.getD k 0 then -1 else if b.getD k 0 < a.getD k 0 then 1 else cmpGo k a b) := by show _ = _; rfl
          rw [HC.out] at HM
          generalize a.getD k 0 = p at X HM HC
          generalize b.getD k 0 = q at Y HM HC
          have cp : ∀ pp : At (Keep w []), pp.w.cell? ⟨x, k, none⟩ = some (.int .i64 p) := fun pp => kept_cell pp.h hx X
          have cq : ∀ pp : At (Keep w []), pp.w.cell? ⟨y, k, none⟩ = some (.int .i64 q) := fun pp => kept_cell pp.h hy Y
          clear X Y hxc hyc HC hx hy
          by_cases o1 : p < q
          · rw [if_pos o1] at HM
            go_wp2_with fail
            (refine region_quiet _ (by kernel_rfl) (by kernel_rfl) K.out.drew ?_; haveI ne := Keep.ne K)
            repeat (go_big_quiet_step (fail))
            (refine wpQuiet_nil ?_; clear ne K; intro W K; replace K := Lib.hid K)
            go_wp2_with fail
            go_ret
            exact ⟨ret_int (by rw [HR.out, ← HM.out]), K.out.B⟩
          · rw [if_neg o1] at HM
            by_cases o2 : q < p
            · rw [if_pos o2] at HM
              go_wp2_with fail
              (refine region_quiet _ (by kernel_rfl) (by kernel_rfl) K.out.drew ?_; haveI ne := Keep.ne K)
              repeat (go_big_quiet_step (fail))
              (refine wpQuiet_nil ?_; clear ne K; intro W K; replace K := Lib.hid K)
              go_wp2_with fail
              (refine region_quiet _ (by kernel_rfl) (by kernel_rfl) K.out.drew ?_; haveI ne := Keep.ne K)
              repeat (go_big_quiet_step (fail))
              (refine wpQuiet_nil ?_; clear ne K; intro W K; replace K := Lib.hid K)
              go_wp2_with fail
              go_ret
              exact ⟨ret_int (by rw [HR.out, ← HM.out]), K.out.B⟩
            · rw [if_neg o2] at HM
              go_wp2_with fail
              (refine region_quiet _ (by kernel_rfl) (by kernel_rfl) K.out.drew ?_; haveI ne := Keep.ne K)
              repeat (go_big_quiet_step (fail))
              (refine wpQuiet_nil ?_; clear ne K; intro W K; replace K := Lib.hid K)
              go_wp2_with fail
              (refine region_quiet _ (by kernel_rfl) (by kernel_rfl) K.out.drew ?_; haveI ne := Keep.ne K)
              repeat (go_big_quiet_step (fail))
              (refine wpQuiet_nil ?_; clear ne K; intro W K; replace K := Lib.hid K)
              go_wp2_with fail
              go_roundg k
              case measure => omega
              case rel => exact ⟨congrArg (Value.int .i64) (by omega), by omega, HM.out, K.out⟩
end Go.Proofs.Ytehjfjdopeadfaa
