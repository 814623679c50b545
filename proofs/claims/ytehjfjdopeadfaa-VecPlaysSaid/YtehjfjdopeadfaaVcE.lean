/- Walk of Vec.each. -/
import Derived.Test.YtehjfjdopeadfaaVcW
import Derived.Test.YtehjfjdopeadfaaSpSq
set_option linter.unusedVariables false
set_option linter.unusedSimpArgs false
namespace Go.Proofs.Ytehjfjdopeadfaa
open Go.RowKit SpMath

def veach (F : Sp → Sp → Sp) (v u : Vc) : Vc := ⟨F v.x u.x, F v.y u.y, F v.z u.z⟩

set_option maxHeartbeats 4000000 in
set_option maxRecDepth 100000 in
theorem each_any (N : FuncId) (hN : N = 43 ∨ N = 46 ∨ N = 49) (F : Sp → Sp → Sp) (hF : ∀ (x y : Sp) (w : World), Calls Try.prog N #[x.v, y.v] w fun e w' => e = .returned (F x y).v ∧ Below w.heap.size w w') (v u : Vc) (w : World) :
    Calls Try.prog 72 #[v.v, u.v, .func (.func N) #[] #[]] w fun e w' => e = .returned (veach F v u).v ∧ Below w.heap.size w w' := by
  have K := Lib.hid (Keep.begin3 w (Obj.vec 25 v) (Obj.vec 25 u) (Obj.vec 25 ⟨vz, vz, vz⟩))
  have HF := Lib.hid hF
  clear hF
  rcases hN with rfl | rfl | rfl
  all_goals
    go_enter Try.func72, Try.ntmps72
    go_upto_region 1 with fail
    (refine out_keep K.out ?_; clear K; intro W K; replace K := Lib.hid K)
    go_wp2_with fail
    go_loopg [8] 3 (fun g iv wr => (g = 3 ∧ iv = .int .i64 0 ∧ Keep w [(w.heap.size + 1 + 1, Obj.vec 25 ⟨vz, vz, vz⟩), (w.heap.size + 1, Obj.vec 25 u), (w.heap.size, Obj.vec 25 v)] wr) ∨ (g = 2 ∧ iv = .int .i64 1 ∧ Keep w [(w.heap.size + 1 + 1, Obj.vec 25 ⟨vz, vz, vz⟩), (w.heap.size + 1, Obj.vec 25 u), (w.heap.size, Obj.vec 25 ⟨F v.x u.x, v.y, v.z⟩)] wr) ∨ (g = 1 ∧ iv = .int .i64 2 ∧ Keep w [(w.heap.size + 1 + 1, Obj.vec 25 ⟨vz, vz, vz⟩), (w.heap.size + 1, Obj.vec 25 u), (w.heap.size, Obj.vec 25 ⟨F v.x u.x, F v.y u.y, v.z⟩)] wr) ∨ (g = 0 ∧ iv = .int .i64 3 ∧ Keep w [(w.heap.size + 1 + 1, Obj.vec 25 ⟨vz, vz, vz⟩), (w.heap.size + 1, Obj.vec 25 u), (w.heap.size, Obj.vec 25 ⟨F v.x u.x, F v.y u.y, F v.z u.z⟩)] wr))
    case atStart => exact .inl ⟨rfl, rfl, K.out⟩
    case round =>
      clear K
      rcases hrel with ⟨rfl, rfl, k⟩ | ⟨rfl, rfl, k⟩ | ⟨rfl, rfl, k⟩ | ⟨rfl, rfl, k⟩
      · have K := Lib.hid k
        clear k
        go_wp2_with fail
        (refine region_tail _ 10 (by kernel_rfl) (by kernel_rfl) K.out.drew ?_; haveI ne := Keep.ne K)
        (have c10 := Keep.av0 K (.tail _ (.tail _ (.head _))); have c11 := Keep.av1 K (.tail _ (.tail _ (.head _))); have c12 := Keep.av2 K (.tail _ (.tail _ (.head _))); have c13 := Keep.av3 K (.tail _ (.tail _ (.head _))); have c14 := Keep.av4 K (.tail _ (.tail _ (.head _))); have c15 := Keep.av5 K (.tail _ (.tail _ (.head _))); have c16 := Keep.av6 K (.tail _ (.tail _ (.head _))); have c17 := Keep.av7 K (.tail _ (.tail _ (.head _))); have c18 := Keep.av8 K (.tail _ (.tail _ (.head _))))
        (have c20 := Keep.av0 K (.tail _ (.head _)); have c21 := Keep.av1 K (.tail _ (.head _)); have c22 := Keep.av2 K (.tail _ (.head _)); have c23 := Keep.av3 K (.tail _ (.head _)); have c24 := Keep.av4 K (.tail _ (.head _)); have c25 := Keep.av5 K (.tail _ (.head _)); have c26 := Keep.av6 K (.tail _ (.head _)); have c27 := Keep.av7 K (.tail _ (.head _)); have c28 := Keep.av8 K (.tail _ (.head _)))
        (simp only [List.take_succ_cons, List.take_zero, List.drop_succ_cons, List.drop_zero])
        repeat (go_big_quiet_step (first | (go_at_call 43; with_reducible exact At.call Keep.stays (HF.out _ _ _)) | (go_at_call 46; with_reducible exact At.call Keep.stays (HF.out _ _ _)) | (go_at_call 49; with_reducible exact At.call Keep.stays (HF.out _ _ _))))
        (refine wpQuiet_nil ?_; clear ne K; intro W K; replace K := Lib.hid K)
        ((try clear f1); (try clear c10 c11 c12 c13 c14 c15 c16 c17 c18))
        ((try clear f2); (try clear c20 c21 c22 c23 c24 c25 c26 c27 c28))
        (have f1 := (K.out.vc (.tail _ (.tail _ (.head _)))).warm; have c10 := (K.out.vc (.tail _ (.tail _ (.head _)))).cell0; have c11 := (K.out.vc (.tail _ (.tail _ (.head _)))).cell1; have c12 := (K.out.vc (.tail _ (.tail _ (.head _)))).cell2; have c13 := (K.out.vc (.tail _ (.tail _ (.head _)))).cell3; have c14 := (K.out.vc (.tail _ (.tail _ (.head _)))).cell4; have c15 := (K.out.vc (.tail _ (.tail _ (.head _)))).cell5; have c16 := (K.out.vc (.tail _ (.tail _ (.head _)))).cell6; have c17 := (K.out.vc (.tail _ (.tail _ (.head _)))).cell7; have c18 := (K.out.vc (.tail _ (.tail _ (.head _)))).cell8)
        go_wp2_with fail
        replace K := Lib.hid (K.out.puti0_2 (F v.x u.x))
        ((try clear f1); (try clear c10 c11 c12 c13 c14 c15 c16 c17 c18))
        go_roundg 2
        case measure => omega
        case rel => exact .inr (.inl ⟨rfl, rfl, K.out⟩)
      · have K := Lib.hid k
        clear k
        go_wp2_with fail
        (refine region_tail _ 10 (by kernel_rfl) (by kernel_rfl) K.out.drew ?_; haveI ne := Keep.ne K)
        (have c10 := Keep.av0 K (.tail _ (.tail _ (.head _))); have c11 := Keep.av1 K (.tail _ (.tail _ (.head _))); have c12 := Keep.av2 K (.tail _ (.tail _ (.head _))); have c13 := Keep.av3 K (.tail _ (.tail _ (.head _))); have c14 := Keep.av4 K (.tail _ (.tail _ (.head _))); have c15 := Keep.av5 K (.tail _ (.tail _ (.head _))); have c16 := Keep.av6 K (.tail _ (.tail _ (.head _))); have c17 := Keep.av7 K (.tail _ (.tail _ (.head _))); have c18 := Keep.av8 K (.tail _ (.tail _ (.head _))))
        (have c20 := Keep.av0 K (.tail _ (.head _)); have c21 := Keep.av1 K (.tail _ (.head _)); have c22 := Keep.av2 K (.tail _ (.head _)); have c23 := Keep.av3 K (.tail _ (.head _)); have c24 := Keep.av4 K (.tail _ (.head _)); have c25 := Keep.av5 K (.tail _ (.head _)); have c26 := Keep.av6 K (.tail _ (.head _)); have c27 := Keep.av7 K (.tail _ (.head _)); have c28 := Keep.av8 K (.tail _ (.head _)))
        (simp only [List.take_succ_cons, List.take_zero, List.drop_succ_cons, List.drop_zero])
        repeat (go_big_quiet_step (first | (go_at_call 43; with_reducible exact At.call Keep.stays (HF.out _ _ _)) | (go_at_call 46; with_reducible exact At.call Keep.stays (HF.out _ _ _)) | (go_at_call 49; with_reducible exact At.call Keep.stays (HF.out _ _ _))))
        (refine wpQuiet_nil ?_; clear ne K; intro W K; replace K := Lib.hid K)
        ((try clear f1); (try clear c10 c11 c12 c13 c14 c15 c16 c17 c18))
        ((try clear f2); (try clear c20 c21 c22 c23 c24 c25 c26 c27 c28))
        (have f1 := (K.out.vc (.tail _ (.tail _ (.head _)))).warm; have c10 := (K.out.vc (.tail _ (.tail _ (.head _)))).cell0; have c11 := (K.out.vc (.tail _ (.tail _ (.head _)))).cell1; have c12 := (K.out.vc (.tail _ (.tail _ (.head _)))).cell2; have c13 := (K.out.vc (.tail _ (.tail _ (.head _)))).cell3; have c14 := (K.out.vc (.tail _ (.tail _ (.head _)))).cell4; have c15 := (K.out.vc (.tail _ (.tail _ (.head _)))).cell5; have c16 := (K.out.vc (.tail _ (.tail _ (.head _)))).cell6; have c17 := (K.out.vc (.tail _ (.tail _ (.head _)))).cell7; have c18 := (K.out.vc (.tail _ (.tail _ (.head _)))).cell8)
        go_wp2_with fail
        replace K := Lib.hid (K.out.puti1_2 (F v.y u.y))
        ((try clear f1); (try clear c10 c11 c12 c13 c14 c15 c16 c17 c18))
        go_roundg 1
        case measure => omega
        case rel => exact .inr (.inr (.inl ⟨rfl, rfl, K.out⟩))
      · have K := Lib.hid k
        clear k
        go_wp2_with fail
        (refine region_tail _ 10 (by kernel_rfl) (by kernel_rfl) K.out.drew ?_; haveI ne := Keep.ne K)
        (have c10 := Keep.av0 K (.tail _ (.tail _ (.head _))); have c11 := Keep.av1 K (.tail _ (.tail _ (.head _))); have c12 := Keep.av2 K (.tail _ (.tail _ (.head _))); have c13 := Keep.av3 K (.tail _ (.tail _ (.head _))); have c14 := Keep.av4 K (.tail _ (.tail _ (.head _))); have c15 := Keep.av5 K (.tail _ (.tail _ (.head _))); have c16 := Keep.av6 K (.tail _ (.tail _ (.head _))); have c17 := Keep.av7 K (.tail _ (.tail _ (.head _))); have c18 := Keep.av8 K (.tail _ (.tail _ (.head _))))
        (have c20 := Keep.av0 K (.tail _ (.head _)); have c21 := Keep.av1 K (.tail _ (.head _)); have c22 := Keep.av2 K (.tail _ (.head _)); have c23 := Keep.av3 K (.tail _ (.head _)); have c24 := Keep.av4 K (.tail _ (.head _)); have c25 := Keep.av5 K (.tail _ (.head _)); have c26 := Keep.av6 K (.tail _ (.head _)); have c27 := Keep.av7 K (.tail _ (.head _)); have c28 := Keep.av8 K (.tail _ (.head _)))
        (simp only [List.take_succ_cons, List.take_zero, List.drop_succ_cons, List.drop_zero])
        repeat (go_big_quiet_step (first | (go_at_call 43; with_reducible exact At.call Keep.stays (HF.out _ _ _)) | (go_at_call 46; with_reducible exact At.call Keep.stays (HF.out _ _ _)) | (go_at_call 49; with_reducible exact At.call Keep.stays (HF.out _ _ _))))
        (refine wpQuiet_nil ?_; clear ne K; intro W K; replace K := Lib.hid K)
        ((try clear f1); (try clear c10 c11 c12 c13 c14 c15 c16 c17 c18))
        ((try clear f2); (try clear c20 c21 c22 c23 c24 c25 c26 c27 c28))
        (have f1 := (K.out.vc (.tail _ (.tail _ (.head _)))).warm; have c10 := (K.out.vc (.tail _ (.tail _ (.head _)))).cell0; have c11 := (K.out.vc (.tail _ (.tail _ (.head _)))).cell1; have c12 := (K.out.vc (.tail _ (.tail _ (.head _)))).cell2; have c13 := (K.out.vc (.tail _ (.tail _ (.head _)))).cell3; have c14 := (K.out.vc (.tail _ (.tail _ (.head _)))).cell4; have c15 := (K.out.vc (.tail _ (.tail _ (.head _)))).cell5; have c16 := (K.out.vc (.tail _ (.tail _ (.head _)))).cell6; have c17 := (K.out.vc (.tail _ (.tail _ (.head _)))).cell7; have c18 := (K.out.vc (.tail _ (.tail _ (.head _)))).cell8)
        go_wp2_with fail
        replace K := Lib.hid (K.out.puti2_2 (F v.z u.z))
        ((try clear f1); (try clear c10 c11 c12 c13 c14 c15 c16 c17 c18))
        go_roundg 0
        case measure => omega
        case rel => exact .inr (.inr (.inr ⟨rfl, rfl, K.out⟩))
      · have K := Lib.hid k
        clear k
        (have f1 := (K.out.vc (.tail _ (.tail _ (.head _)))).warm; have c10 := (K.out.vc (.tail _ (.tail _ (.head _)))).cell0; have c11 := (K.out.vc (.tail _ (.tail _ (.head _)))).cell1; have c12 := (K.out.vc (.tail _ (.tail _ (.head _)))).cell2; have c13 := (K.out.vc (.tail _ (.tail _ (.head _)))).cell3; have c14 := (K.out.vc (.tail _ (.tail _ (.head _)))).cell4; have c15 := (K.out.vc (.tail _ (.tail _ (.head _)))).cell5; have c16 := (K.out.vc (.tail _ (.tail _ (.head _)))).cell6; have c17 := (K.out.vc (.tail _ (.tail _ (.head _)))).cell7; have c18 := (K.out.vc (.tail _ (.tail _ (.head _)))).cell8)
        (have f2 := (K.out.vc (.head _)).warm; have c20 := (K.out.vc (.head _)).cell0; have c21 := (K.out.vc (.head _)).cell1; have c22 := (K.out.vc (.head _)).cell2; have c23 := (K.out.vc (.head _)).cell3; have c24 := (K.out.vc (.head _)).cell4; have c25 := (K.out.vc (.head _)).cell5; have c26 := (K.out.vc (.head _)).cell6; have c27 := (K.out.vc (.head _)).cell7; have c28 := (K.out.vc (.head _)).cell8)
        go_wp2_with fail
        exact ret_vc Try.results72 rfl ((K.out.putv_0 (veach F v u)).vc (.head _)) ⟨rfl, (K.out.putv_0 (veach F v u)).B⟩
end Go.Proofs.Ytehjfjdopeadfaa
