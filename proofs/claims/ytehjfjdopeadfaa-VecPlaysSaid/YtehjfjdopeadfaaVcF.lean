/- Walks of package vec: each function by its plain answer. -/
import Derived.Test.YtehjfjdopeadfaaVcE
import Derived.Test.YtehjfjdopeadfaaSpIn
import Derived.ChangeKeysEq
set_option linter.unusedVariables false
set_option linter.unusedSimpArgs false
namespace Go.Proofs.Ytehjfjdopeadfaa
open Go.RowKit SpMath

def vof (a b c : Int) : Vc := ⟨of a a, of b b, of c c⟩
def vadd (v u : Vc) : Vc := veach add v u
def vsub (v u : Vc) : Vc := veach sub v u
def vscale (v : Vc) (s : Sp) : Vc := veach mul v ⟨s, s, s⟩
def dot (v u : Vc) : Sp := add (add (mul v.x u.x) (mul v.y u.y)) (mul v.z u.z)
def norm2 (v : Vc) : Sp := add (add (sqr v.x) (sqr v.y)) (sqr v.z)
def cross (v u : Vc) : Vc := ⟨sub (mul v.y u.z) (mul v.z u.y), sub (mul v.z u.x) (mul v.x u.z), sub (mul v.x u.y) (mul v.y u.x)⟩
def vin (v u : Vc) : Bool := inn v.x u.x && inn v.y u.y && inn v.z u.z
def vrad (v : Vc) : Int := max (rad v.x) (max (rad v.y) (rad v.z))
def Obj.arr (a b c : Int) : Obj := .cells #[.int .i64 a, .int .i64 b, .int .i64 c] 26

theorem max3_all (ats : Array TypeId) (ty : TypeId) (k : IntKind) (a b c : Int) : Builtin.max_ ats ty #[.int k a, .int k b, .int k c] = pure (.int k (max (max a b) c)) := by
  have h2 : ∀ x y : Int, Builtin.max2 (.int k x) (.int k y) = pure (.int k (max x y)) := by
    intro x y
    simp only [Builtin.max2]
    by_cases h : x < y
    · rw [if_pos h, show max x y = y by omega]
    · rw [if_neg h, show max x y = x by omega]
  simp only [Builtin.max_, List.foldlM_cons, List.foldlM_nil, h2, pure_bind]
attribute [go_sem] max3_all

theorem Keep.putar {w0 w : World} {l2 : List (Nat × Obj)} {b : Nat} {a c d : Int} (K : Keep w0 ((b, Obj.arr a c d) :: l2) w) (e f g : Int) :
    Keep w0 ((b, Obj.arr e f g) :: l2) (((w.setCell ⟨b, 0, none⟩ (.int .i64 e)).setCell ⟨b, 1, none⟩ (.int .i64 f)).setCell ⟨b, 2, none⟩ (.int .i64 g)) := K.put3 [] _ _ _
theorem Keep.arc {w0 w : World} {l : List (Nat × Obj)} {b : Nat} {a c d : Int} (K : Keep w0 l w) (m : (b, Obj.arr a c d) ∈ l) : (∀ o, w.frozen? ⟨b, o, none⟩ = false) ∧ w.cell? ⟨b, 0, none⟩ = some (.int .i64 a) ∧ w.cell? ⟨b, 1, none⟩ = some (.int .i64 c) ∧ w.cell? ⟨b, 2, none⟩ = some (.int .i64 d) :=
  ⟨fun o => K.warm m o, K.cell m rfl, K.cell m rfl, K.cell m rfl⟩
theorem Keep.aar {w0 w : World} {l : List (Nat × Obj)} {b : Nat} {a c d : Int} (K : Hid (Keep w0 l w)) (m : (b, Obj.arr a c d) ∈ l) : (∀ p : At (Keep w0 l), p.w.cell? ⟨b, 0, none⟩ = some (.int .i64 a)) ∧ (∀ p : At (Keep w0 l), p.w.cell? ⟨b, 1, none⟩ = some (.int .i64 c)) ∧ (∀ p : At (Keep w0 l), p.w.cell? ⟨b, 2, none⟩ = some (.int .i64 d)) :=
  ⟨fun p => p.h.cell m rfl, fun p => p.h.cell m rfl, fun p => p.h.cell m rfl⟩
theorem ret_ar {fn : Func} {p g : Nat} {tmps : Array Value} {w : World} {a b c : Int} {R : Ending → World → Prop} (h : fn.results = #[.cell p 26]) (hp : tmps.getD p undef = .pointer (some ⟨g, 0, none⟩)) (hb : w.heap[g]? = some (Obj.arr a b c)) (hR : R (.returned (.agg #[.int .i64 a, .int .i64 b, .int .i64 c])) w) : bodyPost Try.prog fn R .ret { tmps := tmps, defers := [] } w :=
  bodyPost_ret (results_cell_row h tmps w g 26 _ _ _ hp hb Try.underlying26 rfl (by kernel_rfl)) rfl hR

theorem info23 : ∃ i, Try.prog.info? 23 = some i := ⟨_, Try.type23⟩
theorem info2 : ∃ i, Try.prog.info? 2 = some i := ⟨_, Try.type2⟩
theorem eq25 (d : Nat) (xs ys : Array Value) (w : World) : (Op.equalIn (d + 1) 25 (.agg xs) (.agg ys)).run Try.prog w = (Op.eqItems d 23 3 xs ys [0, 1, 2]).run Try.prog w := by
  obtain ⟨i, hi⟩ := info23
  rw [run_equalIn_array (w := w) d xs ys Try.underlying25 hi]
  have e : Try.prog.cellsOf 23 = 3 := by kernel_rfl
  rw [e]; rfl
theorem eq26 (d : Nat) (xs ys : Array Value) (w : World) : (Op.equalIn (d + 1) 26 (.agg xs) (.agg ys)).run Try.prog w = (Op.eqItems d 2 1 xs ys [0, 1, 2]).run Try.prog w := by
  obtain ⟨i, hi⟩ := info2
  rw [run_equalIn_array (w := w) d xs ys Try.underlying26 hi]
  have e : Try.prog.cellsOf 2 = 1 := by kernel_rfl
  rw [e]; rfl
attribute [go_sem] eq25 eq26 Op.eqItems

set_option maxHeartbeats 1000000 in
set_option maxRecDepth 100000 in
theorem vof_any (a b c : Int) (w : World) : Calls Try.prog 36 #[.int .i64 a, .int .i64 b, .int .i64 c] w fun e w' => e = .returned (vof a b c).v ∧ Below w.heap.size w w' := by
  have K := Lib.hid (Keep.begin1 w (Obj.vec 25 ⟨vz, vz, vz⟩))
  go_enter Try.func36, Try.ntmps36
  go_upto_region 1 with fail
  (refine out_keep K.out ?_; clear K; intro W K; replace K := Lib.hid K)
  (go_wp2_with fail; (refine (((of_any a a _))).mono ?_; rintro e w2 ⟨rfl, hb⟩; replace K := Lib.hid (Keep.stays _ _ K.out hb); clear hb))
  (go_wp2_with fail; (refine (((of_any b b _))).mono ?_; rintro e w2 ⟨rfl, hb⟩; replace K := Lib.hid (Keep.stays _ _ K.out hb); clear hb))
  (go_wp2_with fail; (refine (((of_any c c _))).mono ?_; rintro e w2 ⟨rfl, hb⟩; replace K := Lib.hid (Keep.stays _ _ K.out hb); clear hb))
  (have f1 := (K.out.vc (.head _)).warm; have c10 := (K.out.vc (.head _)).cell0; have c11 := (K.out.vc (.head _)).cell1; have c12 := (K.out.vc (.head _)).cell2; have c13 := (K.out.vc (.head _)).cell3; have c14 := (K.out.vc (.head _)).cell4; have c15 := (K.out.vc (.head _)).cell5; have c16 := (K.out.vc (.head _)).cell6; have c17 := (K.out.vc (.head _)).cell7; have c18 := (K.out.vc (.head _)).cell8)
  go_wp2_with fail
  exact ret_vc Try.results36 rfl ((K.out.putv_0 (vof a b c)).vc (.head _)) ⟨rfl, (K.out.putv_0 (vof a b c)).B⟩

set_option maxHeartbeats 1000000 in
set_option maxRecDepth 100000 in
theorem vadd_any (v u : Vc) (w : World) : Calls Try.prog 23 #[v.v, u.v] w fun e w' => e = .returned (vadd v u).v ∧ Below w.heap.size w w' := by
  have K := Lib.hid (Keep.begin3 w (Obj.vec 25 v) (Obj.vec 25 u) (Obj.vec 25 ⟨vz, vz, vz⟩))
  go_enter Try.func23, Try.ntmps23
  go_wp2_with fail
  (refine ((each_any 46 (by decide) add add_any v u _)).mono ?_; rintro e w2 ⟨rfl, hb⟩; replace K := Lib.hid (Keep.stays _ _ K.out hb); clear hb)
  (have f1 := (K.out.vc (.head _)).warm; have c10 := (K.out.vc (.head _)).cell0; have c11 := (K.out.vc (.head _)).cell1; have c12 := (K.out.vc (.head _)).cell2; have c13 := (K.out.vc (.head _)).cell3; have c14 := (K.out.vc (.head _)).cell4; have c15 := (K.out.vc (.head _)).cell5; have c16 := (K.out.vc (.head _)).cell6; have c17 := (K.out.vc (.head _)).cell7; have c18 := (K.out.vc (.head _)).cell8)
  go_wp2_with fail
  exact ret_vc Try.results23 rfl ((K.out.putv_0 (vadd v u)).vc (.head _)) ⟨rfl, (K.out.putv_0 (vadd v u)).B⟩

set_option maxHeartbeats 1000000 in
set_option maxRecDepth 100000 in
theorem vsub_any (v u : Vc) (w : World) : Calls Try.prog 24 #[v.v, u.v] w fun e w' => e = .returned (vsub v u).v ∧ Below w.heap.size w w' := by
  have K := Lib.hid (Keep.begin3 w (Obj.vec 25 v) (Obj.vec 25 u) (Obj.vec 25 ⟨vz, vz, vz⟩))
  go_enter Try.func24, Try.ntmps24
  go_wp2_with fail
  (refine ((each_any 49 (by decide) sub sub_any v u _)).mono ?_; rintro e w2 ⟨rfl, hb⟩; replace K := Lib.hid (Keep.stays _ _ K.out hb); clear hb)
  (have f1 := (K.out.vc (.head _)).warm; have c10 := (K.out.vc (.head _)).cell0; have c11 := (K.out.vc (.head _)).cell1; have c12 := (K.out.vc (.head _)).cell2; have c13 := (K.out.vc (.head _)).cell3; have c14 := (K.out.vc (.head _)).cell4; have c15 := (K.out.vc (.head _)).cell5; have c16 := (K.out.vc (.head _)).cell6; have c17 := (K.out.vc (.head _)).cell7; have c18 := (K.out.vc (.head _)).cell8)
  go_wp2_with fail
  exact ret_vc Try.results24 rfl ((K.out.putv_0 (vsub v u)).vc (.head _)) ⟨rfl, (K.out.putv_0 (vsub v u)).B⟩

set_option maxHeartbeats 1000000 in
set_option maxRecDepth 100000 in
theorem vscale_any (v : Vc) (s : Sp) (w : World) : Calls Try.prog 25 #[v.v, s.v] w fun e w' => e = .returned (vscale v s).v ∧ Below w.heap.size w w' := by
  have K := Lib.hid (Keep.begin3 w (Obj.vec 25 v) (Obj.box s) (Obj.vec 25 ⟨vz, vz, vz⟩))
  go_enter Try.func25, Try.ntmps25
  go_wp2_with fail
  (refine ((each_any 43 (by decide) mul mul_any v ⟨s, s, s⟩ _)).mono ?_; rintro e w2 ⟨rfl, hb⟩; replace K := Lib.hid (Keep.stays _ _ K.out hb); clear hb)
  (have f1 := (K.out.vc (.head _)).warm; have c10 := (K.out.vc (.head _)).cell0; have c11 := (K.out.vc (.head _)).cell1; have c12 := (K.out.vc (.head _)).cell2; have c13 := (K.out.vc (.head _)).cell3; have c14 := (K.out.vc (.head _)).cell4; have c15 := (K.out.vc (.head _)).cell5; have c16 := (K.out.vc (.head _)).cell6; have c17 := (K.out.vc (.head _)).cell7; have c18 := (K.out.vc (.head _)).cell8)
  go_wp2_with fail
  exact ret_vc Try.results25 rfl ((K.out.putv_0 (vscale v s)).vc (.head _)) ⟨rfl, (K.out.putv_0 (vscale v s)).B⟩

set_option maxHeartbeats 1000000 in
set_option maxRecDepth 100000 in
theorem dot_any (v u : Vc) (w : World) : Calls Try.prog 19 #[v.v, u.v] w fun e w' => e = .returned (dot v u).v ∧ Below w.heap.size w w' := by
  have K := Lib.hid (Keep.begin3 w (Obj.vec 25 v) (Obj.vec 25 u) (Obj.box ⟨0, 0, false⟩))
  go_enter Try.func19, Try.ntmps19
  go_wp2_with fail
  (refine ((each_any 43 (by decide) mul mul_any v u _)).mono ?_; rintro e w2 ⟨rfl, hb⟩; replace K := Lib.hid (Keep.stays _ _ K.out hb); clear hb)
  (go_upto_region 2 with fail; replace K := Lib.hid (K.out.alloc (Obj.vec 25 ⟨mul v.x u.x, mul v.y u.y, mul v.z u.z⟩)); generalize w2.heap.size = gg at *; refine out_keep K.out ?_; clear K; intro W K; replace K := Lib.hid K; clear w2)
  (refine region_tail _ 8 (by kernel_rfl) (by kernel_rfl) K.out.drew ?_; haveI ne := Keep.ne K)
  (have c10 := Keep.av0 K (.head _); have c11 := Keep.av1 K (.head _); have c12 := Keep.av2 K (.head _); have c13 := Keep.av3 K (.head _); have c14 := Keep.av4 K (.head _); have c15 := Keep.av5 K (.head _); have c16 := Keep.av6 K (.head _); have c17 := Keep.av7 K (.head _); have c18 := Keep.av8 K (.head _))
  (simp only [List.take_succ_cons, List.take_zero, List.drop_succ_cons, List.drop_zero])
  repeat (go_big_quiet_step ((go_at_call 46; with_reducible exact At.call Keep.stays (add_any _ _ _))))
  (refine wpQuiet_nil ?_; clear ne K; intro W K; replace K := Lib.hid K)
  ((try clear f1); (try clear c10 c11 c12 c13 c14 c15 c16 c17 c18))
  (have f2 := (K.out.sp (.tail _ (.head _))).warm; have c20 := (K.out.sp (.tail _ (.head _))).cell0; have c21 := (K.out.sp (.tail _ (.head _))).cell1; have c22 := (K.out.sp (.tail _ (.head _))).cell2)
  go_wp2_with fail
  exact ret_sp Try.results19 rfl ((K.out.put_1 (dot v u)).sp (.tail _ (.head _))) ⟨rfl, (K.out.put_1 (dot v u)).B⟩

set_option maxHeartbeats 1000000 in
set_option maxRecDepth 100000 in
theorem norm2_any (v : Vc) (w : World) : Calls Try.prog 20 #[v.v] w fun e w' => e = .returned (norm2 v).v ∧ Below w.heap.size w w' := by
  have K := Lib.hid (Keep.begin2 w (Obj.vec 25 v) (Obj.box ⟨0, 0, false⟩))
  go_enter Try.func20, Try.ntmps20
  go_wp2_with fail
  (refine region_tail _ 11 (by kernel_rfl) (by kernel_rfl) K.out.drew ?_; haveI ne := Keep.ne K)
  (have c10 := Keep.av0 K (.tail _ (.head _)); have c11 := Keep.av1 K (.tail _ (.head _)); have c12 := Keep.av2 K (.tail _ (.head _)); have c13 := Keep.av3 K (.tail _ (.head _)); have c14 := Keep.av4 K (.tail _ (.head _)); have c15 := Keep.av5 K (.tail _ (.head _)); have c16 := Keep.av6 K (.tail _ (.head _)); have c17 := Keep.av7 K (.tail _ (.head _)); have c18 := Keep.av8 K (.tail _ (.head _)))
  (simp only [List.take_succ_cons, List.take_zero, List.drop_succ_cons, List.drop_zero])
  repeat (go_big_quiet_step (first | (go_at_call 45; with_reducible exact At.call Keep.stays (sqr_any _ _)) | (go_at_call 46; with_reducible exact At.call Keep.stays (add_any _ _ _))))
  (refine wpQuiet_nil ?_; clear ne K; intro W K; replace K := Lib.hid K)
  ((try clear f1); (try clear c10 c11 c12 c13 c14 c15 c16 c17 c18))
  (have f2 := (K.out.sp (.head _)).warm; have c20 := (K.out.sp (.head _)).cell0; have c21 := (K.out.sp (.head _)).cell1; have c22 := (K.out.sp (.head _)).cell2)
  go_wp2_with fail
  exact ret_sp Try.results20 rfl ((K.out.put_0 (norm2 v)).sp (.head _)) ⟨rfl, (K.out.put_0 (norm2 v)).B⟩

set_option maxHeartbeats 1000000 in
set_option maxRecDepth 100000 in
theorem vmid_any (v : Vc) (w : World) : Calls Try.prog 34 #[v.v] w fun e w' => e = .returned (.agg #[.int .i64 (mid v.x), .int .i64 (mid v.y), .int .i64 (mid v.z)]) ∧ Below w.heap.size w w' := by
  have K := Lib.hid (Keep.begin2 w (Obj.vec 25 v) (Obj.arr 0 0 0))
  go_enter Try.func34, Try.ntmps34
  go_wp2_with fail
  (refine region_tail _ 10 (by kernel_rfl) (by kernel_rfl) K.out.drew ?_; haveI ne := Keep.ne K)
  (have c10 := Keep.av0 K (.tail _ (.head _)); have c11 := Keep.av1 K (.tail _ (.head _)); have c12 := Keep.av2 K (.tail _ (.head _)); have c13 := Keep.av3 K (.tail _ (.head _)); have c14 := Keep.av4 K (.tail _ (.head _)); have c15 := Keep.av5 K (.tail _ (.head _)); have c16 := Keep.av6 K (.tail _ (.head _)); have c17 := Keep.av7 K (.tail _ (.head _)); have c18 := Keep.av8 K (.tail _ (.head _)))
  (simp only [List.take_succ_cons, List.take_zero, List.drop_succ_cons, List.drop_zero])
  repeat (go_big_quiet_step ((go_at_call 63; with_reducible exact At.call Keep.stays (mid_any _ _))))
  (refine wpQuiet_nil ?_; clear ne K; intro W K; replace K := Lib.hid K)
  ((try clear f1); (try clear c10 c11 c12 c13 c14 c15 c16 c17 c18))
  obtain ⟨f2, c20, c21, c22⟩ := K.out.arc (.head _)
  go_wp2_with fail
  exact ret_ar Try.results34 rfl ((K.out.putar _ _ _).box _ (.head _)) ⟨rfl, (K.out.putar _ _ _).B⟩

set_option maxHeartbeats 1000000 in
set_option maxRecDepth 100000 in
theorem vrad_any (v : Vc) (w : World) : Calls Try.prog 35 #[v.v] w fun e w' => e = .returned (.int .i64 (vrad v)) ∧ Below w.heap.size w w' := by
  have K := Lib.hid (Keep.begin1 w (Obj.vec 25 v))
  go_enter Try.func35, Try.ntmps35
  go_wp2_with fail
  (refine region_quiet _ (by kernel_rfl) (by kernel_rfl) K.out.drew ?_; haveI ne := Keep.ne K)
  (have c10 := Keep.av0 K (.head _); have c11 := Keep.av1 K (.head _); have c12 := Keep.av2 K (.head _); have c13 := Keep.av3 K (.head _); have c14 := Keep.av4 K (.head _); have c15 := Keep.av5 K (.head _); have c16 := Keep.av6 K (.head _); have c17 := Keep.av7 K (.head _); have c18 := Keep.av8 K (.head _))
  repeat (go_big_quiet_step ((go_at_call 64; with_reducible exact At.call Keep.stays (rad_any _ _))))
  (refine wpQuiet_nil ?_; clear ne K; intro W K; replace K := Lib.hid K)
  ((try clear f1); (try clear c10 c11 c12 c13 c14 c15 c16 c17 c18))
  go_wp2_with fail
  go_ret
  exact ⟨rfl, K.out.B⟩

set_option maxHeartbeats 1000000 in
set_option maxRecDepth 100000 in
theorem one_any (x : Sp) (w : World) : Calls Try.prog 26 #[x.v] w fun e w' => e = .returned x.v ∧ Below w.heap.size w w' := by
  have K := Lib.hid (Keep.begin2 w (Obj.box x) (Obj.ref ⟨0, 0, false⟩))
  go_enter Try.func26, Try.ntmps26
  go_upto_region 1 with fail
  (refine out_keep K.out ?_; clear K; intro W K; replace K := Lib.hid K)
  (have f1 := (K.out.sp (.tail _ (.head _))).warm; have c10 := (K.out.sp (.tail _ (.head _))).cell0; have c11 := (K.out.sp (.tail _ (.head _))).cell1; have c12 := (K.out.sp (.tail _ (.head _))).cell2)
  (have f2 := (K.out.rf (.head _)).warm; have c20 := (K.out.rf (.head _)).cell0; have c21 := (K.out.rf (.head _)).cell1; have c22 := (K.out.rf (.head _)).cell2)
  go_wp2_with fail
  exact ret_rf Try.results26 rfl ((K.out.putr_0 x).rf (.head _)) ⟨rfl, (K.out.putr_0 x).B⟩

set_option maxHeartbeats 1000000 in
set_option maxRecDepth 100000 in
theorem vdoc_any (v : Vc) (w : World) : Calls Try.prog 22 #[v.v] w fun e w' => e = .returned v.v ∧ Below w.heap.size w w' := by
  have K := Lib.hid (Keep.begin2 w (Obj.vec 25 v) (Obj.vec 36 ⟨vz, vz, vz⟩))
  go_enter Try.func22, Try.ntmps22
  go_wp2_with fail
  (refine region_tail _ 10 (by kernel_rfl) (by kernel_rfl) K.out.drew ?_; haveI ne := Keep.ne K)
  (have c10 := Keep.av0 K (.tail _ (.head _)); have c11 := Keep.av1 K (.tail _ (.head _)); have c12 := Keep.av2 K (.tail _ (.head _)); have c13 := Keep.av3 K (.tail _ (.head _)); have c14 := Keep.av4 K (.tail _ (.head _)); have c15 := Keep.av5 K (.tail _ (.head _)); have c16 := Keep.av6 K (.tail _ (.head _)); have c17 := Keep.av7 K (.tail _ (.head _)); have c18 := Keep.av8 K (.tail _ (.head _)))
  (simp only [List.take_succ_cons, List.take_zero, List.drop_succ_cons, List.drop_zero])
  repeat (go_big_quiet_step ((go_at_call 26; with_reducible exact At.call Keep.stays (one_any _ _))))
  (refine wpQuiet_nil ?_; clear ne K; intro W K; replace K := Lib.hid K)
  ((try clear f1); (try clear c10 c11 c12 c13 c14 c15 c16 c17 c18))
  (have f2 := (K.out.vc (.head _)).warm; have c20 := (K.out.vc (.head _)).cell0; have c21 := (K.out.vc (.head _)).cell1; have c22 := (K.out.vc (.head _)).cell2; have c23 := (K.out.vc (.head _)).cell3; have c24 := (K.out.vc (.head _)).cell4; have c25 := (K.out.vc (.head _)).cell5; have c26 := (K.out.vc (.head _)).cell6; have c27 := (K.out.vc (.head _)).cell7; have c28 := (K.out.vc (.head _)).cell8)
  go_wp2_with fail
  exact ret_rv Try.results22 rfl ((K.out.putv_0 v).vc (.head _)) ⟨rfl, (K.out.putv_0 v).B⟩

set_option maxHeartbeats 1000000 in
set_option maxRecDepth 100000 in
theorem vin_any (v u : Vc) (w : World) : Calls Try.prog 33 #[v.v, u.v] w fun e w' => e = .returned (.bool (vin v u)) ∧ Below w.heap.size w w' := by
  have K := Lib.hid (Keep.begin2 w (Obj.vec 25 v) (Obj.vec 25 u))
  go_enter Try.func33, Try.ntmps33
  go_wp2_with fail
  (refine ((in_any v.x u.x _)).mono ?_; rintro e w2 ⟨rfl, hb⟩; replace K := Lib.hid (Keep.stays _ _ K.out hb); clear hb)
  (have f1 := (K.out.vc (.tail _ (.head _))).warm; have c10 := (K.out.vc (.tail _ (.head _))).cell0; have c11 := (K.out.vc (.tail _ (.head _))).cell1; have c12 := (K.out.vc (.tail _ (.head _))).cell2; have c13 := (K.out.vc (.tail _ (.head _))).cell3; have c14 := (K.out.vc (.tail _ (.head _))).cell4; have c15 := (K.out.vc (.tail _ (.head _))).cell5; have c16 := (K.out.vc (.tail _ (.head _))).cell6; have c17 := (K.out.vc (.tail _ (.head _))).cell7; have c18 := (K.out.vc (.tail _ (.head _))).cell8)
  (have f2 := (K.out.vc (.head _)).warm; have c20 := (K.out.vc (.head _)).cell0; have c21 := (K.out.vc (.head _)).cell1; have c22 := (K.out.vc (.head _)).cell2; have c23 := (K.out.vc (.head _)).cell3; have c24 := (K.out.vc (.head _)).cell4; have c25 := (K.out.vc (.head _)).cell5; have c26 := (K.out.vc (.head _)).cell6; have c27 := (K.out.vc (.head _)).cell7; have c28 := (K.out.vc (.head _)).cell8)
  cases h1 : inn v.x u.x with
  | false =>
    go_wp2_with fail
    go_ret
    exact ⟨ret_bool (by simp [vin, h1]), K.out.B⟩
  | true =>
    go_wp2_with fail
    (refine ((in_any v.y u.y _)).mono ?_; rintro e w2 ⟨rfl, hb⟩; replace K := Lib.hid (Keep.stays _ _ K.out hb); clear hb)
    ((try clear f1); (try clear c10 c11 c12 c13 c14 c15 c16 c17 c18))
    ((try clear f2); (try clear c20 c21 c22 c23 c24 c25 c26 c27 c28))
    (have f1 := (K.out.vc (.tail _ (.head _))).warm; have c10 := (K.out.vc (.tail _ (.head _))).cell0; have c11 := (K.out.vc (.tail _ (.head _))).cell1; have c12 := (K.out.vc (.tail _ (.head _))).cell2; have c13 := (K.out.vc (.tail _ (.head _))).cell3; have c14 := (K.out.vc (.tail _ (.head _))).cell4; have c15 := (K.out.vc (.tail _ (.head _))).cell5; have c16 := (K.out.vc (.tail _ (.head _))).cell6; have c17 := (K.out.vc (.tail _ (.head _))).cell7; have c18 := (K.out.vc (.tail _ (.head _))).cell8)
    (have f2 := (K.out.vc (.head _)).warm; have c20 := (K.out.vc (.head _)).cell0; have c21 := (K.out.vc (.head _)).cell1; have c22 := (K.out.vc (.head _)).cell2; have c23 := (K.out.vc (.head _)).cell3; have c24 := (K.out.vc (.head _)).cell4; have c25 := (K.out.vc (.head _)).cell5; have c26 := (K.out.vc (.head _)).cell6; have c27 := (K.out.vc (.head _)).cell7; have c28 := (K.out.vc (.head _)).cell8)
    cases h2 : inn v.y u.y with
    | false =>
      go_wp2_with fail
      go_ret
      exact ⟨ret_bool (by simp [vin, h1, h2]), K.out.B⟩
    | true =>
      go_wp2_with fail
      (refine ((in_any v.z u.z _)).mono ?_; rintro e w2 ⟨rfl, hb⟩; replace K := Lib.hid (Keep.stays _ _ K.out hb); clear hb)
      ((try clear f1); (try clear c10 c11 c12 c13 c14 c15 c16 c17 c18))
      ((try clear f2); (try clear c20 c21 c22 c23 c24 c25 c26 c27 c28))
      go_wp2_with fail
      go_ret
      exact ⟨ret_bool (by simp [vin, h1, h2]), K.out.B⟩

set_option maxRecDepth 100000 in
theorem inside_any (x : Sp) (n b : Int) (w : World) (hx : x.all = true ∨ Fin x) (b0 : 0 ≤ b) (b1 : b ≤ 1048576) : Calls Try.prog 18 #[x.v, .int .i64 n, .int .i64 b] w fun e w' => e = .returned (.bool (withinB x n b)) ∧ Below w.heap.size w w' := by
  obtain ⟨lo, hi, all⟩ := x
  have HB := Lib.hid (Keep.begin1 w (Obj.box ⟨lo, hi, all⟩)).B
  cases all with
  | true =>
    clear hx
    go_enter Try.func18, Try.ntmps18
    go_wp2_with fail
    go_ret
    exact ⟨ret_bool (by simp [withinB]), HB.out⟩
  | false =>
    obtain ⟨-, h1, h2, h3⟩ : Fin ⟨lo, hi, false⟩ := hx.resolve_left (by simp)
    simp only at h1 h2 h3
    clear hx
    have m1 := mul_bound (a := lo) (b := b) (by omega) (by omega) (by omega) (by omega)
    have m2 := mul_bound (a := hi) (b := b) (by omega) (by omega) (by omega) (by omega)
    obtain ⟨m1, m1'⟩ := m1
    obtain ⟨m2, m2'⟩ := m2
    have HW : Hid (withinB ⟨lo, hi, false⟩ n b = (decide (lo * b ≤ n) && decide (n ≤ hi * b))) := by show _ = _; simp [withinB]
    by_cases d1 : lo * b ≤ n
    · go_enter Try.func18, Try.ntmps18
      go_wp2_with fail
      go_ret
      exact ⟨ret_bool (by rw [HW.out]; first | (simp [d1]; done) | (simp [d1]; omega)), HB.out⟩
    · go_enter Try.func18, Try.ntmps18
      go_wp2_with fail
      go_ret
      exact ⟨ret_bool (by rw [HW.out]; first | (simp [d1]; done) | (simp [d1]; omega)), HB.out⟩
end Go.Proofs.Ytehjfjdopeadfaa
