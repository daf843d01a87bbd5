/- The statement TreeFull. -/
import Derived.Test.YtpglmeeledmkoaaRows
import Derived.WalkKit
import Derived.ProofKit
import Derived.OpenShut
import Derived.Lib.SmallJoins
import Derived.Test.YtpglmeeledmkoaaT9
namespace Go.Proofs.Ytpglmeeledmkoaa.treeFull
open Go.ChangeShapes Go.WideShapes Go.ChangeAt Go.RowKit Go.Joins
set_option linter.unusedVariables false

theorem own : ownKnob Try.prog.godebug = none := by kernel_rfl

theorem walk (l0 l1 l2 l3 a1 : Int) (w : World) :
    Calls Try.prog 5 #[.agg #[.int .i64 l0, .int .i64 l1, .int .i64 l2, .int .i64 l3], .int .i64 a1] w fun e w' => e = .returned (.bool true) ∧ Below w.heap.size w w' :=
  (Full_any l0 l1 l2 l3 a1 w).mono fun e w' ⟨h1, h2⟩ => ⟨h1, h2.below⟩

set_option maxRecDepth 100000 in
theorem lifted (os : Os) (started : os.Started) (H : Type) (enc : TypeId × Value → H) :
    ReturnsInHanded {} Try.checked os 5 .any (Rows.treeFullSpec.pre6 enc Try.prog Try.f5 Rows.treeFullRow.domain false) (Rows.treeFullSpec.post enc Try.prog Try.f5 false true false false) := by
  refine returnsInHanded_of_change (C := Try.checked) own started (by kernel_rfl) Try.func5
    (ChangeSpec.witness6 (enc := enc) (C := Try.checked) false ⟨#[], #[.agg #[.int .i64 0, .int .i64 0, .int .i64 0, .int .i64 0], .int .i64 0], []⟩ 8 (by kernel_rfl) (by kernel_rfl) (by kernel_rfl) (by kernel_rfl)) ?_
  intro W base args ds gs before hval0 hW hcnd _
  have hval : ∀ (j : Nat) t v, Try.f5.params[j]? = some t → args[j]? = some v → Value.okWide Try.prog W .any base t v := hval0
  have hW' := hW
  obtain ⟨p, q, hA0, hV, rfl, hfz, hnd⟩ := hW
  have hA : DataW.TrodAll enc Try.prog W 0 (fun _ => true) true Try.f5.params.toList args.toList ds p := hA0
  rw [Try.params5] at hA hval
  obtain ⟨v0, vs0, d0, ds0, p0, q0, hargs, rfl, rfl, h0, r0⟩ := trodAll_cons hA
  obtain ⟨v1, vs1, d1, ds1, p1, q1, hargs1, rfl, rfl, h1, r1⟩ := trodAll_cons r0
  obtain ⟨rfl, rfl, rfl⟩ := trodAll_nil r1
  obtain rfl : args = #[v0, v1] := by cases args; simp_all
  obtain ⟨rfl, rfl⟩ := trodVars_none hV
  obtain ⟨c0, c1, c2, c3, y0, y1, y2, y3, n, rfl, rfl, rfl, t0, t1, t2, t3⟩ := open_agg4 Try.underlying38 (by kernel_rfl) (by kernel_rfl) (hval 0 38 v0 rfl rfl) h0
  obtain ⟨z0, e0, x0, k0⟩ := DataW.trod_int Try.underlying3 t0
  obtain ⟨z1, e1, x1, k1⟩ := DataW.trod_int Try.underlying3 t1
  obtain ⟨z2, e2, x2, k2⟩ := DataW.trod_int Try.underlying3 t2
  obtain ⟨z3, e3, x3, k3⟩ := DataW.trod_int Try.underlying3 t3
  simp only [List.cons.injEq, and_true] at e0 e1 e2 e3
  subst e0 e1 e2 e3 x0 x1 x2 x3
  obtain ⟨a1, rfl, rfl, rfl, w1⟩ := open_int Try.underlying3 (hval 1 3 v1 rfl rfl) h1
  clear hA0 hval0
  simp only [List.append_nil] at hW'
  refine (walk z0 z1 z2 z3 a1 W).mono fun e W' ⟨he, hg⟩ => ?_
  subst he
  have mk : ∀ (W : World) (b : Nat) (sp : Nat → Bool) (hd : Bool) (z : Int), (Lit.int .i64 z).wf = true → ∃ n, DataW.trod enc Try.prog W b sp hd n 3 [.int .i64 z] = some (.lit (.int .i64 z), []) :=
    fun W b sp hd z hz => ⟨1, by simp [DataW.trod, Try.underlying3, hz]⟩
  exact ⟨_, rfl, ⟨_, _, _, [], _, [], hW', trodAll_cons_mk (shut_bool Try.underlying4 _) trodAll_mk0,
    trodAll_cons_mk (shut_agg4 (y0 := (.lit (.int .i64 z0), [])) (y1 := (.lit (.int .i64 z1), [])) (y2 := (.lit (.int .i64 z2), [])) (y3 := (.lit (.int .i64 z3), [])) Try.underlying38 (by kernel_rfl) (by kernel_rfl) (mk _ _ _ _ _ k0) (mk _ _ _ _ _ k1) (mk _ _ _ _ _ k2) (mk _ _ _ _ _ k3)) (trodAll_cons_mk (shut_int Try.underlying3 w1) trodAll_mk0),
    rfl, hg.frame _, fun h => by cases h⟩⟩

theorem over : Rows.treeFullRow.holds Try.pinned (OpenSpec.ofChange Rows.treeFullSpec) :=
  OpenClaim.holds_of_wide 5 Try.f5 rfl rfl rfl rfl rfl rfl rfl ⟨rfl, rfl, rfl, rfl, rfl⟩ rfl rfl rfl rfl rfl (by kernel_rfl) Try.func5 (by kernel_rfl)
    (of_decide_eq_true (by kernel_rfl)) (by unfold Func.isWrapper; first | (rw [if_pos (by decide +kernel)]; kernel_rfl) | (rw [if_neg (by decide +kernel)]; exact ⟨rfl, rfl⟩))
    (fun os started H enc _ => lifted os started H enc)

theorem proved : Rows.TreeFullSaid :=
  over
#print axioms proved
end Go.Proofs.Ytpglmeeledmkoaa.treeFull
