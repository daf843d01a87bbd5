import Derived.Test.YtkdbfjomjlhfbaaProg
import Derived.Test.YtkdbfjomjlhfbaaNd
import Derived.Test.YtkdbfjomjlhfbaaVm
namespace Go.Proofs.Ytkdbfjomjlhfbaa
open Go.Vc
set_option linter.unusedSectionVars false
variable [Inhabited Zt]

theorem bin_remM {P : Program} {w : World} {T : TypeId} {a b : Operand} {x y : Nat} (hy : y ≠ 0) :
  (vS (do eqGuard .rem T a b (I6 (x : Int)) (I6 (y : Int)); binOp .rem T (I6 (x : Int)) (I6 (y : Int)))).run P w = .ok (.value (I6 ((x % y : Nat) : Int))) w :=
 bin_rem (x := (x : Int)) (y := (y : Int)) (by omega)
/-- the marks of list i -/
def mk (i j : Nat) : Int := if j % 3 = 0 then IntKind.u8.wrap i else if j % 3 = 1 then IntKind.u8.wrap ((i : Int).fdiv 256) else IntKind.u8.wrap j
theorem u8_bd (z : Int) : 0 ≤ IntKind.u8.wrap z ∧ IntKind.u8.wrap z ≤ 255 := by
 have h : IntKind.u8.wrap z = z % 256 := rfl
 rw [h]; omega
theorem mk_bd (i j : Nat) : 0 ≤ mk i j ∧ mk i j ≤ 255 := by
 unfold mk
 split
 ·exact u8_bd _
 ·split <;> exact u8_bd _
def fB (i j : Nat) : List Value := [.int .u8 (mk i j)]
def tB (i j : Nat) : List Value := [.int .u8 (255 - mk i j)]

theorem Mark_0 {i j : Nat} {w : World} (h : j % 3 = 0) :
  Calls Try.prog 51 #[I6 ↑i, I6 ↑j] w fun e w' => e = .returned (.int .u8 (IntKind.u8.wrap ↑i)) ∧ w' = w := by
 refine calls_body 18 [(0, I6 ↑i), (1, I6 ↑j)] Try.func51 rfl (by kernel_rfl) (by kernel_rfl) (by kernel_rfl) fun a hS => ?_
 refine sq fun K1 hK1 => ?_
 refine rgn 1 ?_
 refine sg wide_wide [.p] [] [(0, I6 ↑i), (1, I6 ↑j), (4, .int .u8 0)] 1 0 hS .nil fun a hS => ?_
 refine seg_end ?_
 refine hK1 _ _ ?_
 refine sq fun K2 hK2 => ?_
 refine sq fun K3 hK3 => ?_
 refine rgn 2 ?_
 refine sg wide_wide [.p, .run (I6 ((j % 3 : Nat) : Int))] [Ru Try.prog (vS (do eqGuard .rem 3 (.tmp 5) (.const (I6 3)) (I6 ↑j) (I6 3); binOp .rem 3 (I6 ↑j) (I6 3))) (I6 ((j % 3 : Nat) : Int)) w] [(0, I6 ↑i), (1, I6 ↑j), (4, .int .u8 0), (6, I6 ((j % 3 : Nat) : Int))] 2 0 hS (.cons (bin_remM (y := 3) (by omega)) .nil) fun a hS => ?_
 refine seg_end ?_
 refine hK3 _ _ ?_
 refine wpIn_block ?_
 refine sq fun K4 hK4 => ?_
 refine rgn 2 ?_
 refine sg wide_wide [.as (.bool true), .p] [Value.bool (((((j % 3 : Nat) : Int) : Int) == 0)) = .bool true] [(0, I6 ↑i), (1, I6 ↑j), (4, .int .u8 0), (6, I6 ((j % 3 : Nat) : Int)), (7, .bool true)] 2 0 hS (.cons (as_eq_t (by omega)) .nil) fun a hS => ?_
 refine seg_end ?_
 refine hK4 _ _ ?_
 refine cond_t hS rfl ?_
 refine sq fun K5 hK5 => ?_
 refine rgn 3 ?_
 refine sg wide_wide [.p, .p, .p] [] [(0, I6 ↑i), (1, I6 ↑j), (4, .int .u8 (IntKind.u8.wrap ↑i)), (6, I6 ((j % 3 : Nat) : Int)), (7, .bool true)] 3 0 hS .nil fun a hS => ?_
 refine seg_end ?_
 refine hK5 _ _ ?_
 refine wpIn_ret ?_
 refine inBlock_ret ?_
 refine then_ret ?_
 refine ret1 hS Try.results51 rfl ?_
 exact ⟨rfl, rfl⟩

theorem Mark_1 {i j : Nat} {w : World} (h : j % 3 = 1) :
  Calls Try.prog 51 #[I6 ↑i, I6 ↑j] w fun e w' => e = .returned (.int .u8 (IntKind.u8.wrap ((i : Int).fdiv 256))) ∧ w' = w := by
 refine calls_body 18 [(0, I6 ↑i), (1, I6 ↑j)] Try.func51 rfl (by kernel_rfl) (by kernel_rfl) (by kernel_rfl) fun a hS => ?_
 refine sq fun K1 hK1 => ?_
 refine rgn 1 ?_
 refine sg wide_wide [.p] [] [(0, I6 ↑i), (1, I6 ↑j), (4, .int .u8 0)] 1 0 hS .nil fun a hS => ?_
 refine seg_end ?_
 refine hK1 _ _ ?_
 refine sq fun K2 hK2 => ?_
 refine sq fun K3 hK3 => ?_
 refine rgn 2 ?_
 refine sg wide_wide [.p, .run (I6 ((j % 3 : Nat) : Int))] [Ru Try.prog (vS (do eqGuard .rem 3 (.tmp 5) (.const (I6 3)) (I6 ↑j) (I6 3); binOp .rem 3 (I6 ↑j) (I6 3))) (I6 ((j % 3 : Nat) : Int)) w] [(0, I6 ↑i), (1, I6 ↑j), (4, .int .u8 0), (6, I6 ((j % 3 : Nat) : Int))] 2 0 hS (.cons (bin_remM (y := 3) (by omega)) .nil) fun a hS => ?_
 refine seg_end ?_
 refine hK3 _ _ ?_
 refine wpIn_block ?_
 refine sq fun K4 hK4 => ?_
 refine rgn 2 ?_
 refine sg wide_wide [.as (.bool false), .p] [Value.bool (((((j % 3 : Nat) : Int) : Int) == 0)) = .bool false] [(0, I6 ↑i), (1, I6 ↑j), (4, .int .u8 0), (6, I6 ((j % 3 : Nat) : Int)), (7, .bool false)] 2 0 hS (.cons (as_eq_f (by omega)) .nil) fun a hS => ?_
 refine seg_end ?_
 refine hK4 _ _ ?_
 refine cond_f hS rfl ?_
 refine sq fun K5 hK5 => ?_
 refine rgn 2 ?_
 refine sg wide_wide [.as (.bool true), .p] [Value.bool (((((j % 3 : Nat) : Int) : Int) == 1)) = .bool true] [(0, I6 ↑i), (1, I6 ↑j), (4, .int .u8 0), (6, I6 ((j % 3 : Nat) : Int)), (7, .bool false), (11, .bool true)] 2 0 hS (.cons (as_eq_t (by omega)) .nil) fun a hS => ?_
 refine seg_end ?_
 refine hK5 _ _ ?_
 refine cond_t hS rfl ?_
 refine sq fun K6 hK6 => ?_
 refine rgn 4 ?_
 refine sg wide_wide [.p, .p, .p, .p] [] [(0, I6 ↑i), (1, I6 ↑j), (4, .int .u8 (IntKind.u8.wrap (Int.fdiv ↑i 256))), (6, I6 ((j % 3 : Nat) : Int)), (7, .bool false), (11, .bool true)] 4 0 hS .nil fun a hS => ?_
 refine seg_end ?_
 refine hK6 _ _ ?_
 refine wpIn_ret ?_
 refine inBlock_ret ?_
 refine then_ret ?_
 refine ret1 hS Try.results51 rfl ?_
 exact ⟨rfl, rfl⟩

theorem Mark_2 {i j : Nat} {w : World} (h : j % 3 = 2) :
  Calls Try.prog 51 #[I6 ↑i, I6 ↑j] w fun e w' => e = .returned (.int .u8 (IntKind.u8.wrap ↑j)) ∧ w' = w := by
 refine calls_body 18 [(0, I6 ↑i), (1, I6 ↑j)] Try.func51 rfl (by kernel_rfl) (by kernel_rfl) (by kernel_rfl) fun a hS => ?_
 refine sq fun K1 hK1 => ?_
 refine rgn 1 ?_
 refine sg wide_wide [.p] [] [(0, I6 ↑i), (1, I6 ↑j), (4, .int .u8 0)] 1 0 hS .nil fun a hS => ?_
 refine seg_end ?_
 refine hK1 _ _ ?_
 refine sq fun K2 hK2 => ?_
 refine sq fun K3 hK3 => ?_
 refine rgn 2 ?_
 refine sg wide_wide [.p, .run (I6 ((j % 3 : Nat) : Int))] [Ru Try.prog (vS (do eqGuard .rem 3 (.tmp 5) (.const (I6 3)) (I6 ↑j) (I6 3); binOp .rem 3 (I6 ↑j) (I6 3))) (I6 ((j % 3 : Nat) : Int)) w] [(0, I6 ↑i), (1, I6 ↑j), (4, .int .u8 0), (6, I6 ((j % 3 : Nat) : Int))] 2 0 hS (.cons (bin_remM (y := 3) (by omega)) .nil) fun a hS => ?_
 refine seg_end ?_
 refine hK3 _ _ ?_
 refine wpIn_block ?_
 refine sq fun K4 hK4 => ?_
 refine rgn 2 ?_
 refine sg wide_wide [.as (.bool false), .p] [Value.bool (((((j % 3 : Nat) : Int) : Int) == 0)) = .bool false] [(0, I6 ↑i), (1, I6 ↑j), (4, .int .u8 0), (6, I6 ((j % 3 : Nat) : Int)), (7, .bool false)] 2 0 hS (.cons (as_eq_f (by omega)) .nil) fun a hS => ?_
 refine seg_end ?_
 refine hK4 _ _ ?_
 refine cond_f hS rfl ?_
 refine sq fun K5 hK5 => ?_
 refine rgn 2 ?_
 refine sg wide_wide [.as (.bool false), .p] [Value.bool (((((j % 3 : Nat) : Int) : Int) == 1)) = .bool false] [(0, I6 ↑i), (1, I6 ↑j), (4, .int .u8 0), (6, I6 ((j % 3 : Nat) : Int)), (7, .bool false), (11, .bool false)] 2 0 hS (.cons (as_eq_f (by omega)) .nil) fun a hS => ?_
 refine seg_end ?_
 refine hK5 _ _ ?_
 refine cond_f hS rfl ?_
 refine wpIn_skip ?_
 refine inBlock_normal ?_
 refine hK2 _ _ ?_
 refine sq fun K6 hK6 => ?_
 refine rgn 3 ?_
 refine sg wide_wide [.p, .p, .p] [] [(0, I6 ↑i), (1, I6 ↑j), (4, .int .u8 (IntKind.u8.wrap ↑j)), (6, I6 ((j % 3 : Nat) : Int)), (7, .bool false), (11, .bool false)] 3 0 hS .nil fun a hS => ?_
 refine seg_end ?_
 refine hK6 _ _ ?_
 refine wpIn_ret ?_
 refine ret1 hS Try.results51 rfl ?_
 exact ⟨rfl, rfl⟩

theorem Mark_any (i j : Nat) {w : World} : Calls Try.prog 51 #[I6 i, I6 j] w fun e w' => e = .returned (.int .u8 (mk i j)) ∧ w' = w := by
 unfold mk
 by_cases h0 : j % 3 = 0
 ·rw [if_pos h0]; exact Mark_0 h0
 ·rw [if_neg h0]
  by_cases h1 : j % 3 = 1
  ·rw [if_pos h1]; exact Mark_1 h1
  ·rw [if_neg h1]; exact Mark_2 (by omega)

set_option maxHeartbeats 2000000 in
theorem GrownBytes_any {w : World} {vb : Option Addr} {vc : Nat} {L : List Rw} (hF : Fam w 5 1 (fun b => b ∈ bl L ∨ w.heap.size ≤ b) L) (ha : OwnV w 23 1 (.slice vb L.length vc) L.length (L.map Rw.v)) (hm : L.length ≤ 4000000000) (hn : ∀ x ∈ L, x.n ≤ 1000000000) :
  Calls Try.prog 36 #[.slice vb L.length vc] w fun e w' => e = .returned (.bool true) ∧ Ext (bl L) w w' := by
 have hval := ha.lie
 have hEw0 : Ext (bl L) w w := Ext.refl _ _
 refine calls_body 120 [(0, .slice vb L.length vc)] Try.func36 rfl (by kernel_rfl) (by kernel_rfl) (by kernel_rfl) fun a hS => ?_
 refine sq fun K1 hK1 => ?_
 refine rgn 1 ?_
 refine sg wide_wide [.p] [] [(0, .slice vb L.length vc), (2, .bool false)] 1 0 hS .nil fun a hS => ?_
 refine seg_end ?_
 refine hK1 _ _ ?_
 refine sq fun K2 hK2 => ?_
 refine sq fun K3 hK3 => ?_
 refine rgn 1 ?_
 refine sg wide_wide [.p] [] [(0, .slice vb L.length vc), (2, .bool false), (3, I6 0)] 1 0 hS .nil fun a hS => ?_
 refine seg_end ?_
 refine hK3 _ _ ?_
 refine wpIn_block ?_
 refine loop_ghost (fun ((i, K) : Nat × List Rw) a' w' => St 120 [] [(0, .slice vb L.length vc), (3, I6 ↑i)] a' ∧ i ≤ L.length ∧ K.map Rw.v = L.map Rw.v ∧ K.map Rw.n = L.map Rw.n ∧ Fam w' 5 1 (fun b => b ∈ bl L ∨ w.heap.size ≤ b) K ∧ Mk 1 fB K i 0 ∧ OwnV w' 23 1 (.slice vb L.length vc) L.length (L.map Rw.v) ∧ Ext (bl L) w w' ∧ w.heap.size ≤ w'.heap.size) (fun ((i, K) : Nat × List Rw) => L.length - i) (0, L) ⟨hS.keepTo [0, 3] (by kernel_rfl), Nat.zero_le _, rfl, rfl, hF, Mk.start, ha, hEw0, Nat.le_refl _⟩ ?_
 rintro ⟨i, K⟩ a w1 ⟨hS, hil, hKv, hKn, hF1, hM1, ha1, hEx, hsz1⟩
 refine sq fun K4 hK4 => ?_
 refine sq fun K5 hK5 => ?_
 refine rgn 4 ?_
 refine sg wide_wide [.p, .p, .p, .p] [] [(0, .slice vb L.length vc), (3, I6 ↑i), (16, .bool (decide ((↑i : Int) < ↑L.length)))] 4 0 hS .nil fun a hS => ?_
 refine seg_end ?_
 refine hK5 _ _ ?_
 refine cond_b hS rfl (fun hb6 => ?_) (fun hb6 => ?_)
 ·
  replace hb6 := of_decide_eq_true hb6
  have hi : i < L.length := by omega
  obtain ⟨nI, hnI⟩ : ∃ q, (L.map Rw.n)[i]? = some q := ⟨_, List.getElem?_eq_getElem (by simpa using hi)⟩
  have hnI9 : nI ≤ 1000000000 := by
   obtain ⟨y, hy, rfl⟩ := List.mem_map.1 (List.mem_of_getElem? hnI)
   exact hn y hy
  refine wpIn_skip ?_
  refine hK4 _ _ ?_
  refine sq fun K7 hK7 => ?_
  refine wpIn_block ?_
  refine sq fun K8 hK8 => ?_
  refine rgn 1 ?_
  refine sg wide_wide [.p] [] [(0, .slice vb L.length vc), (3, I6 ↑i), (4, I6 0)] 1 0 hS .nil fun a hS => ?_
  refine seg_end ?_
  refine hK8 _ _ ?_
  refine wpIn_block ?_
  refine loop_ghost (fun ((j, K) : Nat × List Rw) a' w' => St 120 [] [(0, .slice vb L.length vc), (3, I6 ↑i), (4, I6 ↑j)] a' ∧ j ≤ nI ∧ K.map Rw.v = L.map Rw.v ∧ K.map Rw.n = L.map Rw.n ∧ Fam w' 5 1 (fun b => b ∈ bl L ∨ w.heap.size ≤ b) K ∧ Mk 1 fB K i j ∧ OwnV w' 23 1 (.slice vb L.length vc) L.length (L.map Rw.v) ∧ Ext (bl L) w w' ∧ w.heap.size ≤ w'.heap.size) (fun ((j, K) : Nat × List Rw) => nI - j) (0, K) ⟨hS.keepTo [0, 3, 4] (by kernel_rfl), Nat.zero_le _, hKv, hKn, hF1, hM1, ha1, hEx, hsz1⟩ ?_
  rintro ⟨j, K⟩ a w2 ⟨hS, hjn, hKv, hKn, hF2, hM2, ha2, hEy, hsz2⟩
  obtain ⟨x, hx⟩ : ∃ x, K[i]? = some x := ⟨_, List.getElem?_eq_getElem (by have := congrArg List.length hKv; simp at this; omega)⟩
  have hxn : x.n = nI := by have h := map_at hKn hx; rw [hnI] at h; exact (Option.some.inj h).symm
  have hxo := hF2.own i x hx
  have hxv0 : (L.map Rw.v)[i]? = some x.v := map_at hKv hx
  refine sq fun K9 hK9 => ?_
  refine sq fun K10 hK10 => ?_
  refine rgn 7 ?_
  refine sg wide_wide [.p, .p, .p, .run ((Po (bof (.slice vb L.length vc)) (0 + i * 1))), .ld (x.v), .run (I6 ↑x.n), .p] [Ru Try.prog (vS (Instr.indexAt 71 (.slice vb L.length vc) (I6 ↑i))) ((Po (bof (.slice vb L.length vc)) (0 + i * 1))) w2, w2.cell? ⟨bof (.slice vb L.length vc), 0 + i * 1, none⟩ = some (x.v), Ru Try.prog (vS (Builtin.len_ #[23] 3 #[x.v])) (I6 ↑x.n) w2] [(0, .slice vb L.length vc), (3, I6 ↑i), (4, I6 ↑j), (25, .bool (decide ((↑j : Int) < ↑x.n)))] 7 0 hS (.cons (ix_own (j := i) (ha2) (by kernel_rfl) (by kernel_rfl) rfl (by omega)) (.cons ((ha2).cellAt _ (by rw [Nat.zero_add, Nat.mul_one]; exact hxv0)) (.cons (run_len_own hxo (by kernel_rfl)) .nil))) fun a hS => ?_
  refine seg_end ?_
  refine hK10 _ _ ?_
  refine cond_b hS rfl (fun hb11 => ?_) (fun hb11 => ?_)
  ·
   replace hb11 := of_decide_eq_true hb11
   obtain ⟨g, cap, hxv, hg⟩ := hxo.some_of_pos (by omega)
   have hgn := hF2.new i x hx g (by rw [hxv]; simp [ob])
   have hgX : Ext [g] w2 w2 := Ext.refl _ _
   have hxv1 : (L.map Rw.v)[i]? = some (.slice (some ⟨g, 0, none⟩) x.n cap) := by rw [← hxv]; exact hxv0
   have hmkb := mk_bd i j
   refine wpIn_skip ?_
   refine hK9 _ _ ?_
   refine sq fun K12 hK12 => ?_
   refine wpIn_block ?_
   refine region_gh2 (G := World) wide_wide [.q .p, .q .p, .q (.run ((Po (bof (.slice vb L.length vc)) (0 + i * 1)))), .q (.ld (.slice (some ⟨g, 0, none⟩) x.n cap)), .q .p, .q .p, .q .p, .e, .q (.run ((Po g (0 + j * 1)))), .e] [0, 0, 0, 0, 0, 0, 0, 0, 1, 1] [1, 1, 1, 1, 1, 0, 0, 0, 1, 1] [0, 0, 3, 7, 0, 0, 0, 96, 255, 511] [7, 9] [(7, 0), (9, 1)] 2 (fun ws13 => ([(0, .slice vb L.length vc), (3, I6 ↑i), (4, I6 ↑j), (28, .slice vb L.length vc), (29, I6 ↑i), (30, (Po (bof (.slice vb L.length vc)) (0 + i * 1))), (31, .slice (some ⟨g, 0, none⟩) x.n cap), (32, I6 ↑j), (33, I6 ↑i), (34, I6 ↑j), (35, .int .u8 (mk i j)), (36, (Po g (0 + j * 1)))] : Fm)) (fun ws13 => [w2.drew, w2.drew, ws13]) (w2.drew) (fun e ws13 => hAt [True, True, (OwnR ws13 5 1 g cap x.n (x.xs.set (0 + j * 1) (Value.int .u8 (mk i j)))) ∧ (Ext [g] w2.drew ws13) ∧ True] e) (fun ws13 w' => [(2, [Ru Try.prog (vS (Instr.indexAt 71 (.slice vb L.length vc) (I6 ↑i))) ((Po (bof (.slice vb L.length vc)) (0 + i * 1))) w']), (3, [w'.cell? ⟨bof (.slice vb L.length vc), 0 + i * 1, none⟩ = some (.slice (some ⟨g, 0, none⟩) x.n cap)]), (8, [Ru Try.prog (vS (Instr.indexAt 23 (.slice (some ⟨g, 0, none⟩) x.n cap) (I6 ↑j))) ((Po g (0 + j * 1))) w'])]) w2.drew [0, 3, 4] [] hS (by kernel_rfl) (by kernel_rfl) (by kernel_rfl) (by kernel_rfl) (fun ws13 _ => by kernel_rfl) (by kernel_rfl) (by kernel_rfl) (by kernel_rfl) trivial ?_ (by kernel_rfl) ?_ ?_
   ·rintro e ws13 w' hw hH
    refine (.cons ?_ (.cons ?_ (.cons ?_ .nil)))
    ·intro h1 h2
     replace h1 : 0 ≤ e := h1
     replace h2 : e ≤ 1 := h2
     have he : e = 0 ∨ e = 1 := by omega
     rcases he with rfl | rfl
     ·have hwe : w2.drew = w' := (hw.trans (by kernel_rfl)).symm
      subst hwe
      clear hH
      exact (.cons (ix_own (j := i) (ha2) (by kernel_rfl) (by kernel_rfl) rfl (by omega)) .nil)
     ·have hwe : w2.drew = w' := (hw.trans (by kernel_rfl)).symm
      subst hwe
      clear hH
      exact (.cons (ix_own (j := i) (ha2) (by kernel_rfl) (by kernel_rfl) rfl (by omega)) .nil)
    ·intro h1 h2
     replace h1 : 0 ≤ e := h1
     replace h2 : e ≤ 1 := h2
     have he : e = 0 ∨ e = 1 := by omega
     rcases he with rfl | rfl
     ·have hwe : w2.drew = w' := (hw.trans (by kernel_rfl)).symm
      subst hwe
      clear hH
      exact (.cons ((ha2.drew : OwnV w2.drew 23 1 (.slice vb L.length vc) L.length (L.map Rw.v)).cellAt _ (by rw [Nat.zero_add, Nat.mul_one]; exact hxv1)) .nil)
     ·have hwe : w2.drew = w' := (hw.trans (by kernel_rfl)).symm
      subst hwe
      clear hH
      exact (.cons ((ha2.drew : OwnV w2.drew 23 1 (.slice vb L.length vc) L.length (L.map Rw.v)).cellAt _ (by rw [Nat.zero_add, Nat.mul_one]; exact hxv1)) .nil)
    ·intro h1 h2
     obtain rfl : e = 1 := Nat.le_antisymm h2 h1
     have hwe : w2.drew = w' := (hw.trans (by kernel_rfl)).symm
     subst hwe
     clear hH
     exact (.cons (ix_slice (E := 5) (size := 1) (j := j) (by kernel_rfl) (by kernel_rfl) rfl (by omega)) .nil)
   ·refine (.cons ?eq14_7 (.cons ?eq14_9 .nil))
    ·rintro ws13 hH
     clear hH
     refine eff_gh (w2.drew) (by kernel_rfl) ?_
     refine upon_call (f := 51) (vs := [I6 ↑i, I6 ↑j]) (cap := #[]) (d := (some 35)) (by kernel_rfl) Try.call51 #[I6 ↑i, I6 ↑j] (by kernel_rfl) (Mark_any i j) ?_
     rintro _ wq ⟨rfl, hwq⟩
     rw [hwq]
     exact ⟨_, rfl, ⟨ws13, by kernel_rfl, by kernel_rfl, by kernel_rfl, trivial⟩⟩
    ·rintro ws13 hH
     clear hH
     refine eff_gh (w2.drew) (by kernel_rfl) ?_
     refine upon_store_own (b := g) (off := 0 + j * 1) (u := Value.int .u8 (mk i j)) (xs := x.xs) (by kernel_rfl) (hg.drew : OwnR w2.drew 5 1 g cap x.n x.xs) (by omega) fun ws13 hOs13 hEs13 hsz13 => ?_
     exact ⟨ws13, by kernel_rfl, by kernel_rfl, by kernel_rfl, ⟨hOs13, hEs13, trivial⟩⟩
   rintro ws13 a w15 hS hw16 hH
   obtain ⟨hOs13, hEs13, _⟩ := hH
   replace hw16 : w15 = ws13 := hw16.trans (by kernel_rfl)
   have hB17 := OwnV.at' hw16 ((ha2.drew : OwnV w2.drew 23 1 (.slice vb L.length vc) L.length (L.map Rw.v)).ext hEs13 (fun x hx hm => by simp at hm; exact (OwnV.neR ha2 hg (by decide)) x hx hm.symm))
   have hB18 : OwnR w15 5 1 g cap x.n (x.xs.set (0 + j * 1) (Value.int .u8 (mk i j))) := by rw [hw16]; exact hOs13
   have hE19 : Ext (bl L) w w15 := by rw [hw16]; exact (hEy.drew).trans hEs13 (fun b hb => by simp at hb; subst hb; exact hgn)
   have hX20 : Ext [g] w2 w15 := by rw [hw16]; exact ((Ext.refl _ _).drew).trans hEs13 (by simp)
   have hG21 : Ext [g] w2 w15 := hgX.trans hX20 (fun b hb => .inl (by first | exact hb | cases hb))
   replace hS := hS.kp [(0, .slice vb L.length vc), (3, I6 ↑i), (4, I6 ↑j)]
   refine inBlock_normal ?_
   refine hK12 _ _ ?_
   refine rgn 3 ?_
   refine sg wide_wide [.p, .as (I6 (↑j + 1)), .p] [Value.int .i64 (IntKind.i64.wrap (↑j + 1)) = I6 (↑j + 1)] [(0, .slice vb L.length vc), (3, I6 ↑i), (4, I6 (↑j + 1))] 3 0 hS (.cons (as_i64 (by omega)) .nil) fun a hS => ?_
   refine seg_end ?_
   have hFs := hF2.set1 hx hxv hB18 hG21
   have hMs := hM2.step hx (ys := (x.xs.set (0 + j * 1) (Value.int .u8 (mk i j)))) (set1_mk hxo.len (by omega) rfl)
   have hsz9 := Nat.le_trans hsz2 (hG21).size
   exact ⟨(j + 1, K.set i ⟨x.v, x.n, (x.xs.set (0 + j * 1) (Value.int .u8 (mk i j)))⟩), ⟨hS.kp [(0, .slice vb L.length vc), (3, I6 ↑i), (4, I6 (↑j + 1))], by omega, (set_keep (y := ⟨x.v, x.n, (x.xs.set (0 + j * 1) (Value.int .u8 (mk i j)))⟩) hx rfl).trans hKv, (set_keep (y := ⟨x.v, x.n, (x.xs.set (0 + j * 1) (Value.int .u8 (mk i j)))⟩) hx rfl).trans hKn, hFs, hMs, hB17, hE19, hsz9⟩, by simp only; omega⟩
  ·
   replace hb11 := of_decide_eq_false hb11
   refine wpIn_exit ?_
   refine then_exit ?_
   refine then_exit ?_
   refine inBlock_hit ?_
   refine inBlock_normal ?_
   refine hK7 _ _ ?_
   refine rgn 3 ?_
   refine sg wide_wide [.p, .as (I6 (↑i + 1)), .p] [Value.int .i64 (IntKind.i64.wrap (↑i + 1)) = I6 (↑i + 1)] [(0, .slice vb L.length vc), (3, I6 (↑i + 1)), (4, I6 ↑j)] 3 0 hS (.cons (as_i64 (by omega)) .nil) fun a hS => ?_
   refine seg_end ?_
   exact ⟨(i + 1, K), ⟨hS.kp [(0, .slice vb L.length vc), (3, I6 (↑i + 1))], by omega, hKv, hKn, hF2, Mk.next hM2 hx (by omega), ha2, hEy, hsz2⟩, by simp only; omega⟩
 ·
  replace hb6 := of_decide_eq_false hb6
  obtain rfl : i = L.length := by omega
  have hKl : K.length = L.length := by have := congrArg List.length hKv; simpa using this
  have hG0 : Mg 1 96 fB tB (K.map Gw.of) 0 0 := Mk.two (by rw [hKl]; exact hM1)
  have hF20 := hF1.two
  have hGv0 : (K.map Gw.of).map Gw.v0 = L.map Rw.v := by rw [List.map_map]; exact hKv
  have hGn0 : ∀ x ∈ K.map Gw.of, x.n0 ≤ 1000000000 := fun x hx => by
   obtain ⟨y, hy, rfl⟩ := List.mem_map.1 hx
   exact map_all (f := Rw.n) (p := fun q => q ≤ 1000000000) hKn hn y hy
  have hGe0 : ∀ (k : Nat) (x : Gw), (K.map Gw.of)[k]? = some x → 0 ≤ k → x.v = x.v0 := fun k x hx _ => by
   obtain ⟨y, hy, rfl⟩ := map_of hx; rfl
  refine wpIn_exit ?_
  refine then_exit ?_
  refine then_exit ?_
  refine inBlock_hit ?_
  refine hK2 _ _ ?_
  refine sq fun K22 hK22 => ?_
  refine rgn 1 ?_
  refine sg wide_wide [.p] [] [(0, .slice vb L.length vc), (5, .slice none 0 0)] 1 0 hS .nil fun a hS => ?_
  refine seg_end ?_
  refine hK22 _ _ ?_
  refine sq fun K23 hK23 => ?_
  refine sq fun K24 hK24 => ?_
  refine rgn 1 ?_
  refine sg wide_wide [.p] [] [(0, .slice vb L.length vc), (5, .slice none 0 0), (6, I6 0)] 1 0 hS .nil fun a hS => ?_
  refine seg_end ?_
  refine hK24 _ _ ?_
  refine wpIn_block ?_
  refine loop_ghost (fun ((i, G, bm, cm) : Nat × List Gw × Option Addr × Nat) a' w' => St 120 [] [(0, .slice vb L.length vc), (5, .slice bm i cm), (6, I6 ↑i)] a' ∧ i ≤ L.length ∧ G.map Gw.v0 = L.map Rw.v ∧ Fam2 w' 5 1 (fun b => b ∈ bl L ∨ w.heap.size ≤ b) G ∧ (∀ x ∈ G, x.n0 ≤ 1000000000) ∧ Mg 1 96 fB tB G i 0 ∧ (∀ (k : Nat) (x : Gw), G[k]? = some x → i ≤ k → x.v = x.v0) ∧ OwnV w' 23 1 (.slice bm i cm) i ((G.take i).map Gw.v) ∧ (∀ b ∈ ob (.slice bm i cm), w.heap.size ≤ b) ∧ OwnV w' 23 1 (.slice vb L.length vc) L.length (L.map Rw.v) ∧ Ext (bl L) w w' ∧ w.heap.size ≤ w'.heap.size) (fun ((i, G, bm, cm) : Nat × List Gw × Option Addr × Nat) => L.length - i) (0, K.map Gw.of, none, 0) ⟨hS.keepTo [0, 5, 6] (by kernel_rfl), Nat.zero_le _, hGv0, hF20, hGn0, hG0, hGe0, OwnV.nil _ _ _, (by simp [ob]), ha1, hEx, hsz1⟩ ?_
  rintro ⟨i, G, bm, cm⟩ a w3 ⟨hS, hil, hGv, hF3, hGn, hM3, hGe, hbm, hbmn, ha3, hEx, hsz3⟩
  have hv0w : ∀ (k : Nat) (y : Gw), G[k]? = some y → ∀ b ∈ ob y.v0, b < w.heap.size := fun k y hy b hb => by
   have h1 := map_at hGv hy
   rw [List.getElem?_map] at h1
   cases hL : L[k]? with
   | none => rw [hL] at h1; cases h1
   | some z =>
    rw [hL] at h1
    have h2 : z.v = y.v0 := Option.some.inj h1
    exact hF.lie hL b (by rw [h2]; exact hb)
  have hGl : G.length = L.length := by have := congrArg List.length hGv; simpa using this
  refine sq fun K25 hK25 => ?_
  refine sq fun K26 hK26 => ?_
  refine rgn 4 ?_
  refine sg wide_wide [.p, .p, .p, .p] [] [(0, .slice vb L.length vc), (5, .slice bm i cm), (6, I6 ↑i), (40, .bool (decide ((↑i : Int) < ↑L.length)))] 4 0 hS .nil fun a hS => ?_
  refine seg_end ?_
  refine hK26 _ _ ?_
  refine cond_b hS rfl (fun hb27 => ?_) (fun hb27 => ?_)
  ·
   replace hb27 := of_decide_eq_true hb27
   obtain ⟨x, hx⟩ : ∃ x, G[i]? = some x := ⟨_, List.getElem?_eq_getElem (by omega)⟩
   have hxo := hF3.own i x hx
   have hxe := hGe i x hx (Nat.le_refl _)
   obtain ⟨gb, gc, hgv⟩ := hxo.form
   have hxn0 := hM3.n i x hx
   rw [show cnt 96 i 0 i = 0 by unfold cnt; rw [if_neg (Nat.lt_irrefl _), if_pos rfl], Nat.add_zero] at hxn0
   have hxb := hGn x (List.mem_of_getElem? hx)
   obtain ⟨nI, hnI⟩ : ∃ q, x.n0 = q := ⟨_, rfl⟩
   rw [hxn0, hnI] at hgv
   rw [hnI] at hxb
   have hxv1 : (L.map Rw.v)[i]? = some (.slice gb nI gc) := by rw [map_at hGv hx, ← hxe, hgv]
   refine wpIn_skip ?_
   refine hK25 _ _ ?_
   refine sq fun K28 hK28 => ?_
   refine wpIn_block ?_
   refine sq fun K29 hK29 => ?_
   refine rgn 5 ?_
   refine sg wide_wide [.p, .p, .run ((Po (bof (.slice vb L.length vc)) (0 + i * 1))), .ld (.slice gb nI gc), .p] [Ru Try.prog (vS (Instr.indexAt 71 (.slice vb L.length vc) (I6 ↑i))) ((Po (bof (.slice vb L.length vc)) (0 + i * 1))) w3, w3.cell? ⟨bof (.slice vb L.length vc), 0 + i * 1, none⟩ = some (.slice gb nI gc)] [(0, .slice vb L.length vc), (5, .slice bm i cm), (6, I6 ↑i), (7, .slice gb nI gc)] 5 0 hS (.cons (ix_own (j := i) (ha3) (by kernel_rfl) (by kernel_rfl) rfl (by omega)) (.cons ((ha3).cellAt _ (by rw [Nat.zero_add, Nat.mul_one]; exact hxv1)) .nil)) fun a hS => ?_
   refine seg_end ?_
   refine hK29 _ _ ?_
   refine sq fun K30 hK30 => ?_
   refine sq fun K31 hK31 => ?_
   refine rgn 1 ?_
   refine sg wide_wide [.p] [] [(0, .slice vb L.length vc), (5, .slice bm i cm), (6, I6 ↑i), (7, .slice gb nI gc), (8, I6 0)] 1 0 hS .nil fun a hS => ?_
   refine seg_end ?_
   refine hK31 _ _ ?_
   refine wpIn_block ?_
   obtain ⟨VL, hVL⟩ : ∃ l, (G.take i).map Gw.v = l := ⟨_, rfl⟩
   rw [hVL] at hbm
   refine loop_ghost (fun ((j, G, gb, gc) : Nat × List Gw × Option Addr × Nat) a' w' => St 120 [] [(0, .slice vb L.length vc), (5, .slice bm i cm), (6, I6 ↑i), (7, .slice gb (nI + j) gc), (8, I6 ↑j)] a' ∧ j ≤ 96 ∧ G.map Gw.v0 = L.map Rw.v ∧ Fam2 w' 5 1 (fun b => b ∈ bl L ∨ w.heap.size ≤ b) G ∧ (∀ x ∈ G, x.n0 ≤ 1000000000) ∧ Mg 1 96 fB tB G i j ∧ (∀ (k : Nat) (x : Gw), G[k]? = some x → i < k → x.v = x.v0) ∧ (∃ x, G[i]? = some x ∧ x.v = .slice gb (nI + j) gc ∧ x.n0 = nI) ∧ (G.take i).map Gw.v = VL ∧ OwnV w' 23 1 (.slice bm i cm) i VL ∧ (∀ b ∈ ob (.slice bm i cm), w.heap.size ≤ b) ∧ OwnV w' 23 1 (.slice vb L.length vc) L.length (L.map Rw.v) ∧ Ext (bl L) w w' ∧ w.heap.size ≤ w'.heap.size) (fun ((j, G, gb, gc) : Nat × List Gw × Option Addr × Nat) => 96 - j) (0, G, gb, gc) ⟨hS.keepTo [0, 5, 6, 7, 8] (by kernel_rfl), Nat.zero_le _, hGv, hF3, hGn, hM3, (fun k y hy hk => hGe k y hy (by omega)), ⟨x, hx, hgv, hnI⟩, hVL, hbm, hbmn, ha3, hEx, hsz3⟩ ?_
   rintro ⟨j, G, gb, gc⟩ a w4 ⟨hS, hjT, hGv, hF4, hGn, hM4, hGe4, ⟨x, hx4, hxv4, hxn04⟩, hVL4, hbm4, hbmn, ha4, hEy, hsz4⟩
   have hv0w : ∀ (k : Nat) (y : Gw), G[k]? = some y → ∀ b ∈ ob y.v0, b < w.heap.size := fun k y hy b hb => by
    have h1 := map_at hGv hy
    rw [List.getElem?_map] at h1
    cases hL : L[k]? with
    | none => rw [hL] at h1; cases h1
    | some z =>
     rw [hL] at h1
     have h2 : z.v = y.v0 := Option.some.inj h1
     exact hF.lie hL b (by rw [h2]; exact hb)
   have hxn4 := hM4.n i x hx4
   rw [show cnt 96 i j i = j by unfold cnt; rw [if_neg (Nat.lt_irrefl _), if_pos rfl], hxn04] at hxn4
   have hb4 := hF4.new i x hx4
   refine sq fun K32 hK32 => ?_
   refine sq fun K33 hK33 => ?_
   refine rgn 2 ?_
   refine sg wide_wide [.p, .p] [] [(0, .slice vb L.length vc), (5, .slice bm i cm), (6, I6 ↑i), (7, .slice gb (nI + j) gc), (8, I6 ↑j), (48, .bool (decide ((↑j : Int) < 96)))] 2 0 hS .nil fun a hS => ?_
   refine seg_end ?_
   refine hK33 _ _ ?_
   refine cond_b hS rfl (fun hb34 => ?_) (fun hb34 => ?_)
   ·
    replace hb34 := of_decide_eq_true hb34
    have hmkb := mk_bd i j
    refine wpIn_skip ?_
    refine hK32 _ _ ?_
    refine sq fun K35 hK35 => ?_
    refine wpIn_block ?_
    refine rgn 8 ?_
    refine sg wide_wide [.p, .p, .p] [] [(0, .slice vb L.length vc), (5, .slice bm i cm), (6, I6 ↑i), (7, .slice gb (nI + j) gc), (8, I6 ↑j), (51, .slice gb (nI + j) gc), (52, I6 ↑i), (53, I6 ↑j)] 3 5 hS .nil fun a hS => ?_
    refine eff_call_ro wide_wide (r := 4) (f := 51) (vs := [I6 ↑i, I6 ↑j]) (cap := #[]) (d := (some 54)) (v := Value.int .u8 (mk i j)) hS (by kernel_rfl) Try.call51 #[I6 ↑i, I6 ↑j] (by kernel_rfl) (Mark_any i j) fun a hS => ?_
    refine sg wide_wide [.as (.int .u8 (255 - (mk i j)))] [Value.int .u8 (IntKind.u8.wrap (255 - (mk i j))) = .int .u8 (255 - (mk i j))] [(0, .slice vb L.length vc), (5, .slice bm i cm), (6, I6 ↑i), (7, .slice gb (nI + j) gc), (8, I6 ↑j), (51, .slice gb (nI + j) gc), (55, .int .u8 (255 - (mk i j)))] 5 3 hS (.cons (as_u8 (by omega)) .nil) fun a hS => ?_
    refine eff_new wide_wide (r := 2) (cs := #[.int .u8 (255 - (mk i j))]) (T := 5) (v := Value.slice (some ⟨w4.heap.size, 0, none⟩) 1 1) (d := (some 56)) hS (by kernel_rfl) fun a w36 hw37 hS => ?_
    have hB40 := OwnV.at' hw37 (ha4.alloc _)
    have hB41 := OwnV.at' hw37 (hbm4.alloc _)
    have hX42 : Ext [] w4 w36 := by rw [hw37]; exact (Ext.refl _ _).alloc _
    have hG43 : Fam2 w36 5 1 (fun b => b ∈ bl L ∨ w.heap.size ≤ b) G := hF4.ext0 hX42
    have hG44 : w.heap.size ≤ w36.heap.size := Nat.le_trans hsz4 (hX42).size
    have hB45 : Blk w36 (w4.heap.size) 5 #[.int .u8 (255 - (mk i j))] := by rw [hw37]; exact Blk.new _ _ _
    have hs46 : w.heap.size ≤ w4.heap.size := hEy.size
    have hE47 : Ext (bl L) w w36 := by rw [hw37]; exact hEy.alloc _
    have hOw48 := (by have h := (hG43).own i x hx4; rw [hxv4, hxn4] at h; exact h : OwnV w36 5 1 (.slice gb (nI + j) gc) (nI + j) x.xs)
    refine eff_append_rd wide_wide (r := 1) (d := (some 57)) (t := 23) (ty := 23) (e := 5) (size := 1) (bytes := 1) (len := (nI + j)) (k := 1) (z := #[.int .u8 0]) (v := (.slice gb (nI + j) gc)) (u := Value.slice (some ⟨w4.heap.size, 0, none⟩) 1 1) (xs := x.xs) (news := [.int .u8 (255 - (mk i j))]) hS (by kernel_rfl) (by kernel_rfl) (by kernel_rfl) (by kernel_rfl) hOw48 (RdV.of_blk (n := 1) hB45 rfl) rfl (by omega) (by omega) fun bs48 cp48 a wA48 hA48 hS => ?_
    have hFA48 := (hG43).app hx4 (by rw [hxv4, hxn4]; exact hA48) (fun b hb => .inr (Nat.le_trans hG44 hb))
    have hMA48 := hM4.step hx4 (v := .slice bs48 (x.n + 1) cp48) (hF4.own i x hx4).len (news := [.int .u8 (255 - (mk i j))]) (one_mk rfl)
    have hszA48 := Nat.le_trans hG44 hA48.ext.size
    have hvaA48 := (hB40).ext hA48.ext ((hB40).disj hOw48 (by decide))
    have hbmA48 := (hB41).ext hA48.ext ((hB41).disj hOw48 (by decide))
    have hEA48 := hE47.trans hA48.ext (fun b hb => (hb4 b (List.mem_append_right _ (by rw [hxv4]; exact hb))).1)
    refine sg wide_wide [.p] [] [(0, .slice vb L.length vc), (5, .slice bm i cm), (6, I6 ↑i), (7, .slice bs48 (nI + j + 1) cp48), (8, I6 ↑j)] 8 0 hS .nil fun a hS => ?_
    refine seg_end ?_
    refine inBlock_normal ?_
    refine hK35 _ _ ?_
    refine rgn 3 ?_
    refine sg wide_wide [.p, .as (I6 (↑j + 1)), .p] [Value.int .i64 (IntKind.i64.wrap (↑j + 1)) = I6 (↑j + 1)] [(0, .slice vb L.length vc), (5, .slice bm i cm), (6, I6 ↑i), (7, .slice bs48 (nI + j + 1) cp48), (8, I6 (↑j + 1))] 3 0 hS (.cons (as_i64 (by omega)) .nil) fun a hS => ?_
    refine seg_end ?_
    have hln48 : nI + j + 1 = nI + (j + 1) := by omega
    rw [hln48] at hS
    exact ⟨(j + 1, G.set i ⟨x.v0, x.n0, x.xs0, .slice bs48 (x.n + 1) cp48, x.n + 1, x.xs ++ [.int .u8 (255 - (mk i j))]⟩, bs48, cp48), ⟨hS.kp [(0, .slice vb L.length vc), (5, .slice bm i cm), (6, I6 ↑i), (7, .slice bs48 (nI + (j + 1)) cp48), (8, I6 (↑j + 1))], by omega, (set_keep (y := ⟨x.v0, x.n0, x.xs0, .slice bs48 (x.n + 1) cp48, x.n + 1, x.xs ++ [.int .u8 (255 - (mk i j))]⟩) hx4 rfl).trans hGv, hFA48, (by
     intro y hy
     rcases List.mem_or_eq_of_mem_set hy with hy | rfl
     ·exact hGn y hy
     ·exact hGn x (List.mem_of_getElem? hx4)), hMA48, (by
     intro k y hy hk
     rcases get_set hx4 hy with ⟨h, _⟩ | ⟨_, hy⟩
     ·omega
     ·exact hGe4 k y hy hk), ⟨_, List.getElem?_set_self (List.getElem?_eq_some_iff.1 hx4).1, by simp only; rw [hxn4, hln48], hxn04⟩, take_set.trans hVL4, hbmA48, hbmn, hvaA48, hEA48, hszA48⟩, by simp only; omega⟩
   ·
    replace hb34 := of_decide_eq_false hb34
    obtain rfl : j = 96 := by omega
    refine wpIn_exit ?_
    refine then_exit ?_
    refine then_exit ?_
    refine inBlock_hit ?_
    refine hK30 _ _ ?_
    refine rgn 5 ?_
    refine sg wide_wide [.p, .p] [] [(0, .slice vb L.length vc), (5, .slice bm i cm), (6, I6 ↑i), (7, .slice gb (nI + 96) gc), (58, .slice bm i cm), (59, .slice gb (nI + 96) gc)] 2 3 hS .nil fun a hS => ?_
    refine eff_new wide_wide (r := 2) (cs := #[.slice gb (nI + 96) gc]) (T := 23) (v := Value.slice (some ⟨w4.heap.size, 0, none⟩) 1 1) (d := (some 60)) hS (by kernel_rfl) fun a w49 hw50 hS => ?_
    have hB53 := OwnV.at' hw50 (ha4.alloc _)
    have hB54 := OwnV.at' hw50 (hbm4.alloc _)
    have hX55 : Ext [] w4 w49 := by rw [hw50]; exact (Ext.refl _ _).alloc _
    have hG56 : Fam2 w49 5 1 (fun b => b ∈ bl L ∨ w.heap.size ≤ b) G := hF4.ext0 hX55
    have hG57 : w.heap.size ≤ w49.heap.size := Nat.le_trans hsz4 (hX55).size
    have hB58 : Blk w49 (w4.heap.size) 23 #[.slice gb (nI + 96) gc] := by rw [hw50]; exact Blk.new _ _ _
    have hs59 : w.heap.size ≤ w4.heap.size := hEy.size
    have hE60 : Ext (bl L) w w49 := by rw [hw50]; exact hEy.alloc _
    skip
    refine eff_append2 wide_wide (r := 1) (d := (some 61)) (t := 71) (ty := 71) (e := 23) (size := 1) (bytes := 24) (len := i) (b := w4.heap.size) (off := 0) (k := 1) (c := 1) (z := #[.slice none 0 0]) (v := Value.slice bm i cm) (xs := VL) [.slice gb (nI + 96) gc] hS (by kernel_rfl) (by kernel_rfl) (by kernel_rfl) (by kernel_rfl) (by kernel_rfl) hB54 (by simp) (fun j u hu => by rw [Nat.zero_add]; exact hB58.cell j (by simpa using hu)) rfl (by omega) (by omega) (by omega) fun ga61 ca61 a wa61 hOa61 hEa61 hFa61 hS => ?_
    have hB62 := hB53.ext hEa61 ((fun x hx hm => by have h5 := hval x hx; have h6 := hbmn x hm; omega))
    have hE64 : Ext (bl L) w wa61 := hE60.trans hEa61 (fun b hb => .inr (hbmn b hb))
    have hG65 : Fam2 wa61 5 1 (fun b => b ∈ bl L ∨ w.heap.size ≤ b) G := hG56.ext hEa61 (fun k y hy b hb hm => (List.mem_append.1 hb).elim (fun h => by have h5 := hv0w k y hy b h; have h6 := hbmn b hm; omega) (fun h => (hG56.own k y hy).disj hB54 (by decide) b h hm))
    have hG66 : w.heap.size ≤ wa61.heap.size := Nat.le_trans hG57 (hEa61).size
    refine sg wide_wide [.p] [] [(0, .slice vb L.length vc), (5, .slice (some ⟨ga61, 0, none⟩) (i + 1) ca61), (6, I6 ↑i), (7, .slice gb (nI + 96) gc)] 5 0 hS .nil fun a hS => ?_
    refine seg_end ?_
    refine inBlock_normal ?_
    refine hK28 _ _ ?_
    refine rgn 3 ?_
    refine sg wide_wide [.p, .as (I6 (↑i + 1)), .p] [Value.int .i64 (IntKind.i64.wrap (↑i + 1)) = I6 (↑i + 1)] [(0, .slice vb L.length vc), (5, .slice (some ⟨ga61, 0, none⟩) (i + 1) ca61), (6, I6 (↑i + 1)), (7, .slice gb (nI + 96) gc)] 3 0 hS (.cons (as_i64 (by omega)) .nil) fun a hS => ?_
    refine seg_end ?_
    have hbmN : OwnV wa61 23 1 (.slice (some ⟨ga61, 0, none⟩) (i + 1) ca61) (i + 1) ((G.take (i + 1)).map Gw.v) := by
     rw [take_snoc hx4, hxv4, hVL4]; exact hOa61.v
    exact ⟨(i + 1, G, (some ⟨ga61, 0, none⟩), ca61), ⟨hS.kp [(0, .slice vb L.length vc), (5, .slice (some ⟨ga61, 0, none⟩) (i + 1) ca61), (6, I6 (↑i + 1))], by omega, hGv, hG65, hGn, Mg.next hM4, fun k y hy hk => hGe4 k y hy (by omega), hbmN, (by
     intro b hb
     have hb : b = ga61 := by simpa [ob] using hb
     rw [hb]
     rcases hFa61 ga61 (by simp) with h | h
     ·exact hbmn _ h
     ·exact Nat.le_trans hG57 h), hB62, hE64, hG66⟩, by simp only; omega⟩
  ·
   replace hb27 := of_decide_eq_false hb27
   obtain rfl : i = L.length := by omega
   have hbm9 := hbm
   rw [List.take_of_length_le (by omega)] at hbm9
   refine wpIn_exit ?_
   refine then_exit ?_
   refine then_exit ?_
   refine inBlock_hit ?_
   refine hK23 _ _ ?_
   refine sq fun K67 hK67 => ?_
   refine sq fun K68 hK68 => ?_
   refine rgn 1 ?_
   refine sg wide_wide [.p] [] [(0, .slice vb L.length vc), (5, .slice bm L.length cm), (9, I6 0)] 1 0 hS .nil fun a hS => ?_
   refine seg_end ?_
   refine hK68 _ _ ?_
   refine wpIn_block ?_
   have hFz := hF3
   have haz := ha3
   have hbz := hbm9
   have hEz := hEx
   have hEzz : Ext [] w3 w3 := Ext.refl _ _
   refine loop_ghost (fun (i : Nat) a' w' => St 120 [] [(0, .slice vb L.length vc), (5, .slice bm L.length cm), (9, I6 ↑i)] a' ∧ i ≤ L.length ∧ Ext [] w3 w') (fun (i : Nat) => L.length - i) 0 ⟨hS.keepTo [0, 5, 9] (by kernel_rfl), Nat.zero_le _, hEzz⟩ ?_
   rintro i a w5 ⟨hS, hil, hE5⟩
   refine sq fun K69 hK69 => ?_
   refine sq fun K70 hK70 => ?_
   refine rgn 4 ?_
   refine sg wide_wide [.p, .p, .p, .p] [] [(0, .slice vb L.length vc), (5, .slice bm L.length cm), (9, I6 ↑i), (65, .bool (decide ((↑i : Int) < ↑L.length)))] 4 0 hS .nil fun a hS => ?_
   refine seg_end ?_
   refine hK70 _ _ ?_
   refine cond_b hS rfl (fun hb71 => ?_) (fun hb71 => ?_)
   ·
    replace hb71 := of_decide_eq_true hb71
    obtain ⟨x, hx⟩ : ∃ x, G[i]? = some x := ⟨_, List.getElem?_eq_getElem (by omega)⟩
    have hxr := hFz.rd i x hx
    have hxo := hFz.own i x hx
    have hxs := hFz.sh i x hx
    have hxn := hM3.n i x hx
    rw [show cnt 96 L.length 0 i = 96 by unfold cnt; rw [if_pos (by omega)]] at hxn
    have hxb := hGn x (List.mem_of_getElem? hx)
    obtain ⟨nI, hnI⟩ : ∃ q, x.n0 = q := ⟨_, rfl⟩
    have hxm := hM3.m i
    have hxt := hM3.t i
    rw [hnI] at hxr hxn hxb
    have hv1 : (L.map Rw.v)[i]? = some x.v0 := map_at hGv hx
    have hv2 : (G.map Gw.v)[i]? = some x.v := by rw [List.getElem?_map, hx]; rfl
    have hmk : ∀ k r, k < nI → r < 1 → x.xs0[k * 1 + r]? = (fB i k)[r]? := fun k r hk hr => hM3.m i k r x hx (by omega) hr
    have hmx : ∀ k r, k < nI → r < 1 → x.xs[k * 1 + r]? = (fB i k)[r]? := fun k r hk hr => by
     have h := hmk k r hk hr
     rw [hxs.2.1, hnI, List.getElem?_take] at h
     have hb : k * 1 + r < nI * 1 := by
      have : (k + 1) * 1 ≤ nI * 1 := Nat.mul_le_mul_right _ (by omega)
      rw [Nat.add_mul, Nat.one_mul] at this; omega
     rw [if_pos hb] at h; exact h
    have hmt : ∀ k r, k < 96 → r < 1 → x.xs[(nI + k) * 1 + r]? = (tB i k)[r]? := fun k r hk hr => by
     have h := hM3.t i k r x hx (by unfold cnt; rw [if_pos (by omega)]; exact hk) hr
     rw [hnI] at h; exact h
    refine wpIn_skip ?_
    refine hK69 _ _ ?_
    refine sq fun K72 hK72 => ?_
    refine wpIn_block ?_
    refine sq fun K73 hK73 => ?_
    refine rgn 6 ?_
    refine sg wide_wide [.p, .p, .run ((Po (bof (.slice vb L.length vc)) (0 + i * 1))), .ld (x.v0), .run (I6 ↑nI), .p] [Ru Try.prog (vS (Instr.indexAt 71 (.slice vb L.length vc) (I6 ↑i))) ((Po (bof (.slice vb L.length vc)) (0 + i * 1))) w5, w5.cell? ⟨bof (.slice vb L.length vc), 0 + i * 1, none⟩ = some (x.v0), Ru Try.prog (vS (Builtin.len_ #[23] 3 #[x.v0])) (I6 ↑nI) w5] [(0, .slice vb L.length vc), (5, .slice bm L.length cm), (9, I6 ↑i), (10, I6 ↑nI)] 6 0 hS (.cons (ix_own (j := i) ((haz.ext0' hE5)) (by kernel_rfl) (by kernel_rfl) rfl (by omega)) (.cons ((haz.ext0' hE5).cellAt _ (by rw [Nat.zero_add, Nat.mul_one]; exact hv1)) (.cons (run_len_rd (e := 5) hxr (by kernel_rfl)) .nil))) fun a hS => ?_
    refine seg_end ?_
    refine hK73 _ _ ?_
    refine sq fun K74 hK74 => ?_
    refine sq fun K75 hK75 => ?_
    refine rgn 1 ?_
    refine sg wide_wide [.p] [] [(0, .slice vb L.length vc), (5, .slice bm L.length cm), (9, I6 ↑i), (10, I6 ↑nI), (11, I6 0)] 1 0 hS .nil fun a hS => ?_
    refine seg_end ?_
    refine hK75 _ _ ?_
    refine wpIn_block ?_
    have hE511 := hE5
    refine loop_ghost (fun (k : Nat) a' w' => St 120 [] [(0, .slice vb L.length vc), (5, .slice bm L.length cm), (9, I6 ↑i), (10, I6 ↑nI), (11, I6 ↑k)] a' ∧ k ≤ nI ∧ Ext [] w3 w') (fun (k : Nat) => nI - k) 0 ⟨hS.keepTo [0, 5, 9, 10, 11] (by kernel_rfl), Nat.zero_le _, hE511⟩ ?_
    rintro k a w6 ⟨hS, hkl, hE6⟩
    refine sq fun K76 hK76 => ?_
    refine sq fun K77 hK77 => ?_
    refine rgn 3 ?_
    refine sg wide_wide [.p, .p, .p] [] [(0, .slice vb L.length vc), (5, .slice bm L.length cm), (9, I6 ↑i), (10, I6 ↑nI), (11, I6 ↑k), (75, .bool (decide ((↑k : Int) < ↑nI)))] 3 0 hS .nil fun a hS => ?_
    refine seg_end ?_
    refine hK77 _ _ ?_
    refine cond_b hS rfl (fun hb78 => ?_) (fun hb78 => ?_)
    ·
     replace hb78 := of_decide_eq_true hb78
     have hmkb := mk_bd i k
     refine wpIn_skip ?_
     refine hK76 _ _ ?_
     refine sq fun K79 hK79 => ?_
     refine wpIn_block ?_
     refine sq fun K80 hK80 => ?_
     refine region_fn2 wide_wide [.q .p, .q .p, .q (.run ((Po (bof (.slice vb L.length vc)) (0 + i * 1)))), .q (.ld (x.v0)), .q .p, .q (.run ((Po (bof x.v0) (oof x.v0 + k * 1)))), .q (.ld (.int .u8 (mk i k))), .q .p, .q .p, .e, .q (.as (.bool false)), .q .p, .q .p, .q .p, .q (.run ((Po (bof (.slice bm L.length cm)) (0 + i * 1)))), .q (.ld (x.v)), .q .p, .q (.run ((Po (bof x.v) (oof x.v + k * 1)))), .q (.ld (.int .u8 (mk i k))), .q .p, .q .p, .e, .q (.as (.bool false)), .q .p] [0, 0, 0, 0, 0, 0, 0, 0, 0, 0, 1, 1, 1, 1, 1, 1, 1, 1, 1, 1, 1, 1, 2, 2] [1, 1, 1, 1, 1, 1, 1, 0, 0, 0, 1, 1, 2, 2, 2, 2, 2, 2, 2, 1, 1, 1, 2, 2] [0, 0, 3, 7, 0, 31, 63, 0, 0, 384, 1023, 2047, 4095, 4095, 16383, 32767, 4095, 131071, 262143, 4095, 4095, 1576959, 4194303, 8388607] [9, 21] 2 ([(0, .slice vb L.length vc), (5, .slice bm L.length cm), (9, I6 ↑i), (10, I6 ↑nI), (11, I6 ↑k), (78, .slice vb L.length vc), (79, I6 ↑i), (80, (Po (bof (.slice vb L.length vc)) (0 + i * 1))), (81, x.v0), (82, I6 ↑k), (83, (Po (bof x.v0) (oof x.v0 + k * 1))), (84, .int .u8 (mk i k)), (85, I6 ↑i), (86, I6 ↑k), (87, .int .u8 (mk i k)), (88, .bool false), (89, .bool false), (90, .slice bm L.length cm), (91, I6 ↑i), (92, (Po (bof (.slice bm L.length cm)) (0 + i * 1))), (93, x.v), (94, I6 ↑k), (95, (Po (bof x.v) (oof x.v + k * 1))), (96, .int .u8 (mk i k)), (97, I6 ↑i), (98, I6 ↑k), (99, .int .u8 (mk i k)), (100, .bool false), (101, .bool false)]) [w6.drew, w6.drew, w6.drew] w6.drew (fun w' => [(2, [Ru Try.prog (vS (Instr.indexAt 71 (.slice vb L.length vc) (I6 ↑i))) ((Po (bof (.slice vb L.length vc)) (0 + i * 1))) w']), (3, [w'.cell? ⟨bof (.slice vb L.length vc), 0 + i * 1, none⟩ = some (x.v0)]), (5, [Ru Try.prog (vS (Instr.indexAt 23 (x.v0) (I6 ↑k))) ((Po (bof x.v0) (oof x.v0 + k * 1))) w']), (6, [w'.cell? ⟨bof x.v0, oof x.v0 + k * 1, none⟩ = some (.int .u8 (mk i k))]), (10, [Value.bool ((((mk i k) : Int) != (mk i k))) = .bool false]), (14, [Ru Try.prog (vS (Instr.indexAt 71 (.slice bm L.length cm) (I6 ↑i))) ((Po (bof (.slice bm L.length cm)) (0 + i * 1))) w']), (15, [w'.cell? ⟨bof (.slice bm L.length cm), 0 + i * 1, none⟩ = some (x.v)]), (17, [Ru Try.prog (vS (Instr.indexAt 23 (x.v) (I6 ↑k))) ((Po (bof x.v) (oof x.v + k * 1))) w']), (18, [w'.cell? ⟨bof x.v, oof x.v + k * 1, none⟩ = some (.int .u8 (mk i k))]), (22, [Value.bool ((((mk i k) : Int) != (mk i k))) = .bool false])]) [0, 5, 9, 10, 11] [] hS (by kernel_rfl) (by kernel_rfl) (by kernel_rfl) (by kernel_rfl) (fun _ => by kernel_rfl) (by kernel_rfl) (by kernel_rfl) (by kernel_rfl) ?_ ?_ ?_
     ·intro e w' hw
      refine (.cons ?_ (.cons ?_ (.cons ?_ (.cons ?_ (.cons ?_ (.cons ?_ (.cons ?_ (.cons ?_ (.cons ?_ (.cons ?_ .nil))))))))))
      ·exact fun _ _ => (.cons (ix_own (j := i) ((haz.ext0' hE6)) (by kernel_rfl) (by kernel_rfl) rfl (by omega)) .nil)
      ·intro h1 h2
       replace h1 : 0 ≤ e := h1
       replace h2 : e ≤ 1 := h2
       have he : e = 0 ∨ e = 1 := by omega
       rcases he with rfl | rfl
       ·obtain rfl : w' = w6.drew := hw.trans (by kernel_rfl)
        exact (.cons (((haz.ext0' (by first | exact hE6.drew | exact hE6)).cellAt _ (by rw [Nat.zero_add, Nat.mul_one]; exact hv1))) .nil)
       ·obtain rfl : w' = w6.drew := hw.trans (by kernel_rfl)
        exact (.cons (((haz.ext0' (by first | exact hE6.drew | exact hE6)).cellAt _ (by rw [Nat.zero_add, Nat.mul_one]; exact hv1))) .nil)
      ·exact fun _ _ => (.cons (ix_rd (e := 5) (j := k) hxr (by kernel_rfl) (by kernel_rfl) rfl (by omega)) .nil)
      ·intro h1 h2
       replace h1 : 0 ≤ e := h1
       replace h2 : e ≤ 1 := h2
       have he : e = 0 ∨ e = 1 := by omega
       rcases he with rfl | rfl
       ·obtain rfl : w' = w6.drew := hw.trans (by kernel_rfl)
        exact (.cons (((hxr.ext0 (by first | exact hE6.drew | exact hE6)).cellAt (k * 1 + 0) (by omega) ((hmk k 0 (by omega) (by decide)).trans rfl))) .nil)
       ·obtain rfl : w' = w6.drew := hw.trans (by kernel_rfl)
        exact (.cons (((hxr.ext0 (by first | exact hE6.drew | exact hE6)).cellAt (k * 1 + 0) (by omega) ((hmk k 0 (by omega) (by decide)).trans rfl))) .nil)
      ·exact fun _ _ => (.cons (as_ne_f (rfl)) .nil)
      ·exact fun _ _ => (.cons (ix_own (j := i) ((hbz.ext0' hE6)) (by kernel_rfl) (by kernel_rfl) rfl (by omega)) .nil)
      ·intro h1 h2
       replace h1 : 1 ≤ e := h1
       replace h2 : e ≤ 2 := h2
       have he : e = 1 ∨ e = 2 := by omega
       rcases he with rfl | rfl
       ·obtain rfl : w' = w6.drew := hw.trans (by kernel_rfl)
        exact (.cons (((hbz.ext0' (by first | exact hE6.drew | exact hE6)).cellAt _ (by rw [Nat.zero_add, Nat.mul_one]; exact hv2))) .nil)
       ·obtain rfl : w' = w6.drew := hw.trans (by kernel_rfl)
        exact (.cons (((hbz.ext0' (by first | exact hE6.drew | exact hE6)).cellAt _ (by rw [Nat.zero_add, Nat.mul_one]; exact hv2))) .nil)
      ·exact fun _ _ => (.cons (ix_rd (e := 5) (j := k) hxo.rd (by kernel_rfl) (by kernel_rfl) rfl (by omega)) .nil)
      ·intro h1 h2
       replace h1 : 1 ≤ e := h1
       replace h2 : e ≤ 2 := h2
       have he : e = 1 ∨ e = 2 := by omega
       rcases he with rfl | rfl
       ·obtain rfl : w' = w6.drew := hw.trans (by kernel_rfl)
        exact (.cons (((hxo.rd.ext0 (by first | exact hE6.drew | exact hE6)).cellAt (k * 1 + 0) (by omega) ((hmx k 0 (by omega) (by decide)).trans rfl))) .nil)
       ·obtain rfl : w' = w6.drew := hw.trans (by kernel_rfl)
        exact (.cons (((hxo.rd.ext0 (by first | exact hE6.drew | exact hE6)).cellAt (k * 1 + 0) (by omega) ((hmx k 0 (by omega) (by decide)).trans rfl))) .nil)
      ·exact fun _ _ => (.cons (as_ne_f (rfl)) .nil)
     ·refine (.cons ?eq81_9 (.cons ?eq81_21 .nil))
      ·refine eff_at (w6.drew) (w6.drew) (by kernel_rfl) (by kernel_rfl) ?_
       refine upon_call (f := 51) (vs := [I6 ↑i, I6 ↑k]) (cap := #[]) (d := (some 87)) (by kernel_rfl) Try.call51 #[I6 ↑i, I6 ↑k] (by kernel_rfl) (Mark_any i k) ?_
       rintro _ _ ⟨rfl, rfl⟩
       exact ⟨_, rfl, ⟨by kernel_rfl, by kernel_rfl⟩⟩
      ·refine eff_at (w6.drew) (w6.drew) (by kernel_rfl) (by kernel_rfl) ?_
       refine upon_call (f := 51) (vs := [I6 ↑i, I6 ↑k]) (cap := #[]) (d := (some 99)) (by kernel_rfl) Try.call51 #[I6 ↑i, I6 ↑k] (by kernel_rfl) (Mark_any i k) ?_
       rintro _ _ ⟨rfl, rfl⟩
       exact ⟨_, rfl, ⟨by kernel_rfl, by kernel_rfl⟩⟩
     rintro a w82 hS hw83
     replace hw83 : w82 = w6.drew := hw83.trans (by kernel_rfl)
     have hE86 : Ext [] w3 w82 := by rw [hw83]; exact hE6.drew
     replace hS := hS.kp [(0, .slice vb L.length vc), (5, .slice bm L.length cm), (9, I6 ↑i), (10, I6 ↑nI), (11, I6 ↑k), (101, .bool false)]
     refine hK80 _ _ ?_
     refine cond_f hS rfl ?_
     refine wpIn_skip ?_
     refine inBlock_normal ?_
     refine hK79 _ _ ?_
     refine rgn 3 ?_
     refine sg wide_wide [.p, .as (I6 (↑k + 1)), .p] [Value.int .i64 (IntKind.i64.wrap (↑k + 1)) = I6 (↑k + 1)] [(0, .slice vb L.length vc), (5, .slice bm L.length cm), (9, I6 ↑i), (10, I6 ↑nI), (11, I6 (↑k + 1)), (101, .bool false)] 3 0 hS (.cons (as_i64 (by omega)) .nil) fun a hS => ?_
     refine seg_end ?_
     exact ⟨k + 1, ⟨hS.kp [(0, .slice vb L.length vc), (5, .slice bm L.length cm), (9, I6 ↑i), (10, I6 ↑nI), (11, I6 (↑k + 1))], by omega, hE86⟩, by omega⟩
    ·
     replace hb78 := of_decide_eq_false hb78
     refine wpIn_exit ?_
     refine then_exit ?_
     refine then_exit ?_
     refine inBlock_hit ?_
     refine hK74 _ _ ?_
     refine sq fun K87 hK87 => ?_
     refine rgn 1 ?_
     refine sg wide_wide [.p] [] [(0, .slice vb L.length vc), (5, .slice bm L.length cm), (9, I6 ↑i), (10, I6 ↑nI), (12, I6 0)] 1 0 hS .nil fun a hS => ?_
     refine seg_end ?_
     refine hK87 _ _ ?_
     refine wpIn_block ?_
     have hE512 := hE6
     refine loop_ghost (fun (k : Nat) a' w' => St 120 [] [(0, .slice vb L.length vc), (5, .slice bm L.length cm), (9, I6 ↑i), (10, I6 ↑nI), (12, I6 ↑k)] a' ∧ k ≤ 96 ∧ Ext [] w3 w') (fun (k : Nat) => 96 - k) 0 ⟨hS.keepTo [0, 5, 9, 10, 12] (by kernel_rfl), Nat.zero_le _, hE512⟩ ?_
     rintro k a w6 ⟨hS, hkl, hE6⟩
     refine sq fun K88 hK88 => ?_
     refine sq fun K89 hK89 => ?_
     refine rgn 2 ?_
     refine sg wide_wide [.p, .p] [] [(0, .slice vb L.length vc), (5, .slice bm L.length cm), (9, I6 ↑i), (10, I6 ↑nI), (12, I6 ↑k), (103, .bool (decide ((↑k : Int) < 96)))] 2 0 hS .nil fun a hS => ?_
     refine seg_end ?_
     refine hK89 _ _ ?_
     refine cond_b hS rfl (fun hb90 => ?_) (fun hb90 => ?_)
     ·
      replace hb90 := of_decide_eq_true hb90
      have hmkb := mk_bd i k
      refine wpIn_skip ?_
      refine hK88 _ _ ?_
      refine sq fun K91 hK91 => ?_
      refine wpIn_block ?_
      refine sq fun K92 hK92 => ?_
      refine region_fn2 wide_wide [.q .p, .q .p, .q (.run ((Po (bof (.slice bm L.length cm)) (0 + i * 1)))), .q (.ld (x.v)), .q .p, .q .p, .q (.as (I6 ((nI + k : Nat) : Int))), .q (.run ((Po (bof x.v) (oof x.v + (nI + k) * 1)))), .q (.ld (.int .u8 (255 - (mk i k)))), .q .p, .q .p, .e, .q (.as (.int .u8 (255 - (mk i k)))), .q (.as (.bool false))] [0, 0, 0, 0, 0, 0, 0, 0, 0, 0, 0, 0, 1, 1] [1, 1, 1, 1, 1, 1, 1, 1, 1, 0, 0, 0, 1, 1] [0, 0, 3, 7, 0, 0, 48, 127, 255, 0, 0, 1536, 3584, 8191] [11] 1 ([(0, .slice vb L.length vc), (5, .slice bm L.length cm), (9, I6 ↑i), (10, I6 ↑nI), (12, I6 ↑k), (106, .slice bm L.length cm), (107, I6 ↑i), (108, (Po (bof (.slice bm L.length cm)) (0 + i * 1))), (109, x.v), (110, I6 ↑nI), (111, I6 ↑k), (112, I6 ((nI + k : Nat) : Int)), (113, (Po (bof x.v) (oof x.v + (nI + k) * 1))), (114, .int .u8 (255 - (mk i k))), (115, I6 ↑i), (116, I6 ↑k), (117, .int .u8 (mk i k)), (118, .int .u8 (255 - (mk i k))), (119, .bool false)]) [w6.drew, w6.drew] w6.drew (fun w' => [(2, [Ru Try.prog (vS (Instr.indexAt 71 (.slice bm L.length cm) (I6 ↑i))) ((Po (bof (.slice bm L.length cm)) (0 + i * 1))) w']), (3, [w'.cell? ⟨bof (.slice bm L.length cm), 0 + i * 1, none⟩ = some (x.v)]), (6, [Value.int .i64 (IntKind.i64.wrap (↑nI + ↑k)) = I6 ((nI + k : Nat) : Int)]), (7, [Ru Try.prog (vS (Instr.indexAt 23 (x.v) (I6 ((nI + k : Nat) : Int)))) ((Po (bof x.v) (oof x.v + (nI + k) * 1))) w']), (8, [w'.cell? ⟨bof x.v, oof x.v + (nI + k) * 1, none⟩ = some (.int .u8 (255 - (mk i k)))]), (12, [Value.int .u8 (IntKind.u8.wrap (255 - (mk i k))) = .int .u8 (255 - (mk i k))]), (13, [Value.bool (((255 - (mk i k) : Int) != (255 - (mk i k)))) = .bool false])]) [0, 5, 9, 10, 12] [] hS (by kernel_rfl) (by kernel_rfl) (by kernel_rfl) (by kernel_rfl) (fun _ => by kernel_rfl) (by kernel_rfl) (by kernel_rfl) (by kernel_rfl) ?_ ?_ ?_
      ·intro e w' hw
       refine (.cons ?_ (.cons ?_ (.cons ?_ (.cons ?_ (.cons ?_ (.cons ?_ (.cons ?_ .nil)))))))
       ·exact fun _ _ => (.cons (ix_own (j := i) ((hbz.ext0' hE6)) (by kernel_rfl) (by kernel_rfl) rfl (by omega)) .nil)
       ·intro h1 h2
        replace h1 : 0 ≤ e := h1
        replace h2 : e ≤ 1 := h2
        have he : e = 0 ∨ e = 1 := by omega
        rcases he with rfl | rfl
        ·obtain rfl : w' = w6.drew := hw.trans (by kernel_rfl)
         exact (.cons (((hbz.ext0' (by first | exact hE6.drew | exact hE6)).cellAt _ (by rw [Nat.zero_add, Nat.mul_one]; exact hv2))) .nil)
        ·obtain rfl : w' = w6.drew := hw.trans (by kernel_rfl)
         exact (.cons (((hbz.ext0' (by first | exact hE6.drew | exact hE6)).cellAt _ (by rw [Nat.zero_add, Nat.mul_one]; exact hv2))) .nil)
       ·exact fun _ _ => (.cons ((by rw [show (↑nI + ↑k : Int) = ((nI + k : Nat) : Int) from by omega]; exact as_i64 (by omega))) .nil)
       ·exact fun _ _ => (.cons (ix_rd (e := 5) (j := (nI + k)) hxo.rd (by kernel_rfl) (by kernel_rfl) rfl (by omega)) .nil)
       ·intro h1 h2
        replace h1 : 0 ≤ e := h1
        replace h2 : e ≤ 1 := h2
        have he : e = 0 ∨ e = 1 := by omega
        rcases he with rfl | rfl
        ·obtain rfl : w' = w6.drew := hw.trans (by kernel_rfl)
         exact (.cons (((hxo.rd.ext0 (by first | exact hE6.drew | exact hE6)).cellAt ((nI + k) * 1 + 0) (by omega) ((hmt k 0 (by omega) (by decide)).trans rfl))) .nil)
        ·obtain rfl : w' = w6.drew := hw.trans (by kernel_rfl)
         exact (.cons (((hxo.rd.ext0 (by first | exact hE6.drew | exact hE6)).cellAt ((nI + k) * 1 + 0) (by omega) ((hmt k 0 (by omega) (by decide)).trans rfl))) .nil)
       ·exact fun _ _ => (.cons (as_u8 (by omega)) .nil)
       ·exact fun _ _ => (.cons (as_ne_f (rfl)) .nil)
      ·refine (.cons ?eq93_11 .nil)
       ·refine eff_at (w6.drew) (w6.drew) (by kernel_rfl) (by kernel_rfl) ?_
        refine upon_call (f := 51) (vs := [I6 ↑i, I6 ↑k]) (cap := #[]) (d := (some 117)) (by kernel_rfl) Try.call51 #[I6 ↑i, I6 ↑k] (by kernel_rfl) (Mark_any i k) ?_
        rintro _ _ ⟨rfl, rfl⟩
        exact ⟨_, rfl, ⟨by kernel_rfl, by kernel_rfl⟩⟩
      rintro a w94 hS hw95
      replace hw95 : w94 = w6.drew := hw95.trans (by kernel_rfl)
      have hE98 : Ext [] w3 w94 := by rw [hw95]; exact hE6.drew
      replace hS := hS.kp [(0, .slice vb L.length vc), (5, .slice bm L.length cm), (9, I6 ↑i), (10, I6 ↑nI), (12, I6 ↑k), (119, .bool false)]
      refine hK92 _ _ ?_
      refine cond_f hS rfl ?_
      refine wpIn_skip ?_
      refine inBlock_normal ?_
      refine hK91 _ _ ?_
      refine rgn 3 ?_
      refine sg wide_wide [.p, .as (I6 (↑k + 1)), .p] [Value.int .i64 (IntKind.i64.wrap (↑k + 1)) = I6 (↑k + 1)] [(0, .slice vb L.length vc), (5, .slice bm L.length cm), (9, I6 ↑i), (10, I6 ↑nI), (12, I6 (↑k + 1)), (119, .bool false)] 3 0 hS (.cons (as_i64 (by omega)) .nil) fun a hS => ?_
      refine seg_end ?_
      exact ⟨k + 1, ⟨hS.kp [(0, .slice vb L.length vc), (5, .slice bm L.length cm), (9, I6 ↑i), (10, I6 ↑nI), (12, I6 (↑k + 1))], by omega, hE98⟩, by omega⟩
     ·
      replace hb90 := of_decide_eq_false hb90
      refine wpIn_exit ?_
      refine then_exit ?_
      refine then_exit ?_
      refine inBlock_hit ?_
      refine inBlock_normal ?_
      refine hK72 _ _ ?_
      refine rgn 3 ?_
      refine sg wide_wide [.p, .as (I6 (↑i + 1)), .p] [Value.int .i64 (IntKind.i64.wrap (↑i + 1)) = I6 (↑i + 1)] [(0, .slice vb L.length vc), (5, .slice bm L.length cm), (9, I6 (↑i + 1)), (10, I6 ↑nI)] 3 0 hS (.cons (as_i64 (by omega)) .nil) fun a hS => ?_
      refine seg_end ?_
      exact ⟨i + 1, ⟨hS.kp [(0, .slice vb L.length vc), (5, .slice bm L.length cm), (9, I6 (↑i + 1))], by omega, hE6⟩, by omega⟩
   ·
    replace hb71 := of_decide_eq_false hb71
    refine wpIn_exit ?_
    refine then_exit ?_
    refine then_exit ?_
    refine inBlock_hit ?_
    refine hK67 _ _ ?_
    refine sq fun K99 hK99 => ?_
    refine rgn 1 ?_
    refine sg wide_wide [.p] [] [(0, .slice vb L.length vc), (5, .slice bm L.length cm), (9, I6 ↑i), (2, .bool true)] 1 0 hS .nil fun a hS => ?_
    refine seg_end ?_
    refine hK99 _ _ ?_
    refine wpIn_ret ?_
    refine ret1 hS Try.results36 rfl ?_
    exact ⟨rfl, hEz.trans0 hE5⟩

end Go.Proofs.Ytkdbfjomjlhfbaa
