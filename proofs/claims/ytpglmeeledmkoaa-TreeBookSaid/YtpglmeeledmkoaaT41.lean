import Derived.Test.YtpglmeeledmkoaaProg
import Derived.Test.YtpglmeeledmkoaaVc
import Derived.Test.YtpglmeeledmkoaaVm
namespace Go.Proofs.Ytpglmeeledmkoaa
open Go.Vc

def fI (i q : Nat) : List Value := [I6 (100000 * (i : Int) + (q : Int))]
def tI (i q : Nat) : List Value := [I6 (-1 - 100 * (i : Int) - (q : Int))]

set_option maxHeartbeats 2000000 in
theorem GrownInts_any {w : World} {vb : Option Addr} {vc : Nat} {L : List Rw} (hF : Fam w 3 1 (fun b => b ∈ bl L ∨ w.heap.size ≤ b) L) (ha : OwnV w 41 1 (.slice vb L.length vc) L.length (L.map Rw.v)) (hm : L.length ≤ 4000000000) (hn : ∀ x ∈ L, x.n ≤ 1000000000) :
  Calls Try.prog 49 #[.slice vb L.length vc] w fun e w' => e = .returned (.bool true) ∧ Ext (bl L) w w' := by
 have hval := ha.lie
 have hEw0 : Ext (bl L) w w := Ext.refl _ _
 refine calls_body 125 [(0, .slice vb L.length vc)] Try.func49 rfl (by kernel_rfl) (by kernel_rfl) (by kernel_rfl) fun a hS => ?_
 refine sq fun K1 hK1 => ?_
 refine rgn 1 ?_
 refine sg wide_wide [.p] [] [(0, .slice vb L.length vc), (2, .bool false)] 1 0 hS .nil fun a hS => ?_
 refine seg_end ?_
 refine hK1 _ _ ?_
 refine sq fun K2 hK2 => ?_
 refine sq fun K3 hK3 => ?_
 refine rgn 1 ?_
 refine sg wide_wide [.p] [] [(0, .slice vb L.length vc), (2, .bool false), (3, I6 0)] 1 0 hS .nil fun a hS => ?_
 refine seg_end ?_
 refine hK3 _ _ ?_
 refine wpIn_block ?_
 refine loop_ghost (fun ((i, K) : Nat × List Rw) a' w' => St 125 [] [(0, .slice vb L.length vc), (3, I6 ↑i)] a' ∧ i ≤ L.length ∧ K.map Rw.v = L.map Rw.v ∧ K.map Rw.n = L.map Rw.n ∧ Fam w' 3 1 (fun b => b ∈ bl L ∨ w.heap.size ≤ b) K ∧ Mk 1 fI K i 0 ∧ OwnV w' 41 1 (.slice vb L.length vc) L.length (L.map Rw.v) ∧ Ext (bl L) w w' ∧ w.heap.size ≤ w'.heap.size) (fun ((i, K) : Nat × List Rw) => L.length - i) (0, L) ⟨hS.keepTo [0, 3] (by kernel_rfl), Nat.zero_le _, rfl, rfl, hF, Mk.start, ha, hEw0, Nat.le_refl _⟩ ?_
 rintro ⟨i, K⟩ a w1 ⟨hS, hil, hKv, hKn, hF1, hM1, ha1, hEx, hsz1⟩
 refine sq fun K4 hK4 => ?_
 refine sq fun K5 hK5 => ?_
 refine rgn 4 ?_
 refine sg wide_wide [.p, .p, .p, .p] [] [(0, .slice vb L.length vc), (3, I6 ↑i), (16, .bool (decide ((↑i : Int) < ↑L.length)))] 4 0 hS .nil fun a hS => ?_
 refine seg_end ?_
 refine hK5 _ _ ?_
 refine cond_b hS rfl (fun hb6 => ?_) (fun hb6 => ?_)
 ·
  replace hb6 := of_decide_eq_true hb6
  have hi : i < L.length := by omega
  obtain ⟨nI, hnI⟩ : ∃ q, (L.map Rw.n)[i]? = some q := ⟨_, List.getElem?_eq_getElem (by simpa using hi)⟩
  have hnI9 : nI ≤ 1000000000 := by
   obtain ⟨y, hy, rfl⟩ := List.mem_map.1 (List.mem_of_getElem? hnI)
   exact hn y hy
  refine wpIn_skip ?_
  refine hK4 _ _ ?_
  refine sq fun K7 hK7 => ?_
  refine wpIn_block ?_
  refine sq fun K8 hK8 => ?_
  refine rgn 1 ?_
  refine sg wide_wide [.p] [] [(0, .slice vb L.length vc), (3, I6 ↑i), (4, I6 0)] 1 0 hS .nil fun a hS => ?_
  refine seg_end ?_
  refine hK8 _ _ ?_
  refine wpIn_block ?_
  refine loop_ghost (fun ((j, K) : Nat × List Rw) a' w' => St 125 [] [(0, .slice vb L.length vc), (3, I6 ↑i), (4, I6 ↑j)] a' ∧ j ≤ nI ∧ K.map Rw.v = L.map Rw.v ∧ K.map Rw.n = L.map Rw.n ∧ Fam w' 3 1 (fun b => b ∈ bl L ∨ w.heap.size ≤ b) K ∧ Mk 1 fI K i j ∧ OwnV w' 41 1 (.slice vb L.length vc) L.length (L.map Rw.v) ∧ Ext (bl L) w w' ∧ w.heap.size ≤ w'.heap.size) (fun ((j, K) : Nat × List Rw) => nI - j) (0, K) ⟨hS.keepTo [0, 3, 4] (by kernel_rfl), Nat.zero_le _, hKv, hKn, hF1, hM1, ha1, hEx, hsz1⟩ ?_
  rintro ⟨j, K⟩ a w2 ⟨hS, hjn, hKv, hKn, hF2, hM2, ha2, hEy, hsz2⟩
  obtain ⟨x, hx⟩ : ∃ x, K[i]? = some x := ⟨_, List.getElem?_eq_getElem (by have := congrArg List.length hKv; simp at this; omega)⟩
  have hxn : x.n = nI := by have h := map_at hKn hx; rw [hnI] at h; exact (Option.some.inj h).symm
  have hxo := hF2.own i x hx
  have hxv0 : (L.map Rw.v)[i]? = some x.v := map_at hKv hx
  refine sq fun K9 hK9 => ?_
  refine sq fun K10 hK10 => ?_
  refine rgn 7 ?_
  refine sg wide_wide [.p, .p, .p, .run ((Po (bof (.slice vb L.length vc)) (0 + i * 1))), .ld (x.v), .run (I6 ↑x.n), .p] [Ru Try.prog (vS (Instr.indexAt 82 (.slice vb L.length vc) (I6 ↑i))) ((Po (bof (.slice vb L.length vc)) (0 + i * 1))) w2, w2.cell? ⟨bof (.slice vb L.length vc), 0 + i * 1, none⟩ = some (x.v), Ru Try.prog (vS (Builtin.len_ #[41] 3 #[x.v])) (I6 ↑x.n) w2] [(0, .slice vb L.length vc), (3, I6 ↑i), (4, I6 ↑j), (25, .bool (decide ((↑j : Int) < ↑x.n)))] 7 0 hS (.cons (ix_own (j := i) (ha2) (by kernel_rfl) (by kernel_rfl) rfl (by omega)) (.cons ((ha2).cellAt _ (by rw [Nat.zero_add, Nat.mul_one]; exact hxv0)) (.cons (run_len_own hxo (by kernel_rfl)) .nil))) fun a hS => ?_
  refine seg_end ?_
  refine hK10 _ _ ?_
  refine cond_b hS rfl (fun hb11 => ?_) (fun hb11 => ?_)
  ·
   replace hb11 := of_decide_eq_true hb11
   obtain ⟨g, cap, hxv, hg⟩ := hxo.some_of_pos (by omega)
   have hgn := hF2.new i x hx g (by rw [hxv]; simp [ob])
   have hgX : Ext [g] w2 w2 := Ext.refl _ _
   have hxv1 : (L.map Rw.v)[i]? = some (.slice (some ⟨g, 0, none⟩) x.n cap) := by rw [← hxv]; exact hxv0
   refine wpIn_skip ?_
   refine hK9 _ _ ?_
   refine sq fun K12 hK12 => ?_
   refine wpIn_block ?_
   refine rgn 11 ?_
   refine sg wide_wide [.p, .p, .run ((Po (bof (.slice vb L.length vc)) (0 + i * 1))), .ld (.slice (some ⟨g, 0, none⟩) x.n cap), .p, .p, .as (I6 (100000 * ↑i)), .p, .as (I6 ((100000 * ↑i) + ↑j)), .run ((Po g (0 + j * 1)))] [Ru Try.prog (vS (Instr.indexAt 82 (.slice vb L.length vc) (I6 ↑i))) ((Po (bof (.slice vb L.length vc)) (0 + i * 1))) w2, w2.cell? ⟨bof (.slice vb L.length vc), 0 + i * 1, none⟩ = some (.slice (some ⟨g, 0, none⟩) x.n cap), Value.int .i64 (IntKind.i64.wrap (100000 * ↑i)) = I6 (100000 * ↑i), Value.int .i64 (IntKind.i64.wrap ((100000 * ↑i) + ↑j)) = I6 ((100000 * ↑i) + ↑j), Ru Try.prog (vS (Instr.indexAt 41 (.slice (some ⟨g, 0, none⟩) x.n cap) (I6 ↑j))) ((Po g (0 + j * 1))) w2] [(0, .slice vb L.length vc), (3, I6 ↑i), (4, I6 ↑j), (36, I6 ((100000 * ↑i) + ↑j)), (37, (Po g (0 + j * 1)))] 10 1 hS (.cons (ix_own (j := i) (ha2) (by kernel_rfl) (by kernel_rfl) rfl (by omega)) (.cons ((ha2).cellAt _ (by rw [Nat.zero_add, Nat.mul_one]; exact hxv1)) (.cons (as_i64 (by omega)) (.cons (as_i64 (by omega)) (.cons (ix_slice (E := 3) (size := 1) (j := j) (by kernel_rfl) (by kernel_rfl) rfl (by omega)) .nil))))) fun a hS => ?_
   refine eff_store_own wide_wide (r := 0) (b := g) (off := 0 + j * 1) (u := Value.int .i64 ((100000 * ↑i) + ↑j)) (xs := x.xs) hS (by kernel_rfl) hg (by omega) fun a ws13 hOs13 hEs13 hsz13 hS => ?_
   have hB14 := ha2.ext hEs13 (fun x hx hm => by simp at hm; exact (OwnV.neR ha2 hg (by decide)) x hx hm.symm)
   have hE15 : Ext (bl L) w ws13 := hEy.trans hEs13 (fun b hb => by simp at hb; subst hb; exact hgn)
   have hG16 : Ext [g] w2 ws13 := hgX.trans hEs13 (fun b hb => .inl (by first | exact hb | cases hb))
   refine seg_end ?_
   refine inBlock_normal ?_
   refine hK12 _ _ ?_
   refine rgn 3 ?_
   refine sg wide_wide [.p, .as (I6 (↑j + 1)), .p] [Value.int .i64 (IntKind.i64.wrap (↑j + 1)) = I6 (↑j + 1)] [(0, .slice vb L.length vc), (3, I6 ↑i), (4, I6 (↑j + 1))] 3 0 hS (.cons (as_i64 (by omega)) .nil) fun a hS => ?_
   refine seg_end ?_
   have hFs := hF2.set1 hx hxv hOs13 hG16
   have hMs := hM2.step hx (ys := (x.xs.set (0 + j * 1) (Value.int .i64 ((100000 * ↑i) + ↑j)))) (set1_mk hxo.len (by omega) rfl)
   have hsz9 := Nat.le_trans hsz2 (hG16).size
   exact ⟨(j + 1, K.set i ⟨x.v, x.n, (x.xs.set (0 + j * 1) (Value.int .i64 ((100000 * ↑i) + ↑j)))⟩), ⟨hS.kp [(0, .slice vb L.length vc), (3, I6 ↑i), (4, I6 (↑j + 1))], by omega, (set_keep (y := ⟨x.v, x.n, (x.xs.set (0 + j * 1) (Value.int .i64 ((100000 * ↑i) + ↑j)))⟩) hx rfl).trans hKv, (set_keep (y := ⟨x.v, x.n, (x.xs.set (0 + j * 1) (Value.int .i64 ((100000 * ↑i) + ↑j)))⟩) hx rfl).trans hKn, hFs, hMs, hB14, hE15, hsz9⟩, by simp only; omega⟩
  ·
   replace hb11 := of_decide_eq_false hb11
   refine wpIn_exit ?_
   refine then_exit ?_
   refine then_exit ?_
   refine inBlock_hit ?_
   refine inBlock_normal ?_
   refine hK7 _ _ ?_
   refine rgn 3 ?_
   refine sg wide_wide [.p, .as (I6 (↑i + 1)), .p] [Value.int .i64 (IntKind.i64.wrap (↑i + 1)) = I6 (↑i + 1)] [(0, .slice vb L.length vc), (3, I6 (↑i + 1)), (4, I6 ↑j)] 3 0 hS (.cons (as_i64 (by omega)) .nil) fun a hS => ?_
   refine seg_end ?_
   exact ⟨(i + 1, K), ⟨hS.kp [(0, .slice vb L.length vc), (3, I6 (↑i + 1))], by omega, hKv, hKn, hF2, Mk.next hM2 hx (by omega), ha2, hEy, hsz2⟩, by simp only; omega⟩
 ·
  replace hb6 := of_decide_eq_false hb6
  obtain rfl : i = L.length := by omega
  have hKl : K.length = L.length := by have := congrArg List.length hKv; simpa using this
  have hG0 : Mg 1 70 fI tI (K.map Gw.of) 0 0 := Mk.two (by rw [hKl]; exact hM1)
  have hF20 := hF1.two
  have hGv0 : (K.map Gw.of).map Gw.v0 = L.map Rw.v := by rw [List.map_map]; exact hKv
  have hGn0 : ∀ x ∈ K.map Gw.of, x.n0 ≤ 1000000000 := fun x hx => by
   obtain ⟨y, hy, rfl⟩ := List.mem_map.1 hx
   exact map_all (f := Rw.n) (p := fun q => q ≤ 1000000000) hKn hn y hy
  have hGe0 : ∀ (k : Nat) (x : Gw), (K.map Gw.of)[k]? = some x → 0 ≤ k → x.v = x.v0 := fun k x hx _ => by
   obtain ⟨y, hy, rfl⟩ := map_of hx; rfl
  refine wpIn_exit ?_
  refine then_exit ?_
  refine then_exit ?_
  refine inBlock_hit ?_
  refine hK2 _ _ ?_
  refine sq fun K17 hK17 => ?_
  refine rgn 1 ?_
  refine sg wide_wide [.p] [] [(0, .slice vb L.length vc), (5, .slice none 0 0)] 1 0 hS .nil fun a hS => ?_
  refine seg_end ?_
  refine hK17 _ _ ?_
  refine sq fun K18 hK18 => ?_
  refine sq fun K19 hK19 => ?_
  refine rgn 1 ?_
  refine sg wide_wide [.p] [] [(0, .slice vb L.length vc), (5, .slice none 0 0), (6, I6 0)] 1 0 hS .nil fun a hS => ?_
  refine seg_end ?_
  refine hK19 _ _ ?_
  refine wpIn_block ?_
  refine loop_ghost (fun ((i, G, bm, cm) : Nat × List Gw × Option Addr × Nat) a' w' => St 125 [] [(0, .slice vb L.length vc), (5, .slice bm i cm), (6, I6 ↑i)] a' ∧ i ≤ L.length ∧ G.map Gw.v0 = L.map Rw.v ∧ Fam2 w' 3 1 (fun b => b ∈ bl L ∨ w.heap.size ≤ b) G ∧ (∀ x ∈ G, x.n0 ≤ 1000000000) ∧ Mg 1 70 fI tI G i 0 ∧ (∀ (k : Nat) (x : Gw), G[k]? = some x → i ≤ k → x.v = x.v0) ∧ OwnV w' 41 1 (.slice bm i cm) i ((G.take i).map Gw.v) ∧ (∀ b ∈ ob (.slice bm i cm), w.heap.size ≤ b) ∧ OwnV w' 41 1 (.slice vb L.length vc) L.length (L.map Rw.v) ∧ Ext (bl L) w w' ∧ w.heap.size ≤ w'.heap.size) (fun ((i, G, bm, cm) : Nat × List Gw × Option Addr × Nat) => L.length - i) (0, K.map Gw.of, none, 0) ⟨hS.keepTo [0, 5, 6] (by kernel_rfl), Nat.zero_le _, hGv0, hF20, hGn0, hG0, hGe0, OwnV.nil _ _ _, (by simp [ob]), ha1, hEx, hsz1⟩ ?_
  rintro ⟨i, G, bm, cm⟩ a w3 ⟨hS, hil, hGv, hF3, hGn, hM3, hGe, hbm, hbmn, ha3, hEx, hsz3⟩
  have hv0w : ∀ (k : Nat) (y : Gw), G[k]? = some y → ∀ b ∈ ob y.v0, b < w.heap.size := fun k y hy b hb => by
   have h1 := map_at hGv hy
   rw [List.getElem?_map] at h1
   cases hL : L[k]? with
   | none => rw [hL] at h1; cases h1
   | some z =>
    rw [hL] at h1
    have h2 : z.v = y.v0 := Option.some.inj h1
    exact hF.lie hL b (by rw [h2]; exact hb)
  have hGl : G.length = L.length := by have := congrArg List.length hGv; simpa using this
  refine sq fun K20 hK20 => ?_
  refine sq fun K21 hK21 => ?_
  refine rgn 4 ?_
  refine sg wide_wide [.p, .p, .p, .p] [] [(0, .slice vb L.length vc), (5, .slice bm i cm), (6, I6 ↑i), (41, .bool (decide ((↑i : Int) < ↑L.length)))] 4 0 hS .nil fun a hS => ?_
  refine seg_end ?_
  refine hK21 _ _ ?_
  refine cond_b hS rfl (fun hb22 => ?_) (fun hb22 => ?_)
  ·
   replace hb22 := of_decide_eq_true hb22
   obtain ⟨x, hx⟩ : ∃ x, G[i]? = some x := ⟨_, List.getElem?_eq_getElem (by omega)⟩
   have hxo := hF3.own i x hx
   have hxe := hGe i x hx (Nat.le_refl _)
   obtain ⟨gb, gc, hgv⟩ := hxo.form
   have hxn0 := hM3.n i x hx
   rw [show cnt 70 i 0 i = 0 by unfold cnt; rw [if_neg (Nat.lt_irrefl _), if_pos rfl], Nat.add_zero] at hxn0
   have hxb := hGn x (List.mem_of_getElem? hx)
   obtain ⟨nI, hnI⟩ : ∃ q, x.n0 = q := ⟨_, rfl⟩
   rw [hxn0, hnI] at hgv
   rw [hnI] at hxb
   have hxv1 : (L.map Rw.v)[i]? = some (.slice gb nI gc) := by rw [map_at hGv hx, ← hxe, hgv]
   refine wpIn_skip ?_
   refine hK20 _ _ ?_
   refine sq fun K23 hK23 => ?_
   refine wpIn_block ?_
   refine sq fun K24 hK24 => ?_
   refine rgn 5 ?_
   refine sg wide_wide [.p, .p, .run ((Po (bof (.slice vb L.length vc)) (0 + i * 1))), .ld (.slice gb nI gc), .p] [Ru Try.prog (vS (Instr.indexAt 82 (.slice vb L.length vc) (I6 ↑i))) ((Po (bof (.slice vb L.length vc)) (0 + i * 1))) w3, w3.cell? ⟨bof (.slice vb L.length vc), 0 + i * 1, none⟩ = some (.slice gb nI gc)] [(0, .slice vb L.length vc), (5, .slice bm i cm), (6, I6 ↑i), (7, .slice gb nI gc)] 5 0 hS (.cons (ix_own (j := i) (ha3) (by kernel_rfl) (by kernel_rfl) rfl (by omega)) (.cons ((ha3).cellAt _ (by rw [Nat.zero_add, Nat.mul_one]; exact hxv1)) .nil)) fun a hS => ?_
   refine seg_end ?_
   refine hK24 _ _ ?_
   refine sq fun K25 hK25 => ?_
   refine sq fun K26 hK26 => ?_
   refine rgn 1 ?_
   refine sg wide_wide [.p] [] [(0, .slice vb L.length vc), (5, .slice bm i cm), (6, I6 ↑i), (7, .slice gb nI gc), (8, I6 0)] 1 0 hS .nil fun a hS => ?_
   refine seg_end ?_
   refine hK26 _ _ ?_
   refine wpIn_block ?_
   obtain ⟨VL, hVL⟩ : ∃ l, (G.take i).map Gw.v = l := ⟨_, rfl⟩
   rw [hVL] at hbm
   refine loop_ghost (fun ((j, G, gb, gc) : Nat × List Gw × Option Addr × Nat) a' w' => St 125 [] [(0, .slice vb L.length vc), (5, .slice bm i cm), (6, I6 ↑i), (7, .slice gb (nI + j) gc), (8, I6 ↑j)] a' ∧ j ≤ 70 ∧ G.map Gw.v0 = L.map Rw.v ∧ Fam2 w' 3 1 (fun b => b ∈ bl L ∨ w.heap.size ≤ b) G ∧ (∀ x ∈ G, x.n0 ≤ 1000000000) ∧ Mg 1 70 fI tI G i j ∧ (∀ (k : Nat) (x : Gw), G[k]? = some x → i < k → x.v = x.v0) ∧ (∃ x, G[i]? = some x ∧ x.v = .slice gb (nI + j) gc ∧ x.n0 = nI) ∧ (G.take i).map Gw.v = VL ∧ OwnV w' 41 1 (.slice bm i cm) i VL ∧ (∀ b ∈ ob (.slice bm i cm), w.heap.size ≤ b) ∧ OwnV w' 41 1 (.slice vb L.length vc) L.length (L.map Rw.v) ∧ Ext (bl L) w w' ∧ w.heap.size ≤ w'.heap.size) (fun ((j, G, gb, gc) : Nat × List Gw × Option Addr × Nat) => 70 - j) (0, G, gb, gc) ⟨hS.keepTo [0, 5, 6, 7, 8] (by kernel_rfl), Nat.zero_le _, hGv, hF3, hGn, hM3, (fun k y hy hk => hGe k y hy (by omega)), ⟨x, hx, hgv, hnI⟩, hVL, hbm, hbmn, ha3, hEx, hsz3⟩ ?_
   rintro ⟨j, G, gb, gc⟩ a w4 ⟨hS, hjT, hGv, hF4, hGn, hM4, hGe4, ⟨x, hx4, hxv4, hxn04⟩, hVL4, hbm4, hbmn, ha4, hEy, hsz4⟩
   have hv0w : ∀ (k : Nat) (y : Gw), G[k]? = some y → ∀ b ∈ ob y.v0, b < w.heap.size := fun k y hy b hb => by
    have h1 := map_at hGv hy
    rw [List.getElem?_map] at h1
    cases hL : L[k]? with
    | none => rw [hL] at h1; cases h1
    | some z =>
     rw [hL] at h1
     have h2 : z.v = y.v0 := Option.some.inj h1
     exact hF.lie hL b (by rw [h2]; exact hb)
   have hxn4 := hM4.n i x hx4
   rw [show cnt 70 i j i = j by unfold cnt; rw [if_neg (Nat.lt_irrefl _), if_pos rfl], hxn04] at hxn4
   have hb4 := hF4.new i x hx4
   refine sq fun K27 hK27 => ?_
   refine sq fun K28 hK28 => ?_
   refine rgn 2 ?_
   refine sg wide_wide [.p, .p] [] [(0, .slice vb L.length vc), (5, .slice bm i cm), (6, I6 ↑i), (7, .slice gb (nI + j) gc), (8, I6 ↑j), (49, .bool (decide ((↑j : Int) < 70)))] 2 0 hS .nil fun a hS => ?_
   refine seg_end ?_
   refine hK28 _ _ ?_
   refine cond_b hS rfl (fun hb29 => ?_) (fun hb29 => ?_)
   ·
    replace hb29 := of_decide_eq_true hb29
    refine wpIn_skip ?_
    refine hK27 _ _ ?_
    refine sq fun K30 hK30 => ?_
    refine wpIn_block ?_
    refine rgn 9 ?_
    refine sg wide_wide [.p, .p, .as (I6 (100 * ↑i)), .as (I6 ((-1) - (100 * ↑i))), .p, .as (I6 (((-1) - (100 * ↑i)) - ↑j))] [Value.int .i64 (IntKind.i64.wrap (100 * ↑i)) = I6 (100 * ↑i), Value.int .i64 (IntKind.i64.wrap ((-1) - (100 * ↑i))) = I6 ((-1) - (100 * ↑i)), Value.int .i64 (IntKind.i64.wrap (((-1) - (100 * ↑i)) - ↑j)) = I6 (((-1) - (100 * ↑i)) - ↑j)] [(0, .slice vb L.length vc), (5, .slice bm i cm), (6, I6 ↑i), (7, .slice gb (nI + j) gc), (8, I6 ↑j), (52, .slice gb (nI + j) gc), (57, I6 (((-1) - (100 * ↑i)) - ↑j))] 6 3 hS (.cons (as_i64 (by omega)) (.cons (as_i64 (by omega)) (.cons (as_i64 (by omega)) .nil))) fun a hS => ?_
    refine eff_new wide_wide (r := 2) (cs := #[I6 (((-1) - (100 * ↑i)) - ↑j)]) (T := 3) (v := Value.slice (some ⟨w4.heap.size, 0, none⟩) 1 1) (d := (some 58)) hS (by kernel_rfl) fun a w31 hw32 hS => ?_
    have hB35 := OwnV.at' hw32 (ha4.alloc _)
    have hB36 := OwnV.at' hw32 (hbm4.alloc _)
    have hX37 : Ext [] w4 w31 := by rw [hw32]; exact (Ext.refl _ _).alloc _
    have hG38 : Fam2 w31 3 1 (fun b => b ∈ bl L ∨ w.heap.size ≤ b) G := hF4.ext0 hX37
    have hG39 : w.heap.size ≤ w31.heap.size := Nat.le_trans hsz4 (hX37).size
    have hB40 : Blk w31 (w4.heap.size) 3 #[I6 (((-1) - (100 * ↑i)) - ↑j)] := by rw [hw32]; exact Blk.new _ _ _
    have hs41 : w.heap.size ≤ w4.heap.size := hEy.size
    have hE42 : Ext (bl L) w w31 := by rw [hw32]; exact hEy.alloc _
    have hOw43 := (by have h := (hG38).own i x hx4; rw [hxv4, hxn4] at h; exact h : OwnV w31 3 1 (.slice gb (nI + j) gc) (nI + j) x.xs)
    refine eff_append_rd wide_wide (r := 1) (d := (some 59)) (t := 41) (ty := 41) (e := 3) (size := 1) (bytes := 8) (len := (nI + j)) (k := 1) (z := #[I6 0]) (v := (.slice gb (nI + j) gc)) (u := Value.slice (some ⟨w4.heap.size, 0, none⟩) 1 1) (xs := x.xs) (news := [I6 (((-1) - (100 * ↑i)) - ↑j)]) hS (by kernel_rfl) (by kernel_rfl) (by kernel_rfl) (by kernel_rfl) hOw43 (RdV.of_blk (n := 1) hB40 rfl) rfl (by omega) (by omega) fun bs43 cp43 a wA43 hA43 hS => ?_
    have hFA43 := (hG38).app hx4 (by rw [hxv4, hxn4]; exact hA43) (fun b hb => .inr (Nat.le_trans hG39 hb))
    have hMA43 := hM4.step hx4 (v := .slice bs43 (x.n + 1) cp43) (hF4.own i x hx4).len (news := [I6 (((-1) - (100 * ↑i)) - ↑j)]) (one_mk rfl)
    have hszA43 := Nat.le_trans hG39 hA43.ext.size
    have hvaA43 := (hB35).ext hA43.ext ((hB35).disj hOw43 (by decide))
    have hbmA43 := (hB36).ext hA43.ext ((hB36).disj hOw43 (by decide))
    have hEA43 := hE42.trans hA43.ext (fun b hb => (hb4 b (List.mem_append_right _ (by rw [hxv4]; exact hb))).1)
    refine sg wide_wide [.p] [] [(0, .slice vb L.length vc), (5, .slice bm i cm), (6, I6 ↑i), (7, .slice bs43 (nI + j + 1) cp43), (8, I6 ↑j)] 9 0 hS .nil fun a hS => ?_
    refine seg_end ?_
    refine inBlock_normal ?_
    refine hK30 _ _ ?_
    refine rgn 3 ?_
    refine sg wide_wide [.p, .as (I6 (↑j + 1)), .p] [Value.int .i64 (IntKind.i64.wrap (↑j + 1)) = I6 (↑j + 1)] [(0, .slice vb L.length vc), (5, .slice bm i cm), (6, I6 ↑i), (7, .slice bs43 (nI + j + 1) cp43), (8, I6 (↑j + 1))] 3 0 hS (.cons (as_i64 (by omega)) .nil) fun a hS => ?_
    refine seg_end ?_
    have hln43 : nI + j + 1 = nI + (j + 1) := by omega
    rw [hln43] at hS
    exact ⟨(j + 1, G.set i ⟨x.v0, x.n0, x.xs0, .slice bs43 (x.n + 1) cp43, x.n + 1, x.xs ++ [I6 (((-1) - (100 * ↑i)) - ↑j)]⟩, bs43, cp43), ⟨hS.kp [(0, .slice vb L.length vc), (5, .slice bm i cm), (6, I6 ↑i), (7, .slice bs43 (nI + (j + 1)) cp43), (8, I6 (↑j + 1))], by omega, (set_keep (y := ⟨x.v0, x.n0, x.xs0, .slice bs43 (x.n + 1) cp43, x.n + 1, x.xs ++ [I6 (((-1) - (100 * ↑i)) - ↑j)]⟩) hx4 rfl).trans hGv, hFA43, (by
     intro y hy
     rcases List.mem_or_eq_of_mem_set hy with hy | rfl
     ·exact hGn y hy
     ·exact hGn x (List.mem_of_getElem? hx4)), hMA43, (by
     intro k y hy hk
     rcases get_set hx4 hy with ⟨h, _⟩ | ⟨_, hy⟩
     ·omega
     ·exact hGe4 k y hy hk), ⟨_, List.getElem?_set_self (List.getElem?_eq_some_iff.1 hx4).1, by simp only; rw [hxn4, hln43], hxn04⟩, take_set.trans hVL4, hbmA43, hbmn, hvaA43, hEA43, hszA43⟩, by simp only; omega⟩
   ·
    replace hb29 := of_decide_eq_false hb29
    obtain rfl : j = 70 := by omega
    refine wpIn_exit ?_
    refine then_exit ?_
    refine then_exit ?_
    refine inBlock_hit ?_
    refine hK25 _ _ ?_
    refine rgn 5 ?_
    refine sg wide_wide [.p, .p] [] [(0, .slice vb L.length vc), (5, .slice bm i cm), (6, I6 ↑i), (7, .slice gb (nI + 70) gc), (60, .slice bm i cm), (61, .slice gb (nI + 70) gc)] 2 3 hS .nil fun a hS => ?_
    refine eff_new wide_wide (r := 2) (cs := #[.slice gb (nI + 70) gc]) (T := 41) (v := Value.slice (some ⟨w4.heap.size, 0, none⟩) 1 1) (d := (some 62)) hS (by kernel_rfl) fun a w44 hw45 hS => ?_
    have hB48 := OwnV.at' hw45 (ha4.alloc _)
    have hB49 := OwnV.at' hw45 (hbm4.alloc _)
    have hX50 : Ext [] w4 w44 := by rw [hw45]; exact (Ext.refl _ _).alloc _
    have hG51 : Fam2 w44 3 1 (fun b => b ∈ bl L ∨ w.heap.size ≤ b) G := hF4.ext0 hX50
    have hG52 : w.heap.size ≤ w44.heap.size := Nat.le_trans hsz4 (hX50).size
    have hB53 : Blk w44 (w4.heap.size) 41 #[.slice gb (nI + 70) gc] := by rw [hw45]; exact Blk.new _ _ _
    have hs54 : w.heap.size ≤ w4.heap.size := hEy.size
    have hE55 : Ext (bl L) w w44 := by rw [hw45]; exact hEy.alloc _
    skip
    refine eff_append2 wide_wide (r := 1) (d := (some 63)) (t := 82) (ty := 82) (e := 41) (size := 1) (bytes := 24) (len := i) (b := w4.heap.size) (off := 0) (k := 1) (c := 1) (z := #[.slice none 0 0]) (v := Value.slice bm i cm) (xs := VL) [.slice gb (nI + 70) gc] hS (by kernel_rfl) (by kernel_rfl) (by kernel_rfl) (by kernel_rfl) (by kernel_rfl) hB49 (by simp) (fun j u hu => by rw [Nat.zero_add]; exact hB53.cell j (by simpa using hu)) rfl (by omega) (by omega) (by omega) fun ga56 ca56 a wa56 hOa56 hEa56 hFa56 hS => ?_
    have hB57 := hB48.ext hEa56 ((fun x hx hm => by have h5 := hval x hx; have h6 := hbmn x hm; omega))
    have hE59 : Ext (bl L) w wa56 := hE55.trans hEa56 (fun b hb => .inr (hbmn b hb))
    have hG60 : Fam2 wa56 3 1 (fun b => b ∈ bl L ∨ w.heap.size ≤ b) G := hG51.ext hEa56 (fun k y hy b hb hm => (List.mem_append.1 hb).elim (fun h => by have h5 := hv0w k y hy b h; have h6 := hbmn b hm; omega) (fun h => (hG51.own k y hy).disj hB49 (by decide) b h hm))
    have hG61 : w.heap.size ≤ wa56.heap.size := Nat.le_trans hG52 (hEa56).size
    refine sg wide_wide [.p] [] [(0, .slice vb L.length vc), (5, .slice (some ⟨ga56, 0, none⟩) (i + 1) ca56), (6, I6 ↑i), (7, .slice gb (nI + 70) gc)] 5 0 hS .nil fun a hS => ?_
    refine seg_end ?_
    refine inBlock_normal ?_
    refine hK23 _ _ ?_
    refine rgn 3 ?_
    refine sg wide_wide [.p, .as (I6 (↑i + 1)), .p] [Value.int .i64 (IntKind.i64.wrap (↑i + 1)) = I6 (↑i + 1)] [(0, .slice vb L.length vc), (5, .slice (some ⟨ga56, 0, none⟩) (i + 1) ca56), (6, I6 (↑i + 1)), (7, .slice gb (nI + 70) gc)] 3 0 hS (.cons (as_i64 (by omega)) .nil) fun a hS => ?_
    refine seg_end ?_
    have hbmN : OwnV wa56 41 1 (.slice (some ⟨ga56, 0, none⟩) (i + 1) ca56) (i + 1) ((G.take (i + 1)).map Gw.v) := by
     rw [take_snoc hx4, hxv4, hVL4]; exact hOa56.v
    exact ⟨(i + 1, G, (some ⟨ga56, 0, none⟩), ca56), ⟨hS.kp [(0, .slice vb L.length vc), (5, .slice (some ⟨ga56, 0, none⟩) (i + 1) ca56), (6, I6 (↑i + 1))], by omega, hGv, hG60, hGn, Mg.next hM4, fun k y hy hk => hGe4 k y hy (by omega), hbmN, (by
     intro b hb
     have hb : b = ga56 := by simpa [ob] using hb
     rw [hb]
     rcases hFa56 ga56 (by simp) with h | h
     ·exact hbmn _ h
     ·exact Nat.le_trans hG52 h), hB57, hE59, hG61⟩, by simp only; omega⟩
  ·
   replace hb22 := of_decide_eq_false hb22
   obtain rfl : i = L.length := by omega
   have hbm9 := hbm
   rw [List.take_of_length_le (by omega)] at hbm9
   refine wpIn_exit ?_
   refine then_exit ?_
   refine then_exit ?_
   refine inBlock_hit ?_
   refine hK18 _ _ ?_
   refine sq fun K62 hK62 => ?_
   refine sq fun K63 hK63 => ?_
   refine rgn 1 ?_
   refine sg wide_wide [.p] [] [(0, .slice vb L.length vc), (5, .slice bm L.length cm), (9, I6 0)] 1 0 hS .nil fun a hS => ?_
   refine seg_end ?_
   refine hK63 _ _ ?_
   refine wpIn_block ?_
   have hFz := hF3
   have haz := ha3
   have hbz := hbm9
   have hEz := hEx
   have hEzz : Ext [] w3 w3 := Ext.refl _ _
   refine loop_ghost (fun (i : Nat) a' w' => St 125 [] [(0, .slice vb L.length vc), (5, .slice bm L.length cm), (9, I6 ↑i)] a' ∧ i ≤ L.length ∧ Ext [] w3 w') (fun (i : Nat) => L.length - i) 0 ⟨hS.keepTo [0, 5, 9] (by kernel_rfl), Nat.zero_le _, hEzz⟩ ?_
   rintro i a w5 ⟨hS, hil, hE5⟩
   refine sq fun K64 hK64 => ?_
   refine sq fun K65 hK65 => ?_
   refine rgn 4 ?_
   refine sg wide_wide [.p, .p, .p, .p] [] [(0, .slice vb L.length vc), (5, .slice bm L.length cm), (9, I6 ↑i), (67, .bool (decide ((↑i : Int) < ↑L.length)))] 4 0 hS .nil fun a hS => ?_
   refine seg_end ?_
   refine hK65 _ _ ?_
   refine cond_b hS rfl (fun hb66 => ?_) (fun hb66 => ?_)
   ·
    replace hb66 := of_decide_eq_true hb66
    obtain ⟨x, hx⟩ : ∃ x, G[i]? = some x := ⟨_, List.getElem?_eq_getElem (by omega)⟩
    have hxr := hFz.rd i x hx
    have hxo := hFz.own i x hx
    have hxs := hFz.sh i x hx
    have hxn := hM3.n i x hx
    rw [show cnt 70 L.length 0 i = 70 by unfold cnt; rw [if_pos (by omega)]] at hxn
    have hxb := hGn x (List.mem_of_getElem? hx)
    obtain ⟨nI, hnI⟩ : ∃ q, x.n0 = q := ⟨_, rfl⟩
    have hxm := hM3.m i
    have hxt := hM3.t i
    rw [hnI] at hxr hxn hxb
    have hv1 : (L.map Rw.v)[i]? = some x.v0 := map_at hGv hx
    have hv2 : (G.map Gw.v)[i]? = some x.v := by rw [List.getElem?_map, hx]; rfl
    have hmk : ∀ k r, k < nI → r < 1 → x.xs0[k * 1 + r]? = (fI i k)[r]? := fun k r hk hr => hM3.m i k r x hx (by omega) hr
    have hmx : ∀ k r, k < nI → r < 1 → x.xs[k * 1 + r]? = (fI i k)[r]? := fun k r hk hr => by
     have h := hmk k r hk hr
     rw [hxs.2.1, hnI, List.getElem?_take] at h
     have hb : k * 1 + r < nI * 1 := by
      have : (k + 1) * 1 ≤ nI * 1 := Nat.mul_le_mul_right _ (by omega)
      rw [Nat.add_mul, Nat.one_mul] at this; omega
     rw [if_pos hb] at h; exact h
    have hmt : ∀ k r, k < 70 → r < 1 → x.xs[(nI + k) * 1 + r]? = (tI i k)[r]? := fun k r hk hr => by
     have h := hM3.t i k r x hx (by unfold cnt; rw [if_pos (by omega)]; exact hk) hr
     rw [hnI] at h; exact h
    refine wpIn_skip ?_
    refine hK64 _ _ ?_
    refine sq fun K67 hK67 => ?_
    refine wpIn_block ?_
    refine sq fun K68 hK68 => ?_
    refine rgn 6 ?_
    refine sg wide_wide [.p, .p, .run ((Po (bof (.slice vb L.length vc)) (0 + i * 1))), .ld (x.v0), .run (I6 ↑nI), .p] [Ru Try.prog (vS (Instr.indexAt 82 (.slice vb L.length vc) (I6 ↑i))) ((Po (bof (.slice vb L.length vc)) (0 + i * 1))) w5, w5.cell? ⟨bof (.slice vb L.length vc), 0 + i * 1, none⟩ = some (x.v0), Ru Try.prog (vS (Builtin.len_ #[41] 3 #[x.v0])) (I6 ↑nI) w5] [(0, .slice vb L.length vc), (5, .slice bm L.length cm), (9, I6 ↑i), (10, I6 ↑nI)] 6 0 hS (.cons (ix_own (j := i) ((haz.ext0' hE5)) (by kernel_rfl) (by kernel_rfl) rfl (by omega)) (.cons ((haz.ext0' hE5).cellAt _ (by rw [Nat.zero_add, Nat.mul_one]; exact hv1)) (.cons (run_len_rd (e := 3) hxr (by kernel_rfl)) .nil))) fun a hS => ?_
    refine seg_end ?_
    refine hK68 _ _ ?_
    refine sq fun K69 hK69 => ?_
    refine sq fun K70 hK70 => ?_
    refine rgn 1 ?_
    refine sg wide_wide [.p] [] [(0, .slice vb L.length vc), (5, .slice bm L.length cm), (9, I6 ↑i), (10, I6 ↑nI), (11, I6 0)] 1 0 hS .nil fun a hS => ?_
    refine seg_end ?_
    refine hK70 _ _ ?_
    refine wpIn_block ?_
    have hE511 := hE5
    refine loop_ghost (fun (k : Nat) a' w' => St 125 [] [(0, .slice vb L.length vc), (5, .slice bm L.length cm), (9, I6 ↑i), (10, I6 ↑nI), (11, I6 ↑k)] a' ∧ k ≤ nI ∧ Ext [] w3 w') (fun (k : Nat) => nI - k) 0 ⟨hS.keepTo [0, 5, 9, 10, 11] (by kernel_rfl), Nat.zero_le _, hE511⟩ ?_
    rintro k a w6 ⟨hS, hkl, hE6⟩
    refine sq fun K71 hK71 => ?_
    refine sq fun K72 hK72 => ?_
    refine rgn 3 ?_
    refine sg wide_wide [.p, .p, .p] [] [(0, .slice vb L.length vc), (5, .slice bm L.length cm), (9, I6 ↑i), (10, I6 ↑nI), (11, I6 ↑k), (77, .bool (decide ((↑k : Int) < ↑nI)))] 3 0 hS .nil fun a hS => ?_
    refine seg_end ?_
    refine hK72 _ _ ?_
    refine cond_b hS rfl (fun hb73 => ?_) (fun hb73 => ?_)
    ·
     replace hb73 := of_decide_eq_true hb73
     refine wpIn_skip ?_
     refine hK71 _ _ ?_
     refine sq fun K74 hK74 => ?_
     refine wpIn_block ?_
     refine sq fun K75 hK75 => ?_
     refine rgn 26 ?_
     refine sg wide_wide [.p, .p, .run ((Po (bof (.slice vb L.length vc)) (0 + i * 1))), .ld (x.v0), .p, .run ((Po (bof x.v0) (oof x.v0 + k * 1))), .ld (I6 ((100000 * ↑i) + ↑k)), .p, .as (I6 (100000 * ↑i)), .p, .as (I6 ((100000 * ↑i) + ↑k)), .as (.bool false), .p, .p, .p, .run ((Po (bof (.slice bm L.length cm)) (0 + i * 1))), .ld (x.v), .p, .run ((Po (bof x.v) (oof x.v + k * 1))), .ld (I6 ((100000 * ↑i) + ↑k)), .p, .as (I6 (100000 * ↑i)), .p, .as (I6 ((100000 * ↑i) + ↑k)), .as (.bool false), .p] [Ru Try.prog (vS (Instr.indexAt 82 (.slice vb L.length vc) (I6 ↑i))) ((Po (bof (.slice vb L.length vc)) (0 + i * 1))) w6, w6.cell? ⟨bof (.slice vb L.length vc), 0 + i * 1, none⟩ = some (x.v0), Ru Try.prog (vS (Instr.indexAt 41 (x.v0) (I6 ↑k))) ((Po (bof x.v0) (oof x.v0 + k * 1))) w6, w6.cell? ⟨bof x.v0, oof x.v0 + k * 1, none⟩ = some (I6 ((100000 * ↑i) + ↑k)), Value.int .i64 (IntKind.i64.wrap (100000 * ↑i)) = I6 (100000 * ↑i), Value.int .i64 (IntKind.i64.wrap ((100000 * ↑i) + ↑k)) = I6 ((100000 * ↑i) + ↑k), Value.bool ((((100000 * ↑i) + ↑k : Int) != ((100000 * ↑i) + ↑k))) = .bool false, Ru Try.prog (vS (Instr.indexAt 82 (.slice bm L.length cm) (I6 ↑i))) ((Po (bof (.slice bm L.length cm)) (0 + i * 1))) w6, w6.cell? ⟨bof (.slice bm L.length cm), 0 + i * 1, none⟩ = some (x.v), Ru Try.prog (vS (Instr.indexAt 41 (x.v) (I6 ↑k))) ((Po (bof x.v) (oof x.v + k * 1))) w6, w6.cell? ⟨bof x.v, oof x.v + k * 1, none⟩ = some (I6 ((100000 * ↑i) + ↑k)), Value.int .i64 (IntKind.i64.wrap (100000 * ↑i)) = I6 (100000 * ↑i), Value.int .i64 (IntKind.i64.wrap ((100000 * ↑i) + ↑k)) = I6 ((100000 * ↑i) + ↑k), Value.bool ((((100000 * ↑i) + ↑k : Int) != ((100000 * ↑i) + ↑k))) = .bool false] [(0, .slice vb L.length vc), (5, .slice bm L.length cm), (9, I6 ↑i), (10, I6 ↑nI), (11, I6 ↑k), (105, .bool false)] 26 0 hS (.cons (ix_own (j := i) ((haz.ext0' hE6)) (by kernel_rfl) (by kernel_rfl) rfl (by omega)) (.cons ((haz.ext0' hE6).cellAt _ (by rw [Nat.zero_add, Nat.mul_one]; exact hv1)) (.cons (ix_rd (e := 3) (j := k) hxr (by kernel_rfl) (by kernel_rfl) rfl (by omega)) (.cons ((hxr.ext0 hE6).cellAt (k * 1 + 0) (by omega) ((hmk k 0 (by omega) (by decide)).trans rfl)) (.cons (as_i64 (by omega)) (.cons (as_i64 (by omega)) (.cons (as_ne_f (rfl)) (.cons (ix_own (j := i) ((hbz.ext0' hE6)) (by kernel_rfl) (by kernel_rfl) rfl (by omega)) (.cons ((hbz.ext0' hE6).cellAt _ (by rw [Nat.zero_add, Nat.mul_one]; exact hv2)) (.cons (ix_rd (e := 3) (j := k) hxo.rd (by kernel_rfl) (by kernel_rfl) rfl (by omega)) (.cons ((hxo.rd.ext0 hE6).cellAt (k * 1 + 0) (by omega) ((hmx k 0 (by omega) (by decide)).trans rfl)) (.cons (as_i64 (by omega)) (.cons (as_i64 (by omega)) (.cons (as_ne_f (rfl)) .nil)))))))))))))) fun a hS => ?_
     refine seg_end ?_
     refine hK75 _ _ ?_
     refine cond_f hS rfl ?_
     refine wpIn_skip ?_
     refine inBlock_normal ?_
     refine hK74 _ _ ?_
     refine rgn 3 ?_
     refine sg wide_wide [.p, .as (I6 (↑k + 1)), .p] [Value.int .i64 (IntKind.i64.wrap (↑k + 1)) = I6 (↑k + 1)] [(0, .slice vb L.length vc), (5, .slice bm L.length cm), (9, I6 ↑i), (10, I6 ↑nI), (11, I6 (↑k + 1)), (105, .bool false)] 3 0 hS (.cons (as_i64 (by omega)) .nil) fun a hS => ?_
     refine seg_end ?_
     exact ⟨k + 1, ⟨hS.kp [(0, .slice vb L.length vc), (5, .slice bm L.length cm), (9, I6 ↑i), (10, I6 ↑nI), (11, I6 (↑k + 1))], by omega, hE6⟩, by omega⟩
    ·
     replace hb73 := of_decide_eq_false hb73
     refine wpIn_exit ?_
     refine then_exit ?_
     refine then_exit ?_
     refine inBlock_hit ?_
     refine hK69 _ _ ?_
     refine sq fun K76 hK76 => ?_
     refine rgn 1 ?_
     refine sg wide_wide [.p] [] [(0, .slice vb L.length vc), (5, .slice bm L.length cm), (9, I6 ↑i), (10, I6 ↑nI), (12, I6 0)] 1 0 hS .nil fun a hS => ?_
     refine seg_end ?_
     refine hK76 _ _ ?_
     refine wpIn_block ?_
     have hE512 := hE6
     refine loop_ghost (fun (k : Nat) a' w' => St 125 [] [(0, .slice vb L.length vc), (5, .slice bm L.length cm), (9, I6 ↑i), (10, I6 ↑nI), (12, I6 ↑k)] a' ∧ k ≤ 70 ∧ Ext [] w3 w') (fun (k : Nat) => 70 - k) 0 ⟨hS.keepTo [0, 5, 9, 10, 12] (by kernel_rfl), Nat.zero_le _, hE512⟩ ?_
     rintro k a w6 ⟨hS, hkl, hE6⟩
     refine sq fun K77 hK77 => ?_
     refine sq fun K78 hK78 => ?_
     refine rgn 2 ?_
     refine sg wide_wide [.p, .p] [] [(0, .slice vb L.length vc), (5, .slice bm L.length cm), (9, I6 ↑i), (10, I6 ↑nI), (12, I6 ↑k), (107, .bool (decide ((↑k : Int) < 70)))] 2 0 hS .nil fun a hS => ?_
     refine seg_end ?_
     refine hK78 _ _ ?_
     refine cond_b hS rfl (fun hb79 => ?_) (fun hb79 => ?_)
     ·
      replace hb79 := of_decide_eq_true hb79
      refine wpIn_skip ?_
      refine hK77 _ _ ?_
      refine sq fun K80 hK80 => ?_
      refine wpIn_block ?_
      refine sq fun K81 hK81 => ?_
      refine rgn 15 ?_
      refine sg wide_wide [.p, .p, .run ((Po (bof (.slice bm L.length cm)) (0 + i * 1))), .ld (x.v), .p, .p, .as (I6 ((nI + k : Nat) : Int)), .run ((Po (bof x.v) (oof x.v + (nI + k) * 1))), .ld (I6 (((-1) - (100 * ↑i)) - ↑k)), .p, .as (I6 (100 * ↑i)), .as (I6 ((-1) - (100 * ↑i))), .p, .as (I6 (((-1) - (100 * ↑i)) - ↑k)), .as (.bool false)] [Ru Try.prog (vS (Instr.indexAt 82 (.slice bm L.length cm) (I6 ↑i))) ((Po (bof (.slice bm L.length cm)) (0 + i * 1))) w6, w6.cell? ⟨bof (.slice bm L.length cm), 0 + i * 1, none⟩ = some (x.v), Value.int .i64 (IntKind.i64.wrap (↑nI + ↑k)) = I6 ((nI + k : Nat) : Int), Ru Try.prog (vS (Instr.indexAt 41 (x.v) (I6 ((nI + k : Nat) : Int)))) ((Po (bof x.v) (oof x.v + (nI + k) * 1))) w6, w6.cell? ⟨bof x.v, oof x.v + (nI + k) * 1, none⟩ = some (I6 (((-1) - (100 * ↑i)) - ↑k)), Value.int .i64 (IntKind.i64.wrap (100 * ↑i)) = I6 (100 * ↑i), Value.int .i64 (IntKind.i64.wrap ((-1) - (100 * ↑i))) = I6 ((-1) - (100 * ↑i)), Value.int .i64 (IntKind.i64.wrap (((-1) - (100 * ↑i)) - ↑k)) = I6 (((-1) - (100 * ↑i)) - ↑k), Value.bool (((((-1) - (100 * ↑i)) - ↑k : Int) != (((-1) - (100 * ↑i)) - ↑k))) = .bool false] [(0, .slice vb L.length vc), (5, .slice bm L.length cm), (9, I6 ↑i), (10, I6 ↑nI), (12, I6 ↑k), (124, .bool false)] 15 0 hS (.cons (ix_own (j := i) ((hbz.ext0' hE6)) (by kernel_rfl) (by kernel_rfl) rfl (by omega)) (.cons ((hbz.ext0' hE6).cellAt _ (by rw [Nat.zero_add, Nat.mul_one]; exact hv2)) (.cons ((by rw [show (↑nI + ↑k : Int) = ((nI + k : Nat) : Int) from by omega]; exact as_i64 (by omega))) (.cons (ix_rd (e := 3) (j := (nI + k)) hxo.rd (by kernel_rfl) (by kernel_rfl) rfl (by omega)) (.cons ((hxo.rd.ext0 hE6).cellAt ((nI + k) * 1 + 0) (by omega) ((hmt k 0 (by omega) (by decide)).trans rfl)) (.cons (as_i64 (by omega)) (.cons (as_i64 (by omega)) (.cons (as_i64 (by omega)) (.cons (as_ne_f (rfl)) .nil))))))))) fun a hS => ?_
      refine seg_end ?_
      refine hK81 _ _ ?_
      refine cond_f hS rfl ?_
      refine wpIn_skip ?_
      refine inBlock_normal ?_
      refine hK80 _ _ ?_
      refine rgn 3 ?_
      refine sg wide_wide [.p, .as (I6 (↑k + 1)), .p] [Value.int .i64 (IntKind.i64.wrap (↑k + 1)) = I6 (↑k + 1)] [(0, .slice vb L.length vc), (5, .slice bm L.length cm), (9, I6 ↑i), (10, I6 ↑nI), (12, I6 (↑k + 1)), (124, .bool false)] 3 0 hS (.cons (as_i64 (by omega)) .nil) fun a hS => ?_
      refine seg_end ?_
      exact ⟨k + 1, ⟨hS.kp [(0, .slice vb L.length vc), (5, .slice bm L.length cm), (9, I6 ↑i), (10, I6 ↑nI), (12, I6 (↑k + 1))], by omega, hE6⟩, by omega⟩
     ·
      replace hb79 := of_decide_eq_false hb79
      refine wpIn_exit ?_
      refine then_exit ?_
      refine then_exit ?_
      refine inBlock_hit ?_
      refine inBlock_normal ?_
      refine hK67 _ _ ?_
      refine rgn 3 ?_
      refine sg wide_wide [.p, .as (I6 (↑i + 1)), .p] [Value.int .i64 (IntKind.i64.wrap (↑i + 1)) = I6 (↑i + 1)] [(0, .slice vb L.length vc), (5, .slice bm L.length cm), (9, I6 (↑i + 1)), (10, I6 ↑nI)] 3 0 hS (.cons (as_i64 (by omega)) .nil) fun a hS => ?_
      refine seg_end ?_
      exact ⟨i + 1, ⟨hS.kp [(0, .slice vb L.length vc), (5, .slice bm L.length cm), (9, I6 (↑i + 1))], by omega, hE6⟩, by omega⟩
   ·
    replace hb66 := of_decide_eq_false hb66
    refine wpIn_exit ?_
    refine then_exit ?_
    refine then_exit ?_
    refine inBlock_hit ?_
    refine hK62 _ _ ?_
    refine sq fun K82 hK82 => ?_
    refine rgn 1 ?_
    refine sg wide_wide [.p] [] [(0, .slice vb L.length vc), (5, .slice bm L.length cm), (9, I6 ↑i), (2, .bool true)] 1 0 hS .nil fun a hS => ?_
    refine seg_end ?_
    refine hK82 _ _ ?_
    refine wpIn_ret ?_
    refine ret1 hS Try.results49 rfl ?_
    exact ⟨rfl, hEz.trans0 hE5⟩

end Go.Proofs.Ytpglmeeledmkoaa
