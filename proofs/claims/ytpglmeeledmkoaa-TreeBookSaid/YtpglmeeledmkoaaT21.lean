import Derived.Test.YtpglmeeledmkoaaProg
import Derived.Test.YtpglmeeledmkoaaVc
import Derived.Test.YtpglmeeledmkoaaT20
namespace Go.Proofs.Ytpglmeeledmkoaa
open Go.Vc

def ints (l : List Int) : List Value := l.map fun x => I6 x
def spc : List (Sp × Value) → List Value
 | [] => []
 | q :: l => q.1.r.ptr :: I6 q.1.at_ :: q.2 :: spc l
theorem spc_append : ∀ (l l' : List (Sp × Value)), spc (l ++ l') = spc l ++ spc l'
 | [], _ => rfl
 | q :: l, l' => by simp [spc, spc_append l l']
theorem spc_at : ∀ (l : List (Sp × Value)) (j i : Nat) (q : Sp × Value), l[j]? = some q → i < 3 → (spc l)[0 + j * 3 + i]? = [q.1.r.ptr, I6 q.1.at_, q.2][i]?
 | [], j, i, q, hj, _ => by simp at hj
 | s :: l, 0, i, q, hj, hi => by
  simp only [List.getElem?_cons_zero, Option.some.injEq] at hj
  subst hj
  match i, hi with
  | 0, _ => rfl
  | 1, _ => rfl
  | 2, _ => rfl
 | s :: l, j + 1, i, q, hj, hi => by
  simp only [List.getElem?_cons_succ] at hj
  have ih := spc_at l j i q hj hi
  rw [← ih, show 0 + (j + 1) * 3 + i = (0 + j * 3 + i) + 1 + 1 + 1 by omega]
  simp only [spc, List.getElem?_cons_succ]

theorem rwalks_len {w : World} {s0 s1 : Nat} {L : List Rf} (h : FOk w s0 s1 L) : ∀ (l : List Rf), (∀ q ∈ l, q ∈ L) → ∀ (p : Int) (path : List Int) (j : Nat), (((rwalks l p path j).length + 1 : Nat) : Int) = 1 + sumT (l.map Rf.t)
 | [], _, p, path, j => by simp [rwalks, sumT]
 | q :: l, hl, p, path, j => by
  have h1 := rwalks_len h l (fun q hq => hl q (by simp [hq])) (p + q.t.wd) path (j + 1)
  have h2 := rwalk_len h (hl q (by simp)) p (path ++ [(j : Int)])
  simp only [rwalks, List.length_append, List.map_cons, sumT]
  omega

set_option maxHeartbeats 2000000 in
theorem RWalk_l {s0 s1 : Nat} {L : List Rf} : ∀ (r : Rf), r ∈ L → ∀ (p : Int) (path : List Int) (l : List (Sp × Value)) (bs : Option Addr) (cap : Nat) (pv : Value) (w : World), FOk w s0 s1 L → OwnV w 43 3 (.slice bs l.length cap) l.length (spc l) → OwnV w 3 1 pv path.length (ints path) →
  (l.length + r.t.tt ≤ 1000000000 ∧ path.length + r.t.tt ≤ 1000000000 ∧ 0 ≤ p ∧ p + r.t.wd ≤ 4611686018427387904) →
  Calls Try.prog 51 #[.slice bs l.length cap, (Pv r.rb), I6 p, pv] w fun e w' => ∃ (l' : List (Sp × Value)) (g cap' : Nat), e = .returned (.slice (some ⟨g, 0, none⟩) (l.length + l'.length) cap') ∧ l'.map (·.1) = rwalk r p path ∧ OwnR w' 43 3 g cap' (l.length + l'.length) (spc (l ++ l')) ∧ Ext (oa bs) w w' ∧ (g ∈ oa bs ∨ w.heap.size ≤ g) ∧ (∀ q ∈ l', OwnV w' 3 1 q.2 q.1.path.length (ints q.1.path) ∧ ∀ b ∈ ob q.2, b ∈ ob pv ∨ w.heap.size ≤ b) := by
 refine Rf.ind fun r ih hr p path l bs cap pv w hF hl hpv hbd => ?_
 obtain ⟨pb, pc, rfl⟩ := hpv.form
 have hone := hF.one r hr
 have hrow := hone.row
 have hB : Blk w r.rb 40 #[I6 r.k, I6 ↑r.i, I6 r.t.kd, I6 r.t.nn, I6 r.t.lk, I6 r.t.ls, I6 r.t.ll, I6 r.t.lr, r.kv, I6 r.t.tt] := hone.blk
 have htt := hF.tt hr
 have hkl := hF.kids_le hr
 have hst := sums_take hF hr
 refine calls_body 50 [(0, .slice bs l.length cap), (1, (Pv r.rb)), (2, I6 p), (3, (Value.slice pb path.length pc))] Try.func51 rfl (by kernel_rfl) (by kernel_rfl) (by kernel_rfl) fun a hS => ?_
 have hE0 : Ext (oa bs) w w := Ext.refl _ _
 refine sq fun K1 hK1 => ?_
 refine rgn 1 ?_
 refine sg wide_wide [.p] [] [(0, .slice bs l.length cap), (1, (Pv r.rb)), (2, I6 p), (3, (Value.slice pb path.length pc)), (8, .slice none 0 0)] 1 0 hS .nil fun a hS => ?_
 refine seg_end ?_
 refine hK1 _ _ ?_
 refine sq fun K2 hK2 => ?_
 refine rgn 8 ?_
 refine sg wide_wide [.p, .p, .p, .p, .p] [] [(0, .slice bs l.length cap), (1, (Pv r.rb)), (2, I6 p), (3, (Value.slice pb path.length pc)), (8, .slice none 0 0), (10, .slice bs l.length cap), (14, .agg #[(Pv r.rb), I6 p, (Value.slice pb path.length pc)])] 5 3 hS .nil fun a hS => ?_
 refine eff_new wide_wide (r := 2) (cs := #[(Pv r.rb), I6 p, (Value.slice pb path.length pc)]) (T := 43) (v := Value.slice (some ⟨w.heap.size, 0, none⟩) 1 1) (d := (some 15)) hS (by kernel_rfl) fun a w3 hw4 hS => ?_
 have hB8 := OwnV.at' hw4 (hl.alloc _)
 have hB9 : Blk w3 (w.heap.size) 43 #[(Pv r.rb), I6 p, (Value.slice pb path.length pc)] := by rw [hw4]; exact Blk.new _ _ _
 have hs10 : w.heap.size ≤ w.heap.size := hE0.size
 have hE11 : Ext (oa bs) w w3 := by rw [hw4]; exact hE0.alloc _
 refine eff_append2 wide_wide (r := 1) (d := (some 16)) (t := 28) (ty := 28) (e := 43) (size := 3) (bytes := 40) (len := l.length) (b := w.heap.size) (off := 0) (k := 1) (c := 1) (z := #[.pointer none, I6 0, .slice none 0 0]) (v := Value.slice bs l.length cap) (xs := (spc l)) [(Pv r.rb), I6 p, (Value.slice pb path.length pc)] hS (by kernel_rfl) (by kernel_rfl) (by kernel_rfl) (by kernel_rfl) (by kernel_rfl) hB8 (by simp) (fun j u hu => by rw [Nat.zero_add]; exact hB9.cell j (by simpa using hu)) rfl (by omega) (by omega) (by omega) fun ga12 ca12 a wa12 hOa12 hEa12 hFa12 hS => ?_
 have hE15 : Ext (oa bs) w wa12 := hE11.trans hEa12 (fun b hb => .inl (by simpa [ob_oa] using hb))
 refine sg wide_wide [.p] [] [(0, .slice (some ⟨ga12, 0, none⟩) (l.length + 1) ca12), (1, (Pv r.rb)), (2, I6 p), (3, (Value.slice pb path.length pc)), (8, .slice none 0 0)] 8 0 hS .nil fun a hS => ?_
 refine seg_end ?_
 refine hK2 _ _ ?_
 refine sq fun K16 hK16 => ?_
 refine sq fun K17 hK17 => ?_
 refine rgn 1 ?_
 refine sg wide_wide [.p] [] [(0, .slice (some ⟨ga12, 0, none⟩) (l.length + 1) ca12), (1, (Pv r.rb)), (2, I6 p), (3, (Value.slice pb path.length pc)), (8, .slice none 0 0), (9, I6 0)] 1 0 hS .nil fun a hS => ?_
 refine seg_end ?_
 refine hK17 _ _ ?_
 refine wpIn_block ?_
 have hE1 := hE15
 have hga : ga12 ∈ oa bs ∨ w.heap.size ≤ ga12 := by
  rcases hFa12 ga12 (by simp) with h | h
  ·exact .inl (by simpa [ob_oa] using h)
  ·exact .inr (Nat.le_trans (hE11).size h)
 have hbt : ∀ {T : TypeId} {cs : Array Value} {x : Nat}, Blk w x T cs → T ≠ 43 → x ∉ oa bs := fun h1 h2 hm => hl.notin h1 h2.symm (by simpa [ob_oa] using hm)
 have hbf : ∀ {x : Nat}, x ∈ oa bs → ¬FFoot L x := fun hm hf => by
  obtain ⟨cs, h1 | h1 | h1 | h1⟩ := hF.foot hf <;> exact hbt h1 (by decide) hm
 have hpn : ∀ b ∈ ob (.slice pb path.length pc), b ∉ oa bs := fun b hb hm => hpv.disj hl (by decide) b hb (by simpa [ob_oa] using hm)
 have hO0 : OwnR wa12 43 3 ga12 ca12 (l.length + 1) (spc (l ++ [((⟨r, p, path⟩ : Sp), Value.slice pb path.length pc)])) := by rw [spc_append]; exact hOa12
 have hS0 := hS.keepTo [0, 1, 2, 3, 9] (m' := [(0, .slice (some ⟨ga12, 0, none⟩) (l.length + 1) ca12), (1, (Pv r.rb)), (2, I6 p), (3, (Value.slice pb path.length pc)), (9, I6 0)]) (by kernel_rfl)
 clear hS
 have hS : St 50 [] [(0, .slice (some ⟨ga12, 0, none⟩) (l.length + [((⟨r, p, path⟩ : Sp), Value.slice pb path.length pc)].length) ca12), (1, (Pv r.rb)), (2, I6 (p + sumW ((r.kids.take 0).map Rf.t))), (3, (Value.slice pb path.length pc)), (9, I6 ((0 : Nat) : Int))] a := by simpa [sumW] using hS0
 refine loop_ghost (fun ((j, l1, g, c1) : Nat × List (Sp × Value) × Nat × Nat) a' w' => St 50 [] [(0, .slice (some ⟨g, 0, none⟩) (l.length + l1.length) c1), (1, (Pv r.rb)), (2, I6 (p + sumW ((r.kids.take j).map Rf.t))), (3, (Value.slice pb path.length pc)), (9, I6 ↑j)] a' ∧ j ≤ r.kids.length ∧ l1.map (·.1) = (⟨r, p, path⟩ : Sp) :: rwalks (r.kids.take j) p path 0 ∧ OwnR w' 43 3 g c1 (l.length + l1.length) (spc (l ++ l1)) ∧ Ext (oa bs) w w' ∧ (g ∈ oa bs ∨ w.heap.size ≤ g) ∧ (∀ q ∈ l1, OwnV w' 3 1 q.2 q.1.path.length (ints q.1.path) ∧ ∀ b ∈ ob q.2, b ∈ ob (.slice pb path.length pc) ∨ w.heap.size ≤ b)) (fun ((j, l1, g, c1) : Nat × List (Sp × Value) × Nat × Nat) => r.kids.length - j) (0, [((⟨r, p, path⟩ : Sp), Value.slice pb path.length pc)], ga12, ca12) ⟨hS.keepTo [0, 1, 2, 3, 9] (by kernel_rfl), Nat.zero_le _, by simp [rwalks], hO0, hE1, hga, fun q hq => (by obtain rfl := (by simpa using hq : q = ((⟨r, p, path⟩ : Sp), Value.slice pb path.length pc)); exact ⟨hpv.ext hE1 hpn, fun b hb => .inl hb⟩)⟩ ?_
 rintro ⟨j, l1, g, c1⟩ a w1 ⟨hS, hjl, hl1, hO, hEx, hgn, hpaths⟩
 have hB1 := hB.ext hEx (hbt hB (by decide))
 have hF1 := hF.ext hEx (fun x hx => hbf hx)
 have hpv1 := hpv.ext hEx hpn
 have hrow1 := (hF1.one r hr).row
 have hll := rwalk_len hF hr p path
 refine sq fun K18 hK18 => ?_
 refine sq fun K19 hK19 => ?_
 refine rgn 7 ?_
 refine sg wide_wide [.p, .p, .p, .p, .ld (r.kv), .run (I6 ↑r.kids.length), .p] [_, Ru Try.prog (vS (Builtin.len_ #[33] 3 #[r.kv])) (I6 ↑r.kids.length) w1] [(0, .slice (some ⟨g, 0, none⟩) (l.length + l1.length) c1), (1, (Pv r.rb)), (2, I6 (p + sumW ((r.kids.take j).map Rf.t))), (3, (Value.slice pb path.length pc)), (9, I6 ↑j), (23, .bool (decide ((↑j : Int) < ↑r.kids.length)))] 7 0 hS (.cons (hB1.cell 8 rfl) (.cons (run_len_own hrow (by kernel_rfl)) .nil)) fun a hS => ?_
 refine seg_end ?_
 refine hK19 _ _ ?_
 refine cond_b hS rfl (fun hb20 => ?_) (fun hb20 => ?_)
 ·
  replace hb20 := of_decide_eq_true hb20
  have hj : j < r.kids.length := by omega
  obtain ⟨q, hq⟩ : ∃ q, r.kids[j]? = some q := ⟨_, List.getElem?_eq_getElem hj⟩
  have hqm : q ∈ r.kids := List.mem_of_getElem? hq
  have htake := rf_take_succ hq
  have hs1 := hst j
  have hs2 := hst (j + 1)
  have hqt := hF.tt (hF.mem hr hqm)
  have hsn : sumW ((r.kids.take (j + 1)).map Rf.t) = sumW ((r.kids.take j).map Rf.t) + q.t.wd := by rw [htake, List.map_append]; exact sumW_snoc _ _
  have hsn3 : sumT ((r.kids.take (j + 1)).map Rf.t) = sumT ((r.kids.take j).map Rf.t) + q.t.tt := by rw [htake, List.map_append]; exact sumT_snoc _ _
  have hlen1 : (l1.length : Int) = 1 + sumT ((r.kids.take j).map Rf.t) := by
   have h1 := congrArg List.length hl1
   rw [List.length_map] at h1
   rw [h1]
   exact rwalks_len hF (r.kids.take j) (fun q hq => hF.mem hr (List.mem_of_mem_take hq)) p path 0
  have hcell : w1.cell? ⟨bof r.kv, 0 + j * 1, none⟩ = some q.ptr := by
   rw [show 0 + j * 1 = j by omega]
   exact hrow1.cellAt j (by simp [hq])
  refine wpIn_skip ?_
  refine hK18 _ _ ?_
  refine sq fun K21 hK21 => ?_
  refine wpIn_block ?_
  refine sq fun K22 hK22 => ?_
  refine region_gh2 (G := Nat × Nat × World × (List (Sp × Value)) × Nat × Nat × World) wide_wide [.q .p, .q .p, .q .p, .q .p, .q (.ld (r.kv)), .q .p, .q (.run ((Po (bof r.kv) (0 + j * 1)))), .q (.ld ((Pv q.rb))), .q .p, .q .p, .q .p, .e, .e, .q .p] [0, 0, 0, 0, 0, 0, 0, 0, 0, 0, 0, 0, 1, 2] [1, 1, 1, 1, 1, 1, 1, 1, 1, 0, 0, 0, 1, 2] [0, 0, 2, 6, 14, 0, 62, 126, 0, 0, 0, 1536, 4095, 8191] [11, 12] [(11, 0), (12, 1)] 2 (fun ⟨g2, c2, wt1, l2, g3, c3, wt2⟩ => ([(1, (Pv r.rb)), (2, I6 (p + sumW ((r.kids.take j).map Rf.t))), (3, (Value.slice pb path.length pc)), (9, I6 ↑j), (0, .slice (some ⟨g3, 0, none⟩) ((l.length + l1.length) + l2.length) c3), (26, .slice (some ⟨g, 0, none⟩) (l.length + l1.length) c1), (27, (Pv r.rb)), (28, (Pv r.rb)), (29, (Po r.rb 8)), (30, r.kv), (31, I6 ↑j), (32, (Po (bof r.kv) (0 + j * 1))), (33, (Pv q.rb)), (34, I6 (p + sumW ((r.kids.take j).map Rf.t))), (35, (Value.slice pb path.length pc)), (36, I6 ↑j), (37, .slice (some ⟨g2, 0, none⟩) (path.length + 1) c2), (38, .slice (some ⟨g3, 0, none⟩) ((l.length + l1.length) + l2.length) c3)] : Fm)) (fun ⟨g2, c2, wt1, l2, g3, c3, wt2⟩ => [w1.drew, wt1, wt2]) (w1.drew) (fun e ⟨g2, c2, wt1, l2, g3, c3, wt2⟩ => hAt [True, (OwnR wt1 3 1 g2 c2 (path.length + 1) (ints (path ++ [(j : Int)]))) ∧ (Ext [] w1.drew wt1) ∧ (w1.heap.size ≤ g2) ∧ True, (OwnR wt1 3 1 g2 c2 (path.length + 1) (ints (path ++ [(j : Int)]))) ∧ (Ext [] w1.drew wt1) ∧ (w1.heap.size ≤ g2) ∧ (l2.map (·.1) = rwalk q (p + sumW ((r.kids.take j).map Rf.t)) (path ++ [(j : Int)])) ∧ (OwnR wt2 43 3 g3 c3 ((l ++ l1).length + l2.length) (spc ((l ++ l1) ++ l2))) ∧ (Ext [g] wt1 wt2) ∧ (g3 = g ∨ wt1.heap.size ≤ g3) ∧ (∀ q ∈ l2, OwnV wt2 3 1 q.2 q.1.path.length (ints q.1.path) ∧ ∀ b ∈ ob q.2, b = g2 ∨ wt1.heap.size ≤ b) ∧ True] e) (fun ⟨g2, c2, wt1, l2, g3, c3, wt2⟩ w' => [(4, [w'.cell? ⟨r.rb, 8, none⟩ = some (r.kv)]), (6, [Ru Try.prog (vS (Instr.indexAt 33 (r.kv) (I6 ↑j))) ((Po (bof r.kv) (0 + j * 1))) w']), (7, [w'.cell? ⟨bof r.kv, 0 + j * 1, none⟩ = some ((Pv q.rb))])]) (0, 0, w1, ([]), 0, 0, w1) [1, 2, 3, 9] [0] hS (by kernel_rfl) (by kernel_rfl) (by kernel_rfl) (by kernel_rfl) (fun ⟨g2, c2, wt1, l2, g3, c3, wt2⟩ _ => by kernel_rfl) (by kernel_rfl) (by kernel_rfl) (by kernel_rfl) trivial ?_ (by kernel_rfl) ?_ ?_
  ·rintro e ⟨g2, c2, wt1, l2, g3, c3, wt2⟩ w' hw hH
   refine (.cons ?_ (.cons ?_ (.cons ?_ .nil)))
   ·intro h1 h2
    replace h1 : 0 ≤ e := h1
    replace h2 : e ≤ 1 := h2
    have he : e = 0 ∨ e = 1 := by omega
    rcases he with rfl | rfl
    ·have hwe : w1.drew = w' := (hw.trans (by kernel_rfl)).symm
     subst hwe
     clear hH
     exact (.cons ((hB1.drew : Blk w1.drew r.rb 40 (#[I6 r.k, I6 ↑r.i, I6 r.t.kd, I6 r.t.nn, I6 r.t.lk, I6 r.t.ls, I6 r.t.ll, I6 r.t.lr, r.kv, I6 r.t.tt])).cell 8 rfl) .nil)
    ·have hwe : wt1 = w' := (hw.trans (by kernel_rfl)).symm
     subst hwe
     obtain ⟨hO2, hE2, hg2, _⟩ := hH
     exact (.cons (((hB1.drew).ext hE2 (by simp) : Blk wt1 r.rb 40 (#[I6 r.k, I6 ↑r.i, I6 r.t.kd, I6 r.t.nn, I6 r.t.lk, I6 r.t.ls, I6 r.t.ll, I6 r.t.lr, r.kv, I6 r.t.tt])).cell 8 rfl) .nil)
   ·intro h1 h2
    replace h1 : 0 ≤ e := h1
    replace h2 : e ≤ 1 := h2
    have he : e = 0 ∨ e = 1 := by omega
    rcases he with rfl | rfl
    ·have hwe : w1.drew = w' := (hw.trans (by kernel_rfl)).symm
     subst hwe
     clear hH
     exact (.cons (ix_own (j := j) hrow (by kernel_rfl) (by kernel_rfl) rfl hj) .nil)
    ·have hwe : wt1 = w' := (hw.trans (by kernel_rfl)).symm
     subst hwe
     obtain ⟨hO2, hE2, hg2, _⟩ := hH
     exact (.cons (ix_own (j := j) hrow (by kernel_rfl) (by kernel_rfl) rfl hj) .nil)
   ·intro h1 h2
    replace h1 : 0 ≤ e := h1
    replace h2 : e ≤ 1 := h2
    have he : e = 0 ∨ e = 1 := by omega
    rcases he with rfl | rfl
    ·have hwe : w1.drew = w' := (hw.trans (by kernel_rfl)).symm
     subst hwe
     clear hH
     exact (.cons (hcell) .nil)
    ·have hwe : wt1 = w' := (hw.trans (by kernel_rfl)).symm
     subst hwe
     obtain ⟨hO2, hE2, hg2, _⟩ := hH
     exact (.cons (cell_ext (w := w1.drew) hcell hE2 (by simp)) .nil)
  ·refine (.cons ?eq23_11 (.cons ?eq23_12 .nil))
   ·rintro ⟨g2, c2, wt1, l2, g3, c3, wt2⟩ hH
    clear hH
    refine eff_gh (w1.drew) (by kernel_rfl) ?_
    refine upon_call (f := 76) (vs := [(Value.slice pb path.length pc), I6 ↑j]) (cap := #[]) (d := (some 37)) (by kernel_rfl) Try.call76 #[(Value.slice pb path.length pc), I6 ↑j] (by kernel_rfl) (With_any (xs := path) hpv1.drew (by omega)) ?_
    rintro _ wt1 ⟨g2, c2, rfl, hO2, hE2, hg2⟩
    exact ⟨_, rfl, ⟨(g2, c2, wt1, l2, g3, c3, wt2), by kernel_rfl, by kernel_rfl, by kernel_rfl, ⟨hO2, hE2, hg2, trivial⟩⟩⟩
   ·rintro ⟨g2, c2, wt1, l2, g3, c3, wt2⟩ hH
    obtain ⟨hO2, hE2, hg2, _⟩ := hH
    refine eff_gh (wt1) (by kernel_rfl) ?_
    refine upon_call (f := 51) (vs := [.slice (some ⟨g, 0, none⟩) (l.length + l1.length) c1, (Pv q.rb), I6 (p + sumW ((r.kids.take j).map Rf.t)), .slice (some ⟨g2, 0, none⟩) (path.length + 1) c2]) (cap := #[]) (d := (some 38)) (by kernel_rfl) Try.call51 #[.slice (some ⟨g, 0, none⟩) (l.length + l1.length) c1, (Pv q.rb), I6 (p + sumW ((r.kids.take j).map Rf.t)), .slice (some ⟨g2, 0, none⟩) (path.length + 1) c2] (by kernel_rfl) ((by have hlw := ih q hqm (hF.mem hr hqm) (p + sumW ((r.kids.take j).map Rf.t)) (path ++ [(j : Int)]) (l ++ l1) (some ⟨g, 0, none⟩) c1 (.slice (some ⟨g2, 0, none⟩) (path.length + 1) c2) wt1 ((hF1.ext0 (Ext.refl [] w1).drew).ext0 hE2) (by rw [List.length_append]; exact ((hO.drew).ext hE2 (by simp)).v) (by rw [List.length_append]; exact hO2.v) (by simp only [List.length_append, List.length_cons, List.length_nil]; omega); rw [List.length_append] at hlw; exact hlw)) ?_
    rintro _ wt2 ⟨l2, g3, c3, rfl, hl2, hO3, hE3, hg3, hp3⟩
    exact ⟨_, rfl, ⟨(g2, c2, wt1, l2, g3, c3, wt2), by kernel_rfl, by kernel_rfl, by kernel_rfl, ⟨hO2, hE2, hg2, hl2, by rw [List.length_append]; exact hO3, hE3, by simpa [oa] using hg3, fun q hq => ⟨(hp3 q hq).1, fun b hb => by simpa [ob] using (hp3 q hq).2 b hb⟩, trivial⟩⟩⟩
  rintro ⟨g2, c2, wt1, l2, g3, c3, wt2⟩ a w24 hS hw25 hH
  obtain ⟨hO2, hE2, hg2, hl2, hO3, hE3, hg3, hp3, _⟩ := hH
  replace hw25 : w24 = wt2 := hw25.trans (by kernel_rfl)
  have hB26 := Blk.at' hw25 (((hB1.drew).ext hE2 (by simp) : Blk wt1 r.rb 40 (#[I6 r.k, I6 ↑r.i, I6 r.t.kd, I6 r.t.nn, I6 r.t.lk, I6 r.t.ls, I6 r.t.ll, I6 r.t.lr, r.kv, I6 r.t.tt])).ext hE3 (by simpa [oa] using (OwnR.ne_type ((hO.drew).ext hE2 (by simp)) ((hB1.drew).ext hE2 (by simp) : Blk wt1 r.rb 40 (#[I6 r.k, I6 ↑r.i, I6 r.t.kd, I6 r.t.nn, I6 r.t.lk, I6 r.t.ls, I6 r.t.ll, I6 r.t.lr, r.kv, I6 r.t.tt])) (by decide)).symm))
  have hB27 : OwnR w24 43 3 g3 c3 ((l ++ l1).length + l2.length) (spc ((l ++ l1) ++ l2)) := by rw [hw25]; exact hO3
  have hE28 : Ext (oa bs) w w24 := by rw [hw25]; exact ((hEx.drew).trans0 hE2).trans hE3 (by intro b hb; obtain rfl := (by simpa using hb : b = g); exact hgn)
  replace hS := hS.kp [(1, (Pv r.rb)), (2, I6 (p + sumW ((r.kids.take j).map Rf.t))), (3, (Value.slice pb path.length pc)), (9, I6 ↑j), (0, .slice (some ⟨g3, 0, none⟩) ((l.length + l1.length) + l2.length) c3)]
  refine hK22 _ _ ?_
  refine rgn 11 ?_
  refine sg wide_wide [.p, .p, .p, .p, .ld (r.kv), .p, .run ((Po (bof r.kv) (0 + j * 1))), .ld ((Pv q.rb))] [_, Ru Try.prog (vS (Instr.indexAt 33 (r.kv) (I6 ↑j))) ((Po (bof r.kv) (0 + j * 1))) w24, w24.cell? ⟨bof r.kv, 0 + j * 1, none⟩ = some ((Pv q.rb))] [(1, (Pv r.rb)), (2, I6 (p + sumW ((r.kids.take j).map Rf.t))), (3, (Value.slice pb path.length pc)), (9, I6 ↑j), (0, .slice (some ⟨g3, 0, none⟩) ((l.length + l1.length) + l2.length) c3), (39, I6 (p + sumW ((r.kids.take j).map Rf.t))), (46, (Pv q.rb))] 8 3 hS (.cons (hB26.cell 8 rfl) (.cons (ix_own (j := j) hrow (by kernel_rfl) (by kernel_rfl) rfl hj) (.cons ((hF.ext hE28 (fun x hx => hbf hx) |>.one r hr).row.cellAt _ (by simp [hq, Rf.ptr])) .nil))) fun a hS => ?_
  refine eff_call wide_wide (r := 2) (f := 65) (vs := [(Pv q.rb)]) (cap := #[]) (d := (some 47)) hS (by kernel_rfl) Try.call65 #[(Pv q.rb)] (by kernel_rfl) (RWidth q (hF.mem hr hqm) w24 (hF.ext hE28 (fun x hx => hbf hx))) ?_
  rintro _ w8 ⟨rfl, hE78⟩
  refine ⟨_, rfl, fun a hS => ?_⟩
  have hE29 := hE28.trans0 hE78
  have hB31 := hB27.ext hE78 (by simp)
  refine sg wide_wide [.as (I6 ((p + sumW ((r.kids.take j).map Rf.t)) + q.t.wd)), .p] [Value.int .i64 (IntKind.i64.wrap ((p + sumW ((r.kids.take j).map Rf.t)) + q.t.wd)) = I6 ((p + sumW ((r.kids.take j).map Rf.t)) + q.t.wd)] [(1, (Pv r.rb)), (2, I6 ((p + sumW ((r.kids.take j).map Rf.t)) + q.t.wd)), (3, (Value.slice pb path.length pc)), (9, I6 ↑j), (0, .slice (some ⟨g3, 0, none⟩) ((l.length + l1.length) + l2.length) c3)] 11 0 hS (.cons (as_i64 (by omega)) .nil) fun a hS => ?_
  refine seg_end ?_
  refine inBlock_normal ?_
  refine hK21 _ _ ?_
  refine rgn 3 ?_
  refine sg wide_wide [.p, .as (I6 (↑j + 1)), .p] [Value.int .i64 (IntKind.i64.wrap (↑j + 1)) = I6 (↑j + 1)] [(1, (Pv r.rb)), (2, I6 ((p + sumW ((r.kids.take j).map Rf.t)) + q.t.wd)), (3, (Value.slice pb path.length pc)), (9, I6 (↑j + 1)), (0, .slice (some ⟨g3, 0, none⟩) ((l.length + l1.length) + l2.length) c3)] 3 0 hS (.cons (as_i64 (by omega)) .nil) fun a hS => ?_
  refine seg_end ?_
  have hw12 : w1.heap.size ≤ wt1.heap.size := hE2.size
  have hw23 : wt1.heap.size ≤ wt2.heap.size := hE3.size
  have hE1b : Ext [g] w1 w8 := (((Ext.refl [g] w1).drew.trans0 hE2).trans hE3 (by simp)).trans0 (by rw [← hw25]; exact hE78)
  refine ⟨(j + 1, l1 ++ l2, g3, c3), ⟨?_, by omega, ?_, ?_, hE29, ?_, ?_⟩, by simp; omega⟩
  ·rw [hsn, ← Int.add_assoc, List.length_append, ← Nat.add_assoc]; exact hS.keepTo [0, 1, 2, 3, 9] (by kernel_rfl)
  ·rw [List.map_append, hl1, hl2, htake, rwalks_append]
   have hjj : (r.kids.take j).length = j := List.length_take_of_le (Nat.le_of_lt hj)
   simp [rwalks, hjj]
  ·have h9 := hB31
   rw [List.append_assoc, List.length_append, Nat.add_assoc, ← List.length_append] at h9
   exact h9
  ·rcases hg3 with h | h
   ·rw [h]; exact hgn
   ·exact .inr (Nat.le_trans (Nat.le_trans hEx.size hw12) h)
  ·intro x hx
   rcases List.mem_append.1 hx with hx | hx
   ·obtain ⟨h1, h2⟩ := hpaths x hx
    exact ⟨h1.ext hE1b (fun b hb hm => h1.disj hO.v (by decide) b hb (by simpa [ob] using hm)), h2⟩
   ·obtain ⟨h1, h2⟩ := hp3 x hx
    refine ⟨h1.ext (by rw [← hw25]; exact hE78) (by simp), fun b hb => ?_⟩
    rcases h2 b hb with h | h
    ·right; rw [h]; exact Nat.le_trans hEx.size hg2
    ·right; exact Nat.le_trans (Nat.le_trans hEx.size hw12) h
 ·
  replace hb20 := of_decide_eq_false hb20
  obtain rfl : j = r.kids.length := by omega
  rw [List.take_length] at hl1
  refine wpIn_exit ?_
  refine then_exit ?_
  refine then_exit ?_
  refine inBlock_hit ?_
  refine hK16 _ _ ?_
  refine sq fun K32 hK32 => ?_
  refine rgn 2 ?_
  refine sg wide_wide [.p, .p] [] [(0, .slice (some ⟨g, 0, none⟩) (l.length + l1.length) c1), (1, (Pv r.rb)), (3, (Value.slice pb path.length pc)), (8, .slice (some ⟨g, 0, none⟩) (l.length + l1.length) c1)] 2 0 hS .nil fun a hS => ?_
  refine seg_end ?_
  refine hK32 _ _ ?_
  refine wpIn_ret ?_
  refine ret1 hS Try.results51 rfl ?_
  exact ⟨l1, g, c1, rfl, by rw [rwalk_eq]; exact hl1, hO, hEx, hgn, hpaths⟩

end Go.Proofs.Ytpglmeeledmkoaa
