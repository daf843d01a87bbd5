import Derived.Test.YtpglmeeledmkoaaProg
import Derived.Test.YtpglmeeledmkoaaVc
import Derived.Test.YtpglmeeledmkoaaFo
import Derived.Test.YtpglmeeledmkoaaT15
import Derived.Test.YtpglmeeledmkoaaT9a
namespace Go.Proofs.Ytpglmeeledmkoaa
open Go.Vc

theorem and_k {P : Program} {w : World} {T : TypeId} {a b : Operand} {x k : Int} (h : x % 2 = k) :
  (vS (do eqGuard .and T a b (I6 x) (I6 1); binOp .and T (I6 x) (I6 1))).run P w = .ok (.value (I6 k)) w := by rw [← h]; exact bin_and1

theorem MkR.ext {w w' : World} {sb : Nat} {x kd nn er : Int} {ks : List (Nat × Tr)} {pp : Option Addr} (h : MkR w sb x kd nn ks pp er w') : Ext [sb] w w' := by
 rcases h with ⟨_, _, _, h⟩ | ⟨_, _, _, _, h⟩ | ⟨_, _, _, _, _, h⟩ | ⟨_, _, _, _, _, _, _, _, _, _, _, h⟩
 ·exact h.of0
 ·exact h.of0
 ·exact h.of0
 ·exact h
theorem RMkR.ext {w w' : World} {k kd nn er : Int} {rs : List Rf} {rp : Option Addr} (h : RMkR w k kd nn rs rp er w') : Ext [] w w' := by
 rcases h with ⟨_, _, _, h⟩ | ⟨_, _, _, _, h⟩ | ⟨_, _, _, _, _, h⟩ | ⟨_, _, _, _, _, _, _, _, _, _, _, h⟩ <;> exact h

/-- both Makes answer alike -/
theorem mk_both {w w' w1 w2 : World} {s0 s1 : Nat} {x k kd nn er er2 : Int} {rs : List Rf} {pp rp : Option Addr} (hne : s0 ≠ s1) (hk : k = 0 ∨ k = 1) (hrs : ∀ r ∈ rs, r.k = 0 ∨ r.k = 1)
  (h : MkR w (sOf s0 s1 k) x kd nn (rs.map fun r => (sOf s0 s1 r.k, r.t)) pp er w') (h2 : RMkR w1 k kd nn rs rp er2 w2) :
  (pp = none ∧ rp = none ∧ er2 = er ∧ er ≠ 0 ∧ Ext [] w w') ∨
  ∃ nb vs rb kv, pp = some ⟨nb, 0, none⟩ ∧ rp = some ⟨rb, 0, none⟩ ∧ er = 0 ∧ er2 = 0 ∧ w.heap.size ≤ nb ∧ (∀ b ∈ ob vs, w.heap.size ≤ b) ∧ w1.heap.size ≤ rb ∧ (∀ b ∈ ob kv, w1.heap.size ≤ b) ∧
   (Tr.node nb (x + 1) kd nn 0 0 0 0 vs (sumW (rs.map Rf.t)) (sumL (rs.map Rf.t)) (1 + sumT (rs.map Rf.t)) ((kd == 3 || kd == 5) || anyF (rs.map Rf.t)) (rs.map Rf.t)).Ok w' (sOf s0 s1 k) ∧ Blk w' (sOf s0 s1 k) 102 #[I6 (x + 1)] ∧ Ext [sOf s0 s1 k] w w' ∧
   Blk w2 rb 40 #[I6 k, I6 0, I6 kd, I6 nn, I6 0, I6 0, I6 0, I6 0, kv, I6 (1 + sumT (rs.map Rf.t))] ∧ OwnV w2 29 1 kv rs.length (rs.map Rf.ptr) := by
 have hkt : kt (rs.map fun r => (sOf s0 s1 r.k, r.t)) = rs.map Rf.t := by simp [kt, Function.comp_def]
 have hs : ∀ r ∈ rs, (sOf s0 s1 r.k = sOf s0 s1 k ↔ r.k = k) := fun r hr => by
  have h1 := hrs r hr
  unfold sOf
  rcases hk with rfl | rfl <;> rcases h1 with h1 | h1 <;> rw [h1] <;> simp [hne, hne.symm]
 have same : (∀ q ∈ rs.map (fun r => (sOf s0 s1 r.k, r.t)), q.1 = sOf s0 s1 k) → ∀ r ∈ rs, r.k = k := fun h r hr => (hs r hr).1 (h _ (List.mem_map.2 ⟨r, hr, rfl⟩))
 have diff : (∃ q ∈ rs.map (fun r => (sOf s0 s1 r.k, r.t)), q.1 ≠ sOf s0 s1 k) → ∃ r ∈ rs, r.k ≠ k := fun ⟨q, hq, hn⟩ => by
  obtain ⟨r, hr, rfl⟩ := List.mem_map.1 hq
  exact ⟨r, hr, fun e => hn ((hs r hr).2 e)⟩
 unfold MkR at h
 rw [hkt] at h
 rcases h with ⟨a1, a2, a3, a4⟩ | ⟨a1, a2, a3, a4, a5⟩ | ⟨a1, a2, a3, a4, a5, a6⟩ | ⟨a1, a2, a3, nb, vs, a4, a5, a6, a7, a8, a9, a10⟩ <;>
 rcases h2 with ⟨b1, b2, b3, b4⟩ | ⟨b1, b2, b3, b4, b5⟩ | ⟨b1, b2, b3, b4, b5, b6⟩ | ⟨b1, b2, b3, rb, kv, b4, b5, b6, b7, b8, b9, b10⟩
 ·exact .inl ⟨a2, b2, by rw [a3, b3], by omega, a4⟩
 ·exact absurd a1 b1
 ·exact absurd a1 b1
 ·exact absurd a1 b1
 ·exact absurd b1 a1
 ·exact .inl ⟨a3, b3, by rw [a4, b4], by omega, a5⟩
 ·obtain ⟨r, hr, hn⟩ := diff a2; exact absurd (b2 r hr) hn
 ·obtain ⟨r, hr, hn⟩ := diff a2; exact absurd (b2 r hr) hn
 ·exact absurd b1 a1
 ·obtain ⟨r, hr, hn⟩ := b2; exact absurd (same a2 r hr) hn
 ·exact .inl ⟨a4, b4, by rw [a5, b5], by omega, a6⟩
 ·omega
 ·exact absurd b1 a1
 ·obtain ⟨r, hr, hn⟩ := b2; exact absurd (same a2 r hr) hn
 ·omega
 ·exact .inr ⟨nb, vs, rb, kv, a4, b4, a5, b5, a6, a7, b6, b7, a8, a9, a10, b8, b9⟩

set_option maxHeartbeats 1000000 in
theorem Step_leaf0 {isl : Bool} {m n : Nat} {w0 w : World} {fb s0 s1 pc qc bn bc : Nat} {c0 c1 sx lk ls ll lr kd nn : Int} {pb qb bb : Option Addr} {L : List Rf} {ks : Value} {zs : List Int} (hF : FI w0.heap.size m w ⟨fb, s0, s1, c0, c1, pb, pc, qb, qc, bb, bn, bc, L⟩) (hE : Ext [] w0 w) (_hks : RdV w0 1 ks n (ints zs)) (hm : m ≤ 4398046511000) (_hn : n ≤ 17592186044000) (hk : sx % 2 = 0) (hl : isl = true ∨ L.length = 0) :
  Calls Try.prog 34 #[(Pv fb), .agg #[I6 sx, .bool isl, I6 lk, I6 ls, I6 ll, I6 lr, I6 kd, I6 nn, ks]] w fun e w' => ∃ F', e = .returned (.bool true) ∧ FI w0.heap.size (m + 1) w' F' ∧ (F'.fb = fb ∧ F'.s0 = s0 ∧ F'.s1 = s1) ∧ (F'.L = L ∨ ∃ r, F'.L = L ++ [r]) ∧ Ext [] w0 w' := by
 have hcb : 0 ≤ c0 ∧ 0 ≤ c1 ∧ c0 + c1 ≤ m ∧ L.length ≤ m := hF.cb
 have hnw := hF.nw
 have hnfb : w0.heap.size ≤ fb := hnw.1
 have hfb : Blk w fb 35 #[(Pv s0), (Pv s1), .slice pb L.length pc, .slice qb L.length qc, .slice bb bn bc] := hF.f
 have hsk : Blk w s0 102 #[I6 c0] := hF.h0
 have hnsk : w0.heap.size ≤ s0 := hnw.2.1
 have hEww : Ext [] w w := Ext.refl _ _
 refine calls_body 189 [(0, (Pv fb)), (1, .agg #[I6 sx, .bool isl, I6 lk, I6 ls, I6 ll, I6 lr, I6 kd, I6 nn, ks])] Try.func34 rfl (by kernel_rfl) (by kernel_rfl) (by kernel_rfl) fun a hS => ?_
 refine sq fun K1 hK1 => ?_
 refine rgn 2 ?_
 refine eff_box wide_wide (r := 1) (cs := #[I6 sx, .bool isl, I6 lk, I6 ls, I6 ll, I6 lr, I6 kd, I6 nn, ks]) (T := 68) (d := (some 3)) hS (by kernel_rfl) fun a w2 hw3 hS => ?_
 have hB6 := Blk.at' hw3 (hfb.alloc _)
 have hB7 := Blk.at' hw3 (hsk.alloc _)
 have hX8 : Ext [] w w2 := by rw [hw3]; exact (Ext.refl _ _).alloc _
 have hG9 : FI w0.heap.size m w2 ⟨fb, s0, s1, c0, c1, pb, pc, qb, qc, bb, bn, bc, L⟩ := hF.ext0 hX8
 have hG10 : Ext [] w w2 := hEww.trans0 hX8
 have hB11 : Blk w2 (w.heap.size) 68 #[I6 sx, .bool isl, I6 lk, I6 ls, I6 ll, I6 lr, I6 kd, I6 nn, ks] := by rw [hw3]; exact Blk.new _ _ _
 have hs12 : w0.heap.size ≤ w.heap.size := hE.size
 have hE13 : Ext [] w0 w2 := by rw [hw3]; exact hE.alloc _
 refine sg wide_wide [.p] [] [(0, (Pv fb)), (1, .agg #[I6 sx, .bool isl, I6 lk, I6 ls, I6 ll, I6 lr, I6 kd, I6 nn, ks]), (3, (Pv w.heap.size)), (4, .bool false)] 2 0 hS .nil fun a hS => ?_
 refine seg_end ?_
 refine hK1 _ _ ?_
 refine sq fun K14 hK14 => ?_
 refine rgn 4 ?_
 refine sg wide_wide [.p, .ld (I6 sx), .run (I6 0), .p] [_, Ru Try.prog (vS (do eqGuard .and 3 (.tmp 17) (.const (I6 1)) (I6 sx) (I6 1); binOp .and 3 (I6 sx) (I6 1))) (I6 0) w2] [(0, (Pv fb)), (1, .agg #[I6 sx, .bool isl, I6 lk, I6 ls, I6 ll, I6 lr, I6 kd, I6 nn, ks]), (3, (Pv w.heap.size)), (4, .bool false), (5, I6 0)] 4 0 hS (.cons (hB11.cell 0 rfl) (.cons (and_k hk) .nil)) fun a hS => ?_
 refine seg_end ?_
 refine hK14 _ _ ?_
 refine sq fun K15 hK15 => ?_
 refine sq fun K16 hK16 => ?_
 rcases (show isl = true ∨ (isl = false ∧ L.length = 0) by cases isl <;> simp_all) with hil | ⟨hil, hL0⟩ <;> subst hil
 ·
  refine rgn 10 ?_
  refine sg wide_wide [.p, .ld (.bool true), .p, .no, .no, .no, .no, .no, .no, .p] [_] [(0, (Pv fb)), (1, .agg #[I6 sx, .bool true, I6 lk, I6 ls, I6 ll, I6 lr, I6 kd, I6 nn, ks]), (3, (Pv w.heap.size)), (4, .bool false), (5, I6 0), (28, .bool true)] 10 0 hS (.cons (hB11.cell 1 rfl) .nil) fun a hS => ?_
  refine seg_end ?_
  refine hK16 _ _ ?_
  refine cond_t hS rfl ?_
  refine sq fun K17 hK17 => ?_
  have hF2 := hG9
  have hsz2 := hG10.size
  refine region_gh2 (G := Nat × World) wide_wide [.q .p, .q .p, .q .p, .q .p, .q .p, .q (.ld ((Pv s0))), .q .p, .q (.lds [I6 lk, I6 ls, I6 ll, I6 lr]), .e, .q .p] [0, 0, 0, 0, 0, 0, 0, 0, 0, 1] [0, 0, 0, 0, 0, 0, 0, 0, 0, 1] [0, 0, 1, 5, 15, 31, 0, 64, 255, 511] [8] [(8, 0)] 1 (fun ⟨tb, wl⟩ => ([(0, (Pv fb)), (1, .agg #[I6 sx, .bool true, I6 lk, I6 ls, I6 ll, I6 lr, I6 kd, I6 nn, ks]), (3, (Pv w.heap.size)), (4, .bool false), (5, I6 0), (28, .bool true), (29, (Pv fb)), (30, I6 0), (31, (Pv fb)), (32, (Pv fb)), (33, (Pv fb)), (34, (Pv s0)), (35, (Po w.heap.size 2)), (36, .agg #[I6 lk, I6 ls, I6 ll, I6 lr]), (37, (Pv tb)), (6, (Pv tb))] : Fm)) (fun ⟨tb, wl⟩ => [w2.drew, wl]) (w2.drew) (fun e ⟨tb, wl⟩ => hAt [True, ((w2.drew).heap.size ≤ tb) ∧ ((leafT tb (c0 + 1) lk ls ll lr).Ok wl s0) ∧ (Blk wl s0 102 #[I6 (c0 + 1)]) ∧ (Ext [s0] w2.drew wl) ∧ True] e) (fun ⟨tb, wl⟩ w' => [(5, [w'.cell? ⟨fb, 0, none⟩ = some ((Pv s0))]), (7, [w'.cell? ⟨w.heap.size, 2, none⟩ = some (I6 lk), w'.cell? ⟨w.heap.size, 3, none⟩ = some (I6 ls), w'.cell? ⟨w.heap.size, 4, none⟩ = some (I6 ll), w'.cell? ⟨w.heap.size, 5, none⟩ = some (I6 lr)])]) (0, w2.drew) [0, 1, 3, 4, 5, 28] [] hS (by kernel_rfl) (by kernel_rfl) (by kernel_rfl) (by kernel_rfl) (fun ⟨tb, wl⟩ _ => by kernel_rfl) (by kernel_rfl) (by kernel_rfl) (by kernel_rfl) trivial ?_ (by kernel_rfl) ?_ ?_
  ·rintro e ⟨tb, wl⟩ w' hw hH
   refine (.cons ?_ (.cons ?_ .nil))
   ·intro h1 h2
    obtain rfl : e = 0 := Nat.le_antisymm h2 h1
    have hwe : w2.drew = w' := (hw.trans (by kernel_rfl)).symm
    subst hwe
    clear hH
    exact (.cons ((hB6.drew : Blk w2.drew fb 35 (#[(Pv s0), (Pv s1), .slice pb L.length pc, .slice qb L.length qc, .slice bb bn bc])).cell 0 rfl) .nil)
   ·intro h1 h2
    obtain rfl : e = 0 := Nat.le_antisymm h2 h1
    have hwe : w2.drew = w' := (hw.trans (by kernel_rfl)).symm
    subst hwe
    clear hH
    exact (.cons ((hB11.drew : Blk w2.drew w.heap.size 68 (#[I6 sx, .bool true, I6 lk, I6 ls, I6 ll, I6 lr, I6 kd, I6 nn, ks])).cell 2 rfl) (.cons ((hB11.drew : Blk w2.drew w.heap.size 68 (#[I6 sx, .bool true, I6 lk, I6 ls, I6 ll, I6 lr, I6 kd, I6 nn, ks])).cell 3 rfl) (.cons ((hB11.drew : Blk w2.drew w.heap.size 68 (#[I6 sx, .bool true, I6 lk, I6 ls, I6 ll, I6 lr, I6 kd, I6 nn, ks])).cell 4 rfl) (.cons ((hB11.drew : Blk w2.drew w.heap.size 68 (#[I6 sx, .bool true, I6 lk, I6 ls, I6 ll, I6 lr, I6 kd, I6 nn, ks])).cell 5 rfl) .nil))))
  ·refine (.cons ?eq18_8 .nil)
   ·rintro ⟨tb, wl⟩ hH
    clear hH
    refine eff_gh (w2.drew) (by kernel_rfl) ?_
    refine upon_call (f := 18) (vs := [(Pv s0), .agg #[I6 lk, I6 ls, I6 ll, I6 lr]]) (cap := #[]) (d := (some 37)) (by kernel_rfl) Try.call18 #[(Pv s0), .agg #[I6 lk, I6 ls, I6 ll, I6 lr]] (by kernel_rfl) (Leaf_tr (hB7.drew : Blk w2.drew s0 102 (#[I6 c0])) (by omega)) ?_
    rintro _ wl ⟨tb, rfl, htb, hokl, hskl, hEl⟩
    exact ⟨_, rfl, ⟨(tb, wl), by kernel_rfl, by kernel_rfl, by kernel_rfl, ⟨htb, hokl, hskl, hEl, trivial⟩⟩⟩
  rintro ⟨tb, wl⟩ a w19 hS hw20 hH
  obtain ⟨htb, hokl, hskl, hEl, _⟩ := hH
  replace hw20 : w19 = wl := hw20.trans (by kernel_rfl)
  have hB21 := Blk.at' hw20 ((hB6.drew : Blk w2.drew fb 35 (#[(Pv s0), (Pv s1), .slice pb L.length pc, .slice qb L.length qc, .slice bb bn bc])).ext hEl (by simpa using (Blk.ne_type (hB6.drew : Blk w2.drew fb 35 (#[(Pv s0), (Pv s1), .slice pb L.length pc, .slice qb L.length qc, .slice bb bn bc])) (hB7.drew : Blk w2.drew s0 102 (#[I6 c0])) (by decide))))
  have hB22 := Blk.at' hw20 ((hB11.drew : Blk w2.drew w.heap.size 68 (#[I6 sx, .bool true, I6 lk, I6 ls, I6 ll, I6 lr, I6 kd, I6 nn, ks])).ext hEl (by simpa using (Blk.ne_type (hB11.drew : Blk w2.drew w.heap.size 68 (#[I6 sx, .bool true, I6 lk, I6 ls, I6 ll, I6 lr, I6 kd, I6 nn, ks])) (hB7.drew : Blk w2.drew s0 102 (#[I6 c0])) (by decide))))
  have hE23 : Ext [] w0 w19 := by rw [hw20]; exact (hE13.drew).trans hEl (by intro b hb; obtain rfl := (by simpa using hb : b = s0); exact .inr hnsk)
  replace hS := hS.kp [(0, (Pv fb)), (1, .agg #[I6 sx, .bool true, I6 lk, I6 ls, I6 ll, I6 lr, I6 kd, I6 nn, ks]), (3, (Pv w.heap.size)), (4, .bool false), (5, I6 0), (28, .bool true), (6, (Pv tb))]
  refine hK17 _ _ ?_
  refine sq fun K24 hK24 => ?_
  refine sq fun K25 hK25 => ?_
  subst hw20
  have hF3 : FI w0.heap.size (m + 1) w19 ⟨fb, s0, s1, c0 + 1, c1, pb, pc, qb, qc, bb, bn, bc, L⟩ := hF2.bump (k := 0) (w' := w19) hskl ((Ext.refl [s0] w2).drew.trans hEl (by simp))
  refine rgn 2 ?_
  refine sg wide_wide [.p, .p] [] [(0, (Pv fb)), (1, .agg #[I6 sx, .bool true, I6 lk, I6 ls, I6 ll, I6 lr, I6 kd, I6 nn, ks]), (3, (Pv w.heap.size)), (4, .bool false), (5, I6 0), (28, .bool true), (6, (Pv tb)), (39, .bool false)] 2 0 hS .nil fun a hS => ?_
  refine seg_end ?_
  refine hK25 _ _ ?_
  refine cond_f hS rfl ?_
  refine wpIn_skip ?_
  refine hK24 _ _ ?_
  refine sq fun K26 hK26 => ?_
  refine rgn 7 ?_
  refine sg wide_wide [.p, .p, .p, .p, .lds [I6 lk, I6 ls, I6 ll, I6 lr]] [_, _, _, _] [(0, (Pv fb)), (1, .agg #[I6 sx, .bool true, I6 lk, I6 ls, I6 ll, I6 lr, I6 kd, I6 nn, ks]), (3, (Pv w.heap.size)), (4, .bool false), (5, I6 0), (28, .bool true), (6, (Pv tb)), (39, .bool false), (40, (Pv fb)), (41, (Pv tb)), (42, I6 0), (44, .agg #[I6 lk, I6 ls, I6 ll, I6 lr])] 5 2 hS (.cons (hB22.cell 2 rfl) (.cons (hB22.cell 3 rfl) (.cons (hB22.cell 4 rfl) (.cons (hB22.cell 5 rfl) .nil)))) fun a hS => ?_
  have hEpre := hE23
  refine eff_call wide_wide (r := 1) (f := 59) (vs := [I6 0, .agg #[I6 lk, I6 ls, I6 ll, I6 lr]]) (cap := #[]) (d := (some 45)) hS (by kernel_rfl) Try.call59 #[I6 0, .agg #[I6 lk, I6 ls, I6 ll, I6 lr]] (by kernel_rfl) (Rleaf_any 0 lk ls ll lr w19) ?_
  rintro _ wr ⟨rb, rfl, hrbn, hrb, hEr⟩
  refine ⟨_, rfl, fun a hS => ?_⟩
  have hE27 := hE23.trans0 hEr
  have hB28 := hB21.ext hEr (by simp)
  have hG30 : FI w0.heap.size (m + 1) wr ⟨fb, s0, s1, c0 + 1, c1, pb, pc, qb, qc, bb, bn, bc, L⟩ := hF3.ext0 hEr
  have hG31 : (leafT tb (c0 + 1) lk ls ll lr).Ok wr s0 := hokl.ext hEr _ (by simp)
  have hnrb : w0.heap.size ≤ rb := Nat.le_trans hEpre.size hrbn
  refine eff_call wide_wide (r := 0) (f := 58) (vs := [(Pv fb), (Pv tb), (Pv rb)]) (cap := #[]) (d := (some 46)) hS (by kernel_rfl) Try.call58 #[(Pv fb), (Pv tb), (Pv rb)] (by kernel_rfl) (Add_node hB28 hG30.P hG30.R hrb (by omega)) ?_
  rintro _ w3 ⟨ga, ca, gb, cb, rfl, b1, b2, b3, b4, hE3, fa, fb_⟩
  refine ⟨_, rfl, fun a hS => ?_⟩
  have hRes := FI.add hG30 (k := 0) (rs := []) (W0 := w.heap.size) hE.size (by simp) hG31 ⟨0, hrb⟩ (.inl ⟨rfl, rfl, rfl⟩) (by simp) ⟨by omega, by simp [Fo.cOf], fun r hr hrk => by have := hF.num r hr; simp [hrk] at this; simp; omega⟩ (by show L.length + 1 ≤ m + 1; omega)
   ⟨Nat.le_trans hsz2 htb, fun b hb => (by have hb : b ∈ ([] : List Nat) := hb; cases hb), Nat.le_trans (Nat.le_trans hsz2 hEl.size) hrbn, fun b hb => (by have hb : b ∈ ([] : List Nat) := hb; cases hb)⟩
   ⟨fun x hx => (hF.P.oaBlk hx).elim fun _ h => h.lt, fun x hx => (hF.R.oaBlk hx).elim fun _ h => h.lt, fun x hx => hF.B.elim fun _ hB => (hB.oaBlk hx).elim fun _ h => h.lt, fun x hx => hF.ok.foot_lt hx⟩ b1 b2 b3 b4 hE3 fa fb_
  have hE4 : Ext [] w0 w3 := hE27.trans hE3 (by
   intro b hb
   simp only [List.mem_cons, List.mem_append] at hb
   rcases hb with rfl | rfl | hb | hb
   ·exact .inr hnfb
   ·exact .inr hnrb
   ·exact .inr (hnw.2.2.2.1 b hb)
   ·exact .inr (hnw.2.2.2.2.1 b hb))
  refine seg_end ?_
  refine hK26 _ _ ?_
  refine sq fun K32 hK32 => ?_
  refine rgn 1 ?_
  refine sg wide_wide [.p] [] [(0, (Pv fb)), (1, .agg #[I6 sx, .bool true, I6 lk, I6 ls, I6 ll, I6 lr, I6 kd, I6 nn, ks]), (3, (Pv w.heap.size)), (4, .bool true), (5, I6 0), (28, .bool true), (6, (Pv tb)), (39, .bool false)] 1 0 hS .nil fun a hS => ?_
  refine seg_end ?_
  refine hK32 _ _ ?_
  refine wpIn_ret ?_
  refine then_ret ?_
  refine ret1 hS Try.results34 rfl ?_
  exact ⟨_, rfl, hRes, ⟨rfl, rfl, rfl⟩, .inr ⟨_, rfl⟩, hE4⟩
 ·
  refine rgn 10 ?_
  refine sg wide_wide [.p, .ld (.bool false), .p, .p, .p, .p, .ld (.slice pb L.length pc), .p, .as (.bool true), .p] [_, _, Value.bool (((↑L.length : Int) == 0)) = .bool true] [(0, (Pv fb)), (1, .agg #[I6 sx, .bool false, I6 lk, I6 ls, I6 ll, I6 lr, I6 kd, I6 nn, ks]), (3, (Pv w.heap.size)), (4, .bool false), (5, I6 0), (28, .bool true)] 10 0 hS (.cons (hB11.cell 1 rfl) (.cons (hB6.cell 2 rfl) (.cons (as_eq_t (by omega)) .nil))) fun a hS => ?_
  refine seg_end ?_
  refine hK16 _ _ ?_
  refine cond_t hS rfl ?_
  refine sq fun K33 hK33 => ?_
  have hF2 := hG9
  have hsz2 := hG10.size
  refine region_gh2 (G := Nat × World) wide_wide [.q .p, .q .p, .q .p, .q .p, .q .p, .q (.ld ((Pv s0))), .q .p, .q (.lds [I6 lk, I6 ls, I6 ll, I6 lr]), .e, .q .p] [0, 0, 0, 0, 0, 0, 0, 0, 0, 1] [0, 0, 0, 0, 0, 0, 0, 0, 0, 1] [0, 0, 1, 5, 15, 31, 0, 64, 255, 511] [8] [(8, 0)] 1 (fun ⟨tb, wl⟩ => ([(0, (Pv fb)), (1, .agg #[I6 sx, .bool false, I6 lk, I6 ls, I6 ll, I6 lr, I6 kd, I6 nn, ks]), (3, (Pv w.heap.size)), (4, .bool false), (5, I6 0), (28, .bool true), (29, (Pv fb)), (30, I6 0), (31, (Pv fb)), (32, (Pv fb)), (33, (Pv fb)), (34, (Pv s0)), (35, (Po w.heap.size 2)), (36, .agg #[I6 lk, I6 ls, I6 ll, I6 lr]), (37, (Pv tb)), (6, (Pv tb))] : Fm)) (fun ⟨tb, wl⟩ => [w2.drew, wl]) (w2.drew) (fun e ⟨tb, wl⟩ => hAt [True, ((w2.drew).heap.size ≤ tb) ∧ ((leafT tb (c0 + 1) lk ls ll lr).Ok wl s0) ∧ (Blk wl s0 102 #[I6 (c0 + 1)]) ∧ (Ext [s0] w2.drew wl) ∧ True] e) (fun ⟨tb, wl⟩ w' => [(5, [w'.cell? ⟨fb, 0, none⟩ = some ((Pv s0))]), (7, [w'.cell? ⟨w.heap.size, 2, none⟩ = some (I6 lk), w'.cell? ⟨w.heap.size, 3, none⟩ = some (I6 ls), w'.cell? ⟨w.heap.size, 4, none⟩ = some (I6 ll), w'.cell? ⟨w.heap.size, 5, none⟩ = some (I6 lr)])]) (0, w2.drew) [0, 1, 3, 4, 5, 28] [] hS (by kernel_rfl) (by kernel_rfl) (by kernel_rfl) (by kernel_rfl) (fun ⟨tb, wl⟩ _ => by kernel_rfl) (by kernel_rfl) (by kernel_rfl) (by kernel_rfl) trivial ?_ (by kernel_rfl) ?_ ?_
  ·rintro e ⟨tb, wl⟩ w' hw hH
   refine (.cons ?_ (.cons ?_ .nil))
   ·intro h1 h2
    obtain rfl : e = 0 := Nat.le_antisymm h2 h1
    have hwe : w2.drew = w' := (hw.trans (by kernel_rfl)).symm
    subst hwe
    clear hH
    exact (.cons ((hB6.drew : Blk w2.drew fb 35 (#[(Pv s0), (Pv s1), .slice pb L.length pc, .slice qb L.length qc, .slice bb bn bc])).cell 0 rfl) .nil)
   ·intro h1 h2
    obtain rfl : e = 0 := Nat.le_antisymm h2 h1
    have hwe : w2.drew = w' := (hw.trans (by kernel_rfl)).symm
    subst hwe
    clear hH
    exact (.cons ((hB11.drew : Blk w2.drew w.heap.size 68 (#[I6 sx, .bool false, I6 lk, I6 ls, I6 ll, I6 lr, I6 kd, I6 nn, ks])).cell 2 rfl) (.cons ((hB11.drew : Blk w2.drew w.heap.size 68 (#[I6 sx, .bool false, I6 lk, I6 ls, I6 ll, I6 lr, I6 kd, I6 nn, ks])).cell 3 rfl) (.cons ((hB11.drew : Blk w2.drew w.heap.size 68 (#[I6 sx, .bool false, I6 lk, I6 ls, I6 ll, I6 lr, I6 kd, I6 nn, ks])).cell 4 rfl) (.cons ((hB11.drew : Blk w2.drew w.heap.size 68 (#[I6 sx, .bool false, I6 lk, I6 ls, I6 ll, I6 lr, I6 kd, I6 nn, ks])).cell 5 rfl) .nil))))
  ·refine (.cons ?eq34_8 .nil)
   ·rintro ⟨tb, wl⟩ hH
    clear hH
    refine eff_gh (w2.drew) (by kernel_rfl) ?_
    refine upon_call (f := 18) (vs := [(Pv s0), .agg #[I6 lk, I6 ls, I6 ll, I6 lr]]) (cap := #[]) (d := (some 37)) (by kernel_rfl) Try.call18 #[(Pv s0), .agg #[I6 lk, I6 ls, I6 ll, I6 lr]] (by kernel_rfl) (Leaf_tr (hB7.drew : Blk w2.drew s0 102 (#[I6 c0])) (by omega)) ?_
    rintro _ wl ⟨tb, rfl, htb, hokl, hskl, hEl⟩
    exact ⟨_, rfl, ⟨(tb, wl), by kernel_rfl, by kernel_rfl, by kernel_rfl, ⟨htb, hokl, hskl, hEl, trivial⟩⟩⟩
  rintro ⟨tb, wl⟩ a w35 hS hw36 hH
  obtain ⟨htb, hokl, hskl, hEl, _⟩ := hH
  replace hw36 : w35 = wl := hw36.trans (by kernel_rfl)
  have hB37 := Blk.at' hw36 ((hB6.drew : Blk w2.drew fb 35 (#[(Pv s0), (Pv s1), .slice pb L.length pc, .slice qb L.length qc, .slice bb bn bc])).ext hEl (by simpa using (Blk.ne_type (hB6.drew : Blk w2.drew fb 35 (#[(Pv s0), (Pv s1), .slice pb L.length pc, .slice qb L.length qc, .slice bb bn bc])) (hB7.drew : Blk w2.drew s0 102 (#[I6 c0])) (by decide))))
  have hB38 := Blk.at' hw36 ((hB11.drew : Blk w2.drew w.heap.size 68 (#[I6 sx, .bool false, I6 lk, I6 ls, I6 ll, I6 lr, I6 kd, I6 nn, ks])).ext hEl (by simpa using (Blk.ne_type (hB11.drew : Blk w2.drew w.heap.size 68 (#[I6 sx, .bool false, I6 lk, I6 ls, I6 ll, I6 lr, I6 kd, I6 nn, ks])) (hB7.drew : Blk w2.drew s0 102 (#[I6 c0])) (by decide))))
  have hE39 : Ext [] w0 w35 := by rw [hw36]; exact (hE13.drew).trans hEl (by intro b hb; obtain rfl := (by simpa using hb : b = s0); exact .inr hnsk)
  replace hS := hS.kp [(0, (Pv fb)), (1, .agg #[I6 sx, .bool false, I6 lk, I6 ls, I6 ll, I6 lr, I6 kd, I6 nn, ks]), (3, (Pv w.heap.size)), (4, .bool false), (5, I6 0), (28, .bool true), (6, (Pv tb))]
  refine hK33 _ _ ?_
  refine sq fun K40 hK40 => ?_
  refine sq fun K41 hK41 => ?_
  subst hw36
  have hF3 : FI w0.heap.size (m + 1) w35 ⟨fb, s0, s1, c0 + 1, c1, pb, pc, qb, qc, bb, bn, bc, L⟩ := hF2.bump (k := 0) (w' := w35) hskl ((Ext.refl [s0] w2).drew.trans hEl (by simp))
  refine rgn 2 ?_
  refine sg wide_wide [.p, .p] [] [(0, (Pv fb)), (1, .agg #[I6 sx, .bool false, I6 lk, I6 ls, I6 ll, I6 lr, I6 kd, I6 nn, ks]), (3, (Pv w.heap.size)), (4, .bool false), (5, I6 0), (28, .bool true), (6, (Pv tb)), (39, .bool false)] 2 0 hS .nil fun a hS => ?_
  refine seg_end ?_
  refine hK41 _ _ ?_
  refine cond_f hS rfl ?_
  refine wpIn_skip ?_
  refine hK40 _ _ ?_
  refine sq fun K42 hK42 => ?_
  refine rgn 7 ?_
  refine sg wide_wide [.p, .p, .p, .p, .lds [I6 lk, I6 ls, I6 ll, I6 lr]] [_, _, _, _] [(0, (Pv fb)), (1, .agg #[I6 sx, .bool false, I6 lk, I6 ls, I6 ll, I6 lr, I6 kd, I6 nn, ks]), (3, (Pv w.heap.size)), (4, .bool false), (5, I6 0), (28, .bool true), (6, (Pv tb)), (39, .bool false), (40, (Pv fb)), (41, (Pv tb)), (42, I6 0), (44, .agg #[I6 lk, I6 ls, I6 ll, I6 lr])] 5 2 hS (.cons (hB38.cell 2 rfl) (.cons (hB38.cell 3 rfl) (.cons (hB38.cell 4 rfl) (.cons (hB38.cell 5 rfl) .nil)))) fun a hS => ?_
  have hEpre := hE39
  refine eff_call wide_wide (r := 1) (f := 59) (vs := [I6 0, .agg #[I6 lk, I6 ls, I6 ll, I6 lr]]) (cap := #[]) (d := (some 45)) hS (by kernel_rfl) Try.call59 #[I6 0, .agg #[I6 lk, I6 ls, I6 ll, I6 lr]] (by kernel_rfl) (Rleaf_any 0 lk ls ll lr w35) ?_
  rintro _ wr ⟨rb, rfl, hrbn, hrb, hEr⟩
  refine ⟨_, rfl, fun a hS => ?_⟩
  have hE43 := hE39.trans0 hEr
  have hB44 := hB37.ext hEr (by simp)
  have hG46 : FI w0.heap.size (m + 1) wr ⟨fb, s0, s1, c0 + 1, c1, pb, pc, qb, qc, bb, bn, bc, L⟩ := hF3.ext0 hEr
  have hG47 : (leafT tb (c0 + 1) lk ls ll lr).Ok wr s0 := hokl.ext hEr _ (by simp)
  have hnrb : w0.heap.size ≤ rb := Nat.le_trans hEpre.size hrbn
  refine eff_call wide_wide (r := 0) (f := 58) (vs := [(Pv fb), (Pv tb), (Pv rb)]) (cap := #[]) (d := (some 46)) hS (by kernel_rfl) Try.call58 #[(Pv fb), (Pv tb), (Pv rb)] (by kernel_rfl) (Add_node hB44 hG46.P hG46.R hrb (by omega)) ?_
  rintro _ w3 ⟨ga, ca, gb, cb, rfl, b1, b2, b3, b4, hE3, fa, fb_⟩
  refine ⟨_, rfl, fun a hS => ?_⟩
  have hRes := FI.add hG46 (k := 0) (rs := []) (W0 := w.heap.size) hE.size (by simp) hG47 ⟨0, hrb⟩ (.inl ⟨rfl, rfl, rfl⟩) (by simp) ⟨by omega, by simp [Fo.cOf], fun r hr hrk => by have := hF.num r hr; simp [hrk] at this; simp; omega⟩ (by show L.length + 1 ≤ m + 1; omega)
   ⟨Nat.le_trans hsz2 htb, fun b hb => (by have hb : b ∈ ([] : List Nat) := hb; cases hb), Nat.le_trans (Nat.le_trans hsz2 hEl.size) hrbn, fun b hb => (by have hb : b ∈ ([] : List Nat) := hb; cases hb)⟩
   ⟨fun x hx => (hF.P.oaBlk hx).elim fun _ h => h.lt, fun x hx => (hF.R.oaBlk hx).elim fun _ h => h.lt, fun x hx => hF.B.elim fun _ hB => (hB.oaBlk hx).elim fun _ h => h.lt, fun x hx => hF.ok.foot_lt hx⟩ b1 b2 b3 b4 hE3 fa fb_
  have hE4 : Ext [] w0 w3 := hE43.trans hE3 (by
   intro b hb
   simp only [List.mem_cons, List.mem_append] at hb
   rcases hb with rfl | rfl | hb | hb
   ·exact .inr hnfb
   ·exact .inr hnrb
   ·exact .inr (hnw.2.2.2.1 b hb)
   ·exact .inr (hnw.2.2.2.2.1 b hb))
  refine seg_end ?_
  refine hK42 _ _ ?_
  refine sq fun K48 hK48 => ?_
  refine rgn 1 ?_
  refine sg wide_wide [.p] [] [(0, (Pv fb)), (1, .agg #[I6 sx, .bool false, I6 lk, I6 ls, I6 ll, I6 lr, I6 kd, I6 nn, ks]), (3, (Pv w.heap.size)), (4, .bool true), (5, I6 0), (28, .bool true), (6, (Pv tb)), (39, .bool false)] 1 0 hS .nil fun a hS => ?_
  refine seg_end ?_
  refine hK48 _ _ ?_
  refine wpIn_ret ?_
  refine then_ret ?_
  refine ret1 hS Try.results34 rfl ?_
  exact ⟨_, rfl, hRes, ⟨rfl, rfl, rfl⟩, .inr ⟨_, rfl⟩, hE4⟩

set_option maxHeartbeats 1000000 in
theorem Step_leaf1 {isl : Bool} {m n : Nat} {w0 w : World} {fb s0 s1 pc qc bn bc : Nat} {c0 c1 sx lk ls ll lr kd nn : Int} {pb qb bb : Option Addr} {L : List Rf} {ks : Value} {zs : List Int} (hF : FI w0.heap.size m w ⟨fb, s0, s1, c0, c1, pb, pc, qb, qc, bb, bn, bc, L⟩) (hE : Ext [] w0 w) (_hks : RdV w0 1 ks n (ints zs)) (hm : m ≤ 4398046511000) (_hn : n ≤ 17592186044000) (hk : sx % 2 = 1) (hl : isl = true ∨ L.length = 0) :
  Calls Try.prog 34 #[(Pv fb), .agg #[I6 sx, .bool isl, I6 lk, I6 ls, I6 ll, I6 lr, I6 kd, I6 nn, ks]] w fun e w' => ∃ F', e = .returned (.bool true) ∧ FI w0.heap.size (m + 1) w' F' ∧ (F'.fb = fb ∧ F'.s0 = s0 ∧ F'.s1 = s1) ∧ (F'.L = L ∨ ∃ r, F'.L = L ++ [r]) ∧ Ext [] w0 w' := by
 have hcb : 0 ≤ c0 ∧ 0 ≤ c1 ∧ c0 + c1 ≤ m ∧ L.length ≤ m := hF.cb
 have hnw := hF.nw
 have hnfb : w0.heap.size ≤ fb := hnw.1
 have hfb : Blk w fb 35 #[(Pv s0), (Pv s1), .slice pb L.length pc, .slice qb L.length qc, .slice bb bn bc] := hF.f
 have hsk : Blk w s1 102 #[I6 c1] := hF.h1
 have hnsk : w0.heap.size ≤ s1 := hnw.2.2.1
 have hEww : Ext [] w w := Ext.refl _ _
 refine calls_body 189 [(0, (Pv fb)), (1, .agg #[I6 sx, .bool isl, I6 lk, I6 ls, I6 ll, I6 lr, I6 kd, I6 nn, ks])] Try.func34 rfl (by kernel_rfl) (by kernel_rfl) (by kernel_rfl) fun a hS => ?_
 refine sq fun K1 hK1 => ?_
 refine rgn 2 ?_
 refine eff_box wide_wide (r := 1) (cs := #[I6 sx, .bool isl, I6 lk, I6 ls, I6 ll, I6 lr, I6 kd, I6 nn, ks]) (T := 68) (d := (some 3)) hS (by kernel_rfl) fun a w2 hw3 hS => ?_
 have hB6 := Blk.at' hw3 (hfb.alloc _)
 have hB7 := Blk.at' hw3 (hsk.alloc _)
 have hX8 : Ext [] w w2 := by rw [hw3]; exact (Ext.refl _ _).alloc _
 have hG9 : FI w0.heap.size m w2 ⟨fb, s0, s1, c0, c1, pb, pc, qb, qc, bb, bn, bc, L⟩ := hF.ext0 hX8
 have hG10 : Ext [] w w2 := hEww.trans0 hX8
 have hB11 : Blk w2 (w.heap.size) 68 #[I6 sx, .bool isl, I6 lk, I6 ls, I6 ll, I6 lr, I6 kd, I6 nn, ks] := by rw [hw3]; exact Blk.new _ _ _
 have hs12 : w0.heap.size ≤ w.heap.size := hE.size
 have hE13 : Ext [] w0 w2 := by rw [hw3]; exact hE.alloc _
 refine sg wide_wide [.p] [] [(0, (Pv fb)), (1, .agg #[I6 sx, .bool isl, I6 lk, I6 ls, I6 ll, I6 lr, I6 kd, I6 nn, ks]), (3, (Pv w.heap.size)), (4, .bool false)] 2 0 hS .nil fun a hS => ?_
 refine seg_end ?_
 refine hK1 _ _ ?_
 refine sq fun K14 hK14 => ?_
 refine rgn 4 ?_
 refine sg wide_wide [.p, .ld (I6 sx), .run (I6 1), .p] [_, Ru Try.prog (vS (do eqGuard .and 3 (.tmp 17) (.const (I6 1)) (I6 sx) (I6 1); binOp .and 3 (I6 sx) (I6 1))) (I6 1) w2] [(0, (Pv fb)), (1, .agg #[I6 sx, .bool isl, I6 lk, I6 ls, I6 ll, I6 lr, I6 kd, I6 nn, ks]), (3, (Pv w.heap.size)), (4, .bool false), (5, I6 1)] 4 0 hS (.cons (hB11.cell 0 rfl) (.cons (and_k hk) .nil)) fun a hS => ?_
 refine seg_end ?_
 refine hK14 _ _ ?_
 refine sq fun K15 hK15 => ?_
 refine sq fun K16 hK16 => ?_
 rcases (show isl = true ∨ (isl = false ∧ L.length = 0) by cases isl <;> simp_all) with hil | ⟨hil, hL0⟩ <;> subst hil
 ·
  refine rgn 10 ?_
  refine sg wide_wide [.p, .ld (.bool true), .p, .no, .no, .no, .no, .no, .no, .p] [_] [(0, (Pv fb)), (1, .agg #[I6 sx, .bool true, I6 lk, I6 ls, I6 ll, I6 lr, I6 kd, I6 nn, ks]), (3, (Pv w.heap.size)), (4, .bool false), (5, I6 1), (28, .bool true)] 10 0 hS (.cons (hB11.cell 1 rfl) .nil) fun a hS => ?_
  refine seg_end ?_
  refine hK16 _ _ ?_
  refine cond_t hS rfl ?_
  refine sq fun K17 hK17 => ?_
  have hF2 := hG9
  have hsz2 := hG10.size
  refine region_gh2 (G := Nat × World) wide_wide [.q .p, .q .p, .q .p, .q .p, .q .p, .q (.ld ((Pv s1))), .q .p, .q (.lds [I6 lk, I6 ls, I6 ll, I6 lr]), .e, .q .p] [0, 0, 0, 0, 0, 0, 0, 0, 0, 1] [0, 0, 0, 0, 0, 0, 0, 0, 0, 1] [0, 0, 1, 5, 15, 31, 0, 64, 255, 511] [8] [(8, 0)] 1 (fun ⟨tb, wl⟩ => ([(0, (Pv fb)), (1, .agg #[I6 sx, .bool true, I6 lk, I6 ls, I6 ll, I6 lr, I6 kd, I6 nn, ks]), (3, (Pv w.heap.size)), (4, .bool false), (5, I6 1), (28, .bool true), (29, (Pv fb)), (30, I6 1), (31, (Pv fb)), (32, (Pv fb)), (33, (Po fb 1)), (34, (Pv s1)), (35, (Po w.heap.size 2)), (36, .agg #[I6 lk, I6 ls, I6 ll, I6 lr]), (37, (Pv tb)), (6, (Pv tb))] : Fm)) (fun ⟨tb, wl⟩ => [w2.drew, wl]) (w2.drew) (fun e ⟨tb, wl⟩ => hAt [True, ((w2.drew).heap.size ≤ tb) ∧ ((leafT tb (c1 + 1) lk ls ll lr).Ok wl s1) ∧ (Blk wl s1 102 #[I6 (c1 + 1)]) ∧ (Ext [s1] w2.drew wl) ∧ True] e) (fun ⟨tb, wl⟩ w' => [(5, [w'.cell? ⟨fb, 1, none⟩ = some ((Pv s1))]), (7, [w'.cell? ⟨w.heap.size, 2, none⟩ = some (I6 lk), w'.cell? ⟨w.heap.size, 3, none⟩ = some (I6 ls), w'.cell? ⟨w.heap.size, 4, none⟩ = some (I6 ll), w'.cell? ⟨w.heap.size, 5, none⟩ = some (I6 lr)])]) (0, w2.drew) [0, 1, 3, 4, 5, 28] [] hS (by kernel_rfl) (by kernel_rfl) (by kernel_rfl) (by kernel_rfl) (fun ⟨tb, wl⟩ _ => by kernel_rfl) (by kernel_rfl) (by kernel_rfl) (by kernel_rfl) trivial ?_ (by kernel_rfl) ?_ ?_
  ·rintro e ⟨tb, wl⟩ w' hw hH
   refine (.cons ?_ (.cons ?_ .nil))
   ·intro h1 h2
    obtain rfl : e = 0 := Nat.le_antisymm h2 h1
    have hwe : w2.drew = w' := (hw.trans (by kernel_rfl)).symm
    subst hwe
    clear hH
    exact (.cons ((hB6.drew : Blk w2.drew fb 35 (#[(Pv s0), (Pv s1), .slice pb L.length pc, .slice qb L.length qc, .slice bb bn bc])).cell 1 rfl) .nil)
   ·intro h1 h2
    obtain rfl : e = 0 := Nat.le_antisymm h2 h1
    have hwe : w2.drew = w' := (hw.trans (by kernel_rfl)).symm
    subst hwe
    clear hH
    exact (.cons ((hB11.drew : Blk w2.drew w.heap.size 68 (#[I6 sx, .bool true, I6 lk, I6 ls, I6 ll, I6 lr, I6 kd, I6 nn, ks])).cell 2 rfl) (.cons ((hB11.drew : Blk w2.drew w.heap.size 68 (#[I6 sx, .bool true, I6 lk, I6 ls, I6 ll, I6 lr, I6 kd, I6 nn, ks])).cell 3 rfl) (.cons ((hB11.drew : Blk w2.drew w.heap.size 68 (#[I6 sx, .bool true, I6 lk, I6 ls, I6 ll, I6 lr, I6 kd, I6 nn, ks])).cell 4 rfl) (.cons ((hB11.drew : Blk w2.drew w.heap.size 68 (#[I6 sx, .bool true, I6 lk, I6 ls, I6 ll, I6 lr, I6 kd, I6 nn, ks])).cell 5 rfl) .nil))))
  ·refine (.cons ?eq18_8 .nil)
   ·rintro ⟨tb, wl⟩ hH
    clear hH
    refine eff_gh (w2.drew) (by kernel_rfl) ?_
    refine upon_call (f := 18) (vs := [(Pv s1), .agg #[I6 lk, I6 ls, I6 ll, I6 lr]]) (cap := #[]) (d := (some 37)) (by kernel_rfl) Try.call18 #[(Pv s1), .agg #[I6 lk, I6 ls, I6 ll, I6 lr]] (by kernel_rfl) (Leaf_tr (hB7.drew : Blk w2.drew s1 102 (#[I6 c1])) (by omega)) ?_
    rintro _ wl ⟨tb, rfl, htb, hokl, hskl, hEl⟩
    exact ⟨_, rfl, ⟨(tb, wl), by kernel_rfl, by kernel_rfl, by kernel_rfl, ⟨htb, hokl, hskl, hEl, trivial⟩⟩⟩
  rintro ⟨tb, wl⟩ a w19 hS hw20 hH
  obtain ⟨htb, hokl, hskl, hEl, _⟩ := hH
  replace hw20 : w19 = wl := hw20.trans (by kernel_rfl)
  have hB21 := Blk.at' hw20 ((hB6.drew : Blk w2.drew fb 35 (#[(Pv s0), (Pv s1), .slice pb L.length pc, .slice qb L.length qc, .slice bb bn bc])).ext hEl (by simpa using (Blk.ne_type (hB6.drew : Blk w2.drew fb 35 (#[(Pv s0), (Pv s1), .slice pb L.length pc, .slice qb L.length qc, .slice bb bn bc])) (hB7.drew : Blk w2.drew s1 102 (#[I6 c1])) (by decide))))
  have hB22 := Blk.at' hw20 ((hB11.drew : Blk w2.drew w.heap.size 68 (#[I6 sx, .bool true, I6 lk, I6 ls, I6 ll, I6 lr, I6 kd, I6 nn, ks])).ext hEl (by simpa using (Blk.ne_type (hB11.drew : Blk w2.drew w.heap.size 68 (#[I6 sx, .bool true, I6 lk, I6 ls, I6 ll, I6 lr, I6 kd, I6 nn, ks])) (hB7.drew : Blk w2.drew s1 102 (#[I6 c1])) (by decide))))
  have hE23 : Ext [] w0 w19 := by rw [hw20]; exact (hE13.drew).trans hEl (by intro b hb; obtain rfl := (by simpa using hb : b = s1); exact .inr hnsk)
  replace hS := hS.kp [(0, (Pv fb)), (1, .agg #[I6 sx, .bool true, I6 lk, I6 ls, I6 ll, I6 lr, I6 kd, I6 nn, ks]), (3, (Pv w.heap.size)), (4, .bool false), (5, I6 1), (28, .bool true), (6, (Pv tb))]
  refine hK17 _ _ ?_
  refine sq fun K24 hK24 => ?_
  refine sq fun K25 hK25 => ?_
  subst hw20
  have hF3 : FI w0.heap.size (m + 1) w19 ⟨fb, s0, s1, c0, c1 + 1, pb, pc, qb, qc, bb, bn, bc, L⟩ := hF2.bump (k := 1) (w' := w19) hskl ((Ext.refl [s1] w2).drew.trans hEl (by simp))
  refine rgn 2 ?_
  refine sg wide_wide [.p, .p] [] [(0, (Pv fb)), (1, .agg #[I6 sx, .bool true, I6 lk, I6 ls, I6 ll, I6 lr, I6 kd, I6 nn, ks]), (3, (Pv w.heap.size)), (4, .bool false), (5, I6 1), (28, .bool true), (6, (Pv tb)), (39, .bool false)] 2 0 hS .nil fun a hS => ?_
  refine seg_end ?_
  refine hK25 _ _ ?_
  refine cond_f hS rfl ?_
  refine wpIn_skip ?_
  refine hK24 _ _ ?_
  refine sq fun K26 hK26 => ?_
  refine rgn 7 ?_
  refine sg wide_wide [.p, .p, .p, .p, .lds [I6 lk, I6 ls, I6 ll, I6 lr]] [_, _, _, _] [(0, (Pv fb)), (1, .agg #[I6 sx, .bool true, I6 lk, I6 ls, I6 ll, I6 lr, I6 kd, I6 nn, ks]), (3, (Pv w.heap.size)), (4, .bool false), (5, I6 1), (28, .bool true), (6, (Pv tb)), (39, .bool false), (40, (Pv fb)), (41, (Pv tb)), (42, I6 1), (44, .agg #[I6 lk, I6 ls, I6 ll, I6 lr])] 5 2 hS (.cons (hB22.cell 2 rfl) (.cons (hB22.cell 3 rfl) (.cons (hB22.cell 4 rfl) (.cons (hB22.cell 5 rfl) .nil)))) fun a hS => ?_
  have hEpre := hE23
  refine eff_call wide_wide (r := 1) (f := 59) (vs := [I6 1, .agg #[I6 lk, I6 ls, I6 ll, I6 lr]]) (cap := #[]) (d := (some 45)) hS (by kernel_rfl) Try.call59 #[I6 1, .agg #[I6 lk, I6 ls, I6 ll, I6 lr]] (by kernel_rfl) (Rleaf_any 1 lk ls ll lr w19) ?_
  rintro _ wr ⟨rb, rfl, hrbn, hrb, hEr⟩
  refine ⟨_, rfl, fun a hS => ?_⟩
  have hE27 := hE23.trans0 hEr
  have hB28 := hB21.ext hEr (by simp)
  have hG30 : FI w0.heap.size (m + 1) wr ⟨fb, s0, s1, c0, c1 + 1, pb, pc, qb, qc, bb, bn, bc, L⟩ := hF3.ext0 hEr
  have hG31 : (leafT tb (c1 + 1) lk ls ll lr).Ok wr s1 := hokl.ext hEr _ (by simp)
  have hnrb : w0.heap.size ≤ rb := Nat.le_trans hEpre.size hrbn
  refine eff_call wide_wide (r := 0) (f := 58) (vs := [(Pv fb), (Pv tb), (Pv rb)]) (cap := #[]) (d := (some 46)) hS (by kernel_rfl) Try.call58 #[(Pv fb), (Pv tb), (Pv rb)] (by kernel_rfl) (Add_node hB28 hG30.P hG30.R hrb (by omega)) ?_
  rintro _ w3 ⟨ga, ca, gb, cb, rfl, b1, b2, b3, b4, hE3, fa, fb_⟩
  refine ⟨_, rfl, fun a hS => ?_⟩
  have hRes := FI.add hG30 (k := 1) (rs := []) (W0 := w.heap.size) hE.size (by simp) hG31 ⟨0, hrb⟩ (.inl ⟨rfl, rfl, rfl⟩) (by simp) ⟨by omega, by simp [Fo.cOf], fun r hr hrk => by have := hF.num r hr; simp [hrk] at this; simp; omega⟩ (by show L.length + 1 ≤ m + 1; omega)
   ⟨Nat.le_trans hsz2 htb, fun b hb => (by have hb : b ∈ ([] : List Nat) := hb; cases hb), Nat.le_trans (Nat.le_trans hsz2 hEl.size) hrbn, fun b hb => (by have hb : b ∈ ([] : List Nat) := hb; cases hb)⟩
   ⟨fun x hx => (hF.P.oaBlk hx).elim fun _ h => h.lt, fun x hx => (hF.R.oaBlk hx).elim fun _ h => h.lt, fun x hx => hF.B.elim fun _ hB => (hB.oaBlk hx).elim fun _ h => h.lt, fun x hx => hF.ok.foot_lt hx⟩ b1 b2 b3 b4 hE3 fa fb_
  have hE4 : Ext [] w0 w3 := hE27.trans hE3 (by
   intro b hb
   simp only [List.mem_cons, List.mem_append] at hb
   rcases hb with rfl | rfl | hb | hb
   ·exact .inr hnfb
   ·exact .inr hnrb
   ·exact .inr (hnw.2.2.2.1 b hb)
   ·exact .inr (hnw.2.2.2.2.1 b hb))
  refine seg_end ?_
  refine hK26 _ _ ?_
  refine sq fun K32 hK32 => ?_
  refine rgn 1 ?_
  refine sg wide_wide [.p] [] [(0, (Pv fb)), (1, .agg #[I6 sx, .bool true, I6 lk, I6 ls, I6 ll, I6 lr, I6 kd, I6 nn, ks]), (3, (Pv w.heap.size)), (4, .bool true), (5, I6 1), (28, .bool true), (6, (Pv tb)), (39, .bool false)] 1 0 hS .nil fun a hS => ?_
  refine seg_end ?_
  refine hK32 _ _ ?_
  refine wpIn_ret ?_
  refine then_ret ?_
  refine ret1 hS Try.results34 rfl ?_
  exact ⟨_, rfl, hRes, ⟨rfl, rfl, rfl⟩, .inr ⟨_, rfl⟩, hE4⟩
 ·
  refine rgn 10 ?_
  refine sg wide_wide [.p, .ld (.bool false), .p, .p, .p, .p, .ld (.slice pb L.length pc), .p, .as (.bool true), .p] [_, _, Value.bool (((↑L.length : Int) == 0)) = .bool true] [(0, (Pv fb)), (1, .agg #[I6 sx, .bool false, I6 lk, I6 ls, I6 ll, I6 lr, I6 kd, I6 nn, ks]), (3, (Pv w.heap.size)), (4, .bool false), (5, I6 1), (28, .bool true)] 10 0 hS (.cons (hB11.cell 1 rfl) (.cons (hB6.cell 2 rfl) (.cons (as_eq_t (by omega)) .nil))) fun a hS => ?_
  refine seg_end ?_
  refine hK16 _ _ ?_
  refine cond_t hS rfl ?_
  refine sq fun K33 hK33 => ?_
  have hF2 := hG9
  have hsz2 := hG10.size
  refine region_gh2 (G := Nat × World) wide_wide [.q .p, .q .p, .q .p, .q .p, .q .p, .q (.ld ((Pv s1))), .q .p, .q (.lds [I6 lk, I6 ls, I6 ll, I6 lr]), .e, .q .p] [0, 0, 0, 0, 0, 0, 0, 0, 0, 1] [0, 0, 0, 0, 0, 0, 0, 0, 0, 1] [0, 0, 1, 5, 15, 31, 0, 64, 255, 511] [8] [(8, 0)] 1 (fun ⟨tb, wl⟩ => ([(0, (Pv fb)), (1, .agg #[I6 sx, .bool false, I6 lk, I6 ls, I6 ll, I6 lr, I6 kd, I6 nn, ks]), (3, (Pv w.heap.size)), (4, .bool false), (5, I6 1), (28, .bool true), (29, (Pv fb)), (30, I6 1), (31, (Pv fb)), (32, (Pv fb)), (33, (Po fb 1)), (34, (Pv s1)), (35, (Po w.heap.size 2)), (36, .agg #[I6 lk, I6 ls, I6 ll, I6 lr]), (37, (Pv tb)), (6, (Pv tb))] : Fm)) (fun ⟨tb, wl⟩ => [w2.drew, wl]) (w2.drew) (fun e ⟨tb, wl⟩ => hAt [True, ((w2.drew).heap.size ≤ tb) ∧ ((leafT tb (c1 + 1) lk ls ll lr).Ok wl s1) ∧ (Blk wl s1 102 #[I6 (c1 + 1)]) ∧ (Ext [s1] w2.drew wl) ∧ True] e) (fun ⟨tb, wl⟩ w' => [(5, [w'.cell? ⟨fb, 1, none⟩ = some ((Pv s1))]), (7, [w'.cell? ⟨w.heap.size, 2, none⟩ = some (I6 lk), w'.cell? ⟨w.heap.size, 3, none⟩ = some (I6 ls), w'.cell? ⟨w.heap.size, 4, none⟩ = some (I6 ll), w'.cell? ⟨w.heap.size, 5, none⟩ = some (I6 lr)])]) (0, w2.drew) [0, 1, 3, 4, 5, 28] [] hS (by kernel_rfl) (by kernel_rfl) (by kernel_rfl) (by kernel_rfl) (fun ⟨tb, wl⟩ _ => by kernel_rfl) (by kernel_rfl) (by kernel_rfl) (by kernel_rfl) trivial ?_ (by kernel_rfl) ?_ ?_
  ·rintro e ⟨tb, wl⟩ w' hw hH
   refine (.cons ?_ (.cons ?_ .nil))
   ·intro h1 h2
    obtain rfl : e = 0 := Nat.le_antisymm h2 h1
    have hwe : w2.drew = w' := (hw.trans (by kernel_rfl)).symm
    subst hwe
    clear hH
    exact (.cons ((hB6.drew : Blk w2.drew fb 35 (#[(Pv s0), (Pv s1), .slice pb L.length pc, .slice qb L.length qc, .slice bb bn bc])).cell 1 rfl) .nil)
   ·intro h1 h2
    obtain rfl : e = 0 := Nat.le_antisymm h2 h1
    have hwe : w2.drew = w' := (hw.trans (by kernel_rfl)).symm
    subst hwe
    clear hH
    exact (.cons ((hB11.drew : Blk w2.drew w.heap.size 68 (#[I6 sx, .bool false, I6 lk, I6 ls, I6 ll, I6 lr, I6 kd, I6 nn, ks])).cell 2 rfl) (.cons ((hB11.drew : Blk w2.drew w.heap.size 68 (#[I6 sx, .bool false, I6 lk, I6 ls, I6 ll, I6 lr, I6 kd, I6 nn, ks])).cell 3 rfl) (.cons ((hB11.drew : Blk w2.drew w.heap.size 68 (#[I6 sx, .bool false, I6 lk, I6 ls, I6 ll, I6 lr, I6 kd, I6 nn, ks])).cell 4 rfl) (.cons ((hB11.drew : Blk w2.drew w.heap.size 68 (#[I6 sx, .bool false, I6 lk, I6 ls, I6 ll, I6 lr, I6 kd, I6 nn, ks])).cell 5 rfl) .nil))))
  ·refine (.cons ?eq34_8 .nil)
   ·rintro ⟨tb, wl⟩ hH
    clear hH
    refine eff_gh (w2.drew) (by kernel_rfl) ?_
    refine upon_call (f := 18) (vs := [(Pv s1), .agg #[I6 lk, I6 ls, I6 ll, I6 lr]]) (cap := #[]) (d := (some 37)) (by kernel_rfl) Try.call18 #[(Pv s1), .agg #[I6 lk, I6 ls, I6 ll, I6 lr]] (by kernel_rfl) (Leaf_tr (hB7.drew : Blk w2.drew s1 102 (#[I6 c1])) (by omega)) ?_
    rintro _ wl ⟨tb, rfl, htb, hokl, hskl, hEl⟩
    exact ⟨_, rfl, ⟨(tb, wl), by kernel_rfl, by kernel_rfl, by kernel_rfl, ⟨htb, hokl, hskl, hEl, trivial⟩⟩⟩
  rintro ⟨tb, wl⟩ a w35 hS hw36 hH
  obtain ⟨htb, hokl, hskl, hEl, _⟩ := hH
  replace hw36 : w35 = wl := hw36.trans (by kernel_rfl)
  have hB37 := Blk.at' hw36 ((hB6.drew : Blk w2.drew fb 35 (#[(Pv s0), (Pv s1), .slice pb L.length pc, .slice qb L.length qc, .slice bb bn bc])).ext hEl (by simpa using (Blk.ne_type (hB6.drew : Blk w2.drew fb 35 (#[(Pv s0), (Pv s1), .slice pb L.length pc, .slice qb L.length qc, .slice bb bn bc])) (hB7.drew : Blk w2.drew s1 102 (#[I6 c1])) (by decide))))
  have hB38 := Blk.at' hw36 ((hB11.drew : Blk w2.drew w.heap.size 68 (#[I6 sx, .bool false, I6 lk, I6 ls, I6 ll, I6 lr, I6 kd, I6 nn, ks])).ext hEl (by simpa using (Blk.ne_type (hB11.drew : Blk w2.drew w.heap.size 68 (#[I6 sx, .bool false, I6 lk, I6 ls, I6 ll, I6 lr, I6 kd, I6 nn, ks])) (hB7.drew : Blk w2.drew s1 102 (#[I6 c1])) (by decide))))
  have hE39 : Ext [] w0 w35 := by rw [hw36]; exact (hE13.drew).trans hEl (by intro b hb; obtain rfl := (by simpa using hb : b = s1); exact .inr hnsk)
  replace hS := hS.kp [(0, (Pv fb)), (1, .agg #[I6 sx, .bool false, I6 lk, I6 ls, I6 ll, I6 lr, I6 kd, I6 nn, ks]), (3, (Pv w.heap.size)), (4, .bool false), (5, I6 1), (28, .bool true), (6, (Pv tb))]
  refine hK33 _ _ ?_
  refine sq fun K40 hK40 => ?_
  refine sq fun K41 hK41 => ?_
  subst hw36
  have hF3 : FI w0.heap.size (m + 1) w35 ⟨fb, s0, s1, c0, c1 + 1, pb, pc, qb, qc, bb, bn, bc, L⟩ := hF2.bump (k := 1) (w' := w35) hskl ((Ext.refl [s1] w2).drew.trans hEl (by simp))
  refine rgn 2 ?_
  refine sg wide_wide [.p, .p] [] [(0, (Pv fb)), (1, .agg #[I6 sx, .bool false, I6 lk, I6 ls, I6 ll, I6 lr, I6 kd, I6 nn, ks]), (3, (Pv w.heap.size)), (4, .bool false), (5, I6 1), (28, .bool true), (6, (Pv tb)), (39, .bool false)] 2 0 hS .nil fun a hS => ?_
  refine seg_end ?_
  refine hK41 _ _ ?_
  refine cond_f hS rfl ?_
  refine wpIn_skip ?_
  refine hK40 _ _ ?_
  refine sq fun K42 hK42 => ?_
  refine rgn 7 ?_
  refine sg wide_wide [.p, .p, .p, .p, .lds [I6 lk, I6 ls, I6 ll, I6 lr]] [_, _, _, _] [(0, (Pv fb)), (1, .agg #[I6 sx, .bool false, I6 lk, I6 ls, I6 ll, I6 lr, I6 kd, I6 nn, ks]), (3, (Pv w.heap.size)), (4, .bool false), (5, I6 1), (28, .bool true), (6, (Pv tb)), (39, .bool false), (40, (Pv fb)), (41, (Pv tb)), (42, I6 1), (44, .agg #[I6 lk, I6 ls, I6 ll, I6 lr])] 5 2 hS (.cons (hB38.cell 2 rfl) (.cons (hB38.cell 3 rfl) (.cons (hB38.cell 4 rfl) (.cons (hB38.cell 5 rfl) .nil)))) fun a hS => ?_
  have hEpre := hE39
  refine eff_call wide_wide (r := 1) (f := 59) (vs := [I6 1, .agg #[I6 lk, I6 ls, I6 ll, I6 lr]]) (cap := #[]) (d := (some 45)) hS (by kernel_rfl) Try.call59 #[I6 1, .agg #[I6 lk, I6 ls, I6 ll, I6 lr]] (by kernel_rfl) (Rleaf_any 1 lk ls ll lr w35) ?_
  rintro _ wr ⟨rb, rfl, hrbn, hrb, hEr⟩
  refine ⟨_, rfl, fun a hS => ?_⟩
  have hE43 := hE39.trans0 hEr
  have hB44 := hB37.ext hEr (by simp)
  have hG46 : FI w0.heap.size (m + 1) wr ⟨fb, s0, s1, c0, c1 + 1, pb, pc, qb, qc, bb, bn, bc, L⟩ := hF3.ext0 hEr
  have hG47 : (leafT tb (c1 + 1) lk ls ll lr).Ok wr s1 := hokl.ext hEr _ (by simp)
  have hnrb : w0.heap.size ≤ rb := Nat.le_trans hEpre.size hrbn
  refine eff_call wide_wide (r := 0) (f := 58) (vs := [(Pv fb), (Pv tb), (Pv rb)]) (cap := #[]) (d := (some 46)) hS (by kernel_rfl) Try.call58 #[(Pv fb), (Pv tb), (Pv rb)] (by kernel_rfl) (Add_node hB44 hG46.P hG46.R hrb (by omega)) ?_
  rintro _ w3 ⟨ga, ca, gb, cb, rfl, b1, b2, b3, b4, hE3, fa, fb_⟩
  refine ⟨_, rfl, fun a hS => ?_⟩
  have hRes := FI.add hG46 (k := 1) (rs := []) (W0 := w.heap.size) hE.size (by simp) hG47 ⟨0, hrb⟩ (.inl ⟨rfl, rfl, rfl⟩) (by simp) ⟨by omega, by simp [Fo.cOf], fun r hr hrk => by have := hF.num r hr; simp [hrk] at this; simp; omega⟩ (by show L.length + 1 ≤ m + 1; omega)
   ⟨Nat.le_trans hsz2 htb, fun b hb => (by have hb : b ∈ ([] : List Nat) := hb; cases hb), Nat.le_trans (Nat.le_trans hsz2 hEl.size) hrbn, fun b hb => (by have hb : b ∈ ([] : List Nat) := hb; cases hb)⟩
   ⟨fun x hx => (hF.P.oaBlk hx).elim fun _ h => h.lt, fun x hx => (hF.R.oaBlk hx).elim fun _ h => h.lt, fun x hx => hF.B.elim fun _ hB => (hB.oaBlk hx).elim fun _ h => h.lt, fun x hx => hF.ok.foot_lt hx⟩ b1 b2 b3 b4 hE3 fa fb_
  have hE4 : Ext [] w0 w3 := hE43.trans hE3 (by
   intro b hb
   simp only [List.mem_cons, List.mem_append] at hb
   rcases hb with rfl | rfl | hb | hb
   ·exact .inr hnfb
   ·exact .inr hnrb
   ·exact .inr (hnw.2.2.2.1 b hb)
   ·exact .inr (hnw.2.2.2.2.1 b hb))
  refine seg_end ?_
  refine hK42 _ _ ?_
  refine sq fun K48 hK48 => ?_
  refine rgn 1 ?_
  refine sg wide_wide [.p] [] [(0, (Pv fb)), (1, .agg #[I6 sx, .bool false, I6 lk, I6 ls, I6 ll, I6 lr, I6 kd, I6 nn, ks]), (3, (Pv w.heap.size)), (4, .bool true), (5, I6 1), (28, .bool true), (6, (Pv tb)), (39, .bool false)] 1 0 hS .nil fun a hS => ?_
  refine seg_end ?_
  refine hK48 _ _ ?_
  refine wpIn_ret ?_
  refine then_ret ?_
  refine ret1 hS Try.results34 rfl ?_
  exact ⟨_, rfl, hRes, ⟨rfl, rfl, rfl⟩, .inr ⟨_, rfl⟩, hE4⟩

end Go.Proofs.Ytpglmeeledmkoaa
