import Derived.Test.YtpglmeeledmkoaaProg
import Derived.Test.YtpglmeeledmkoaaVc
import Derived.Test.YtpglmeeledmkoaaT33
import Derived.Test.YtpglmeeledmkoaaVd
namespace Go.Proofs.Ytpglmeeledmkoaa
open Go.Vc

set_option maxHeartbeats 1000000 in
theorem Spot_any {s0 s1 cb pc : Nat} {L : List Rf} {r q : Rf} {st : List Stp} {p : Int} {pb : Option Addr} {w : World} (hF : FOk w s0 s1 L) (hr : r ∈ L) (hj : JW r st q p) (hC : Blk w cb 85 #[(Pv r.rb), .slice pb st.length pc]) (hv : OwnV w 3 1 (.slice pb st.length pc) st.length (ints (idx st))) :
  Calls Try.prog 50 #[(Pv cb)] w fun e w' => e = .returned (.agg #[(Pv q.rb), I6 p, .slice pb st.length pc]) ∧ Ext [] w w' := by
 have hbdr := hF.tt hr
 have hbq := hj.bd hF hr
 have hqm := hj.mem hF hr
 have hqt := hF.tt hqm
 have hqk := hF.kids_le hqm
 refine calls_body 12 [(0, (Pv cb))] Try.func50 rfl (by kernel_rfl) (by kernel_rfl) (by kernel_rfl) fun a hS => ?_
 have hE0 : Ext [] w w := Ext.refl _ _
 refine sq fun K1 hK1 => ?_
 refine rgn 1 ?_
 refine eff_box wide_wide (r := 0) (cs := #[.pointer none, I6 0, .slice none 0 0]) (T := 43) (d := (some 2)) hS (by kernel_rfl) fun a w2 hw3 hS => ?_
 have hB6 := Blk.at' hw3 (hC.alloc _)
 have hB8 : Blk w2 (w.heap.size) 43 #[.pointer none, I6 0, .slice none 0 0] := by rw [hw3]; exact Blk.new _ _ _
 have hs9 : w.heap.size ≤ w.heap.size := hE0.size
 have hE10 : Ext [] w w2 := by rw [hw3]; exact hE0.alloc _
 refine seg_end ?_
 refine hK1 _ _ ?_
 refine sq fun K11 hK11 => ?_
 refine region_gh2 (G := World) wide_wide [.q .p, .q .p, .q .p, .q (.ld ((Pv r.rb))), .q .p, .q .p, .q .p, .q (.ld (.slice pb st.length pc)), .e, .e] [0, 0, 0, 0, 0, 0, 0, 0, 0, 1] [0, 0, 0, 0, 0, 0, 0, 0, 0, 1] [0, 1, 3, 7, 0, 16, 48, 112, 255, 511] [8, 9] [(8, 0), (9, 1)] 2 (fun w75 => ([(0, (Pv cb)), (2, (Pv w.heap.size)), (3, (Pv cb)), (4, (Pv cb)), (5, (Pv cb)), (6, (Pv r.rb)), (7, (Pv cb)), (8, (Pv cb)), (9, (Po cb 1)), (10, .slice pb st.length pc), (11, .agg #[(Pv q.rb), I6 p, .slice pb st.length pc])] : Fm)) (fun w75 => [w2.drew, w75, upd (w75) (w.heap.size) 43 #[(Pv q.rb), I6 p, .slice pb st.length pc]]) (w2.drew) (fun e w75 => hAt [True, (Ext [] w2.drew w75) ∧ True, (Ext [] w2.drew w75) ∧ True] e) (fun w75 w' => [(3, [w'.cell? ⟨cb, 0, none⟩ = some ((Pv r.rb))]), (7, [w'.cell? ⟨cb, 1, none⟩ = some (.slice pb st.length pc)])]) w2.drew [0, 2] [] hS (by kernel_rfl) (by kernel_rfl) (by kernel_rfl) (by kernel_rfl) (fun w75 _ => by kernel_rfl) (by kernel_rfl) (by kernel_rfl) (by kernel_rfl) trivial ?_ (by kernel_rfl) ?_ ?_
 ·rintro e w75 w' hw hH
  refine (.cons ?_ (.cons ?_ .nil))
  ·intro h1 h2
   obtain rfl : e = 0 := Nat.le_antisymm h2 h1
   have hwe : w2.drew = w' := (hw.trans (by kernel_rfl)).symm
   subst hwe
   clear hH
   exact (.cons ((hB6.drew : Blk w2.drew cb 85 (#[(Pv r.rb), .slice pb st.length pc])).cell 0 rfl) .nil)
  ·intro h1 h2
   obtain rfl : e = 0 := Nat.le_antisymm h2 h1
   have hwe : w2.drew = w' := (hw.trans (by kernel_rfl)).symm
   subst hwe
   clear hH
   exact (.cons ((hB6.drew : Blk w2.drew cb 85 (#[(Pv r.rb), .slice pb st.length pc])).cell 1 rfl) .nil)
 ·refine (.cons ?eq12_8 (.cons ?eq12_9 .nil))
  ·rintro w75 hH
   clear hH
   refine eff_gh (w2.drew) (by kernel_rfl) ?_
   refine upon_call (f := 75) (vs := [(Pv r.rb), .slice pb st.length pc]) (cap := #[]) (d := (some 11)) (by kernel_rfl) Try.call75 #[(Pv r.rb), .slice pb st.length pc] (by kernel_rfl) (Find_any (hF.ext0 (hE10).drew) hr hj (hv.ext0' (hE10).drew)) ?_
   rintro _ w75 ⟨rfl, hE75⟩
   exact ⟨_, rfl, ⟨w75, by kernel_rfl, by kernel_rfl, by kernel_rfl, ⟨hE75, trivial⟩⟩⟩
  ·rintro w75 hH
   obtain ⟨hE75, _⟩ := hH
   refine eff_gh (w75) (by kernel_rfl) ?_
   exact upon_store (b := w.heap.size) (off := 0) (vs := [(Pv q.rb), I6 p, .slice pb st.length pc]) (by kernel_rfl) ((hB8.drew).ext hE75 (by simp) : Blk w75 w.heap.size 43 (#[.pointer none, I6 0, .slice none 0 0])) (by simp) ⟨w75, by kernel_rfl, by kernel_rfl, by kernel_rfl, ⟨hE75, trivial⟩⟩
 rintro w75 a w13 hS hw14 hH
 obtain ⟨hE75, _⟩ := hH
 replace hw14 : w13 = upd (w75) (w.heap.size) 43 #[(Pv q.rb), I6 p, .slice pb st.length pc] := hw14.trans (by kernel_rfl)
 have hB17 : Blk w13 w.heap.size 43 (#[(Pv q.rb), I6 p, .slice pb st.length pc]) := by rw [hw14]; exact ((hB8.drew).ext hE75 (by simp)).upd _ _
 have hE18 : Ext [] w w13 := by rw [hw14]; exact ((hE10.drew).trans0 hE75).updIn (.inr hs9) _ _
 replace hS := hS.kp [(0, (Pv cb)), (2, (Pv w.heap.size))]
 refine hK11 _ _ ?_
 refine wpIn_ret ?_
 refine retA1 hS Try.results50 (by kernel_rfl) (by kernel_rfl) rfl hB17 ?_
 exact ⟨rfl, hE18⟩

theorem RDown_lt {s0 s1 cb pc : Nat} {L : List Rf} {r q : Rf} {st : List Stp} {p i : Int} {pb : Option Addr} {w : World} (hF : FOk w s0 s1 L) (hr : r ∈ L) (hj : JW r st q p) (hC : Blk w cb 85 #[(Pv r.rb), .slice pb st.length pc]) (hv : OwnV w 3 1 (.slice pb st.length pc) st.length (ints (idx st))) (hi : i < 0) :
  Calls Try.prog 71 #[(Pv cb), I6 i] w fun e w' => e = .returned (.bool false) ∧ Ext [] w w' := by
 have hbdr := hF.tt hr
 have hbq := hj.bd hF hr
 have hqm := hj.mem hF hr
 have hqt := hF.tt hqm
 have hqk := hF.kids_le hqm
 refine calls_body 29 [(0, (Pv cb)), (1, I6 i)] Try.func71 rfl (by kernel_rfl) (by kernel_rfl) (by kernel_rfl) fun a hS => ?_
 have hE0 : Ext [] w w := Ext.refl _ _
 refine sq fun K1 hK1 => ?_
 refine rgn 1 ?_
 refine sg wide_wide [.p] [] [(0, (Pv cb)), (1, I6 i), (4, .bool false)] 1 0 hS .nil fun a hS => ?_
 refine seg_end ?_
 refine hK1 _ _ ?_
 refine sq fun K2 hK2 => ?_
 refine rgn 4 ?_
 refine sg wide_wide [.p] [] [(0, (Pv cb)), (1, I6 i), (4, .bool false), (6, (Pv cb))] 1 3 hS .nil fun a hS => ?_
 refine eff_call wide_wide (r := 2) (f := 50) (vs := [(Pv cb)]) (cap := #[]) (d := (some 7)) hS (by kernel_rfl) Try.call50 #[(Pv cb)] (by kernel_rfl) (Spot_any (hF.ext0 hE0) hr hj hC (hv.ext0' hE0)) ?_
 rintro _ w50 ⟨rfl, hE50⟩
 refine ⟨_, rfl, fun a hS => ?_⟩
 have hE50x := hE0.trans0 hE50
 have hrowq := ((hF.ext0 hE50x).one q hqm).row
 have hBq : Blk w50 q.rb 40 #[I6 q.k, I6 ↑q.i, I6 q.t.kd, I6 q.t.nn, I6 q.t.lk, I6 q.t.ls, I6 q.t.ll, I6 q.t.lr, q.kv, I6 q.t.tt] := ((hF.ext0 hE50x).one q hqm).blk
 refine eff_box wide_wide (r := 1) (cs := #[.pointer none, I6 0, .slice none 0 0]) (T := 43) (d := (some 5)) hS (by kernel_rfl) fun a w5 hw6 hS => ?_
 have hB13 : Blk w5 (w50.heap.size) 43 #[.pointer none, I6 0, .slice none 0 0] := by rw [hw6]; exact Blk.new _ _ _
 have hs14 : w.heap.size ≤ w50.heap.size := hE50x.size
 have hE15 : Ext [] w w5 := by rw [hw6]; exact hE50x.alloc _
 refine eff_store wide_wide (r := 0) (b := w50.heap.size) (off := 0) (vs := [(Pv q.rb), I6 p, .slice pb st.length pc]) hS (by kernel_rfl) hB13 (by simp) fun a w16 hw17 hS => ?_
 have hE22 : Ext [] w w16 := by rw [hw17]; exact hE15.updIn (.inr hs14) _ _
 refine seg_end ?_
 refine hK2 _ _ ?_
 refine sq fun K23 hK23 => ?_
 refine sq fun K24 hK24 => ?_
 refine rgn 12 ?_
 refine sg wide_wide [.p, .as (.bool true), .p, .no, .no, .no, .no, .no, .no, .no, .no, .p] [Value.bool (decide ((i : Int) < 0)) = .bool true] [(0, (Pv cb)), (1, I6 i), (4, .bool false), (5, (Pv w50.heap.size)), (19, .bool true)] 12 0 hS (.cons (as_t (by omega)) .nil) fun a hS => ?_
 refine seg_end ?_
 refine hK24 _ _ ?_
 refine cond_t hS rfl ?_
 refine sq fun K25 hK25 => ?_
 refine rgn 1 ?_
 refine sg wide_wide [.p] [] [(0, (Pv cb)), (1, I6 i), (4, .bool false), (5, (Pv w50.heap.size)), (19, .bool true)] 1 0 hS .nil fun a hS => ?_
 refine seg_end ?_
 refine hK25 _ _ ?_
 refine wpIn_ret ?_
 refine then_ret ?_
 refine ret1 hS Try.results71 rfl ?_
 exact ⟨rfl, hE22⟩

theorem RDown_ge {s0 s1 cb pc : Nat} {L : List Rf} {r q : Rf} {st : List Stp} {p i : Int} {pb : Option Addr} {w : World} (hF : FOk w s0 s1 L) (hr : r ∈ L) (hj : JW r st q p) (hC : Blk w cb 85 #[(Pv r.rb), .slice pb st.length pc]) (hv : OwnV w 3 1 (.slice pb st.length pc) st.length (ints (idx st))) (hi : 0 ≤ i ∧ (q.kids.length : Int) ≤ i) :
  Calls Try.prog 71 #[(Pv cb), I6 i] w fun e w' => e = .returned (.bool false) ∧ Ext [] w w' := by
 have hbdr := hF.tt hr
 have hbq := hj.bd hF hr
 have hqm := hj.mem hF hr
 have hqt := hF.tt hqm
 have hqk := hF.kids_le hqm
 refine calls_body 29 [(0, (Pv cb)), (1, I6 i)] Try.func71 rfl (by kernel_rfl) (by kernel_rfl) (by kernel_rfl) fun a hS => ?_
 have hE0 : Ext [] w w := Ext.refl _ _
 refine sq fun K1 hK1 => ?_
 refine rgn 1 ?_
 refine sg wide_wide [.p] [] [(0, (Pv cb)), (1, I6 i), (4, .bool false)] 1 0 hS .nil fun a hS => ?_
 refine seg_end ?_
 refine hK1 _ _ ?_
 refine sq fun K2 hK2 => ?_
 refine rgn 4 ?_
 refine sg wide_wide [.p] [] [(0, (Pv cb)), (1, I6 i), (4, .bool false), (6, (Pv cb))] 1 3 hS .nil fun a hS => ?_
 refine eff_call wide_wide (r := 2) (f := 50) (vs := [(Pv cb)]) (cap := #[]) (d := (some 7)) hS (by kernel_rfl) Try.call50 #[(Pv cb)] (by kernel_rfl) (Spot_any (hF.ext0 hE0) hr hj hC (hv.ext0' hE0)) ?_
 rintro _ w50 ⟨rfl, hE50⟩
 refine ⟨_, rfl, fun a hS => ?_⟩
 have hE50x := hE0.trans0 hE50
 have hrowq := ((hF.ext0 hE50x).one q hqm).row
 have hBq : Blk w50 q.rb 40 #[I6 q.k, I6 ↑q.i, I6 q.t.kd, I6 q.t.nn, I6 q.t.lk, I6 q.t.ls, I6 q.t.ll, I6 q.t.lr, q.kv, I6 q.t.tt] := ((hF.ext0 hE50x).one q hqm).blk
 refine eff_box wide_wide (r := 1) (cs := #[.pointer none, I6 0, .slice none 0 0]) (T := 43) (d := (some 5)) hS (by kernel_rfl) fun a w5 hw6 hS => ?_
 have hn9 : q.rb ≠ w50.heap.size := Nat.ne_of_lt hBq.lt
 have hB12 := Blk.at' hw6 (hBq.alloc _)
 have hB13 : Blk w5 (w50.heap.size) 43 #[.pointer none, I6 0, .slice none 0 0] := by rw [hw6]; exact Blk.new _ _ _
 have hs14 : w.heap.size ≤ w50.heap.size := hE50x.size
 have hE15 : Ext [] w w5 := by rw [hw6]; exact hE50x.alloc _
 refine eff_store wide_wide (r := 0) (b := w50.heap.size) (off := 0) (vs := [(Pv q.rb), I6 p, .slice pb st.length pc]) hS (by kernel_rfl) hB13 (by simp) fun a w16 hw17 hS => ?_
 have hB20 := Blk.at' hw17 (hB12.updNe (Ne.symm hn9) _ _)
 have hB21 : Blk w16 w50.heap.size 43 (#[(Pv q.rb), I6 p, .slice pb st.length pc]) := by rw [hw17]; exact hB13.upd _ _
 have hE22 : Ext [] w w16 := by rw [hw17]; exact hE15.updIn (.inr hs14) _ _
 refine seg_end ?_
 refine hK2 _ _ ?_
 refine sq fun K23 hK23 => ?_
 refine sq fun K24 hK24 => ?_
 refine rgn 12 ?_
 refine sg wide_wide [.p, .as (.bool false), .p, .p, .p, .ld ((Pv q.rb)), .p, .p, .ld (q.kv), .run (I6 ↑q.kids.length), .as (.bool true), .p] [Value.bool (decide ((i : Int) < 0)) = .bool false, _, _, Ru Try.prog (vS (Builtin.len_ #[33] 3 #[q.kv])) (I6 ↑q.kids.length) w16, Value.bool (decide ((i : Int) ≥ ↑q.kids.length)) = .bool true] [(0, (Pv cb)), (1, I6 i), (4, .bool false), (5, (Pv w50.heap.size)), (19, .bool true)] 12 0 hS (.cons (as_f (by omega)) (.cons (hB21.cell 0 rfl) (.cons (hB20.cell 8 rfl) (.cons (run_len_own hrowq (by kernel_rfl)) (.cons (as_t (by omega)) .nil))))) fun a hS => ?_
 refine seg_end ?_
 refine hK24 _ _ ?_
 refine cond_t hS rfl ?_
 refine sq fun K25 hK25 => ?_
 refine rgn 1 ?_
 refine sg wide_wide [.p] [] [(0, (Pv cb)), (1, I6 i), (4, .bool false), (5, (Pv w50.heap.size)), (19, .bool true)] 1 0 hS .nil fun a hS => ?_
 refine seg_end ?_
 refine hK25 _ _ ?_
 refine wpIn_ret ?_
 refine then_ret ?_
 refine ret1 hS Try.results71 rfl ?_
 exact ⟨rfl, hE22⟩

theorem RDown_in {s0 s1 cb pc : Nat} {L : List Rf} {r q : Rf} {st : List Stp} {p : Int} {pb : Option Addr} {w : World} (hF : FOk w s0 s1 L) (hr : r ∈ L) (hj : JW r st q p) (hC : Blk w cb 85 #[(Pv r.rb), .slice pb st.length pc]) (hv : OwnV w 3 1 (.slice pb st.length pc) st.length (ints (idx st))) {k : Nat} (hk : k < q.kids.length) :
  Calls Try.prog 71 #[(Pv cb), I6 ↑k] w fun e w' => ∃ g c, e = .returned (.bool true) ∧ Blk w' cb 85 #[(Pv r.rb), .slice (some ⟨g, 0, none⟩) (st.length + 1) c] ∧ OwnR w' 3 1 g c (st.length + 1) (ints (idx st ++ [(k : Int)])) ∧ Ext [cb] w w' ∧ w.heap.size ≤ g := by
 have hbdr := hF.tt hr
 have hbq := hj.bd hF hr
 have hqm := hj.mem hF hr
 have hqt := hF.tt hqm
 have hqk := hF.kids_le hqm
 have hE0z : Ext [] w w := Ext.refl _ _
 refine calls_body 29 [(0, (Pv cb)), (1, I6 ↑k)] Try.func71 rfl (by kernel_rfl) (by kernel_rfl) (by kernel_rfl) fun a hS => ?_
 have hE0 : Ext [cb] w w := Ext.refl _ _
 refine sq fun K1 hK1 => ?_
 refine rgn 1 ?_
 refine sg wide_wide [.p] [] [(0, (Pv cb)), (1, I6 ↑k), (4, .bool false)] 1 0 hS .nil fun a hS => ?_
 refine seg_end ?_
 refine hK1 _ _ ?_
 refine sq fun K2 hK2 => ?_
 refine rgn 4 ?_
 refine sg wide_wide [.p] [] [(0, (Pv cb)), (1, I6 ↑k), (4, .bool false), (6, (Pv cb))] 1 3 hS .nil fun a hS => ?_
 have hEz := hE0z
 refine eff_call wide_wide (r := 2) (f := 50) (vs := [(Pv cb)]) (cap := #[]) (d := (some 7)) hS (by kernel_rfl) Try.call50 #[(Pv cb)] (by kernel_rfl) (Spot_any (hF.ext0 hE0z) hr hj hC (hv.ext0' hE0z)) ?_
 rintro _ w50 ⟨rfl, hE50⟩
 refine ⟨_, rfl, fun a hS => ?_⟩
 have hE50x : Ext [] w w50 := hE0z.trans0 hE50
 have hE50y := hE0.trans0 hE50
 have hB3 := hC.ext hE50 (by simp)
 have hB4 := hv.ext hE50 (by simp)
 have hG5 : Ext [] w w50 := hE0z.trans0 hE50
 have hrowq := ((hF.ext0 hE50x).one q hqm).row
 have hBq : Blk w50 q.rb 40 #[I6 q.k, I6 ↑q.i, I6 q.t.kd, I6 q.t.nn, I6 q.t.lk, I6 q.t.ls, I6 q.t.ll, I6 q.t.lr, q.kv, I6 q.t.tt] := ((hF.ext0 hE50x).one q hqm).blk
 refine eff_box wide_wide (r := 1) (cs := #[.pointer none, I6 0, .slice none 0 0]) (T := 43) (d := (some 5)) hS (by kernel_rfl) fun a w6 hw7 hS => ?_
 have hn8 : cb ≠ w50.heap.size := Nat.ne_of_lt hB3.lt
 have hn9 : ∀ x ∈ ob (.slice pb st.length pc), w50.heap.size ≠ x := fun x hx => Nat.ne_of_gt (hB4.lie x hx)
 have hn10 : q.rb ≠ w50.heap.size := Nat.ne_of_lt hBq.lt
 have hB11 := Blk.at' hw7 (hB3.alloc _)
 have hB12 := OwnV.at' hw7 (hB4.alloc _)
 have hB13 := Blk.at' hw7 (hBq.alloc _)
 have hX14 : Ext [] w50 w6 := by rw [hw7]; exact (Ext.refl _ _).alloc _
 have hG15 : Ext [] w w6 := hG5.trans0 hX14
 have hB16 : Blk w6 (w50.heap.size) 43 #[.pointer none, I6 0, .slice none 0 0] := by rw [hw7]; exact Blk.new _ _ _
 have hs17 : w.heap.size ≤ w50.heap.size := hE50y.size
 have hE18 : Ext [cb] w w6 := by rw [hw7]; exact hE50y.alloc _
 refine eff_store wide_wide (r := 0) (b := w50.heap.size) (off := 0) (vs := [(Pv q.rb), I6 p, .slice pb st.length pc]) hS (by kernel_rfl) hB16 (by simp) fun a w19 hw20 hS => ?_
 have hB21 := Blk.at' hw20 (hB11.updNe (Ne.symm hn8) _ _)
 have hB22 := OwnV.at' hw20 (hB12.updNe hn9 _ _)
 have hB23 := Blk.at' hw20 (hB13.updNe (Ne.symm hn10) _ _)
 have hB24 : Blk w19 w50.heap.size 43 (#[(Pv q.rb), I6 p, .slice pb st.length pc]) := by rw [hw20]; exact hB16.upd _ _
 have hX25 : Ext [w50.heap.size] w6 w19 := by rw [hw20]; exact (Ext.refl _ _).updIn (.inl (by simp)) _ _
 have hG26 : Ext [] w w19 := hG15.trans hX25 (by intro b hb; obtain rfl := (by simpa using hb : b = w50.heap.size); exact .inr hs17)
 have hE27 : Ext [cb] w w19 := by rw [hw20]; exact hE18.updIn (.inr hs17) _ _
 refine seg_end ?_
 refine hK2 _ _ ?_
 refine sq fun K28 hK28 => ?_
 refine sq fun K29 hK29 => ?_
 refine rgn 12 ?_
 refine sg wide_wide [.p, .as (.bool false), .p, .p, .p, .ld ((Pv q.rb)), .p, .p, .ld (q.kv), .run (I6 ↑q.kids.length), .as (.bool false), .p] [Value.bool (decide ((↑k : Int) < 0)) = .bool false, _, _, Ru Try.prog (vS (Builtin.len_ #[33] 3 #[q.kv])) (I6 ↑q.kids.length) w19, Value.bool (decide ((↑k : Int) ≥ ↑q.kids.length)) = .bool false] [(0, (Pv cb)), (1, I6 ↑k), (4, .bool false), (5, (Pv w50.heap.size)), (19, .bool false)] 12 0 hS (.cons (as_f (by omega)) (.cons (hB24.cell 0 rfl) (.cons (hB23.cell 8 rfl) (.cons (run_len_own hrowq (by kernel_rfl)) (.cons (as_f (by omega)) .nil))))) fun a hS => ?_
 refine seg_end ?_
 refine hK29 _ _ ?_
 refine cond_f hS rfl ?_
 refine wpIn_skip ?_
 refine hK28 _ _ ?_
 refine sq fun K30 hK30 => ?_
 refine rgn 10 ?_
 refine sg wide_wide [.p, .p, .p, .p, .ld (.slice pb st.length pc), .p] [_] [(0, (Pv cb)), (1, I6 ↑k), (4, .bool false), (5, (Pv w50.heap.size)), (19, .bool false), (20, (Pv cb)), (24, .slice pb st.length pc), (25, I6 ↑k)] 6 4 hS (.cons (hB21.cell 1 rfl) .nil) fun a hS => ?_
 refine eff_call wide_wide (r := 3) (f := 76) (vs := [.slice pb st.length pc, I6 ↑k]) (cap := #[]) (d := (some 26)) hS (by kernel_rfl) Try.call76 #[.slice pb st.length pc, I6 ↑k] (by kernel_rfl) (With_any (xs := idx st) (x := (k : Int)) (hB22) (by omega)) ?_
 rintro _ w76 ⟨g, c, rfl, hO76, hE76, hg76⟩
 refine ⟨_, rfl, fun a hS => ?_⟩
 have hE76x := hE27.trans0 hE76
 have hB31 := hB21.ext hE76 (by simp)
 have hg76n : w.heap.size ≤ g := Nat.le_trans hE27.size hg76
 refine sg wide_wide [.p, .p] [] [(0, (Pv cb)), (1, I6 ↑k), (4, .bool false), (5, (Pv w50.heap.size)), (19, .bool false), (26, .slice (some ⟨g, 0, none⟩) (st.length + 1) c), (28, (Po cb 1))] 9 1 hS .nil fun a hS => ?_
 refine eff_store wide_wide (r := 0) (b := cb) (off := 1) (vs := [.slice (some ⟨g, 0, none⟩) (st.length + 1) c]) hS (by kernel_rfl) hB31 (by simp) fun a w35 hw36 hS => ?_
 have hB37 : Blk w35 cb 85 (#[(Pv r.rb), .slice (some ⟨g, 0, none⟩) (st.length + 1) c]) := by rw [hw36]; exact hB31.upd _ _
 have hB41 := OwnR.at' hw36 (hO76.updNe ((OwnR.ne_type hO76 hB31 (by decide)).symm) _ _)
 have hE42 : Ext [cb] w w35 := by rw [hw36]; exact hE76x.updIn (.inl (by simp)) _ _
 refine seg_end ?_
 refine hK30 _ _ ?_
 refine sq fun K43 hK43 => ?_
 refine rgn 1 ?_
 refine sg wide_wide [.p] [] [(0, (Pv cb)), (1, I6 ↑k), (4, .bool true), (5, (Pv w50.heap.size)), (19, .bool false)] 1 0 hS .nil fun a hS => ?_
 refine seg_end ?_
 refine hK43 _ _ ?_
 refine wpIn_ret ?_
 refine ret1 hS Try.results71 rfl ?_
 exact ⟨g, c, rfl, hB37, hB41, hE42, hg76n⟩

theorem RUp_0 {cb pc : Nat} {r : Rf} {pb : Option Addr} {w : World} (hC : Blk w cb 85 #[(Pv r.rb), .slice pb 0 pc]) :
  Calls Try.prog 72 #[(Pv cb)] w fun e w' => e = .returned (.bool false) ∧ w' = w := by
 refine calls_body 23 [(0, (Pv cb))] Try.func72 rfl (by kernel_rfl) (by kernel_rfl) (by kernel_rfl) fun a hS => ?_
 refine sq fun K1 hK1 => ?_
 refine rgn 1 ?_
 refine sg wide_wide [.p] [] [(0, (Pv cb)), (2, .bool false)] 1 0 hS .nil fun a hS => ?_
 refine seg_end ?_
 refine hK1 _ _ ?_
 refine sq fun K2 hK2 => ?_
 refine sq fun K3 hK3 => ?_
 refine rgn 6 ?_
 refine sg wide_wide [.p, .p, .p, .ld (.slice pb 0 pc), .p, .p] [_] [(0, (Pv cb)), (2, .bool false), (8, .bool true)] 6 0 hS (.cons (hC.cell 1 rfl) .nil) fun a hS => ?_
 refine seg_end ?_
 refine hK3 _ _ ?_
 refine cond_t hS rfl ?_
 refine sq fun K4 hK4 => ?_
 refine rgn 1 ?_
 refine sg wide_wide [.p] [] [(0, (Pv cb)), (2, .bool false), (8, .bool true)] 1 0 hS .nil fun a hS => ?_
 refine seg_end ?_
 refine hK4 _ _ ?_
 refine wpIn_ret ?_
 refine then_ret ?_
 refine ret1 hS Try.results72 rfl ?_
 exact ⟨rfl, rfl⟩

theorem RUp_1 {cb pc : Nat} {r : Rf} {st : List Stp} {z : Int} {pb : Option Addr} {w : World} (hC : Blk w cb 85 #[(Pv r.rb), .slice pb (st.length + 1) pc]) (hv : OwnV w 3 1 (.slice pb (st.length + 1) pc) (st.length + 1) (ints (idx st ++ [z]))) (hl : st.length ≤ 1000000000) :
  Calls Try.prog 72 #[(Pv cb)] w fun e w' => e = .returned (.bool true) ∧ Blk w' cb 85 #[(Pv r.rb), .slice pb st.length pc] ∧ OwnV w' 3 1 (.slice pb st.length pc) st.length (ints (idx st)) ∧ Ext [cb] w w' := by
 refine calls_body 23 [(0, (Pv cb))] Try.func72 rfl (by kernel_rfl) (by kernel_rfl) (by kernel_rfl) fun a hS => ?_
 have hE0 : Ext [cb] w w := Ext.refl _ _
 refine sq fun K1 hK1 => ?_
 refine rgn 1 ?_
 refine sg wide_wide [.p] [] [(0, (Pv cb)), (2, .bool false)] 1 0 hS .nil fun a hS => ?_
 refine seg_end ?_
 refine hK1 _ _ ?_
 refine sq fun K2 hK2 => ?_
 refine sq fun K3 hK3 => ?_
 refine rgn 6 ?_
 refine sg wide_wide [.p, .p, .p, .ld (.slice pb (st.length + 1) pc), .p, .as (.bool false)] [_, Value.bool (((((st.length + 1 : Nat) : Int) : Int) == 0)) = .bool false] [(0, (Pv cb)), (2, .bool false), (8, .bool false)] 6 0 hS (.cons (hC.cell 1 rfl) (.cons (as_eq_f (by omega)) .nil)) fun a hS => ?_
 refine seg_end ?_
 refine hK3 _ _ ?_
 refine cond_f hS rfl ?_
 refine wpIn_skip ?_
 refine hK2 _ _ ?_
 refine sq fun K4 hK4 => ?_
 refine region_fn2 wide_wide [.q .p, .q .p, .q .p, .q .p, .q (.ld (.slice pb (st.length + 1) pc)), .q .p, .q .p, .q .p, .q (.ld (.slice pb (st.length + 1) pc)), .q .p, .q (.as (I6 ↑st.length)), .q (.run (.slice pb st.length pc)), .q .p, .q .p, .e] [0, 0, 0, 0, 0, 0, 0, 0, 0, 0, 0, 0, 0, 0, 0] [0, 0, 0, 0, 0, 0, 0, 0, 0, 0, 0, 0, 0, 0, 0] [0, 0, 2, 6, 14, 0, 32, 96, 224, 480, 992, 2046, 4095, 8191, 16383] [14] 1 ([(0, (Pv cb)), (2, .bool false), (8, .bool false), (9, (Pv cb)), (10, (Pv cb)), (11, (Pv cb)), (12, (Po cb 1)), (13, .slice pb (st.length + 1) pc), (14, (Pv cb)), (15, (Pv cb)), (16, (Po cb 1)), (17, .slice pb (st.length + 1) pc), (18, I6 ((st.length + 1 : Nat) : Int)), (19, I6 ↑st.length), (20, .slice pb st.length pc), (21, (Pv cb)), (22, (Po cb 1))]) [w.drew, upd (w.drew) (cb) 85 #[(Pv r.rb), .slice pb st.length pc]] w.drew (fun w' => [(4, [w'.cell? ⟨cb, 1, none⟩ = some (.slice pb (st.length + 1) pc)]), (8, [w'.cell? ⟨cb, 1, none⟩ = some (.slice pb (st.length + 1) pc)]), (10, [Value.int .i64 (IntKind.i64.wrap (((st.length + 1 : Nat) : Int) - 1)) = I6 ↑st.length]), (11, [Ru Try.prog (vS (Instr.sliceAt 41 (.slice pb (st.length + 1) pc) none (some (I6 ↑st.length)) none)) (.slice pb st.length pc) w'])]) [0, 2, 8] [] hS (by kernel_rfl) (by kernel_rfl) (by kernel_rfl) (by kernel_rfl) (fun _ => by kernel_rfl) (by kernel_rfl) (by kernel_rfl) (by kernel_rfl) ?_ ?_ ?_
 ·intro e w' hw
  refine (.cons ?_ (.cons ?_ (.cons ?_ (.cons ?_ .nil))))
  ·intro h1 h2
   obtain rfl : e = 0 := Nat.le_antisymm h2 h1
   obtain rfl : w' = w.drew := hw.trans (by kernel_rfl)
   exact (.cons ((hC.drew : Blk w.drew cb 85 (#[(Pv r.rb), .slice pb (st.length + 1) pc])).cell 1 rfl) .nil)
  ·intro h1 h2
   obtain rfl : e = 0 := Nat.le_antisymm h2 h1
   obtain rfl : w' = w.drew := hw.trans (by kernel_rfl)
   exact (.cons ((hC.drew : Blk w.drew cb 85 (#[(Pv r.rb), .slice pb (st.length + 1) pc])).cell 1 rfl) .nil)
  ·exact fun _ _ => (.cons ((by rw [show (((st.length + 1 : Nat) : Int) - 1 : Int) = ↑st.length from by omega]; exact as_i64 (by omega))) .nil)
  ·exact fun _ _ => (.cons (sl_own (k := st.length) (hv) (by kernel_rfl) (by kernel_rfl) rfl (by omega)) .nil)
 ·refine (.cons ?eq5_14 .nil)
  ·refine eff_at (w.drew) (upd (w.drew) (cb) 85 #[(Pv r.rb), .slice pb st.length pc]) (by kernel_rfl) (by kernel_rfl) ?_
   exact upon_store (b := cb) (off := 1) (vs := [.slice pb st.length pc]) (by kernel_rfl) (hC.drew : Blk w.drew cb 85 (#[(Pv r.rb), .slice pb (st.length + 1) pc])) (by simp) ⟨by kernel_rfl, by kernel_rfl⟩
 rintro a w6 hS hw7
 replace hw7 : w6 = upd (w.drew) (cb) 85 #[(Pv r.rb), .slice pb st.length pc] := hw7.trans (by kernel_rfl)
 have hB8 : Blk w6 cb 85 (#[(Pv r.rb), .slice pb st.length pc]) := by rw [hw7]; exact (hC.drew).upd _ _
 have hB9 := OwnV.at' hw7 ((hv.drew).updNe (OwnV.ne hv hC (by decide)) _ _)
 have hE10 : Ext [cb] w w6 := by rw [hw7]; exact (hE0.drew).updIn (.inl (by simp)) _ _
 replace hS := hS.kp [(0, (Pv cb)), (2, .bool false), (8, .bool false)]
 refine hK4 _ _ ?_
 refine sq fun K11 hK11 => ?_
 refine rgn 1 ?_
 refine sg wide_wide [.p] [] [(0, (Pv cb)), (2, .bool true), (8, .bool false)] 1 0 hS .nil fun a hS => ?_
 refine seg_end ?_
 refine hK11 _ _ ?_
 refine wpIn_ret ?_
 refine ret1 hS Try.results72 rfl ?_
 exact ⟨rfl, hB8, (by have h := OwnV.take hB9 (k := st.length) (by omega); rw [show st.length * 1 = (ints (idx st)).length by simp [ints, idx], show ints (idx st ++ [z]) = ints (idx st) ++ [I6 z] by simp [ints], List.take_left] at h; exact h), hE10⟩

theorem RBeside_0 {cb pc : Nat} {r : Rf} {by_ : Int} {pb : Option Addr} {w : World} (hC : Blk w cb 85 #[(Pv r.rb), .slice pb 0 pc]) :
  Calls Try.prog 73 #[(Pv cb), I6 by_] w fun e w' => e = .returned (.bool false) ∧ w' = w := by
 refine calls_body 63 [(0, (Pv cb)), (1, I6 by_)] Try.func73 rfl (by kernel_rfl) (by kernel_rfl) (by kernel_rfl) fun a hS => ?_
 refine sq fun K1 hK1 => ?_
 refine rgn 1 ?_
 refine sg wide_wide [.p] [] [(0, (Pv cb)), (1, I6 by_), (4, .bool false)] 1 0 hS .nil fun a hS => ?_
 refine seg_end ?_
 refine hK1 _ _ ?_
 refine sq fun K2 hK2 => ?_
 refine sq fun K3 hK3 => ?_
 refine rgn 6 ?_
 refine sg wide_wide [.p, .p, .p, .ld (.slice pb 0 pc), .p, .p] [_] [(0, (Pv cb)), (1, I6 by_), (4, .bool false), (13, .bool true)] 6 0 hS (.cons (hC.cell 1 rfl) .nil) fun a hS => ?_
 refine seg_end ?_
 refine hK3 _ _ ?_
 refine cond_t hS rfl ?_
 refine sq fun K4 hK4 => ?_
 refine rgn 1 ?_
 refine sg wide_wide [.p] [] [(0, (Pv cb)), (1, I6 by_), (4, .bool false), (13, .bool true)] 1 0 hS .nil fun a hS => ?_
 refine seg_end ?_
 refine hK4 _ _ ?_
 refine wpIn_ret ?_
 refine then_ret ?_
 refine ret1 hS Try.results73 rfl ?_
 exact ⟨rfl, rfl⟩

theorem RBeside_lt {s0 s1 cb pc k : Nat} {L : List Rf} {r q : Rf} {st : List Stp} {p by_ : Int} {pb : Option Addr} {w : World} (hF : FOk w s0 s1 L) (hr : r ∈ L) (hj : JW r st q p) (hC : Blk w cb 85 #[(Pv r.rb), .slice pb (st.length + 1) pc]) (hv : OwnV w 3 1 (.slice pb (st.length + 1) pc) (st.length + 1) (ints (idx st ++ [(k : Int)]))) (hk : k < 1000000000) (hby : -10 ≤ by_ ∧ by_ ≤ 10) (hi : (k : Int) + by_ < 0) :
  Calls Try.prog 73 #[(Pv cb), I6 by_] w fun e w' => e = .returned (.bool false) ∧ Ext [] w w' := by
 have hbdr := hF.tt hr
 have hbq := hj.bd hF hr
 have hqm := hj.mem hF hr
 have hqt := hF.tt hqm
 have hqk := hF.kids_le hqm
 have hv0 : OwnV w 3 1 (.slice pb st.length pc) st.length (ints (idx st)) := (by have h := OwnV.take hv (k := st.length) (by omega); rw [show st.length * 1 = (ints (idx st)).length by simp [ints, idx], show ints (idx st ++ [(k : Int)]) = ints (idx st) ++ [I6 (k : Int)] by simp [ints], List.take_left] at h; exact h)
 have hE0z : Ext [] w w := Ext.refl _ _
 have hpk : (ints (idx st ++ [(k : Int)]))[0 + st.length * 1]? = some (I6 (k : Int)) := by simp [ints, idx]
 refine calls_body 63 [(0, (Pv cb)), (1, I6 by_)] Try.func73 rfl (by kernel_rfl) (by kernel_rfl) (by kernel_rfl) fun a hS => ?_
 have hE0 : Ext [] w w := Ext.refl _ _
 refine sq fun K1 hK1 => ?_
 refine rgn 1 ?_
 refine sg wide_wide [.p] [] [(0, (Pv cb)), (1, I6 by_), (4, .bool false)] 1 0 hS .nil fun a hS => ?_
 refine seg_end ?_
 refine hK1 _ _ ?_
 refine sq fun K2 hK2 => ?_
 refine sq fun K3 hK3 => ?_
 refine rgn 6 ?_
 refine sg wide_wide [.p, .p, .p, .ld (.slice pb (st.length + 1) pc), .p, .as (.bool false)] [_, Value.bool (((((st.length + 1 : Nat) : Int) : Int) == 0)) = .bool false] [(0, (Pv cb)), (1, I6 by_), (4, .bool false), (13, .bool false)] 6 0 hS (.cons (hC.cell 1 rfl) (.cons (as_eq_f (by omega)) .nil)) fun a hS => ?_
 refine seg_end ?_
 refine hK3 _ _ ?_
 refine cond_f hS rfl ?_
 refine wpIn_skip ?_
 refine hK2 _ _ ?_
 refine sq fun K4 hK4 => ?_
 refine rgn 7 ?_
 refine sg wide_wide [.p, .p, .p, .ld (.slice pb (st.length + 1) pc), .p, .as (I6 ↑st.length), .p] [_, Value.int .i64 (IntKind.i64.wrap (((st.length + 1 : Nat) : Int) - 1)) = I6 ↑st.length] [(0, (Pv cb)), (1, I6 by_), (4, .bool false), (13, .bool false), (5, I6 ↑st.length)] 7 0 hS (.cons (hC.cell 1 rfl) (.cons ((by rw [show (((st.length + 1 : Nat) : Int) - 1 : Int) = ↑st.length from by omega]; exact as_i64 (by omega))) .nil)) fun a hS => ?_
 refine seg_end ?_
 refine hK4 _ _ ?_
 refine sq fun K5 hK5 => ?_
 have hF4 := hF.ext0 hE0z
 have hv4 := hv0.ext0' hE0z
 refine region_set (G := Nat) wide_wide [.q .p, .q .p, .q .p, .q (.ld ((Pv r.rb))), .q .p, .q .p, .q .p, .q (.ld (.slice pb (st.length + 1) pc)), .q .p, .q (.run (.slice pb st.length pc)), .e, .e, .e] [0, 1, 3, 7, 0, 16, 48, 112, 0, 496, 1023, 0, 4095] [10, 11, 12] (fun x4_11 => ([(0, (Pv cb)), (1, I6 by_), (4, .bool false), (13, .bool false), (5, I6 ↑st.length), (20, (Pv cb)), (21, (Pv cb)), (22, (Pv cb)), (23, (Pv r.rb)), (24, (Pv cb)), (25, (Pv cb)), (26, (Po cb 1)), (27, .slice pb (st.length + 1) pc), (28, I6 ↑st.length), (29, .slice pb st.length pc), (30, .agg #[(Pv q.rb), I6 p, .slice pb st.length pc]), (6, (Pv x4_11))] : Fm)) (fun D x4_11 w' => Ext [] w w' ∧ (D 12 = false → (D 11 = true → (Blk w' x4_11 43 (#[.pointer none, I6 0, .slice none 0 0]) ∧ w.heap.size ≤ x4_11)) ∧ True) ∧ (D 12 = true → (Blk w' x4_11 43 (#[(Pv q.rb), I6 p, .slice pb st.length pc]) ∧ w.heap.size ≤ x4_11) ∧ True)) (fun x4_11 w' => [(3, [w'.cell? ⟨cb, 0, none⟩ = some ((Pv r.rb))]), (7, [w'.cell? ⟨cb, 1, none⟩ = some (.slice pb (st.length + 1) pc)]), (9, [Ru Try.prog (vS (Instr.sliceAt 41 (.slice pb (st.length + 1) pc) none (some (I6 ↑st.length)) none)) (.slice pb st.length pc) w'])]) 0 [0, 1, 4, 13, 5] [] hS (by kernel_rfl) (by kernel_rfl) (by kernel_rfl) (by kernel_rfl) (fun x4_11 _ => by kernel_rfl) (by kernel_rfl) (by kernel_rfl) ⟨(Ext.refl _ _).drew, fun _ => ⟨fun h => (by cases h), trivial⟩, fun h => by cases h⟩ ?_ ?_ ?_
 ·rintro D x4_11 w' ⟨hE, _, _⟩ xq hxq _ _
  refine AllI.mem ?_ xq hxq
  exact (.cons (.cons (((hC.ext hE (by simp)) : Blk w' cb 85 (#[(Pv r.rb), .slice pb (st.length + 1) pc])).cell 0 rfl) .nil) (.cons (.cons (((hC.ext hE (by simp)) : Blk w' cb 85 (#[(Pv r.rb), .slice pb (st.length + 1) pc])).cell 1 rfl) .nil) (.cons (.cons (sl_own (k := st.length) (hv) (by kernel_rfl) (by kernel_rfl) rfl (by omega)) .nil) .nil)))
 ·refine (.cons ?_ (.cons ?_ (.cons ?_ .nil)))
  ·rintro D x4_11 w' ⟨hE, hA, hB⟩ hDi hdp hnd
   have hDf : D 12 = false := hnd 12 (by simp) (by decide)
   obtain ⟨hA11, _⟩ := hA hDf
   refine upon_call (f := 75) (vs := [(Pv r.rb), .slice pb st.length pc]) (cap := #[]) (d := (some 30)) (by kernel_rfl) Try.call75 #[(Pv r.rb), .slice pb st.length pc] (by kernel_rfl) (Find_any (hF4.ext0 hE) hr hj (hv4.ext0' hE)) ?_
   rintro _ w75 ⟨rfl, hEn⟩
   refine ⟨_, rfl, (x4_11), by kernel_rfl, by kernel_rfl, hE.trans0 hEn, fun _ => ⟨fun h => ⟨(hA11 h).1.ext hEn (by simp), (hA11 h).2⟩, trivial⟩, fun h => ?_⟩
   rw [show setS D 10 12 = D 12 from rfl, hDf] at h; cases h
  ·rintro D x4_11 w' ⟨hE, hA, hB⟩ hDi hdp hnd
   have hDf : D 12 = false := hnd 12 (by simp) (by decide)
   obtain ⟨hA11, _⟩ := hA hDf
   have hEn : Ext [] w' (w'.alloc (.cells #[.pointer none, I6 0, .slice none 0 0] 43)) := (Ext.refl _ _).alloc _
   refine upon_box (nb := w'.heap.size) (cs := #[.pointer none, I6 0, .slice none 0 0]) (T := 43) (d := (some 6)) (by kernel_rfl) rfl ⟨(w'.heap.size), by kernel_rfl, by kernel_rfl, hE.trans0 hEn, fun _ => ⟨fun _ => ⟨Blk.new _ _ _, hE.size⟩, trivial⟩, fun h => ?_⟩
   rw [show setS D 11 12 = D 12 from rfl, hDf] at h; cases h
  ·rintro D x4_11 w' ⟨hE, hA, hB⟩ hDi hdp hnd
   obtain ⟨hA11, _⟩ := hA hDi
   obtain ⟨hf11, hs11⟩ := hA11 (hdp 11 (by simp) (by decide))
   refine upon_store (b := x4_11) (off := 0) (vs := [(Pv q.rb), I6 p, .slice pb st.length pc]) (by kernel_rfl) hf11 (by simp) ⟨x4_11, by kernel_rfl, by kernel_rfl, hE.updIn (.inr hs11) _ _, fun h => ?_, fun _ => ⟨⟨hf11.upd _ _, hs11⟩, trivial⟩⟩
   rw [setS_self] at h; cases h
 rintro D x4_11 a wz6 hS hall ⟨hEz6, _, hB⟩
 obtain ⟨⟨hz6_11, hy6_11⟩, _⟩ := hB (hall 12 (by simp))
 have hB7 := hC.ext hEz6 (by simp)
 have hB8 := hv.ext hEz6 (by simp)
 have hw6_11 : w.heap.size ≤ x4_11 := Nat.le_trans hE0.size hy6_11
 have hE9 := hE0.trans0 hEz6
 replace hS := hS.kp [(0, (Pv cb)), (1, I6 by_), (4, .bool false), (13, .bool false), (5, I6 ↑st.length), (6, (Pv x4_11))]
 refine hK5 _ _ ?_
 refine sq fun K10 hK10 => ?_
 refine rgn 10 ?_
 refine sg wide_wide [.p, .p, .p, .ld (.slice pb (st.length + 1) pc), .p, .run ((Po (bof (.slice pb (st.length + 1) pc)) (0 + st.length * 1))), .ld (I6 ↑k), .p, .as (I6 (↑k + by_)), .p] [_, Ru Try.prog (vS (Instr.indexAt 41 (.slice pb (st.length + 1) pc) (I6 ↑st.length))) ((Po (bof (.slice pb (st.length + 1) pc)) (0 + st.length * 1))) wz6, wz6.cell? ⟨bof (.slice pb (st.length + 1) pc), 0 + st.length * 1, none⟩ = some (I6 ↑k), Value.int .i64 (IntKind.i64.wrap (↑k + by_)) = I6 (↑k + by_)] [(0, (Pv cb)), (1, I6 by_), (4, .bool false), (13, .bool false), (5, I6 ↑st.length), (6, (Pv x4_11)), (7, I6 (↑k + by_))] 10 0 hS (.cons (hB7.cell 1 rfl) (.cons (ix_own (j := st.length) (hB8) (by kernel_rfl) (by kernel_rfl) rfl (by omega)) (.cons ((hB8).cellAt _ hpk) (.cons (as_i64 (by omega)) .nil)))) fun a hS => ?_
 refine seg_end ?_
 refine hK10 _ _ ?_
 refine sq fun K11 hK11 => ?_
 refine sq fun K12 hK12 => ?_
 have hrowq := ((hF.ext0 hE9).one q hqm).row
 have hBq : Blk wz6 q.rb 40 #[I6 q.k, I6 ↑q.i, I6 q.t.kd, I6 q.t.nn, I6 q.t.lk, I6 q.t.ls, I6 q.t.ll, I6 q.t.lr, q.kv, I6 q.t.tt] := ((hF.ext0 hE9).one q hqm).blk
 refine rgn 12 ?_
 refine sg wide_wide [.p, .as (.bool true), .p, .no, .no, .no, .no, .no, .no, .no, .no, .p] [Value.bool (decide ((↑k + by_ : Int) < 0)) = .bool true] [(0, (Pv cb)), (1, I6 by_), (4, .bool false), (13, .bool false), (5, I6 ↑st.length), (6, (Pv x4_11)), (7, I6 (↑k + by_)), (51, .bool true)] 12 0 hS (.cons (as_t (by omega)) .nil) fun a hS => ?_
 refine seg_end ?_
 refine hK12 _ _ ?_
 refine cond_t hS rfl ?_
 refine sq fun K13 hK13 => ?_
 refine rgn 1 ?_
 refine sg wide_wide [.p] [] [(0, (Pv cb)), (1, I6 by_), (4, .bool false), (13, .bool false), (5, I6 ↑st.length), (6, (Pv x4_11)), (7, I6 (↑k + by_)), (51, .bool true)] 1 0 hS .nil fun a hS => ?_
 refine seg_end ?_
 refine hK13 _ _ ?_
 refine wpIn_ret ?_
 refine then_ret ?_
 refine ret1 hS Try.results73 rfl ?_
 exact ⟨rfl, hE9⟩

theorem RBeside_ge {s0 s1 cb pc k : Nat} {L : List Rf} {r q : Rf} {st : List Stp} {p by_ : Int} {pb : Option Addr} {w : World} (hF : FOk w s0 s1 L) (hr : r ∈ L) (hj : JW r st q p) (hC : Blk w cb 85 #[(Pv r.rb), .slice pb (st.length + 1) pc]) (hv : OwnV w 3 1 (.slice pb (st.length + 1) pc) (st.length + 1) (ints (idx st ++ [(k : Int)]))) (hk : k < 1000000000) (hby : -10 ≤ by_ ∧ by_ ≤ 10) (hi : 0 ≤ (k : Int) + by_ ∧ (q.kids.length : Int) ≤ (k : Int) + by_) :
  Calls Try.prog 73 #[(Pv cb), I6 by_] w fun e w' => e = .returned (.bool false) ∧ Ext [] w w' := by
 have hbdr := hF.tt hr
 have hbq := hj.bd hF hr
 have hqm := hj.mem hF hr
 have hqt := hF.tt hqm
 have hqk := hF.kids_le hqm
 have hv0 : OwnV w 3 1 (.slice pb st.length pc) st.length (ints (idx st)) := (by have h := OwnV.take hv (k := st.length) (by omega); rw [show st.length * 1 = (ints (idx st)).length by simp [ints, idx], show ints (idx st ++ [(k : Int)]) = ints (idx st) ++ [I6 (k : Int)] by simp [ints], List.take_left] at h; exact h)
 have hE0z : Ext [] w w := Ext.refl _ _
 have hpk : (ints (idx st ++ [(k : Int)]))[0 + st.length * 1]? = some (I6 (k : Int)) := by simp [ints, idx]
 refine calls_body 63 [(0, (Pv cb)), (1, I6 by_)] Try.func73 rfl (by kernel_rfl) (by kernel_rfl) (by kernel_rfl) fun a hS => ?_
 have hE0 : Ext [] w w := Ext.refl _ _
 refine sq fun K1 hK1 => ?_
 refine rgn 1 ?_
 refine sg wide_wide [.p] [] [(0, (Pv cb)), (1, I6 by_), (4, .bool false)] 1 0 hS .nil fun a hS => ?_
 refine seg_end ?_
 refine hK1 _ _ ?_
 refine sq fun K2 hK2 => ?_
 refine sq fun K3 hK3 => ?_
 refine rgn 6 ?_
 refine sg wide_wide [.p, .p, .p, .ld (.slice pb (st.length + 1) pc), .p, .as (.bool false)] [_, Value.bool (((((st.length + 1 : Nat) : Int) : Int) == 0)) = .bool false] [(0, (Pv cb)), (1, I6 by_), (4, .bool false), (13, .bool false)] 6 0 hS (.cons (hC.cell 1 rfl) (.cons (as_eq_f (by omega)) .nil)) fun a hS => ?_
 refine seg_end ?_
 refine hK3 _ _ ?_
 refine cond_f hS rfl ?_
 refine wpIn_skip ?_
 refine hK2 _ _ ?_
 refine sq fun K4 hK4 => ?_
 refine rgn 7 ?_
 refine sg wide_wide [.p, .p, .p, .ld (.slice pb (st.length + 1) pc), .p, .as (I6 ↑st.length), .p] [_, Value.int .i64 (IntKind.i64.wrap (((st.length + 1 : Nat) : Int) - 1)) = I6 ↑st.length] [(0, (Pv cb)), (1, I6 by_), (4, .bool false), (13, .bool false), (5, I6 ↑st.length)] 7 0 hS (.cons (hC.cell 1 rfl) (.cons ((by rw [show (((st.length + 1 : Nat) : Int) - 1 : Int) = ↑st.length from by omega]; exact as_i64 (by omega))) .nil)) fun a hS => ?_
 refine seg_end ?_
 refine hK4 _ _ ?_
 refine sq fun K5 hK5 => ?_
 have hF4 := hF.ext0 hE0z
 have hv4 := hv0.ext0' hE0z
 refine region_set (G := Nat) wide_wide [.q .p, .q .p, .q .p, .q (.ld ((Pv r.rb))), .q .p, .q .p, .q .p, .q (.ld (.slice pb (st.length + 1) pc)), .q .p, .q (.run (.slice pb st.length pc)), .e, .e, .e] [0, 1, 3, 7, 0, 16, 48, 112, 0, 496, 1023, 0, 4095] [10, 11, 12] (fun x4_11 => ([(0, (Pv cb)), (1, I6 by_), (4, .bool false), (13, .bool false), (5, I6 ↑st.length), (20, (Pv cb)), (21, (Pv cb)), (22, (Pv cb)), (23, (Pv r.rb)), (24, (Pv cb)), (25, (Pv cb)), (26, (Po cb 1)), (27, .slice pb (st.length + 1) pc), (28, I6 ↑st.length), (29, .slice pb st.length pc), (30, .agg #[(Pv q.rb), I6 p, .slice pb st.length pc]), (6, (Pv x4_11))] : Fm)) (fun D x4_11 w' => Ext [] w w' ∧ (D 12 = false → (D 11 = true → (Blk w' x4_11 43 (#[.pointer none, I6 0, .slice none 0 0]) ∧ w.heap.size ≤ x4_11)) ∧ True) ∧ (D 12 = true → (Blk w' x4_11 43 (#[(Pv q.rb), I6 p, .slice pb st.length pc]) ∧ w.heap.size ≤ x4_11) ∧ True)) (fun x4_11 w' => [(3, [w'.cell? ⟨cb, 0, none⟩ = some ((Pv r.rb))]), (7, [w'.cell? ⟨cb, 1, none⟩ = some (.slice pb (st.length + 1) pc)]), (9, [Ru Try.prog (vS (Instr.sliceAt 41 (.slice pb (st.length + 1) pc) none (some (I6 ↑st.length)) none)) (.slice pb st.length pc) w'])]) 0 [0, 1, 4, 13, 5] [] hS (by kernel_rfl) (by kernel_rfl) (by kernel_rfl) (by kernel_rfl) (fun x4_11 _ => by kernel_rfl) (by kernel_rfl) (by kernel_rfl) ⟨(Ext.refl _ _).drew, fun _ => ⟨fun h => (by cases h), trivial⟩, fun h => by cases h⟩ ?_ ?_ ?_
 ·rintro D x4_11 w' ⟨hE, _, _⟩ xq hxq _ _
  refine AllI.mem ?_ xq hxq
  exact (.cons (.cons (((hC.ext hE (by simp)) : Blk w' cb 85 (#[(Pv r.rb), .slice pb (st.length + 1) pc])).cell 0 rfl) .nil) (.cons (.cons (((hC.ext hE (by simp)) : Blk w' cb 85 (#[(Pv r.rb), .slice pb (st.length + 1) pc])).cell 1 rfl) .nil) (.cons (.cons (sl_own (k := st.length) (hv) (by kernel_rfl) (by kernel_rfl) rfl (by omega)) .nil) .nil)))
 ·refine (.cons ?_ (.cons ?_ (.cons ?_ .nil)))
  ·rintro D x4_11 w' ⟨hE, hA, hB⟩ hDi hdp hnd
   have hDf : D 12 = false := hnd 12 (by simp) (by decide)
   obtain ⟨hA11, _⟩ := hA hDf
   refine upon_call (f := 75) (vs := [(Pv r.rb), .slice pb st.length pc]) (cap := #[]) (d := (some 30)) (by kernel_rfl) Try.call75 #[(Pv r.rb), .slice pb st.length pc] (by kernel_rfl) (Find_any (hF4.ext0 hE) hr hj (hv4.ext0' hE)) ?_
   rintro _ w75 ⟨rfl, hEn⟩
   refine ⟨_, rfl, (x4_11), by kernel_rfl, by kernel_rfl, hE.trans0 hEn, fun _ => ⟨fun h => ⟨(hA11 h).1.ext hEn (by simp), (hA11 h).2⟩, trivial⟩, fun h => ?_⟩
   rw [show setS D 10 12 = D 12 from rfl, hDf] at h; cases h
  ·rintro D x4_11 w' ⟨hE, hA, hB⟩ hDi hdp hnd
   have hDf : D 12 = false := hnd 12 (by simp) (by decide)
   obtain ⟨hA11, _⟩ := hA hDf
   have hEn : Ext [] w' (w'.alloc (.cells #[.pointer none, I6 0, .slice none 0 0] 43)) := (Ext.refl _ _).alloc _
   refine upon_box (nb := w'.heap.size) (cs := #[.pointer none, I6 0, .slice none 0 0]) (T := 43) (d := (some 6)) (by kernel_rfl) rfl ⟨(w'.heap.size), by kernel_rfl, by kernel_rfl, hE.trans0 hEn, fun _ => ⟨fun _ => ⟨Blk.new _ _ _, hE.size⟩, trivial⟩, fun h => ?_⟩
   rw [show setS D 11 12 = D 12 from rfl, hDf] at h; cases h
  ·rintro D x4_11 w' ⟨hE, hA, hB⟩ hDi hdp hnd
   obtain ⟨hA11, _⟩ := hA hDi
   obtain ⟨hf11, hs11⟩ := hA11 (hdp 11 (by simp) (by decide))
   refine upon_store (b := x4_11) (off := 0) (vs := [(Pv q.rb), I6 p, .slice pb st.length pc]) (by kernel_rfl) hf11 (by simp) ⟨x4_11, by kernel_rfl, by kernel_rfl, hE.updIn (.inr hs11) _ _, fun h => ?_, fun _ => ⟨⟨hf11.upd _ _, hs11⟩, trivial⟩⟩
   rw [setS_self] at h; cases h
 rintro D x4_11 a wz6 hS hall ⟨hEz6, _, hB⟩
 obtain ⟨⟨hz6_11, hy6_11⟩, _⟩ := hB (hall 12 (by simp))
 have hB7 := hC.ext hEz6 (by simp)
 have hB8 := hv.ext hEz6 (by simp)
 have hw6_11 : w.heap.size ≤ x4_11 := Nat.le_trans hE0.size hy6_11
 have hE9 := hE0.trans0 hEz6
 replace hS := hS.kp [(0, (Pv cb)), (1, I6 by_), (4, .bool false), (13, .bool false), (5, I6 ↑st.length), (6, (Pv x4_11))]
 refine hK5 _ _ ?_
 refine sq fun K10 hK10 => ?_
 refine rgn 10 ?_
 refine sg wide_wide [.p, .p, .p, .ld (.slice pb (st.length + 1) pc), .p, .run ((Po (bof (.slice pb (st.length + 1) pc)) (0 + st.length * 1))), .ld (I6 ↑k), .p, .as (I6 (↑k + by_)), .p] [_, Ru Try.prog (vS (Instr.indexAt 41 (.slice pb (st.length + 1) pc) (I6 ↑st.length))) ((Po (bof (.slice pb (st.length + 1) pc)) (0 + st.length * 1))) wz6, wz6.cell? ⟨bof (.slice pb (st.length + 1) pc), 0 + st.length * 1, none⟩ = some (I6 ↑k), Value.int .i64 (IntKind.i64.wrap (↑k + by_)) = I6 (↑k + by_)] [(0, (Pv cb)), (1, I6 by_), (4, .bool false), (13, .bool false), (5, I6 ↑st.length), (6, (Pv x4_11)), (7, I6 (↑k + by_))] 10 0 hS (.cons (hB7.cell 1 rfl) (.cons (ix_own (j := st.length) (hB8) (by kernel_rfl) (by kernel_rfl) rfl (by omega)) (.cons ((hB8).cellAt _ hpk) (.cons (as_i64 (by omega)) .nil)))) fun a hS => ?_
 refine seg_end ?_
 refine hK10 _ _ ?_
 refine sq fun K11 hK11 => ?_
 refine sq fun K12 hK12 => ?_
 have hrowq := ((hF.ext0 hE9).one q hqm).row
 have hBq : Blk wz6 q.rb 40 #[I6 q.k, I6 ↑q.i, I6 q.t.kd, I6 q.t.nn, I6 q.t.lk, I6 q.t.ls, I6 q.t.ll, I6 q.t.lr, q.kv, I6 q.t.tt] := ((hF.ext0 hE9).one q hqm).blk
 refine rgn 12 ?_
 refine sg wide_wide [.p, .as (.bool false), .p, .p, .p, .ld ((Pv q.rb)), .p, .p, .ld (q.kv), .run (I6 ↑q.kids.length), .as (.bool true), .p] [Value.bool (decide ((↑k + by_ : Int) < 0)) = .bool false, _, _, Ru Try.prog (vS (Builtin.len_ #[33] 3 #[q.kv])) (I6 ↑q.kids.length) wz6, Value.bool (decide ((↑k + by_ : Int) ≥ ↑q.kids.length)) = .bool true] [(0, (Pv cb)), (1, I6 by_), (4, .bool false), (13, .bool false), (5, I6 ↑st.length), (6, (Pv x4_11)), (7, I6 (↑k + by_)), (51, .bool true)] 12 0 hS (.cons (as_f (by omega)) (.cons (hz6_11.cell 0 rfl) (.cons (hBq.cell 8 rfl) (.cons (run_len_own hrowq (by kernel_rfl)) (.cons (as_t (by omega)) .nil))))) fun a hS => ?_
 refine seg_end ?_
 refine hK12 _ _ ?_
 refine cond_t hS rfl ?_
 refine sq fun K13 hK13 => ?_
 refine rgn 1 ?_
 refine sg wide_wide [.p] [] [(0, (Pv cb)), (1, I6 by_), (4, .bool false), (13, .bool false), (5, I6 ↑st.length), (6, (Pv x4_11)), (7, I6 (↑k + by_)), (51, .bool true)] 1 0 hS .nil fun a hS => ?_
 refine seg_end ?_
 refine hK13 _ _ ?_
 refine wpIn_ret ?_
 refine then_ret ?_
 refine ret1 hS Try.results73 rfl ?_
 exact ⟨rfl, hE9⟩

theorem RBeside_in {s0 s1 cb pc k : Nat} {L : List Rf} {r q : Rf} {st : List Stp} {p by_ : Int} {pb : Option Addr} {w : World} (hF : FOk w s0 s1 L) (hr : r ∈ L) (hj : JW r st q p) (hC : Blk w cb 85 #[(Pv r.rb), .slice pb (st.length + 1) pc]) (hv : OwnV w 3 1 (.slice pb (st.length + 1) pc) (st.length + 1) (ints (idx st ++ [(k : Int)]))) (hk : k < 1000000000) (hby : -10 ≤ by_ ∧ by_ ≤ 10) {j : Nat} (hi : (k : Int) + by_ = j) (hjl : j < q.kids.length) :
  Calls Try.prog 73 #[(Pv cb), I6 by_] w fun e w' => ∃ g c, e = .returned (.bool true) ∧ Blk w' cb 85 #[(Pv r.rb), .slice (some ⟨g, 0, none⟩) (st.length + 1) c] ∧ OwnR w' 3 1 g c (st.length + 1) (ints (idx st ++ [(j : Int)])) ∧ Ext [cb] w w' ∧ w.heap.size ≤ g := by
 have hbdr := hF.tt hr
 have hbq := hj.bd hF hr
 have hqm := hj.mem hF hr
 have hqt := hF.tt hqm
 have hqk := hF.kids_le hqm
 have hv0 : OwnV w 3 1 (.slice pb st.length pc) st.length (ints (idx st)) := (by have h := OwnV.take hv (k := st.length) (by omega); rw [show st.length * 1 = (ints (idx st)).length by simp [ints, idx], show ints (idx st ++ [(k : Int)]) = ints (idx st) ++ [I6 (k : Int)] by simp [ints], List.take_left] at h; exact h)
 have hE0z : Ext [] w w := Ext.refl _ _
 have hpk : (ints (idx st ++ [(k : Int)]))[0 + st.length * 1]? = some (I6 (k : Int)) := by simp [ints, idx]
 refine calls_body 63 [(0, (Pv cb)), (1, I6 by_)] Try.func73 rfl (by kernel_rfl) (by kernel_rfl) (by kernel_rfl) fun a hS => ?_
 have hE0 : Ext [] w w := Ext.refl _ _
 refine sq fun K1 hK1 => ?_
 refine rgn 1 ?_
 refine sg wide_wide [.p] [] [(0, (Pv cb)), (1, I6 by_), (4, .bool false)] 1 0 hS .nil fun a hS => ?_
 refine seg_end ?_
 refine hK1 _ _ ?_
 refine sq fun K2 hK2 => ?_
 refine sq fun K3 hK3 => ?_
 refine rgn 6 ?_
 refine sg wide_wide [.p, .p, .p, .ld (.slice pb (st.length + 1) pc), .p, .as (.bool false)] [_, Value.bool (((((st.length + 1 : Nat) : Int) : Int) == 0)) = .bool false] [(0, (Pv cb)), (1, I6 by_), (4, .bool false), (13, .bool false)] 6 0 hS (.cons (hC.cell 1 rfl) (.cons (as_eq_f (by omega)) .nil)) fun a hS => ?_
 refine seg_end ?_
 refine hK3 _ _ ?_
 refine cond_f hS rfl ?_
 refine wpIn_skip ?_
 refine hK2 _ _ ?_
 refine sq fun K4 hK4 => ?_
 refine rgn 7 ?_
 refine sg wide_wide [.p, .p, .p, .ld (.slice pb (st.length + 1) pc), .p, .as (I6 ↑st.length), .p] [_, Value.int .i64 (IntKind.i64.wrap (((st.length + 1 : Nat) : Int) - 1)) = I6 ↑st.length] [(0, (Pv cb)), (1, I6 by_), (4, .bool false), (13, .bool false), (5, I6 ↑st.length)] 7 0 hS (.cons (hC.cell 1 rfl) (.cons ((by rw [show (((st.length + 1 : Nat) : Int) - 1 : Int) = ↑st.length from by omega]; exact as_i64 (by omega))) .nil)) fun a hS => ?_
 refine seg_end ?_
 refine hK4 _ _ ?_
 refine sq fun K5 hK5 => ?_
 have hF4 := hF.ext0 hE0z
 have hv4 := hv0.ext0' hE0z
 refine region_set (G := Nat) wide_wide [.q .p, .q .p, .q .p, .q (.ld ((Pv r.rb))), .q .p, .q .p, .q .p, .q (.ld (.slice pb (st.length + 1) pc)), .q .p, .q (.run (.slice pb st.length pc)), .e, .e, .e] [0, 1, 3, 7, 0, 16, 48, 112, 0, 496, 1023, 0, 4095] [10, 11, 12] (fun x4_11 => ([(0, (Pv cb)), (1, I6 by_), (4, .bool false), (13, .bool false), (5, I6 ↑st.length), (20, (Pv cb)), (21, (Pv cb)), (22, (Pv cb)), (23, (Pv r.rb)), (24, (Pv cb)), (25, (Pv cb)), (26, (Po cb 1)), (27, .slice pb (st.length + 1) pc), (28, I6 ↑st.length), (29, .slice pb st.length pc), (30, .agg #[(Pv q.rb), I6 p, .slice pb st.length pc]), (6, (Pv x4_11))] : Fm)) (fun D x4_11 w' => Ext [] w w' ∧ (D 12 = false → (D 11 = true → (Blk w' x4_11 43 (#[.pointer none, I6 0, .slice none 0 0]) ∧ w.heap.size ≤ x4_11)) ∧ True) ∧ (D 12 = true → (Blk w' x4_11 43 (#[(Pv q.rb), I6 p, .slice pb st.length pc]) ∧ w.heap.size ≤ x4_11) ∧ True)) (fun x4_11 w' => [(3, [w'.cell? ⟨cb, 0, none⟩ = some ((Pv r.rb))]), (7, [w'.cell? ⟨cb, 1, none⟩ = some (.slice pb (st.length + 1) pc)]), (9, [Ru Try.prog (vS (Instr.sliceAt 41 (.slice pb (st.length + 1) pc) none (some (I6 ↑st.length)) none)) (.slice pb st.length pc) w'])]) 0 [0, 1, 4, 13, 5] [] hS (by kernel_rfl) (by kernel_rfl) (by kernel_rfl) (by kernel_rfl) (fun x4_11 _ => by kernel_rfl) (by kernel_rfl) (by kernel_rfl) ⟨(Ext.refl _ _).drew, fun _ => ⟨fun h => (by cases h), trivial⟩, fun h => by cases h⟩ ?_ ?_ ?_
 ·rintro D x4_11 w' ⟨hE, _, _⟩ xq hxq _ _
  refine AllI.mem ?_ xq hxq
  exact (.cons (.cons (((hC.ext hE (by simp)) : Blk w' cb 85 (#[(Pv r.rb), .slice pb (st.length + 1) pc])).cell 0 rfl) .nil) (.cons (.cons (((hC.ext hE (by simp)) : Blk w' cb 85 (#[(Pv r.rb), .slice pb (st.length + 1) pc])).cell 1 rfl) .nil) (.cons (.cons (sl_own (k := st.length) (hv) (by kernel_rfl) (by kernel_rfl) rfl (by omega)) .nil) .nil)))
 ·refine (.cons ?_ (.cons ?_ (.cons ?_ .nil)))
  ·rintro D x4_11 w' ⟨hE, hA, hB⟩ hDi hdp hnd
   have hDf : D 12 = false := hnd 12 (by simp) (by decide)
   obtain ⟨hA11, _⟩ := hA hDf
   refine upon_call (f := 75) (vs := [(Pv r.rb), .slice pb st.length pc]) (cap := #[]) (d := (some 30)) (by kernel_rfl) Try.call75 #[(Pv r.rb), .slice pb st.length pc] (by kernel_rfl) (Find_any (hF4.ext0 hE) hr hj (hv4.ext0' hE)) ?_
   rintro _ w75 ⟨rfl, hEn⟩
   refine ⟨_, rfl, (x4_11), by kernel_rfl, by kernel_rfl, hE.trans0 hEn, fun _ => ⟨fun h => ⟨(hA11 h).1.ext hEn (by simp), (hA11 h).2⟩, trivial⟩, fun h => ?_⟩
   rw [show setS D 10 12 = D 12 from rfl, hDf] at h; cases h
  ·rintro D x4_11 w' ⟨hE, hA, hB⟩ hDi hdp hnd
   have hDf : D 12 = false := hnd 12 (by simp) (by decide)
   obtain ⟨hA11, _⟩ := hA hDf
   have hEn : Ext [] w' (w'.alloc (.cells #[.pointer none, I6 0, .slice none 0 0] 43)) := (Ext.refl _ _).alloc _
   refine upon_box (nb := w'.heap.size) (cs := #[.pointer none, I6 0, .slice none 0 0]) (T := 43) (d := (some 6)) (by kernel_rfl) rfl ⟨(w'.heap.size), by kernel_rfl, by kernel_rfl, hE.trans0 hEn, fun _ => ⟨fun _ => ⟨Blk.new _ _ _, hE.size⟩, trivial⟩, fun h => ?_⟩
   rw [show setS D 11 12 = D 12 from rfl, hDf] at h; cases h
  ·rintro D x4_11 w' ⟨hE, hA, hB⟩ hDi hdp hnd
   obtain ⟨hA11, _⟩ := hA hDi
   obtain ⟨hf11, hs11⟩ := hA11 (hdp 11 (by simp) (by decide))
   refine upon_store (b := x4_11) (off := 0) (vs := [(Pv q.rb), I6 p, .slice pb st.length pc]) (by kernel_rfl) hf11 (by simp) ⟨x4_11, by kernel_rfl, by kernel_rfl, hE.updIn (.inr hs11) _ _, fun h => ?_, fun _ => ⟨⟨hf11.upd _ _, hs11⟩, trivial⟩⟩
   rw [setS_self] at h; cases h
 rintro D x4_11 a wz6 hS hall ⟨hEz6, _, hB⟩
 obtain ⟨⟨hz6_11, hy6_11⟩, _⟩ := hB (hall 12 (by simp))
 have hB7 := hC.ext hEz6 (by simp)
 have hB8 := hv.ext hEz6 (by simp)
 have hw6_11 : w.heap.size ≤ x4_11 := Nat.le_trans hE0.size hy6_11
 have hE9 := hE0.trans0 hEz6
 replace hS := hS.kp [(0, (Pv cb)), (1, I6 by_), (4, .bool false), (13, .bool false), (5, I6 ↑st.length), (6, (Pv x4_11))]
 refine hK5 _ _ ?_
 refine sq fun K10 hK10 => ?_
 refine rgn 10 ?_
 refine sg wide_wide [.p, .p, .p, .ld (.slice pb (st.length + 1) pc), .p, .run ((Po (bof (.slice pb (st.length + 1) pc)) (0 + st.length * 1))), .ld (I6 ↑k), .p, .as (I6 ↑j), .p] [_, Ru Try.prog (vS (Instr.indexAt 41 (.slice pb (st.length + 1) pc) (I6 ↑st.length))) ((Po (bof (.slice pb (st.length + 1) pc)) (0 + st.length * 1))) wz6, wz6.cell? ⟨bof (.slice pb (st.length + 1) pc), 0 + st.length * 1, none⟩ = some (I6 ↑k), Value.int .i64 (IntKind.i64.wrap (↑k + by_)) = I6 ↑j] [(0, (Pv cb)), (1, I6 by_), (4, .bool false), (13, .bool false), (5, I6 ↑st.length), (6, (Pv x4_11)), (7, I6 ↑j)] 10 0 hS (.cons (hB7.cell 1 rfl) (.cons (ix_own (j := st.length) (hB8) (by kernel_rfl) (by kernel_rfl) rfl (by omega)) (.cons ((hB8).cellAt _ hpk) (.cons ((by rw [show (↑k + by_ : Int) = ↑j from by omega]; exact as_i64 (by omega))) .nil)))) fun a hS => ?_
 refine seg_end ?_
 refine hK10 _ _ ?_
 refine sq fun K11 hK11 => ?_
 refine sq fun K12 hK12 => ?_
 have hrowq := ((hF.ext0 hE9).one q hqm).row
 have hBq : Blk wz6 q.rb 40 #[I6 q.k, I6 ↑q.i, I6 q.t.kd, I6 q.t.nn, I6 q.t.lk, I6 q.t.ls, I6 q.t.ll, I6 q.t.lr, q.kv, I6 q.t.tt] := ((hF.ext0 hE9).one q hqm).blk
 refine rgn 12 ?_
 refine sg wide_wide [.p, .as (.bool false), .p, .p, .p, .ld ((Pv q.rb)), .p, .p, .ld (q.kv), .run (I6 ↑q.kids.length), .as (.bool false), .p] [Value.bool (decide ((↑j : Int) < 0)) = .bool false, _, _, Ru Try.prog (vS (Builtin.len_ #[33] 3 #[q.kv])) (I6 ↑q.kids.length) wz6, Value.bool (decide ((↑j : Int) ≥ ↑q.kids.length)) = .bool false] [(0, (Pv cb)), (1, I6 by_), (4, .bool false), (13, .bool false), (5, I6 ↑st.length), (6, (Pv x4_11)), (7, I6 ↑j), (51, .bool false)] 12 0 hS (.cons (as_f (by omega)) (.cons (hz6_11.cell 0 rfl) (.cons (hBq.cell 8 rfl) (.cons (run_len_own hrowq (by kernel_rfl)) (.cons (as_f (by omega)) .nil))))) fun a hS => ?_
 refine seg_end ?_
 refine hK12 _ _ ?_
 refine cond_f hS rfl ?_
 refine wpIn_skip ?_
 refine hK11 _ _ ?_
 refine sq fun K13 hK13 => ?_
 have hE8 := hE9
 have hE8c : Ext [cb] w wz6 := hE8.of0
 have hv8 := hv0.ext0' hE8
 refine rgn 12 ?_
 refine sg wide_wide [.p, .p, .p, .p, .ld (.slice pb (st.length + 1) pc), .p, .run (.slice pb st.length pc), .p] [_, Ru Try.prog (vS (Instr.sliceAt 41 (.slice pb (st.length + 1) pc) none (some (I6 ↑st.length)) none)) (.slice pb st.length pc) wz6] [(0, (Pv cb)), (1, I6 by_), (4, .bool false), (13, .bool false), (5, I6 ↑st.length), (6, (Pv x4_11)), (7, I6 ↑j), (51, .bool false), (52, (Pv cb)), (58, .slice pb st.length pc), (59, I6 ↑j)] 8 4 hS (.cons (hB7.cell 1 rfl) (.cons (sl_own (k := st.length) (hB8) (by kernel_rfl) (by kernel_rfl) rfl (by omega)) .nil)) fun a hS => ?_
 refine eff_call wide_wide (r := 3) (f := 76) (vs := [.slice pb st.length pc, I6 ↑j]) (cap := #[]) (d := (some 60)) hS (by kernel_rfl) Try.call76 #[.slice pb st.length pc, I6 ↑j] (by kernel_rfl) (With_any (xs := idx st) (x := (j : Int)) hv8 (by omega)) ?_
 rintro _ w76 ⟨g, c, rfl, hO76, hE76, hg76⟩
 refine ⟨_, rfl, fun a hS => ?_⟩
 have hE76x := hE8c.trans0 hE76
 have hB14 := hB7.ext hE76 (by simp)
 have hg76n : w.heap.size ≤ g := Nat.le_trans hE8c.size hg76
 refine sg wide_wide [.p, .p] [] [(0, (Pv cb)), (1, I6 by_), (4, .bool false), (13, .bool false), (5, I6 ↑st.length), (6, (Pv x4_11)), (7, I6 ↑j), (51, .bool false), (60, .slice (some ⟨g, 0, none⟩) (st.length + 1) c), (62, (Po cb 1))] 11 1 hS .nil fun a hS => ?_
 refine eff_store wide_wide (r := 0) (b := cb) (off := 1) (vs := [.slice (some ⟨g, 0, none⟩) (st.length + 1) c]) hS (by kernel_rfl) hB14 (by simp) fun a w18 hw19 hS => ?_
 have hB20 : Blk w18 cb 85 (#[(Pv r.rb), .slice (some ⟨g, 0, none⟩) (st.length + 1) c]) := by rw [hw19]; exact hB14.upd _ _
 have hB24 := OwnR.at' hw19 (hO76.updNe ((OwnR.ne_type hO76 hB14 (by decide)).symm) _ _)
 have hE25 : Ext [cb] w w18 := by rw [hw19]; exact hE76x.updIn (.inl (by simp)) _ _
 refine seg_end ?_
 refine hK13 _ _ ?_
 refine sq fun K26 hK26 => ?_
 refine rgn 1 ?_
 refine sg wide_wide [.p] [] [(0, (Pv cb)), (1, I6 by_), (4, .bool true), (13, .bool false), (5, I6 ↑st.length), (6, (Pv x4_11)), (7, I6 ↑j), (51, .bool false)] 1 0 hS .nil fun a hS => ?_
 refine seg_end ?_
 refine hK26 _ _ ?_
 refine wpIn_ret ?_
 refine ret1 hS Try.results73 rfl ?_
 exact ⟨g, c, rfl, hB20, hB24, hE25, hg76n⟩

theorem rwalk_bd {w : World} {s0 s1 : Nat} {L : List Rf} (h : FOk w s0 s1 L) : ∀ r : Rf, r ∈ L → ∀ (p : Int) (path : List Int), ∀ s ∈ rwalk r p path, p ≤ s.at_ ∧ s.at_ + s.r.t.wd ≤ p + r.t.wd := by
 refine Rf.ind fun r ih hr p path s hs => ?_
 rw [rwalk_eq] at hs
 rcases List.mem_cons.1 hs with rfl | hs
 ·exact ⟨Int.le_refl _, Int.le_refl _⟩
 ·obtain ⟨k, kid, hk, hs⟩ := (rwalks_mem _ _ _ _).1 hs
  have hkm := List.mem_of_getElem? hk
  have h1 := ih kid hkm (h.mem hr hkm) _ _ s hs
  have ha := sums_take h hr k
  have hb := sums_take h hr (k + 1)
  have e1 : sumW ((r.kids.take (k + 1)).map Rf.t) = sumW ((r.kids.take k).map Rf.t) + kid.t.wd := by rw [rf_take_succ hk, List.map_append]; exact sumW_snoc _ _
  omega

set_option maxHeartbeats 2000000 in
theorem RTo_any {s0 s1 cb pc n : Nat} {L : List Rf} {r : Rf} {a_ : Int} {pb : Option Addr} {w : World} (hF : FOk w s0 s1 L) (hr : r ∈ L) (hC : Blk w cb 85 #[(Pv r.rb), .slice pb n pc]) :
  Calls Try.prog 74 #[(Pv cb), I6 a_] w fun e w' => (∃ st' q' p' pb' pc', e = .returned (.bool true) ∧ RTo a_ r 0 st' q' p' ∧ (0 ≤ a_ ∧ a_ < r.t.wd) ∧ Blk w' cb 85 #[(Pv r.rb), .slice pb' st'.length pc'] ∧ OwnV w' 3 1 (.slice pb' st'.length pc') st'.length (ints (idx st')) ∧ Ext [cb] w w' ∧ (∀ b ∈ oa pb', w.heap.size ≤ b)) ∨ (e = .returned (.bool false) ∧ (∀ s ∈ rwalk r 0 [], ¬(s.r.t.kd = 1 ∧ s.at_ ≤ a_ ∧ a_ < s.at_ + s.r.t.wd)) ∧ Ext [] w w') := by
 have hbdr := hF.tt hr
 refine calls_body 60 [(0, (Pv cb)), (1, I6 a_)] Try.func74 rfl (by kernel_rfl) (by kernel_rfl) (by kernel_rfl) fun a hS => ?_
 have hE0 : Ext [] w w := Ext.refl _ _
 refine sq fun K1 hK1 => ?_
 refine rgn 1 ?_
 refine sg wide_wide [.p] [] [(0, (Pv cb)), (1, I6 a_), (4, .bool false)] 1 0 hS .nil fun a hS => ?_
 refine seg_end ?_
 refine hK1 _ _ ?_
 refine sq fun K2 hK2 => ?_
 refine rgn 6 ?_
 refine sg wide_wide [.p, .p, .p, .ld ((Pv r.rb))] [_] [(0, (Pv cb)), (1, I6 a_), (4, .bool false), (10, (Pv r.rb))] 4 2 hS (.cons (hC.cell 0 rfl) .nil) fun a hS => ?_
 refine eff_call wide_wide (r := 1) (f := 14) (vs := [(Pv r.rb)]) (cap := #[]) (d := (some 11)) hS (by kernel_rfl) Try.call14 #[(Pv r.rb)] (by kernel_rfl) (RWalk_any hF hr) ?_
 rintro _ w14 ⟨lw, gw, cw, rfl, hlw, hOw, hE14, hgw, hpw⟩
 refine ⟨_, rfl, fun a hS => ?_⟩
 have hE14x := hE0.trans0 hE14
 have hB3 := hC.ext hE14 (by simp)
 have hwk := rwalk_walk hF r hr 0 []
 have hlen : (lw.length : Int) = r.t.tt := by rw [← rwalk_len hF hr 0 [], ← hlw, List.length_map]
 refine sg wide_wide [.p] [] [(0, (Pv cb)), (1, I6 a_), (4, .bool false), (5, .slice (some ⟨gw, 0, none⟩) lw.length cw)] 6 0 hS .nil fun a hS => ?_
 refine seg_end ?_
 refine hK2 _ _ ?_
 refine sq fun K4 hK4 => ?_
 refine sq fun K5 hK5 => ?_
 refine rgn 1 ?_
 refine sg wide_wide [.p] [] [(0, (Pv cb)), (1, I6 a_), (4, .bool false), (5, .slice (some ⟨gw, 0, none⟩) lw.length cw), (6, I6 0)] 1 0 hS .nil fun a hS => ?_
 refine seg_end ?_
 refine hK5 _ _ ?_
 refine wpIn_block ?_
 refine loop_ghost (fun (i : Nat) a' w' => St 60 [] [(0, (Pv cb)), (1, I6 a_), (5, .slice (some ⟨gw, 0, none⟩) lw.length cw), (6, I6 ↑i)] a' ∧ i ≤ lw.length ∧ Ext [] w14 w' ∧ Ext [] w w' ∧ ∀ x ∈ lw.take i, ¬(x.1.r.t.kd = 1 ∧ x.1.at_ ≤ a_ ∧ a_ < x.1.at_ + x.1.r.t.wd)) (fun (i : Nat) => lw.length - i) 0 ⟨hS.keepTo [0, 1, 5, 6] (by kernel_rfl), Nat.zero_le _, Ext.refl _ _, hE14x, by simp⟩ ?_
 rintro i a w1 ⟨hS, hil, hEy, hEx, hno⟩
 have hF1 := hF.ext0 hEx
 have hC1 := hB3.ext hEy (by simp)
 have hOw1 := hOw.ext hEy (by simp)
 refine sq fun K6 hK6 => ?_
 refine sq fun K7 hK7 => ?_
 refine rgn 4 ?_
 refine sg wide_wide [.p, .p, .p, .p] [] [(0, (Pv cb)), (1, I6 a_), (5, .slice (some ⟨gw, 0, none⟩) lw.length cw), (6, I6 ↑i), (15, .bool (decide ((↑i : Int) < ↑lw.length)))] 4 0 hS .nil fun a hS => ?_
 refine seg_end ?_
 refine hK7 _ _ ?_
 refine cond_b hS rfl (fun hb8 => ?_) (fun hb8 => ?_)
 ·
  replace hb8 := of_decide_eq_true hb8
  have hi : i < lw.length := by omega
  obtain ⟨⟨s, pv⟩, hs⟩ : ∃ q, lw[i]? = some q := ⟨_, List.getElem?_eq_getElem hi⟩
  obtain ⟨pb2, pc2, hpv⟩ := (hpw _ (List.mem_of_getElem? hs)).1.form
  have hpp := hpw _ (List.mem_of_getElem? hs)
  simp only at hpv
  subst hpv
  have hsm : s ∈ rwalk r 0 [] := by rw [← hlw]; exact List.mem_map.2 ⟨_, List.mem_of_getElem? hs, rfl⟩
  have hsL := hwk.2 s hsm
  have htk : lw.take (i + 1) = lw.take i ++ [(s, Value.slice pb2 s.path.length pc2)] := by
   rw [List.take_succ_eq_append_getElem hi, (List.getElem?_eq_some_iff.1 hs).2]
  have hst := hF.tt hsL
  have hsb : 0 ≤ s.at_ ∧ s.at_ + s.r.t.wd ≤ r.t.wd := by have := rwalk_bd hF r hr 0 [] s hsm; omega
  have hrows := (hF1.one s.r hsL).row
  have hBs : Blk w1 s.r.rb 40 #[I6 s.r.k, I6 ↑s.r.i, I6 s.r.t.kd, I6 s.r.t.nn, I6 s.r.t.lk, I6 s.r.t.ls, I6 s.r.t.ll, I6 s.r.t.lr, s.r.kv, I6 s.r.t.tt] := (hF1.one s.r hsL).blk
  refine wpIn_skip ?_
  refine hK6 _ _ ?_
  refine sq fun K9 hK9 => ?_
  refine wpIn_block ?_
  refine sq fun K10 hK10 => ?_
  rcases (show s.r.t.kd ≠ 1 ∨ (s.r.t.kd = 1 ∧ ¬s.at_ ≤ a_) ∨ (s.r.t.kd = 1 ∧ s.at_ ≤ a_ ∧ ¬a_ < s.at_ + s.r.t.wd) ∨ (s.r.t.kd = 1 ∧ s.at_ ≤ a_ ∧ a_ < s.at_ + s.r.t.wd) by omega) with hq | hq | hq | hq
  ·
   refine region_fn2 wide_wide [.q .p, .q .p, .q (.run ((Po gw (0 + i * 3)))), .q .p, .q (.ld ((Pv s.r.rb))), .q .p, .q .p, .q (.ld (I6 s.r.t.kd)), .q (.as (.bool false)), .q .p, .q .no, .q .no, .q .no, .q .no, .q .no, .q .no, .q .no, .q .p, .q .p, .q .no, .q .no, .q .no, .q .no, .q .no, .q .no, .q .no, .q .no, .q .no, .q .no, .q .no, .q .no, .q .no, .q .no, .q .p] [0, 0, 0, 0, 0, 0, 0, 0, 0, 0, 0, 0, 0, 0, 0, 0, 0, 0, 0, 0, 0, 0, 0, 0, 0, 0, 0, 0, 0, 0, 0, 0, 0, 0] [0, 0, 0, 0, 0, 0, 0, 0, 0, 0, 0, 0, 0, 0, 0, 0, 0, 0, 0, 0, 0, 0, 0, 0, 0, 0, 0, 0, 0, 0, 0, 0, 0, 0] [0, 0, 3, 7, 15, 31, 63, 127, 255, 511, 1023, 1023, 4095, 8191, 16383, 1023, 65535, 131071, 262143, 524287, 524287, 524287, 3670015, 7864319, 16252927, 524287, 524287, 101187583, 235405311, 503840767, 1040711679, 2146959359, 4294967295, 8589934591] [] 0 ([(0, (Pv cb)), (1, I6 a_), (5, .slice (some ⟨gw, 0, none⟩) lw.length cw), (6, I6 ↑i), (18, .slice (some ⟨gw, 0, none⟩) lw.length cw), (19, I6 ↑i), (20, (Po gw (0 + i * 3))), (21, (Po gw (0 + i * 3))), (22, (Pv s.r.rb)), (23, (Pv s.r.rb)), (24, (Po s.r.rb 2)), (25, I6 s.r.t.kd), (26, .bool false), (27, .bool false), (28, undef), (29, undef), (30, undef), (31, undef), (32, undef), (33, undef), (34, undef), (35, .bool false), (36, .bool false), (37, undef), (38, undef), (39, undef), (40, undef), (41, undef), (42, undef), (43, undef), (44, undef), (45, undef), (46, undef), (47, undef), (48, undef), (49, undef), (50, undef), (51, .bool false)]) [w1.drew] w1.drew (fun w' => [(2, [Ru Try.prog (vS (Instr.indexAt 28 (.slice (some ⟨gw, 0, none⟩) lw.length cw) (I6 ↑i))) ((Po gw (0 + i * 3))) w']), (4, [w'.cell? ⟨gw, 0 + i * 3, none⟩ = some ((Pv s.r.rb))]), (7, [w'.cell? ⟨s.r.rb, 2, none⟩ = some (I6 s.r.t.kd)]), (8, [Value.bool (((s.r.t.kd : Int) == 1)) = .bool false])]) [0, 1, 5, 6] [] hS (by kernel_rfl) (by kernel_rfl) (by kernel_rfl) (by kernel_rfl) (fun _ => by kernel_rfl) (by kernel_rfl) (by kernel_rfl) (by kernel_rfl) ?_ ?_ ?_
   ·intro e w' hw
    refine (.cons ?_ (.cons ?_ (.cons ?_ (.cons ?_ .nil))))
    ·exact fun _ _ => (.cons (ix_slice (E := 43) (size := 3) (j := i) (by kernel_rfl) (by kernel_rfl) rfl hi) .nil)
    ·intro h1 h2
     obtain rfl : e = 0 := Nat.le_antisymm h2 h1
     obtain rfl : w' = w1.drew := hw.trans (by kernel_rfl)
     exact (.cons ((hOw1.drew : OwnR w1.drew 43 3 gw cw lw.length (spc lw)).cellAt _ (by have h := spc_at lw i 0 _ hs (by omega); simpa [Rf.ptr] using h)) .nil)
    ·intro h1 h2
     obtain rfl : e = 0 := Nat.le_antisymm h2 h1
     obtain rfl : w' = w1.drew := hw.trans (by kernel_rfl)
     exact (.cons ((hBs.drew : Blk w1.drew s.r.rb 40 (#[I6 s.r.k, I6 ↑s.r.i, I6 s.r.t.kd, I6 s.r.t.nn, I6 s.r.t.lk, I6 s.r.t.ls, I6 s.r.t.ll, I6 s.r.t.lr, s.r.kv, I6 s.r.t.tt])).cell 2 rfl) .nil)
    ·exact fun _ _ => (.cons (as_eq_f (hq)) .nil)
   ·refine .nil
   rintro a w12 hS hw13
   replace hw13 : w12 = w1.drew := hw13.trans (by kernel_rfl)
   have hE17 : Ext [] w w12 := by rw [hw13]; exact hEx.drew
   have hX18 : Ext [] w1 w12 := by rw [hw13]; exact (Ext.refl _ _).drew
   have hG19 : Ext [] w14 w12 := hEy.trans0 hX18
   replace hS := hS.kp [(0, (Pv cb)), (1, I6 a_), (5, .slice (some ⟨gw, 0, none⟩) lw.length cw), (6, I6 ↑i), (51, .bool false)]
   refine hK10 _ _ ?_
   refine cond_f hS rfl ?_
   refine wpIn_skip ?_
   refine inBlock_normal ?_
   refine hK9 _ _ ?_
   refine rgn 3 ?_
   refine sg wide_wide [.p, .as (I6 (↑i + 1)), .p] [Value.int .i64 (IntKind.i64.wrap (↑i + 1)) = I6 (↑i + 1)] [(0, (Pv cb)), (1, I6 a_), (5, .slice (some ⟨gw, 0, none⟩) lw.length cw), (6, I6 (↑i + 1)), (51, .bool false)] 3 0 hS (.cons (as_i64 (by omega)) .nil) fun a hS => ?_
   refine seg_end ?_
   exact ⟨i + 1, ⟨hS.keepTo [0, 1, 5, 6] (by kernel_rfl), by omega, hG19, hE17, by rw [htk]; intro x hx; rcases List.mem_append.1 hx with hx | hx; exact hno x hx; obtain rfl := (by simpa using hx : x = _); simp only; omega⟩, by omega⟩
  ·
   refine region_fn2 wide_wide [.q .p, .q .p, .q (.run ((Po gw (0 + i * 3)))), .q .p, .q (.ld ((Pv s.r.rb))), .q .p, .q .p, .q (.ld (I6 s.r.t.kd)), .q (.as (.bool true)), .q .p, .q .p, .q .p, .q (.run ((Po gw (0 + i * 3)))), .q .p, .q (.ld (I6 s.at_)), .q .p, .q (.as (.bool false)), .q .p, .q .p, .q .no, .q .no, .q .no, .q .no, .q .no, .q .no, .q .no, .q .no, .q .no, .q .no, .q .no, .q .no, .q .no, .q .no, .q .p] [0, 0, 0, 0, 0, 0, 0, 0, 0, 0, 0, 0, 0, 0, 0, 0, 0, 0, 0, 0, 0, 0, 0, 0, 0, 0, 0, 0, 0, 0, 0, 0, 0, 0] [0, 0, 0, 0, 0, 0, 0, 0, 0, 0, 0, 0, 0, 0, 0, 0, 0, 0, 0, 0, 0, 0, 0, 0, 0, 0, 0, 0, 0, 0, 0, 0, 0, 0] [0, 0, 3, 7, 15, 31, 63, 127, 255, 511, 1023, 1023, 4095, 8191, 16383, 1023, 65535, 131071, 262143, 524287, 524287, 524287, 3670015, 7864319, 16252927, 524287, 524287, 101187583, 235405311, 503840767, 1040711679, 2146959359, 4294967295, 8589934591] [] 0 ([(0, (Pv cb)), (1, I6 a_), (5, .slice (some ⟨gw, 0, none⟩) lw.length cw), (6, I6 ↑i), (18, .slice (some ⟨gw, 0, none⟩) lw.length cw), (19, I6 ↑i), (20, (Po gw (0 + i * 3))), (21, (Po gw (0 + i * 3))), (22, (Pv s.r.rb)), (23, (Pv s.r.rb)), (24, (Po s.r.rb 2)), (25, I6 s.r.t.kd), (26, .bool true), (27, .bool true), (28, .slice (some ⟨gw, 0, none⟩) lw.length cw), (29, I6 ↑i), (30, (Po gw (0 + i * 3))), (31, (Po gw (0 + i * 3 + 1))), (32, I6 s.at_), (33, I6 a_), (34, .bool false), (35, .bool false), (36, .bool false), (37, undef), (38, undef), (39, undef), (40, undef), (41, undef), (42, undef), (43, undef), (44, undef), (45, undef), (46, undef), (47, undef), (48, undef), (49, undef), (50, undef), (51, .bool false)]) [w1.drew] w1.drew (fun w' => [(2, [Ru Try.prog (vS (Instr.indexAt 28 (.slice (some ⟨gw, 0, none⟩) lw.length cw) (I6 ↑i))) ((Po gw (0 + i * 3))) w']), (4, [w'.cell? ⟨gw, 0 + i * 3, none⟩ = some ((Pv s.r.rb))]), (7, [w'.cell? ⟨s.r.rb, 2, none⟩ = some (I6 s.r.t.kd)]), (8, [Value.bool (((s.r.t.kd : Int) == 1)) = .bool true]), (12, [Ru Try.prog (vS (Instr.indexAt 28 (.slice (some ⟨gw, 0, none⟩) lw.length cw) (I6 ↑i))) ((Po gw (0 + i * 3))) w']), (14, [w'.cell? ⟨gw, 0 + i * 3 + 1, none⟩ = some (I6 s.at_)]), (16, [Value.bool (decide ((s.at_ : Int) ≤ a_)) = .bool false])]) [0, 1, 5, 6] [] hS (by kernel_rfl) (by kernel_rfl) (by kernel_rfl) (by kernel_rfl) (fun _ => by kernel_rfl) (by kernel_rfl) (by kernel_rfl) (by kernel_rfl) ?_ ?_ ?_
   ·intro e w' hw
    refine (.cons ?_ (.cons ?_ (.cons ?_ (.cons ?_ (.cons ?_ (.cons ?_ (.cons ?_ .nil)))))))
    ·exact fun _ _ => (.cons (ix_slice (E := 43) (size := 3) (j := i) (by kernel_rfl) (by kernel_rfl) rfl hi) .nil)
    ·intro h1 h2
     obtain rfl : e = 0 := Nat.le_antisymm h2 h1
     obtain rfl : w' = w1.drew := hw.trans (by kernel_rfl)
     exact (.cons ((hOw1.drew : OwnR w1.drew 43 3 gw cw lw.length (spc lw)).cellAt _ (by have h := spc_at lw i 0 _ hs (by omega); simpa [Rf.ptr] using h)) .nil)
    ·intro h1 h2
     obtain rfl : e = 0 := Nat.le_antisymm h2 h1
     obtain rfl : w' = w1.drew := hw.trans (by kernel_rfl)
     exact (.cons ((hBs.drew : Blk w1.drew s.r.rb 40 (#[I6 s.r.k, I6 ↑s.r.i, I6 s.r.t.kd, I6 s.r.t.nn, I6 s.r.t.lk, I6 s.r.t.ls, I6 s.r.t.ll, I6 s.r.t.lr, s.r.kv, I6 s.r.t.tt])).cell 2 rfl) .nil)
    ·exact fun _ _ => (.cons (as_eq_t (hq.1)) .nil)
    ·exact fun _ _ => (.cons (ix_slice (E := 43) (size := 3) (j := i) (by kernel_rfl) (by kernel_rfl) rfl hi) .nil)
    ·intro h1 h2
     obtain rfl : e = 0 := Nat.le_antisymm h2 h1
     obtain rfl : w' = w1.drew := hw.trans (by kernel_rfl)
     exact (.cons ((hOw1.drew : OwnR w1.drew 43 3 gw cw lw.length (spc lw)).cellAt _ (by have h := spc_at lw i 1 _ hs (by omega); simpa [Rf.ptr] using h)) .nil)
    ·exact fun _ _ => (.cons (as_f (hq.2)) .nil)
   ·refine .nil
   rintro a w21 hS hw22
   replace hw22 : w21 = w1.drew := hw22.trans (by kernel_rfl)
   have hE26 : Ext [] w w21 := by rw [hw22]; exact hEx.drew
   have hX27 : Ext [] w1 w21 := by rw [hw22]; exact (Ext.refl _ _).drew
   have hG28 : Ext [] w14 w21 := hEy.trans0 hX27
   replace hS := hS.kp [(0, (Pv cb)), (1, I6 a_), (5, .slice (some ⟨gw, 0, none⟩) lw.length cw), (6, I6 ↑i), (51, .bool false)]
   refine hK10 _ _ ?_
   refine cond_f hS rfl ?_
   refine wpIn_skip ?_
   refine inBlock_normal ?_
   refine hK9 _ _ ?_
   refine rgn 3 ?_
   refine sg wide_wide [.p, .as (I6 (↑i + 1)), .p] [Value.int .i64 (IntKind.i64.wrap (↑i + 1)) = I6 (↑i + 1)] [(0, (Pv cb)), (1, I6 a_), (5, .slice (some ⟨gw, 0, none⟩) lw.length cw), (6, I6 (↑i + 1)), (51, .bool false)] 3 0 hS (.cons (as_i64 (by omega)) .nil) fun a hS => ?_
   refine seg_end ?_
   exact ⟨i + 1, ⟨hS.keepTo [0, 1, 5, 6] (by kernel_rfl), by omega, hG28, hE26, by rw [htk]; intro x hx; rcases List.mem_append.1 hx with hx | hx; exact hno x hx; obtain rfl := (by simpa using hx : x = _); simp only; omega⟩, by omega⟩
  ·
   refine region_gh2 (G := World) wide_wide [.q .p, .q .p, .q (.run ((Po gw (0 + i * 3)))), .q .p, .q (.ld ((Pv s.r.rb))), .q .p, .q .p, .q (.ld (I6 s.r.t.kd)), .q (.as (.bool true)), .q .p, .q .p, .q .p, .q (.run ((Po gw (0 + i * 3)))), .q .p, .q (.ld (I6 s.at_)), .q .p, .q (.as (.bool true)), .q .p, .q .p, .q .p, .q .p, .q .p, .q (.run ((Po gw (0 + i * 3)))), .q .p, .q (.ld (I6 s.at_)), .q .p, .q .p, .q (.run ((Po gw (0 + i * 3)))), .q .p, .q (.ld ((Pv s.r.rb))), .e, .q (.as (I6 (s.at_ + s.r.t.wd))), .q (.as (.bool false)), .q .p] [0, 0, 0, 0, 0, 0, 0, 0, 0, 0, 0, 0, 0, 0, 0, 0, 0, 0, 0, 0, 0, 0, 0, 0, 0, 0, 0, 0, 0, 0, 0, 1, 1, 1] [0, 0, 0, 0, 0, 0, 0, 0, 0, 0, 0, 0, 0, 0, 0, 0, 0, 0, 0, 1, 1, 1, 1, 1, 1, 0, 0, 0, 0, 0, 0, 1, 1, 1] [0, 0, 3, 7, 15, 31, 63, 127, 255, 511, 1023, 1023, 4095, 8191, 16383, 1023, 65535, 131071, 262143, 524287, 524287, 524287, 3670015, 7864319, 16252927, 524287, 524287, 101187583, 235405311, 503840767, 1040711679, 2146959359, 4294967295, 8589934591] [30] [(30, 0)] 1 (fun w65 => ([(0, (Pv cb)), (1, I6 a_), (5, .slice (some ⟨gw, 0, none⟩) lw.length cw), (6, I6 ↑i), (18, .slice (some ⟨gw, 0, none⟩) lw.length cw), (19, I6 ↑i), (20, (Po gw (0 + i * 3))), (21, (Po gw (0 + i * 3))), (22, (Pv s.r.rb)), (23, (Pv s.r.rb)), (24, (Po s.r.rb 2)), (25, I6 s.r.t.kd), (26, .bool true), (27, .bool true), (28, .slice (some ⟨gw, 0, none⟩) lw.length cw), (29, I6 ↑i), (30, (Po gw (0 + i * 3))), (31, (Po gw (0 + i * 3 + 1))), (32, I6 s.at_), (33, I6 a_), (34, .bool true), (35, .bool true), (36, .bool true), (37, I6 a_), (38, .slice (some ⟨gw, 0, none⟩) lw.length cw), (39, I6 ↑i), (40, (Po gw (0 + i * 3))), (41, (Po gw (0 + i * 3 + 1))), (42, I6 s.at_), (43, .slice (some ⟨gw, 0, none⟩) lw.length cw), (44, I6 ↑i), (45, (Po gw (0 + i * 3))), (46, (Po gw (0 + i * 3))), (47, (Pv s.r.rb)), (48, I6 s.r.t.wd), (49, I6 (s.at_ + s.r.t.wd)), (50, .bool false), (51, .bool false)] : Fm)) (fun w65 => [w1.drew, w65]) (w1.drew) (fun e w65 => hAt [True, (Ext [] w1.drew w65) ∧ True] e) (fun w65 w' => [(2, [Ru Try.prog (vS (Instr.indexAt 28 (.slice (some ⟨gw, 0, none⟩) lw.length cw) (I6 ↑i))) ((Po gw (0 + i * 3))) w']), (4, [w'.cell? ⟨gw, 0 + i * 3, none⟩ = some ((Pv s.r.rb))]), (7, [w'.cell? ⟨s.r.rb, 2, none⟩ = some (I6 s.r.t.kd)]), (8, [Value.bool (((s.r.t.kd : Int) == 1)) = .bool true]), (12, [Ru Try.prog (vS (Instr.indexAt 28 (.slice (some ⟨gw, 0, none⟩) lw.length cw) (I6 ↑i))) ((Po gw (0 + i * 3))) w']), (14, [w'.cell? ⟨gw, 0 + i * 3 + 1, none⟩ = some (I6 s.at_)]), (16, [Value.bool (decide ((s.at_ : Int) ≤ a_)) = .bool true]), (22, [Ru Try.prog (vS (Instr.indexAt 28 (.slice (some ⟨gw, 0, none⟩) lw.length cw) (I6 ↑i))) ((Po gw (0 + i * 3))) w']), (24, [w'.cell? ⟨gw, 0 + i * 3 + 1, none⟩ = some (I6 s.at_)]), (27, [Ru Try.prog (vS (Instr.indexAt 28 (.slice (some ⟨gw, 0, none⟩) lw.length cw) (I6 ↑i))) ((Po gw (0 + i * 3))) w']), (29, [w'.cell? ⟨gw, 0 + i * 3, none⟩ = some ((Pv s.r.rb))]), (31, [Value.int .i64 (IntKind.i64.wrap (s.at_ + s.r.t.wd)) = I6 (s.at_ + s.r.t.wd)]), (32, [Value.bool (decide ((a_ : Int) < s.at_ + s.r.t.wd)) = .bool false])]) w1.drew [0, 1, 5, 6] [] hS (by kernel_rfl) (by kernel_rfl) (by kernel_rfl) (by kernel_rfl) (fun w65 _ => by kernel_rfl) (by kernel_rfl) (by kernel_rfl) (by kernel_rfl) trivial ?_ (by kernel_rfl) ?_ ?_
   ·rintro e w65 w' hw hH
    refine (.cons ?_ (.cons ?_ (.cons ?_ (.cons ?_ (.cons ?_ (.cons ?_ (.cons ?_ (.cons ?_ (.cons ?_ (.cons ?_ (.cons ?_ (.cons ?_ (.cons ?_ .nil)))))))))))))
    ·intro h1 h2
     obtain rfl : e = 0 := Nat.le_antisymm h2 h1
     have hwe : w1.drew = w' := (hw.trans (by kernel_rfl)).symm
     subst hwe
     clear hH
     exact (.cons (ix_slice (E := 43) (size := 3) (j := i) (by kernel_rfl) (by kernel_rfl) rfl hi) .nil)
    ·intro h1 h2
     obtain rfl : e = 0 := Nat.le_antisymm h2 h1
     have hwe : w1.drew = w' := (hw.trans (by kernel_rfl)).symm
     subst hwe
     clear hH
     exact (.cons ((hOw1.drew : OwnR w1.drew 43 3 gw cw lw.length (spc lw)).cellAt _ (by have h := spc_at lw i 0 _ hs (by omega); simpa [Rf.ptr] using h)) .nil)
    ·intro h1 h2
     obtain rfl : e = 0 := Nat.le_antisymm h2 h1
     have hwe : w1.drew = w' := (hw.trans (by kernel_rfl)).symm
     subst hwe
     clear hH
     exact (.cons ((hBs.drew : Blk w1.drew s.r.rb 40 (#[I6 s.r.k, I6 ↑s.r.i, I6 s.r.t.kd, I6 s.r.t.nn, I6 s.r.t.lk, I6 s.r.t.ls, I6 s.r.t.ll, I6 s.r.t.lr, s.r.kv, I6 s.r.t.tt])).cell 2 rfl) .nil)
    ·intro h1 h2
     obtain rfl : e = 0 := Nat.le_antisymm h2 h1
     have hwe : w1.drew = w' := (hw.trans (by kernel_rfl)).symm
     subst hwe
     clear hH
     exact (.cons (as_eq_t (hq.1)) .nil)
    ·intro h1 h2
     obtain rfl : e = 0 := Nat.le_antisymm h2 h1
     have hwe : w1.drew = w' := (hw.trans (by kernel_rfl)).symm
     subst hwe
     clear hH
     exact (.cons (ix_slice (E := 43) (size := 3) (j := i) (by kernel_rfl) (by kernel_rfl) rfl hi) .nil)
    ·intro h1 h2
     obtain rfl : e = 0 := Nat.le_antisymm h2 h1
     have hwe : w1.drew = w' := (hw.trans (by kernel_rfl)).symm
     subst hwe
     clear hH
     exact (.cons ((hOw1.drew : OwnR w1.drew 43 3 gw cw lw.length (spc lw)).cellAt _ (by have h := spc_at lw i 1 _ hs (by omega); simpa [Rf.ptr] using h)) .nil)
    ·intro h1 h2
     obtain rfl : e = 0 := Nat.le_antisymm h2 h1
     have hwe : w1.drew = w' := (hw.trans (by kernel_rfl)).symm
     subst hwe
     clear hH
     exact (.cons (as_t (hq.2.1)) .nil)
    ·intro h1 h2
     replace h1 : 0 ≤ e := h1
     replace h2 : e ≤ 1 := h2
     have he : e = 0 ∨ e = 1 := by omega
     rcases he with rfl | rfl
     ·have hwe : w1.drew = w' := (hw.trans (by kernel_rfl)).symm
      subst hwe
      clear hH
      exact (.cons (ix_slice (E := 43) (size := 3) (j := i) (by kernel_rfl) (by kernel_rfl) rfl hi) .nil)
     ·have hwe : w65 = w' := (hw.trans (by kernel_rfl)).symm
      subst hwe
      obtain ⟨hE65, _⟩ := hH
      exact (.cons (ix_slice (E := 43) (size := 3) (j := i) (by kernel_rfl) (by kernel_rfl) rfl hi) .nil)
    ·intro h1 h2
     replace h1 : 0 ≤ e := h1
     replace h2 : e ≤ 1 := h2
     have he : e = 0 ∨ e = 1 := by omega
     rcases he with rfl | rfl
     ·have hwe : w1.drew = w' := (hw.trans (by kernel_rfl)).symm
      subst hwe
      clear hH
      exact (.cons ((hOw1.drew : OwnR w1.drew 43 3 gw cw lw.length (spc lw)).cellAt _ (by have h := spc_at lw i 1 _ hs (by omega); simpa [Rf.ptr] using h)) .nil)
     ·have hwe : w65 = w' := (hw.trans (by kernel_rfl)).symm
      subst hwe
      obtain ⟨hE65, _⟩ := hH
      exact (.cons (((hOw1.drew).ext hE65 (by simp) : OwnR w65 43 3 gw cw lw.length (spc lw)).cellAt _ (by have h := spc_at lw i 1 _ hs (by omega); simpa [Rf.ptr] using h)) .nil)
    ·intro h1 h2
     obtain rfl : e = 0 := Nat.le_antisymm h2 h1
     have hwe : w1.drew = w' := (hw.trans (by kernel_rfl)).symm
     subst hwe
     clear hH
     exact (.cons (ix_slice (E := 43) (size := 3) (j := i) (by kernel_rfl) (by kernel_rfl) rfl hi) .nil)
    ·intro h1 h2
     obtain rfl : e = 0 := Nat.le_antisymm h2 h1
     have hwe : w1.drew = w' := (hw.trans (by kernel_rfl)).symm
     subst hwe
     clear hH
     exact (.cons ((hOw1.drew : OwnR w1.drew 43 3 gw cw lw.length (spc lw)).cellAt _ (by have h := spc_at lw i 0 _ hs (by omega); simpa [Rf.ptr] using h)) .nil)
    ·intro h1 h2
     obtain rfl : e = 1 := Nat.le_antisymm h2 h1
     have hwe : w65 = w' := (hw.trans (by kernel_rfl)).symm
     subst hwe
     obtain ⟨hE65, _⟩ := hH
     exact (.cons (as_i64 (by omega)) .nil)
    ·intro h1 h2
     obtain rfl : e = 1 := Nat.le_antisymm h2 h1
     have hwe : w65 = w' := (hw.trans (by kernel_rfl)).symm
     subst hwe
     obtain ⟨hE65, _⟩ := hH
     exact (.cons (as_f (hq.2.2)) .nil)
   ·refine (.cons ?eq29_30 .nil)
    ·rintro w65 hH
     clear hH
     refine eff_gh (w1.drew) (by kernel_rfl) ?_
     refine upon_call (f := 65) (vs := [(Pv s.r.rb)]) (cap := #[]) (d := (some 48)) (by kernel_rfl) Try.call65 #[(Pv s.r.rb)] (by kernel_rfl) (RWidth s.r hsL (w1.drew) (hF.ext0 (hEx.drew))) ?_
     rintro _ w65 ⟨rfl, hE65⟩
     exact ⟨_, rfl, ⟨w65, by kernel_rfl, by kernel_rfl, by kernel_rfl, ⟨hE65, trivial⟩⟩⟩
   rintro w65 a w30 hS hw31 hH
   obtain ⟨hE65, _⟩ := hH
   replace hw31 : w30 = w65 := hw31.trans (by kernel_rfl)
   have hE35 : Ext [] w w30 := by rw [hw31]; exact (hEx.drew).trans0 hE65
   have hX36 : Ext [] w1 w30 := by rw [hw31]; exact ((Ext.refl _ _).drew).trans0 hE65
   have hG37 : Ext [] w14 w30 := hEy.trans0 hX36
   replace hS := hS.kp [(0, (Pv cb)), (1, I6 a_), (5, .slice (some ⟨gw, 0, none⟩) lw.length cw), (6, I6 ↑i), (51, .bool false)]
   refine hK10 _ _ ?_
   refine cond_f hS rfl ?_
   refine wpIn_skip ?_
   refine inBlock_normal ?_
   refine hK9 _ _ ?_
   refine rgn 3 ?_
   refine sg wide_wide [.p, .as (I6 (↑i + 1)), .p] [Value.int .i64 (IntKind.i64.wrap (↑i + 1)) = I6 (↑i + 1)] [(0, (Pv cb)), (1, I6 a_), (5, .slice (some ⟨gw, 0, none⟩) lw.length cw), (6, I6 (↑i + 1)), (51, .bool false)] 3 0 hS (.cons (as_i64 (by omega)) .nil) fun a hS => ?_
   refine seg_end ?_
   exact ⟨i + 1, ⟨hS.keepTo [0, 1, 5, 6] (by kernel_rfl), by omega, hG37, hE35, by rw [htk]; intro x hx; rcases List.mem_append.1 hx with hx | hx; exact hno x hx; obtain rfl := (by simpa using hx : x = _); simp only; omega⟩, by omega⟩
  ·
   refine region_gh2 (G := World) wide_wide [.q .p, .q .p, .q (.run ((Po gw (0 + i * 3)))), .q .p, .q (.ld ((Pv s.r.rb))), .q .p, .q .p, .q (.ld (I6 s.r.t.kd)), .q (.as (.bool true)), .q .p, .q .p, .q .p, .q (.run ((Po gw (0 + i * 3)))), .q .p, .q (.ld (I6 s.at_)), .q .p, .q (.as (.bool true)), .q .p, .q .p, .q .p, .q .p, .q .p, .q (.run ((Po gw (0 + i * 3)))), .q .p, .q (.ld (I6 s.at_)), .q .p, .q .p, .q (.run ((Po gw (0 + i * 3)))), .q .p, .q (.ld ((Pv s.r.rb))), .e, .q (.as (I6 (s.at_ + s.r.t.wd))), .q (.as (.bool true)), .q .p] [0, 0, 0, 0, 0, 0, 0, 0, 0, 0, 0, 0, 0, 0, 0, 0, 0, 0, 0, 0, 0, 0, 0, 0, 0, 0, 0, 0, 0, 0, 0, 1, 1, 1] [0, 0, 0, 0, 0, 0, 0, 0, 0, 0, 0, 0, 0, 0, 0, 0, 0, 0, 0, 1, 1, 1, 1, 1, 1, 0, 0, 0, 0, 0, 0, 1, 1, 1] [0, 0, 3, 7, 15, 31, 63, 127, 255, 511, 1023, 1023, 4095, 8191, 16383, 1023, 65535, 131071, 262143, 524287, 524287, 524287, 3670015, 7864319, 16252927, 524287, 524287, 101187583, 235405311, 503840767, 1040711679, 2146959359, 4294967295, 8589934591] [30] [(30, 0)] 1 (fun w65 => ([(0, (Pv cb)), (1, I6 a_), (5, .slice (some ⟨gw, 0, none⟩) lw.length cw), (6, I6 ↑i), (18, .slice (some ⟨gw, 0, none⟩) lw.length cw), (19, I6 ↑i), (20, (Po gw (0 + i * 3))), (21, (Po gw (0 + i * 3))), (22, (Pv s.r.rb)), (23, (Pv s.r.rb)), (24, (Po s.r.rb 2)), (25, I6 s.r.t.kd), (26, .bool true), (27, .bool true), (28, .slice (some ⟨gw, 0, none⟩) lw.length cw), (29, I6 ↑i), (30, (Po gw (0 + i * 3))), (31, (Po gw (0 + i * 3 + 1))), (32, I6 s.at_), (33, I6 a_), (34, .bool true), (35, .bool true), (36, .bool true), (37, I6 a_), (38, .slice (some ⟨gw, 0, none⟩) lw.length cw), (39, I6 ↑i), (40, (Po gw (0 + i * 3))), (41, (Po gw (0 + i * 3 + 1))), (42, I6 s.at_), (43, .slice (some ⟨gw, 0, none⟩) lw.length cw), (44, I6 ↑i), (45, (Po gw (0 + i * 3))), (46, (Po gw (0 + i * 3))), (47, (Pv s.r.rb)), (48, I6 s.r.t.wd), (49, I6 (s.at_ + s.r.t.wd)), (50, .bool true), (51, .bool true)] : Fm)) (fun w65 => [w1.drew, w65]) (w1.drew) (fun e w65 => hAt [True, (Ext [] w1.drew w65) ∧ True] e) (fun w65 w' => [(2, [Ru Try.prog (vS (Instr.indexAt 28 (.slice (some ⟨gw, 0, none⟩) lw.length cw) (I6 ↑i))) ((Po gw (0 + i * 3))) w']), (4, [w'.cell? ⟨gw, 0 + i * 3, none⟩ = some ((Pv s.r.rb))]), (7, [w'.cell? ⟨s.r.rb, 2, none⟩ = some (I6 s.r.t.kd)]), (8, [Value.bool (((s.r.t.kd : Int) == 1)) = .bool true]), (12, [Ru Try.prog (vS (Instr.indexAt 28 (.slice (some ⟨gw, 0, none⟩) lw.length cw) (I6 ↑i))) ((Po gw (0 + i * 3))) w']), (14, [w'.cell? ⟨gw, 0 + i * 3 + 1, none⟩ = some (I6 s.at_)]), (16, [Value.bool (decide ((s.at_ : Int) ≤ a_)) = .bool true]), (22, [Ru Try.prog (vS (Instr.indexAt 28 (.slice (some ⟨gw, 0, none⟩) lw.length cw) (I6 ↑i))) ((Po gw (0 + i * 3))) w']), (24, [w'.cell? ⟨gw, 0 + i * 3 + 1, none⟩ = some (I6 s.at_)]), (27, [Ru Try.prog (vS (Instr.indexAt 28 (.slice (some ⟨gw, 0, none⟩) lw.length cw) (I6 ↑i))) ((Po gw (0 + i * 3))) w']), (29, [w'.cell? ⟨gw, 0 + i * 3, none⟩ = some ((Pv s.r.rb))]), (31, [Value.int .i64 (IntKind.i64.wrap (s.at_ + s.r.t.wd)) = I6 (s.at_ + s.r.t.wd)]), (32, [Value.bool (decide ((a_ : Int) < s.at_ + s.r.t.wd)) = .bool true])]) w1.drew [0, 1, 5, 6] [] hS (by kernel_rfl) (by kernel_rfl) (by kernel_rfl) (by kernel_rfl) (fun w65 _ => by kernel_rfl) (by kernel_rfl) (by kernel_rfl) (by kernel_rfl) trivial ?_ (by kernel_rfl) ?_ ?_
   ·rintro e w65 w' hw hH
    refine (.cons ?_ (.cons ?_ (.cons ?_ (.cons ?_ (.cons ?_ (.cons ?_ (.cons ?_ (.cons ?_ (.cons ?_ (.cons ?_ (.cons ?_ (.cons ?_ (.cons ?_ .nil)))))))))))))
    ·intro h1 h2
     obtain rfl : e = 0 := Nat.le_antisymm h2 h1
     have hwe : w1.drew = w' := (hw.trans (by kernel_rfl)).symm
     subst hwe
     clear hH
     exact (.cons (ix_slice (E := 43) (size := 3) (j := i) (by kernel_rfl) (by kernel_rfl) rfl hi) .nil)
    ·intro h1 h2
     obtain rfl : e = 0 := Nat.le_antisymm h2 h1
     have hwe : w1.drew = w' := (hw.trans (by kernel_rfl)).symm
     subst hwe
     clear hH
     exact (.cons ((hOw1.drew : OwnR w1.drew 43 3 gw cw lw.length (spc lw)).cellAt _ (by have h := spc_at lw i 0 _ hs (by omega); simpa [Rf.ptr] using h)) .nil)
    ·intro h1 h2
     obtain rfl : e = 0 := Nat.le_antisymm h2 h1
     have hwe : w1.drew = w' := (hw.trans (by kernel_rfl)).symm
     subst hwe
     clear hH
     exact (.cons ((hBs.drew : Blk w1.drew s.r.rb 40 (#[I6 s.r.k, I6 ↑s.r.i, I6 s.r.t.kd, I6 s.r.t.nn, I6 s.r.t.lk, I6 s.r.t.ls, I6 s.r.t.ll, I6 s.r.t.lr, s.r.kv, I6 s.r.t.tt])).cell 2 rfl) .nil)
    ·intro h1 h2
     obtain rfl : e = 0 := Nat.le_antisymm h2 h1
     have hwe : w1.drew = w' := (hw.trans (by kernel_rfl)).symm
     subst hwe
     clear hH
     exact (.cons (as_eq_t (hq.1)) .nil)
    ·intro h1 h2
     obtain rfl : e = 0 := Nat.le_antisymm h2 h1
     have hwe : w1.drew = w' := (hw.trans (by kernel_rfl)).symm
     subst hwe
     clear hH
     exact (.cons (ix_slice (E := 43) (size := 3) (j := i) (by kernel_rfl) (by kernel_rfl) rfl hi) .nil)
    ·intro h1 h2
     obtain rfl : e = 0 := Nat.le_antisymm h2 h1
     have hwe : w1.drew = w' := (hw.trans (by kernel_rfl)).symm
     subst hwe
     clear hH
     exact (.cons ((hOw1.drew : OwnR w1.drew 43 3 gw cw lw.length (spc lw)).cellAt _ (by have h := spc_at lw i 1 _ hs (by omega); simpa [Rf.ptr] using h)) .nil)
    ·intro h1 h2
     obtain rfl : e = 0 := Nat.le_antisymm h2 h1
     have hwe : w1.drew = w' := (hw.trans (by kernel_rfl)).symm
     subst hwe
     clear hH
     exact (.cons (as_t (hq.2.1)) .nil)
    ·intro h1 h2
     replace h1 : 0 ≤ e := h1
     replace h2 : e ≤ 1 := h2
     have he : e = 0 ∨ e = 1 := by omega
     rcases he with rfl | rfl
     ·have hwe : w1.drew = w' := (hw.trans (by kernel_rfl)).symm
      subst hwe
      clear hH
      exact (.cons (ix_slice (E := 43) (size := 3) (j := i) (by kernel_rfl) (by kernel_rfl) rfl hi) .nil)
     ·have hwe : w65 = w' := (hw.trans (by kernel_rfl)).symm
      subst hwe
      obtain ⟨hE65, _⟩ := hH
      exact (.cons (ix_slice (E := 43) (size := 3) (j := i) (by kernel_rfl) (by kernel_rfl) rfl hi) .nil)
    ·intro h1 h2
     replace h1 : 0 ≤ e := h1
     replace h2 : e ≤ 1 := h2
     have he : e = 0 ∨ e = 1 := by omega
     rcases he with rfl | rfl
     ·have hwe : w1.drew = w' := (hw.trans (by kernel_rfl)).symm
      subst hwe
      clear hH
      exact (.cons ((hOw1.drew : OwnR w1.drew 43 3 gw cw lw.length (spc lw)).cellAt _ (by have h := spc_at lw i 1 _ hs (by omega); simpa [Rf.ptr] using h)) .nil)
     ·have hwe : w65 = w' := (hw.trans (by kernel_rfl)).symm
      subst hwe
      obtain ⟨hE65, _⟩ := hH
      exact (.cons (((hOw1.drew).ext hE65 (by simp) : OwnR w65 43 3 gw cw lw.length (spc lw)).cellAt _ (by have h := spc_at lw i 1 _ hs (by omega); simpa [Rf.ptr] using h)) .nil)
    ·intro h1 h2
     obtain rfl : e = 0 := Nat.le_antisymm h2 h1
     have hwe : w1.drew = w' := (hw.trans (by kernel_rfl)).symm
     subst hwe
     clear hH
     exact (.cons (ix_slice (E := 43) (size := 3) (j := i) (by kernel_rfl) (by kernel_rfl) rfl hi) .nil)
    ·intro h1 h2
     obtain rfl : e = 0 := Nat.le_antisymm h2 h1
     have hwe : w1.drew = w' := (hw.trans (by kernel_rfl)).symm
     subst hwe
     clear hH
     exact (.cons ((hOw1.drew : OwnR w1.drew 43 3 gw cw lw.length (spc lw)).cellAt _ (by have h := spc_at lw i 0 _ hs (by omega); simpa [Rf.ptr] using h)) .nil)
    ·intro h1 h2
     obtain rfl : e = 1 := Nat.le_antisymm h2 h1
     have hwe : w65 = w' := (hw.trans (by kernel_rfl)).symm
     subst hwe
     obtain ⟨hE65, _⟩ := hH
     exact (.cons (as_i64 (by omega)) .nil)
    ·intro h1 h2
     obtain rfl : e = 1 := Nat.le_antisymm h2 h1
     have hwe : w65 = w' := (hw.trans (by kernel_rfl)).symm
     subst hwe
     obtain ⟨hE65, _⟩ := hH
     exact (.cons (as_t (hq.2.2)) .nil)
   ·refine (.cons ?eq38_30 .nil)
    ·rintro w65 hH
     clear hH
     refine eff_gh (w1.drew) (by kernel_rfl) ?_
     refine upon_call (f := 65) (vs := [(Pv s.r.rb)]) (cap := #[]) (d := (some 48)) (by kernel_rfl) Try.call65 #[(Pv s.r.rb)] (by kernel_rfl) (RWidth s.r hsL (w1.drew) (hF.ext0 (hEx.drew))) ?_
     rintro _ w65 ⟨rfl, hE65⟩
     exact ⟨_, rfl, ⟨w65, by kernel_rfl, by kernel_rfl, by kernel_rfl, ⟨hE65, trivial⟩⟩⟩
   rintro w65 a w39 hS hw40 hH
   obtain ⟨hE65, _⟩ := hH
   replace hw40 : w39 = w65 := hw40.trans (by kernel_rfl)
   have hB41 := Blk.at' hw40 ((hC1.drew).ext hE65 (by simp))
   have hB42 := OwnR.at' hw40 ((hOw1.drew).ext hE65 (by simp))
   have hE44 : Ext [] w w39 := by rw [hw40]; exact (hEx.drew).trans0 hE65
   have hX45 : Ext [] w1 w39 := by rw [hw40]; exact ((Ext.refl _ _).drew).trans0 hE65
   have hG46 : Ext [] w14 w39 := hEy.trans0 hX45
   replace hS := hS.kp [(0, (Pv cb)), (1, I6 a_), (5, .slice (some ⟨gw, 0, none⟩) lw.length cw), (6, I6 ↑i), (51, .bool true)]
   refine hK10 _ _ ?_
   refine cond_t hS rfl ?_
   refine sq fun K47 hK47 => ?_
   have hE6c : Ext [cb] w w39 := hE44.of0
   have hp6 := hpp.1.ext0' hG46
   obtain ⟨hra, hrb, st', hto, hpath⟩ := rwalk_to hF r hr 0 [] s hsm hq.1 hq.2.1 hq.2.2
   have hpl : s.path = idx st' := by simpa using hpath
   have hpl2 : s.path.length = st'.length := by rw [hpl]; simp [idx]
   refine rgn 9 ?_
   refine sg wide_wide [.p, .p, .p, .run ((Po gw (0 + i * 3))), .p, .ld (.slice pb2 s.path.length pc2), .p, .p] [Ru Try.prog (vS (Instr.indexAt 28 (.slice (some ⟨gw, 0, none⟩) lw.length cw) (I6 ↑i))) ((Po gw (0 + i * 3))) w39, w39.cell? ⟨gw, 0 + i * 3 + 2, none⟩ = some (.slice pb2 s.path.length pc2)] [(0, (Pv cb)), (1, I6 a_), (5, .slice (some ⟨gw, 0, none⟩) lw.length cw), (6, I6 ↑i), (51, .bool true), (57, .slice pb2 s.path.length pc2), (59, (Po cb 1))] 8 1 hS (.cons (ix_slice (E := 43) (size := 3) (j := i) (by kernel_rfl) (by kernel_rfl) rfl hi) (.cons ((hB42).cellAt _ (by have h := spc_at lw i 2 _ hs (by omega); simpa [Rf.ptr] using h)) .nil)) fun a hS => ?_
   refine eff_store wide_wide (r := 0) (b := cb) (off := 1) (vs := [.slice pb2 s.path.length pc2]) hS (by kernel_rfl) hB41 (by simp) fun a w48 hw49 hS => ?_
   have hB50 : Blk w48 cb 85 (#[(Pv r.rb), .slice pb2 s.path.length pc2]) := by rw [hw49]; exact hB41.upd _ _
   have hB53 := OwnV.at' hw49 (hp6.updNe (OwnV.ne hp6 hB41 (by decide)) _ _)
   have hE54 : Ext [cb] w w48 := by rw [hw49]; exact hE6c.updIn (.inl (by simp)) _ _
   refine seg_end ?_
   refine hK47 _ _ ?_
   refine sq fun K55 hK55 => ?_
   refine rgn 1 ?_
   refine sg wide_wide [.p] [] [(0, (Pv cb)), (1, I6 a_), (5, .slice (some ⟨gw, 0, none⟩) lw.length cw), (6, I6 ↑i), (51, .bool true), (4, .bool true)] 1 0 hS .nil fun a hS => ?_
   refine seg_end ?_
   refine hK55 _ _ ?_
   refine wpIn_ret ?_
   refine inBlock_ret ?_
   refine then_ret ?_
   refine then_ret ?_
   refine inBlock_ret ?_
   refine then_ret ?_
   refine ret1 hS Try.results74 rfl ?_
   exact .inl ⟨st', s.r, s.at_, pb2, pc2, rfl, hto, ⟨hra, by omega⟩, by rw [← hpl2]; exact hB50, by rw [← hpl2, ← hpl]; exact hB53, hE54, fun b hb => Nat.le_trans (Ext.size (Ext.refl [] w)) (hpp.2 b (by rw [ob_oa]; exact hb))⟩
 ·
  replace hb8 := of_decide_eq_false hb8
  obtain rfl : i = lw.length := by omega
  rw [List.take_length] at hno
  refine wpIn_exit ?_
  refine then_exit ?_
  refine then_exit ?_
  refine inBlock_hit ?_
  refine hK4 _ _ ?_
  refine sq fun K56 hK56 => ?_
  refine rgn 1 ?_
  refine sg wide_wide [.p] [] [(0, (Pv cb)), (1, I6 a_), (5, .slice (some ⟨gw, 0, none⟩) lw.length cw), (4, .bool false)] 1 0 hS .nil fun a hS => ?_
  refine seg_end ?_
  refine hK56 _ _ ?_
  refine wpIn_ret ?_
  refine ret1 hS Try.results74 rfl ?_
  exact .inr ⟨rfl, fun x hx => by rw [← hlw] at hx; obtain ⟨y, hy, rfl⟩ := List.mem_map.1 hx; exact hno y hy, hEx⟩

end Go.Proofs.Ytpglmeeledmkoaa
