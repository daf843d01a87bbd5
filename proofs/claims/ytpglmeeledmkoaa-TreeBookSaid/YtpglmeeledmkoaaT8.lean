import Derived.Test.YtpglmeeledmkoaaProg
import Derived.Test.YtpglmeeledmkoaaVc
import Derived.Test.YtpglmeeledmkoaaT7
namespace Go.Proofs.Ytpglmeeledmkoaa
open Go.Vc

def leafT (nb : Nat) (num lk ls ll lr : Int) : Tr := .node nb num 1 lk lk ls ll lr (.slice none 0 0) (bt ls + bt ll) 1 1 (lk == -1) []

theorem Leaf_tr {sb : Nat} {x lk ls ll lr : Int} {w : World} (hB : Blk w sb 102 #[I6 x]) (hx : 0 ≤ x ∧ x < 4611686018427387904) :
  Calls Try.prog 18 #[(Pv sb), .agg #[I6 lk, I6 ls, I6 ll, I6 lr]] w fun e w' =>
   ∃ nb, e = .returned ((Pv nb)) ∧ w.heap.size ≤ nb ∧ (leafT nb (x + 1) lk ls ll lr).Ok w' sb ∧ Blk w' sb 102 #[I6 (x + 1)] ∧ Ext [sb] w w' := by
 refine (Leaf_any hB hx).mono fun e w' ⟨nb, h1, h2, h3, h4, h5⟩ => ⟨nb, h1, h2, ?_, h4, h5⟩
 refine (Tr.ok_iff _).2 ⟨⟨h3, .inl ⟨rfl, rfl, rfl⟩, ?_, ?_, ?_, fun h => absurd rfl h⟩, ?_⟩
 ·intro _; exact ⟨rfl, rfl, rfl, rfl, rfl, rfl⟩
 ·intro h; exact absurd rfl h
 ·show (1 : Int) ≤ 4194304; omega
 ·simp [Tr.kids, leafT, Oks]

theorem Rows_n {sb : Nat} {t : Tr} {w : World} {n : Nat} {rows : List Value} (ht : t.Ok w sb) (hn : (walk t 0).length = n) (hr : rowsOf (walk t 0) = rows) : Calls Try.prog 25 #[(Pv t.b)] w fun e w' =>
  ∃ g cap, e = .returned (.slice (some ⟨g, 0, none⟩) n cap) ∧ OwnR w' 64 6 g cap n rows ∧ Ext [] w w' ∧ w.heap.size ≤ g := by
 subst hn hr
 exact Rows_any ht

set_option maxHeartbeats 1000000 in
theorem Head_any (w : World) :
  Calls Try.prog 17 #[] w fun e w' => e = .returned (.bool true) ∧ Ext [] w w' := by
 refine calls_body 80 [] Try.func17 rfl (by kernel_rfl) (by kernel_rfl) (by kernel_rfl) fun a hS => ?_
 refine sq fun K1 hK1 => ?_
 refine rgn 1 ?_
 refine sg wide_wide [.p] [] [(0, .bool false)] 1 0 hS .nil fun a hS => ?_
 refine seg_end ?_
 refine hK1 _ _ ?_
 refine sq fun K2 hK2 => ?_
 refine rgn 2 ?_
 refine eff_call wide_wide (r := 1) (f := 16) (vs := []) (cap := #[]) (d := (some 8)) hS (by kernel_rfl) Try.call16 #[] (by kernel_rfl) (New_any w) ?_
 rintro _ w1 ⟨rfl, hw3⟩
 refine ⟨_, rfl, fun a hS => ?_⟩
 generalize hsb : w.heap.size = sb at hS
 have hBs : Blk w1 sb 102 #[I6 0] := by rw [hw3, ← hsb]; exact Blk.new _ _ _
 have hE1 : Ext [] w w1 := by rw [hw3]; exact (Ext.refl _ _).alloc _
 have hnsb : w.heap.size ≤ sb := by omega
 refine sg wide_wide [.p] [] [(0, .bool false), (1, (Pv sb))] 2 0 hS .nil fun a hS => ?_
 refine seg_end ?_
 refine hK2 _ _ ?_
 refine sq fun K4 hK4 => ?_
 refine sq fun K5 hK5 => ?_
 refine rgn 2 ?_
 refine sg wide_wide [.p, .p] [] [(0, .bool false), (1, (Pv sb)), (10, .bool false)] 2 0 hS .nil fun a hS => ?_
 refine seg_end ?_
 refine hK5 _ _ ?_
 refine cond_f hS rfl ?_
 refine wpIn_skip ?_
 refine hK4 _ _ ?_
 refine sq fun K6 hK6 => ?_
 refine rgn 4 ?_
 refine sg wide_wide [.p, .p] [] [(0, .bool false), (1, (Pv sb)), (10, .bool false), (11, (Pv sb)), (12, .agg #[I6 4, I6 1, I6 2, I6 5])] 2 2 hS .nil fun a hS => ?_
 refine eff_call wide_wide (r := 1) (f := 18) (vs := [(Pv sb), .agg #[I6 4, I6 1, I6 2, I6 5]]) (cap := #[]) (d := (some 13)) hS (by kernel_rfl) Try.call18 #[(Pv sb), .agg #[I6 4, I6 1, I6 2, I6 5]] (by kernel_rfl) (Leaf_tr hBs (by omega)) ?_
 rintro _ w2 ⟨na, rfl, hna, hoka, hBs2, hE12⟩
 refine ⟨_, rfl, fun a hS => ?_⟩
 have hE2 : Ext [] w w2 := hE1.trans hE12 (fun b hb => by simp at hb; subst hb; exact .inr hnsb)
 replace hBs2 : Blk w2 sb 102 #[I6 1] := hBs2
 replace hoka : (Tr.node na 1 1 4 4 1 2 5 (.slice none 0 0) 3 1 1 false []).Ok w2 sb := hoka
 have hNa : Blk w2 na 106 #[(Pv sb), I6 1, I6 1, I6 4, I6 4, I6 1, I6 2, I6 5, .slice none 0 0, I6 3, I6 1, I6 1, .bool false] := hoka.blk
 refine sg wide_wide [.p] [] [(0, .bool false), (1, (Pv sb)), (10, .bool false), (2, (Pv na))] 4 0 hS .nil fun a hS => ?_
 refine seg_end ?_
 refine hK6 _ _ ?_
 refine sq fun K7 hK7 => ?_
 refine sq fun K8 hK8 => ?_
 refine rgn 2 ?_
 refine sg wide_wide [.p, .p] [] [(0, .bool false), (1, (Pv sb)), (10, .bool false), (2, (Pv na)), (15, .bool false)] 2 0 hS .nil fun a hS => ?_
 refine seg_end ?_
 refine hK8 _ _ ?_
 refine cond_f hS rfl ?_
 refine wpIn_skip ?_
 refine hK7 _ _ ?_
 refine sq fun K9 hK9 => ?_
 refine rgn 10 ?_
 refine sg wide_wide [.p, .p, .p] [] [(0, .bool false), (1, (Pv sb)), (10, .bool false), (2, (Pv na)), (15, .bool false), (17, (Pv sb)), (18, (Pv na)), (19, (Pv na))] 3 7 hS .nil fun a hS => ?_
 refine eff_new wide_wide (r := 6) (cs := #[(Pv na), (Pv na)]) (T := 47) (v := Value.slice (some ⟨w2.heap.size, 0, none⟩) 2 2) (d := (some 20)) hS (by kernel_rfl) fun a w10 hw11 hS => ?_
 have hB14 := Blk.at' hw11 (hBs2.alloc _)
 have hB16 : Blk w10 (w2.heap.size) 47 #[(Pv na), (Pv na)] := by rw [hw11]; exact Blk.new _ _ _
 have hs17 : w.heap.size ≤ w2.heap.size := hE2.size
 have hE18 : Ext [] w w10 := by rw [hw11]; exact hE2.alloc _
 have hoka3 : (Tr.node na 1 1 4 4 1 2 5 (.slice none 0 0) 3 1 1 false []).Ok w10 sb := hoka.ext (by rw [hw11]; exact (Ext.refl [] _).alloc _) _ (by simp)
 have hOk3 : OwnR w10 47 1 w2.heap.size 2 2 [pv na, pv na] := OwnR.of_blk (cs := #[pv na, pv na]) (n := 2) hB16 rfl (by decide)
 have hE3 := hE18
 refine eff_call wide_wide (r := 5) (f := 20) (vs := [(Pv sb), I6 2, I6 3, .slice (some ⟨w2.heap.size, 0, none⟩) 2 2]) (cap := #[]) (d := (some 21)) hS (by kernel_rfl) Try.call20 #[(Pv sb), I6 2, I6 3, .slice (some ⟨w2.heap.size, 0, none⟩) 2 2] (by kernel_rfl) (Make_2 (n := 3) (ks := [(sb, Tr.node na 1 1 4 4 1 2 5 (.slice none 0 0) 3 1 1 false []), (sb, Tr.node na 1 1 4 4 1 2 5 (.slice none 0 0) 3 1 1 false [])]) hB14 (by omega) (by omega) hOk3.v (by intro q hq; simp at hq; subst hq; exact ⟨hoka3, _, hB14⟩) (by simp)) ?_
 rintro _ w4 hmk
 rcases hmk with ⟨⟨q, hq, hne⟩, _⟩ | ⟨_, h, _⟩ | ⟨_, _, nb, vs, rfl, hnb, hvs, hokx, hBs4, hE34⟩
 ·simp at hq; subst hq; exact absurd rfl hne
 ·exact absurd h (by simp [kt, sumT, Tr.tt])
 refine ⟨_, rfl, fun a hS => ?_⟩
 have hE4 : Ext [] w w4 := hE3.trans hE34 (fun b hb => by simp at hb; subst hb; exact .inr hnsb)
 replace hBs4 : Blk w4 sb 102 #[I6 2] := hBs4
 replace hokx : (Tr.node nb 2 2 3 0 0 0 0 vs 6 2 3 false [Tr.node na 1 1 4 4 1 2 5 (.slice none 0 0) 3 1 1 false [], Tr.node na 1 1 4 4 1 2 5 (.slice none 0 0) 3 1 1 false []]).Ok w4 sb := hokx
 have hNx : Blk w4 nb 106 #[(Pv sb), I6 2, I6 2, I6 3, I6 0, I6 0, I6 0, I6 0, vs, I6 6, I6 2, I6 3, .bool false] := hokx.blk
 have hoka4 := hoka3.ext hE34 _ (fun b hb => by simp at hb; subst hb; exact hoka3.not_foot hB14 (by decide) (by decide))
 have hNa4 : Blk w4 na 106 #[(Pv sb), I6 1, I6 1, I6 4, I6 4, I6 1, I6 2, I6 5, .slice none 0 0, I6 3, I6 1, I6 1, .bool false] := hoka4.blk
 refine sg wide_wide [.p, .p, .p, .p, .p] [] [(0, .bool false), (1, (Pv sb)), (10, .bool false), (2, (Pv na)), (15, .bool false), (3, (Pv nb)), (4, I6 0)] 10 0 hS .nil fun a hS => ?_
 refine seg_end ?_
 refine hK9 _ _ ?_
 refine sq fun K19 hK19 => ?_
 refine sq fun K20 hK20 => ?_
 refine rgn 6 ?_
 refine sg wide_wide [.p, .p, .p, .p, .p, .p] [] [(0, .bool false), (1, (Pv sb)), (10, .bool false), (2, (Pv na)), (15, .bool false), (3, (Pv nb)), (4, I6 0), (29, .bool false)] 6 0 hS .nil fun a hS => ?_
 refine seg_end ?_
 refine hK20 _ _ ?_
 refine cond_f hS rfl ?_
 refine wpIn_skip ?_
 refine hK19 _ _ ?_
 refine sq fun K21 hK21 => ?_
 refine rgn 3 ?_
 refine sg wide_wide [.p] [] [(0, .bool false), (1, (Pv sb)), (10, .bool false), (2, (Pv na)), (15, .bool false), (3, (Pv nb)), (4, I6 0), (29, .bool false), (30, (Pv nb))] 1 2 hS .nil fun a hS => ?_
 refine eff_call wide_wide (r := 1) (f := 29) (vs := [(Pv nb)]) (cap := #[]) (d := (some 31)) hS (by kernel_rfl) Try.call29 #[(Pv nb)] (by kernel_rfl) (Walk_any nb w4) ?_
 rintro _ w5 ⟨rfl, hw22⟩
 refine ⟨_, rfl, fun a hS => ?_⟩
 have hEw5 : Ext [] w4 w5 := by rw [hw22]; exact (Ext.refl _ _).alloc _
 have hFw5 := hE4.trans0 hEw5
 have hB24 := hNa4.ext hEw5 (by simp)
 have hB25 := hNx.ext hEw5 (by simp)
 refine sg wide_wide [.p] [] [(0, .bool false), (1, (Pv sb)), (10, .bool false), (2, (Pv na)), (15, .bool false), (3, (Pv nb)), (4, I6 0), (29, .bool false), (5, .func (.func 55) #[] #[(Pv w4.heap.size)])] 3 0 hS .nil fun a hS => ?_
 refine seg_end ?_
 refine hK21 _ _ ?_
 refine sq fun K26 hK26 => ?_
 refine rgn 3 ?_
 refine sg wide_wide [.p] [] [(0, .bool false), (1, (Pv sb)), (10, .bool false), (2, (Pv na)), (15, .bool false), (3, (Pv nb)), (4, I6 0), (29, .bool false), (5, .func (.func 55) #[] #[(Pv w4.heap.size)]), (32, (Pv nb))] 1 2 hS .nil fun a hS => ?_
 refine eff_call wide_wide (r := 1) (f := 30) (vs := [(Pv nb)]) (cap := #[]) (d := (some 33)) hS (by kernel_rfl) Try.call30 #[(Pv nb)] (by kernel_rfl) (Leaves_any nb w5) ?_
 rintro _ w6 ⟨rfl, hw27⟩
 refine ⟨_, rfl, fun a hS => ?_⟩
 have hEw6 : Ext [] w5 w6 := by rw [hw27]; exact (Ext.refl _ _).alloc _
 have hFw6 := hFw5.trans0 hEw6
 have hB29 := hB24.ext hEw6 (by simp)
 have hB30 := hB25.ext hEw6 (by simp)
 refine sg wide_wide [.p] [] [(0, .bool false), (1, (Pv sb)), (10, .bool false), (2, (Pv na)), (15, .bool false), (3, (Pv nb)), (4, I6 0), (29, .bool false), (5, .func (.func 55) #[] #[(Pv w4.heap.size)]), (6, .func (.func 57) #[] #[(Pv w5.heap.size)])] 3 0 hS .nil fun a hS => ?_
 refine seg_end ?_
 refine hK26 _ _ ?_
 refine sq fun K31 hK31 => ?_
 refine sq fun K32 hK32 => ?_
 refine rgn 6 ?_
 refine sg wide_wide [.p, .p, .p, .p, .p, .p] [] [(0, .bool false), (1, (Pv sb)), (10, .bool false), (2, (Pv na)), (15, .bool false), (3, (Pv nb)), (4, I6 0), (29, .bool false), (5, .func (.func 55) #[] #[(Pv w4.heap.size)]), (6, .func (.func 57) #[] #[(Pv w5.heap.size)]), (39, .bool false)] 6 0 hS .nil fun a hS => ?_
 refine seg_end ?_
 refine hK32 _ _ ?_
 refine cond_f hS rfl ?_
 refine wpIn_skip ?_
 refine hK31 _ _ ?_
 refine sq fun K33 hK33 => ?_
 refine rgn 3 ?_
 refine sg wide_wide [.p] [] [(0, .bool false), (1, (Pv sb)), (10, .bool false), (2, (Pv na)), (15, .bool false), (3, (Pv nb)), (4, I6 0), (29, .bool false), (5, .func (.func 55) #[] #[(Pv w4.heap.size)]), (6, .func (.func 57) #[] #[(Pv w5.heap.size)]), (39, .bool false), (40, (Pv nb))] 1 2 hS .nil fun a hS => ?_
 have hokx6 : (Tr.node nb 2 2 3 0 0 0 0 vs 6 2 3 false [Tr.node na 1 1 4 4 1 2 5 (.slice none 0 0) 3 1 1 false [], Tr.node na 1 1 4 4 1 2 5 (.slice none 0 0) 3 1 1 false []]).Ok w6 sb := (hokx.ext hEw5 _ (by simp)).ext hEw6 _ (by simp)
 refine eff_call wide_wide (r := 1) (f := 25) (vs := [(Pv nb)]) (cap := #[]) (d := (some 41)) hS (by kernel_rfl) Try.call25 #[(Pv nb)] (by kernel_rfl) (Rows_n (t := Tr.node nb 2 2 3 0 0 0 0 vs 6 2 3 false [Tr.node na 1 1 4 4 1 2 5 (.slice none 0 0) 3 1 1 false [], Tr.node na 1 1 4 4 1 2 5 (.slice none 0 0) 3 1 1 false []]) hokx6 (n := 3) (rows := [I6 2, I6 3, I6 0, I6 0, I6 2, I6 2, I6 1, I6 4, I6 1, I6 2, I6 0, I6 1, I6 1, I6 4, I6 1, I6 2, I6 0, I6 1]) (by simp [walk, walks]) (by simp [walk, walks, rowsOf, rowc, Tr.kd, Tr.nn, Tr.ls, Tr.ll, Tr.kids, Tr.num])) ?_
 rintro _ w7 ⟨g, cap, rfl, hOg, hE67, hgn⟩
 refine ⟨_, rfl, fun a hS => ?_⟩
 have hF7 := hFw6.trans0 hE67
 have hB35 := hB29.ext hE67 (by simp)
 have hB36 := hB30.ext hE67 (by simp)
 refine sg wide_wide [.p] [] [(0, .bool false), (1, (Pv sb)), (10, .bool false), (2, (Pv na)), (15, .bool false), (3, (Pv nb)), (4, I6 0), (29, .bool false), (5, .func (.func 55) #[] #[(Pv w4.heap.size)]), (6, .func (.func 57) #[] #[(Pv w5.heap.size)]), (39, .bool false), (7, .slice (some ⟨g, 0, none⟩) 3 cap)] 3 0 hS .nil fun a hS => ?_
 refine seg_end ?_
 refine hK33 _ _ ?_
 refine sq fun K37 hK37 => ?_
 refine region_fn2 wide_wide [.q .p, .e, .q .p, .q .p, .q .p, .e, .q .p, .q .p, .q .p, .q .p, .q .p, .q .p, .q .p, .q .p, .q .p, .q (.run ((Pv g))), .q (.lds [I6 2, I6 3, I6 0, I6 0, I6 2, I6 2]), .q .p, .e, .q .p, .q .p, .q .p, .q .p, .q .p, .q (.run ((Po g 12))), .q (.lds [I6 1, I6 4, I6 1, I6 2, I6 0, I6 1]), .q .p, .e, .q .p, .q .p, .q .p, .q .p, .q .p, .e, .q .p, .e, .q .p, .q .p, .q .p] [0, 0, 1, 1, 1, 1, 2, 2, 2, 2, 2, 2, 2, 2, 2, 2, 2, 2, 2, 3, 3, 3, 3, 3, 3, 3, 3, 3, 4, 4, 4, 4, 4, 4, 4, 5, 6, 6, 6] [0, 0, 1, 1, 1, 1, 2, 2, 2, 2, 2, 2, 2, 2, 3, 3, 3, 2, 2, 3, 3, 3, 3, 4, 4, 4, 3, 3, 4, 4, 4, 4, 4, 4, 5, 5, 6, 6, 6] [0, 1, 3, 7, 15, 31, 63, 127, 255, 511, 1023, 2047, 4095, 8191, 16383, 32767, 65535, 16383, 147455, 409599, 1048575, 2097151, 4194303, 8388607, 16777215, 33554431, 8388607, 75497471, 209715199, 536870911, 1073741823, 2147483647, 4294967295, 8589934591, 4294967295, 34359738367, 68719476735, 137438953471, 274877906943] [1, 5, 18, 27, 33, 35] 6 ([(1, (Pv sb)), (10, .bool false), (2, (Pv na)), (15, .bool false), (3, (Pv nb)), (4, I6 0), (29, .bool false), (5, .func (.func 55) #[] #[(Pv w4.heap.size)]), (6, .func (.func 57) #[] #[(Pv w5.heap.size)]), (39, .bool false), (7, .slice (some ⟨g, 0, none⟩) 3 cap), (0, .bool true), (42, (Pv nb)), (43, I6 6), (44, .bool true), (45, .bool true), (46, (Pv nb)), (47, I6 2), (48, .bool true), (49, .bool true), (50, .bool true), (51, .slice (some ⟨g, 0, none⟩) 3 cap), (52, I6 3), (53, .bool true), (54, .bool true), (55, .bool true), (56, .slice (some ⟨g, 0, none⟩) 3 cap), (57, (Pv g)), (58, .agg #[I6 2, I6 3, I6 0, I6 0, I6 2, I6 2]), (59, (Pv nb)), (60, I6 2), (61, .agg #[I6 2, I6 3, I6 0, I6 0, I6 2, I6 2]), (62, .bool true), (63, .bool true), (64, .bool true), (65, .slice (some ⟨g, 0, none⟩) 3 cap), (66, (Po g 12)), (67, .agg #[I6 1, I6 4, I6 1, I6 2, I6 0, I6 1]), (68, (Pv na)), (69, I6 1), (70, .agg #[I6 1, I6 4, I6 1, I6 2, I6 0, I6 1]), (71, .bool true), (72, .bool true), (73, .bool true), (74, (Pv na)), (75, I6 1), (76, (Pv nb)), (77, I6 2), (78, .bool true), (79, .bool true)]) [w7.drew, w7.drew, w7.drew, w7.drew, w7.drew, w7.drew, w7.drew] w7.drew (fun w' => [(15, [Ru Try.prog (vS (Instr.indexAt 54 (.slice (some ⟨g, 0, none⟩) 3 cap) (I6 0))) ((Pv g)) w']), (16, [w'.cell? ⟨g, 0, none⟩ = some (I6 2), w'.cell? ⟨g, 1, none⟩ = some (I6 3), w'.cell? ⟨g, 2, none⟩ = some (I6 0), w'.cell? ⟨g, 3, none⟩ = some (I6 0), w'.cell? ⟨g, 4, none⟩ = some (I6 2), w'.cell? ⟨g, 5, none⟩ = some (I6 2)]), (24, [Ru Try.prog (vS (Instr.indexAt 54 (.slice (some ⟨g, 0, none⟩) 3 cap) (I6 2))) ((Po g 12)) w']), (25, [w'.cell? ⟨g, 12, none⟩ = some (I6 1), w'.cell? ⟨g, 13, none⟩ = some (I6 4), w'.cell? ⟨g, 14, none⟩ = some (I6 1), w'.cell? ⟨g, 15, none⟩ = some (I6 2), w'.cell? ⟨g, 16, none⟩ = some (I6 0), w'.cell? ⟨g, 17, none⟩ = some (I6 1)])]) [1, 10, 2, 15, 3, 4, 29, 5, 6, 39, 7] [] hS (by kernel_rfl) (by kernel_rfl) (by kernel_rfl) (by kernel_rfl) (fun _ => by kernel_rfl) (by kernel_rfl) (by kernel_rfl) (by kernel_rfl) ?_ ?_ ?_
 ·intro e w' hw
  refine (.cons ?_ (.cons ?_ (.cons ?_ (.cons ?_ .nil))))
  ·exact fun _ _ => (.cons (ix_slice (E := 64) (size := 6) (j := 0) (by kernel_rfl) (by kernel_rfl) rfl (by omega)) .nil)
  ·intro h1 h2
   replace h1 : 2 ≤ e := h1
   replace h2 : e ≤ 3 := h2
   have he : e = 2 ∨ e = 3 := by omega
   rcases he with rfl | rfl
   ·obtain rfl : w' = w7.drew := hw.trans (by kernel_rfl)
    exact (.cons ((hOg.drew : OwnR w7.drew 64 6 g cap 3 ([I6 2, I6 3, I6 0, I6 0, I6 2, I6 2, I6 1, I6 4, I6 1, I6 2, I6 0, I6 1, I6 1, I6 4, I6 1, I6 2, I6 0, I6 1])).cellAt 0 rfl) (.cons ((hOg.drew : OwnR w7.drew 64 6 g cap 3 ([I6 2, I6 3, I6 0, I6 0, I6 2, I6 2, I6 1, I6 4, I6 1, I6 2, I6 0, I6 1, I6 1, I6 4, I6 1, I6 2, I6 0, I6 1])).cellAt 1 rfl) (.cons ((hOg.drew : OwnR w7.drew 64 6 g cap 3 ([I6 2, I6 3, I6 0, I6 0, I6 2, I6 2, I6 1, I6 4, I6 1, I6 2, I6 0, I6 1, I6 1, I6 4, I6 1, I6 2, I6 0, I6 1])).cellAt 2 rfl) (.cons ((hOg.drew : OwnR w7.drew 64 6 g cap 3 ([I6 2, I6 3, I6 0, I6 0, I6 2, I6 2, I6 1, I6 4, I6 1, I6 2, I6 0, I6 1, I6 1, I6 4, I6 1, I6 2, I6 0, I6 1])).cellAt 3 rfl) (.cons ((hOg.drew : OwnR w7.drew 64 6 g cap 3 ([I6 2, I6 3, I6 0, I6 0, I6 2, I6 2, I6 1, I6 4, I6 1, I6 2, I6 0, I6 1, I6 1, I6 4, I6 1, I6 2, I6 0, I6 1])).cellAt 4 rfl) (.cons ((hOg.drew : OwnR w7.drew 64 6 g cap 3 ([I6 2, I6 3, I6 0, I6 0, I6 2, I6 2, I6 1, I6 4, I6 1, I6 2, I6 0, I6 1, I6 1, I6 4, I6 1, I6 2, I6 0, I6 1])).cellAt 5 rfl) .nil))))))
   ·obtain rfl : w' = w7.drew := hw.trans (by kernel_rfl)
    exact (.cons ((hOg.drew : OwnR w7.drew 64 6 g cap 3 ([I6 2, I6 3, I6 0, I6 0, I6 2, I6 2, I6 1, I6 4, I6 1, I6 2, I6 0, I6 1, I6 1, I6 4, I6 1, I6 2, I6 0, I6 1])).cellAt 0 rfl) (.cons ((hOg.drew : OwnR w7.drew 64 6 g cap 3 ([I6 2, I6 3, I6 0, I6 0, I6 2, I6 2, I6 1, I6 4, I6 1, I6 2, I6 0, I6 1, I6 1, I6 4, I6 1, I6 2, I6 0, I6 1])).cellAt 1 rfl) (.cons ((hOg.drew : OwnR w7.drew 64 6 g cap 3 ([I6 2, I6 3, I6 0, I6 0, I6 2, I6 2, I6 1, I6 4, I6 1, I6 2, I6 0, I6 1, I6 1, I6 4, I6 1, I6 2, I6 0, I6 1])).cellAt 2 rfl) (.cons ((hOg.drew : OwnR w7.drew 64 6 g cap 3 ([I6 2, I6 3, I6 0, I6 0, I6 2, I6 2, I6 1, I6 4, I6 1, I6 2, I6 0, I6 1, I6 1, I6 4, I6 1, I6 2, I6 0, I6 1])).cellAt 3 rfl) (.cons ((hOg.drew : OwnR w7.drew 64 6 g cap 3 ([I6 2, I6 3, I6 0, I6 0, I6 2, I6 2, I6 1, I6 4, I6 1, I6 2, I6 0, I6 1, I6 1, I6 4, I6 1, I6 2, I6 0, I6 1])).cellAt 4 rfl) (.cons ((hOg.drew : OwnR w7.drew 64 6 g cap 3 ([I6 2, I6 3, I6 0, I6 0, I6 2, I6 2, I6 1, I6 4, I6 1, I6 2, I6 0, I6 1, I6 1, I6 4, I6 1, I6 2, I6 0, I6 1])).cellAt 5 rfl) .nil))))))
  ·exact fun _ _ => (.cons (ix_slice (E := 64) (size := 6) (j := 2) (by kernel_rfl) (by kernel_rfl) rfl (by omega)) .nil)
  ·intro h1 h2
   replace h1 : 3 ≤ e := h1
   replace h2 : e ≤ 4 := h2
   have he : e = 3 ∨ e = 4 := by omega
   rcases he with rfl | rfl
   ·obtain rfl : w' = w7.drew := hw.trans (by kernel_rfl)
    exact (.cons ((hOg.drew : OwnR w7.drew 64 6 g cap 3 ([I6 2, I6 3, I6 0, I6 0, I6 2, I6 2, I6 1, I6 4, I6 1, I6 2, I6 0, I6 1, I6 1, I6 4, I6 1, I6 2, I6 0, I6 1])).cellAt 12 rfl) (.cons ((hOg.drew : OwnR w7.drew 64 6 g cap 3 ([I6 2, I6 3, I6 0, I6 0, I6 2, I6 2, I6 1, I6 4, I6 1, I6 2, I6 0, I6 1, I6 1, I6 4, I6 1, I6 2, I6 0, I6 1])).cellAt 13 rfl) (.cons ((hOg.drew : OwnR w7.drew 64 6 g cap 3 ([I6 2, I6 3, I6 0, I6 0, I6 2, I6 2, I6 1, I6 4, I6 1, I6 2, I6 0, I6 1, I6 1, I6 4, I6 1, I6 2, I6 0, I6 1])).cellAt 14 rfl) (.cons ((hOg.drew : OwnR w7.drew 64 6 g cap 3 ([I6 2, I6 3, I6 0, I6 0, I6 2, I6 2, I6 1, I6 4, I6 1, I6 2, I6 0, I6 1, I6 1, I6 4, I6 1, I6 2, I6 0, I6 1])).cellAt 15 rfl) (.cons ((hOg.drew : OwnR w7.drew 64 6 g cap 3 ([I6 2, I6 3, I6 0, I6 0, I6 2, I6 2, I6 1, I6 4, I6 1, I6 2, I6 0, I6 1, I6 1, I6 4, I6 1, I6 2, I6 0, I6 1])).cellAt 16 rfl) (.cons ((hOg.drew : OwnR w7.drew 64 6 g cap 3 ([I6 2, I6 3, I6 0, I6 0, I6 2, I6 2, I6 1, I6 4, I6 1, I6 2, I6 0, I6 1, I6 1, I6 4, I6 1, I6 2, I6 0, I6 1])).cellAt 17 rfl) .nil))))))
   ·obtain rfl : w' = w7.drew := hw.trans (by kernel_rfl)
    exact (.cons ((hOg.drew : OwnR w7.drew 64 6 g cap 3 ([I6 2, I6 3, I6 0, I6 0, I6 2, I6 2, I6 1, I6 4, I6 1, I6 2, I6 0, I6 1, I6 1, I6 4, I6 1, I6 2, I6 0, I6 1])).cellAt 12 rfl) (.cons ((hOg.drew : OwnR w7.drew 64 6 g cap 3 ([I6 2, I6 3, I6 0, I6 0, I6 2, I6 2, I6 1, I6 4, I6 1, I6 2, I6 0, I6 1, I6 1, I6 4, I6 1, I6 2, I6 0, I6 1])).cellAt 13 rfl) (.cons ((hOg.drew : OwnR w7.drew 64 6 g cap 3 ([I6 2, I6 3, I6 0, I6 0, I6 2, I6 2, I6 1, I6 4, I6 1, I6 2, I6 0, I6 1, I6 1, I6 4, I6 1, I6 2, I6 0, I6 1])).cellAt 14 rfl) (.cons ((hOg.drew : OwnR w7.drew 64 6 g cap 3 ([I6 2, I6 3, I6 0, I6 0, I6 2, I6 2, I6 1, I6 4, I6 1, I6 2, I6 0, I6 1, I6 1, I6 4, I6 1, I6 2, I6 0, I6 1])).cellAt 15 rfl) (.cons ((hOg.drew : OwnR w7.drew 64 6 g cap 3 ([I6 2, I6 3, I6 0, I6 0, I6 2, I6 2, I6 1, I6 4, I6 1, I6 2, I6 0, I6 1, I6 1, I6 4, I6 1, I6 2, I6 0, I6 1])).cellAt 16 rfl) (.cons ((hOg.drew : OwnR w7.drew 64 6 g cap 3 ([I6 2, I6 3, I6 0, I6 0, I6 2, I6 2, I6 1, I6 4, I6 1, I6 2, I6 0, I6 1, I6 1, I6 4, I6 1, I6 2, I6 0, I6 1])).cellAt 17 rfl) .nil))))))
 ·refine (.cons ?eq38_1 (.cons ?eq38_5 (.cons ?eq38_18 (.cons ?eq38_27 (.cons ?eq38_33 (.cons ?eq38_35 .nil))))))
  ·refine eff_at (w7.drew) (w7.drew) (by kernel_rfl) (by kernel_rfl) ?_
   refine upon_call (f := 19) (vs := [(Pv nb)]) (cap := #[]) (d := (some 43)) (by kernel_rfl) Try.call19 #[(Pv nb)] (by kernel_rfl) (Width_any hB36.drew) ?_
   rintro _ _ ⟨rfl, rfl⟩
   exact ⟨_, rfl, ⟨by kernel_rfl, by kernel_rfl⟩⟩
  ·refine eff_at (w7.drew) (w7.drew) (by kernel_rfl) (by kernel_rfl) ?_
   refine upon_call (f := 21) (vs := [(Pv nb)]) (cap := #[]) (d := (some 47)) (by kernel_rfl) Try.call21 #[(Pv nb)] (by kernel_rfl) (Leafs_any hB36.drew) ?_
   rintro _ _ ⟨rfl, rfl⟩
   exact ⟨_, rfl, ⟨by kernel_rfl, by kernel_rfl⟩⟩
  ·refine eff_at (w7.drew) (w7.drew) (by kernel_rfl) (by kernel_rfl) ?_
   refine upon_call (f := 31) (vs := [(Pv nb)]) (cap := #[]) (d := (some 60)) (by kernel_rfl) Try.call31 #[(Pv nb)] (by kernel_rfl) (Number_any hB36.drew) ?_
   rintro _ _ ⟨rfl, rfl⟩
   exact ⟨_, rfl, ⟨by kernel_rfl, by kernel_rfl⟩⟩
  ·refine eff_at (w7.drew) (w7.drew) (by kernel_rfl) (by kernel_rfl) ?_
   refine upon_call (f := 31) (vs := [(Pv na)]) (cap := #[]) (d := (some 69)) (by kernel_rfl) Try.call31 #[(Pv na)] (by kernel_rfl) (Number_any hB35.drew) ?_
   rintro _ _ ⟨rfl, rfl⟩
   exact ⟨_, rfl, ⟨by kernel_rfl, by kernel_rfl⟩⟩
  ·refine eff_at (w7.drew) (w7.drew) (by kernel_rfl) (by kernel_rfl) ?_
   refine upon_call (f := 31) (vs := [(Pv na)]) (cap := #[]) (d := (some 75)) (by kernel_rfl) Try.call31 #[(Pv na)] (by kernel_rfl) (Number_any hB35.drew) ?_
   rintro _ _ ⟨rfl, rfl⟩
   exact ⟨_, rfl, ⟨by kernel_rfl, by kernel_rfl⟩⟩
  ·refine eff_at (w7.drew) (w7.drew) (by kernel_rfl) (by kernel_rfl) ?_
   refine upon_call (f := 31) (vs := [(Pv nb)]) (cap := #[]) (d := (some 77)) (by kernel_rfl) Try.call31 #[(Pv nb)] (by kernel_rfl) (Number_any hB36.drew) ?_
   rintro _ _ ⟨rfl, rfl⟩
   exact ⟨_, rfl, ⟨by kernel_rfl, by kernel_rfl⟩⟩
 rintro a w39 hS hw40
 replace hw40 : w39 = w7.drew := hw40.trans (by kernel_rfl)
 have hE45 : Ext [] w w39 := by rw [hw40]; exact hF7.drew
 replace hS := hS.kp [(1, (Pv sb)), (10, .bool false), (2, (Pv na)), (15, .bool false), (3, (Pv nb)), (4, I6 0), (29, .bool false), (5, .func (.func 55) #[] #[(Pv w4.heap.size)]), (6, .func (.func 57) #[] #[(Pv w5.heap.size)]), (39, .bool false), (7, .slice (some ⟨g, 0, none⟩) 3 cap), (0, .bool true)]
 refine hK37 _ _ ?_
 refine wpIn_ret ?_
 refine ret1 hS Try.results17 rfl ?_
 exact ⟨rfl, hE45⟩

end Go.Proofs.Ytpglmeeledmkoaa
