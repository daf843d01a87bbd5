import Derived.Test.YtkdbfjomjlhfbaaProg
import Derived.Test.YtkdbfjomjlhfbaaTb
namespace Go.Proofs.Ytkdbfjomjlhfbaa
open Go.Vc
set_option linter.unusedSectionVars false
variable [Inhabited Zt]

theorem add_err {t : Nat} {k : Int} (hk : k = 2 ∨ k = 3) {w : World} :
  Calls Try.prog 60 #[(Pv t), .pointer none, I6 k, .pointer none, I6 k] w fun e w' => e = .returned (.bool true) ∧ w' = w := by
 refine calls_body 43 [(0, (Pv t)), (1, .pointer none), (2, I6 k), (3, .pointer none), (4, I6 k)] Try.func60 rfl (by kernel_rfl) (by kernel_rfl) (by kernel_rfl) fun a hS => ?_
 refine sq fun K1 hK1 => ?_
 refine rgn 1 ?_
 refine sg wide_wide [.p] [] [(0, (Pv t)), (1, .pointer none), (2, I6 k), (3, .pointer none), (4, I6 k), (10, .bool false)] 1 0 hS .nil fun a hS => ?_
 refine seg_end ?_
 refine hK1 _ _ ?_
 refine sq fun K2 hK2 => ?_
 refine sq fun K3 hK3 => ?_
 refine rgn 10 ?_
 refine sg wide_wide [.p, .p, .as (.bool false), .p, .p, .p, .p, .as (.bool true), .p, .p] [Value.bool (((k : Int) != k)) = .bool false, Value.bool (((k : Int) != 0)) = .bool true] [(0, (Pv t)), (1, .pointer none), (2, I6 k), (3, .pointer none), (4, I6 k), (10, .bool false), (20, .bool false)] 10 0 hS (.cons (as_ne_f (rfl)) (.cons (as_ne_t (by omega)) .nil)) fun a hS => ?_
 refine seg_end ?_
 refine hK3 _ _ ?_
 refine cond_f hS rfl ?_
 refine wpIn_skip ?_
 refine hK2 _ _ ?_
 refine sq fun K4 hK4 => ?_
 refine sq fun K5 hK5 => ?_
 refine rgn 2 ?_
 refine sg wide_wide [.p, .p] [] [(0, (Pv t)), (1, .pointer none), (2, I6 k), (3, .pointer none), (4, I6 k), (10, .bool false), (20, .bool false), (22, .bool false)] 2 0 hS .nil fun a hS => ?_
 refine seg_end ?_
 refine hK5 _ _ ?_
 refine cond_f hS rfl ?_
 refine wpIn_skip ?_
 refine hK4 _ _ ?_
 refine sq fun K6 hK6 => ?_
 refine rgn 1 ?_
 refine sg wide_wide [.p] [] [(0, (Pv t)), (1, .pointer none), (2, I6 k), (3, .pointer none), (4, I6 k), (10, .bool true), (20, .bool false), (22, .bool false)] 1 0 hS .nil fun a hS => ?_
 refine seg_end ?_
 refine hK6 _ _ ?_
 refine wpIn_ret ?_
 refine ret1 hS Try.results60 rfl ?_
 exact ⟨rfl, rfl⟩

theorem add_ok {t n pc qc b c : Nat} {pb qb : Option Addr} {bv : Value} {xs ys : List Value} {w : World} (hB : Blk w t 46 #[.slice pb n pc, .slice qb n qc, bv]) (hP : OwnV w 24 1 (.slice pb n pc) n xs) (hR : OwnV w 52 1 (.slice qb n qc) n ys) (hn : n ≤ 4398046511104) :
  Calls Try.prog 60 #[(Pv t), (Pv b), I6 0, (Pv c), I6 0] w fun e w' => ∃ ga ca gb cb, e = .returned (.bool true) ∧ Blk w' t 46 #[.slice (some ⟨ga, 0, none⟩) (n + 1) ca, .slice (some ⟨gb, 0, none⟩) (n + 1) cb, bv] ∧ OwnR w' 24 1 ga ca (n + 1) (xs ++ [Pv b]) ∧ OwnR w' 52 1 gb cb (n + 1) (ys ++ [Pv c]) ∧ Ext (t :: (oa pb ++ oa qb)) w w' ∧ (ga ∈ oa pb ∨ w.heap.size ≤ ga) ∧ (gb ∈ oa qb ∨ w.heap.size ≤ gb) := by
 refine calls_body 43 [(0, (Pv t)), (1, (Pv b)), (2, I6 0), (3, (Pv c)), (4, I6 0)] Try.func60 rfl (by kernel_rfl) (by kernel_rfl) (by kernel_rfl) fun a hS => ?_
 have hE0 : Ext (t :: (oa pb ++ oa qb)) w w := Ext.refl _ _
 refine sq fun K1 hK1 => ?_
 refine rgn 1 ?_
 refine sg wide_wide [.p] [] [(0, (Pv t)), (1, (Pv b)), (2, I6 0), (3, (Pv c)), (4, I6 0), (10, .bool false)] 1 0 hS .nil fun a hS => ?_
 refine seg_end ?_
 refine hK1 _ _ ?_
 refine sq fun K2 hK2 => ?_
 refine sq fun K3 hK3 => ?_
 refine rgn 10 ?_
 refine sg wide_wide [.p, .p, .p, .p, .p, .p, .p, .p, .p, .p] [] [(0, (Pv t)), (1, (Pv b)), (2, I6 0), (3, (Pv c)), (4, I6 0), (10, .bool false), (20, .bool false)] 10 0 hS .nil fun a hS => ?_
 refine seg_end ?_
 refine hK3 _ _ ?_
 refine cond_f hS rfl ?_
 refine wpIn_skip ?_
 refine hK2 _ _ ?_
 refine sq fun K4 hK4 => ?_
 refine sq fun K5 hK5 => ?_
 refine rgn 2 ?_
 refine sg wide_wide [.p, .p] [] [(0, (Pv t)), (1, (Pv b)), (2, I6 0), (3, (Pv c)), (4, I6 0), (10, .bool false), (20, .bool false), (22, .bool true)] 2 0 hS .nil fun a hS => ?_
 refine seg_end ?_
 refine hK5 _ _ ?_
 refine cond_t hS rfl ?_
 refine sq fun K6 hK6 => ?_
 refine rgn 11 ?_
 refine sg wide_wide [.p, .p, .p, .p, .ld (.slice pb n pc), .p] [w.cell? ⟨t, 0, none⟩ = some (.slice pb n pc)] [(0, (Pv t)), (1, (Pv b)), (2, I6 0), (3, (Pv c)), (4, I6 0), (10, .bool false), (20, .bool false), (22, .bool true), (23, (Pv t)), (27, .slice pb n pc), (28, (Pv b))] 6 5 hS (.cons (hB.cell 0 rfl) .nil) fun a hS => ?_
 refine eff_new wide_wide (r := 4) (cs := #[(Pv b)]) (T := 24) (v := Value.slice (some ⟨w.heap.size, 0, none⟩) 1 1) (d := (some 29)) hS (by kernel_rfl) fun a w7 hw8 hS => ?_
 have hB12 := Blk.at' hw8 (hB.alloc _)
 have hB13 := OwnV.at' hw8 (hP.alloc _)
 have hB14 := OwnV.at' hw8 (hR.alloc _)
 have hB15 : Blk w7 (w.heap.size) 24 #[(Pv b)] := by rw [hw8]; exact Blk.new _ _ _
 have hs16 : w.heap.size ≤ w.heap.size := hE0.size
 have hE17 : Ext (t :: (oa pb ++ oa qb)) w w7 := by rw [hw8]; exact hE0.alloc _
 refine eff_append2 wide_wide (r := 3) (d := (some 30)) (t := 43) (ty := 43) (e := 24) (size := 1) (bytes := 8) (len := n) (b := w.heap.size) (off := 0) (k := 1) (c := 1) (z := #[.pointer none]) (v := Value.slice pb n pc) (xs := xs) [(Pv b)] hS (by kernel_rfl) (by kernel_rfl) (by kernel_rfl) (by kernel_rfl) (by kernel_rfl) hB13 (by simp) (fun j u hu => by rw [Nat.zero_add]; exact hB15.cell j (by simpa using hu)) rfl (by omega) (by omega) (by omega) fun ga18 ca18 a wa18 hOa18 hEa18 hFa18 hS => ?_
 have hB19 := hB12.ext hEa18 (hB13.notin hB12 (by decide))
 have hB20 := hB14.ext hEa18 (hB14.disj hB13 (by decide))
 have hE22 : Ext (t :: (oa pb ++ oa qb)) w wa18 := hE17.trans hEa18 (fun b hb => .inl (by rw [ob_oa] at hb; simp [hb]))
 refine sg wide_wide [.p, .p] [] [(0, (Pv t)), (1, (Pv b)), (2, I6 0), (3, (Pv c)), (4, I6 0), (10, .bool false), (20, .bool false), (22, .bool true), (30, .slice (some ⟨ga18, 0, none⟩) (n + 1) ca18), (32, (Pv t))] 10 1 hS .nil fun a hS => ?_
 refine eff_store wide_wide (r := 0) (b := t) (off := 0) (vs := [.slice (some ⟨ga18, 0, none⟩) (n + 1) ca18]) hS (by kernel_rfl) hB19 (by simp) fun a w23 hw24 hS => ?_
 have hB25 : Blk w23 t 46 (#[.slice (some ⟨ga18, 0, none⟩) (n + 1) ca18, .slice qb n qc, bv]) := by rw [hw24]; exact hB19.upd _ _
 have hB26 := OwnV.at' hw24 (hB20.updNe (OwnV.ne hB20 hB19 (by decide)) _ _)
 have hB28 := OwnR.at' hw24 (hOa18.updNe ((OwnR.ne_type hOa18 hB19 (by decide)).symm) _ _)
 have hE29 : Ext (t :: (oa pb ++ oa qb)) w w23 := by rw [hw24]; exact hE22.updIn (.inl (by simp)) _ _
 refine seg_end ?_
 refine hK6 _ _ ?_
 refine rgn 11 ?_
 refine sg wide_wide [.p, .p, .p, .p, .ld (.slice qb n qc), .p] [w23.cell? ⟨t, 1, none⟩ = some (.slice qb n qc)] [(0, (Pv t)), (1, (Pv b)), (2, I6 0), (3, (Pv c)), (4, I6 0), (10, .bool false), (20, .bool false), (22, .bool true), (33, (Pv t)), (37, .slice qb n qc), (38, (Pv c))] 6 5 hS (.cons (hB25.cell 1 rfl) .nil) fun a hS => ?_
 refine eff_new wide_wide (r := 4) (cs := #[(Pv c)]) (T := 52) (v := Value.slice (some ⟨w23.heap.size, 0, none⟩) 1 1) (d := (some 39)) hS (by kernel_rfl) fun a w30 hw31 hS => ?_
 have hB36 := Blk.at' hw31 (hB25.alloc _)
 have hB37 := OwnV.at' hw31 (hB26.alloc _)
 have hB39 := OwnR.at' hw31 (hB28.alloc _)
 have hB40 : Blk w30 (w23.heap.size) 52 #[(Pv c)] := by rw [hw31]; exact Blk.new _ _ _
 have hs41 : w.heap.size ≤ w23.heap.size := hE29.size
 have hE42 : Ext (t :: (oa pb ++ oa qb)) w w30 := by rw [hw31]; exact hE29.alloc _
 refine eff_append2 wide_wide (r := 3) (d := (some 40)) (t := 44) (ty := 44) (e := 52) (size := 1) (bytes := 8) (len := n) (b := w23.heap.size) (off := 0) (k := 1) (c := 1) (z := #[.pointer none]) (v := Value.slice qb n qc) (xs := ys) [(Pv c)] hS (by kernel_rfl) (by kernel_rfl) (by kernel_rfl) (by kernel_rfl) (by kernel_rfl) hB37 (by simp) (fun j u hu => by rw [Nat.zero_add]; exact hB40.cell j (by simpa using hu)) rfl (by omega) (by omega) (by omega) fun ga43 ca43 a wa43 hOa43 hEa43 hFa43 hS => ?_
 have hB44 := hB36.ext hEa43 (hB37.notin hB36 (by decide))
 have hB46 := hB39.ext hEa43 (fun hm => hB39.v.disj hB37 (by decide) _ (by simp [ob]) hm)
 have hE48 : Ext (t :: (oa pb ++ oa qb)) w wa43 := hE42.trans hEa43 (fun b hb => .inl (by rw [ob_oa] at hb; simp [hb]))
 refine sg wide_wide [.p, .p] [] [(0, (Pv t)), (1, (Pv b)), (2, I6 0), (3, (Pv c)), (4, I6 0), (10, .bool false), (20, .bool false), (22, .bool true), (40, .slice (some ⟨ga43, 0, none⟩) (n + 1) ca43), (42, (Po t 1))] 10 1 hS .nil fun a hS => ?_
 refine eff_store wide_wide (r := 0) (b := t) (off := 1) (vs := [.slice (some ⟨ga43, 0, none⟩) (n + 1) ca43]) hS (by kernel_rfl) hB44 (by simp) fun a w49 hw50 hS => ?_
 have hB51 : Blk w49 t 46 (#[.slice (some ⟨ga18, 0, none⟩) (n + 1) ca18, .slice (some ⟨ga43, 0, none⟩) (n + 1) ca43, bv]) := by rw [hw50]; exact hB44.upd _ _
 have hB53 := OwnR.at' hw50 (hB46.updNe ((OwnR.ne_type hOa18 hB19 (by decide)).symm) _ _)
 have hB55 := OwnR.at' hw50 (hOa43.updNe ((OwnR.ne_type hOa43 hB44 (by decide)).symm) _ _)
 have hE56 : Ext (t :: (oa pb ++ oa qb)) w w49 := by rw [hw50]; exact hE48.updIn (.inl (by simp)) _ _
 refine seg_end ?_
 refine hK4 _ _ ?_
 refine sq fun K57 hK57 => ?_
 refine rgn 1 ?_
 refine sg wide_wide [.p] [] [(0, (Pv t)), (1, (Pv b)), (2, I6 0), (3, (Pv c)), (4, I6 0), (10, .bool true), (20, .bool false), (22, .bool true)] 1 0 hS .nil fun a hS => ?_
 refine seg_end ?_
 refine hK57 _ _ ?_
 refine wpIn_ret ?_
 refine ret1 hS Try.results60 rfl ?_
 exact ⟨ga18, ca18, ga43, ca43, rfl, hB51, hB53, hB55, hE56, (hFa18 ga18 (by simp)).imp (fun h => by simpa [ob_oa] using h) (Nat.le_trans hE17.size), (hFa43 ga43 (by simp)).imp (fun h => by simpa [ob_oa] using h) (Nat.le_trans hE42.size)⟩

theorem small_t {c d : Nat} {v u : Value} {n m : Nat} {xs ys : List Int} {w : World} (hc : Blk w c 56 #[v]) (hv : RdV w 1 v n (bv xs)) (hd : Blk w d 56 #[u]) (hu : RdV w 1 u m (bv ys)) (hn : n ≤ 16777216) (hm : m ≤ 16777216) (h : n + m ≤ 65536) :
  Calls Try.prog 62 #[(Pv c), (Pv d)] w fun e w' => e = .returned (.bool true) ∧ Ext [] w w' := by
 refine calls_body 17 [(0, (Pv c)), (1, (Pv d))] Try.func62 rfl (by kernel_rfl) (by kernel_rfl) (by kernel_rfl) fun a hS => ?_
 have hE0 : Ext [] w w := Ext.refl _ _
 refine sq fun K1 hK1 => ?_
 refine rgn 1 ?_
 refine sg wide_wide [.p] [] [(0, (Pv c)), (1, (Pv d)), (4, .bool false)] 1 0 hS .nil fun a hS => ?_
 refine seg_end ?_
 refine hK1 _ _ ?_
 refine sq fun K2 hK2 => ?_
 refine region_fn2 wide_wide [.q .p, .q .p, .q .p, .q (.ld (v)), .q (.run (I6 ↑n)), .q .p, .q .p, .q .p, .q (.ld (u)), .q (.run (I6 ↑m)), .q (.as (I6 (↑n + ↑m))), .q (.as (.bool true)), .q .p] [0, 0, 0, 0, 0, 0, 0, 0, 0, 0, 0, 0, 0] [0, 0, 0, 0, 0, 0, 0, 0, 0, 0, 0, 0, 0] [0, 1, 3, 7, 15, 0, 32, 96, 224, 480, 1023, 2047, 4095] [] 0 ([(0, (Pv c)), (1, (Pv d)), (4, .bool true), (5, (Pv c)), (6, (Pv c)), (7, (Pv c)), (8, v), (9, I6 ↑n), (10, (Pv d)), (11, (Pv d)), (12, (Pv d)), (13, u), (14, I6 ↑m), (15, I6 (↑n + ↑m)), (16, .bool true)]) [w.drew] w.drew (fun w' => [(3, [w'.cell? ⟨c, 0, none⟩ = some (v)]), (4, [Ru Try.prog (vS (Builtin.len_ #[23] 3 #[v])) (I6 ↑n) w']), (8, [w'.cell? ⟨d, 0, none⟩ = some (u)]), (9, [Ru Try.prog (vS (Builtin.len_ #[23] 3 #[u])) (I6 ↑m) w']), (10, [Value.int .i64 (IntKind.i64.wrap (↑n + ↑m)) = I6 (↑n + ↑m)]), (11, [Value.bool (decide ((↑n + ↑m : Int) ≤ 65536)) = .bool true])]) [0, 1] [] hS (by kernel_rfl) (by kernel_rfl) (by kernel_rfl) (by kernel_rfl) (fun _ => by kernel_rfl) (by kernel_rfl) (by kernel_rfl) (by kernel_rfl) ?_ ?_ ?_
 ·intro e w' hw
  refine (.cons ?_ (.cons ?_ (.cons ?_ (.cons ?_ (.cons ?_ (.cons ?_ .nil))))))
  ·intro h1 h2
   obtain rfl : e = 0 := Nat.le_antisymm h2 h1
   obtain rfl : w' = w.drew := hw.trans (by kernel_rfl)
   exact (.cons ((hc.drew : Blk w.drew c 56 (#[v])).cell 0 rfl) .nil)
  ·exact fun _ _ => (.cons (run_len_rd (e := 5) hv (by kernel_rfl)) .nil)
  ·intro h1 h2
   obtain rfl : e = 0 := Nat.le_antisymm h2 h1
   obtain rfl : w' = w.drew := hw.trans (by kernel_rfl)
   exact (.cons ((hd.drew : Blk w.drew d 56 (#[u])).cell 0 rfl) .nil)
  ·exact fun _ _ => (.cons (run_len_rd (e := 5) hu (by kernel_rfl)) .nil)
  ·exact fun _ _ => (.cons (as_i64 (by omega)) .nil)
  ·exact fun _ _ => (.cons (as_t (by omega)) .nil)
 ·refine .nil
 rintro a w4 hS hw5
 replace hw5 : w4 = w.drew := hw5.trans (by kernel_rfl)
 have hE8 : Ext [] w w4 := by rw [hw5]; exact hE0.drew
 have hX9 : Ext [] w w4 := by rw [hw5]; exact (Ext.refl _ _).drew
 have hG10 : RdV w4 1 v n (bv xs) := hv.ext0 hX9
 have hG11 : RdV w4 1 u m (bv ys) := hu.ext0 hX9
 replace hS := hS.kp [(0, (Pv c)), (1, (Pv d)), (4, .bool true)]
 refine hK2 _ _ ?_
 refine wpIn_ret ?_
 refine ret1 hS Try.results62 rfl ?_
 exact ⟨rfl, hE8⟩

theorem small_f {c d : Nat} {v u : Value} {n m : Nat} {xs ys : List Int} {w : World} (hc : Blk w c 56 #[v]) (hv : RdV w 1 v n (bv xs)) (hd : Blk w d 56 #[u]) (hu : RdV w 1 u m (bv ys)) (hn : n ≤ 16777216) (hm : m ≤ 16777216) (h : ¬n + m ≤ 65536) :
  Calls Try.prog 62 #[(Pv c), (Pv d)] w fun e w' => e = .returned (.bool false) ∧ Ext [] w w' := by
 refine calls_body 17 [(0, (Pv c)), (1, (Pv d))] Try.func62 rfl (by kernel_rfl) (by kernel_rfl) (by kernel_rfl) fun a hS => ?_
 have hE0 : Ext [] w w := Ext.refl _ _
 refine sq fun K1 hK1 => ?_
 refine rgn 1 ?_
 refine sg wide_wide [.p] [] [(0, (Pv c)), (1, (Pv d)), (4, .bool false)] 1 0 hS .nil fun a hS => ?_
 refine seg_end ?_
 refine hK1 _ _ ?_
 refine sq fun K2 hK2 => ?_
 refine region_fn2 wide_wide [.q .p, .q .p, .q .p, .q (.ld (v)), .q (.run (I6 ↑n)), .q .p, .q .p, .q .p, .q (.ld (u)), .q (.run (I6 ↑m)), .q (.as (I6 (↑n + ↑m))), .q (.as (.bool false)), .q .p] [0, 0, 0, 0, 0, 0, 0, 0, 0, 0, 0, 0, 0] [0, 0, 0, 0, 0, 0, 0, 0, 0, 0, 0, 0, 0] [0, 1, 3, 7, 15, 0, 32, 96, 224, 480, 1023, 2047, 4095] [] 0 ([(0, (Pv c)), (1, (Pv d)), (4, .bool false), (5, (Pv c)), (6, (Pv c)), (7, (Pv c)), (8, v), (9, I6 ↑n), (10, (Pv d)), (11, (Pv d)), (12, (Pv d)), (13, u), (14, I6 ↑m), (15, I6 (↑n + ↑m)), (16, .bool false)]) [w.drew] w.drew (fun w' => [(3, [w'.cell? ⟨c, 0, none⟩ = some (v)]), (4, [Ru Try.prog (vS (Builtin.len_ #[23] 3 #[v])) (I6 ↑n) w']), (8, [w'.cell? ⟨d, 0, none⟩ = some (u)]), (9, [Ru Try.prog (vS (Builtin.len_ #[23] 3 #[u])) (I6 ↑m) w']), (10, [Value.int .i64 (IntKind.i64.wrap (↑n + ↑m)) = I6 (↑n + ↑m)]), (11, [Value.bool (decide ((↑n + ↑m : Int) ≤ 65536)) = .bool false])]) [0, 1] [] hS (by kernel_rfl) (by kernel_rfl) (by kernel_rfl) (by kernel_rfl) (fun _ => by kernel_rfl) (by kernel_rfl) (by kernel_rfl) (by kernel_rfl) ?_ ?_ ?_
 ·intro e w' hw
  refine (.cons ?_ (.cons ?_ (.cons ?_ (.cons ?_ (.cons ?_ (.cons ?_ .nil))))))
  ·intro h1 h2
   obtain rfl : e = 0 := Nat.le_antisymm h2 h1
   obtain rfl : w' = w.drew := hw.trans (by kernel_rfl)
   exact (.cons ((hc.drew : Blk w.drew c 56 (#[v])).cell 0 rfl) .nil)
  ·exact fun _ _ => (.cons (run_len_rd (e := 5) hv (by kernel_rfl)) .nil)
  ·intro h1 h2
   obtain rfl : e = 0 := Nat.le_antisymm h2 h1
   obtain rfl : w' = w.drew := hw.trans (by kernel_rfl)
   exact (.cons ((hd.drew : Blk w.drew d 56 (#[u])).cell 0 rfl) .nil)
  ·exact fun _ _ => (.cons (run_len_rd (e := 5) hu (by kernel_rfl)) .nil)
  ·exact fun _ _ => (.cons (as_i64 (by omega)) .nil)
  ·exact fun _ _ => (.cons (as_f (by omega)) .nil)
 ·refine .nil
 rintro a w4 hS hw5
 replace hw5 : w4 = w.drew := hw5.trans (by kernel_rfl)
 have hE8 : Ext [] w w4 := by rw [hw5]; exact hE0.drew
 have hX9 : Ext [] w w4 := by rw [hw5]; exact (Ext.refl _ _).drew
 have hG10 : RdV w4 1 v n (bv xs) := hv.ext0 hX9
 have hG11 : RdV w4 1 u m (bv ys) := hu.ext0 hX9
 replace hS := hS.kp [(0, (Pv c)), (1, (Pv d)), (4, .bool false)]
 refine hK2 _ _ ?_
 refine wpIn_ret ?_
 refine ret1 hS Try.results62 rfl ?_
 exact ⟨rfl, hE8⟩

end Go.Proofs.Ytkdbfjomjlhfbaa
