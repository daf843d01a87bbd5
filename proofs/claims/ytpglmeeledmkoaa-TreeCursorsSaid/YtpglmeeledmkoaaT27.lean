import Derived.Test.YtpglmeeledmkoaaProg
import Derived.Test.YtpglmeeledmkoaaVc
import Derived.Test.YtpglmeeledmkoaaT26
namespace Go.Proofs.Ytpglmeeledmkoaa
open Go.Vc

theorem NLeaf_any {b : Nat} {st : Option Addr} {num kd nn lk ls ll lr wd lf tt : Int} {ks : Value} {fl : Bool} {w : World} (hN : Blk w b 106 #[.pointer st, I6 num, I6 kd, I6 nn, I6 lk, I6 ls, I6 ll, I6 lr, ks, I6 wd, I6 lf, I6 tt, .bool fl]) :
  Calls Try.prog 62 #[(Pv b)] w fun e w' => e = .returned (.tuple #[.agg #[I6 lk, I6 ls, I6 ll, I6 lr], .bool ((kd : Int) == 1)]) ∧ Ext [] w w' := by
 refine calls_body 13 [(0, (Pv b))] Try.func62 rfl (by kernel_rfl) (by kernel_rfl) (by kernel_rfl) fun a hS => ?_
 have hE0 : Ext [] w w := Ext.refl _ _
 refine sq fun K1 hK1 => ?_
 refine rgn 2 ?_
 refine eff_box wide_wide (r := 1) (cs := #[I6 0, I6 0, I6 0, I6 0]) (T := 38) (d := (some 2)) hS (by kernel_rfl) fun a w2 hw3 hS => ?_
 have hn4 : b ≠ w.heap.size := Nat.ne_of_lt hN.lt
 have hB5 := Blk.at' hw3 (hN.alloc _)
 have hB6 : Blk w2 (w.heap.size) 38 #[I6 0, I6 0, I6 0, I6 0] := by rw [hw3]; exact Blk.new _ _ _
 have hs7 : w.heap.size ≤ w.heap.size := hE0.size
 have hE8 : Ext [] w w2 := by rw [hw3]; exact hE0.alloc _
 refine sg wide_wide [.p] [] [(0, (Pv b)), (2, (Pv w.heap.size)), (3, .bool false)] 2 0 hS .nil fun a hS => ?_
 refine seg_end ?_
 refine hK1 _ _ ?_
 refine sq fun K9 hK9 => ?_
 refine region_fn2 wide_wide [.q .p, .q .p, .q .p, .q (.lds [I6 lk, I6 ls, I6 ll, I6 lr]), .q .p, .q .p, .q .p, .q (.ld (I6 kd)), .q .p, .e, .q .p] [0, 0, 0, 0, 0, 0, 0, 0, 0, 0, 1] [0, 0, 0, 0, 1, 1, 1, 1, 1, 0, 1] [0, 1, 3, 7, 0, 16, 48, 112, 240, 15, 1023] [9] 1 ([(0, (Pv b)), (2, (Pv w.heap.size)), (3, .bool ((kd : Int) == 1)), (4, (Pv b)), (5, (Pv b)), (6, (Po b 4)), (7, .agg #[I6 lk, I6 ls, I6 ll, I6 lr]), (8, (Pv b)), (9, (Pv b)), (10, (Po b 2)), (11, I6 kd), (12, .bool ((kd : Int) == 1))]) [w2.drew, upd (w2.drew) (w.heap.size) 38 #[I6 lk, I6 ls, I6 ll, I6 lr]] w2.drew (fun w' => [(3, [w'.cell? ⟨b, 4, none⟩ = some (I6 lk), w'.cell? ⟨b, 5, none⟩ = some (I6 ls), w'.cell? ⟨b, 6, none⟩ = some (I6 ll), w'.cell? ⟨b, 7, none⟩ = some (I6 lr)]), (7, [w'.cell? ⟨b, 2, none⟩ = some (I6 kd)])]) [0, 2] [] hS (by kernel_rfl) (by kernel_rfl) (by kernel_rfl) (by kernel_rfl) (fun _ => by kernel_rfl) (by kernel_rfl) (by kernel_rfl) (by kernel_rfl) ?_ ?_ ?_
 ·intro e w' hw
  refine (.cons ?_ (.cons ?_ .nil))
  ·intro h1 h2
   obtain rfl : e = 0 := Nat.le_antisymm h2 h1
   obtain rfl : w' = w2.drew := hw.trans (by kernel_rfl)
   exact (.cons ((hB5.drew : Blk w2.drew b 106 (#[.pointer st, I6 num, I6 kd, I6 nn, I6 lk, I6 ls, I6 ll, I6 lr, ks, I6 wd, I6 lf, I6 tt, .bool fl])).cell 4 rfl) (.cons ((hB5.drew : Blk w2.drew b 106 (#[.pointer st, I6 num, I6 kd, I6 nn, I6 lk, I6 ls, I6 ll, I6 lr, ks, I6 wd, I6 lf, I6 tt, .bool fl])).cell 5 rfl) (.cons ((hB5.drew : Blk w2.drew b 106 (#[.pointer st, I6 num, I6 kd, I6 nn, I6 lk, I6 ls, I6 ll, I6 lr, ks, I6 wd, I6 lf, I6 tt, .bool fl])).cell 6 rfl) (.cons ((hB5.drew : Blk w2.drew b 106 (#[.pointer st, I6 num, I6 kd, I6 nn, I6 lk, I6 ls, I6 ll, I6 lr, ks, I6 wd, I6 lf, I6 tt, .bool fl])).cell 7 rfl) .nil))))
  ·intro h1 h2
   replace h1 : 0 ≤ e := h1
   replace h2 : e ≤ 1 := h2
   have he : e = 0 ∨ e = 1 := by omega
   rcases he with rfl | rfl
   ·obtain rfl : w' = w2.drew := hw.trans (by kernel_rfl)
    exact (.cons ((hB5.drew : Blk w2.drew b 106 (#[.pointer st, I6 num, I6 kd, I6 nn, I6 lk, I6 ls, I6 ll, I6 lr, ks, I6 wd, I6 lf, I6 tt, .bool fl])).cell 2 rfl) .nil)
   ·obtain rfl : w' = upd (w2.drew) (w.heap.size) 38 #[I6 lk, I6 ls, I6 ll, I6 lr] := hw.trans (by kernel_rfl)
    exact (.cons (((hB5.drew).updNe (Ne.symm hn4) _ _ : Blk (upd (w2.drew) (w.heap.size) 38 #[I6 lk, I6 ls, I6 ll, I6 lr]) b 106 (#[.pointer st, I6 num, I6 kd, I6 nn, I6 lk, I6 ls, I6 ll, I6 lr, ks, I6 wd, I6 lf, I6 tt, .bool fl])).cell 2 rfl) .nil)
 ·refine (.cons ?eq10_9 .nil)
  ·refine eff_at (w2.drew) (upd (w2.drew) (w.heap.size) 38 #[I6 lk, I6 ls, I6 ll, I6 lr]) (by kernel_rfl) (by kernel_rfl) ?_
   exact upon_store (b := w.heap.size) (off := 0) (vs := [I6 lk, I6 ls, I6 ll, I6 lr]) (by kernel_rfl) (hB6.drew : Blk w2.drew w.heap.size 38 (#[I6 0, I6 0, I6 0, I6 0])) (by simp) ⟨by kernel_rfl, by kernel_rfl⟩
 rintro a w11 hS hw12
 replace hw12 : w11 = upd (w2.drew) (w.heap.size) 38 #[I6 lk, I6 ls, I6 ll, I6 lr] := hw12.trans (by kernel_rfl)
 have hB14 : Blk w11 w.heap.size 38 (#[I6 lk, I6 ls, I6 ll, I6 lr]) := by rw [hw12]; exact (hB6.drew).upd _ _
 have hE15 : Ext [] w w11 := by rw [hw12]; exact (hE8.drew).updIn (.inr hs7) _ _
 replace hS := hS.kp [(0, (Pv b)), (2, (Pv w.heap.size)), (3, .bool ((kd : Int) == 1))]
 refine hK9 _ _ ?_
 refine wpIn_ret ?_
 refine retA2 hS Try.results62 (by kernel_rfl) (by kernel_rfl) rfl rfl hB14 ?_
 exact ⟨rfl, hE15⟩

theorem Count_any {sb : Nat} {t : Tr} {w : World} (ht : t.Ok w sb) :
  Calls Try.prog 32 #[(Pv t.b)] w fun e w' => e = .returned (I6 (t.kids.length : Int)) ∧ w' = w := by
 have hta := ht.arr
 have hN : Blk w t.b 106 #[(Pv sb), I6 t.num, I6 t.kd, I6 t.nn, I6 t.lk, I6 t.ls, I6 t.ll, I6 t.lr, t.ks, I6 t.wd, I6 t.lf, I6 t.tt, .bool t.fl] := ht.blk
 refine calls_body 8 [(0, (Pv t.b))] Try.func32 rfl (by kernel_rfl) (by kernel_rfl) (by kernel_rfl) fun a hS => ?_
 refine sq fun K1 hK1 => ?_
 refine rgn 1 ?_
 refine sg wide_wide [.p] [] [(0, (Pv t.b)), (2, I6 0)] 1 0 hS .nil fun a hS => ?_
 refine seg_end ?_
 refine hK1 _ _ ?_
 refine sq fun K2 hK2 => ?_
 refine rgn 6 ?_
 refine sg wide_wide [.p, .p, .p, .ld (t.ks), .run (I6 ↑t.kids.length), .p] [w.cell? ⟨t.b, 8, none⟩ = some (t.ks), Ru Try.prog (vS (Builtin.len_ #[32] 3 #[t.ks])) (I6 ↑t.kids.length) w] [(0, (Pv t.b)), (2, I6 ↑t.kids.length)] 6 0 hS (.cons (hN.cell 8 rfl) (.cons (run_len_own hta (by kernel_rfl)) .nil)) fun a hS => ?_
 refine seg_end ?_
 refine hK2 _ _ ?_
 refine wpIn_ret ?_
 refine ret1 hS Try.results32 rfl ?_
 exact ⟨rfl, rfl⟩

theorem Kid_lt {sb : Nat} {t : Tr} {i : Int} {w : World} (ht : t.Ok w sb) (hi : i < 0) :
  Calls Try.prog 64 #[(Pv t.b), I6 i] w fun e w' => e = .returned (.tuple #[.pointer none, .bool false]) ∧ w' = w := by
 have hta := ht.arr
 have hN : Blk w t.b 106 #[(Pv sb), I6 t.num, I6 t.kd, I6 t.nn, I6 t.lk, I6 t.ls, I6 t.ll, I6 t.lr, t.ks, I6 t.wd, I6 t.lf, I6 t.tt, .bool t.fl] := ht.blk
 refine calls_body 24 [(0, (Pv t.b)), (1, I6 i)] Try.func64 rfl (by kernel_rfl) (by kernel_rfl) (by kernel_rfl) fun a hS => ?_
 refine sq fun K1 hK1 => ?_
 refine rgn 2 ?_
 refine sg wide_wide [.p, .p] [] [(0, (Pv t.b)), (1, I6 i), (4, .pointer none), (5, .bool false)] 2 0 hS .nil fun a hS => ?_
 refine seg_end ?_
 refine hK1 _ _ ?_
 refine sq fun K2 hK2 => ?_
 refine sq fun K3 hK3 => ?_
 refine rgn 11 ?_
 refine sg wide_wide [.p, .as (.bool true), .p, .no, .no, .no, .no, .no, .no, .no, .p] [Value.bool (decide ((i : Int) < 0)) = .bool true] [(0, (Pv t.b)), (1, I6 i), (4, .pointer none), (5, .bool false), (16, .bool true)] 11 0 hS (.cons (as_t (by omega)) .nil) fun a hS => ?_
 refine seg_end ?_
 refine hK3 _ _ ?_
 refine cond_t hS rfl ?_
 refine sq fun K4 hK4 => ?_
 refine rgn 2 ?_
 refine sg wide_wide [.p, .p] [] [(0, (Pv t.b)), (1, I6 i), (4, .pointer none), (5, .bool false), (16, .bool true)] 2 0 hS .nil fun a hS => ?_
 refine seg_end ?_
 refine hK4 _ _ ?_
 refine wpIn_ret ?_
 refine then_ret ?_
 refine ret2 hS Try.results64 rfl rfl ?_
 exact ⟨rfl, rfl⟩

theorem Kid_ge {sb : Nat} {t : Tr} {i : Int} {w : World} (ht : t.Ok w sb) (hi : 0 ≤ i ∧ (t.kids.length : Int) ≤ i) :
  Calls Try.prog 64 #[(Pv t.b), I6 i] w fun e w' => e = .returned (.tuple #[.pointer none, .bool false]) ∧ w' = w := by
 have hta := ht.arr
 have hN : Blk w t.b 106 #[(Pv sb), I6 t.num, I6 t.kd, I6 t.nn, I6 t.lk, I6 t.ls, I6 t.ll, I6 t.lr, t.ks, I6 t.wd, I6 t.lf, I6 t.tt, .bool t.fl] := ht.blk
 refine calls_body 24 [(0, (Pv t.b)), (1, I6 i)] Try.func64 rfl (by kernel_rfl) (by kernel_rfl) (by kernel_rfl) fun a hS => ?_
 refine sq fun K1 hK1 => ?_
 refine rgn 2 ?_
 refine sg wide_wide [.p, .p] [] [(0, (Pv t.b)), (1, I6 i), (4, .pointer none), (5, .bool false)] 2 0 hS .nil fun a hS => ?_
 refine seg_end ?_
 refine hK1 _ _ ?_
 refine sq fun K2 hK2 => ?_
 refine sq fun K3 hK3 => ?_
 refine rgn 11 ?_
 refine sg wide_wide [.p, .as (.bool false), .p, .p, .p, .p, .p, .ld (t.ks), .run (I6 ↑t.kids.length), .as (.bool true), .p] [Value.bool (decide ((i : Int) < 0)) = .bool false, w.cell? ⟨t.b, 8, none⟩ = some (t.ks), Ru Try.prog (vS (Builtin.len_ #[32] 3 #[t.ks])) (I6 ↑t.kids.length) w, Value.bool (decide ((i : Int) ≥ ↑t.kids.length)) = .bool true] [(0, (Pv t.b)), (1, I6 i), (4, .pointer none), (5, .bool false), (16, .bool true)] 11 0 hS (.cons (as_f (by omega)) (.cons (hN.cell 8 rfl) (.cons (run_len_own hta (by kernel_rfl)) (.cons (as_t (by omega)) .nil)))) fun a hS => ?_
 refine seg_end ?_
 refine hK3 _ _ ?_
 refine cond_t hS rfl ?_
 refine sq fun K4 hK4 => ?_
 refine rgn 2 ?_
 refine sg wide_wide [.p, .p] [] [(0, (Pv t.b)), (1, I6 i), (4, .pointer none), (5, .bool false), (16, .bool true)] 2 0 hS .nil fun a hS => ?_
 refine seg_end ?_
 refine hK4 _ _ ?_
 refine wpIn_ret ?_
 refine then_ret ?_
 refine ret2 hS Try.results64 rfl rfl ?_
 exact ⟨rfl, rfl⟩

theorem Kid_in {sb : Nat} {t : Tr} {j : Nat} {kid : Tr} {w : World} (ht : t.Ok w sb) (hj : t.kids[j]? = some kid) (hb : t.kids.length ≤ 1000000000) :
  Calls Try.prog 64 #[(Pv t.b), I6 ↑j] w fun e w' => e = .returned (.tuple #[(Pv kid.b), .bool true]) ∧ w' = w := by
 have hta := ht.arr
 have hN : Blk w t.b 106 #[(Pv sb), I6 t.num, I6 t.kd, I6 t.nn, I6 t.lk, I6 t.ls, I6 t.ll, I6 t.lr, t.ks, I6 t.wd, I6 t.lf, I6 t.tt, .bool t.fl] := ht.blk
 have hjl : j < t.kids.length := (List.getElem?_eq_some_iff.1 hj).1
 refine calls_body 24 [(0, (Pv t.b)), (1, I6 ↑j)] Try.func64 rfl (by kernel_rfl) (by kernel_rfl) (by kernel_rfl) fun a hS => ?_
 refine sq fun K1 hK1 => ?_
 refine rgn 2 ?_
 refine sg wide_wide [.p, .p] [] [(0, (Pv t.b)), (1, I6 ↑j), (4, .pointer none), (5, .bool false)] 2 0 hS .nil fun a hS => ?_
 refine seg_end ?_
 refine hK1 _ _ ?_
 refine sq fun K2 hK2 => ?_
 refine sq fun K3 hK3 => ?_
 refine rgn 11 ?_
 refine sg wide_wide [.p, .as (.bool false), .p, .p, .p, .p, .p, .ld (t.ks), .run (I6 ↑t.kids.length), .as (.bool false), .p] [Value.bool (decide ((↑j : Int) < 0)) = .bool false, w.cell? ⟨t.b, 8, none⟩ = some (t.ks), Ru Try.prog (vS (Builtin.len_ #[32] 3 #[t.ks])) (I6 ↑t.kids.length) w, Value.bool (decide ((↑j : Int) ≥ ↑t.kids.length)) = .bool false] [(0, (Pv t.b)), (1, I6 ↑j), (4, .pointer none), (5, .bool false), (16, .bool false)] 11 0 hS (.cons (as_f (by omega)) (.cons (hN.cell 8 rfl) (.cons (run_len_own hta (by kernel_rfl)) (.cons (as_f (by omega)) .nil)))) fun a hS => ?_
 refine seg_end ?_
 refine hK3 _ _ ?_
 refine cond_f hS rfl ?_
 refine wpIn_skip ?_
 refine hK2 _ _ ?_
 refine sq fun K4 hK4 => ?_
 refine rgn 9 ?_
 refine sg wide_wide [.p, .p, .p, .ld (t.ks), .p, .run ((Po (bof t.ks) (0 + j * 1))), .ld ((Pv kid.b)), .p, .p] [w.cell? ⟨t.b, 8, none⟩ = some (t.ks), Ru Try.prog (vS (Instr.indexAt 32 (t.ks) (I6 ↑j))) ((Po (bof t.ks) (0 + j * 1))) w, w.cell? ⟨bof t.ks, 0 + j * 1, none⟩ = some ((Pv kid.b))] [(0, (Pv t.b)), (1, I6 ↑j), (4, (Pv kid.b)), (5, .bool true), (16, .bool false)] 9 0 hS (.cons (hN.cell 8 rfl) (.cons (ix_own (j := j) hta (by kernel_rfl) (by kernel_rfl) rfl hjl) (.cons (hta.cellAt _ (by simp [hj, Tr.ptr])) .nil))) fun a hS => ?_
 refine seg_end ?_
 refine hK4 _ _ ?_
 refine wpIn_ret ?_
 refine ret2 hS Try.results64 rfl rfl ?_
 exact ⟨rfl, rfl⟩

theorem RRow_any {r : Rf} {w : World} (hB : Blk w r.rb 40 #[I6 r.k, I6 ↑r.i, I6 r.t.kd, I6 r.t.nn, I6 r.t.lk, I6 r.t.ls, I6 r.t.ll, I6 r.t.lr, r.kv, I6 r.t.tt]) (hrow : OwnV w 29 1 r.kv r.kids.length (r.kids.map Rf.ptr)) :
  Calls Try.prog 69 #[(Pv r.rb)] w fun e w' => e = .returned (.agg #[I6 r.t.kd, I6 r.t.nn, I6 r.t.ls, I6 r.t.ll, I6 (r.kids.length : Int), I6 (r.i : Int)]) ∧ Ext [] w w' := by
 refine calls_body 31 [(0, (Pv r.rb))] Try.func69 rfl (by kernel_rfl) (by kernel_rfl) (by kernel_rfl) fun a hS => ?_
 have hE0 : Ext [] w w := Ext.refl _ _
 refine sq fun K1 hK1 => ?_
 refine rgn 1 ?_
 refine eff_box wide_wide (r := 0) (cs := #[I6 0, I6 0, I6 0, I6 0, I6 0, I6 0]) (T := 64) (d := (some 2)) hS (by kernel_rfl) fun a w2 hw3 hS => ?_
 have hB5 := Blk.at' hw3 (hB.alloc _)
 have hB6 : Blk w2 (w.heap.size) 64 #[I6 0, I6 0, I6 0, I6 0, I6 0, I6 0] := by rw [hw3]; exact Blk.new _ _ _
 have hs7 : w.heap.size ≤ w.heap.size := hE0.size
 have hE8 : Ext [] w w2 := by rw [hw3]; exact hE0.alloc _
 refine seg_end ?_
 refine hK1 _ _ ?_
 refine sq fun K9 hK9 => ?_
 refine region_fn2 wide_wide [.q .p, .q .p, .q .p, .q (.ld (I6 r.t.kd)), .q .p, .q .p, .q .p, .q (.ld (I6 r.t.nn)), .q .p, .q .p, .q .p, .q .p, .q (.ld (I6 r.t.ls)), .q .p, .q .p, .q .p, .q .p, .q (.ld (I6 r.t.ll)), .q .p, .q .p, .q .p, .q (.ld (r.kv)), .q (.run (I6 ↑r.kids.length)), .q .p, .q .p, .q .p, .q (.ld (I6 ↑r.i)), .q .p, .e] [0, 0, 0, 0, 0, 0, 0, 0, 0, 0, 0, 0, 0, 0, 0, 0, 0, 0, 0, 0, 0, 0, 0, 0, 0, 0, 0, 0, 0] [0, 0, 0, 0, 0, 0, 0, 0, 0, 0, 0, 0, 0, 0, 0, 0, 0, 0, 0, 0, 0, 0, 0, 0, 0, 0, 0, 0, 0] [0, 1, 3, 7, 0, 16, 48, 112, 0, 256, 768, 1792, 3840, 0, 8192, 24576, 57344, 122880, 0, 262144, 786432, 1835008, 3932160, 0, 8388608, 25165824, 58720256, 134217727, 268435455] [28] 1 ([(0, (Pv r.rb)), (2, (Pv w.heap.size)), (3, (Pv r.rb)), (4, (Pv r.rb)), (5, (Po r.rb 2)), (6, I6 r.t.kd), (7, (Pv r.rb)), (8, (Pv r.rb)), (9, (Po r.rb 3)), (10, I6 r.t.nn), (11, (Pv r.rb)), (12, (Pv r.rb)), (13, (Po r.rb 4)), (14, (Po r.rb 5)), (15, I6 r.t.ls), (16, (Pv r.rb)), (17, (Pv r.rb)), (18, (Po r.rb 4)), (19, (Po r.rb 6)), (20, I6 r.t.ll), (21, (Pv r.rb)), (22, (Pv r.rb)), (23, (Po r.rb 8)), (24, r.kv), (25, I6 ↑r.kids.length), (26, (Pv r.rb)), (27, (Pv r.rb)), (28, (Po r.rb 1)), (29, I6 ↑r.i), (30, .agg #[I6 r.t.kd, I6 r.t.nn, I6 r.t.ls, I6 r.t.ll, I6 ↑r.kids.length, I6 ↑r.i])]) [w2.drew, upd (w2.drew) (w.heap.size) 64 #[I6 r.t.kd, I6 r.t.nn, I6 r.t.ls, I6 r.t.ll, I6 ↑r.kids.length, I6 ↑r.i]] w2.drew (fun w' => [(3, [w'.cell? ⟨r.rb, 2, none⟩ = some (I6 r.t.kd)]), (7, [w'.cell? ⟨r.rb, 3, none⟩ = some (I6 r.t.nn)]), (12, [w'.cell? ⟨r.rb, 5, none⟩ = some (I6 r.t.ls)]), (17, [w'.cell? ⟨r.rb, 6, none⟩ = some (I6 r.t.ll)]), (21, [w'.cell? ⟨r.rb, 8, none⟩ = some (r.kv)]), (22, [Ru Try.prog (vS (Builtin.len_ #[33] 3 #[r.kv])) (I6 ↑r.kids.length) w']), (26, [w'.cell? ⟨r.rb, 1, none⟩ = some (I6 ↑r.i)])]) [0, 2] [] hS (by kernel_rfl) (by kernel_rfl) (by kernel_rfl) (by kernel_rfl) (fun _ => by kernel_rfl) (by kernel_rfl) (by kernel_rfl) (by kernel_rfl) ?_ ?_ ?_
 ·intro e w' hw
  refine (.cons ?_ (.cons ?_ (.cons ?_ (.cons ?_ (.cons ?_ (.cons ?_ (.cons ?_ .nil)))))))
  ·intro h1 h2
   obtain rfl : e = 0 := Nat.le_antisymm h2 h1
   obtain rfl : w' = w2.drew := hw.trans (by kernel_rfl)
   exact (.cons ((hB5.drew : Blk w2.drew r.rb 40 (#[I6 r.k, I6 ↑r.i, I6 r.t.kd, I6 r.t.nn, I6 r.t.lk, I6 r.t.ls, I6 r.t.ll, I6 r.t.lr, r.kv, I6 r.t.tt])).cell 2 rfl) .nil)
  ·intro h1 h2
   obtain rfl : e = 0 := Nat.le_antisymm h2 h1
   obtain rfl : w' = w2.drew := hw.trans (by kernel_rfl)
   exact (.cons ((hB5.drew : Blk w2.drew r.rb 40 (#[I6 r.k, I6 ↑r.i, I6 r.t.kd, I6 r.t.nn, I6 r.t.lk, I6 r.t.ls, I6 r.t.ll, I6 r.t.lr, r.kv, I6 r.t.tt])).cell 3 rfl) .nil)
  ·intro h1 h2
   obtain rfl : e = 0 := Nat.le_antisymm h2 h1
   obtain rfl : w' = w2.drew := hw.trans (by kernel_rfl)
   exact (.cons ((hB5.drew : Blk w2.drew r.rb 40 (#[I6 r.k, I6 ↑r.i, I6 r.t.kd, I6 r.t.nn, I6 r.t.lk, I6 r.t.ls, I6 r.t.ll, I6 r.t.lr, r.kv, I6 r.t.tt])).cell 5 rfl) .nil)
  ·intro h1 h2
   obtain rfl : e = 0 := Nat.le_antisymm h2 h1
   obtain rfl : w' = w2.drew := hw.trans (by kernel_rfl)
   exact (.cons ((hB5.drew : Blk w2.drew r.rb 40 (#[I6 r.k, I6 ↑r.i, I6 r.t.kd, I6 r.t.nn, I6 r.t.lk, I6 r.t.ls, I6 r.t.ll, I6 r.t.lr, r.kv, I6 r.t.tt])).cell 6 rfl) .nil)
  ·intro h1 h2
   obtain rfl : e = 0 := Nat.le_antisymm h2 h1
   obtain rfl : w' = w2.drew := hw.trans (by kernel_rfl)
   exact (.cons ((hB5.drew : Blk w2.drew r.rb 40 (#[I6 r.k, I6 ↑r.i, I6 r.t.kd, I6 r.t.nn, I6 r.t.lk, I6 r.t.ls, I6 r.t.ll, I6 r.t.lr, r.kv, I6 r.t.tt])).cell 8 rfl) .nil)
  ·exact fun _ _ => (.cons (run_len_own hrow (by kernel_rfl)) .nil)
  ·intro h1 h2
   obtain rfl : e = 0 := Nat.le_antisymm h2 h1
   obtain rfl : w' = w2.drew := hw.trans (by kernel_rfl)
   exact (.cons ((hB5.drew : Blk w2.drew r.rb 40 (#[I6 r.k, I6 ↑r.i, I6 r.t.kd, I6 r.t.nn, I6 r.t.lk, I6 r.t.ls, I6 r.t.ll, I6 r.t.lr, r.kv, I6 r.t.tt])).cell 1 rfl) .nil)
 ·refine (.cons ?eq10_28 .nil)
  ·refine eff_at (w2.drew) (upd (w2.drew) (w.heap.size) 64 #[I6 r.t.kd, I6 r.t.nn, I6 r.t.ls, I6 r.t.ll, I6 ↑r.kids.length, I6 ↑r.i]) (by kernel_rfl) (by kernel_rfl) ?_
   exact upon_store (b := w.heap.size) (off := 0) (vs := [I6 r.t.kd, I6 r.t.nn, I6 r.t.ls, I6 r.t.ll, I6 ↑r.kids.length, I6 ↑r.i]) (by kernel_rfl) (hB6.drew : Blk w2.drew w.heap.size 64 (#[I6 0, I6 0, I6 0, I6 0, I6 0, I6 0])) (by simp) ⟨by kernel_rfl, by kernel_rfl⟩
 rintro a w11 hS hw12
 replace hw12 : w11 = upd (w2.drew) (w.heap.size) 64 #[I6 r.t.kd, I6 r.t.nn, I6 r.t.ls, I6 r.t.ll, I6 ↑r.kids.length, I6 ↑r.i] := hw12.trans (by kernel_rfl)
 have hB14 : Blk w11 w.heap.size 64 (#[I6 r.t.kd, I6 r.t.nn, I6 r.t.ls, I6 r.t.ll, I6 ↑r.kids.length, I6 ↑r.i]) := by rw [hw12]; exact (hB6.drew).upd _ _
 have hE15 : Ext [] w w11 := by rw [hw12]; exact (hE8.drew).updIn (.inr hs7) _ _
 replace hS := hS.kp [(0, (Pv r.rb)), (2, (Pv w.heap.size))]
 refine hK9 _ _ ?_
 refine wpIn_ret ?_
 refine retA1 hS Try.results69 (by kernel_rfl) (by kernel_rfl) rfl hB14 ?_
 exact ⟨rfl, hE15⟩

set_option maxHeartbeats 1000000 in
theorem SameRow_yes {N m : Nat} {w : World} {F : Fo} (hF : FI N m w F) {q : Rf} {c0 c1 c2 c3 n : Int} (hq : q ∈ F.L) :
  Calls Try.prog 68 #[(Pv F.fb), .agg #[I6 c0, I6 c1, I6 c2, I6 c3, I6 n, I6 q.t.num], .agg #[I6 c0, I6 c1, I6 c2, I6 c3, I6 n, I6 ↑q.i]] w fun e w' => e = .returned (.bool true) ∧ Ext [] w w' := by
 have hqT : Blk w q.t.b 106 #[(Po (sOf F.s0 F.s1 q.k) 0), I6 q.t.num, I6 q.t.kd, I6 q.t.nn, I6 q.t.lk, I6 q.t.ls, I6 q.t.ll, I6 q.t.lr, q.t.ks, I6 q.t.wd, I6 q.t.lf, I6 q.t.tt, .bool q.t.fl] := (hF.ok.one q hq).ok.blk
 have hqi := (hF.ok.one q hq).ki
 have hqL := hF.ok.at hq
 refine calls_body 20 [(0, (Pv F.fb)), (1, .agg #[I6 c0, I6 c1, I6 c2, I6 c3, I6 n, I6 q.t.num]), (2, .agg #[I6 c0, I6 c1, I6 c2, I6 c3, I6 n, I6 ↑q.i])] Try.func68 rfl (by kernel_rfl) (by kernel_rfl) (by kernel_rfl) fun a hS => ?_
 have hE0 : Ext [] w w := Ext.refl _ _
 refine sq fun K1 hK1 => ?_
 refine rgn 3 ?_
 refine eff_box wide_wide (r := 2) (cs := #[I6 c0, I6 c1, I6 c2, I6 c3, I6 n, I6 q.t.num]) (T := 64) (d := (some 4)) hS (by kernel_rfl) fun a w2 hw3 hS => ?_
 have hB8 := Blk.at' hw3 (hF.f.alloc _)
 have hB9 := OwnV.at' hw3 (hF.P.alloc _)
 have hB11 := Blk.at' hw3 (hqT.alloc _)
 have hB12 : Blk w2 (w.heap.size) 64 #[I6 c0, I6 c1, I6 c2, I6 c3, I6 n, I6 q.t.num] := by rw [hw3]; exact Blk.new _ _ _
 have hs13 : w.heap.size ≤ w.heap.size := hE0.size
 have hE14 : Ext [] w w2 := by rw [hw3]; exact hE0.alloc _
 refine eff_box wide_wide (r := 1) (cs := #[I6 c0, I6 c1, I6 c2, I6 c3, I6 n, I6 ↑q.i]) (T := 64) (d := (some 5)) hS (by kernel_rfl) fun a w15 hw16 hS => ?_
 have hn21 : w.heap.size ≠ w2.heap.size := Nat.ne_of_lt hB12.lt
 have hB22 := Blk.at' hw16 (hB8.alloc _)
 have hB23 := OwnV.at' hw16 (hB9.alloc _)
 have hB25 := Blk.at' hw16 (hB11.alloc _)
 have hB26 := Blk.at' hw16 (hB12.alloc _)
 have hB27 : Blk w15 (w2.heap.size) 64 #[I6 c0, I6 c1, I6 c2, I6 c3, I6 n, I6 ↑q.i] := by rw [hw16]; exact Blk.new _ _ _
 have hs28 : w.heap.size ≤ w2.heap.size := hE14.size
 have hE29 : Ext [] w w15 := by rw [hw16]; exact hE14.alloc _
 refine sg wide_wide [.p] [] [(0, (Pv F.fb)), (1, .agg #[I6 c0, I6 c1, I6 c2, I6 c3, I6 n, I6 q.t.num]), (2, .agg #[I6 c0, I6 c1, I6 c2, I6 c3, I6 n, I6 ↑q.i]), (4, (Pv w.heap.size)), (5, (Pv w2.heap.size)), (6, .bool false)] 3 0 hS .nil fun a hS => ?_
 refine seg_end ?_
 refine hK1 _ _ ?_
 refine sq fun K30 hK30 => ?_
 refine region_fn2 wide_wide [.q .p, .q .p, .q .p, .q (.ld (.slice F.pb F.L.length F.pc)), .q .p, .q (.ld (I6 ↑q.i)), .q (.run ((Po (bof (.slice F.pb F.L.length F.pc)) (0 + q.i * 1)))), .q (.ld ((Pv q.t.b))), .e, .q .p, .e] [0, 0, 0, 0, 0, 0, 0, 0, 0, 1, 1] [0, 0, 0, 0, 0, 0, 0, 0, 0, 1, 1] [0, 1, 3, 7, 0, 16, 63, 127, 255, 511, 1023] [8, 10] 2 ([(0, (Pv F.fb)), (1, .agg #[I6 c0, I6 c1, I6 c2, I6 c3, I6 n, I6 q.t.num]), (2, .agg #[I6 c0, I6 c1, I6 c2, I6 c3, I6 n, I6 ↑q.i]), (4, (Pv w.heap.size)), (5, (Pv w2.heap.size)), (6, .bool false), (7, (Pv F.fb)), (8, (Pv F.fb)), (9, (Po F.fb 2)), (10, .slice F.pb F.L.length F.pc), (11, (Po w2.heap.size 5)), (12, I6 ↑q.i), (13, (Po (bof (.slice F.pb F.L.length F.pc)) (0 + q.i * 1))), (14, (Pv q.t.b)), (15, I6 q.t.num), (16, (Po w2.heap.size 5))]) [w15.drew, w15.drew, upd (w15.drew) (w2.heap.size) 64 #[I6 c0, I6 c1, I6 c2, I6 c3, I6 n, I6 q.t.num]] w15.drew (fun w' => [(3, [w'.cell? ⟨F.fb, 2, none⟩ = some (.slice F.pb F.L.length F.pc)]), (5, [w'.cell? ⟨w2.heap.size, 5, none⟩ = some (I6 ↑q.i)]), (6, [Ru Try.prog (vS (Instr.indexAt 32 (.slice F.pb F.L.length F.pc) (I6 ↑q.i))) ((Po (bof (.slice F.pb F.L.length F.pc)) (0 + q.i * 1))) w']), (7, [w'.cell? ⟨bof (.slice F.pb F.L.length F.pc), 0 + q.i * 1, none⟩ = some ((Pv q.t.b))])]) [0, 1, 2, 4, 5, 6] [] hS (by kernel_rfl) (by kernel_rfl) (by kernel_rfl) (by kernel_rfl) (fun _ => by kernel_rfl) (by kernel_rfl) (by kernel_rfl) (by kernel_rfl) ?_ ?_ ?_
 ·intro e w' hw
  refine (.cons ?_ (.cons ?_ (.cons ?_ (.cons ?_ .nil))))
  ·intro h1 h2
   obtain rfl : e = 0 := Nat.le_antisymm h2 h1
   obtain rfl : w' = w15.drew := hw.trans (by kernel_rfl)
   exact (.cons ((hB22.drew : Blk w15.drew F.fb 35 (#[(Pv F.s0), (Pv F.s1), .slice F.pb F.L.length F.pc, .slice F.qb F.L.length F.qc, .slice F.bb F.bn F.bc])).cell 2 rfl) .nil)
  ·intro h1 h2
   obtain rfl : e = 0 := Nat.le_antisymm h2 h1
   obtain rfl : w' = w15.drew := hw.trans (by kernel_rfl)
   exact (.cons ((hB27.drew : Blk w15.drew w2.heap.size 64 (#[I6 c0, I6 c1, I6 c2, I6 c3, I6 n, I6 ↑q.i])).cell 5 rfl) .nil)
  ·exact fun _ _ => (.cons (ix_own (j := q.i) (hB23) (by kernel_rfl) (by kernel_rfl) rfl hqi) .nil)
  ·intro h1 h2
   obtain rfl : e = 0 := Nat.le_antisymm h2 h1
   obtain rfl : w' = w15.drew := hw.trans (by kernel_rfl)
   exact (.cons ((hB23.drew : OwnV w15.drew 47 1 (.slice F.pb F.L.length F.pc) F.L.length (F.L.map fun r => r.t.ptr)).cellAt _ (by simp [hqL, Tr.ptr])) .nil)
 ·refine (.cons ?eq31_8 (.cons ?eq31_10 .nil))
  ·refine eff_at (w15.drew) (w15.drew) (by kernel_rfl) (by kernel_rfl) ?_
   refine upon_call (f := 31) (vs := [(Pv q.t.b)]) (cap := #[]) (d := (some 15)) (by kernel_rfl) Try.call31 #[(Pv q.t.b)] (by kernel_rfl) (Number_any (hB25.drew : Blk w15.drew q.t.b 106 (#[(Po (sOf F.s0 F.s1 q.k) 0), I6 q.t.num, I6 q.t.kd, I6 q.t.nn, I6 q.t.lk, I6 q.t.ls, I6 q.t.ll, I6 q.t.lr, q.t.ks, I6 q.t.wd, I6 q.t.lf, I6 q.t.tt, .bool q.t.fl]))) ?_
   rintro _ _ ⟨rfl, rfl⟩
   exact ⟨_, rfl, ⟨by kernel_rfl, by kernel_rfl⟩⟩
  ·refine eff_at (w15.drew) (upd (w15.drew) (w2.heap.size) 64 #[I6 c0, I6 c1, I6 c2, I6 c3, I6 n, I6 q.t.num]) (by kernel_rfl) (by kernel_rfl) ?_
   exact upon_store (b := w2.heap.size) (off := 5) (vs := [I6 q.t.num]) (by kernel_rfl) (hB27.drew : Blk w15.drew w2.heap.size 64 (#[I6 c0, I6 c1, I6 c2, I6 c3, I6 n, I6 ↑q.i])) (by simp) ⟨by kernel_rfl, by kernel_rfl⟩
 rintro a w32 hS hw33
 replace hw33 : w32 = upd (w15.drew) (w2.heap.size) 64 #[I6 c0, I6 c1, I6 c2, I6 c3, I6 n, I6 q.t.num] := hw33.trans (by kernel_rfl)
 have hB38 := Blk.at' hw33 ((hB26.drew).updNe (Ne.symm hn21) _ _)
 have hB39 : Blk w32 w2.heap.size 64 (#[I6 c0, I6 c1, I6 c2, I6 c3, I6 n, I6 q.t.num]) := by rw [hw33]; exact (hB27.drew).upd _ _
 have hE40 : Ext [] w w32 := by rw [hw33]; exact (hE29.drew).updIn (.inr hs28) _ _
 replace hS := hS.kp [(0, (Pv F.fb)), (1, .agg #[I6 c0, I6 c1, I6 c2, I6 c3, I6 n, I6 q.t.num]), (2, .agg #[I6 c0, I6 c1, I6 c2, I6 c3, I6 n, I6 ↑q.i]), (4, (Pv w.heap.size)), (5, (Pv w2.heap.size)), (6, .bool false)]
 refine hK30 _ _ ?_
 refine sq fun K41 hK41 => ?_
 refine rgn 4 ?_
 refine sg wide_wide [.lds [I6 c0, I6 c1, I6 c2, I6 c3, I6 n, I6 q.t.num], .lds [I6 c0, I6 c1, I6 c2, I6 c3, I6 n, I6 q.t.num], .run (.bool true), .p] [w32.cell? ⟨w.heap.size, 0, none⟩ = some (I6 c0), w32.cell? ⟨w.heap.size, 1, none⟩ = some (I6 c1), w32.cell? ⟨w.heap.size, 2, none⟩ = some (I6 c2), w32.cell? ⟨w.heap.size, 3, none⟩ = some (I6 c3), w32.cell? ⟨w.heap.size, 4, none⟩ = some (I6 n), w32.cell? ⟨w.heap.size, 5, none⟩ = some (I6 q.t.num), w32.cell? ⟨w2.heap.size, 0, none⟩ = some (I6 c0), w32.cell? ⟨w2.heap.size, 1, none⟩ = some (I6 c1), w32.cell? ⟨w2.heap.size, 2, none⟩ = some (I6 c2), w32.cell? ⟨w2.heap.size, 3, none⟩ = some (I6 c3), w32.cell? ⟨w2.heap.size, 4, none⟩ = some (I6 n), w32.cell? ⟨w2.heap.size, 5, none⟩ = some (I6 q.t.num), Ru Try.prog (vS (do eqGuard .eql 64 (.tmp 17) (.tmp 18) (.agg #[I6 c0, I6 c1, I6 c2, I6 c3, I6 n, I6 q.t.num]) (.agg #[I6 c0, I6 c1, I6 c2, I6 c3, I6 n, I6 q.t.num]); binOp .eql 64 (.agg #[I6 c0, I6 c1, I6 c2, I6 c3, I6 n, I6 q.t.num]) (.agg #[I6 c0, I6 c1, I6 c2, I6 c3, I6 n, I6 q.t.num]))) (.bool true) w32] [(0, (Pv F.fb)), (1, .agg #[I6 c0, I6 c1, I6 c2, I6 c3, I6 n, I6 q.t.num]), (2, .agg #[I6 c0, I6 c1, I6 c2, I6 c3, I6 n, I6 ↑q.i]), (4, (Pv w.heap.size)), (5, (Pv w2.heap.size)), (6, .bool true)] 4 0 hS (.cons (hB38.cell 0 rfl) (.cons (hB38.cell 1 rfl) (.cons (hB38.cell 2 rfl) (.cons (hB38.cell 3 rfl) (.cons (hB38.cell 4 rfl) (.cons (hB38.cell 5 rfl) (.cons (hB39.cell 0 rfl) (.cons (hB39.cell 1 rfl) (.cons (hB39.cell 2 rfl) (.cons (hB39.cell 3 rfl) (.cons (hB39.cell 4 rfl) (.cons (hB39.cell 5 rfl) (.cons ((bin_agg_self (by kernel_rfl) (by kernel_rfl)).1) .nil))))))))))))) fun a hS => ?_
 refine seg_end ?_
 refine hK41 _ _ ?_
 refine wpIn_ret ?_
 refine ret1 hS Try.results68 rfl ?_
 exact ⟨rfl, hE40⟩

theorem Last_any {N m : Nat} {w : World} {F : Fo} (hF : FI N m w F) (hm : m ≤ 1000000000000000) :
  Calls Try.prog 13 #[(Pv F.fb)] w fun e w' => w' = w ∧ ((∃ i r, e = .returned (I6 (i : Nat)) ∧ F.L[i]? = some r ∧ r.t.tt ≤ 4000) ∨ e = .returned (I6 (-1))) := by
 have hcb := hF.cb
 refine calls_body 26 [(0, (Pv F.fb))] Try.func13 rfl (by kernel_rfl) (by kernel_rfl) (by kernel_rfl) fun a hS => ?_
 refine sq fun K1 hK1 => ?_
 refine rgn 1 ?_
 refine sg wide_wide [.p] [] [(0, (Pv F.fb)), (2, I6 0)] 1 0 hS .nil fun a hS => ?_
 refine seg_end ?_
 refine hK1 _ _ ?_
 refine sq fun K2 hK2 => ?_
 refine sq fun K3 hK3 => ?_
 refine rgn 7 ?_
 refine sg wide_wide [.p, .p, .p, .ld (.slice F.qb F.L.length F.qc), .p, .as (I6 (↑F.L.length - 1)), .p] [w.cell? ⟨F.fb, 3, none⟩ = some (.slice F.qb F.L.length F.qc), Value.int .i64 (IntKind.i64.wrap (↑F.L.length - 1)) = I6 (↑F.L.length - 1)] [(0, (Pv F.fb)), (2, I6 0), (3, I6 (↑F.L.length - 1))] 7 0 hS (.cons ((hF.f).cell 3 rfl) (.cons (as_i64 (by omega)) .nil)) fun a hS => ?_
 refine seg_end ?_
 refine hK3 _ _ ?_
 refine wpIn_block ?_
 refine loop_ghost (fun (j : Int) a' w' => St 26 [] [(0, (Pv F.fb)), (3, I6 j)] a' ∧ w' = w ∧ -1 ≤ j ∧ j < F.L.length) (fun (j : Int) => (j + 1).toNat) ((F.L.length : Int) - 1) ⟨hS.keepTo [0, 3] (by kernel_rfl), rfl, by omega, by omega⟩ ?_
 rintro j a w2 ⟨hS, hw2, hj1, hj2⟩
 rw [hw2]
 refine sq fun K4 hK4 => ?_
 refine sq fun K5 hK5 => ?_
 refine rgn 2 ?_
 refine sg wide_wide [.p, .p] [] [(0, (Pv F.fb)), (3, I6 j), (11, .bool (decide ((j : Int) ≥ 0)))] 2 0 hS .nil fun a hS => ?_
 refine seg_end ?_
 refine hK5 _ _ ?_
 refine cond_b hS rfl (fun hb6 => ?_) (fun hb6 => ?_)
 ·
  replace hb6 := of_decide_eq_true hb6
  obtain ⟨i, hi, hil⟩ : ∃ i : Nat, j = i ∧ i < F.L.length := ⟨j.toNat, by omega, by omega⟩
  subst hi
  obtain ⟨r, hr⟩ : ∃ r, F.L[i]? = some r := ⟨_, List.getElem?_eq_getElem hil⟩
  have hr1 := hF.ok.one r (List.mem_of_getElem? hr)
  have hrow := hr1.row
  have hB : Blk w r.rb 40 #[I6 r.k, I6 ↑r.i, I6 r.t.kd, I6 r.t.nn, I6 r.t.lk, I6 r.t.ls, I6 r.t.ll, I6 r.t.lr, r.kv, I6 r.t.tt] := hr1.blk
  refine wpIn_skip ?_
  refine hK4 _ _ ?_
  refine sq fun K7 hK7 => ?_
  refine wpIn_block ?_
  refine sq fun K8 hK8 => ?_
  refine rgn 11 ?_
  refine sg wide_wide [.p, .p, .p, .ld (.slice F.qb F.L.length F.qc), .p, .run ((Po (bof (.slice F.qb F.L.length F.qc)) (0 + i * 1))), .ld ((Pv r.rb)), .p, .p, .ld (I6 r.t.tt), .p] [w.cell? ⟨F.fb, 3, none⟩ = some (.slice F.qb F.L.length F.qc), Ru Try.prog (vS (Instr.indexAt 33 (.slice F.qb F.L.length F.qc) (I6 ↑i))) ((Po (bof (.slice F.qb F.L.length F.qc)) (0 + i * 1))) w, w.cell? ⟨bof (.slice F.qb F.L.length F.qc), 0 + i * 1, none⟩ = some ((Pv r.rb)), w.cell? ⟨r.rb, 9, none⟩ = some (I6 r.t.tt)] [(0, (Pv F.fb)), (3, I6 ↑i), (24, .bool (decide ((r.t.tt : Int) ≤ 4000)))] 11 0 hS (.cons ((hF.f).cell 3 rfl) (.cons (ix_own (j := i) (hF.R) (by kernel_rfl) (by kernel_rfl) rfl hil) (.cons (hF.R.cellAt _ (by simp [hr, Rf.ptr])) (.cons (hB.cell 9 rfl) .nil)))) fun a hS => ?_
  refine seg_end ?_
  refine hK8 _ _ ?_
  refine cond_b hS rfl (fun hb9 => ?_) (fun hb9 => ?_)
  ·
   replace hb9 := of_decide_eq_true hb9
   refine sq fun K10 hK10 => ?_
   refine rgn 2 ?_
   refine sg wide_wide [.p, .p] [] [(0, (Pv F.fb)), (3, I6 ↑i), (2, I6 ↑i)] 2 0 hS .nil fun a hS => ?_
   refine seg_end ?_
   refine hK10 _ _ ?_
   refine wpIn_ret ?_
   refine inBlock_ret ?_
   refine then_ret ?_
   refine then_ret ?_
   refine inBlock_ret ?_
   refine then_ret ?_
   refine ret1 hS Try.results13 rfl ?_
   exact ⟨rfl, .inl ⟨i, r, rfl, hr, hb9⟩⟩
  ·
   replace hb9 := of_decide_eq_false hb9
   refine wpIn_skip ?_
   refine inBlock_normal ?_
   refine hK7 _ _ ?_
   refine rgn 3 ?_
   refine sg wide_wide [.p, .as (I6 (↑i - 1)), .p] [Value.int .i64 (IntKind.i64.wrap (↑i - 1)) = I6 (↑i - 1)] [(0, (Pv F.fb)), (3, I6 (↑i - 1))] 3 0 hS (.cons (as_i64 (by omega)) .nil) fun a hS => ?_
   refine seg_end ?_
   exact ⟨(i : Int) - 1, ⟨hS.keepTo [0, 3] (by kernel_rfl), rfl, by omega, by omega⟩, by omega⟩
 ·
  replace hb6 := of_decide_eq_false hb6
  refine wpIn_exit ?_
  refine then_exit ?_
  refine then_exit ?_
  refine inBlock_hit ?_
  refine hK2 _ _ ?_
  refine sq fun K11 hK11 => ?_
  refine rgn 1 ?_
  refine sg wide_wide [.p] [] [(0, (Pv F.fb)), (3, I6 j), (2, I6 (-1))] 1 0 hS .nil fun a hS => ?_
  refine seg_end ?_
  refine hK11 _ _ ?_
  refine wpIn_ret ?_
  refine ret1 hS Try.results13 rfl ?_
  exact ⟨rfl, .inr rfl⟩

theorem RWalk_any {s0 s1 : Nat} {L : List Rf} {r : Rf} {w : World} (hF : FOk w s0 s1 L) (hr : r ∈ L) :
  Calls Try.prog 14 #[(Pv r.rb)] w fun e w' => ∃ (l : List (Sp × Value)) (g cap : Nat), e = .returned (.slice (some ⟨g, 0, none⟩) l.length cap) ∧ l.map (·.1) = rwalk r 0 [] ∧ OwnR w' 43 3 g cap l.length (spc l) ∧ Ext [] w w' ∧ w.heap.size ≤ g ∧ (∀ q ∈ l, OwnV w' 3 1 q.2 q.1.path.length (ints q.1.path) ∧ ∀ b ∈ ob q.2, w.heap.size ≤ b) := by
 have htt := hF.tt hr
 refine calls_body 5 [(0, (Pv r.rb))] Try.func14 rfl (by kernel_rfl) (by kernel_rfl) (by kernel_rfl) fun a hS => ?_
 refine sq fun K1 hK1 => ?_
 refine rgn 1 ?_
 refine sg wide_wide [.p] [] [(0, (Pv r.rb)), (2, .slice none 0 0)] 1 0 hS .nil fun a hS => ?_
 refine seg_end ?_
 refine hK1 _ _ ?_
 refine sq fun K2 hK2 => ?_
 refine rgn 3 ?_
 refine sg wide_wide [.p] [] [(0, (Pv r.rb)), (2, .slice none 0 0), (3, (Pv r.rb))] 1 2 hS .nil fun a hS => ?_
 refine eff_call wide_wide (r := 1) (f := 51) (vs := [.slice none 0 0, (Pv r.rb), I6 0, .slice none 0 0]) (cap := #[]) (d := (some 4)) hS (by kernel_rfl) Try.call51 #[.slice none 0 0, (Pv r.rb), I6 0, .slice none 0 0] (by kernel_rfl) (RWalk_l r hr 0 [] [] none 0 (.slice none 0 0) w hF (OwnV.nil _ _ _) (OwnV.nil _ _ _) (by simp; omega)) ?_
 rintro _ w9 ⟨l, g, cap, rfl, hl, hO, hE, hg, hp⟩
 simp only [List.length_nil, Nat.zero_add, List.nil_append] at hO
 refine ⟨_, rfl, fun a hS => ?_⟩
 simp only [List.length_nil, Nat.zero_add] at hS
 refine sg wide_wide [.p] [] [(0, (Pv r.rb)), (2, .slice (some ⟨g, 0, none⟩) l.length cap)] 3 0 hS .nil fun a hS => ?_
 refine seg_end ?_
 refine hK2 _ _ ?_
 refine wpIn_ret ?_
 refine ret1 hS Try.results14 rfl ?_
 exact ⟨l, g, cap, rfl, hl, hO, hE, hg.resolve_left (by simp [oa]), fun q hq => ⟨(hp q hq).1, fun b hb => ((hp q hq).2 b hb).resolve_left (by simp [ob])⟩⟩

end Go.Proofs.Ytpglmeeledmkoaa
