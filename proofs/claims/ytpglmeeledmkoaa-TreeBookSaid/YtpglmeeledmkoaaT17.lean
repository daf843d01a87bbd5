import Derived.Test.YtpglmeeledmkoaaProg
import Derived.Test.YtpglmeeledmkoaaVc
import Derived.Test.YtpglmeeledmkoaaT12
import Derived.Test.YtpglmeeledmkoaaVb
namespace Go.Proofs.Ytpglmeeledmkoaa
open Go.Vc

theorem hkl {n : Nat} {i : Int} (h : 0 ≤ i ∧ i < n) : ∃ k : Nat, i = k ∧ k < n := ⟨i.toNat, by omega, by omega⟩

theorem Down_lt {sb cb cap : Nat} {st : List Stp} {c : Tr} {p0 bs : Option Addr} {p i : Int} {w : World} (hc : c.Ok w sb) (hC : Blk w cb 77 #[.pointer p0, .slice bs st.length cap, (Pv c.b), I6 p]) (hi : i < 0) :
  Calls Try.prog 43 #[(Pv cb), I6 i] w fun e w' => e = .returned (.bool false) ∧ w' = w := by
 have hca := hc.arr
 have hN : Blk w c.b 106 #[(Pv sb), I6 c.num, I6 c.kd, I6 c.nn, I6 c.lk, I6 c.ls, I6 c.ll, I6 c.lr, c.ks, I6 c.wd, I6 c.lf, I6 c.tt, .bool c.fl] := hc.blk
 have htt := Tr.Ok.tt_pos c hc
 have hmax := hc.nums.max
 refine calls_body 89 [(0, (Pv cb)), (1, I6 i)] Try.func43 rfl (by kernel_rfl) (by kernel_rfl) (by kernel_rfl) fun a hS => ?_
 refine sq fun K1 hK1 => ?_
 refine rgn 1 ?_
 refine sg wide_wide [.p] [] [(0, (Pv cb)), (1, I6 i), (4, .bool false)] 1 0 hS .nil fun a hS => ?_
 refine seg_end ?_
 refine hK1 _ _ ?_
 refine sq fun K2 hK2 => ?_
 refine sq fun K3 hK3 => ?_
 refine rgn 15 ?_
 refine sg wide_wide [.p, .as (.bool true), .p, .no, .no, .no, .no, .no, .no, .no, .no, .no, .no, .no, .p] [Value.bool (decide ((i : Int) < 0)) = .bool true] [(0, (Pv cb)), (1, I6 i), (4, .bool false), (22, .bool true)] 15 0 hS (.cons (as_t (by omega)) .nil) fun a hS => ?_
 refine seg_end ?_
 refine hK3 _ _ ?_
 refine cond_t hS rfl ?_
 refine sq fun K4 hK4 => ?_
 refine rgn 1 ?_
 refine sg wide_wide [.p] [] [(0, (Pv cb)), (1, I6 i), (4, .bool false), (22, .bool true)] 1 0 hS .nil fun a hS => ?_
 refine seg_end ?_
 refine hK4 _ _ ?_
 refine wpIn_ret ?_
 refine then_ret ?_
 refine ret1 hS Try.results43 rfl ?_
 exact ⟨rfl, rfl⟩

theorem Down_ge {sb cb cap : Nat} {st : List Stp} {c : Tr} {p0 bs : Option Addr} {p i : Int} {w : World} (hc : c.Ok w sb) (hC : Blk w cb 77 #[.pointer p0, .slice bs st.length cap, (Pv c.b), I6 p]) (hi : 0 ≤ i ∧ c.kids.length ≤ i) :
  Calls Try.prog 43 #[(Pv cb), I6 i] w fun e w' => e = .returned (.bool false) ∧ w' = w := by
 have hca := hc.arr
 have hN : Blk w c.b 106 #[(Pv sb), I6 c.num, I6 c.kd, I6 c.nn, I6 c.lk, I6 c.ls, I6 c.ll, I6 c.lr, c.ks, I6 c.wd, I6 c.lf, I6 c.tt, .bool c.fl] := hc.blk
 have htt := Tr.Ok.tt_pos c hc
 have hmax := hc.nums.max
 refine calls_body 89 [(0, (Pv cb)), (1, I6 i)] Try.func43 rfl (by kernel_rfl) (by kernel_rfl) (by kernel_rfl) fun a hS => ?_
 refine sq fun K1 hK1 => ?_
 refine rgn 1 ?_
 refine sg wide_wide [.p] [] [(0, (Pv cb)), (1, I6 i), (4, .bool false)] 1 0 hS .nil fun a hS => ?_
 refine seg_end ?_
 refine hK1 _ _ ?_
 refine sq fun K2 hK2 => ?_
 refine sq fun K3 hK3 => ?_
 refine rgn 15 ?_
 refine sg wide_wide [.p, .as (.bool false), .p, .p, .p, .p, .p, .p, .ld ((Pv c.b)), .p, .p, .ld (c.ks), .run (I6 ↑c.kids.length), .as (.bool true), .p] [Value.bool (decide ((i : Int) < 0)) = .bool false, _, _, Ru Try.prog (vS (Builtin.len_ #[32] 3 #[c.ks])) (I6 ↑c.kids.length) w, Value.bool (decide ((i : Int) ≥ ↑c.kids.length)) = .bool true] [(0, (Pv cb)), (1, I6 i), (4, .bool false), (22, .bool true)] 15 0 hS (.cons (as_f (by omega)) (.cons (hC.cell 2 rfl) (.cons (hN.cell 8 rfl) (.cons (run_len_own hca (by kernel_rfl)) (.cons (as_t (by omega)) .nil))))) fun a hS => ?_
 refine seg_end ?_
 refine hK3 _ _ ?_
 refine cond_t hS rfl ?_
 refine sq fun K4 hK4 => ?_
 refine rgn 1 ?_
 refine sg wide_wide [.p] [] [(0, (Pv cb)), (1, I6 i), (4, .bool false), (22, .bool true)] 1 0 hS .nil fun a hS => ?_
 refine seg_end ?_
 refine hK4 _ _ ?_
 refine wpIn_ret ?_
 refine then_ret ?_
 refine ret1 hS Try.results43 rfl ?_
 exact ⟨rfl, rfl⟩

set_option maxHeartbeats 2000000 in
theorem Down_in {sb cb cap : Nat} {st : List Stp} {c : Tr} {p0 bs : Option Addr} {p : Int} {k : Nat} {kid : Tr} {w : World} (hc : c.Ok w sb) (hC : Blk w cb 77 #[.pointer p0, .slice bs st.length cap, (Pv c.b), I6 p]) (hv : OwnV w 122 3 (.slice bs st.length cap) st.length (ways st)) (hlen : st.length ≤ 1000000000) (hp : 0 ≤ p ∧ p ≤ 4611686018427387904) (hk : c.kids[k]? = some kid) :
  Calls Try.prog 43 #[(Pv cb), I6 ↑k] w fun e w' => ∃ bs2 cap2, e = .returned (.bool true) ∧ Blk w' cb 77 #[.pointer p0, .slice bs2 (st.length + 1) cap2, (Pv kid.b), I6 (p + sumW (c.kids.take k))] ∧ OwnV w' 122 3 (.slice bs2 (st.length + 1) cap2) (st.length + 1) (ways (st ++ [(c, (k : Int), p + sumW (c.kids.take k))])) ∧ Ext (cb :: ob (.slice bs st.length cap)) w w' ∧ (∀ b ∈ ob (.slice bs2 (st.length + 1) cap2), b ∈ ob (.slice bs st.length cap) ∨ w.heap.size ≤ b) := by
 have hca := hc.arr
 have hN : Blk w c.b 106 #[(Pv sb), I6 c.num, I6 c.kd, I6 c.nn, I6 c.lk, I6 c.ls, I6 c.ll, I6 c.lr, c.ks, I6 c.wd, I6 c.lf, I6 c.tt, .bool c.fl] := hc.blk
 have htt := Tr.Ok.tt_pos c hc
 have hmax := hc.nums.max
 have hklt : k < c.kids.length := (List.getElem?_eq_some_iff.1 hk).1
 have hmem : kid ∈ c.kids := (List.getElem?_eq_some_iff.1 hk).2 ▸ List.getElem_mem hklt
 have hkd : c.kd ≠ 1 := fun h => by rw [(hc.nums.leaf h).1] at hklt; simp at hklt
 have hcw := (hc.nums.inner hkd).2.2.2.2.2.2.2.1
 have hctt := (hc.nums.inner hkd).2.2.2.2.2.2.2.2.2.1
 have hkl0 := Oks.len hc.oks
 have hkn : ∀ b ∈ ob c.ks, b ∉ cb :: ob (.slice bs st.length cap) := fun b hb hm => by
  rcases List.mem_cons.1 hm with rfl | hm
  ·exact hca.ne hC (by decide) _ hb rfl
  ·exact hca.disj hv (by decide) b hb hm
 have hsum : ∀ j, 0 ≤ sumW (c.kids.take j) ∧ sumW (c.kids.take j) ≤ c.wd := fun j => by
  have h2 := sumW_append (c.kids.take j) (c.kids.drop j)
  rw [List.take_append_drop] at h2
  have h3 : 0 ≤ sumW (c.kids.take j) := Oks.sumW_pos (oks_iff.2 fun t ht => hc.oks.at (List.mem_of_mem_take ht))
  have h4 : 0 ≤ sumW (c.kids.drop j) := Oks.sumW_pos (oks_iff.2 fun t ht => hc.oks.at (List.mem_of_mem_drop ht))
  omega
 refine calls_body 89 [(0, (Pv cb)), (1, I6 ↑k)] Try.func43 rfl (by kernel_rfl) (by kernel_rfl) (by kernel_rfl) fun a hS => ?_
 have hE0 : Ext (cb :: ob (.slice bs st.length cap)) w w := Ext.refl _ _
 refine sq fun K1 hK1 => ?_
 refine rgn 1 ?_
 refine sg wide_wide [.p] [] [(0, (Pv cb)), (1, I6 ↑k), (4, .bool false)] 1 0 hS .nil fun a hS => ?_
 refine seg_end ?_
 refine hK1 _ _ ?_
 refine sq fun K2 hK2 => ?_
 refine sq fun K3 hK3 => ?_
 refine rgn 15 ?_
 refine sg wide_wide [.p, .as (.bool false), .p, .p, .p, .p, .p, .p, .ld ((Pv c.b)), .p, .p, .ld (c.ks), .run (I6 ↑c.kids.length), .as (.bool false), .p] [Value.bool (decide ((↑k : Int) < 0)) = .bool false, _, _, Ru Try.prog (vS (Builtin.len_ #[32] 3 #[c.ks])) (I6 ↑c.kids.length) w, Value.bool (decide ((↑k : Int) ≥ ↑c.kids.length)) = .bool false] [(0, (Pv cb)), (1, I6 ↑k), (4, .bool false), (22, .bool false)] 15 0 hS (.cons (as_f (by omega)) (.cons (hC.cell 2 rfl) (.cons (hN.cell 8 rfl) (.cons (run_len_own hca (by kernel_rfl)) (.cons (as_f (by omega)) .nil))))) fun a hS => ?_
 refine seg_end ?_
 refine hK3 _ _ ?_
 refine cond_f hS rfl ?_
 refine wpIn_skip ?_
 refine hK2 _ _ ?_
 refine sq fun K4 hK4 => ?_
 refine rgn 6 ?_
 refine sg wide_wide [.p, .p, .p, .p, .ld (I6 p), .p] [_] [(0, (Pv cb)), (1, I6 ↑k), (4, .bool false), (22, .bool false), (5, I6 p)] 6 0 hS (.cons (hC.cell 3 rfl) .nil) fun a hS => ?_
 refine seg_end ?_
 refine hK4 _ _ ?_
 refine sq fun K5 hK5 => ?_
 refine sq fun K6 hK6 => ?_
 refine rgn 12 ?_
 refine sg wide_wide [.p, .p, .p, .p, .ld ((Pv c.b)), .p, .p, .ld (c.ks), .p, .run ((resl c.ks k)), .run (I6 ↑k), .p] [_, _, Ru Try.prog (vS (Instr.sliceAt 32 (c.ks) none (some (I6 ↑k)) none)) ((resl c.ks k)) w, Ru Try.prog (vS (Builtin.len_ #[32] 3 #[(resl c.ks k)])) (I6 ↑k) w] [(0, (Pv cb)), (1, I6 ↑k), (4, .bool false), (22, .bool false), (5, I6 p), (37, (resl c.ks k)), (38, I6 ↑k), (39, I6 0)] 12 0 hS (.cons (hC.cell 2 rfl) (.cons (hN.cell 8 rfl) (.cons (sl_raw (k := k) hca (by kernel_rfl) (by kernel_rfl) rfl (by omega)) (.cons (run_len_own (OwnV.resl (k := k) hca (by omega)) (by kernel_rfl)) .nil)))) fun a hS => ?_
 refine seg_end ?_
 refine hK6 _ _ ?_
 refine wpIn_block ?_
 have hS0 := hS.keepTo [0, 1, 5, 37, 38, 39] (m' := [(0, (Pv cb)), (1, I6 ↑k), (5, I6 p), (37, (resl c.ks k)), (38, I6 ↑k), (39, I6 0)]) (by kernel_rfl)
 clear hS
 have hS : St 89 [] [(0, (Pv cb)), (1, I6 ↑k), (5, I6 (p + sumW (c.kids.take 0))), (37, (resl c.ks k)), (38, I6 ↑k), (39, I6 ((0 : Nat) : Int))] a := by simpa [sumW] using hS0
 refine loop_ghost (fun (j : Nat) a' w' => St 89 [] [(0, (Pv cb)), (1, I6 ↑k), (5, I6 (p + sumW (c.kids.take j))), (37, (resl c.ks k)), (38, I6 ↑k), (39, I6 ↑j)] a' ∧ w' = w ∧ j ≤ k) (fun (j : Nat) => k - j) 0 ⟨hS.keepTo [0, 1, 5, 37, 38, 39] (by kernel_rfl), rfl, Nat.zero_le _⟩ ?_
 rintro j a w2 ⟨hS, hw2, hjl⟩
 rw [hw2]
 refine sq fun K7 hK7 => ?_
 refine rgn 1 ?_
 refine sg wide_wide [.p] [] [(0, (Pv cb)), (1, I6 ↑k), (5, I6 (p + sumW (c.kids.take j))), (37, (resl c.ks k)), (38, I6 ↑k), (39, I6 ↑j), (40, .bool (decide ((↑j : Int) < ↑k)))] 1 0 hS .nil fun a hS => ?_
 refine seg_end ?_
 refine hK7 _ _ ?_
 refine sq fun K8 hK8 => ?_
 refine cond_b hS rfl (fun hb9 => ?_) (fun hb9 => ?_)
 ·
  replace hb9 := of_decide_eq_true hb9
  have hj : j < k := by omega
  have hj2 : j < c.kids.length := by omega
  obtain ⟨ck, hck⟩ : ∃ ck, c.kids[j] = ck := ⟨_, rfl⟩
  have hck2 : c.kids[j]? = some ck := by rw [List.getElem?_eq_getElem hj2, hck]
  have hkok := hc.oks.at (hck ▸ List.getElem_mem hj2)
  have hNk : Blk w ck.b 106 #[(Pv sb), I6 ck.num, I6 ck.kd, I6 ck.nn, I6 ck.lk, I6 ck.ls, I6 ck.ll, I6 ck.lr, ck.ks, I6 ck.wd, I6 ck.lf, I6 ck.tt, .bool ck.fl] := hkok.blk
  have hsw := sumW_take_succ hck2
  have hb1 := hsum j
  have hb2 := hsum (j + 1)
  have hcell : w.cell? ⟨bof (resl c.ks k), 0 + j * 1, none⟩ = some ck.ptr := by
   rw [show 0 + j * 1 = j by omega]
   exact (hca.resl (k := k) (Nat.le_of_lt hklt)).cellAt j (by simp [hck2, hj])
  refine wpIn_skip ?_
  refine hK8 _ _ ?_
  refine sq fun K10 hK10 => ?_
  refine wpIn_block ?_
  refine sq fun K11 hK11 => ?_
  refine rgn 3 ?_
  refine sg wide_wide [.run ((Po (bof (resl c.ks k)) (0 + j * 1))), .ld ((Pv ck.b)), .p] [Ru Try.prog (vS (Instr.indexAt 32 ((resl c.ks k)) (I6 ↑j))) ((Po (bof (resl c.ks k)) (0 + j * 1))) w, w.cell? ⟨bof (resl c.ks k), 0 + j * 1, none⟩ = some ((Pv ck.b))] [(0, (Pv cb)), (1, I6 ↑k), (5, I6 (p + sumW (c.kids.take j))), (37, (resl c.ks k)), (38, I6 ↑k), (39, I6 ↑j), (7, (Pv ck.b))] 3 0 hS (.cons (ix_own (j := j) (OwnV.resl (k := k) hca (by omega)) (by kernel_rfl) (by kernel_rfl) rfl hj) (.cons (hcell) .nil)) fun a hS => ?_
  refine seg_end ?_
  refine hK11 _ _ ?_
  refine rgn 7 ?_
  refine sg wide_wide [.p, .p, .p, .p, .ld (I6 ck.wd), .as (I6 ((p + sumW (c.kids.take j)) + ck.wd)), .p] [_, Value.int .i64 (IntKind.i64.wrap ((p + sumW (c.kids.take j)) + ck.wd)) = I6 ((p + sumW (c.kids.take j)) + ck.wd)] [(0, (Pv cb)), (1, I6 ↑k), (5, I6 ((p + sumW (c.kids.take j)) + ck.wd)), (37, (resl c.ks k)), (38, I6 ↑k), (39, I6 ↑j), (7, (Pv ck.b))] 7 0 hS (.cons (hNk.cell 9 rfl) (.cons (as_i64 (by omega)) .nil)) fun a hS => ?_
  refine seg_end ?_
  refine inBlock_normal ?_
  refine hK10 _ _ ?_
  refine rgn 2 ?_
  refine sg wide_wide [.as (I6 (↑j + 1)), .p] [Value.int .i64 (IntKind.i64.wrap (↑j + 1)) = I6 (↑j + 1)] [(0, (Pv cb)), (1, I6 ↑k), (5, I6 ((p + sumW (c.kids.take j)) + ck.wd)), (37, (resl c.ks k)), (38, I6 ↑k), (39, I6 (↑j + 1)), (7, (Pv ck.b))] 2 0 hS (.cons (as_i64 (by omega)) .nil) fun a hS => ?_
  refine seg_end ?_
  exact ⟨j + 1, ⟨by rw [hsw, ← Int.add_assoc]; exact hS.keepTo [0, 1, 5, 37, 38, 39] (by kernel_rfl), rfl, hj⟩, by omega⟩
 ·
  replace hb9 := of_decide_eq_false hb9
  obtain rfl : k = j := by omega
  have hbd := hsum k
  refine wpIn_exit ?_
  refine then_exit ?_
  refine then_exit ?_
  refine inBlock_hit ?_
  refine hK5 _ _ ?_
  refine sq fun K12 hK12 => ?_
  obtain ⟨ga13, ca13, wa13, hra13, hOa13, hEa13, hFa13⟩ := append_any (P := Try.prog) (w := (w.drew).alloc (.cells #[(Pv c.b), I6 ↑k, I6 (p + sumW (c.kids.take k))] 122)) (t := 73) (ty := 73) (e := 122) (size := 3) (bytes := 24) (n := st.length) (b := w.heap.size) (off := 0) (k := 1) (c := 1) (z := #[.pointer none, I6 0, I6 0]) (v := Value.slice bs st.length cap) (xs := (ways st)) (news := [(Pv c.b), I6 ↑k, I6 (p + sumW (c.kids.take k))]) (by kernel_rfl) (by kernel_rfl) rfl (by decide) ((hv.drew).alloc _ : OwnV ((w.drew).alloc (.cells #[(Pv c.b), I6 ↑k, I6 (p + sumW (c.kids.take k))] 122)) 122 3 (.slice bs st.length cap) st.length (ways st)) (by simp) (fun j u hu => by rw [Nat.zero_add]; exact (Blk.new' _ _ _ (by first | rfl | simp [upd_size]) : Blk ((w.drew).alloc (.cells #[(Pv c.b), I6 ↑k, I6 (p + sumW (c.kids.take k))] 122)) w.heap.size 122 (#[(Pv c.b), I6 ↑k, I6 (p + sumW (c.kids.take k))])).cell j (by simpa using hu)) rfl (by omega) (by simp only [maxLen]; omega) (by omega)
  refine region_fn2 wide_wide [.q .p, .q .p, .q .p, .q .p, .q .p, .q (.ld (.slice bs st.length cap)), .q .p, .q .p, .q .p, .q .p, .q (.ld ((Pv c.b))), .q .p, .q .p, .q .p, .e, .e, .q .p, .q .p, .q .p, .e] [0, 0, 0, 0, 0, 0, 0, 0, 0, 0, 0, 0, 0, 0, 0, 1, 2, 2, 2, 2] [2, 1, 1, 1, 1, 1, 0, 0, 0, 0, 0, 0, 0, 0, 0, 1, 2, 2, 2, 2] [0, 0, 2, 6, 14, 30, 0, 64, 192, 448, 960, 0, 0, 8128, 16320, 32766, 65535, 131071, 262143, 524287] [14, 15, 19] 3 ([(0, (Pv cb)), (1, I6 ↑k), (5, I6 (p + sumW (c.kids.take k))), (37, (resl c.ks k)), (38, I6 ↑k), (50, (Pv cb)), (51, (Pv cb)), (52, (Pv cb)), (53, (Pv cb)), (54, (Po cb 1)), (55, .slice bs st.length cap), (56, (Pv cb)), (57, (Pv cb)), (58, (Pv cb)), (59, (Po cb 2)), (60, (Pv c.b)), (61, I6 ↑k), (62, I6 (p + sumW (c.kids.take k))), (63, .agg #[(Pv c.b), I6 ↑k, I6 (p + sumW (c.kids.take k))]), (64, .slice (some ⟨w.heap.size, 0, none⟩) 1 1), (65, .slice (some ⟨ga13, 0, none⟩) (st.length + 1) ca13), (66, (Pv cb)), (67, (Pv cb)), (68, (Po cb 1))]) [w.drew, (w.drew).alloc (.cells #[(Pv c.b), I6 ↑k, I6 (p + sumW (c.kids.take k))] 122), wa13, upd (wa13) (cb) 77 #[.pointer p0, .slice (some ⟨ga13, 0, none⟩) (st.length + 1) ca13, (Pv c.b), I6 p]] w.drew (fun w' => [(5, [w'.cell? ⟨cb, 1, none⟩ = some (.slice bs st.length cap)]), (10, [w'.cell? ⟨cb, 2, none⟩ = some ((Pv c.b))])]) [0, 1, 5, 37, 38] [] hS (by kernel_rfl) (by kernel_rfl) (by kernel_rfl) (by kernel_rfl) (fun _ => by kernel_rfl) (by kernel_rfl) (by kernel_rfl) (by kernel_rfl) ?_ ?_ ?_
  ·intro e w' hw
   refine (.cons ?_ (.cons ?_ .nil))
   ·intro h1 h2
    replace h1 : 0 ≤ e := h1
    replace h2 : e ≤ 1 := h2
    have he : e = 0 ∨ e = 1 := by omega
    rcases he with rfl | rfl
    ·obtain rfl : w' = w.drew := hw.trans (by kernel_rfl)
     exact (.cons ((hC.drew : Blk w.drew cb 77 (#[.pointer p0, .slice bs st.length cap, (Pv c.b), I6 p])).cell 1 rfl) .nil)
    ·obtain rfl : w' = (w.drew).alloc (.cells #[(Pv c.b), I6 ↑k, I6 (p + sumW (c.kids.take k))] 122) := hw.trans (by kernel_rfl)
     exact (.cons (((hC.drew).alloc _ : Blk ((w.drew).alloc (.cells #[(Pv c.b), I6 ↑k, I6 (p + sumW (c.kids.take k))] 122)) cb 77 (#[.pointer p0, .slice bs st.length cap, (Pv c.b), I6 p])).cell 1 rfl) .nil)
   ·intro h1 h2
    obtain rfl : e = 0 := Nat.le_antisymm h2 h1
    obtain rfl : w' = w.drew := hw.trans (by kernel_rfl)
    exact (.cons ((hC.drew : Blk w.drew cb 77 (#[.pointer p0, .slice bs st.length cap, (Pv c.b), I6 p])).cell 2 rfl) .nil)
  ·refine (.cons ?eq14_14 (.cons ?eq14_15 (.cons ?eq14_19 .nil)))
   ·refine eff_at (w.drew) ((w.drew).alloc (.cells #[(Pv c.b), I6 ↑k, I6 (p + sumW (c.kids.take k))] 122)) (by kernel_rfl) (by kernel_rfl) ?_
    exact upon_new (nb := w.heap.size) (cs := #[(Pv c.b), I6 ↑k, I6 (p + sumW (c.kids.take k))]) (T := 122) (v := Value.slice (some ⟨w.heap.size, 0, none⟩) 1 1) (d := (some 64)) (by kernel_rfl) (by first | rfl | simp [upd_size]) ⟨by kernel_rfl, by kernel_rfl⟩
   ·refine eff_at ((w.drew).alloc (.cells #[(Pv c.b), I6 ↑k, I6 (p + sumW (c.kids.take k))] 122)) (wa13) (by kernel_rfl) (by kernel_rfl) ?_
    exact upon_run (s := vS (Builtin.append_ #[73, 73] 73 #[Value.slice bs st.length cap, Value.slice (some ⟨w.heap.size, 0, none⟩) 1 1])) (d := (some 65)) (v := Value.slice (some ⟨ga13, 0, none⟩) (st.length + 1) ca13) (by kernel_rfl) (vS_run hra13) ⟨by kernel_rfl, by kernel_rfl⟩
   ·refine eff_at (wa13) (upd (wa13) (cb) 77 #[.pointer p0, .slice (some ⟨ga13, 0, none⟩) (st.length + 1) ca13, (Pv c.b), I6 p]) (by kernel_rfl) (by kernel_rfl) ?_
    exact upon_store (b := cb) (off := 1) (vs := [.slice (some ⟨ga13, 0, none⟩) (st.length + 1) ca13]) (by kernel_rfl) ((((hC.drew).alloc _ : Blk ((w.drew).alloc (.cells #[(Pv c.b), I6 ↑k, I6 (p + sumW (c.kids.take k))] 122)) cb 77 (#[.pointer p0, .slice bs st.length cap, (Pv c.b), I6 p]))).ext hEa13 (OwnV.notin ((hv.drew).alloc _ : OwnV ((w.drew).alloc (.cells #[(Pv c.b), I6 ↑k, I6 (p + sumW (c.kids.take k))] 122)) 122 3 (.slice bs st.length cap) st.length (ways st)) ((hC.drew).alloc _ : Blk ((w.drew).alloc (.cells #[(Pv c.b), I6 ↑k, I6 (p + sumW (c.kids.take k))] 122)) cb 77 (#[.pointer p0, .slice bs st.length cap, (Pv c.b), I6 p])) (by decide)) : Blk wa13 cb 77 (#[.pointer p0, .slice bs st.length cap, (Pv c.b), I6 p])) (by simp) ⟨by kernel_rfl, by kernel_rfl⟩
  rintro a w15 hS hw16
  replace hw16 : w15 = upd (wa13) (cb) 77 #[.pointer p0, .slice (some ⟨ga13, 0, none⟩) (st.length + 1) ca13, (Pv c.b), I6 p] := hw16.trans (by kernel_rfl)
  have hB17 : Blk w15 cb 77 (#[.pointer p0, .slice (some ⟨ga13, 0, none⟩) (st.length + 1) ca13, (Pv c.b), I6 p]) := by rw [hw16]; exact ((((hC.drew).alloc _ : Blk ((w.drew).alloc (.cells #[(Pv c.b), I6 ↑k, I6 (p + sumW (c.kids.take k))] 122)) cb 77 (#[.pointer p0, .slice bs st.length cap, (Pv c.b), I6 p]))).ext hEa13 (OwnV.notin ((hv.drew).alloc _ : OwnV ((w.drew).alloc (.cells #[(Pv c.b), I6 ↑k, I6 (p + sumW (c.kids.take k))] 122)) 122 3 (.slice bs st.length cap) st.length (ways st)) ((hC.drew).alloc _ : Blk ((w.drew).alloc (.cells #[(Pv c.b), I6 ↑k, I6 (p + sumW (c.kids.take k))] 122)) cb 77 (#[.pointer p0, .slice bs st.length cap, (Pv c.b), I6 p])) (by decide))).upd _ _
  have hB18 := Blk.at' hw16 (((((hN.drew).alloc _ : Blk ((w.drew).alloc (.cells #[(Pv c.b), I6 ↑k, I6 (p + sumW (c.kids.take k))] 122)) c.b 106 (#[(Pv sb), I6 c.num, I6 c.kd, I6 c.nn, I6 c.lk, I6 c.ls, I6 c.ll, I6 c.lr, c.ks, I6 c.wd, I6 c.lf, I6 c.tt, .bool c.fl]))).ext hEa13 (OwnV.notin ((hv.drew).alloc _ : OwnV ((w.drew).alloc (.cells #[(Pv c.b), I6 ↑k, I6 (p + sumW (c.kids.take k))] 122)) 122 3 (.slice bs st.length cap) st.length (ways st)) ((hN.drew).alloc _ : Blk ((w.drew).alloc (.cells #[(Pv c.b), I6 ↑k, I6 (p + sumW (c.kids.take k))] 122)) c.b 106 (#[(Pv sb), I6 c.num, I6 c.kd, I6 c.nn, I6 c.lk, I6 c.ls, I6 c.ll, I6 c.lr, c.ks, I6 c.wd, I6 c.lf, I6 c.tt, .bool c.fl])) (by decide))).updNe (Blk.ne_type hC hN (by decide)) _ _)
  have hB19 : OwnR w15 122 3 ga13 ca13 (st.length + 1) ((ways st) ++ [(Pv c.b), I6 ↑k, I6 (p + sumW (c.kids.take k))]) := by rw [hw16]; exact (hOa13).updNe ((OwnR.ne_type hOa13 ((((hC.drew).alloc _ : Blk ((w.drew).alloc (.cells #[(Pv c.b), I6 ↑k, I6 (p + sumW (c.kids.take k))] 122)) cb 77 (#[.pointer p0, .slice bs st.length cap, (Pv c.b), I6 p]))).ext hEa13 (OwnV.notin ((hv.drew).alloc _ : OwnV ((w.drew).alloc (.cells #[(Pv c.b), I6 ↑k, I6 (p + sumW (c.kids.take k))] 122)) 122 3 (.slice bs st.length cap) st.length (ways st)) ((hC.drew).alloc _ : Blk ((w.drew).alloc (.cells #[(Pv c.b), I6 ↑k, I6 (p + sumW (c.kids.take k))] 122)) cb 77 (#[.pointer p0, .slice bs st.length cap, (Pv c.b), I6 p])) (by decide))) (by decide)).symm) _ _
  have hE20 : Ext (cb :: ob (.slice bs st.length cap)) w w15 := by rw [hw16]; exact (((hE0.drew).alloc _).trans hEa13 (fun b hb => .inl (by simp [hb]))).updIn (.inl (by simp)) _ _
  replace hS := hS.kp [(0, (Pv cb)), (1, I6 ↑k), (5, I6 (p + sumW (c.kids.take k))), (37, (resl c.ks k)), (38, I6 ↑k)]
  refine hK12 _ _ ?_
  refine sq fun K21 hK21 => ?_
  refine rgn 22 ?_
  refine sg wide_wide [.p, .p, .p, .p, .p, .p, .ld ((Pv c.b)), .p, .p, .ld (c.ks), .p, .run ((Po (bof c.ks) (0 + k * 1))), .ld ((Pv kid.b)), .p, .p, .p, .p] [_, _, Ru Try.prog (vS (Instr.indexAt 32 (c.ks) (I6 ↑k))) ((Po (bof c.ks) (0 + k * 1))) w15, w15.cell? ⟨bof c.ks, 0 + k * 1, none⟩ = some ((Pv kid.b))] [(0, (Pv cb)), (1, I6 ↑k), (5, I6 (p + sumW (c.kids.take k))), (37, (resl c.ks k)), (38, I6 ↑k), (70, (Pv cb)), (81, (Pv kid.b)), (82, I6 (p + sumW (c.kids.take k))), (85, (Po cb 2))] 17 5 hS (.cons (hB17.cell 2 rfl) (.cons (hB18.cell 8 rfl) (.cons (ix_own (j := k) hca (by kernel_rfl) (by kernel_rfl) rfl hklt) (.cons ((hca.ext hE20 (fun b hb hm => hkn b hb hm)).cellAt _ (by simp [hk, Tr.ptr])) .nil)))) fun a hS => ?_
  refine eff_store wide_wide (r := 4) (b := cb) (off := 2) (vs := [(Pv kid.b)]) hS (by kernel_rfl) hB17 (by simp) fun a w22 hw23 hS => ?_
  have hB24 : Blk w22 cb 77 (#[.pointer p0, .slice (some ⟨ga13, 0, none⟩) (st.length + 1) ca13, (Pv kid.b), I6 p]) := by rw [hw23]; exact hB17.upd _ _
  have hB26 := OwnR.at' hw23 (hB19.updNe ((OwnR.ne_type hOa13 ((((hC.drew).alloc _ : Blk ((w.drew).alloc (.cells #[(Pv c.b), I6 ↑k, I6 (p + sumW (c.kids.take k))] 122)) cb 77 (#[.pointer p0, .slice bs st.length cap, (Pv c.b), I6 p]))).ext hEa13 (OwnV.notin ((hv.drew).alloc _ : OwnV ((w.drew).alloc (.cells #[(Pv c.b), I6 ↑k, I6 (p + sumW (c.kids.take k))] 122)) 122 3 (.slice bs st.length cap) st.length (ways st)) ((hC.drew).alloc _ : Blk ((w.drew).alloc (.cells #[(Pv c.b), I6 ↑k, I6 (p + sumW (c.kids.take k))] 122)) cb 77 (#[.pointer p0, .slice bs st.length cap, (Pv c.b), I6 p])) (by decide))) (by decide)).symm) _ _)
  have hE27 : Ext (cb :: ob (.slice bs st.length cap)) w w22 := by rw [hw23]; exact hE20.updIn (.inl (by simp)) _ _
  refine sg wide_wide [.p, .p, .p] [] [(0, (Pv cb)), (1, I6 ↑k), (5, I6 (p + sumW (c.kids.take k))), (37, (resl c.ks k)), (38, I6 ↑k), (82, I6 (p + sumW (c.kids.take k))), (88, (Po cb 3))] 21 1 hS .nil fun a hS => ?_
  refine eff_store wide_wide (r := 0) (b := cb) (off := 3) (vs := [I6 (p + sumW (c.kids.take k))]) hS (by kernel_rfl) hB24 (by simp) fun a w28 hw29 hS => ?_
  have hB30 : Blk w28 cb 77 (#[.pointer p0, .slice (some ⟨ga13, 0, none⟩) (st.length + 1) ca13, (Pv kid.b), I6 (p + sumW (c.kids.take k))]) := by rw [hw29]; exact hB24.upd _ _
  have hB32 := OwnR.at' hw29 (hB26.updNe ((OwnR.ne_type hOa13 ((((hC.drew).alloc _ : Blk ((w.drew).alloc (.cells #[(Pv c.b), I6 ↑k, I6 (p + sumW (c.kids.take k))] 122)) cb 77 (#[.pointer p0, .slice bs st.length cap, (Pv c.b), I6 p]))).ext hEa13 (OwnV.notin ((hv.drew).alloc _ : OwnV ((w.drew).alloc (.cells #[(Pv c.b), I6 ↑k, I6 (p + sumW (c.kids.take k))] 122)) 122 3 (.slice bs st.length cap) st.length (ways st)) ((hC.drew).alloc _ : Blk ((w.drew).alloc (.cells #[(Pv c.b), I6 ↑k, I6 (p + sumW (c.kids.take k))] 122)) cb 77 (#[.pointer p0, .slice bs st.length cap, (Pv c.b), I6 p])) (by decide))) (by decide)).symm) _ _)
  have hE33 : Ext (cb :: ob (.slice bs st.length cap)) w w28 := by rw [hw29]; exact hE27.updIn (.inl (by simp)) _ _
  refine seg_end ?_
  refine hK21 _ _ ?_
  refine sq fun K34 hK34 => ?_
  refine rgn 1 ?_
  refine sg wide_wide [.p] [] [(0, (Pv cb)), (1, I6 ↑k), (5, I6 (p + sumW (c.kids.take k))), (37, (resl c.ks k)), (38, I6 ↑k), (4, .bool true)] 1 0 hS .nil fun a hS => ?_
  refine seg_end ?_
  refine hK34 _ _ ?_
  refine wpIn_ret ?_
  refine ret1 hS Try.results43 rfl ?_
  exact ⟨some ⟨ga13, 0, none⟩, ca13, rfl, hB30, by rw [ways_append]; simpa [ways, stepc, Tr.ptr] using (hB32 : OwnR _ _ _ _ _ _ _).v, hE33, fun b hb => (by have hb : b = ga13 := (by simpa [ob] using hb); subst hb; rcases hFa13 b (by simp) with h | h; exact .inl h; exact .inr (Nat.le_trans (by simp) h))⟩

end Go.Proofs.Ytpglmeeledmkoaa
