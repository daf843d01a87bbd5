import Derived.Test.YtpglmeeledmkoaaProg
import Derived.Test.YtpglmeeledmkoaaVc
import Derived.Test.YtpglmeeledmkoaaRf
import Derived.Test.YtpglmeeledmkoaaT15
namespace Go.Proofs.Ytpglmeeledmkoaa
open Go.Vc

theorem RWidth {s0 s1 : Nat} {L : List Rf} : ∀ (r : Rf), r ∈ L → ∀ (w : World), FOk w s0 s1 L → Calls Try.prog 65 #[.pointer (some ⟨r.rb, 0, none⟩)] w fun e w' => e = .returned (.int .i64 r.t.wd) ∧ Ext [] w w' := by
  refine Rf.ind fun r ih hr w hF => ?_
  have hone := hF.one r hr
  have hrow := hone.row
  have hB : Blk w r.rb 40 #[.int .i64 r.k, .int .i64 ↑r.i, .int .i64 r.t.kd, .int .i64 r.t.nn, .int .i64 r.t.lk, .int .i64 r.t.ls, .int .i64 r.t.ll, .int .i64 r.t.lr, r.kv, .int .i64 r.t.tt] := hone.blk
  have htt := hF.tt hr
  have hkl := hF.kids_le hr
  have hst := sums_take hF hr
  refine calls_body 43 [(0, .pointer (some ⟨r.rb, 0, none⟩))] Try.func65 rfl (by kernel_rfl) (by kernel_rfl) (by kernel_rfl) fun a hS => ?_
  have hE0 : Ext [] w w := Ext.refl _ _
  refine wpIn_seq_k fun K1 hK1 => ?_
  refine region 1 (by kernel_rfl) ?_
  refine seg wide_wide [.p] [0, 2] [] [(0, .pointer (some ⟨r.rb, 0, none⟩)), (2, .int .i64 0)] 1 0 hS (by kernel_rfl) (by kernel_rfl) (by kernel_rfl) .nil fun a hS => ?_
  refine seg_end ?_
  refine hK1 _ _ ?_
  refine wpIn_seq_k fun K2 hK2 => ?_
  refine wpIn_seq_k fun K3 hK3 => ?_
  refine region 5 (by kernel_rfl) ?_
  refine seg wide_wide [.p, .p, .p, .ld (.int .i64 r.t.kd), .p] [0, 2, 9] [w.cell? ⟨r.rb, 2, none⟩ = some (.int .i64 r.t.kd)] [(0, .pointer (some ⟨r.rb, 0, none⟩)), (2, .int .i64 0), (9, .bool ((r.t.kd : Int) == 1))] 5 0 hS (by kernel_rfl) (by kernel_rfl) (by kernel_rfl) (.cons (hB.cell 2 rfl) .nil) fun a hS => ?_
  refine seg_end ?_
  refine hK3 _ _ ?_
  refine cond_b hS rfl (fun hb4 => ?_) (fun hb4 => ?_)
  · -- ((r.t.kd : Int) == 1) is true
    replace hb4 := test_eq_t hb4
    have hlf := hone.ok.nums.leaf hb4
    have hb1 := bt_bd r.t.ls
    have hb2 := bt_bd r.t.ll
    refine wpIn_seq_k fun K5 hK5 => ?_
    refine region_fn2 wide_wide [.q .p, .q .p, .q .p, .q .p, .q (.ld (.int .i64 r.t.ls)), .e, .q .p, .q .p, .q .p, .q .p, .q (.ld (.int .i64 r.t.ll)), .e, .q (.as (.int .i64 ((bt r.t.ls) + (bt r.t.ll)))), .q .p] [0, 0, 0, 0, 0, 0, 0, 0, 0, 0, 0, 1, 2, 2] [0, 0, 0, 0, 0, 0, 1, 1, 1, 1, 1, 1, 2, 2] [0, 1, 3, 7, 15, 31, 0, 64, 192, 448, 960, 2047, 4095, 8191] [5, 11] 2 ([(0, .pointer (some ⟨r.rb, 0, none⟩)), (2, .int .i64 ((bt r.t.ls) + (bt r.t.ll))), (10, .pointer (some ⟨r.rb, 0, none⟩)), (11, .pointer (some ⟨r.rb, 0, none⟩)), (12, .pointer (some ⟨r.rb, 4, none⟩)), (13, .pointer (some ⟨r.rb, 5, none⟩)), (14, .int .i64 r.t.ls), (15, .int .i64 (bt r.t.ls)), (16, .pointer (some ⟨r.rb, 0, none⟩)), (17, .pointer (some ⟨r.rb, 0, none⟩)), (18, .pointer (some ⟨r.rb, 4, none⟩)), (19, .pointer (some ⟨r.rb, 6, none⟩)), (20, .int .i64 r.t.ll), (21, .int .i64 (bt r.t.ll)), (22, .int .i64 ((bt r.t.ls) + (bt r.t.ll)))]) [w.drew, w.drew, w.drew] w.drew (fun w' => [(4, [w'.cell? ⟨r.rb, 5, none⟩ = some (.int .i64 r.t.ls)]), (10, [w'.cell? ⟨r.rb, 6, none⟩ = some (.int .i64 r.t.ll)]), (12, [Value.int .i64 (IntKind.i64.wrap ((bt r.t.ls) + (bt r.t.ll))) = .int .i64 ((bt r.t.ls) + (bt r.t.ll))])]) [0] [] hS (by kernel_rfl) (by kernel_rfl) (by kernel_rfl) (by kernel_rfl) (fun _ => by kernel_rfl) (by kernel_rfl) (by kernel_rfl) (by kernel_rfl) ?_ ?_ ?_
    · intro e w' hw
      refine (.cons ?_ (.cons ?_ (.cons ?_ .nil)))
      · intro h1 h2
        obtain rfl : e = 0 := Nat.le_antisymm h2 h1
        obtain rfl : w' = w.drew := hw.trans (by kernel_rfl)
        exact (.cons ((hB.drew : Blk w.drew r.rb 40 (#[.int .i64 r.k, .int .i64 ↑r.i, .int .i64 r.t.kd, .int .i64 r.t.nn, .int .i64 r.t.lk, .int .i64 r.t.ls, .int .i64 r.t.ll, .int .i64 r.t.lr, r.kv, .int .i64 r.t.tt])).cell 5 rfl) .nil)
      · intro h1 h2
        replace h1 : 0 ≤ e := h1
        replace h2 : e ≤ 1 := h2
        have he : e = 0 ∨ e = 1 := by omega
        rcases he with rfl | rfl
        · obtain rfl : w' = w.drew := hw.trans (by kernel_rfl)
          exact (.cons ((hB.drew : Blk w.drew r.rb 40 (#[.int .i64 r.k, .int .i64 ↑r.i, .int .i64 r.t.kd, .int .i64 r.t.nn, .int .i64 r.t.lk, .int .i64 r.t.ls, .int .i64 r.t.ll, .int .i64 r.t.lr, r.kv, .int .i64 r.t.tt])).cell 6 rfl) .nil)
        · obtain rfl : w' = w.drew := hw.trans (by kernel_rfl)
          exact (.cons ((hB.drew : Blk w.drew r.rb 40 (#[.int .i64 r.k, .int .i64 ↑r.i, .int .i64 r.t.kd, .int .i64 r.t.nn, .int .i64 r.t.lk, .int .i64 r.t.ls, .int .i64 r.t.ll, .int .i64 r.t.lr, r.kv, .int .i64 r.t.tt])).cell 6 rfl) .nil)
      · exact fun _ _ => (.cons (as_i64 (by omega)) .nil)
    · refine (.cons ?eq6_5 (.cons ?eq6_11 .nil))
      · refine eff_at (w.drew) (w.drew) (by kernel_rfl) (by kernel_rfl) ?_
        refine upon_call (f := 79) (vs := [.int .i64 r.t.ls]) (cap := #[]) (d := (some 15)) (by kernel_rfl) Try.call79 #[.int .i64 r.t.ls] (by kernel_rfl) (Rbytes_any r.t.ls w.drew) ?_
        rintro _ _ ⟨rfl, rfl⟩
        exact ⟨_, rfl, ⟨by kernel_rfl, by kernel_rfl⟩⟩
      · refine eff_at (w.drew) (w.drew) (by kernel_rfl) (by kernel_rfl) ?_
        refine upon_call (f := 79) (vs := [.int .i64 r.t.ll]) (cap := #[]) (d := (some 21)) (by kernel_rfl) Try.call79 #[.int .i64 r.t.ll] (by kernel_rfl) (Rbytes_any r.t.ll w.drew) ?_
        rintro _ _ ⟨rfl, rfl⟩
        exact ⟨_, rfl, ⟨by kernel_rfl, by kernel_rfl⟩⟩
    rintro a w7 hS hw8
    replace hw8 : w7 = w.drew := hw8.trans (by kernel_rfl)
    have hB9 := Blk.at' hw8 (hB.drew)
    have hE10 : Ext [] w w7 := by rw [hw8]; exact hE0.drew
    replace hS := hS.keepTo [0, 2] (m' := [(0, .pointer (some ⟨r.rb, 0, none⟩)), (2, .int .i64 ((bt r.t.ls) + (bt r.t.ll)))]) (by kernel_rfl)
    refine hK5 _ _ ?_
    refine wpIn_ret ?_
    refine then_ret ?_
    refine ret1 hS Try.results65 rfl ?_
    exact ⟨by rw [hlf.2.1], hE10⟩
  · -- ((r.t.kd : Int) == 1) is false
    replace hb4 := test_eq_f hb4
    have hkd : r.t.kd ≠ 1 := hb4
    have hsm := hF.sums hr hkd
    refine wpIn_skip ?_
    refine hK2 _ _ ?_
    refine wpIn_seq_k fun K11 hK11 => ?_
    refine region 1 (by kernel_rfl) ?_
    refine seg wide_wide [.p] [0, 2, 3] [] [(0, .pointer (some ⟨r.rb, 0, none⟩)), (2, .int .i64 0), (3, .int .i64 0)] 1 0 hS (by kernel_rfl) (by kernel_rfl) (by kernel_rfl) .nil fun a hS => ?_
    refine seg_end ?_
    refine hK11 _ _ ?_
    refine wpIn_seq_k fun K12 hK12 => ?_
    refine wpIn_seq_k fun K13 hK13 => ?_
    refine region 1 (by kernel_rfl) ?_
    refine seg wide_wide [.p] [0, 2, 3, 4] [] [(0, .pointer (some ⟨r.rb, 0, none⟩)), (2, .int .i64 0), (3, .int .i64 0), (4, .int .i64 0)] 1 0 hS (by kernel_rfl) (by kernel_rfl) (by kernel_rfl) .nil fun a hS => ?_
    refine seg_end ?_
    refine hK13 _ _ ?_
    refine wpIn_block ?_
    have hS0 := hS.keepTo [0, 3, 4] (m' := [(0, .pointer (some ⟨r.rb, 0, none⟩)), (3, .int .i64 0), (4, .int .i64 0)]) (by kernel_rfl)
    clear hS
    have hS : St 43 [] [(0, .pointer (some ⟨r.rb, 0, none⟩)), (3, .int .i64 (sumW ((r.kids.take 0).map Rf.t))), (4, .int .i64 ((0 : Nat) : Int))] a := by simpa [sumW] using hS0
    refine loop_ghost (fun (j : Nat) a' w' => St 43 [] [(0, .pointer (some ⟨r.rb, 0, none⟩)), (3, .int .i64 (sumW ((r.kids.take j).map Rf.t))), (4, .int .i64 ↑j)] a' ∧ j ≤ r.kids.length ∧ Ext [] w w') (fun (j : Nat) => r.kids.length - j) 0 ⟨hS.keepTo [0, 3, 4] (by kernel_rfl), Nat.zero_le _, hE0⟩ ?_
    rintro j a w1 ⟨hS, hjl, hEx⟩
    have hB1 := hB.ext hEx (by simp)
    refine wpIn_seq_k fun K14 hK14 => ?_
    refine wpIn_seq_k fun K15 hK15 => ?_
    refine region 7 (by kernel_rfl) ?_
    refine seg wide_wide [.p, .p, .p, .p, .ld (r.kv), .run (.int .i64 ↑r.kids.length), .p] [0, 3, 4, 29] [w1.cell? ⟨r.rb, 8, none⟩ = some (r.kv), Sem.run Try.prog (vS (Builtin.len_ #[33] 3 #[r.kv])) w1 = .ok (.value (.int .i64 ↑r.kids.length)) w1] [(0, .pointer (some ⟨r.rb, 0, none⟩)), (3, .int .i64 (sumW ((r.kids.take j).map Rf.t))), (4, .int .i64 ↑j), (29, .bool (decide ((↑j : Int) < ↑r.kids.length)))] 7 0 hS (by kernel_rfl) (by kernel_rfl) (by kernel_rfl) (.cons (hB1.cell 8 rfl) (.cons (run_len_own hrow (by kernel_rfl)) .nil)) fun a hS => ?_
    refine seg_end ?_
    refine hK15 _ _ ?_
    refine cond_b hS rfl (fun hb16 => ?_) (fun hb16 => ?_)
    · -- decide ((↑j : Int) < ↑r.kids.length) is true
      replace hb16 := of_decide_eq_true hb16
      have hj : j < r.kids.length := by omega
      obtain ⟨q, hq⟩ : ∃ q, r.kids[j]? = some q := ⟨_, List.getElem?_eq_getElem hj⟩
      have hqm : q ∈ r.kids := List.mem_of_getElem? hq
      have htake := rf_take_succ hq
      have hs1 := hst j
      have hs2 := hst (j + 1)
      have hqt := hF.tt (hF.mem hr hqm)
      have hcell : w1.cell? ⟨bof r.kv, 0 + j * 1, none⟩ = some q.ptr := by
        rw [show 0 + j * 1 = j by omega]
        exact (hrow.ext hEx (by simp)).cellAt j (by simp [hq])
      have hsn : sumW ((r.kids.take (j + 1)).map Rf.t) = sumW ((r.kids.take j).map Rf.t) + q.t.wd := by rw [htake, List.map_append]; exact sumW_snoc _ _
      refine wpIn_skip ?_
      refine hK14 _ _ ?_
      refine wpIn_seq_k fun K17 hK17 => ?_
      refine wpIn_block ?_
      refine region 11 (by kernel_rfl) ?_
      refine seg wide_wide [.p, .p, .p, .p, .ld (r.kv), .p, .run (.pointer (some ⟨bof r.kv, 0 + j * 1, none⟩)), .ld (.pointer (some ⟨q.rb, 0, none⟩))] [0, 3, 4, 32, 39] [w1.cell? ⟨r.rb, 8, none⟩ = some (r.kv), Sem.run Try.prog (vS (Instr.indexAt 33 (r.kv) (.int .i64 ↑j))) w1 = .ok (.value (.pointer (some ⟨bof r.kv, 0 + j * 1, none⟩))) w1, w1.cell? ⟨bof r.kv, 0 + j * 1, none⟩ = some (.pointer (some ⟨q.rb, 0, none⟩))] [(0, .pointer (some ⟨r.rb, 0, none⟩)), (3, .int .i64 (sumW ((r.kids.take j).map Rf.t))), (4, .int .i64 ↑j), (32, .int .i64 (sumW ((r.kids.take j).map Rf.t))), (39, .pointer (some ⟨q.rb, 0, none⟩))] 8 3 hS (by kernel_rfl) (by kernel_rfl) (by kernel_rfl) (.cons (hB1.cell 8 rfl) (.cons (ix_own (j := j) hrow (by kernel_rfl) (by kernel_rfl) rfl hj) (.cons (hcell) .nil))) fun a hS => ?_
      refine eff_call wide_wide (r := 2) (f := 65) (vs := [.pointer (some ⟨q.rb, 0, none⟩)]) (cap := #[]) (d := (some 40)) hS (by kernel_rfl) Try.call65 #[.pointer (some ⟨q.rb, 0, none⟩)] (by kernel_rfl) (ih q hqm (hF.mem hr hqm) w1 (hF.ext0 hEx)) ?_
      rintro _ w2 ⟨rfl, hE12⟩
      refine ⟨_, rfl, fun a hS => ?_⟩
      have hE18 := hEx.trans0 hE12
      have hB19 := hB1.ext hE12 (by simp)
      refine seg wide_wide [.as (.int .i64 ((sumW ((r.kids.take j).map Rf.t)) + q.t.wd)), .p] [0, 3, 4] [Value.int .i64 (IntKind.i64.wrap ((sumW ((r.kids.take j).map Rf.t)) + q.t.wd)) = .int .i64 ((sumW ((r.kids.take j).map Rf.t)) + q.t.wd)] [(0, .pointer (some ⟨r.rb, 0, none⟩)), (3, .int .i64 ((sumW ((r.kids.take j).map Rf.t)) + q.t.wd)), (4, .int .i64 ↑j)] 11 0 hS (by kernel_rfl) (by kernel_rfl) (by kernel_rfl) (.cons (as_i64 (by omega)) .nil) fun a hS => ?_
      refine seg_end ?_
      refine inBlock_normal ?_
      refine hK17 _ _ ?_
      refine region 3 (by kernel_rfl) ?_
      refine seg wide_wide [.p, .as (.int .i64 (↑j + 1)), .p] [0, 3, 4] [Value.int .i64 (IntKind.i64.wrap (↑j + 1)) = .int .i64 (↑j + 1)] [(0, .pointer (some ⟨r.rb, 0, none⟩)), (3, .int .i64 ((sumW ((r.kids.take j).map Rf.t)) + q.t.wd)), (4, .int .i64 (↑j + 1))] 3 0 hS (by kernel_rfl) (by kernel_rfl) (by kernel_rfl) (.cons (as_i64 (by omega)) .nil) fun a hS => ?_
      refine seg_end ?_
      exact ⟨j + 1, ⟨by rw [hsn]; exact hS.keepTo [0, 3, 4] (by kernel_rfl), by omega, hE18⟩, by omega⟩
    · -- decide ((↑j : Int) < ↑r.kids.length) is false
      replace hb16 := of_decide_eq_false hb16
      obtain rfl : j = r.kids.length := by omega
      rw [List.take_length] at hS
      refine wpIn_exit ?_
      refine then_exit ?_
      refine then_exit ?_
      refine inBlock_hit ?_
      refine hK12 _ _ ?_
      refine wpIn_seq_k fun K20 hK20 => ?_
      refine region 2 (by kernel_rfl) ?_
      refine seg wide_wide [.p, .p] [0, 3, 2] [] [(0, .pointer (some ⟨r.rb, 0, none⟩)), (3, .int .i64 (sumW (r.kids.map Rf.t))), (2, .int .i64 (sumW (r.kids.map Rf.t)))] 2 0 hS (by kernel_rfl) (by kernel_rfl) (by kernel_rfl) .nil fun a hS => ?_
      refine seg_end ?_
      refine hK20 _ _ ?_
      refine wpIn_ret ?_
      refine ret1 hS Try.results65 rfl ?_
      exact ⟨by rw [hsm.1], hEx⟩

theorem RLeafs {s0 s1 : Nat} {L : List Rf} : ∀ (r : Rf), r ∈ L → ∀ (w : World), FOk w s0 s1 L → Calls Try.prog 66 #[.pointer (some ⟨r.rb, 0, none⟩)] w fun e w' => e = .returned (.int .i64 r.t.lf) ∧ Ext [] w w' := by
  refine Rf.ind fun r ih hr w hF => ?_
  have hone := hF.one r hr
  have hrow := hone.row
  have hB : Blk w r.rb 40 #[.int .i64 r.k, .int .i64 ↑r.i, .int .i64 r.t.kd, .int .i64 r.t.nn, .int .i64 r.t.lk, .int .i64 r.t.ls, .int .i64 r.t.ll, .int .i64 r.t.lr, r.kv, .int .i64 r.t.tt] := hone.blk
  have htt := hF.tt hr
  have hkl := hF.kids_le hr
  have hst := sums_take hF hr
  refine calls_body 30 [(0, .pointer (some ⟨r.rb, 0, none⟩))] Try.func66 rfl (by kernel_rfl) (by kernel_rfl) (by kernel_rfl) fun a hS => ?_
  have hE0 : Ext [] w w := Ext.refl _ _
  refine wpIn_seq_k fun K1 hK1 => ?_
  refine region 1 (by kernel_rfl) ?_
  refine seg wide_wide [.p] [0, 2] [] [(0, .pointer (some ⟨r.rb, 0, none⟩)), (2, .int .i64 0)] 1 0 hS (by kernel_rfl) (by kernel_rfl) (by kernel_rfl) .nil fun a hS => ?_
  refine seg_end ?_
  refine hK1 _ _ ?_
  refine wpIn_seq_k fun K2 hK2 => ?_
  refine wpIn_seq_k fun K3 hK3 => ?_
  refine region 5 (by kernel_rfl) ?_
  refine seg wide_wide [.p, .p, .p, .ld (.int .i64 r.t.kd), .p] [0, 2, 9] [w.cell? ⟨r.rb, 2, none⟩ = some (.int .i64 r.t.kd)] [(0, .pointer (some ⟨r.rb, 0, none⟩)), (2, .int .i64 0), (9, .bool ((r.t.kd : Int) == 1))] 5 0 hS (by kernel_rfl) (by kernel_rfl) (by kernel_rfl) (.cons (hB.cell 2 rfl) .nil) fun a hS => ?_
  refine seg_end ?_
  refine hK3 _ _ ?_
  refine cond_b hS rfl (fun hb4 => ?_) (fun hb4 => ?_)
  · -- ((r.t.kd : Int) == 1) is true
    replace hb4 := test_eq_t hb4
    have hlf := hone.ok.nums.leaf hb4
    have hb1 := bt_bd r.t.ls
    have hb2 := bt_bd r.t.ll
    refine wpIn_seq_k fun K5 hK5 => ?_
    refine region 1 (by kernel_rfl) ?_
    refine seg wide_wide [.p] [0, 2] [] [(0, .pointer (some ⟨r.rb, 0, none⟩)), (2, .int .i64 1)] 1 0 hS (by kernel_rfl) (by kernel_rfl) (by kernel_rfl) .nil fun a hS => ?_
    refine seg_end ?_
    refine hK5 _ _ ?_
    refine wpIn_ret ?_
    refine then_ret ?_
    refine ret1 hS Try.results66 rfl ?_
    exact ⟨by rw [hlf.2.2.1], hE0⟩
  · -- ((r.t.kd : Int) == 1) is false
    replace hb4 := test_eq_f hb4
    have hkd : r.t.kd ≠ 1 := hb4
    have hsm := hF.sums hr hkd
    refine wpIn_skip ?_
    refine hK2 _ _ ?_
    refine wpIn_seq_k fun K6 hK6 => ?_
    refine region 1 (by kernel_rfl) ?_
    refine seg wide_wide [.p] [0, 2, 3] [] [(0, .pointer (some ⟨r.rb, 0, none⟩)), (2, .int .i64 0), (3, .int .i64 0)] 1 0 hS (by kernel_rfl) (by kernel_rfl) (by kernel_rfl) .nil fun a hS => ?_
    refine seg_end ?_
    refine hK6 _ _ ?_
    refine wpIn_seq_k fun K7 hK7 => ?_
    refine wpIn_seq_k fun K8 hK8 => ?_
    refine region 1 (by kernel_rfl) ?_
    refine seg wide_wide [.p] [0, 2, 3, 4] [] [(0, .pointer (some ⟨r.rb, 0, none⟩)), (2, .int .i64 0), (3, .int .i64 0), (4, .int .i64 0)] 1 0 hS (by kernel_rfl) (by kernel_rfl) (by kernel_rfl) .nil fun a hS => ?_
    refine seg_end ?_
    refine hK8 _ _ ?_
    refine wpIn_block ?_
    have hS0 := hS.keepTo [0, 3, 4] (m' := [(0, .pointer (some ⟨r.rb, 0, none⟩)), (3, .int .i64 0), (4, .int .i64 0)]) (by kernel_rfl)
    clear hS
    have hS : St 30 [] [(0, .pointer (some ⟨r.rb, 0, none⟩)), (3, .int .i64 (sumL ((r.kids.take 0).map Rf.t))), (4, .int .i64 ((0 : Nat) : Int))] a := by simpa [sumL] using hS0
    refine loop_ghost (fun (j : Nat) a' w' => St 30 [] [(0, .pointer (some ⟨r.rb, 0, none⟩)), (3, .int .i64 (sumL ((r.kids.take j).map Rf.t))), (4, .int .i64 ↑j)] a' ∧ j ≤ r.kids.length ∧ Ext [] w w') (fun (j : Nat) => r.kids.length - j) 0 ⟨hS.keepTo [0, 3, 4] (by kernel_rfl), Nat.zero_le _, hE0⟩ ?_
    rintro j a w1 ⟨hS, hjl, hEx⟩
    have hB1 := hB.ext hEx (by simp)
    refine wpIn_seq_k fun K9 hK9 => ?_
    refine wpIn_seq_k fun K10 hK10 => ?_
    refine region 7 (by kernel_rfl) ?_
    refine seg wide_wide [.p, .p, .p, .p, .ld (r.kv), .run (.int .i64 ↑r.kids.length), .p] [0, 3, 4, 16] [w1.cell? ⟨r.rb, 8, none⟩ = some (r.kv), Sem.run Try.prog (vS (Builtin.len_ #[33] 3 #[r.kv])) w1 = .ok (.value (.int .i64 ↑r.kids.length)) w1] [(0, .pointer (some ⟨r.rb, 0, none⟩)), (3, .int .i64 (sumL ((r.kids.take j).map Rf.t))), (4, .int .i64 ↑j), (16, .bool (decide ((↑j : Int) < ↑r.kids.length)))] 7 0 hS (by kernel_rfl) (by kernel_rfl) (by kernel_rfl) (.cons (hB1.cell 8 rfl) (.cons (run_len_own hrow (by kernel_rfl)) .nil)) fun a hS => ?_
    refine seg_end ?_
    refine hK10 _ _ ?_
    refine cond_b hS rfl (fun hb11 => ?_) (fun hb11 => ?_)
    · -- decide ((↑j : Int) < ↑r.kids.length) is true
      replace hb11 := of_decide_eq_true hb11
      have hj : j < r.kids.length := by omega
      obtain ⟨q, hq⟩ : ∃ q, r.kids[j]? = some q := ⟨_, List.getElem?_eq_getElem hj⟩
      have hqm : q ∈ r.kids := List.mem_of_getElem? hq
      have htake := rf_take_succ hq
      have hs1 := hst j
      have hs2 := hst (j + 1)
      have hqt := hF.tt (hF.mem hr hqm)
      have hcell : w1.cell? ⟨bof r.kv, 0 + j * 1, none⟩ = some q.ptr := by
        rw [show 0 + j * 1 = j by omega]
        exact (hrow.ext hEx (by simp)).cellAt j (by simp [hq])
      have hsn : sumL ((r.kids.take (j + 1)).map Rf.t) = sumL ((r.kids.take j).map Rf.t) + q.t.lf := by rw [htake, List.map_append]; exact sumL_snoc _ _
      refine wpIn_skip ?_
      refine hK9 _ _ ?_
      refine wpIn_seq_k fun K12 hK12 => ?_
      refine wpIn_block ?_
      refine region 11 (by kernel_rfl) ?_
      refine seg wide_wide [.p, .p, .p, .p, .ld (r.kv), .p, .run (.pointer (some ⟨bof r.kv, 0 + j * 1, none⟩)), .ld (.pointer (some ⟨q.rb, 0, none⟩))] [0, 3, 4, 19, 26] [w1.cell? ⟨r.rb, 8, none⟩ = some (r.kv), Sem.run Try.prog (vS (Instr.indexAt 33 (r.kv) (.int .i64 ↑j))) w1 = .ok (.value (.pointer (some ⟨bof r.kv, 0 + j * 1, none⟩))) w1, w1.cell? ⟨bof r.kv, 0 + j * 1, none⟩ = some (.pointer (some ⟨q.rb, 0, none⟩))] [(0, .pointer (some ⟨r.rb, 0, none⟩)), (3, .int .i64 (sumL ((r.kids.take j).map Rf.t))), (4, .int .i64 ↑j), (19, .int .i64 (sumL ((r.kids.take j).map Rf.t))), (26, .pointer (some ⟨q.rb, 0, none⟩))] 8 3 hS (by kernel_rfl) (by kernel_rfl) (by kernel_rfl) (.cons (hB1.cell 8 rfl) (.cons (ix_own (j := j) hrow (by kernel_rfl) (by kernel_rfl) rfl hj) (.cons (hcell) .nil))) fun a hS => ?_
      refine eff_call wide_wide (r := 2) (f := 66) (vs := [.pointer (some ⟨q.rb, 0, none⟩)]) (cap := #[]) (d := (some 27)) hS (by kernel_rfl) Try.call66 #[.pointer (some ⟨q.rb, 0, none⟩)] (by kernel_rfl) (ih q hqm (hF.mem hr hqm) w1 (hF.ext0 hEx)) ?_
      rintro _ w2 ⟨rfl, hE12⟩
      refine ⟨_, rfl, fun a hS => ?_⟩
      have hE13 := hEx.trans0 hE12
      have hB14 := hB1.ext hE12 (by simp)
      refine seg wide_wide [.as (.int .i64 ((sumL ((r.kids.take j).map Rf.t)) + q.t.lf)), .p] [0, 3, 4] [Value.int .i64 (IntKind.i64.wrap ((sumL ((r.kids.take j).map Rf.t)) + q.t.lf)) = .int .i64 ((sumL ((r.kids.take j).map Rf.t)) + q.t.lf)] [(0, .pointer (some ⟨r.rb, 0, none⟩)), (3, .int .i64 ((sumL ((r.kids.take j).map Rf.t)) + q.t.lf)), (4, .int .i64 ↑j)] 11 0 hS (by kernel_rfl) (by kernel_rfl) (by kernel_rfl) (.cons (as_i64 (by omega)) .nil) fun a hS => ?_
      refine seg_end ?_
      refine inBlock_normal ?_
      refine hK12 _ _ ?_
      refine region 3 (by kernel_rfl) ?_
      refine seg wide_wide [.p, .as (.int .i64 (↑j + 1)), .p] [0, 3, 4] [Value.int .i64 (IntKind.i64.wrap (↑j + 1)) = .int .i64 (↑j + 1)] [(0, .pointer (some ⟨r.rb, 0, none⟩)), (3, .int .i64 ((sumL ((r.kids.take j).map Rf.t)) + q.t.lf)), (4, .int .i64 (↑j + 1))] 3 0 hS (by kernel_rfl) (by kernel_rfl) (by kernel_rfl) (.cons (as_i64 (by omega)) .nil) fun a hS => ?_
      refine seg_end ?_
      exact ⟨j + 1, ⟨by rw [hsn]; exact hS.keepTo [0, 3, 4] (by kernel_rfl), by omega, hE13⟩, by omega⟩
    · -- decide ((↑j : Int) < ↑r.kids.length) is false
      replace hb11 := of_decide_eq_false hb11
      obtain rfl : j = r.kids.length := by omega
      rw [List.take_length] at hS
      refine wpIn_exit ?_
      refine then_exit ?_
      refine then_exit ?_
      refine inBlock_hit ?_
      refine hK7 _ _ ?_
      refine wpIn_seq_k fun K15 hK15 => ?_
      refine region 2 (by kernel_rfl) ?_
      refine seg wide_wide [.p, .p] [0, 3, 2] [] [(0, .pointer (some ⟨r.rb, 0, none⟩)), (3, .int .i64 (sumL (r.kids.map Rf.t))), (2, .int .i64 (sumL (r.kids.map Rf.t)))] 2 0 hS (by kernel_rfl) (by kernel_rfl) (by kernel_rfl) .nil fun a hS => ?_
      refine seg_end ?_
      refine hK15 _ _ ?_
      refine wpIn_ret ?_
      refine ret1 hS Try.results66 rfl ?_
      exact ⟨by rw [hsm.2.1], hEx⟩

theorem anyF_of_mem {l : List Rf} {q : Rf} (hq : q ∈ l) (h : q.t.fl = true) : anyF (l.map Rf.t) = true := by
  induction l with
  | nil => cases hq
  | cons x l ih =>
    simp only [List.map_cons, anyF]
    rcases List.mem_cons.1 hq with rfl | hq
    · simp [h]
    · simp [ih hq]

theorem RFailed {s0 s1 : Nat} {L : List Rf} : ∀ (r : Rf), r ∈ L → ∀ (w : World), FOk w s0 s1 L → Calls Try.prog 67 #[.pointer (some ⟨r.rb, 0, none⟩)] w fun e w' => e = .returned (.bool r.t.fl) ∧ Ext [] w w' := by
  refine Rf.ind fun r ih hr w hF => ?_
  have hone := hF.one r hr
  have hrow := hone.row
  have hB : Blk w r.rb 40 #[.int .i64 r.k, .int .i64 ↑r.i, .int .i64 r.t.kd, .int .i64 r.t.nn, .int .i64 r.t.lk, .int .i64 r.t.ls, .int .i64 r.t.ll, .int .i64 r.t.lr, r.kv, .int .i64 r.t.tt] := hone.blk
  have htt := hF.tt hr
  have hkl := hF.kids_le hr
  have hst := sums_take hF hr
  refine calls_body 47 [(0, .pointer (some ⟨r.rb, 0, none⟩))] Try.func67 rfl (by kernel_rfl) (by kernel_rfl) (by kernel_rfl) fun a hS => ?_
  have hE0 : Ext [] w w := Ext.refl _ _
  refine wpIn_seq_k fun K1 hK1 => ?_
  refine region 1 (by kernel_rfl) ?_
  refine seg wide_wide [.p] [0, 2] [] [(0, .pointer (some ⟨r.rb, 0, none⟩)), (2, .bool false)] 1 0 hS (by kernel_rfl) (by kernel_rfl) (by kernel_rfl) .nil fun a hS => ?_
  refine seg_end ?_
  refine hK1 _ _ ?_
  refine wpIn_seq_k fun K2 hK2 => ?_
  refine wpIn_seq_k fun K3 hK3 => ?_
  rcases (show r.t.kd = 3 ∨ r.t.kd = 5 ∨ (r.t.kd = 1 ∧ r.t.nn = -1) ∨ (r.t.kd = 1 ∧ r.t.nn ≠ -1) ∨ (r.t.kd ≠ 1 ∧ r.t.kd ≠ 3 ∧ r.t.kd ≠ 5) by omega) with hk | hk | hk | hk | hk
  · -- an alternative
    have hkd : r.t.kd ≠ 1 := by omega
    have hfl := (hone.ok.nums.inner hkd).2.2.2.2.2.2.2.2.2.2
    rw [hone.kt] at hfl
    refine region 26 (by kernel_rfl) ?_
    refine seg wide_wide [.p, .p, .p, .ld (.int .i64 r.t.kd), .as (.bool true), .p, .no, .no, .no, .no, .no, .p, .p, .no, .no, .no, .no, .no, .no, .no, .no, .no, .no, .no, .no, .p] [0, 2, 29] [w.cell? ⟨r.rb, 2, none⟩ = some (.int .i64 r.t.kd), Value.bool (((r.t.kd : Int) == 3)) = .bool true] [(0, .pointer (some ⟨r.rb, 0, none⟩)), (2, .bool false), (29, .bool true)] 26 0 hS (by kernel_rfl) (by kernel_rfl) (by kernel_rfl) (.cons (hB.cell 2 rfl) (.cons (as_eq_t (by omega)) .nil)) fun a hS => ?_
    refine seg_end ?_
    refine hK3 _ _ ?_
    refine cond_t hS rfl ?_
    refine wpIn_seq_k fun K4 hK4 => ?_
    refine region 1 (by kernel_rfl) ?_
    refine seg wide_wide [.p] [0, 2, 29] [] [(0, .pointer (some ⟨r.rb, 0, none⟩)), (2, .bool true), (29, .bool true)] 1 0 hS (by kernel_rfl) (by kernel_rfl) (by kernel_rfl) .nil fun a hS => ?_
    refine seg_end ?_
    refine hK4 _ _ ?_
    refine wpIn_ret ?_
    refine then_ret ?_
    refine ret1 hS Try.results67 rfl ?_
    exact ⟨by rw [hfl, hk]; rfl, hE0⟩
  · -- an alternative
    have hkd : r.t.kd ≠ 1 := by omega
    have hfl := (hone.ok.nums.inner hkd).2.2.2.2.2.2.2.2.2.2
    rw [hone.kt] at hfl
    refine region 26 (by kernel_rfl) ?_
    refine seg wide_wide [.p, .p, .p, .ld (.int .i64 r.t.kd), .as (.bool false), .p, .p, .p, .p, .ld (.int .i64 r.t.kd), .as (.bool true), .p, .p, .no, .no, .no, .no, .no, .no, .no, .no, .no, .no, .no, .no, .p] [0, 2, 29] [w.cell? ⟨r.rb, 2, none⟩ = some (.int .i64 r.t.kd), Value.bool (((r.t.kd : Int) == 3)) = .bool false, w.cell? ⟨r.rb, 2, none⟩ = some (.int .i64 r.t.kd), Value.bool (((r.t.kd : Int) == 5)) = .bool true] [(0, .pointer (some ⟨r.rb, 0, none⟩)), (2, .bool false), (29, .bool true)] 26 0 hS (by kernel_rfl) (by kernel_rfl) (by kernel_rfl) (.cons (hB.cell 2 rfl) (.cons (as_eq_f (by omega)) (.cons (hB.cell 2 rfl) (.cons (as_eq_t (by omega)) .nil)))) fun a hS => ?_
    refine seg_end ?_
    refine hK3 _ _ ?_
    refine cond_t hS rfl ?_
    refine wpIn_seq_k fun K5 hK5 => ?_
    refine region 1 (by kernel_rfl) ?_
    refine seg wide_wide [.p] [0, 2, 29] [] [(0, .pointer (some ⟨r.rb, 0, none⟩)), (2, .bool true), (29, .bool true)] 1 0 hS (by kernel_rfl) (by kernel_rfl) (by kernel_rfl) .nil fun a hS => ?_
    refine seg_end ?_
    refine hK5 _ _ ?_
    refine wpIn_ret ?_
    refine then_ret ?_
    refine ret1 hS Try.results67 rfl ?_
    exact ⟨by rw [hfl, hk]; simp, hE0⟩
  · -- an alternative
    have hlf := hone.ok.nums.leaf hk.1
    refine region 26 (by kernel_rfl) ?_
    refine seg wide_wide [.p, .p, .p, .ld (.int .i64 r.t.kd), .as (.bool false), .p, .p, .p, .p, .ld (.int .i64 r.t.kd), .as (.bool false), .p, .p, .p, .p, .p, .ld (.int .i64 r.t.kd), .as (.bool true), .p, .p, .p, .p, .ld (.int .i64 r.t.nn), .as (.bool true), .p, .p] [0, 2, 29] [w.cell? ⟨r.rb, 2, none⟩ = some (.int .i64 r.t.kd), Value.bool (((r.t.kd : Int) == 3)) = .bool false, w.cell? ⟨r.rb, 2, none⟩ = some (.int .i64 r.t.kd), Value.bool (((r.t.kd : Int) == 5)) = .bool false, w.cell? ⟨r.rb, 2, none⟩ = some (.int .i64 r.t.kd), Value.bool (((r.t.kd : Int) == 1)) = .bool true, w.cell? ⟨r.rb, 3, none⟩ = some (.int .i64 r.t.nn), Value.bool (((r.t.nn : Int) == (-1))) = .bool true] [(0, .pointer (some ⟨r.rb, 0, none⟩)), (2, .bool false), (29, .bool true)] 26 0 hS (by kernel_rfl) (by kernel_rfl) (by kernel_rfl) (.cons (hB.cell 2 rfl) (.cons (as_eq_f (by omega)) (.cons (hB.cell 2 rfl) (.cons (as_eq_f (by omega)) (.cons (hB.cell 2 rfl) (.cons (as_eq_t (by omega)) (.cons (hB.cell 3 rfl) (.cons (as_eq_t (by omega)) .nil)))))))) fun a hS => ?_
    refine seg_end ?_
    refine hK3 _ _ ?_
    refine cond_t hS rfl ?_
    refine wpIn_seq_k fun K6 hK6 => ?_
    refine region 1 (by kernel_rfl) ?_
    refine seg wide_wide [.p] [0, 2, 29] [] [(0, .pointer (some ⟨r.rb, 0, none⟩)), (2, .bool true), (29, .bool true)] 1 0 hS (by kernel_rfl) (by kernel_rfl) (by kernel_rfl) .nil fun a hS => ?_
    refine seg_end ?_
    refine hK6 _ _ ?_
    refine wpIn_ret ?_
    refine then_ret ?_
    refine ret1 hS Try.results67 rfl ?_
    exact ⟨by rw [hlf.2.2.2.2.1, ← hlf.2.2.2.2.2, hk.2]; rfl, hE0⟩
  · -- an alternative
    have hlf := hone.ok.nums.leaf hk.1
    have hfl : r.t.fl = anyF (r.kids.map Rf.t) := by
      have h1 := hF.klen hr
      rw [hlf.1] at h1
      have h2 : r.kids = [] := List.eq_nil_of_length_eq_zero (by simpa using h1.symm)
      rw [hlf.2.2.2.2.1, ← hlf.2.2.2.2.2, h2]
      simp [anyF, hk.2]
    refine region 26 (by kernel_rfl) ?_
    refine seg wide_wide [.p, .p, .p, .ld (.int .i64 r.t.kd), .as (.bool false), .p, .p, .p, .p, .ld (.int .i64 r.t.kd), .as (.bool false), .p, .p, .p, .p, .p, .ld (.int .i64 r.t.kd), .as (.bool true), .p, .p, .p, .p, .ld (.int .i64 r.t.nn), .as (.bool false), .p, .p] [0, 2, 29] [w.cell? ⟨r.rb, 2, none⟩ = some (.int .i64 r.t.kd), Value.bool (((r.t.kd : Int) == 3)) = .bool false, w.cell? ⟨r.rb, 2, none⟩ = some (.int .i64 r.t.kd), Value.bool (((r.t.kd : Int) == 5)) = .bool false, w.cell? ⟨r.rb, 2, none⟩ = some (.int .i64 r.t.kd), Value.bool (((r.t.kd : Int) == 1)) = .bool true, w.cell? ⟨r.rb, 3, none⟩ = some (.int .i64 r.t.nn), Value.bool (((r.t.nn : Int) == (-1))) = .bool false] [(0, .pointer (some ⟨r.rb, 0, none⟩)), (2, .bool false), (29, .bool false)] 26 0 hS (by kernel_rfl) (by kernel_rfl) (by kernel_rfl) (.cons (hB.cell 2 rfl) (.cons (as_eq_f (by omega)) (.cons (hB.cell 2 rfl) (.cons (as_eq_f (by omega)) (.cons (hB.cell 2 rfl) (.cons (as_eq_t (by omega)) (.cons (hB.cell 3 rfl) (.cons (as_eq_f (by omega)) .nil)))))))) fun a hS => ?_
    refine seg_end ?_
    refine hK3 _ _ ?_
    refine cond_f hS rfl ?_
    refine wpIn_skip ?_
    refine hK2 _ _ ?_
    refine wpIn_seq_k fun K7 hK7 => ?_
    refine wpIn_seq_k fun K8 hK8 => ?_
    refine region 1 (by kernel_rfl) ?_
    refine seg wide_wide [.p] [0, 2, 29, 3] [] [(0, .pointer (some ⟨r.rb, 0, none⟩)), (2, .bool false), (29, .bool false), (3, .int .i64 0)] 1 0 hS (by kernel_rfl) (by kernel_rfl) (by kernel_rfl) .nil fun a hS => ?_
    refine seg_end ?_
    refine hK8 _ _ ?_
    refine wpIn_block ?_
    refine loop_ghost (fun (j : Nat) a' w' => St 47 [] [(0, .pointer (some ⟨r.rb, 0, none⟩)), (3, .int .i64 ↑j)] a' ∧ j ≤ r.kids.length ∧ Ext [] w w' ∧ anyF ((r.kids.take j).map Rf.t) = false) (fun (j : Nat) => r.kids.length - j) 0 ⟨hS.keepTo [0, 3] (by kernel_rfl), Nat.zero_le _, hE0, by simp [anyF]⟩ ?_
    rintro j a w1 ⟨hS, hjl, hEx, hno⟩
    have hB1 := hB.ext hEx (by simp)
    refine wpIn_seq_k fun K9 hK9 => ?_
    refine wpIn_seq_k fun K10 hK10 => ?_
    refine region 7 (by kernel_rfl) ?_
    refine seg wide_wide [.p, .p, .p, .p, .ld (r.kv), .run (.int .i64 ↑r.kids.length), .p] [0, 3, 36] [w1.cell? ⟨r.rb, 8, none⟩ = some (r.kv), Sem.run Try.prog (vS (Builtin.len_ #[33] 3 #[r.kv])) w1 = .ok (.value (.int .i64 ↑r.kids.length)) w1] [(0, .pointer (some ⟨r.rb, 0, none⟩)), (3, .int .i64 ↑j), (36, .bool (decide ((↑j : Int) < ↑r.kids.length)))] 7 0 hS (by kernel_rfl) (by kernel_rfl) (by kernel_rfl) (.cons (hB1.cell 8 rfl) (.cons (run_len_own hrow (by kernel_rfl)) .nil)) fun a hS => ?_
    refine seg_end ?_
    refine hK10 _ _ ?_
    refine cond_b hS rfl (fun hb11 => ?_) (fun hb11 => ?_)
    · -- decide ((↑j : Int) < ↑r.kids.length) is true
      replace hb11 := of_decide_eq_true hb11
      have hj : j < r.kids.length := by omega
      obtain ⟨q, hq⟩ : ∃ q, r.kids[j]? = some q := ⟨_, List.getElem?_eq_getElem hj⟩
      have hqm : q ∈ r.kids := List.mem_of_getElem? hq
      have htake := rf_take_succ hq
      have hs1 := hst j
      have hs2 := hst (j + 1)
      have hqt := hF.tt (hF.mem hr hqm)
      have hcell : w1.cell? ⟨bof r.kv, 0 + j * 1, none⟩ = some q.ptr := by
        rw [show 0 + j * 1 = j by omega]
        exact (hrow.ext hEx (by simp)).cellAt j (by simp [hq])
      have hsn : anyF ((r.kids.take (j + 1)).map Rf.t) = (anyF ((r.kids.take j).map Rf.t) || q.t.fl) := by rw [htake, List.map_append]; exact anyF_snoc _ _
      refine wpIn_skip ?_
      refine hK9 _ _ ?_
      refine wpIn_seq_k fun K12 hK12 => ?_
      refine wpIn_block ?_
      refine wpIn_seq_k fun K13 hK13 => ?_
      refine region 8 (by kernel_rfl) ?_
      refine seg wide_wide [.p, .p, .p, .ld (r.kv), .p, .run (.pointer (some ⟨bof r.kv, 0 + j * 1, none⟩)), .ld (.pointer (some ⟨q.rb, 0, none⟩))] [0, 3, 45] [w1.cell? ⟨r.rb, 8, none⟩ = some (r.kv), Sem.run Try.prog (vS (Instr.indexAt 33 (r.kv) (.int .i64 ↑j))) w1 = .ok (.value (.pointer (some ⟨bof r.kv, 0 + j * 1, none⟩))) w1, w1.cell? ⟨bof r.kv, 0 + j * 1, none⟩ = some (.pointer (some ⟨q.rb, 0, none⟩))] [(0, .pointer (some ⟨r.rb, 0, none⟩)), (3, .int .i64 ↑j), (45, .pointer (some ⟨q.rb, 0, none⟩))] 7 1 hS (by kernel_rfl) (by kernel_rfl) (by kernel_rfl) (.cons (hB1.cell 8 rfl) (.cons (ix_own (j := j) hrow (by kernel_rfl) (by kernel_rfl) rfl hj) (.cons (hcell) .nil))) fun a hS => ?_
      refine eff_call wide_wide (r := 0) (f := 67) (vs := [.pointer (some ⟨q.rb, 0, none⟩)]) (cap := #[]) (d := (some 46)) hS (by kernel_rfl) Try.call67 #[.pointer (some ⟨q.rb, 0, none⟩)] (by kernel_rfl) (ih q hqm (hF.mem hr hqm) w1 (hF.ext0 hEx)) ?_
      rintro _ w2 ⟨rfl, hE12⟩
      refine ⟨_, rfl, fun a hS => ?_⟩
      have hE14 := hEx.trans0 hE12
      have hB15 := hB1.ext hE12 (by simp)
      refine seg_end ?_
      refine hK13 _ _ ?_
      refine cond_b hS rfl (fun hb16 => ?_) (fun hb16 => ?_)
      · -- q.t.fl is true
        replace hb16 := hb16
        refine wpIn_seq_k fun K17 hK17 => ?_
        refine region 1 (by kernel_rfl) ?_
        refine seg wide_wide [.p] [0, 3, 2] [] [(0, .pointer (some ⟨r.rb, 0, none⟩)), (3, .int .i64 ↑j), (2, .bool true)] 1 0 hS (by kernel_rfl) (by kernel_rfl) (by kernel_rfl) .nil fun a hS => ?_
        refine seg_end ?_
        refine hK17 _ _ ?_
        refine wpIn_ret ?_
        refine inBlock_ret ?_
        refine then_ret ?_
        refine then_ret ?_
        refine inBlock_ret ?_
        refine then_ret ?_
        refine ret1 hS Try.results67 rfl ?_
        exact ⟨by rw [hfl, anyF_of_mem hqm hb16], hE14⟩
      · -- q.t.fl is false
        replace hb16 := hb16
        refine wpIn_skip ?_
        refine inBlock_normal ?_
        refine hK12 _ _ ?_
        refine region 3 (by kernel_rfl) ?_
        refine seg wide_wide [.p, .as (.int .i64 (↑j + 1)), .p] [0, 3] [Value.int .i64 (IntKind.i64.wrap (↑j + 1)) = .int .i64 (↑j + 1)] [(0, .pointer (some ⟨r.rb, 0, none⟩)), (3, .int .i64 (↑j + 1))] 3 0 hS (by kernel_rfl) (by kernel_rfl) (by kernel_rfl) (.cons (as_i64 (by omega)) .nil) fun a hS => ?_
        refine seg_end ?_
        exact ⟨j + 1, ⟨hS.keepTo [0, 3] (by kernel_rfl), by omega, hE14, by rw [hsn, hno, hb16]; rfl⟩, by omega⟩
    · -- decide ((↑j : Int) < ↑r.kids.length) is false
      replace hb11 := of_decide_eq_false hb11
      obtain rfl : j = r.kids.length := by omega
      rw [List.take_length] at hno
      refine wpIn_exit ?_
      refine then_exit ?_
      refine then_exit ?_
      refine inBlock_hit ?_
      refine hK7 _ _ ?_
      refine wpIn_seq_k fun K18 hK18 => ?_
      refine region 1 (by kernel_rfl) ?_
      refine seg wide_wide [.p] [0, 2] [] [(0, .pointer (some ⟨r.rb, 0, none⟩)), (2, .bool false)] 1 0 hS (by kernel_rfl) (by kernel_rfl) (by kernel_rfl) .nil fun a hS => ?_
      refine seg_end ?_
      refine hK18 _ _ ?_
      refine wpIn_ret ?_
      refine ret1 hS Try.results67 rfl ?_
      exact ⟨by rw [hfl, hno], hEx⟩
  · -- an alternative
    have hkd : r.t.kd ≠ 1 := by omega
    have hfl := (hone.ok.nums.inner hkd).2.2.2.2.2.2.2.2.2.2
    rw [hone.kt] at hfl
    replace hfl : r.t.fl = anyF (r.kids.map Rf.t) := by
      rw [hfl]
      simp [hk.2.1, hk.2.2]
    refine region 26 (by kernel_rfl) ?_
    refine seg wide_wide [.p, .p, .p, .ld (.int .i64 r.t.kd), .as (.bool false), .p, .p, .p, .p, .ld (.int .i64 r.t.kd), .as (.bool false), .p, .p, .p, .p, .p, .ld (.int .i64 r.t.kd), .as (.bool false), .p, .no, .no, .no, .no, .no, .p, .p] [0, 2, 29] [w.cell? ⟨r.rb, 2, none⟩ = some (.int .i64 r.t.kd), Value.bool (((r.t.kd : Int) == 3)) = .bool false, w.cell? ⟨r.rb, 2, none⟩ = some (.int .i64 r.t.kd), Value.bool (((r.t.kd : Int) == 5)) = .bool false, w.cell? ⟨r.rb, 2, none⟩ = some (.int .i64 r.t.kd), Value.bool (((r.t.kd : Int) == 1)) = .bool false] [(0, .pointer (some ⟨r.rb, 0, none⟩)), (2, .bool false), (29, .bool false)] 26 0 hS (by kernel_rfl) (by kernel_rfl) (by kernel_rfl) (.cons (hB.cell 2 rfl) (.cons (as_eq_f (by omega)) (.cons (hB.cell 2 rfl) (.cons (as_eq_f (by omega)) (.cons (hB.cell 2 rfl) (.cons (as_eq_f (by omega)) .nil)))))) fun a hS => ?_
    refine seg_end ?_
    refine hK3 _ _ ?_
    refine cond_f hS rfl ?_
    refine wpIn_skip ?_
    refine hK2 _ _ ?_
    refine wpIn_seq_k fun K19 hK19 => ?_
    refine wpIn_seq_k fun K20 hK20 => ?_
    refine region 1 (by kernel_rfl) ?_
    refine seg wide_wide [.p] [0, 2, 29, 3] [] [(0, .pointer (some ⟨r.rb, 0, none⟩)), (2, .bool false), (29, .bool false), (3, .int .i64 0)] 1 0 hS (by kernel_rfl) (by kernel_rfl) (by kernel_rfl) .nil fun a hS => ?_
    refine seg_end ?_
    refine hK20 _ _ ?_
    refine wpIn_block ?_
    refine loop_ghost (fun (j : Nat) a' w' => St 47 [] [(0, .pointer (some ⟨r.rb, 0, none⟩)), (3, .int .i64 ↑j)] a' ∧ j ≤ r.kids.length ∧ Ext [] w w' ∧ anyF ((r.kids.take j).map Rf.t) = false) (fun (j : Nat) => r.kids.length - j) 0 ⟨hS.keepTo [0, 3] (by kernel_rfl), Nat.zero_le _, hE0, by simp [anyF]⟩ ?_
    rintro j a w1 ⟨hS, hjl, hEx, hno⟩
    have hB1 := hB.ext hEx (by simp)
    refine wpIn_seq_k fun K21 hK21 => ?_
    refine wpIn_seq_k fun K22 hK22 => ?_
    refine region 7 (by kernel_rfl) ?_
    refine seg wide_wide [.p, .p, .p, .p, .ld (r.kv), .run (.int .i64 ↑r.kids.length), .p] [0, 3, 36] [w1.cell? ⟨r.rb, 8, none⟩ = some (r.kv), Sem.run Try.prog (vS (Builtin.len_ #[33] 3 #[r.kv])) w1 = .ok (.value (.int .i64 ↑r.kids.length)) w1] [(0, .pointer (some ⟨r.rb, 0, none⟩)), (3, .int .i64 ↑j), (36, .bool (decide ((↑j : Int) < ↑r.kids.length)))] 7 0 hS (by kernel_rfl) (by kernel_rfl) (by kernel_rfl) (.cons (hB1.cell 8 rfl) (.cons (run_len_own hrow (by kernel_rfl)) .nil)) fun a hS => ?_
    refine seg_end ?_
    refine hK22 _ _ ?_
    refine cond_b hS rfl (fun hb23 => ?_) (fun hb23 => ?_)
    · -- decide ((↑j : Int) < ↑r.kids.length) is true
      replace hb23 := of_decide_eq_true hb23
      have hj : j < r.kids.length := by omega
      obtain ⟨q, hq⟩ : ∃ q, r.kids[j]? = some q := ⟨_, List.getElem?_eq_getElem hj⟩
      have hqm : q ∈ r.kids := List.mem_of_getElem? hq
      have htake := rf_take_succ hq
      have hs1 := hst j
      have hs2 := hst (j + 1)
      have hqt := hF.tt (hF.mem hr hqm)
      have hcell : w1.cell? ⟨bof r.kv, 0 + j * 1, none⟩ = some q.ptr := by
        rw [show 0 + j * 1 = j by omega]
        exact (hrow.ext hEx (by simp)).cellAt j (by simp [hq])
      have hsn : anyF ((r.kids.take (j + 1)).map Rf.t) = (anyF ((r.kids.take j).map Rf.t) || q.t.fl) := by rw [htake, List.map_append]; exact anyF_snoc _ _
      refine wpIn_skip ?_
      refine hK21 _ _ ?_
      refine wpIn_seq_k fun K24 hK24 => ?_
      refine wpIn_block ?_
      refine wpIn_seq_k fun K25 hK25 => ?_
      refine region 8 (by kernel_rfl) ?_
      refine seg wide_wide [.p, .p, .p, .ld (r.kv), .p, .run (.pointer (some ⟨bof r.kv, 0 + j * 1, none⟩)), .ld (.pointer (some ⟨q.rb, 0, none⟩))] [0, 3, 45] [w1.cell? ⟨r.rb, 8, none⟩ = some (r.kv), Sem.run Try.prog (vS (Instr.indexAt 33 (r.kv) (.int .i64 ↑j))) w1 = .ok (.value (.pointer (some ⟨bof r.kv, 0 + j * 1, none⟩))) w1, w1.cell? ⟨bof r.kv, 0 + j * 1, none⟩ = some (.pointer (some ⟨q.rb, 0, none⟩))] [(0, .pointer (some ⟨r.rb, 0, none⟩)), (3, .int .i64 ↑j), (45, .pointer (some ⟨q.rb, 0, none⟩))] 7 1 hS (by kernel_rfl) (by kernel_rfl) (by kernel_rfl) (.cons (hB1.cell 8 rfl) (.cons (ix_own (j := j) hrow (by kernel_rfl) (by kernel_rfl) rfl hj) (.cons (hcell) .nil))) fun a hS => ?_
      refine eff_call wide_wide (r := 0) (f := 67) (vs := [.pointer (some ⟨q.rb, 0, none⟩)]) (cap := #[]) (d := (some 46)) hS (by kernel_rfl) Try.call67 #[.pointer (some ⟨q.rb, 0, none⟩)] (by kernel_rfl) (ih q hqm (hF.mem hr hqm) w1 (hF.ext0 hEx)) ?_
      rintro _ w2 ⟨rfl, hE12⟩
      refine ⟨_, rfl, fun a hS => ?_⟩
      have hE26 := hEx.trans0 hE12
      have hB27 := hB1.ext hE12 (by simp)
      refine seg_end ?_
      refine hK25 _ _ ?_
      refine cond_b hS rfl (fun hb28 => ?_) (fun hb28 => ?_)
      · -- q.t.fl is true
        replace hb28 := hb28
        refine wpIn_seq_k fun K29 hK29 => ?_
        refine region 1 (by kernel_rfl) ?_
        refine seg wide_wide [.p] [0, 3, 2] [] [(0, .pointer (some ⟨r.rb, 0, none⟩)), (3, .int .i64 ↑j), (2, .bool true)] 1 0 hS (by kernel_rfl) (by kernel_rfl) (by kernel_rfl) .nil fun a hS => ?_
        refine seg_end ?_
        refine hK29 _ _ ?_
        refine wpIn_ret ?_
        refine inBlock_ret ?_
        refine then_ret ?_
        refine then_ret ?_
        refine inBlock_ret ?_
        refine then_ret ?_
        refine ret1 hS Try.results67 rfl ?_
        exact ⟨by rw [hfl, anyF_of_mem hqm hb28], hE26⟩
      · -- q.t.fl is false
        replace hb28 := hb28
        refine wpIn_skip ?_
        refine inBlock_normal ?_
        refine hK24 _ _ ?_
        refine region 3 (by kernel_rfl) ?_
        refine seg wide_wide [.p, .as (.int .i64 (↑j + 1)), .p] [0, 3] [Value.int .i64 (IntKind.i64.wrap (↑j + 1)) = .int .i64 (↑j + 1)] [(0, .pointer (some ⟨r.rb, 0, none⟩)), (3, .int .i64 (↑j + 1))] 3 0 hS (by kernel_rfl) (by kernel_rfl) (by kernel_rfl) (.cons (as_i64 (by omega)) .nil) fun a hS => ?_
        refine seg_end ?_
        exact ⟨j + 1, ⟨hS.keepTo [0, 3] (by kernel_rfl), by omega, hE26, by rw [hsn, hno, hb28]; rfl⟩, by omega⟩
    · -- decide ((↑j : Int) < ↑r.kids.length) is false
      replace hb23 := of_decide_eq_false hb23
      obtain rfl : j = r.kids.length := by omega
      rw [List.take_length] at hno
      refine wpIn_exit ?_
      refine then_exit ?_
      refine then_exit ?_
      refine inBlock_hit ?_
      refine hK19 _ _ ?_
      refine wpIn_seq_k fun K30 hK30 => ?_
      refine region 1 (by kernel_rfl) ?_
      refine seg wide_wide [.p] [0, 2] [] [(0, .pointer (some ⟨r.rb, 0, none⟩)), (2, .bool false)] 1 0 hS (by kernel_rfl) (by kernel_rfl) (by kernel_rfl) .nil fun a hS => ?_
      refine seg_end ?_
      refine hK30 _ _ ?_
      refine wpIn_ret ?_
      refine ret1 hS Try.results67 rfl ?_
      exact ⟨by rw [hfl, hno], hEx⟩

end Go.Proofs.Ytpglmeeledmkoaa
