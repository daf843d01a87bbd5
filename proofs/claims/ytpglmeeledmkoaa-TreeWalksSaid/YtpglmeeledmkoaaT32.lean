import Derived.Test.YtpglmeeledmkoaaProg
import Derived.Test.YtpglmeeledmkoaaVc
import Derived.Test.YtpglmeeledmkoaaT31
import Derived.Test.YtpglmeeledmkoaaT31l
namespace Go.Proofs.Ytpglmeeledmkoaa
open Go.Vc

set_option maxHeartbeats 2000000 in
theorem TreeWalks_any {v : Value} {l : List Sx} {stop : Int} {w : World} (hs : Scr w v l) :
    Calls Try.prog 4 #[v, .int .i64 stop] w fun e w' => e = .returned (.bool true) ∧ Ext [] w w' := by
  have hmax := hs.max
  refine calls_body 64 [(0, v), (1, .int .i64 stop)] Try.func4 rfl (by kernel_rfl) (by kernel_rfl) (by kernel_rfl) fun a hS => ?_
  have hE0 : Ext [] w w := Ext.refl _ _
  refine wpIn_seq_k fun K1 hK1 => ?_
  refine region 1 (by kernel_rfl) ?_
  refine seg wide_wide [.p] [0, 1, 4] [] [(0, v), (1, .int .i64 stop), (4, .bool false)] 1 0 hS (by kernel_rfl) (by kernel_rfl) (by kernel_rfl) .nil fun a hS => ?_
  refine seg_end ?_
  refine hK1 _ _ ?_
  refine wpIn_seq_k fun K2 hK2 => ?_
  refine region 7 (by kernel_rfl) ?_
  refine seg wide_wide [.p] [0, 1, 4, 12] [] [(0, v), (1, .int .i64 stop), (4, .bool false), (12, v)] 1 6 hS (by kernel_rfl) (by kernel_rfl) (by kernel_rfl) .nil fun a hS => ?_
  refine eff_call wide_wide (r := 5) (f := 12) (vs := [v]) (cap := #[]) (d := (some 13)) hS (by kernel_rfl) Try.call12 #[v] (by kernel_rfl) (Grown_any hs) ?_
  rintro _ w1 ⟨F, rfl, hF, hE1⟩
  refine ⟨_, rfl, fun a hS => ?_⟩
  have hcb := hF.cb
  refine seg wide_wide [.p, .p, .p, .p, .p] [0, 1, 4, 5, 6] [] [(0, v), (1, .int .i64 stop), (4, .bool false), (5, .pointer (some ⟨F.fb, 0, none⟩)), (6, .bool true)] 7 0 hS (by kernel_rfl) (by kernel_rfl) (by kernel_rfl) .nil fun a hS => ?_
  refine seg_end ?_
  refine hK2 _ _ ?_
  refine wpIn_seq_k fun K3 hK3 => ?_
  refine wpIn_seq_k fun K4 hK4 => ?_
  refine region 2 (by kernel_rfl) ?_
  refine seg wide_wide [.p, .p] [0, 1, 4, 5, 6, 17] [] [(0, v), (1, .int .i64 stop), (4, .bool false), (5, .pointer (some ⟨F.fb, 0, none⟩)), (6, .bool true), (17, .bool false)] 2 0 hS (by kernel_rfl) (by kernel_rfl) (by kernel_rfl) .nil fun a hS => ?_
  refine seg_end ?_
  refine hK4 _ _ ?_
  refine cond_f hS rfl ?_
  refine wpIn_skip ?_
  refine hK3 _ _ ?_
  refine wpIn_seq_k fun K5 hK5 => ?_
  refine region 3 (by kernel_rfl) ?_
  refine seg wide_wide [.p] [0, 1, 4, 5, 6, 17, 18] [] [(0, v), (1, .int .i64 stop), (4, .bool false), (5, .pointer (some ⟨F.fb, 0, none⟩)), (6, .bool true), (17, .bool false), (18, .pointer (some ⟨F.fb, 0, none⟩))] 1 2 hS (by kernel_rfl) (by kernel_rfl) (by kernel_rfl) .nil fun a hS => ?_
  refine eff_call wide_wide (r := 1) (f := 13) (vs := [.pointer (some ⟨F.fb, 0, none⟩)]) (cap := #[]) (d := (some 19)) hS (by kernel_rfl) Try.call13 #[.pointer (some ⟨F.fb, 0, none⟩)] (by kernel_rfl) (Last_any hF (by omega)) ?_
  rintro _ wL ⟨hwL, hlast⟩
  rw [hwL]
  rcases hlast with ⟨i, r, rfl, hr, hsz⟩ | rfl
  · -- an alternative
    refine ⟨_, rfl, fun a hS => ?_⟩
    have hi : i < F.L.length := (List.getElem?_eq_some_iff.1 hr).1
    have hrm := List.mem_of_getElem? hr
    have hrowr := (hF.ok.one r hrm).row
    have hBr : Blk w1 r.rb 40 #[.int .i64 r.k, .int .i64 ↑r.i, .int .i64 r.t.kd, .int .i64 r.t.nn, .int .i64 r.t.lk, .int .i64 r.t.ls, .int .i64 r.t.ll, .int .i64 r.t.lr, r.kv, .int .i64 r.t.tt] := (hF.ok.one r hrm).blk
    have hTr : Blk w1 r.t.b 106 #[.pointer (some ⟨(sOf F.s0 F.s1 r.k), 0, none⟩), .int .i64 r.t.num, .int .i64 r.t.kd, .int .i64 r.t.nn, .int .i64 r.t.lk, .int .i64 r.t.ls, .int .i64 r.t.ll, .int .i64 r.t.lr, r.t.ks, .int .i64 r.t.wd, .int .i64 r.t.lf, .int .i64 r.t.tt, .bool r.t.fl] := (hF.ok.one r hrm).ok.blk
    refine seg wide_wide [.p] [0, 1, 4, 5, 6, 17, 7] [] [(0, v), (1, .int .i64 stop), (4, .bool false), (5, .pointer (some ⟨F.fb, 0, none⟩)), (6, .bool true), (17, .bool false), (7, .int .i64 ↑i)] 3 0 hS (by kernel_rfl) (by kernel_rfl) (by kernel_rfl) .nil fun a hS => ?_
    refine seg_end ?_
    refine hK5 _ _ ?_
    refine wpIn_seq_k fun K6 hK6 => ?_
    refine wpIn_seq_k fun K7 hK7 => ?_
    refine region 2 (by kernel_rfl) ?_
    refine seg wide_wide [.p, .as (.bool false)] [0, 1, 4, 5, 6, 17, 7, 21] [Value.bool (decide ((↑i : Int) < 0)) = .bool false] [(0, v), (1, .int .i64 stop), (4, .bool false), (5, .pointer (some ⟨F.fb, 0, none⟩)), (6, .bool true), (17, .bool false), (7, .int .i64 ↑i), (21, .bool false)] 2 0 hS (by kernel_rfl) (by kernel_rfl) (by kernel_rfl) (.cons (as_f (by omega)) .nil) fun a hS => ?_
    refine seg_end ?_
    refine hK7 _ _ ?_
    refine cond_f hS rfl ?_
    refine wpIn_skip ?_
    refine hK6 _ _ ?_
    refine wpIn_seq_k fun K8 hK8 => ?_
    refine region 9 (by kernel_rfl) ?_
    refine seg wide_wide [.p, .p, .p, .ld (.slice F.qb F.L.length F.qc), .p, .run (.pointer (some ⟨bof (.slice F.qb F.L.length F.qc), 0 + i * 1, none⟩)), .ld (.pointer (some ⟨r.rb, 0, none⟩))] [0, 1, 4, 5, 6, 17, 7, 21, 28] [w1.cell? ⟨F.fb, 3, none⟩ = some (.slice F.qb F.L.length F.qc), Sem.run Try.prog (vS (Instr.indexAt 33 (.slice F.qb F.L.length F.qc) (.int .i64 ↑i))) w1 = .ok (.value (.pointer (some ⟨bof (.slice F.qb F.L.length F.qc), 0 + i * 1, none⟩))) w1, w1.cell? ⟨bof (.slice F.qb F.L.length F.qc), 0 + i * 1, none⟩ = some (.pointer (some ⟨r.rb, 0, none⟩))] [(0, v), (1, .int .i64 stop), (4, .bool false), (5, .pointer (some ⟨F.fb, 0, none⟩)), (6, .bool true), (17, .bool false), (7, .int .i64 ↑i), (21, .bool false), (28, .pointer (some ⟨r.rb, 0, none⟩))] 7 2 hS (by kernel_rfl) (by kernel_rfl) (by kernel_rfl) (.cons ((hF.f).cell 3 rfl) (.cons (ix_own (j := i) (hF.R) (by kernel_rfl) (by kernel_rfl) rfl hi) (.cons ((hF.R).cellAt _ (by simp [hr, Rf.ptr])) .nil))) fun a hS => ?_
    refine eff_call wide_wide (r := 1) (f := 14) (vs := [.pointer (some ⟨r.rb, 0, none⟩)]) (cap := #[]) (d := (some 29)) hS (by kernel_rfl) Try.call14 #[.pointer (some ⟨r.rb, 0, none⟩)] (by kernel_rfl) (RWalk_any hF.ok hrm) ?_
    rintro _ w14 ⟨lw, gw, cw, rfl, hlw, hOw, hE14, hgw, hpw⟩
    refine ⟨_, rfl, fun a hS => ?_⟩
    have hE2 := hE1.trans0 hE14
    have hB9 := hF.f.ext hE14 (by simp)
    have hB10 := hF.P.ext hE14 (by simp)
    have hB11 := hF.R.ext hE14 (by simp)
    have hB12 := hBr.ext hE14 (by simp)
    have hB13 := hTr.ext hE14 (by simp)
    have hF2 := hF.ext0 hE14
    have hwk := rwalk_walk hF.ok r hrm 0 []
    have htt := hF.ok.tt hrm
    have hwl := walk_len r.t (hF.ok.one r hrm).ok 0
    have hxs : lw.map (fun q => (q.1.at_, q.1.r.t)) = walk r.t 0 := by rw [← hwk.1, ← hlw, List.map_map]; rfl
    have hlen : lw.length = (walk r.t 0).length := by rw [← hxs, List.length_map]
    have hin : ∀ q ∈ lw, q.1.r ∈ F.L := fun q hq => hwk.2 q.1 (by rw [← hlw]; exact List.mem_map.2 ⟨q, hq, rfl⟩)
    refine seg wide_wide [.p] [0, 1, 4, 5, 6, 17, 7, 21, 8] [] [(0, v), (1, .int .i64 stop), (4, .bool false), (5, .pointer (some ⟨F.fb, 0, none⟩)), (6, .bool true), (17, .bool false), (7, .int .i64 ↑i), (21, .bool false), (8, .slice (some ⟨gw, 0, none⟩) lw.length cw)] 9 0 hS (by kernel_rfl) (by kernel_rfl) (by kernel_rfl) .nil fun a hS => ?_
    refine seg_end ?_
    refine hK8 _ _ ?_
    refine wpIn_seq_k fun K14 hK14 => ?_
    refine region 1 (by kernel_rfl) ?_
    refine seg wide_wide [.p] [0, 1, 4, 5, 6, 17, 7, 21, 8, 9] [] [(0, v), (1, .int .i64 stop), (4, .bool false), (5, .pointer (some ⟨F.fb, 0, none⟩)), (6, .bool true), (17, .bool false), (7, .int .i64 ↑i), (21, .bool false), (8, .slice (some ⟨gw, 0, none⟩) lw.length cw), (9, .slice none 0 0)] 1 0 hS (by kernel_rfl) (by kernel_rfl) (by kernel_rfl) .nil fun a hS => ?_
    refine seg_end ?_
    refine hK14 _ _ ?_
    refine wpIn_seq_k fun K15 hK15 => ?_
    refine wpIn_seq_k fun K16 hK16 => ?_
    refine region 1 (by kernel_rfl) ?_
    refine seg wide_wide [.p] [0, 1, 4, 5, 6, 17, 7, 21, 8, 9, 10] [] [(0, v), (1, .int .i64 stop), (4, .bool false), (5, .pointer (some ⟨F.fb, 0, none⟩)), (6, .bool true), (17, .bool false), (7, .int .i64 ↑i), (21, .bool false), (8, .slice (some ⟨gw, 0, none⟩) lw.length cw), (9, .slice none 0 0), (10, .int .i64 0)] 1 0 hS (by kernel_rfl) (by kernel_rfl) (by kernel_rfl) .nil fun a hS => ?_
    refine seg_end ?_
    refine hK16 _ _ ?_
    refine wpIn_block ?_
    refine loop_ghost (fun ((k, lf, lb, lc) : Nat × List (Sp × Value) × Option Addr × Nat) a' w' => St 64 [] [(1, .int .i64 stop), (5, .pointer (some ⟨F.fb, 0, none⟩)), (7, .int .i64 ↑i), (8, .slice (some ⟨gw, 0, none⟩) lw.length cw), (9, .slice lb lf.length lc), (10, .int .i64 ↑k)] a' ∧ k ≤ lw.length ∧ lf = (lw.take k).filter (fun q => isLeaf (q.1.at_, q.1.r.t)) ∧ OwnV w' 43 3 (.slice lb lf.length lc) lf.length (spc lf) ∧ (∀ x ∈ oa lb, w14.heap.size ≤ x) ∧ Ext [] w14 w' ∧ Ext [] w w') (fun ((k, lf, lb, lc) : Nat × List (Sp × Value) × Option Addr × Nat) => lw.length - k) (0, [], none, 0) ⟨hS.keepTo [1, 5, 7, 8, 9, 10] (by kernel_rfl), Nat.zero_le _, by simp, .inl ⟨rfl, rfl, rfl⟩, (fun x hx => by cases hx), Ext.refl _ _, hE2⟩ ?_
    rintro ⟨k, lf, lb, lc⟩ a w3 ⟨hS, hkl, hlf, hlO, hln, hE23, hEx⟩
    have hF3 := hF2.ext0 hE23
    have hOw3 := hOw.ext hE23 (by simp)
    have hlfl : lf.length ≤ k := by rw [hlf]; exact Nat.le_trans (List.length_filter_le _ _) (by rw [List.length_take]; exact Nat.min_le_left _ _)
    refine wpIn_seq_k fun K17 hK17 => ?_
    refine wpIn_seq_k fun K18 hK18 => ?_
    refine region 4 (by kernel_rfl) ?_
    refine seg wide_wide [.p, .p, .p, .p] [1, 5, 7, 8, 9, 10, 33] [] [(1, .int .i64 stop), (5, .pointer (some ⟨F.fb, 0, none⟩)), (7, .int .i64 ↑i), (8, .slice (some ⟨gw, 0, none⟩) lw.length cw), (9, .slice lb lf.length lc), (10, .int .i64 ↑k), (33, .bool (decide ((↑k : Int) < ↑lw.length)))] 4 0 hS (by kernel_rfl) (by kernel_rfl) (by kernel_rfl) .nil fun a hS => ?_
    refine seg_end ?_
    refine hK18 _ _ ?_
    refine cond_b hS rfl (fun hb19 => ?_) (fun hb19 => ?_)
    · -- decide ((↑k : Int) < ↑lw.length) is true
      replace hb19 := of_decide_eq_true hb19
      have hk : k < lw.length := by omega
      obtain ⟨⟨sp, pv⟩, hsp⟩ : ∃ q, lw[k]? = some q := ⟨_, List.getElem?_eq_getElem hk⟩
      obtain ⟨pb, pc, hpv⟩ := (hpw _ (List.mem_of_getElem? hsp)).1.form
      simp only at hpv
      subst hpv
      have hqm := hin _ (List.mem_of_getElem? hsp)
      have htk : lw.take (k + 1) = lw.take k ++ [(sp, Value.slice pb sp.path.length pc)] := by
        rw [List.take_succ_eq_append_getElem hk, (List.getElem?_eq_some_iff.1 hsp).2]
      have hrowq := (hF3.ok.one sp.r hqm).row
      have hBq : Blk w3 sp.r.rb 40 #[.int .i64 sp.r.k, .int .i64 ↑sp.r.i, .int .i64 sp.r.t.kd, .int .i64 sp.r.t.nn, .int .i64 sp.r.t.lk, .int .i64 sp.r.t.ls, .int .i64 sp.r.t.ll, .int .i64 sp.r.t.lr, sp.r.kv, .int .i64 sp.r.t.tt] := (hF3.ok.one sp.r hqm).blk
      have hTq : Blk w3 sp.r.t.b 106 #[.pointer (some ⟨(sOf F.s0 F.s1 sp.r.k), 0, none⟩), .int .i64 sp.r.t.num, .int .i64 sp.r.t.kd, .int .i64 sp.r.t.nn, .int .i64 sp.r.t.lk, .int .i64 sp.r.t.ls, .int .i64 sp.r.t.ll, .int .i64 sp.r.t.lr, sp.r.t.ks, .int .i64 sp.r.t.wd, .int .i64 sp.r.t.lf, .int .i64 sp.r.t.tt, .bool sp.r.t.fl] := (hF3.ok.one sp.r hqm).ok.blk
      refine wpIn_skip ?_
      refine hK17 _ _ ?_
      refine wpIn_seq_k fun K20 hK20 => ?_
      refine wpIn_block ?_
      refine wpIn_seq_k fun K21 hK21 => ?_
      refine region 9 (by kernel_rfl) ?_
      refine seg wide_wide [.p, .p, .run (.pointer (some ⟨gw, 0 + k * 3, none⟩)), .p, .ld (.pointer (some ⟨sp.r.rb, 0, none⟩)), .p, .p, .ld (.int .i64 sp.r.t.kd), .p] [1, 5, 7, 8, 9, 10, 44] [Sem.run Try.prog (vS (Instr.indexAt 28 (.slice (some ⟨gw, 0, none⟩) lw.length cw) (.int .i64 ↑k))) w3 = .ok (.value (.pointer (some ⟨gw, 0 + k * 3, none⟩))) w3, w3.cell? ⟨gw, 0 + k * 3, none⟩ = some (.pointer (some ⟨sp.r.rb, 0, none⟩)), w3.cell? ⟨sp.r.rb, 2, none⟩ = some (.int .i64 sp.r.t.kd)] [(1, .int .i64 stop), (5, .pointer (some ⟨F.fb, 0, none⟩)), (7, .int .i64 ↑i), (8, .slice (some ⟨gw, 0, none⟩) lw.length cw), (9, .slice lb lf.length lc), (10, .int .i64 ↑k), (44, .bool ((sp.r.t.kd : Int) == 1))] 9 0 hS (by kernel_rfl) (by kernel_rfl) (by kernel_rfl) (.cons (ix_slice (E := 43) (size := 3) (j := k) (by kernel_rfl) (by kernel_rfl) rfl (by omega)) (.cons ((hOw3).cellAt _ (by have h := spc_at lw k 0 _ hsp (by omega); simpa [Rf.ptr] using h)) (.cons (hBq.cell 2 rfl) .nil))) fun a hS => ?_
      refine seg_end ?_
      refine hK21 _ _ ?_
      refine cond_b hS rfl (fun hb22 => ?_) (fun hb22 => ?_)
      · -- ((sp.r.t.kd : Int) == 1) is true
        replace hb22 := test_eq_t hb22
        have hlf2 : lf ++ [(sp, Value.slice pb sp.path.length pc)] = (lw.take (k + 1)).filter (fun q => isLeaf (q.1.at_, q.1.r.t)) := by rw [htk, List.filter_append, hlf]; congr 1; simp [isLeaf, hb22]
        refine region 8 (by kernel_rfl) ?_
        refine seg wide_wide [.p, .p, .p, .run (.pointer (some ⟨gw, 0 + k * 3, none⟩)), .lds [.pointer (some ⟨sp.r.rb, 0, none⟩), .int .i64 sp.at_, .slice pb sp.path.length pc]] [1, 5, 7, 8, 9, 10, 45, 49] [Sem.run Try.prog (vS (Instr.indexAt 28 (.slice (some ⟨gw, 0, none⟩) lw.length cw) (.int .i64 ↑k))) w3 = .ok (.value (.pointer (some ⟨gw, 0 + k * 3, none⟩))) w3, w3.cell? ⟨gw, 0 + k * 3, none⟩ = some (.pointer (some ⟨sp.r.rb, 0, none⟩)), w3.cell? ⟨gw, 0 + k * 3 + 1, none⟩ = some (.int .i64 sp.at_), w3.cell? ⟨gw, 0 + k * 3 + 2, none⟩ = some (.slice pb sp.path.length pc)] [(1, .int .i64 stop), (5, .pointer (some ⟨F.fb, 0, none⟩)), (7, .int .i64 ↑i), (8, .slice (some ⟨gw, 0, none⟩) lw.length cw), (9, .slice lb lf.length lc), (10, .int .i64 ↑k), (45, .slice lb lf.length lc), (49, .agg #[.pointer (some ⟨sp.r.rb, 0, none⟩), .int .i64 sp.at_, .slice pb sp.path.length pc])] 5 3 hS (by kernel_rfl) (by kernel_rfl) (by kernel_rfl) (.cons (ix_slice (E := 43) (size := 3) (j := k) (by kernel_rfl) (by kernel_rfl) rfl (by omega)) (.cons ((hOw3).cellAt _ (by have h := spc_at lw k 0 _ hsp (by omega); simpa [Rf.ptr] using h)) (.cons ((hOw3).cellAt _ (by have h := spc_at lw k 1 _ hsp (by omega); simpa [Rf.ptr] using h)) (.cons ((hOw3).cellAt _ (by have h := spc_at lw k 2 _ hsp (by omega); simpa [Rf.ptr] using h)) .nil)))) fun a hS => ?_
        refine eff_new wide_wide (r := 2) (cs := #[.pointer (some ⟨sp.r.rb, 0, none⟩), .int .i64 sp.at_, .slice pb sp.path.length pc]) (T := 43) (v := Value.slice (some ⟨w3.heap.size, 0, none⟩) 1 1) (d := (some 50)) hS (by kernel_rfl) fun a w23 hw24 hS => ?_
        have hn25 : gw ≠ w3.heap.size := Nat.ne_of_lt hOw3.lt
        have hn26 : ∀ x ∈ ob (.slice lb lf.length lc), w3.heap.size ≠ x := fun x hx => Nat.ne_of_gt (hlO.lie x hx)
        have hn27 : sp.r.rb ≠ w3.heap.size := Nat.ne_of_lt hBq.lt
        have hn28 : sp.r.t.b ≠ w3.heap.size := Nat.ne_of_lt hTq.lt
        have hB29 := OwnR.at' hw24 (hOw3.alloc _)
        have hB30 := OwnV.at' hw24 (hlO.alloc _)
        have hB31 := Blk.at' hw24 (hBq.alloc _)
        have hB32 := Blk.at' hw24 (hTq.alloc _)
        have hX33 : Ext [] w3 w23 := by rw [hw24]; exact (Ext.refl _ _).alloc _
        have hG34 : Ext [] w14 w23 := hE23.trans0 hX33
        have hB35 : Blk w23 (w3.heap.size) 43 #[.pointer (some ⟨sp.r.rb, 0, none⟩), .int .i64 sp.at_, .slice pb sp.path.length pc] := by rw [hw24]; exact Blk.new _ _ _
        have hs36 : w.heap.size ≤ w3.heap.size := hEx.size
        have hE37 : Ext [] w w23 := by rw [hw24]; exact hEx.alloc _
        have hEpre : Ext [] w3 w23 := by rw [hw24]; exact (Ext.refl _ _).alloc _
        refine eff_append2 wide_wide (r := 1) (d := (some 51)) (t := 28) (ty := 28) (e := 43) (size := 3) (bytes := 40) (len := lf.length) (b := w3.heap.size) (off := 0) (k := 1) (c := 1) (z := #[.pointer none, .int .i64 0, .slice none 0 0]) (v := Value.slice lb lf.length lc) (xs := (spc lf)) [.pointer (some ⟨sp.r.rb, 0, none⟩), .int .i64 sp.at_, .slice pb sp.path.length pc] hS (by kernel_rfl) (by kernel_rfl) (by kernel_rfl) (by kernel_rfl) (by kernel_rfl) hB30 (by simp) (fun j u hu => by rw [Nat.zero_add]; exact hB35.cell j (by simpa using hu)) rfl (by omega) (by omega) (by omega) fun ga38 ca38 a wa38 hOa38 hEa38 hFa38 hS => ?_
        have hB39 := hB29.ext hEa38 ((fun hm => by have h1 := hOw.lt; have h2 := hln gw (by rw [ob_oa] at hm; exact hm); omega))
        have hB40 := hB31.ext hEa38 (hB30.notin hB31 (by decide))
        have hB41 := hB32.ext hEa38 (hB30.notin hB32 (by decide))
        have hB42 := hB35.ext hEa38 (fun hm => hn26 _ hm rfl)
        have hE43 : Ext [] w wa38 := hE37.trans hEa38 (fun b hb => .inr (Nat.le_trans hE2.size (hln b (by rw [ob_oa] at hb; exact hb))))
        have hG44 : Ext [] w14 wa38 := hG34.trans hEa38 (fun b hb => .inr (hln b (by rw [ob_oa] at hb; exact hb)))
        refine seg wide_wide [.p] [1, 5, 7, 8, 9, 10] [] [(1, .int .i64 stop), (5, .pointer (some ⟨F.fb, 0, none⟩)), (7, .int .i64 ↑i), (8, .slice (some ⟨gw, 0, none⟩) lw.length cw), (9, .slice (some ⟨ga38, 0, none⟩) (lf.length + 1) ca38), (10, .int .i64 ↑k)] 8 0 hS (by kernel_rfl) (by kernel_rfl) (by kernel_rfl) .nil fun a hS => ?_
        refine seg_end ?_
        refine inBlock_normal ?_
        refine hK20 _ _ ?_
        refine region 3 (by kernel_rfl) ?_
        refine seg wide_wide [.p, .as (.int .i64 (↑k + 1)), .p] [1, 5, 7, 8, 9, 10] [Value.int .i64 (IntKind.i64.wrap (↑k + 1)) = .int .i64 (↑k + 1)] [(1, .int .i64 stop), (5, .pointer (some ⟨F.fb, 0, none⟩)), (7, .int .i64 ↑i), (8, .slice (some ⟨gw, 0, none⟩) lw.length cw), (9, .slice (some ⟨ga38, 0, none⟩) (lf.length + 1) ca38), (10, .int .i64 (↑k + 1))] 3 0 hS (by kernel_rfl) (by kernel_rfl) (by kernel_rfl) (.cons (as_i64 (by omega)) .nil) fun a hS => ?_
        refine seg_end ?_
        refine ⟨(k + 1, lf ++ [(sp, Value.slice pb sp.path.length pc)], some ⟨ga38, 0, none⟩, ca38), ⟨by rw [List.length_append]; exact hS.keepTo [1, 5, 7, 8, 9, 10] (by kernel_rfl), by omega, hlf2, ?_, ?_, hG44, hE43⟩, by simp; omega⟩
        · have h := (hOa38 : OwnR _ _ _ _ _ _ _).v
          rw [List.length_append, spc_append]
          simpa [spc, Rf.ptr] using h
        · intro x hx
          obtain rfl := (by have h := hx; simp [oa] at h; exact h.symm : ga38 = x)
          rcases hFa38 ga38 (by simp) with h | h
          · exact hln _ (by rw [ob_oa] at h; exact h)
          · exact Nat.le_trans hE23.size (Nat.le_trans hEpre.size h)
      · -- ((sp.r.t.kd : Int) == 1) is false
        replace hb22 := test_eq_f hb22
        have hlf2 : lf = (lw.take (k + 1)).filter (fun q => isLeaf (q.1.at_, q.1.r.t)) := by rw [htk, List.filter_append, hlf]; simp [isLeaf, hb22]
        refine wpIn_skip ?_
        refine inBlock_normal ?_
        refine hK20 _ _ ?_
        refine region 3 (by kernel_rfl) ?_
        refine seg wide_wide [.p, .as (.int .i64 (↑k + 1)), .p] [1, 5, 7, 8, 9, 10] [Value.int .i64 (IntKind.i64.wrap (↑k + 1)) = .int .i64 (↑k + 1)] [(1, .int .i64 stop), (5, .pointer (some ⟨F.fb, 0, none⟩)), (7, .int .i64 ↑i), (8, .slice (some ⟨gw, 0, none⟩) lw.length cw), (9, .slice lb lf.length lc), (10, .int .i64 (↑k + 1))] 3 0 hS (by kernel_rfl) (by kernel_rfl) (by kernel_rfl) (.cons (as_i64 (by omega)) .nil) fun a hS => ?_
        refine seg_end ?_
        exact ⟨(k + 1, lf, lb, lc), ⟨hS.keepTo [1, 5, 7, 8, 9, 10] (by kernel_rfl), by omega, hlf2, hlO, hln, hE23, hEx⟩, by simp; omega⟩
    · -- decide ((↑k : Int) < ↑lw.length) is false
      replace hb19 := of_decide_eq_false hb19
      obtain rfl : k = lw.length := by omega
      rw [List.take_length] at hlf
      have hxl : lf.map (fun q => (q.1.at_, q.1.r.t)) = (walk r.t 0).filter isLeaf := by rw [hlf, ← hxs, List.filter_map]; rfl
      have hinl : ∀ q ∈ lf, q.1.r ∈ F.L := fun q hq => hin q (by rw [hlf] at hq; exact (List.mem_filter.1 hq).1)
      refine wpIn_exit ?_
      refine then_exit ?_
      refine then_exit ?_
      refine inBlock_hit ?_
      refine hK15 _ _ ?_
      refine wpIn_seq_k fun K45 hK45 => ?_
      refine region 13 (by kernel_rfl) ?_
      refine seg wide_wide [.p, .p, .p, .p] [1, 5, 7, 8, 9, 52, 53, 54, 55] [] [(1, .int .i64 stop), (5, .pointer (some ⟨F.fb, 0, none⟩)), (7, .int .i64 ↑i), (8, .slice (some ⟨gw, 0, none⟩) lw.length cw), (9, .slice lb lf.length lc), (52, .pointer (some ⟨F.fb, 0, none⟩)), (53, .int .i64 ↑i), (54, .slice (some ⟨gw, 0, none⟩) lw.length cw), (55, .int .i64 stop)] 4 9 hS (by kernel_rfl) (by kernel_rfl) (by kernel_rfl) .nil fun a hS => ?_
      refine eff_call wide_wide (r := 8) (f := 15) (vs := [.pointer (some ⟨F.fb, 0, none⟩), .int .i64 ↑i, .slice (some ⟨gw, 0, none⟩) lw.length cw, .bool false, .int .i64 stop]) (cap := #[]) (d := (some 56)) hS (by kernel_rfl) Try.call15 #[.pointer (some ⟨F.fb, 0, none⟩), .int .i64 ↑i, .slice (some ⟨gw, 0, none⟩) lw.length cw, .bool false, .int .i64 stop] (by kernel_rfl) (Walked_w (hF2.ext0 hE23) hr hOw3.v hxs hin (by omega)) ?_
      rintro _ w15 ⟨rfl, hE15⟩
      refine ⟨_, rfl, fun a hS => ?_⟩
      have hE15x := hEx.trans0 hE15
      have hB46 := hOw3.ext hE15 (by simp)
      have hB47 := hlO.ext hE15 (by simp)
      have hG48 : Ext [] w14 w15 := hE23.trans0 hE15
      refine seg wide_wide [.p, .p, .p, .p, .p] [1, 5, 7, 8, 9, 57, 58, 59, 60, 61] [] [(1, .int .i64 stop), (5, .pointer (some ⟨F.fb, 0, none⟩)), (7, .int .i64 ↑i), (8, .slice (some ⟨gw, 0, none⟩) lw.length cw), (9, .slice lb lf.length lc), (57, .bool true), (58, .pointer (some ⟨F.fb, 0, none⟩)), (59, .int .i64 ↑i), (60, .slice lb lf.length lc), (61, .int .i64 stop)] 10 3 hS (by kernel_rfl) (by kernel_rfl) (by kernel_rfl) .nil fun a hS => ?_
      refine eff_call wide_wide (r := 2) (f := 15) (vs := [.pointer (some ⟨F.fb, 0, none⟩), .int .i64 ↑i, .slice lb lf.length lc, .bool true, .int .i64 stop]) (cap := #[]) (d := (some 62)) hS (by kernel_rfl) Try.call15 #[.pointer (some ⟨F.fb, 0, none⟩), .int .i64 ↑i, .slice lb lf.length lc, .bool true, .int .i64 stop] (by kernel_rfl) (Walked_l (hF2.ext0 hG48) hr hB47 hxl hinl (by omega)) ?_
      rintro _ w15l ⟨rfl, hE15l⟩
      refine ⟨_, rfl, fun a hS => ?_⟩
      have hE15lx := hE15x.trans0 hE15l
      have hB49 := hB46.ext hE15l (by simp)
      have hB50 := hB47.ext hE15l (by simp)
      have hG51 : Ext [] w14 w15l := hG48.trans0 hE15l
      refine seg wide_wide [.p, .p] [1, 5, 7, 8, 9, 4] [] [(1, .int .i64 stop), (5, .pointer (some ⟨F.fb, 0, none⟩)), (7, .int .i64 ↑i), (8, .slice (some ⟨gw, 0, none⟩) lw.length cw), (9, .slice lb lf.length lc), (4, .bool true)] 13 0 hS (by kernel_rfl) (by kernel_rfl) (by kernel_rfl) .nil fun a hS => ?_
      refine seg_end ?_
      refine hK45 _ _ ?_
      refine wpIn_ret ?_
      refine ret1 hS Try.results4 rfl ?_
      exact ⟨rfl, hE15lx⟩
  · -- an alternative
    refine ⟨_, rfl, fun a hS => ?_⟩
    refine seg wide_wide [.p] [0, 1, 4, 5, 6, 17, 7] [] [(0, v), (1, .int .i64 stop), (4, .bool false), (5, .pointer (some ⟨F.fb, 0, none⟩)), (6, .bool true), (17, .bool false), (7, .int .i64 (-1))] 3 0 hS (by kernel_rfl) (by kernel_rfl) (by kernel_rfl) .nil fun a hS => ?_
    refine seg_end ?_
    refine hK5 _ _ ?_
    refine wpIn_seq_k fun K52 hK52 => ?_
    refine wpIn_seq_k fun K53 hK53 => ?_
    refine region 2 (by kernel_rfl) ?_
    refine seg wide_wide [.p, .p] [0, 1, 4, 5, 6, 17, 7, 21] [] [(0, v), (1, .int .i64 stop), (4, .bool false), (5, .pointer (some ⟨F.fb, 0, none⟩)), (6, .bool true), (17, .bool false), (7, .int .i64 (-1)), (21, .bool true)] 2 0 hS (by kernel_rfl) (by kernel_rfl) (by kernel_rfl) .nil fun a hS => ?_
    refine seg_end ?_
    refine hK53 _ _ ?_
    refine cond_t hS rfl ?_
    refine wpIn_seq_k fun K54 hK54 => ?_
    refine region 1 (by kernel_rfl) ?_
    refine seg wide_wide [.p] [0, 1, 4, 5, 6, 17, 7, 21] [] [(0, v), (1, .int .i64 stop), (4, .bool true), (5, .pointer (some ⟨F.fb, 0, none⟩)), (6, .bool true), (17, .bool false), (7, .int .i64 (-1)), (21, .bool true)] 1 0 hS (by kernel_rfl) (by kernel_rfl) (by kernel_rfl) .nil fun a hS => ?_
    refine seg_end ?_
    refine hK54 _ _ ?_
    refine wpIn_ret ?_
    refine then_ret ?_
    refine ret1 hS Try.results4 rfl ?_
    exact ⟨rfl, hE1⟩

end Go.Proofs.Ytpglmeeledmkoaa
