import Derived.Test.YtpglmeeledmkoaaProg
import Derived.Test.YtpglmeeledmkoaaVc
import Derived.Test.YtpglmeeledmkoaaT28
namespace Go.Proofs.Ytpglmeeledmkoaa
open Go.Vc

set_option maxHeartbeats 2000000 in
theorem TreeMakes_any {v : Value} {l : List Sx} {w : World} (hs : Scr w v l) :
    Calls Try.prog 7 #[v] w fun e w' => e = .returned (.bool true) ∧ Ext [] w w' := by
  have hmax := hs.max
  refine calls_body 62 [(0, v)] Try.func7 rfl (by kernel_rfl) (by kernel_rfl) (by kernel_rfl) fun a hS => ?_
  have hE0 : Ext [] w w := Ext.refl _ _
  refine wpIn_seq_k fun K1 hK1 => ?_
  refine region 1 (by kernel_rfl) ?_
  refine seg wide_wide [.p] [0, 2] [] [(0, v), (2, .bool false)] 1 0 hS (by kernel_rfl) (by kernel_rfl) (by kernel_rfl) .nil fun a hS => ?_
  refine seg_end ?_
  refine hK1 _ _ ?_
  refine wpIn_seq_k fun K2 hK2 => ?_
  refine region 6 (by kernel_rfl) ?_
  refine eff_call wide_wide (r := 5) (f := 12) (vs := [.slice none 0 0]) (cap := #[]) (d := (some 9)) hS (by kernel_rfl) Try.call12 #[.slice none 0 0] (by kernel_rfl) (Grown_any (l := []) (w := w) ⟨.inl ⟨none, 0, rfl, rfl, rfl⟩, fun s hs => (by cases hs), by simp⟩) ?_
  rintro _ w1 ⟨F0, rfl, hF0, hE1⟩
  refine ⟨_, rfl, fun a hS => ?_⟩
  refine seg wide_wide [.p, .p, .p, .p, .p] [0, 2, 3, 4] [] [(0, v), (2, .bool false), (3, .pointer (some ⟨F0.fb, 0, none⟩)), (4, .bool true)] 6 0 hS (by kernel_rfl) (by kernel_rfl) (by kernel_rfl) .nil fun a hS => ?_
  refine seg_end ?_
  refine hK2 _ _ ?_
  refine wpIn_seq_k fun K3 hK3 => ?_
  refine wpIn_seq_k fun K4 hK4 => ?_
  refine region 2 (by kernel_rfl) ?_
  refine seg wide_wide [.p, .p] [0, 2, 3, 4, 13] [] [(0, v), (2, .bool false), (3, .pointer (some ⟨F0.fb, 0, none⟩)), (4, .bool true), (13, .bool false)] 2 0 hS (by kernel_rfl) (by kernel_rfl) (by kernel_rfl) .nil fun a hS => ?_
  refine seg_end ?_
  refine hK4 _ _ ?_
  refine cond_f hS rfl ?_
  refine wpIn_skip ?_
  refine hK3 _ _ ?_
  refine wpIn_seq_k fun K5 hK5 => ?_
  refine wpIn_seq_k fun K6 hK6 => ?_
  refine region 1 (by kernel_rfl) ?_
  refine seg wide_wide [.p] [0, 2, 3, 4, 13, 5] [] [(0, v), (2, .bool false), (3, .pointer (some ⟨F0.fb, 0, none⟩)), (4, .bool true), (13, .bool false), (5, .int .i64 0)] 1 0 hS (by kernel_rfl) (by kernel_rfl) (by kernel_rfl) .nil fun a hS => ?_
  refine seg_end ?_
  refine hK6 _ _ ?_
  refine wpIn_block ?_
  refine loop_ghost (fun ((i, F) : Nat × Fo) a' w' => St 62 [] [(0, v), (3, .pointer (some ⟨F.fb, 0, none⟩)), (5, .int .i64 ↑i)] a' ∧ i ≤ l.length ∧ FI w.heap.size i w' F ∧ Ext [] w w') (fun ((i, F) : Nat × Fo) => l.length - i) (0, F0) ⟨hS.keepTo [0, 3, 5] (by kernel_rfl), Nat.zero_le _, hF0, hE1⟩ ?_
  rintro ⟨i, F⟩ a wi ⟨hS, hil, hFi, hEx⟩
  refine wpIn_seq_k fun K7 hK7 => ?_
  refine wpIn_seq_k fun K8 hK8 => ?_
  refine region 4 (by kernel_rfl) ?_
  refine seg wide_wide [.p, .p, .run (.int .i64 ↑l.length), .p] [0, 3, 5, 17] [Sem.run Try.prog (vS (Builtin.len_ #[23] 3 #[v])) wi = .ok (.value (.int .i64 ↑l.length)) wi] [(0, v), (3, .pointer (some ⟨F.fb, 0, none⟩)), (5, .int .i64 ↑i), (17, .bool (decide ((↑i : Int) < ↑l.length)))] 4 0 hS (by kernel_rfl) (by kernel_rfl) (by kernel_rfl) (.cons (run_len_rd (e := 68) hs.rd (by kernel_rfl)) .nil) fun a hS => ?_
  refine seg_end ?_
  refine hK8 _ _ ?_
  refine cond_b hS rfl (fun hb9 => ?_) (fun hb9 => ?_)
  · -- decide ((↑i : Int) < ↑l.length) is true
    replace hb9 := of_decide_eq_true hb9
    have hi : i < l.length := by omega
    obtain ⟨s, hsi⟩ : ∃ s, l[i]? = some s := ⟨_, List.getElem?_eq_getElem hi⟩
    have hss := hs.ok s (List.mem_of_getElem? hsi)
    have hrd := hs.rd.ext0 hEx
    have hcb := hFi.cb
    refine wpIn_skip ?_
    refine hK7 _ _ ?_
    refine wpIn_seq_k fun K10 hK10 => ?_
    refine wpIn_block ?_
    refine wpIn_seq_k fun K11 hK11 => ?_
    refine region 6 (by kernel_rfl) ?_
    refine seg wide_wide [.p, .p, .p, .ld (.slice F.pb F.L.length F.pc), .p, .p] [0, 3, 5, 6] [wi.cell? ⟨F.fb, 2, none⟩ = some (.slice F.pb F.L.length F.pc)] [(0, v), (3, .pointer (some ⟨F.fb, 0, none⟩)), (5, .int .i64 ↑i), (6, .int .i64 ↑F.L.length)] 6 0 hS (by kernel_rfl) (by kernel_rfl) (by kernel_rfl) (.cons ((hFi.f).cell 2 rfl) .nil) fun a hS => ?_
    refine seg_end ?_
    refine hK11 _ _ ?_
    refine wpIn_seq_k fun K12 hK12 => ?_
    refine region 22 (by kernel_rfl) ?_
    refine seg wide_wide [.p, .p, .p, .run (.pointer (some ⟨bof v, oof v + i * 9, none⟩)), .lds [.int .i64 s.sx, .bool s.isl, .int .i64 s.lk, .int .i64 s.ls, .int .i64 s.ll, .int .i64 s.lr, .int .i64 s.kd, .int .i64 s.nn, s.ks]] [0, 3, 5, 6, 25, 29] [Sem.run Try.prog (vS (Instr.indexAt 23 (v) (.int .i64 ↑i))) wi = .ok (.value (.pointer (some ⟨bof v, oof v + i * 9, none⟩))) wi, wi.cell? ⟨bof v, oof v + i * 9, none⟩ = some (.int .i64 s.sx), wi.cell? ⟨bof v, oof v + i * 9 + 1, none⟩ = some (.bool s.isl), wi.cell? ⟨bof v, oof v + i * 9 + 2, none⟩ = some (.int .i64 s.lk), wi.cell? ⟨bof v, oof v + i * 9 + 3, none⟩ = some (.int .i64 s.ls), wi.cell? ⟨bof v, oof v + i * 9 + 4, none⟩ = some (.int .i64 s.ll), wi.cell? ⟨bof v, oof v + i * 9 + 5, none⟩ = some (.int .i64 s.lr), wi.cell? ⟨bof v, oof v + i * 9 + 6, none⟩ = some (.int .i64 s.kd), wi.cell? ⟨bof v, oof v + i * 9 + 7, none⟩ = some (.int .i64 s.nn), wi.cell? ⟨bof v, oof v + i * 9 + 8, none⟩ = some (s.ks)] [(0, v), (3, .pointer (some ⟨F.fb, 0, none⟩)), (5, .int .i64 ↑i), (6, .int .i64 ↑F.L.length), (25, .pointer (some ⟨F.fb, 0, none⟩)), (29, .agg #[.int .i64 s.sx, .bool s.isl, .int .i64 s.lk, .int .i64 s.ls, .int .i64 s.ll, .int .i64 s.lr, .int .i64 s.kd, .int .i64 s.nn, s.ks])] 5 17 hS (by kernel_rfl) (by kernel_rfl) (by kernel_rfl) (.cons (ix_rd (e := 68) (j := i) hs.rd (by kernel_rfl) (by kernel_rfl) rfl hi) (.cons (hrd.cellAt (i * 9 + 0) (by omega) (scells_at l i 0 s hsi (by omega))) (.cons (hrd.cellAt (i * 9 + 1) (by omega) (scells_at l i 1 s hsi (by omega))) (.cons (hrd.cellAt (i * 9 + 2) (by omega) (scells_at l i 2 s hsi (by omega))) (.cons (hrd.cellAt (i * 9 + 3) (by omega) (scells_at l i 3 s hsi (by omega))) (.cons (hrd.cellAt (i * 9 + 4) (by omega) (scells_at l i 4 s hsi (by omega))) (.cons (hrd.cellAt (i * 9 + 5) (by omega) (scells_at l i 5 s hsi (by omega))) (.cons (hrd.cellAt (i * 9 + 6) (by omega) (scells_at l i 6 s hsi (by omega))) (.cons (hrd.cellAt (i * 9 + 7) (by omega) (scells_at l i 7 s hsi (by omega))) (.cons (hrd.cellAt (i * 9 + 8) (by omega) (scells_at l i 8 s hsi (by omega))) .nil)))))))))) fun a hS => ?_
    refine eff_call wide_wide (r := 16) (f := 34) (vs := [.pointer (some ⟨F.fb, 0, none⟩), .agg #[.int .i64 s.sx, .bool s.isl, .int .i64 s.lk, .int .i64 s.ls, .int .i64 s.ll, .int .i64 s.lr, .int .i64 s.kd, .int .i64 s.nn, s.ks]]) (cap := #[]) (d := (some 30)) hS (by kernel_rfl) Try.call34 #[.pointer (some ⟨F.fb, 0, none⟩), .agg #[.int .i64 s.sx, .bool s.isl, .int .i64 s.lk, .int .i64 s.ls, .int .i64 s.ll, .int .i64 s.lr, .int .i64 s.kd, .int .i64 s.nn, s.ks]] (by kernel_rfl) (Step_any hFi hEx hss (by omega)) ?_
    rintro _ wj ⟨Fq, rfl, hFj, hfe, hL, hEj⟩
    rcases hL with hL | ⟨r, hL⟩
    · -- an alternative
      refine ⟨_, rfl, fun a hS => ?_⟩
      have hfbj : Blk wj F.fb 35 #[.pointer (some ⟨Fq.s0, 0, none⟩), .pointer (some ⟨Fq.s1, 0, none⟩), .slice Fq.pb Fq.L.length Fq.pc, .slice Fq.qb Fq.L.length Fq.qc, .slice Fq.bb Fq.bn Fq.bc] := hfe.1 ▸ hFj.f
      have hLl : Fq.L.length = F.L.length := by rw [hL]
      refine seg wide_wide [.p, .p, .p, .p, .p, .ld (.slice Fq.pb Fq.L.length Fq.pc), .p, .p, .as (.bool false), .p, .no, .no, .no, .no, .p, .p] [0, 3, 5, 6, 46] [wj.cell? ⟨F.fb, 2, none⟩ = some (.slice Fq.pb Fq.L.length Fq.pc), Value.bool (decide ((↑Fq.L.length : Int) > ↑F.L.length)) = .bool false] [(0, v), (3, .pointer (some ⟨F.fb, 0, none⟩)), (5, .int .i64 ↑i), (6, .int .i64 ↑F.L.length), (46, .bool false)] 22 0 hS (by kernel_rfl) (by kernel_rfl) (by kernel_rfl) (.cons (hfbj.cell 2 rfl) (.cons (as_f (by omega)) .nil)) fun a hS => ?_
      refine seg_end ?_
      refine hK12 _ _ ?_
      refine cond_f hS rfl ?_
      refine wpIn_skip ?_
      refine inBlock_normal ?_
      refine hK10 _ _ ?_
      refine region 3 (by kernel_rfl) ?_
      refine seg wide_wide [.p, .as (.int .i64 (↑i + 1)), .p] [0, 3, 5, 6, 46] [Value.int .i64 (IntKind.i64.wrap (↑i + 1)) = .int .i64 (↑i + 1)] [(0, v), (3, .pointer (some ⟨F.fb, 0, none⟩)), (5, .int .i64 (↑i + 1)), (6, .int .i64 ↑F.L.length), (46, .bool false)] 3 0 hS (by kernel_rfl) (by kernel_rfl) (by kernel_rfl) (.cons (as_i64 (by omega)) .nil) fun a hS => ?_
      refine seg_end ?_
      exact ⟨(i + 1, Fq), ⟨by rw [hfe.1]; exact hS.keepTo [0, 3, 5] (by kernel_rfl), by omega, hFj, hEj⟩, by simp; omega⟩
    · -- an alternative
      refine ⟨_, rfl, fun a hS => ?_⟩
      have hfbj : Blk wj F.fb 35 #[.pointer (some ⟨Fq.s0, 0, none⟩), .pointer (some ⟨Fq.s1, 0, none⟩), .slice Fq.pb Fq.L.length Fq.pc, .slice Fq.qb Fq.L.length Fq.qc, .slice Fq.bb Fq.bn Fq.bc] := hfe.1 ▸ hFj.f
      have hLl : Fq.L.length = F.L.length + 1 := by rw [hL]; simp
      refine seg wide_wide [.p, .p, .p, .p, .p, .ld (.slice Fq.pb Fq.L.length Fq.pc), .p, .p, .as (.bool true), .p, .p, .p] [0, 3, 5, 6, 32, 40, 41, 42] [wj.cell? ⟨F.fb, 2, none⟩ = some (.slice Fq.pb Fq.L.length Fq.pc), Value.bool (decide ((↑Fq.L.length : Int) > ↑F.L.length)) = .bool true] [(0, v), (3, .pointer (some ⟨F.fb, 0, none⟩)), (5, .int .i64 ↑i), (6, .int .i64 ↑F.L.length), (32, .bool false), (40, .bool true), (41, .pointer (some ⟨F.fb, 0, none⟩)), (42, .int .i64 ↑F.L.length)] 18 4 hS (by kernel_rfl) (by kernel_rfl) (by kernel_rfl) (.cons (hfbj.cell 2 rfl) (.cons (as_t (by omega)) .nil)) fun a hS => ?_
      refine eff_call wide_wide (r := 3) (f := 35) (vs := [.pointer (some ⟨F.fb, 0, none⟩), .int .i64 ↑F.L.length]) (cap := #[]) (d := (some 43)) hS (by kernel_rfl) Try.call35 #[.pointer (some ⟨F.fb, 0, none⟩), .int .i64 ↑F.L.length] (by kernel_rfl) ((by have h := Asked_any hFj (i := F.L.length) (r := r) (by rw [hL]; simp); rw [hfe.1] at h; exact h)) ?_
      rintro _ wk ⟨rfl, hE35⟩
      refine ⟨_, rfl, fun a hS => ?_⟩
      have hEk := hEj.trans0 hE35
      have hFk := hFj.ext0 hE35
      refine seg wide_wide [.p, .p, .p] [0, 3, 5, 6, 46] [] [(0, v), (3, .pointer (some ⟨F.fb, 0, none⟩)), (5, .int .i64 ↑i), (6, .int .i64 ↑F.L.length), (46, .bool false)] 22 0 hS (by kernel_rfl) (by kernel_rfl) (by kernel_rfl) .nil fun a hS => ?_
      refine seg_end ?_
      refine hK12 _ _ ?_
      refine cond_f hS rfl ?_
      refine wpIn_skip ?_
      refine inBlock_normal ?_
      refine hK10 _ _ ?_
      refine region 3 (by kernel_rfl) ?_
      refine seg wide_wide [.p, .as (.int .i64 (↑i + 1)), .p] [0, 3, 5, 6, 46] [Value.int .i64 (IntKind.i64.wrap (↑i + 1)) = .int .i64 (↑i + 1)] [(0, v), (3, .pointer (some ⟨F.fb, 0, none⟩)), (5, .int .i64 (↑i + 1)), (6, .int .i64 ↑F.L.length), (46, .bool false)] 3 0 hS (by kernel_rfl) (by kernel_rfl) (by kernel_rfl) (.cons (as_i64 (by omega)) .nil) fun a hS => ?_
      refine seg_end ?_
      exact ⟨(i + 1, Fq), ⟨by rw [hfe.1]; exact hS.keepTo [0, 3, 5] (by kernel_rfl), by omega, hFk, hEk⟩, by simp; omega⟩
  · -- decide ((↑i : Int) < ↑l.length) is false
    replace hb9 := of_decide_eq_false hb9
    obtain rfl : i = l.length := by omega
    refine wpIn_exit ?_
    refine then_exit ?_
    refine then_exit ?_
    refine inBlock_hit ?_
    refine hK5 _ _ ?_
    refine wpIn_seq_k fun K13 hK13 => ?_
    refine wpIn_seq_k fun K14 hK14 => ?_
    refine region 1 (by kernel_rfl) ?_
    refine seg wide_wide [.p] [0, 3, 7] [] [(0, v), (3, .pointer (some ⟨F.fb, 0, none⟩)), (7, .int .i64 0)] 1 0 hS (by kernel_rfl) (by kernel_rfl) (by kernel_rfl) .nil fun a hS => ?_
    refine seg_end ?_
    refine hK14 _ _ ?_
    refine wpIn_block ?_
    refine loop_ghost (fun (k : Nat) a' w' => St 62 [] [(3, .pointer (some ⟨F.fb, 0, none⟩)), (7, .int .i64 ↑k)] a' ∧ k ≤ F.L.length ∧ FI w.heap.size l.length w' F ∧ Ext [] w w') (fun (k : Nat) => F.L.length - k) 0 ⟨hS.keepTo [3, 7] (by kernel_rfl), Nat.zero_le _, hFi, hEx⟩ ?_
    rintro k a w2 ⟨hS, hkl, hF2, hEy⟩
    have hcb := hF2.cb
    refine wpIn_seq_k fun K15 hK15 => ?_
    refine wpIn_seq_k fun K16 hK16 => ?_
    refine region 7 (by kernel_rfl) ?_
    refine seg wide_wide [.p, .p, .p, .p, .ld (.slice F.pb F.L.length F.pc), .p, .p] [3, 7, 53] [w2.cell? ⟨F.fb, 2, none⟩ = some (.slice F.pb F.L.length F.pc)] [(3, .pointer (some ⟨F.fb, 0, none⟩)), (7, .int .i64 ↑k), (53, .bool (decide ((↑k : Int) < ↑F.L.length)))] 7 0 hS (by kernel_rfl) (by kernel_rfl) (by kernel_rfl) (.cons ((hF2.f).cell 2 rfl) .nil) fun a hS => ?_
    refine seg_end ?_
    refine hK16 _ _ ?_
    refine cond_b hS rfl (fun hb17 => ?_) (fun hb17 => ?_)
    · -- decide ((↑k : Int) < ↑F.L.length) is true
      replace hb17 := of_decide_eq_true hb17
      have hk : k < F.L.length := by omega
      obtain ⟨r, hr⟩ : ∃ r, F.L[k]? = some r := ⟨_, List.getElem?_eq_getElem hk⟩
      refine wpIn_skip ?_
      refine hK15 _ _ ?_
      refine wpIn_seq_k fun K18 hK18 => ?_
      refine wpIn_block ?_
      refine wpIn_seq_k fun K19 hK19 => ?_
      refine region 4 (by kernel_rfl) ?_
      refine seg wide_wide [.p, .p] [3, 7, 56, 57] [] [(3, .pointer (some ⟨F.fb, 0, none⟩)), (7, .int .i64 ↑k), (56, .pointer (some ⟨F.fb, 0, none⟩)), (57, .int .i64 ↑k)] 2 2 hS (by kernel_rfl) (by kernel_rfl) (by kernel_rfl) .nil fun a hS => ?_
      refine eff_call wide_wide (r := 1) (f := 35) (vs := [.pointer (some ⟨F.fb, 0, none⟩), .int .i64 ↑k]) (cap := #[]) (d := (some 58)) hS (by kernel_rfl) Try.call35 #[.pointer (some ⟨F.fb, 0, none⟩), .int .i64 ↑k] (by kernel_rfl) (Asked_any hF2 hr) ?_
      rintro _ wk ⟨rfl, hE35⟩
      refine ⟨_, rfl, fun a hS => ?_⟩
      have hEk := hEy.trans0 hE35
      have hFk := hF2.ext0 hE35
      refine seg wide_wide [.p] [3, 7, 59] [] [(3, .pointer (some ⟨F.fb, 0, none⟩)), (7, .int .i64 ↑k), (59, .bool false)] 4 0 hS (by kernel_rfl) (by kernel_rfl) (by kernel_rfl) .nil fun a hS => ?_
      refine seg_end ?_
      refine hK19 _ _ ?_
      refine cond_f hS rfl ?_
      refine wpIn_skip ?_
      refine inBlock_normal ?_
      refine hK18 _ _ ?_
      refine region 3 (by kernel_rfl) ?_
      refine seg wide_wide [.p, .as (.int .i64 (↑k + 1)), .p] [3, 7, 59] [Value.int .i64 (IntKind.i64.wrap (↑k + 1)) = .int .i64 (↑k + 1)] [(3, .pointer (some ⟨F.fb, 0, none⟩)), (7, .int .i64 (↑k + 1)), (59, .bool false)] 3 0 hS (by kernel_rfl) (by kernel_rfl) (by kernel_rfl) (.cons (as_i64 (by omega)) .nil) fun a hS => ?_
      refine seg_end ?_
      exact ⟨k + 1, ⟨hS.keepTo [3, 7] (by kernel_rfl), by omega, hFk, hEk⟩, by omega⟩
    · -- decide ((↑k : Int) < ↑F.L.length) is false
      replace hb17 := of_decide_eq_false hb17
      refine wpIn_exit ?_
      refine then_exit ?_
      refine then_exit ?_
      refine inBlock_hit ?_
      refine hK13 _ _ ?_
      refine wpIn_seq_k fun K20 hK20 => ?_
      refine region 3 (by kernel_rfl) ?_
      refine seg wide_wide [.p] [3, 60] [] [(3, .pointer (some ⟨F.fb, 0, none⟩)), (60, .pointer (some ⟨F.fb, 0, none⟩))] 1 2 hS (by kernel_rfl) (by kernel_rfl) (by kernel_rfl) .nil fun a hS => ?_
      refine eff_call wide_wide (r := 1) (f := 36) (vs := [.pointer (some ⟨F.fb, 0, none⟩)]) (cap := #[]) (d := (some 61)) hS (by kernel_rfl) Try.call36 #[.pointer (some ⟨F.fb, 0, none⟩)] (by kernel_rfl) (Numbers_any hF2) ?_
      rintro _ wk ⟨rfl, hE36⟩
      refine ⟨_, rfl, fun a hS => ?_⟩
      have hEk := hEy.trans0 hE36
      refine seg wide_wide [.p] [3, 2] [] [(3, .pointer (some ⟨F.fb, 0, none⟩)), (2, .bool true)] 3 0 hS (by kernel_rfl) (by kernel_rfl) (by kernel_rfl) .nil fun a hS => ?_
      refine seg_end ?_
      refine hK20 _ _ ?_
      refine wpIn_ret ?_
      refine ret1 hS Try.results7 rfl ?_
      exact ⟨rfl, hEk⟩

end Go.Proofs.Ytpglmeeledmkoaa
