import Derived.Test.YtpglmeeledmkoaaProg
import Derived.Test.YtpglmeeledmkoaaVc
import Derived.Test.YtpglmeeledmkoaaCw
import Derived.Test.YtpglmeeledmkoaaLv
namespace Go.Proofs.Ytpglmeeledmkoaa
open Go.Vc

set_option maxHeartbeats 4000000 in
theorem TreePaths_any {v : Value} {l : List Sx} {w : World} (hs : Scr w v l) :
    Calls Try.prog 9 #[v] w fun e w' => e = .returned (.bool true) ∧ Ext [] w w' := by
  have hmax := hs.max
  refine calls_bodyM 188 [(0, v)] Try.func9 rfl (by kernel_rfl) (by kernel_rfl) (by kernel_rfl) fun a hS => ?_
  have hE0 : Ext [] w w := Ext.refl _ _
  refine wpIn_seq_k fun K1 hK1 => ?_
  refine region 1 (by kernel_rfl) ?_
  refine eff_box wide_wide (r := 0) (cs := #[.bool false]) (T := 4) (d := (some 2)) hS (by kernel_rfl) fun a w2 hw3 hS => ?_
  have hB4 : Blk w2 (w.heap.size) 4 #[.bool false] := by rw [hw3]; exact Blk.new _ _ _
  have hs5 : w.heap.size ≤ w.heap.size := hE0.size
  have hE6 : Ext [] w w2 := by rw [hw3]; exact hE0.alloc _
  refine seg_end ?_
  refine hK1 _ _ ?_
  refine wpIn_seq_k fun K7 hK7 => ?_
  refine region 7 (by kernel_rfl) ?_
  refine seg wide_wide [.p] [0, 2, 17] [] [(0, v), (2, (Pv w.heap.size)), (17, v)] 1 6 hS (by kernel_rfl) (by kernel_rfl) (by kernel_rfl) .nil fun a hS => ?_
  refine eff_call wide_wide (r := 5) (f := 12) (vs := [v]) (cap := #[]) (d := (some 18)) hS (by kernel_rfl) Try.call12 #[v] (by kernel_rfl) (Grown_any (hs.ext0 hE6)) ?_
  rintro _ w1 ⟨F, rfl, hF, hE12⟩
  refine ⟨_, rfl, fun a hS => ?_⟩
  have hE1 := hE6.trans0 hE12
  have hB8 := hB4.ext hE12 (by simp)
  have hcb := hF.cb
  refine seg wide_wide [.p, .p, .p, .p, .p] [0, 2, 3, 4] [] [(0, v), (2, (Pv w.heap.size)), (3, (Pv F.fb)), (4, .bool true)] 7 0 hS (by kernel_rfl) (by kernel_rfl) (by kernel_rfl) .nil fun a hS => ?_
  refine seg_end ?_
  refine hK7 _ _ ?_
  refine wpIn_seq_k fun K9 hK9 => ?_
  refine wpIn_seq_k fun K10 hK10 => ?_
  refine region 2 (by kernel_rfl) ?_
  refine seg wide_wide [.p, .p] [0, 2, 3, 4, 22] [] [(0, v), (2, (Pv w.heap.size)), (3, (Pv F.fb)), (4, .bool true), (22, .bool false)] 2 0 hS (by kernel_rfl) (by kernel_rfl) (by kernel_rfl) .nil fun a hS => ?_
  refine seg_end ?_
  refine hK10 _ _ ?_
  refine cond_f hS rfl ?_
  refine wpIn_skip ?_
  refine hK9 _ _ ?_
  refine wpIn_seq_k fun K11 hK11 => ?_
  refine region 3 (by kernel_rfl) ?_
  refine seg wide_wide [.p] [0, 2, 3, 4, 22, 23] [] [(0, v), (2, (Pv w.heap.size)), (3, (Pv F.fb)), (4, .bool true), (22, .bool false), (23, (Pv F.fb))] 1 2 hS (by kernel_rfl) (by kernel_rfl) (by kernel_rfl) .nil fun a hS => ?_
  refine eff_call wide_wide (r := 1) (f := 13) (vs := [(Pv F.fb)]) (cap := #[]) (d := (some 24)) hS (by kernel_rfl) Try.call13 #[(Pv F.fb)] (by kernel_rfl) (Last_any hF (by omega)) ?_
  rintro _ wL ⟨hwL, hlast⟩
  rw [hwL]
  rcases hlast with ⟨i, r, rfl, hr, hsz⟩ | rfl
  · -- an alternative
    refine ⟨_, rfl, fun a hS => ?_⟩
    have hi : i < F.L.length := (List.getElem?_eq_some_iff.1 hr).1
    have hrm := List.mem_of_getElem? hr
    have hx1 : r.t.Ok w1 (sOf F.s0 F.s1 r.k) := (hF.ok.one r hrm).ok
    have hxtt := Tr.Ok.tt_pos r.t hx1
    have hwl := walk_len r.t hx1 0
    have hrowr := (hF.ok.one r hrm).row
    have hBr : Blk w1 r.rb 40 #[.int .i64 r.k, .int .i64 ↑r.i, .int .i64 r.t.kd, .int .i64 r.t.nn, .int .i64 r.t.lk, .int .i64 r.t.ls, .int .i64 r.t.ll, .int .i64 r.t.lr, r.kv, .int .i64 r.t.tt] := (hF.ok.one r hrm).blk
    have hTr : Blk w1 r.t.b 106 #[.pointer (some ⟨(sOf F.s0 F.s1 r.k), 0, none⟩), .int .i64 r.t.num, .int .i64 r.t.kd, .int .i64 r.t.nn, .int .i64 r.t.lk, .int .i64 r.t.ls, .int .i64 r.t.ll, .int .i64 r.t.lr, r.t.ks, .int .i64 r.t.wd, .int .i64 r.t.lf, .int .i64 r.t.tt, .bool r.t.fl] := (hF.ok.one r hrm).ok.blk
    have hE11 : Ext [] w1 w1 := Ext.refl _ _
    refine seg wide_wide [.p] [0, 2, 3, 4, 22, 5] [] [(0, v), (2, (Pv w.heap.size)), (3, (Pv F.fb)), (4, .bool true), (22, .bool false), (5, .int .i64 ↑i)] 3 0 hS (by kernel_rfl) (by kernel_rfl) (by kernel_rfl) .nil fun a hS => ?_
    refine seg_end ?_
    refine hK11 _ _ ?_
    refine wpIn_seq_k fun K12 hK12 => ?_
    refine wpIn_seq_k fun K13 hK13 => ?_
    refine region 15 (by kernel_rfl) ?_
    refine seg wide_wide [.p, .as (.bool false), .p, .p, .p, .p, .ld (.slice F.qb F.L.length F.qc), .p, .run (.pointer (some ⟨bof (.slice F.qb F.L.length F.qc), 0 + i * 1, none⟩)), .ld ((Pv r.rb)), .p, .p, .ld (.int .i64 r.t.tt), .p, .p] [0, 2, 3, 4, 22, 5, 39] [Value.bool (decide ((↑i : Int) < 0)) = .bool false, w1.cell? ⟨F.fb, 3, none⟩ = some (.slice F.qb F.L.length F.qc), Sem.run Try.prog (vS (Instr.indexAt 33 (.slice F.qb F.L.length F.qc) (.int .i64 ↑i))) w1 = .ok (.value (.pointer (some ⟨bof (.slice F.qb F.L.length F.qc), 0 + i * 1, none⟩))) w1, w1.cell? ⟨bof (.slice F.qb F.L.length F.qc), 0 + i * 1, none⟩ = some ((Pv r.rb)), w1.cell? ⟨r.rb, 9, none⟩ = some (.int .i64 r.t.tt)] [(0, v), (2, (Pv w.heap.size)), (3, (Pv F.fb)), (4, .bool true), (22, .bool false), (5, .int .i64 ↑i), (39, .bool (decide ((r.t.tt : Int) > 300)))] 15 0 hS (by kernel_rfl) (by kernel_rfl) (by kernel_rfl) (.cons (as_f (by omega)) (.cons ((hF.f).cell 3 rfl) (.cons (ix_own (j := i) (hF.R) (by kernel_rfl) (by kernel_rfl) rfl hi) (.cons ((hF.R).cellAt _ (by simp [hr, Rf.ptr])) (.cons (hBr.cell 9 rfl) .nil))))) fun a hS => ?_
    refine seg_end ?_
    refine hK13 _ _ ?_
    refine cond_b hS rfl (fun hb14 => ?_) (fun hb14 => ?_)
    · -- decide ((r.t.tt : Int) > 300) is true
      replace hb14 := of_decide_eq_true hb14
      refine wpIn_seq_k fun K15 hK15 => ?_
      refine region 1 (by kernel_rfl) ?_
      refine eff_store wide_wide (r := 0) (b := w.heap.size) (off := 0) (vs := [.bool true]) hS (by kernel_rfl) hB8 (by simp) fun a w16 hw17 hS => ?_
      have hB18 : Blk w16 w.heap.size 4 (#[.bool true]) := by rw [hw17]; exact hB8.upd _ _
      have hB19 := Blk.at' hw17 (hF.f.updNe (Blk.ne_type hB8 hF.f (by decide)) _ _)
      have hB20 := OwnV.at' hw17 (hF.P.updNe (OwnV.ne hF.P hB8 (by decide)) _ _)
      have hB21 := OwnV.at' hw17 (hF.R.updNe (OwnV.ne hF.R hB8 (by decide)) _ _)
      have hB22 := Blk.at' hw17 (hBr.updNe (Blk.ne_type hB8 hBr (by decide)) _ _)
      have hB23 := Blk.at' hw17 (hTr.updNe (Blk.ne_type hB8 hTr (by decide)) _ _)
      have hE24 : Ext [] w w16 := by rw [hw17]; exact hE1.updIn (.inr hs5) _ _
      refine seg_end ?_
      refine hK15 _ _ ?_
      refine wpIn_ret ?_
      refine then_ret ?_
      refine retMc [] (T' := 4) hS Try.results9 (by kernel_rfl) rfl hB18 (by simp) (by simp) fun w99 hE99 => ?_
      exact ⟨rfl, hE24.trans0 hE99⟩
    · -- decide ((r.t.tt : Int) > 300) is false
      replace hb14 := of_decide_eq_false hb14
      refine wpIn_skip ?_
      refine hK12 _ _ ?_
      refine wpIn_seq_k fun K25 hK25 => ?_
      refine region 9 (by kernel_rfl) ?_
      refine seg wide_wide [.p, .p, .p, .ld (.slice F.pb F.L.length F.pc), .p, .run (.pointer (some ⟨bof (.slice F.pb F.L.length F.pc), 0 + i * 1, none⟩)), .ld ((Pv r.t.b))] [0, 2, 3, 4, 22, 5, 46] [w1.cell? ⟨F.fb, 2, none⟩ = some (.slice F.pb F.L.length F.pc), Sem.run Try.prog (vS (Instr.indexAt 32 (.slice F.pb F.L.length F.pc) (.int .i64 ↑i))) w1 = .ok (.value (.pointer (some ⟨bof (.slice F.pb F.L.length F.pc), 0 + i * 1, none⟩))) w1, w1.cell? ⟨bof (.slice F.pb F.L.length F.pc), 0 + i * 1, none⟩ = some ((Pv r.t.b))] [(0, v), (2, (Pv w.heap.size)), (3, (Pv F.fb)), (4, .bool true), (22, .bool false), (5, .int .i64 ↑i), (46, (Pv r.t.b))] 7 2 hS (by kernel_rfl) (by kernel_rfl) (by kernel_rfl) (.cons ((hF.f).cell 2 rfl) (.cons (ix_own (j := i) (hF.P) (by kernel_rfl) (by kernel_rfl) rfl hi) (.cons ((hF.P).cellAt _ (by simp [hr, Tr.ptr])) .nil))) fun a hS => ?_
      refine eff_box wide_wide (r := 1) (cs := #[.pointer none]) (T := 47) (d := (some 6)) hS (by kernel_rfl) fun a w26 hw27 hS => ?_
      have hn28 : w.heap.size ≠ w1.heap.size := Nat.ne_of_lt hB8.lt
      have hn29 : F.fb ≠ w1.heap.size := Nat.ne_of_lt hF.f.lt
      have hn30 : ∀ x ∈ ob (.slice F.pb F.L.length F.pc), w1.heap.size ≠ x := fun x hx => Nat.ne_of_gt (hF.P.lie x hx)
      have hn31 : ∀ x ∈ ob (.slice F.qb F.L.length F.qc), w1.heap.size ≠ x := fun x hx => Nat.ne_of_gt (hF.R.lie x hx)
      have hn32 : r.rb ≠ w1.heap.size := Nat.ne_of_lt hBr.lt
      have hn33 : r.t.b ≠ w1.heap.size := Nat.ne_of_lt hTr.lt
      have hB34 := Blk.at' hw27 (hB8.alloc _)
      have hB35 := Blk.at' hw27 (hF.f.alloc _)
      have hB36 := OwnV.at' hw27 (hF.P.alloc _)
      have hB37 := OwnV.at' hw27 (hF.R.alloc _)
      have hB38 := Blk.at' hw27 (hBr.alloc _)
      have hB39 := Blk.at' hw27 (hTr.alloc _)
      have hX40 : Ext [] w1 w26 := by rw [hw27]; exact (Ext.refl _ _).alloc _
      have hG41 : Ext [] w1 w26 := hE11.trans0 hX40
      have hB42 : Blk w26 (w1.heap.size) 47 #[.pointer none] := by rw [hw27]; exact Blk.new _ _ _
      have hs43 : w.heap.size ≤ w1.heap.size := hE1.size
      have hE44 : Ext [] w w26 := by rw [hw27]; exact hE1.alloc _
      refine eff_store wide_wide (r := 0) (b := w1.heap.size) (off := 0) (vs := [(Pv r.t.b)]) hS (by kernel_rfl) hB42 (by simp) fun a w45 hw46 hS => ?_
      have hB47 := Blk.at' hw46 (hB34.updNe (Ne.symm hn28) _ _)
      have hB48 := Blk.at' hw46 (hB35.updNe (Ne.symm hn29) _ _)
      have hB49 := OwnV.at' hw46 (hB36.updNe hn30 _ _)
      have hB50 := OwnV.at' hw46 (hB37.updNe hn31 _ _)
      have hB51 := Blk.at' hw46 (hB38.updNe (Ne.symm hn32) _ _)
      have hB52 := Blk.at' hw46 (hB39.updNe (Ne.symm hn33) _ _)
      have hB53 : Blk w45 w1.heap.size 47 (#[(Pv r.t.b)]) := by rw [hw46]; exact hB42.upd _ _
      have hX54 : Ext [w1.heap.size] w26 w45 := by rw [hw46]; exact (Ext.refl _ _).updIn (.inl (by simp)) _ _
      have hG55 : Ext [] w1 w45 := hG41.trans hX54 (fun b hb => by simp at hb; subst hb; exact .inr hE11.size)
      have hE56 : Ext [] w w45 := by rw [hw46]; exact hE44.updIn (.inr hs43) _ _
      refine seg_end ?_
      refine hK25 _ _ ?_
      refine wpIn_seq_k fun K57 hK57 => ?_
      refine region 4 (by kernel_rfl) ?_
      refine seg wide_wide [.ld ((Pv r.t.b))] [0, 2, 3, 4, 22, 5, 6, 47] [w45.cell? ⟨w1.heap.size, 0, none⟩ = some ((Pv r.t.b))] [(0, v), (2, (Pv w.heap.size)), (3, (Pv F.fb)), (4, .bool true), (22, .bool false), (5, .int .i64 ↑i), (6, (Pv w1.heap.size)), (47, (Pv r.t.b))] 1 3 hS (by kernel_rfl) (by kernel_rfl) (by kernel_rfl) (.cons (hB53.cell 0 rfl) .nil) fun a hS => ?_
      refine eff_call wide_wide (r := 2) (f := 37) (vs := [(Pv r.t.b)]) (cap := #[]) (d := (some 48)) hS (by kernel_rfl) Try.call37 #[(Pv r.t.b)] (by kernel_rfl) (Cursor_any r.t.b w45) ?_
      rintro _ wcu ⟨rfl, hw58⟩
      refine ⟨_, rfl, fun a hS => ?_⟩
      have hEcu : Ext [] w45 wcu := by rw [hw58]; exact (Ext.refl _ _).alloc _
      have hXcu : Blk wcu w45.heap.size 77 #[(Pv r.t.b), .slice none 0 0, (Pv r.t.b), .int .i64 0] := by rw [hw58]; exact Blk.new _ _ _
      have hFcu := hE56.trans0 hEcu
      have hncu : w.heap.size ≤ w45.heap.size := hE56.size
      have hw1cb : w1.heap.size ≤ w45.heap.size := hG55.size
      have hB59 := hB47.ext hEcu (by simp)
      have hB60 := hB53.ext hEcu (by simp)
      have hG61 : Ext [] w1 wcu := hG55.trans0 hEcu
      obtain ⟨cb, hecb⟩ : ∃ x, x = w45.heap.size := ⟨_, rfl⟩
      rw [← hecb] at hS hXcu hncu hw1cb
      refine eff_box wide_wide (r := 1) (cs := #[.pointer none]) (T := 70) (d := (some 7)) hS (by kernel_rfl) fun a w62 hw63 hS => ?_
      have hn64 : w.heap.size ≠ wcu.heap.size := Nat.ne_of_lt hB59.lt
      have hn65 : w1.heap.size ≠ wcu.heap.size := Nat.ne_of_lt hB60.lt
      have hn66 : cb ≠ wcu.heap.size := Nat.ne_of_lt hXcu.lt
      have hB67 := Blk.at' hw63 (hB59.alloc _)
      have hB68 := Blk.at' hw63 (hB60.alloc _)
      have hB69 := Blk.at' hw63 (hXcu.alloc _)
      have hX70 : Ext [] wcu w62 := by rw [hw63]; exact (Ext.refl _ _).alloc _
      have hG71 : Ext [] w1 w62 := hG61.trans0 hX70
      have hB72 : Blk w62 (wcu.heap.size) 70 #[.pointer none] := by rw [hw63]; exact Blk.new _ _ _
      have hs73 : w.heap.size ≤ wcu.heap.size := hFcu.size
      have hE74 : Ext [] w w62 := by rw [hw63]; exact hFcu.alloc _
      refine eff_store wide_wide (r := 0) (b := wcu.heap.size) (off := 0) (vs := [(Pv cb)]) hS (by kernel_rfl) hB72 (by simp) fun a w75 hw76 hS => ?_
      have hB77 := Blk.at' hw76 (hB67.updNe (Ne.symm hn64) _ _)
      have hB78 := Blk.at' hw76 (hB68.updNe (Ne.symm hn65) _ _)
      have hB79 := Blk.at' hw76 (hB69.updNe (Ne.symm hn66) _ _)
      have hB80 : Blk w75 wcu.heap.size 70 (#[(Pv cb)]) := by rw [hw76]; exact hB72.upd _ _
      have hX81 : Ext [wcu.heap.size] w62 w75 := by rw [hw76]; exact (Ext.refl _ _).updIn (.inl (by simp)) _ _
      have hG82 : Ext [] w1 w75 := hG71.trans hX81 (fun b hb => by simp at hb; subst hb; exact .inr hG61.size)
      have hE83 : Ext [] w w75 := by rw [hw76]; exact hE74.updIn (.inr hs73) _ _
      refine seg_end ?_
      refine hK57 _ _ ?_
      refine wpIn_seq_k fun K84 hK84 => ?_
      refine wpIn_seq_k fun K85 hK85 => ?_
      refine region 2 (by kernel_rfl) ?_
      refine seg wide_wide [.ld ((Pv cb)), .p] [0, 2, 3, 4, 22, 5, 6, 7, 50] [w75.cell? ⟨wcu.heap.size, 0, none⟩ = some ((Pv cb))] [(0, v), (2, (Pv w.heap.size)), (3, (Pv F.fb)), (4, .bool true), (22, .bool false), (5, .int .i64 ↑i), (6, (Pv w1.heap.size)), (7, (Pv wcu.heap.size)), (50, .bool false)] 2 0 hS (by kernel_rfl) (by kernel_rfl) (by kernel_rfl) (.cons (hB80.cell 0 rfl) .nil) fun a hS => ?_
      refine seg_end ?_
      refine hK85 _ _ ?_
      refine cond_f hS rfl ?_
      refine wpIn_skip ?_
      refine hK84 _ _ ?_
      refine wpIn_seq_k fun K86 hK86 => ?_
      refine region 2 (by kernel_rfl) ?_
      refine eff_box wide_wide (r := 1) (cs := #[.bool false]) (T := 4) (d := (some 8)) hS (by kernel_rfl) fun a w87 hw88 hS => ?_
      have hn89 : w.heap.size ≠ w75.heap.size := Nat.ne_of_lt hB77.lt
      have hn90 : w1.heap.size ≠ w75.heap.size := Nat.ne_of_lt hB78.lt
      have hn91 : cb ≠ w75.heap.size := Nat.ne_of_lt hB79.lt
      have hn92 : wcu.heap.size ≠ w75.heap.size := Nat.ne_of_lt hB80.lt
      have hB93 := Blk.at' hw88 (hB77.alloc _)
      have hB94 := Blk.at' hw88 (hB78.alloc _)
      have hB95 := Blk.at' hw88 (hB79.alloc _)
      have hB96 := Blk.at' hw88 (hB80.alloc _)
      have hX97 : Ext [] w75 w87 := by rw [hw88]; exact (Ext.refl _ _).alloc _
      have hG98 : Ext [] w1 w87 := hG82.trans0 hX97
      have hB99 : Blk w87 (w75.heap.size) 4 #[.bool false] := by rw [hw88]; exact Blk.new _ _ _
      have hs100 : w.heap.size ≤ w75.heap.size := hE83.size
      have hE101 : Ext [] w w87 := by rw [hw88]; exact hE83.alloc _
      refine eff_store wide_wide (r := 0) (b := w75.heap.size) (off := 0) (vs := [.bool false]) hS (by kernel_rfl) hB99 (by simp) fun a w102 hw103 hS => ?_
      have hB104 := Blk.at' hw103 (hB93.updNe (Ne.symm hn89) _ _)
      have hB105 := Blk.at' hw103 (hB94.updNe (Ne.symm hn90) _ _)
      have hB106 := Blk.at' hw103 (hB95.updNe (Ne.symm hn91) _ _)
      have hB107 := Blk.at' hw103 (hB96.updNe (Ne.symm hn92) _ _)
      have hB108 : Blk w102 w75.heap.size 4 (#[.bool false]) := by rw [hw103]; exact hB99.upd _ _
      have hX109 : Ext [w75.heap.size] w87 w102 := by rw [hw103]; exact (Ext.refl _ _).updIn (.inl (by simp)) _ _
      have hG110 : Ext [] w1 w102 := hG98.trans hX109 (fun b hb => by simp at hb; subst hb; exact .inr hG82.size)
      have hE111 : Ext [] w w102 := by rw [hw103]; exact hE101.updIn (.inr hs100) _ _
      refine seg_end ?_
      refine hK86 _ _ ?_
      refine wpIn_seq_k fun K112 hK112 => ?_
      refine region 3 (by kernel_rfl) ?_
      refine seg wide_wide [.ld ((Pv r.t.b))] [0, 2, 3, 4, 22, 5, 6, 7, 50, 8, 51] [w102.cell? ⟨w1.heap.size, 0, none⟩ = some ((Pv r.t.b))] [(0, v), (2, (Pv w.heap.size)), (3, (Pv F.fb)), (4, .bool true), (22, .bool false), (5, .int .i64 ↑i), (6, (Pv w1.heap.size)), (7, (Pv wcu.heap.size)), (50, .bool false), (8, (Pv w75.heap.size)), (51, (Pv r.t.b))] 1 2 hS (by kernel_rfl) (by kernel_rfl) (by kernel_rfl) (.cons (hB105.cell 0 rfl) .nil) fun a hS => ?_
      refine eff_call wide_wide (r := 1) (f := 29) (vs := [(Pv r.t.b)]) (cap := #[]) (d := (some 52)) hS (by kernel_rfl) Try.call29 #[(Pv r.t.b)] (by kernel_rfl) (Walk_any r.t.b w102) ?_
      rintro _ wi1 ⟨rfl, hw113⟩
      refine ⟨_, rfl, fun a hS => ?_⟩
      have hEwi1 : Ext [] w102 wi1 := by rw [hw113]; exact (Ext.refl _ _).alloc _
      have hXwi1 : Blk wi1 w102.heap.size 47 #[pv r.t.b] := by rw [hw113]; exact Blk.new _ _ _
      have hFwi1 := hE111.trans0 hEwi1
      have hB114 := hB104.ext hEwi1 (by simp)
      have hB115 := hB105.ext hEwi1 (by simp)
      have hB116 := hB106.ext hEwi1 (by simp)
      have hB117 := hB107.ext hEwi1 (by simp)
      have hB118 := hB108.ext hEwi1 (by simp)
      have hG119 : Ext [] w1 wi1 := hG110.trans0 hEwi1
      obtain ⟨bx, hebx⟩ : ∃ x, x = w102.heap.size := ⟨_, rfl⟩
      rw [← hebx] at hS hXwi1
      refine seg wide_wide [.p] [0, 2, 3, 4, 22, 5, 6, 7, 50, 8, 9] [] [(0, v), (2, (Pv w.heap.size)), (3, (Pv F.fb)), (4, .bool true), (22, .bool false), (5, .int .i64 ↑i), (6, (Pv w1.heap.size)), (7, (Pv wcu.heap.size)), (50, .bool false), (8, (Pv w75.heap.size)), (9, .func (.func 55) #[] #[(Pv bx)])] 3 0 hS (by kernel_rfl) (by kernel_rfl) (by kernel_rfl) .nil fun a hS => ?_
      refine seg_end ?_
      refine hK112 _ _ ?_
      refine wpIn_seq_k fun K120 hK120 => ?_
      refine wpIn_seq_k fun K121 hK121 => ?_
      refine region 2 (by kernel_rfl) ?_
      refine seg wide_wide [.p, .p] [0, 2, 3, 4, 22, 5, 6, 7, 50, 8, 9, 54] [] [(0, v), (2, (Pv w.heap.size)), (3, (Pv F.fb)), (4, .bool true), (22, .bool false), (5, .int .i64 ↑i), (6, (Pv w1.heap.size)), (7, (Pv wcu.heap.size)), (50, .bool false), (8, (Pv w75.heap.size)), (9, .func (.func 55) #[] #[(Pv bx)]), (54, .bool false)] 2 0 hS (by kernel_rfl) (by kernel_rfl) (by kernel_rfl) .nil fun a hS => ?_
      refine seg_end ?_
      refine hK121 _ _ ?_
      refine cond_f hS rfl ?_
      refine wpIn_skip ?_
      refine hK120 _ _ ?_
      refine wpIn_seq_k fun K122 hK122 => ?_
      refine wpIn_seq_k fun K123 hK123 => ?_
      refine region 1 (by kernel_rfl) ?_
      refine seg wide_wide [.p] [0, 2, 3, 4, 22, 5, 6, 7, 50, 8, 9, 54, 55] [] [(0, v), (2, (Pv w.heap.size)), (3, (Pv F.fb)), (4, .bool true), (22, .bool false), (5, .int .i64 ↑i), (6, (Pv w1.heap.size)), (7, (Pv wcu.heap.size)), (50, .bool false), (8, (Pv w75.heap.size)), (9, .func (.func 55) #[] #[(Pv bx)]), (54, .bool false), (55, .func (.func 55) #[] #[(Pv bx)])] 1 0 hS (by kernel_rfl) (by kernel_rfl) (by kernel_rfl) .nil fun a hS => ?_
      refine seg_end ?_
      refine hK123 _ _ ?_
      refine wpIn_block ?_
      replace hS := hS.keepTo [2, 6, 7, 8, 55] (m' := [(2, (Pv w.heap.size)), (6, (Pv w1.heap.size)), (7, (Pv wcu.heap.size)), (8, (Pv w75.heap.size)), (55, .func (.func 55) #[] #[(Pv bx)])]) (by kernel_rfl)
      have hNrb := hB114
      obtain ⟨rb, herb⟩ : ∃ x, x = w.heap.size := ⟨_, rfl⟩
      rw [← herb] at hS hNrb
      have hwrb : w.heap.size ≤ rb := by rw [herb]; exact hs5
      have hNxb := hB115
      obtain ⟨xb, hexb⟩ : ∃ x, x = w1.heap.size := ⟨_, rfl⟩
      rw [← hexb] at hS hNxb
      have hwxb : w.heap.size ≤ xb := by rw [hexb]; exact hs43
      have hNvb := hB117
      obtain ⟨vb, hevb⟩ : ∃ x, x = wcu.heap.size := ⟨_, rfl⟩
      rw [← hevb] at hS hNvb
      have hwvb : w.heap.size ≤ vb := by rw [hevb]; exact hs73
      have hNdb := hB118
      obtain ⟨db, hedb⟩ : ∃ x, x = w75.heap.size := ⟨_, rfl⟩
      rw [← hedb] at hS hNdb
      have hwdb : w.heap.size ≤ db := by rw [hedb]; exact hs100
      have hw1db : w1.heap.size ≤ db := by rw [hedb]; exact hG82.size
      have hnerbdb : rb ≠ db := (by rw [hedb]; exact (by rw [herb]; exact hn89))
      have hnexbcb : xb ≠ cb := (Blk.ne_type hNxb hB116 (by decide))
      have hnevbcb : vb ≠ cb := (Ne.symm (by rw [hevb]; exact hn66))
      have hnerbcb : rb ≠ cb := (Blk.ne_type hNrb hB116 (by decide))
      have hnedbcb : db ≠ cb := (Ne.symm (by rw [hedb]; exact hn91))
      have hnebxcb : bx ≠ cb := (Blk.ne_type hXwi1 hB116 (by decide))
      have hnexbdb : xb ≠ db := (by rw [hedb]; exact (by rw [hexb]; exact hn90))
      have hnevbdb : vb ≠ db := (by rw [hedb]; exact (by rw [hevb]; exact hn92))
      have hnebxdb : bx ≠ db := (Blk.ne_type hXwi1 hNdb (by decide))
      have hE19 : Ext [] w1 wi1 := hG119
      have hx9 := hx1.ext hE19 r.t (by simp)
      have hK9 := hF.ok.ext0 hE19
      refine range_out (gf := 55) (lb := #[pv bx]) (enc := encW) (xs := walk r.t 0) (T := fun b => b = bx ∨ r.t.Foot b)
        (fun pr Cx W => ∃ (st : List Stp) (nb : Nat) (p : Int) (bs : Option Addr) (cap : Nat) (dn : Bool), Cx = cb :: db :: oa bs ∧ Blk W cb 77 #[(Pv r.t.b), .slice bs st.length cap, (Pv nb), .int .i64 p] ∧ OwnV W 122 3 (.slice bs st.length cap) st.length (ways st) ∧ Blk W db 4 #[.bool dn] ∧ (dn = false → ∃ q, nb = q.t.b ∧ JW r st q p ∧ walk r.t 0 = pr ++ (walk q.t p ++ beh st)) ∧ (dn = true → walk r.t 0 = pr))
        (fun _ _ _ _ => False) [cb, db] (fun q => [(2, (Pv rb)), (6, (Pv xb)), (7, (Pv vb)), (8, (Pv db)), (10, .int .i64 q.1), (11, (Pv q.2.b))]) hS rfl Try.call55 ?_ ?_ ?_ ?_ (fun _ => rfl) rfl ?_ ?_ ?_ ?_ ?_ ?_ ?_
      · intro W hEW _
        exact Walk1_any (hXwi1.ext hEW (by simp)) (hx9.ext hEW r.t (by simp))
      · rintro b (rfl | hb)
        · exact hXwi1.lt
        · exact hx9.foot_lt hb
      · intro b hb hT
        rcases (by simpa using hb : b = cb ∨ b = db) with rfl | rfl
        · rcases hT with hT | hT
          · exact hnebxcb hT.symm
          · exact hx9.not_foot hB116 (by decide) (by decide) hT
        · rcases hT with hT | hT
          · exact hnebxdb hT.symm
          · exact hx9.not_foot hNdb (by decide) (by decide) hT
      · intro b hb
        rcases (by simpa using hb : b = cb ∨ b = db) with rfl | rfl
        · exact hB116.lt
        · exact hNdb.lt
      · rintro s Cx M W W' ⟨st, nb, p, bs, cap, dn, rfl, h1, h2, h3, h4⟩ hE hM
        exact ⟨st, nb, p, bs, cap, dn, rfl, h1.ext hE (fun hm => (hM _ hm).2 (by simp)), h2.ext hE (fun x hx hm => (hM _ hm).2 (by rw [ob_oa] at hx; simp [hx])), h3.ext hE (fun hm => (hM _ hm).2 (by simp)), h4⟩
      · intro c s Cx M W W' h; exact h.elim
      · exact ⟨[], r.t.b, 0, none, 0, false, rfl, hB116, .inl ⟨rfl, rfl, rfl⟩, hNdb, fun _ => ⟨r, rfl, .nil, by simp [beh_nil]⟩, fun h => by cases h⟩
      · intro l2 q a' W K hS hK
        refine wpIn_seq_k fun K124 hK124 => ?_
        refine region 1 (by kernel_rfl) ?_
        refine seg (wide_wide.inRound l2) [.p] [2, 6, 7, 8, 56, 57, 10] [] [(2, (Pv rb)), (6, (Pv xb)), (7, (Pv vb)), (8, (Pv db)), (56, .int .i64 q.1), (57, q.2.ptr), (10, .int .i64 q.1)] 1 0 hS (by kernel_rfl) (by kernel_rfl) (by kernel_rfl) .nil fun a hS => ?_
        refine seg_end ?_
        refine hK124 _ _ ?_
        refine region 1 (by kernel_rfl) ?_
        refine seg (wide_wide.inRound l2) [.p] [2, 6, 7, 8, 56, 57, 10, 11] [] [(2, (Pv rb)), (6, (Pv xb)), (7, (Pv vb)), (8, (Pv db)), (56, .int .i64 q.1), (57, q.2.ptr), (10, .int .i64 q.1), (11, q.2.ptr)] 1 0 hS (by kernel_rfl) (by kernel_rfl) (by kernel_rfl) .nil fun a hS => ?_
        refine seg_end ?_
        exact hK _ (hS.keepTo [2, 6, 7, 8, 10, 11] (by kernel_rfl))
      · rintro l2 pr ⟨qp, tq⟩ post Cx W a hxs2 ⟨st, nb, p, bs, cap, dn, rfl, hcW, hvW, hdW, hd0, hd1⟩ hlieW hfrW hnl hrec hEW hS
        obtain rfl : dn = false := by
          cases dn
          · rfl
          · have h := hd1 rfl
            rw [h] at hxs2
            simp at hxs2
        obtain ⟨q, rfl, hJ, hwk⟩ := hd0 rfl
        have hcut : (qp, tq) :: post = (p, q.t) :: (walks q.t.kids p ++ beh st) := by
          rw [hwk, walk_eq] at hxs2
          have h := List.append_cancel_left hxs2
          exact h.symm
        simp only [List.cons.injEq, Prod.mk.injEq] at hcut
        obtain ⟨⟨rfl, rfl⟩, hpost⟩ := hcut
        have hE1W : Ext [] w1 W := hE19.trans hEW (by intro b hb; rcases (by simpa using hb : b = cb ∨ b = db) with rfl | rfl <;> first | exact .inr hw1cb | exact .inr hw1db)
        have hKW := hF.ok.ext0 hE1W
        have hqm := hJ.mem hKW hrm
        have hqo : q.t.Ok W (sOf F.s0 F.s1 q.k) := (hKW.one q hqm).ok
        have hqtt := Tr.Ok.tt_pos q.t hqo
        have hbd := hJ.bd hKW hrm
        have hc3 := hJ.cases3 hKW hrm
        have hkids := kids_last hKW hqm
        have hkle := kids_le hqo
        have hbs1 : ∀ b ∈ oa bs, w1.heap.size ≤ b := fun b hb => by
          rcases hfrW b (by simp [hb]) with h | h
          · rcases (by simpa using h : b = cb ∨ b = db) with rfl | rfl <;> first | exact hw1cb | exact hw1db
          · exact Nat.le_trans hE19.size (Nat.le_trans (Nat.le_refl _) h)
        have hTq : Blk W q.t.b 106 #[.pointer (some ⟨(sOf F.s0 F.s1 q.k), 0, none⟩), .int .i64 q.t.num, .int .i64 q.t.kd, .int .i64 q.t.nn, .int .i64 q.t.lk, .int .i64 q.t.ls, .int .i64 q.t.ll, .int .i64 q.t.lr, q.t.ks, .int .i64 q.t.wd, .int .i64 q.t.lf, .int .i64 q.t.tt, .bool q.t.fl] := hqo.blk
        have hNW : ∀ {b : Nat} {T : TypeId} {cs : Array Value}, Blk W b T cs → T ≠ 122 → b ∉ oa bs := fun h1 h2 hm => hvW.notin h1 (Ne.symm h2) (by rw [ob_oa]; exact hm)
        replace hS : St 188 [] [(2, (Pv rb)), (6, (Pv xb)), (7, (Pv vb)), (8, (Pv db)), (10, .int .i64 qp), (11, (Pv q.t.b))] a := hS
        have hWxb := hNxb.ext hEW (by simpa using ⟨hnexbcb, hnexbdb⟩)
        have hWvb := hNvb.ext hEW (by simpa using ⟨hnevbcb, hnevbdb⟩)
        have hWW : Ext [] W W := Ext.refl _ _
        refine wpIn_block ?_
        refine wpIn_seq_k fun K125 hK125 => ?_
        refine wpIn_seq_k fun K126 hK126 => ?_
        refine region 21 (by kernel_rfl) ?_
        refine seg (wide_wide.inRound l2) [.p, .p, .p, .ld (.bool false), .p, .p, .ld ((Pv cb)), .p, .p] [2, 6, 7, 8, 10, 11, 63, 66] [W.cell? ⟨db, 0, none⟩ = some (.bool false), W.cell? ⟨vb, 0, none⟩ = some ((Pv cb))] [(2, (Pv rb)), (6, (Pv xb)), (7, (Pv vb)), (8, (Pv db)), (10, .int .i64 qp), (11, (Pv q.t.b)), (63, .bool false), (66, (Pv cb))] 9 12 hS (by kernel_rfl) (by kernel_rfl) (by kernel_rfl) (.cons (hdW.cell 0 rfl) (.cons (hWvb.cell 0 rfl) .nil)) fun a hS => ?_
        refine eff_call_ro (wide_wide.inRound l2) (r := 11) (f := 41) (vs := [(Pv cb)]) (cap := #[]) (d := (some 67)) (v := Value.pointer (some ⟨q.t.b, 0, none⟩)) hS (by kernel_rfl) Try.call41 #[(Pv cb)] (by kernel_rfl) (PNode_any hcW) fun a hS => ?_
        refine seg (wide_wide.inRound l2) [.p, .run (.bool false), .p, .p, .ld ((Pv cb)), .p, .p] [2, 6, 7, 8, 10, 11, 71, 74] [Sem.run Try.prog (vS (do eqGuard .neq 47 (.tmp 67) (.tmp 68) ((Pv q.t.b)) ((Pv q.t.b)); binOp .neq 47 ((Pv q.t.b)) ((Pv q.t.b)))) W = .ok (.value (.bool false)) W, W.cell? ⟨vb, 0, none⟩ = some ((Pv cb))] [(2, (Pv rb)), (6, (Pv xb)), (7, (Pv vb)), (8, (Pv db)), (10, .int .i64 qp), (11, (Pv q.t.b)), (71, .bool false), (74, (Pv cb))] 17 4 hS (by kernel_rfl) (by kernel_rfl) (by kernel_rfl) (.cons (bin_ptr_neq (E := 106) (by kernel_rfl) ⟨12, by kernel_rfl⟩ hTq hTq (by simp)) (.cons (hWvb.cell 0 rfl) .nil)) fun a hS => ?_
        refine eff_call_ro (wide_wide.inRound l2) (r := 3) (f := 40) (vs := [(Pv cb)]) (cap := #[]) (d := (some 75)) (v := Value.int .i64 qp) hS (by kernel_rfl) Try.call40 #[(Pv cb)] (by kernel_rfl) (Offset_any hcW) fun a hS => ?_
        refine seg (wide_wide.inRound l2) [.p, .as (.bool false), .p] [2, 6, 7, 8, 10, 11, 78] [Value.bool (((qp : Int) != qp)) = .bool false] [(2, (Pv rb)), (6, (Pv xb)), (7, (Pv vb)), (8, (Pv db)), (10, .int .i64 qp), (11, (Pv q.t.b)), (78, .bool false)] 21 0 hS (by kernel_rfl) (by kernel_rfl) (by kernel_rfl) (.cons (as_ne_f (rfl)) .nil) fun a hS => ?_
        refine seg_end ?_
        refine hK126 _ _ ?_
        refine cond_f hS rfl ?_
        refine wpIn_skip ?_
        refine hK125 _ _ ?_
        refine wpIn_seq_k fun K127 hK127 => ?_
        refine region 3 (by kernel_rfl) ?_
        refine seg (wide_wide.inRound l2) [.ld ((Pv r.t.b))] [2, 6, 7, 8, 10, 11, 78, 79] [W.cell? ⟨xb, 0, none⟩ = some ((Pv r.t.b))] [(2, (Pv rb)), (6, (Pv xb)), (7, (Pv vb)), (8, (Pv db)), (10, .int .i64 qp), (11, (Pv q.t.b)), (78, .bool false), (79, (Pv r.t.b))] 1 2 hS (by kernel_rfl) (by kernel_rfl) (by kernel_rfl) (.cons (hWxb.cell 0 rfl) .nil) fun a hS => ?_
        refine eff_call (wide_wide.inRound l2) (r := 1) (f := 37) (vs := [(Pv r.t.b)]) (cap := #[]) (d := (some 80)) hS (by kernel_rfl) Try.call37 #[(Pv r.t.b)] (by kernel_rfl) (Cursor_any r.t.b W) ?_
        rintro _ wd0 ⟨rfl, hw128⟩
        refine ⟨_, rfl, fun a hS => ?_⟩
        have hEd0 : Ext [] W wd0 := by rw [hw128]; exact (Ext.refl _ _).alloc _
        have hXd : Blk wd0 W.heap.size 77 #[(Pv r.t.b), .slice none 0 0, (Pv r.t.b), .int .i64 0] := by rw [hw128]; exact Blk.new _ _ _
        obtain ⟨dd, hedd⟩ : ∃ x, x = W.heap.size := ⟨_, rfl⟩
        rw [← hedd] at hS hXd
        have hdn : W.heap.size ≤ dd := by rw [hedd]; exact Nat.le_refl _
        have hcu0 : Cu [] W wd0 dd r.t.b [] r.t.b 0 none 0 := ⟨hXd, .inl ⟨rfl, rfl, rfl⟩, .inr hdn, fun x hx => (by cases hx), hEd0⟩
        have hrxb129 := hWxb.ext hEd0 (by simp)
        have hrvb129 := hWvb.ext hEd0 (by simp)
        have hrdb129 := hdW.ext hEd0 (by simp)
        have hrcb129 := hcW.ext hEd0 (by simp)
        have hrvbs129 := hvW.ext hEd0 (by simp)
        have hrqtb129 := hTq.ext hEd0 (by simp)
        refine seg (wide_wide.inRound l2) [.p] [2, 6, 7, 8, 10, 11, 78, 12] [] [(2, (Pv rb)), (6, (Pv xb)), (7, (Pv vb)), (8, (Pv db)), (10, .int .i64 qp), (11, (Pv q.t.b)), (78, .bool false), (12, (Pv dd))] 3 0 hS (by kernel_rfl) (by kernel_rfl) (by kernel_rfl) .nil fun a hS => ?_
        refine seg_end ?_
        refine hK127 _ _ ?_
        refine wpIn_seq_k fun K130 hK130 => ?_
        refine wpIn_seq_k fun K131 hK131 => ?_
        refine region 2 (by kernel_rfl) ?_
        refine seg (wide_wide.inRound l2) [.p, .p] [2, 6, 7, 8, 10, 11, 78, 12, 82] [] [(2, (Pv rb)), (6, (Pv xb)), (7, (Pv vb)), (8, (Pv db)), (10, .int .i64 qp), (11, (Pv q.t.b)), (78, .bool false), (12, (Pv dd)), (82, .bool false)] 2 0 hS (by kernel_rfl) (by kernel_rfl) (by kernel_rfl) .nil fun a hS => ?_
        refine seg_end ?_
        refine hK131 _ _ ?_
        refine cond_f hS rfl ?_
        refine wpIn_skip ?_
        refine hK130 _ _ ?_
        refine wpIn_seq_k fun K132 hK132 => ?_
        refine region 5 (by kernel_rfl) ?_
        refine seg (wide_wide.inRound l2) [.ld ((Pv cb)), .p, .p] [2, 6, 7, 8, 10, 11, 78, 12, 82, 85] [wd0.cell? ⟨vb, 0, none⟩ = some ((Pv cb))] [(2, (Pv rb)), (6, (Pv xb)), (7, (Pv vb)), (8, (Pv db)), (10, .int .i64 qp), (11, (Pv q.t.b)), (78, .bool false), (12, (Pv dd)), (82, .bool false), (85, (Pv cb))] 3 2 hS (by kernel_rfl) (by kernel_rfl) (by kernel_rfl) (.cons (hrvb129.cell 0 rfl) .nil) fun a hS => ?_
        refine eff_call (wide_wide.inRound l2) (r := 1) (f := 39) (vs := [(Pv cb)]) (cap := #[]) (d := (some 86)) hS (by kernel_rfl) Try.call39 #[(Pv cb)] (by kernel_rfl) (Path_any hrcb129 hrvbs129 (by omega)) ?_
        rintro _ wp ⟨pb, pc, rfl, hpv, hEp, _⟩
        refine ⟨_, rfl, fun a hS => ?_⟩
        have hEWp := hEd0.trans0 hEp
        have hdp := hXd.ext hEp (by simp)
        have hcu1 : Cu [dd] wp wp dd r.t.b [] r.t.b 0 none 0 := ⟨hdp, .inl ⟨rfl, rfl, rfl⟩, .inl (by simp), fun x hx => (by cases hx), Ext.refl _ _⟩
        have hWd : ∀ {w : World}, Ext [dd] wp w → Ext [] W w := fun h => hEWp.trans h (fun b hb => by obtain rfl := (by simpa using hb : b = dd); exact .inr hdn)
        have hpn := hpv.ne hdp (by decide)
        have hrxb133 := hWxb.ext hEWp (by simp)
        have hrvb133 := hWvb.ext hEWp (by simp)
        have hrdb133 := hdW.ext hEWp (by simp)
        have hrcb133 := hcW.ext hEWp (by simp)
        have hrvbs133 := hvW.ext hEWp (by simp)
        have hrqtb133 := hTq.ext hEWp (by simp)
        refine seg (wide_wide.inRound l2) [.p] [2, 6, 7, 8, 10, 11, 78, 12, 82, 13] [] [(2, (Pv rb)), (6, (Pv xb)), (7, (Pv vb)), (8, (Pv db)), (10, .int .i64 qp), (11, (Pv q.t.b)), (78, .bool false), (12, (Pv dd)), (82, .bool false), (13, .slice pb st.length pc)] 5 0 hS (by kernel_rfl) (by kernel_rfl) (by kernel_rfl) .nil fun a hS => ?_
        refine seg_end ?_
        refine hK132 _ _ ?_
        refine wpIn_seq_k fun K134 hK134 => ?_
        refine wpIn_seq_k fun K135 hK135 => ?_
        refine region 1 (by kernel_rfl) ?_
        refine seg (wide_wide.inRound l2) [.p] [2, 6, 7, 8, 10, 11, 78, 12, 82, 13, 14] [] [(2, (Pv rb)), (6, (Pv xb)), (7, (Pv vb)), (8, (Pv db)), (10, .int .i64 qp), (11, (Pv q.t.b)), (78, .bool false), (12, (Pv dd)), (82, .bool false), (13, .slice pb st.length pc), (14, .int .i64 0)] 1 0 hS (by kernel_rfl) (by kernel_rfl) (by kernel_rfl) .nil fun a hS => ?_
        refine seg_end ?_
        refine hK135 _ _ ?_
        refine wpIn_block ?_
        refine loop_ghost (fun ((k, nbd, pu, bsd, capd) : Nat × Nat × Int × Option Addr × Nat) a' w' => St 188 [] [(6, (Pv xb)), (7, (Pv vb)), (8, (Pv db)), (10, .int .i64 qp), (11, (Pv q.t.b)), (12, (Pv dd)), (13, .slice pb st.length pc), (14, .int .i64 ↑k)] a' ∧ k ≤ st.length ∧ Cu [dd] wp w' dd r.t.b (st.take k) nbd pu bsd capd ∧ ∃ u, nbd = u.t.b ∧ JW r (st.take k) u pu) (fun ((k, nbd, pu, bsd, capd) : Nat × Nat × Int × Option Addr × Nat) => st.length - k) (0, r.t.b, 0, none, 0) ⟨hS.keepTo [6, 7, 8, 10, 11, 12, 13, 14] (by kernel_rfl), Nat.zero_le _, hcu1, r, rfl, .nil⟩ ?_
        rintro ⟨k, nbd, pu, bsd, capd⟩ a wk ⟨hS, hkl, hcuk, hju⟩
        have hEk := hWd hcuk.ext
        obtain ⟨u, rfl, hJu⟩ := hju
        have hrxb136 := hWxb.ext hEk (by simp)
        have hrvb136 := hWvb.ext hEk (by simp)
        have hrdb136 := hdW.ext hEk (by simp)
        have hrcb136 := hcW.ext hEk (by simp)
        have hrvbs136 := hvW.ext hEk (by simp)
        have hrqtb136 := hTq.ext hEk (by simp)
        have hpk := hpv.ext hcuk.ext (fun x hx hm => by simp at hm; exact hpn x hx hm.symm)
        refine wpIn_seq_k fun K137 hK137 => ?_
        refine wpIn_seq_k fun K138 hK138 => ?_
        refine region 4 (by kernel_rfl) ?_
        refine seg (wide_wide.inRound l2) [.p, .p, .p, .p] [6, 7, 8, 10, 11, 12, 13, 14, 90] [] [(6, (Pv xb)), (7, (Pv vb)), (8, (Pv db)), (10, .int .i64 qp), (11, (Pv q.t.b)), (12, (Pv dd)), (13, .slice pb st.length pc), (14, .int .i64 ↑k), (90, .bool (decide ((↑k : Int) < ↑st.length)))] 4 0 hS (by kernel_rfl) (by kernel_rfl) (by kernel_rfl) .nil fun a hS => ?_
        refine seg_end ?_
        refine hK138 _ _ ?_
        refine cond_b hS rfl (fun hb139 => ?_) (fun hb139 => ?_)
        · -- decide ((↑k : Int) < ↑st.length) is true
          replace hb139 := of_decide_eq_true hb139
          have hk : k < st.length := by omega
          obtain ⟨v, pv_, j, kid, h1, h2, h3, h4, h5⟩ := hJ.step hk
          obtain ⟨rfl, rfl⟩ := hJu.det h1
          have hKk := hKW.ext0 hEk
          have hum := hJu.mem hKk hrm
          have huo : u.t.Ok wk (sOf F.s0 F.s1 u.k) := (hKk.one u hum).ok
          have hub := hJu.bd hKk hrm
          have hutt := Tr.Ok.tt_pos u.t huo
          have hks := kids_sum hKk hum j
          rw [← hks] at h4 h5
          refine wpIn_skip ?_
          refine hK137 _ _ ?_
          refine wpIn_seq_k fun K140 hK140 => ?_
          refine wpIn_block ?_
          refine wpIn_seq_k fun K141 hK141 => ?_
          refine region 7 (by kernel_rfl) ?_
          refine seg (wide_wide.inRound l2) [.p, .p, .p, .run (.pointer (some ⟨bof (.slice pb st.length pc), 0 + k * 1, none⟩)), .ld (.int .i64 ↑j)] [6, 7, 8, 10, 11, 12, 13, 14, 93, 97] [Sem.run Try.prog (vS (Instr.indexAt 41 (.slice pb st.length pc) (.int .i64 ↑k))) wk = .ok (.value (.pointer (some ⟨bof (.slice pb st.length pc), 0 + k * 1, none⟩))) wk, wk.cell? ⟨bof (.slice pb st.length pc), 0 + k * 1, none⟩ = some (.int .i64 ↑j)] [(6, (Pv xb)), (7, (Pv vb)), (8, (Pv db)), (10, .int .i64 qp), (11, (Pv q.t.b)), (12, (Pv dd)), (13, .slice pb st.length pc), (14, .int .i64 ↑k), (93, (Pv dd)), (97, .int .i64 ↑j)] 5 2 hS (by kernel_rfl) (by kernel_rfl) (by kernel_rfl) (.cons (ix_own (j := k) (hpk) (by kernel_rfl) (by kernel_rfl) rfl hk) (.cons ((hpk).cellAt _ (by simp [kidsOf, h3])) .nil)) fun a hS => ?_
          refine eff_call (wide_wide.inRound l2) (r := 1) (f := 43) (vs := [(Pv dd), .int .i64 ↑j]) (cap := #[]) (d := (some 98)) hS (by kernel_rfl) Try.call43 #[(Pv dd), .int .i64 ↑j] (by kernel_rfl) (hcuk.down (k := j) huo (by simp; omega) (by omega) (kt_at hKk hum h2)) ?_
          rintro _ wj ⟨rfl, bsj, capj, hcuj, _⟩
          refine ⟨_, rfl, fun a hS => ?_⟩
          rw [← h4] at hcuj
          refine seg (wide_wide.inRound l2) [.p] [6, 7, 8, 10, 11, 12, 13, 14, 99] [] [(6, (Pv xb)), (7, (Pv vb)), (8, (Pv db)), (10, .int .i64 qp), (11, (Pv q.t.b)), (12, (Pv dd)), (13, .slice pb st.length pc), (14, .int .i64 ↑k), (99, .bool false)] 7 0 hS (by kernel_rfl) (by kernel_rfl) (by kernel_rfl) .nil fun a hS => ?_
          refine seg_end ?_
          refine hK141 _ _ ?_
          refine cond_f hS rfl ?_
          refine wpIn_skip ?_
          refine inBlock_normal ?_
          refine hK140 _ _ ?_
          refine region 3 (by kernel_rfl) ?_
          refine seg (wide_wide.inRound l2) [.p, .as (.int .i64 (↑k + 1)), .p] [6, 7, 8, 10, 11, 12, 13, 14, 99] [Value.int .i64 (IntKind.i64.wrap (↑k + 1)) = .int .i64 (↑k + 1)] [(6, (Pv xb)), (7, (Pv vb)), (8, (Pv db)), (10, .int .i64 qp), (11, (Pv q.t.b)), (12, (Pv dd)), (13, .slice pb st.length pc), (14, .int .i64 (↑k + 1)), (99, .bool false)] 3 0 hS (by kernel_rfl) (by kernel_rfl) (by kernel_rfl) (.cons (as_i64 (by omega)) .nil) fun a hS => ?_
          refine seg_end ?_
          exact ⟨(k + 1, kid.t.b, pu + sumW (u.t.kids.take j), bsj, capj), ⟨hS.keepTo [6, 7, 8, 10, 11, 12, 13, 14] (by kernel_rfl), by omega, hcuj, kid, rfl, h5⟩, by simp only; omega⟩
        · -- decide ((↑k : Int) < ↑st.length) is false
          replace hb139 := of_decide_eq_false hb139
          obtain rfl : k = st.length := by omega
          rw [List.take_length] at hcuk hJu
          obtain ⟨e1, e2⟩ := hJu.det hJ
          have hcu2 : Cu [dd] wp wk dd r.t.b st q.t.b qp bsd capd := by rw [← e1, ← e2]; exact hcuk
          refine wpIn_exit ?_
          refine then_exit ?_
          refine then_exit ?_
          refine inBlock_hit ?_
          refine hK134 _ _ ?_
          refine wpIn_seq_k fun K142 hK142 => ?_
          refine wpIn_seq_k fun K143 hK143 => ?_
          refine region 23 (by kernel_rfl) ?_
          refine seg (wide_wide.inRound l2) [.p, .p, .p] [6, 7, 8, 10, 11, 12, 13, 102] [] [(6, (Pv xb)), (7, (Pv vb)), (8, (Pv db)), (10, .int .i64 qp), (11, (Pv q.t.b)), (12, (Pv dd)), (13, .slice pb st.length pc), (102, (Pv dd))] 3 20 hS (by kernel_rfl) (by kernel_rfl) (by kernel_rfl) .nil fun a hS => ?_
          refine eff_call_ro (wide_wide.inRound l2) (r := 19) (f := 41) (vs := [(Pv dd)]) (cap := #[]) (d := (some 103)) (v := Value.pointer (some ⟨q.t.b, 0, none⟩)) hS (by kernel_rfl) Try.call41 #[(Pv dd)] (by kernel_rfl) (PNode_any hcu2.blk) fun a hS => ?_
          refine seg (wide_wide.inRound l2) [.p, .run (.bool false), .p, .p, .p, .p] [6, 7, 8, 10, 11, 12, 13, 106, 109] [Sem.run Try.prog (vS (do eqGuard .neq 47 (.tmp 103) (.tmp 104) ((Pv q.t.b)) ((Pv q.t.b)); binOp .neq 47 ((Pv q.t.b)) ((Pv q.t.b)))) wk = .ok (.value (.bool false)) wk] [(6, (Pv xb)), (7, (Pv vb)), (8, (Pv db)), (10, .int .i64 qp), (11, (Pv q.t.b)), (12, (Pv dd)), (13, .slice pb st.length pc), (106, .bool false), (109, (Pv dd))] 10 13 hS (by kernel_rfl) (by kernel_rfl) (by kernel_rfl) (.cons (bin_ptr_neq (E := 106) (by kernel_rfl) ⟨12, by kernel_rfl⟩ hrqtb136 hrqtb136 (by simp)) .nil) fun a hS => ?_
          refine eff_call_ro (wide_wide.inRound l2) (r := 12) (f := 40) (vs := [(Pv dd)]) (cap := #[]) (d := (some 110)) (v := Value.int .i64 qp) hS (by kernel_rfl) Try.call40 #[(Pv dd)] (by kernel_rfl) (Offset_any hcu2.blk) fun a hS => ?_
          refine seg (wide_wide.inRound l2) [.p, .as (.bool false), .p, .p, .p, .p, .p] [6, 7, 8, 10, 11, 12, 13, 114, 117] [Value.bool (((qp : Int) != qp)) = .bool false] [(6, (Pv xb)), (7, (Pv vb)), (8, (Pv db)), (10, .int .i64 qp), (11, (Pv q.t.b)), (12, (Pv dd)), (13, .slice pb st.length pc), (114, .bool false), (117, (Pv dd))] 18 5 hS (by kernel_rfl) (by kernel_rfl) (by kernel_rfl) (.cons (as_ne_f (rfl)) .nil) fun a hS => ?_
          refine eff_call (wide_wide.inRound l2) (r := 4) (f := 39) (vs := [(Pv dd)]) (cap := #[]) (d := (some 118)) hS (by kernel_rfl) Try.call39 #[(Pv dd)] (by kernel_rfl) (Path_any hcu2.blk hcu2.row (by omega)) ?_
          rintro _ wp3 ⟨pb3, pc3, rfl, hpv3, hEp3, _⟩
          refine ⟨_, rfl, fun a hS => ?_⟩
          have hcu3 := hcu2.mv0 hEp3
          have hEW3 := hWd hcu3.ext
          have hrxb144 := hWxb.ext hEW3 (by simp)
          have hrvb144 := hWvb.ext hEW3 (by simp)
          have hrdb144 := hdW.ext hEW3 (by simp)
          have hrcb144 := hcW.ext hEW3 (by simp)
          have hrvbs144 := hvW.ext hEW3 (by simp)
          have hrqtb144 := hTq.ext hEW3 (by simp)
          refine seg (wide_wide.inRound l2) [.p] [6, 7, 8, 10, 11, 12, 13, 114, 118, 119] [] [(6, (Pv xb)), (7, (Pv vb)), (8, (Pv db)), (10, .int .i64 qp), (11, (Pv q.t.b)), (12, (Pv dd)), (13, .slice pb st.length pc), (114, .bool false), (118, .slice pb3 st.length pc3), (119, .slice pb st.length pc)] 20 3 hS (by kernel_rfl) (by kernel_rfl) (by kernel_rfl) .nil fun a hS => ?_
          refine eff_call (wide_wide.inRound l2) (r := 2) (f := 44) (vs := [.slice pb3 st.length pc3, .slice pb st.length pc]) (cap := #[]) (d := (some 120)) hS (by kernel_rfl) Try.call44 #[.slice pb3 st.length pc3, .slice pb st.length pc] (by kernel_rfl) (SameInts_eq (xs := idx st) (by have h := hpv3.rd; rw [kidsOf_idx] at h; exact h) (by have h := (hpv.ext hcu3.ext (fun x hx hm => by simp at hm; exact hpn x hx hm.symm)).rd; rw [kidsOf_idx] at h; exact h) (by omega)) ?_
          rintro _ w44 ⟨rfl, hE44⟩
          refine ⟨_, rfl, fun a hS => ?_⟩
          have hcu4 := hcu3.mv0 hE44
          have hEW4 := hWd hcu4.ext
          have hrxb145 := hWxb.ext hEW4 (by simp)
          have hrvb145 := hWvb.ext hEW4 (by simp)
          have hrdb145 := hdW.ext hEW4 (by simp)
          have hrcb145 := hcW.ext hEW4 (by simp)
          have hrvbs145 := hvW.ext hEW4 (by simp)
          have hrqtb145 := hTq.ext hEW4 (by simp)
          refine seg (wide_wide.inRound l2) [.p, .p] [6, 7, 8, 10, 11, 12, 13, 122] [] [(6, (Pv xb)), (7, (Pv vb)), (8, (Pv db)), (10, .int .i64 qp), (11, (Pv q.t.b)), (12, (Pv dd)), (13, .slice pb st.length pc), (122, .bool false)] 23 0 hS (by kernel_rfl) (by kernel_rfl) (by kernel_rfl) .nil fun a hS => ?_
          refine seg_end ?_
          refine hK143 _ _ ?_
          refine cond_f hS rfl ?_
          refine wpIn_skip ?_
          refine hK142 _ _ ?_
          refine wpIn_seq_k fun K146 hK146 => ?_
          refine wpIn_seq_k fun K147 hK147 => ?_
          have hjoin147 : ∀ (a : Act) (w' : World), St 188 [] [(6, (Pv xb)), (7, (Pv vb)), (8, (Pv db)), (171, .bool false)] a → Ext [] W w' → K147 a w' := by
            intro a w5 hS hE5
            have hrxb148 := hWxb.ext hE5 (by simp)
            have hrvb148 := hWvb.ext hE5 (by simp)
            have hrdb148 := hdW.ext hE5 (by simp)
            have hrcb148 := hcW.ext hE5 (by simp)
            have hrvbs148 := hvW.ext hE5 (by simp)
            have hrqtb148 := hTq.ext hE5 (by simp)
            refine hK147 _ _ ?_
            refine cond_f hS rfl ?_
            refine wpIn_skip ?_
            refine hK146 _ _ ?_
            refine wpIn_seq_k fun K149 hK149 => ?_
            have hcc0 : Cu (cb :: db :: oa bs) W W cb r.t.b st q.t.b qp bs cap := ⟨hcW, hvW, .inl (by simp), fun x hx => .inl (by simp [hx]), Ext.refl _ _⟩
            have hcc5 := hcc0.mv0 hE5
            have hqo5 := ((hKW.ext0 hE5).one q hqm).ok
            rcases hkids with hk0 | ⟨kl, ql, q0, hk1, hkq, hq0, hkt0⟩
            · -- an alternative
              refine region 3 (by kernel_rfl) ?_
              refine seg (wide_wide.inRound l2) [.ld ((Pv cb))] [6, 7, 8, 171, 172] [w5.cell? ⟨vb, 0, none⟩ = some ((Pv cb))] [(6, (Pv xb)), (7, (Pv vb)), (8, (Pv db)), (171, .bool false), (172, (Pv cb))] 1 2 hS (by kernel_rfl) (by kernel_rfl) (by kernel_rfl) (.cons (hrvb148.cell 0 rfl) .nil) fun a hS => ?_
              refine eff_call_ro (wide_wide.inRound l2) (r := 1) (f := 43) (vs := [(Pv cb), .int .i64 0]) (cap := #[]) (d := (some 173)) (v := Value.bool false) hS (by kernel_rfl) Try.call43 #[(Pv cb), .int .i64 0] (by kernel_rfl) (Down_ge hqo5 hcc5.blk (by rw [hk0]; simp)) fun a hS => ?_
              refine seg (wide_wide.inRound l2) [.p] [6, 7, 8, 171, 15] [] [(6, (Pv xb)), (7, (Pv vb)), (8, (Pv db)), (171, .bool false), (15, .bool false)] 3 0 hS (by kernel_rfl) (by kernel_rfl) (by kernel_rfl) .nil fun a hS => ?_
              refine seg_end ?_
              refine hK149 _ _ ?_
              refine wpIn_block ?_
              refine loop_ghost (fun ((st2, nb2, p2, bs2, cap2, mo, dn) : List Stp × Nat × Int × Option Addr × Nat × Bool × Bool) a' w' => St 188 [] [(7, (Pv vb)), (8, (Pv db)), (15, .bool mo)] a' ∧ Cu (cb :: db :: oa bs) W w' cb r.t.b st2 nb2 p2 bs2 cap2 ∧ Blk w' vb 70 #[(Pv cb)] ∧ Blk w' db 4 #[.bool dn] ∧ ((mo = true ∧ dn = false ∧ ∃ q2, nb2 = q2.t.b ∧ JW r st2 q2 p2 ∧ post = walk q2.t p2 ++ beh st2) ∨ (mo = false ∧ dn = true ∧ post = []) ∨ (mo = false ∧ dn = false ∧ post = beh st2 ∧ ∃ q2, nb2 = q2.t.b ∧ JW r st2 q2 p2))) (fun ((st2, nb2, p2, bs2, cap2, mo, dn) : List Stp × Nat × Int × Option Addr × Nat × Bool × Bool) => if mo || dn then 0 else st2.length + 1) (st, q.t.b, qp, bs, cap, false, false) ⟨hS.keepTo [7, 8, 15] (by kernel_rfl), hcc5, hrvb148, hrdb148, .inr (.inr ⟨rfl, rfl, by rw [hpost, hk0]; rfl, q, rfl, hJ⟩)⟩ ?_
              rintro ⟨st2, nb2, p2, bs2, cap2, mo, dn⟩ a w7 ⟨hS, hcu7, hvb7, hdb7, hst7⟩
              have hfr7 : Fresh W.heap.size (cb :: db :: oa bs) (cb :: db :: oa bs2) := fun b hb => by
                rcases List.mem_cons.1 hb with rfl | hb
                · exact .inl (by simp)
                rcases List.mem_cons.1 hb with rfl | hb
                · exact .inl (by simp)
                exact hcu7.nr b hb
              have hli7 : Lie w7 (cb :: db :: oa bs2) := fun b hb => by
                rcases List.mem_cons.1 hb with rfl | hb
                · exact hcu7.blk.lt
                rcases List.mem_cons.1 hb with rfl | hb
                · exact hdb7.lt
                exact hcu7.row.lie b (by rw [ob_oa]; exact hb)
              refine wpIn_seq_k fun K150 hK150 => ?_
              refine wpIn_seq_k fun K151 hK151 => ?_
              rcases hst7 with ⟨rfl, rfl, q2, rfl, hJ2, hp2⟩ | ⟨rfl, rfl, hp2⟩ | ⟨rfl, rfl, hp2, q2, rfl, hJ2⟩
              · -- an alternative
                have hli8 := hli7
                refine region 6 (by kernel_rfl) ?_
                refine seg (wide_wide.inRound l2) [.p, .p, .p, .no, .no, .p] [7, 8, 15, 179] [] [(7, (Pv vb)), (8, (Pv db)), (15, .bool true), (179, .bool false)] 6 0 hS (by kernel_rfl) (by kernel_rfl) (by kernel_rfl) .nil fun a hS => ?_
                refine seg_end ?_
                refine hK151 _ _ ?_
                refine cond_f hS rfl ?_
                refine wpIn_exit ?_
                refine then_exit ?_
                refine then_exit ?_
                refine inBlock_hit ?_
                refine inBlock_normal ?_
                exact left_normal (C' := cb :: db :: oa bs2) hcu7.ext hfr7 hli7 ⟨st2, _, p2, bs2, cap2, false, rfl, hcu7.blk, hcu7.row, hdb7, fun _ => ⟨q2, rfl, hJ2, by rw [hxs2, hp2]; simp⟩, fun h => by cases h⟩
              · -- an alternative
                have hli8 := hli7
                refine region 6 (by kernel_rfl) ?_
                refine seg (wide_wide.inRound l2) [.p, .p, .p, .ld (.bool true), .p, .p] [7, 8, 15, 179] [w7.cell? ⟨db, 0, none⟩ = some (.bool true)] [(7, (Pv vb)), (8, (Pv db)), (15, .bool false), (179, .bool false)] 6 0 hS (by kernel_rfl) (by kernel_rfl) (by kernel_rfl) (.cons (hdb7.cell 0 rfl) .nil) fun a hS => ?_
                refine seg_end ?_
                refine hK151 _ _ ?_
                refine cond_f hS rfl ?_
                refine wpIn_exit ?_
                refine then_exit ?_
                refine then_exit ?_
                refine inBlock_hit ?_
                refine inBlock_normal ?_
                exact left_normal (C' := cb :: db :: oa bs2) hcu7.ext hfr7 hli7 ⟨st2, nb2, p2, bs2, cap2, true, rfl, hcu7.blk, hcu7.row, hdb7, fun h => (by cases h), fun _ => by rw [hxs2, hp2]⟩
              · -- an alternative
                have hli8 := hli7
                refine region 6 (by kernel_rfl) ?_
                refine seg (wide_wide.inRound l2) [.p, .p, .p, .ld (.bool false), .p, .p] [7, 8, 15, 179] [w7.cell? ⟨db, 0, none⟩ = some (.bool false)] [(7, (Pv vb)), (8, (Pv db)), (15, .bool false), (179, .bool true)] 6 0 hS (by kernel_rfl) (by kernel_rfl) (by kernel_rfl) (.cons (hdb7.cell 0 rfl) .nil) fun a hS => ?_
                refine seg_end ?_
                refine hK151 _ _ ?_
                refine cond_t hS rfl ?_
                refine wpIn_skip ?_
                refine hK150 _ _ ?_
                refine wpIn_block ?_
                refine wpIn_seq_k fun K152 hK152 => ?_
                have hE17 : Ext [] w1 w7 := hE1W.trans hcu7.ext (fun b hb => by
                  rcases List.mem_cons.1 hb with rfl | hb
                  · exact .inr hw1cb
                  rcases List.mem_cons.1 hb with rfl | hb
                  · exact .inr hw1db
                  · exact .inr (hbs1 b hb))
                have hK7 := hF.ok.ext0 hE17
                have hbd2 := hJ2.bd hK7 hrm
                have hq2m := hJ2.mem hK7 hrm
                have hq2t := (hK7.tt hq2m).1
                rcases hJ2.cases3 hK7 hrm with hst | ⟨st0, u, pu, k, hJ0, hku, hst, hqp, hge⟩ | ⟨st0, u, pu, k, kid2, hJ0, hku, hst, hqp, hk2⟩
                · -- an alternative
                  have hcB : Cu (cb :: db :: oa bs) W w7 cb r.t.b [] q2.t.b p2 bs2 cap2 := by rw [← hst]; exact hcu7
                  refine region 3 (by kernel_rfl) ?_
                  refine seg (wide_wide.inRound l2) [.ld ((Pv cb))] [7, 8, 15, 179, 180] [w7.cell? ⟨vb, 0, none⟩ = some ((Pv cb))] [(7, (Pv vb)), (8, (Pv db)), (15, .bool false), (179, .bool true), (180, (Pv cb))] 1 2 hS (by kernel_rfl) (by kernel_rfl) (by kernel_rfl) (.cons (hvb7.cell 0 rfl) .nil) fun a hS => ?_
                  refine eff_call (wide_wide.inRound l2) (r := 1) (f := 45) (vs := [(Pv cb)]) (cap := #[]) (d := (some 181)) hS (by kernel_rfl) Try.call45 #[(Pv cb)] (by kernel_rfl) (hcB.right0) ?_
                  rintro _ w8 ⟨rfl, hcR, hE8⟩
                  refine ⟨_, rfl, fun a hS => ?_⟩
                  have hv153 := hvb7.ext hE8 (hcu7.notin hvb7 (by decide) (by decide))
                  have hv154 := hdb7.ext hE8 (hcu7.notin hdb7 (by decide) (by decide))
                  refine seg (wide_wide.inRound l2) [.p] [7, 8, 15, 179] [] [(7, (Pv vb)), (8, (Pv db)), (15, .bool false), (179, .bool true)] 3 0 hS (by kernel_rfl) (by kernel_rfl) (by kernel_rfl) .nil fun a hS => ?_
                  refine seg_end ?_
                  refine hK152 _ _ ?_
                  refine wpIn_seq_k fun K155 hK155 => ?_
                  refine region 2 (by kernel_rfl) ?_
                  refine seg (wide_wide.inRound l2) [.p, .p] [7, 8, 15, 179, 183] [] [(7, (Pv vb)), (8, (Pv db)), (15, .bool false), (179, .bool true), (183, .bool true)] 2 0 hS (by kernel_rfl) (by kernel_rfl) (by kernel_rfl) .nil fun a hS => ?_
                  refine seg_end ?_
                  refine hK155 _ _ ?_
                  refine cond_t hS rfl ?_
                  refine region 4 (by kernel_rfl) ?_
                  refine seg (wide_wide.inRound l2) [.ld ((Pv cb))] [7, 8, 15, 179, 183, 184] [w8.cell? ⟨vb, 0, none⟩ = some ((Pv cb))] [(7, (Pv vb)), (8, (Pv db)), (15, .bool false), (179, .bool true), (183, .bool true), (184, (Pv cb))] 1 3 hS (by kernel_rfl) (by kernel_rfl) (by kernel_rfl) (.cons (hv153.cell 0 rfl) .nil) fun a hS => ?_
                  refine eff_call_ro (wide_wide.inRound l2) (r := 2) (f := 42) (vs := [(Pv cb)]) (cap := #[]) (d := (some 185)) (v := Value.bool false) hS (by kernel_rfl) Try.call42 #[(Pv cb)] (by kernel_rfl) (hcR.up0) fun a hS => ?_
                  refine seg (wide_wide.inRound l2) [.p] [7, 8, 15, 179, 183, 186] [] [(7, (Pv vb)), (8, (Pv db)), (15, .bool false), (179, .bool true), (183, .bool true), (186, .bool true)] 3 1 hS (by kernel_rfl) (by kernel_rfl) (by kernel_rfl) .nil fun a hS => ?_
                  refine eff_store (wide_wide.inRound l2) (r := 0) (b := db) (off := 0) (vs := [.bool true]) hS (by kernel_rfl) hv154 (by simp) fun a w156 hw157 hS => ?_
                  have hB158 := Blk.at' hw157 (hv153.updNe (Blk.ne_type hv154 hv153 (by decide)) _ _)
                  have hB159 : Blk w156 db 4 (#[.bool true]) := by rw [hw157]; exact hv154.upd _ _
                  have hX160 : Ext [db] w8 w156 := by rw [hw157]; exact (Ext.refl _ _).updIn (.inl (by simp)) _ _
                  have hG161 : Cu (cb :: db :: oa bs) W w156 cb r.t.b ([]) q2.t.b p2 bs2 cap2 := hcR.store hX160 hv154 (by decide) (by decide) (.inl (by simp))
                  have hE162 : Ext (cb :: db :: oa bs) W w156 := by rw [hw157]; exact hcR.ext.updIn (.inl (by simp)) _ _
                  refine seg_end ?_
                  refine inBlock_normal ?_
                  exact ⟨([], q2.t.b, p2, bs2, cap2, false, true), ⟨hS.keepTo [7, 8, 15] (by kernel_rfl), hG161, hB158, hB159, .inr (.inl ⟨rfl, rfl, by rw [hp2, hst]; rfl⟩)⟩, by simp [hst]⟩
                · -- an alternative
                  have hum := hJ0.mem hK7 hrm
                  have huo : u.t.Ok w7 (sOf F.s0 F.s1 u.k) := (hK7.one u hum).ok
                  have hub := hJ0.bd hK7 hrm
                  have hukl := kids_le huo
                  have hutt := Tr.Ok.tt_pos u.t huo
                  have hkk : k < u.t.kids.length := by rw [kt_len hK7 hum]; exact (List.getElem?_eq_some_iff.1 hku).1
                  have hst0 : st2.length = st0.length + 1 := by rw [hst]; simp
                  have hlb := hJ0.last
                  have hcB : Cu (cb :: db :: oa bs) W w7 cb r.t.b (st0 ++ [(u.t, ((k : Nat) : Int), p2)]) q2.t.b p2 bs2 cap2 := by rw [← hst]; exact hcu7
                  refine region 3 (by kernel_rfl) ?_
                  refine seg (wide_wide.inRound l2) [.ld ((Pv cb))] [7, 8, 15, 179, 180] [w7.cell? ⟨vb, 0, none⟩ = some ((Pv cb))] [(7, (Pv vb)), (8, (Pv db)), (15, .bool false), (179, .bool true), (180, (Pv cb))] 1 2 hS (by kernel_rfl) (by kernel_rfl) (by kernel_rfl) (.cons (hvb7.cell 0 rfl) .nil) fun a hS => ?_
                  refine eff_call (wide_wide.inRound l2) (r := 1) (f := 45) (vs := [(Pv cb)]) (cap := #[]) (d := (some 181)) hS (by kernel_rfl) Try.call45 #[(Pv cb)] (by kernel_rfl) (hcB.right_ge (k := k) (by omega) huo rfl (by omega) hge) ?_
                  rintro _ w8 ⟨rfl, hcR, hE8⟩
                  refine ⟨_, rfl, fun a hS => ?_⟩
                  have hv163 := hvb7.ext hE8 (hcu7.notin hvb7 (by decide) (by decide))
                  have hv164 := hdb7.ext hE8 (hcu7.notin hdb7 (by decide) (by decide))
                  refine seg (wide_wide.inRound l2) [.p] [7, 8, 15, 179] [] [(7, (Pv vb)), (8, (Pv db)), (15, .bool false), (179, .bool true)] 3 0 hS (by kernel_rfl) (by kernel_rfl) (by kernel_rfl) .nil fun a hS => ?_
                  refine seg_end ?_
                  refine hK152 _ _ ?_
                  refine wpIn_seq_k fun K165 hK165 => ?_
                  refine region 2 (by kernel_rfl) ?_
                  refine seg (wide_wide.inRound l2) [.p, .p] [7, 8, 15, 179, 183] [] [(7, (Pv vb)), (8, (Pv db)), (15, .bool false), (179, .bool true), (183, .bool true)] 2 0 hS (by kernel_rfl) (by kernel_rfl) (by kernel_rfl) .nil fun a hS => ?_
                  refine seg_end ?_
                  refine hK165 _ _ ?_
                  refine cond_t hS rfl ?_
                  refine region 4 (by kernel_rfl) ?_
                  refine seg (wide_wide.inRound l2) [.ld ((Pv cb))] [7, 8, 15, 179, 183, 184] [w8.cell? ⟨vb, 0, none⟩ = some ((Pv cb))] [(7, (Pv vb)), (8, (Pv db)), (15, .bool false), (179, .bool true), (183, .bool true), (184, (Pv cb))] 1 3 hS (by kernel_rfl) (by kernel_rfl) (by kernel_rfl) (.cons (hv163.cell 0 rfl) .nil) fun a hS => ?_
                  refine eff_call (wide_wide.inRound l2) (r := 2) (f := 42) (vs := [(Pv cb)]) (cap := #[]) (d := (some 185)) hS (by kernel_rfl) Try.call42 #[(Pv cb)] (by kernel_rfl) (hcR.up (by omega)) ?_
                  rintro _ w9_ ⟨rfl, hcU, hE9⟩
                  refine ⟨_, rfl, fun a hS => ?_⟩
                  have hv166 := hv163.ext hE9 (hcR.notin hv163 (by decide) (by decide))
                  have hv167 := hv164.ext hE9 (hcR.notin hv164 (by decide) (by decide))
                  refine seg (wide_wide.inRound l2) [.p] [7, 8, 15, 179, 183, 186] [] [(7, (Pv vb)), (8, (Pv db)), (15, .bool false), (179, .bool true), (183, .bool true), (186, .bool false)] 3 1 hS (by kernel_rfl) (by kernel_rfl) (by kernel_rfl) .nil fun a hS => ?_
                  refine eff_store (wide_wide.inRound l2) (r := 0) (b := db) (off := 0) (vs := [.bool false]) hS (by kernel_rfl) hv167 (by simp) fun a w168 hw169 hS => ?_
                  have hB170 := Blk.at' hw169 (hv166.updNe (Blk.ne_type hv167 hv166 (by decide)) _ _)
                  have hB171 : Blk w168 db 4 (#[.bool false]) := by rw [hw169]; exact hv167.upd _ _
                  have hX172 : Ext [db] w9_ w168 := by rw [hw169]; exact (Ext.refl _ _).updIn (.inl (by simp)) _ _
                  have hG173 : Cu (cb :: db :: oa bs) W w168 cb r.t.b st0 u.t.b (lastB st0) bs2 cap2 := hcU.store hX172 hv167 (by decide) (by decide) (.inl (by simp))
                  have hE174 : Ext (cb :: db :: oa bs) W w168 := by rw [hw169]; exact hcU.ext.updIn (.inl (by simp)) _ _
                  refine seg_end ?_
                  refine inBlock_normal ?_
                  exact ⟨(st0, u.t.b, lastB st0, bs2, cap2, false, false), ⟨hS.keepTo [7, 8, 15] (by kernel_rfl), hG173, hB170, hB171, .inr (.inr ⟨rfl, rfl, by rw [hp2, hst]; exact beh_up (kt_at hK7 hum hku) hge, u, rfl, by rw [hlb]; exact hJ0⟩)⟩, by simp [hst]⟩
                · -- an alternative
                  have hum := hJ0.mem hK7 hrm
                  have huo : u.t.Ok w7 (sOf F.s0 F.s1 u.k) := (hK7.one u hum).ok
                  have hub := hJ0.bd hK7 hrm
                  have hukl := kids_le huo
                  have hutt := Tr.Ok.tt_pos u.t huo
                  have hkk : k < u.t.kids.length := by rw [kt_len hK7 hum]; exact (List.getElem?_eq_some_iff.1 hku).1
                  have hst0 : st2.length = st0.length + 1 := by rw [hst]; simp
                  have hlb := hJ0.last
                  have hcB : Cu (cb :: db :: oa bs) W w7 cb r.t.b (st0 ++ [(u.t, ((k : Nat) : Int), p2)]) q2.t.b p2 bs2 cap2 := by rw [← hst]; exact hcu7
                  refine region 3 (by kernel_rfl) ?_
                  refine seg (wide_wide.inRound l2) [.ld ((Pv cb))] [7, 8, 15, 179, 180] [w7.cell? ⟨vb, 0, none⟩ = some ((Pv cb))] [(7, (Pv vb)), (8, (Pv db)), (15, .bool false), (179, .bool true), (180, (Pv cb))] 1 2 hS (by kernel_rfl) (by kernel_rfl) (by kernel_rfl) (.cons (hvb7.cell 0 rfl) .nil) fun a hS => ?_
                  refine eff_call (wide_wide.inRound l2) (r := 1) (f := 45) (vs := [(Pv cb)]) (cap := #[]) (d := (some 181)) hS (by kernel_rfl) Try.call45 #[(Pv cb)] (by kernel_rfl) (hcB.right (k := k) (kid := kid2.t) (by omega) huo rfl (by omega) (kt_at hK7 hum hk2) (by omega)) ?_
                  rintro _ w8 ⟨rfl, bs3, cap3, hcR, hE8⟩
                  refine ⟨_, rfl, fun a hS => ?_⟩
                  have hv175 := hvb7.ext hE8 (hcu7.notin hvb7 (by decide) (by decide))
                  have hv176 := hdb7.ext hE8 (hcu7.notin hdb7 (by decide) (by decide))
                  have hJ3 : JW r (st0 ++ [(u.t, ((k + 1 : Nat) : Int), lastB st0 + sumW (u.t.kids.take (k + 1)))]) kid2 (lastB st0 + sumW (u.t.kids.take (k + 1))) := by
                    have h := JW.snoc hJ0 hk2
                    rw [← kids_sum hK7 hum] at h
                    rw [hlb]; exact h
                  refine seg (wide_wide.inRound l2) [.p] [7, 8, 15, 179] [] [(7, (Pv vb)), (8, (Pv db)), (15, .bool true), (179, .bool true)] 3 0 hS (by kernel_rfl) (by kernel_rfl) (by kernel_rfl) .nil fun a hS => ?_
                  refine seg_end ?_
                  refine hK152 _ _ ?_
                  refine wpIn_seq_k fun K177 hK177 => ?_
                  refine region 2 (by kernel_rfl) ?_
                  refine seg (wide_wide.inRound l2) [.p, .p] [7, 8, 15, 179, 183] [] [(7, (Pv vb)), (8, (Pv db)), (15, .bool true), (179, .bool true), (183, .bool false)] 2 0 hS (by kernel_rfl) (by kernel_rfl) (by kernel_rfl) .nil fun a hS => ?_
                  refine seg_end ?_
                  refine hK177 _ _ ?_
                  refine cond_f hS rfl ?_
                  refine wpIn_skip ?_
                  refine inBlock_normal ?_
                  exact ⟨(st0 ++ [(u.t, ((k + 1 : Nat) : Int), lastB st0 + sumW (u.t.kids.take (k + 1)))], kid2.t.b, lastB st0 + sumW (u.t.kids.take (k + 1)), bs3, cap3, true, false), ⟨hS.keepTo [7, 8, 15] (by kernel_rfl), hcR, hv175, hv176, .inl ⟨rfl, rfl, kid2, rfl, hJ3, by rw [hp2, hst, hqp, hlb]; exact beh_right (kt_at hK7 hum hku) (kt_at hK7 hum hk2)⟩⟩, by simp [hst]⟩
            · -- an alternative
              refine region 3 (by kernel_rfl) ?_
              refine seg (wide_wide.inRound l2) [.ld ((Pv cb))] [6, 7, 8, 171, 172] [w5.cell? ⟨vb, 0, none⟩ = some ((Pv cb))] [(6, (Pv xb)), (7, (Pv vb)), (8, (Pv db)), (171, .bool false), (172, (Pv cb))] 1 2 hS (by kernel_rfl) (by kernel_rfl) (by kernel_rfl) (.cons (hrvb148.cell 0 rfl) .nil) fun a hS => ?_
              refine eff_call (wide_wide.inRound l2) (r := 1) (f := 43) (vs := [(Pv cb), .int .i64 0]) (cap := #[]) (d := (some 173)) hS (by kernel_rfl) Try.call43 #[(Pv cb), .int .i64 0] (by kernel_rfl) (hcc5.down (k := 0) hqo5 (by omega) (by omega) hkt0) ?_
              rintro _ wd1 ⟨rfl, bs2, cap2, hcd, hEd1⟩
              refine ⟨_, rfl, fun a hS => ?_⟩
              have hv178 := hrvb148.ext hEd1 (hcc5.notin hrvb148 (by decide) (by decide))
              have hv179 := hrdb148.ext hEd1 (hcc5.notin hrdb148 (by decide) (by decide))
              refine seg (wide_wide.inRound l2) [.p] [6, 7, 8, 171, 15] [] [(6, (Pv xb)), (7, (Pv vb)), (8, (Pv db)), (171, .bool false), (15, .bool true)] 3 0 hS (by kernel_rfl) (by kernel_rfl) (by kernel_rfl) .nil fun a hS => ?_
              refine seg_end ?_
              refine hK149 _ _ ?_
              refine wpIn_block ?_
              refine loop_ghost (fun ((st2, nb2, p2, bs2, cap2, mo, dn) : List Stp × Nat × Int × Option Addr × Nat × Bool × Bool) a' w' => St 188 [] [(7, (Pv vb)), (8, (Pv db)), (15, .bool mo)] a' ∧ Cu (cb :: db :: oa bs) W w' cb r.t.b st2 nb2 p2 bs2 cap2 ∧ Blk w' vb 70 #[(Pv cb)] ∧ Blk w' db 4 #[.bool dn] ∧ ((mo = true ∧ dn = false ∧ ∃ q2, nb2 = q2.t.b ∧ JW r st2 q2 p2 ∧ post = walk q2.t p2 ++ beh st2) ∨ (mo = false ∧ dn = true ∧ post = []) ∨ (mo = false ∧ dn = false ∧ post = beh st2 ∧ ∃ q2, nb2 = q2.t.b ∧ JW r st2 q2 p2))) (fun ((st2, nb2, p2, bs2, cap2, mo, dn) : List Stp × Nat × Int × Option Addr × Nat × Bool × Bool) => if mo || dn then 0 else st2.length + 1) (st ++ [(q.t, ((0 : Nat) : Int), qp + sumW (q.t.kids.take 0))], q0.t.b, qp + sumW (q.t.kids.take 0), bs2, cap2, true, false) ⟨hS.keepTo [7, 8, 15] (by kernel_rfl), hcd, hv178, hv179, .inl ⟨rfl, rfl, q0, rfl, .snoc hJ hq0, by rw [hpost]; exact beh_down hkt0⟩⟩ ?_
              rintro ⟨st2, nb2, p2, bs2, cap2, mo, dn⟩ a w7 ⟨hS, hcu7, hvb7, hdb7, hst7⟩
              have hfr7 : Fresh W.heap.size (cb :: db :: oa bs) (cb :: db :: oa bs2) := fun b hb => by
                rcases List.mem_cons.1 hb with rfl | hb
                · exact .inl (by simp)
                rcases List.mem_cons.1 hb with rfl | hb
                · exact .inl (by simp)
                exact hcu7.nr b hb
              have hli7 : Lie w7 (cb :: db :: oa bs2) := fun b hb => by
                rcases List.mem_cons.1 hb with rfl | hb
                · exact hcu7.blk.lt
                rcases List.mem_cons.1 hb with rfl | hb
                · exact hdb7.lt
                exact hcu7.row.lie b (by rw [ob_oa]; exact hb)
              refine wpIn_seq_k fun K180 hK180 => ?_
              refine wpIn_seq_k fun K181 hK181 => ?_
              rcases hst7 with ⟨rfl, rfl, q2, rfl, hJ2, hp2⟩ | ⟨rfl, rfl, hp2⟩ | ⟨rfl, rfl, hp2, q2, rfl, hJ2⟩
              · -- an alternative
                have hli8 := hli7
                refine region 6 (by kernel_rfl) ?_
                refine seg (wide_wide.inRound l2) [.p, .p, .p, .no, .no, .p] [7, 8, 15, 179] [] [(7, (Pv vb)), (8, (Pv db)), (15, .bool true), (179, .bool false)] 6 0 hS (by kernel_rfl) (by kernel_rfl) (by kernel_rfl) .nil fun a hS => ?_
                refine seg_end ?_
                refine hK181 _ _ ?_
                refine cond_f hS rfl ?_
                refine wpIn_exit ?_
                refine then_exit ?_
                refine then_exit ?_
                refine inBlock_hit ?_
                refine inBlock_normal ?_
                exact left_normal (C' := cb :: db :: oa bs2) hcu7.ext hfr7 hli7 ⟨st2, _, p2, bs2, cap2, false, rfl, hcu7.blk, hcu7.row, hdb7, fun _ => ⟨q2, rfl, hJ2, by rw [hxs2, hp2]; simp⟩, fun h => by cases h⟩
              · -- an alternative
                have hli8 := hli7
                refine region 6 (by kernel_rfl) ?_
                refine seg (wide_wide.inRound l2) [.p, .p, .p, .ld (.bool true), .p, .p] [7, 8, 15, 179] [w7.cell? ⟨db, 0, none⟩ = some (.bool true)] [(7, (Pv vb)), (8, (Pv db)), (15, .bool false), (179, .bool false)] 6 0 hS (by kernel_rfl) (by kernel_rfl) (by kernel_rfl) (.cons (hdb7.cell 0 rfl) .nil) fun a hS => ?_
                refine seg_end ?_
                refine hK181 _ _ ?_
                refine cond_f hS rfl ?_
                refine wpIn_exit ?_
                refine then_exit ?_
                refine then_exit ?_
                refine inBlock_hit ?_
                refine inBlock_normal ?_
                exact left_normal (C' := cb :: db :: oa bs2) hcu7.ext hfr7 hli7 ⟨st2, nb2, p2, bs2, cap2, true, rfl, hcu7.blk, hcu7.row, hdb7, fun h => (by cases h), fun _ => by rw [hxs2, hp2]⟩
              · -- an alternative
                have hli8 := hli7
                refine region 6 (by kernel_rfl) ?_
                refine seg (wide_wide.inRound l2) [.p, .p, .p, .ld (.bool false), .p, .p] [7, 8, 15, 179] [w7.cell? ⟨db, 0, none⟩ = some (.bool false)] [(7, (Pv vb)), (8, (Pv db)), (15, .bool false), (179, .bool true)] 6 0 hS (by kernel_rfl) (by kernel_rfl) (by kernel_rfl) (.cons (hdb7.cell 0 rfl) .nil) fun a hS => ?_
                refine seg_end ?_
                refine hK181 _ _ ?_
                refine cond_t hS rfl ?_
                refine wpIn_skip ?_
                refine hK180 _ _ ?_
                refine wpIn_block ?_
                refine wpIn_seq_k fun K182 hK182 => ?_
                have hE17 : Ext [] w1 w7 := hE1W.trans hcu7.ext (fun b hb => by
                  rcases List.mem_cons.1 hb with rfl | hb
                  · exact .inr hw1cb
                  rcases List.mem_cons.1 hb with rfl | hb
                  · exact .inr hw1db
                  · exact .inr (hbs1 b hb))
                have hK7 := hF.ok.ext0 hE17
                have hbd2 := hJ2.bd hK7 hrm
                have hq2m := hJ2.mem hK7 hrm
                have hq2t := (hK7.tt hq2m).1
                rcases hJ2.cases3 hK7 hrm with hst | ⟨st0, u, pu, k, hJ0, hku, hst, hqp, hge⟩ | ⟨st0, u, pu, k, kid2, hJ0, hku, hst, hqp, hk2⟩
                · -- an alternative
                  have hcB : Cu (cb :: db :: oa bs) W w7 cb r.t.b [] q2.t.b p2 bs2 cap2 := by rw [← hst]; exact hcu7
                  refine region 3 (by kernel_rfl) ?_
                  refine seg (wide_wide.inRound l2) [.ld ((Pv cb))] [7, 8, 15, 179, 180] [w7.cell? ⟨vb, 0, none⟩ = some ((Pv cb))] [(7, (Pv vb)), (8, (Pv db)), (15, .bool false), (179, .bool true), (180, (Pv cb))] 1 2 hS (by kernel_rfl) (by kernel_rfl) (by kernel_rfl) (.cons (hvb7.cell 0 rfl) .nil) fun a hS => ?_
                  refine eff_call (wide_wide.inRound l2) (r := 1) (f := 45) (vs := [(Pv cb)]) (cap := #[]) (d := (some 181)) hS (by kernel_rfl) Try.call45 #[(Pv cb)] (by kernel_rfl) (hcB.right0) ?_
                  rintro _ w8 ⟨rfl, hcR, hE8⟩
                  refine ⟨_, rfl, fun a hS => ?_⟩
                  have hv183 := hvb7.ext hE8 (hcu7.notin hvb7 (by decide) (by decide))
                  have hv184 := hdb7.ext hE8 (hcu7.notin hdb7 (by decide) (by decide))
                  refine seg (wide_wide.inRound l2) [.p] [7, 8, 15, 179] [] [(7, (Pv vb)), (8, (Pv db)), (15, .bool false), (179, .bool true)] 3 0 hS (by kernel_rfl) (by kernel_rfl) (by kernel_rfl) .nil fun a hS => ?_
                  refine seg_end ?_
                  refine hK182 _ _ ?_
                  refine wpIn_seq_k fun K185 hK185 => ?_
                  refine region 2 (by kernel_rfl) ?_
                  refine seg (wide_wide.inRound l2) [.p, .p] [7, 8, 15, 179, 183] [] [(7, (Pv vb)), (8, (Pv db)), (15, .bool false), (179, .bool true), (183, .bool true)] 2 0 hS (by kernel_rfl) (by kernel_rfl) (by kernel_rfl) .nil fun a hS => ?_
                  refine seg_end ?_
                  refine hK185 _ _ ?_
                  refine cond_t hS rfl ?_
                  refine region 4 (by kernel_rfl) ?_
                  refine seg (wide_wide.inRound l2) [.ld ((Pv cb))] [7, 8, 15, 179, 183, 184] [w8.cell? ⟨vb, 0, none⟩ = some ((Pv cb))] [(7, (Pv vb)), (8, (Pv db)), (15, .bool false), (179, .bool true), (183, .bool true), (184, (Pv cb))] 1 3 hS (by kernel_rfl) (by kernel_rfl) (by kernel_rfl) (.cons (hv183.cell 0 rfl) .nil) fun a hS => ?_
                  refine eff_call_ro (wide_wide.inRound l2) (r := 2) (f := 42) (vs := [(Pv cb)]) (cap := #[]) (d := (some 185)) (v := Value.bool false) hS (by kernel_rfl) Try.call42 #[(Pv cb)] (by kernel_rfl) (hcR.up0) fun a hS => ?_
                  refine seg (wide_wide.inRound l2) [.p] [7, 8, 15, 179, 183, 186] [] [(7, (Pv vb)), (8, (Pv db)), (15, .bool false), (179, .bool true), (183, .bool true), (186, .bool true)] 3 1 hS (by kernel_rfl) (by kernel_rfl) (by kernel_rfl) .nil fun a hS => ?_
                  refine eff_store (wide_wide.inRound l2) (r := 0) (b := db) (off := 0) (vs := [.bool true]) hS (by kernel_rfl) hv184 (by simp) fun a w186 hw187 hS => ?_
                  have hB188 := Blk.at' hw187 (hv183.updNe (Blk.ne_type hv184 hv183 (by decide)) _ _)
                  have hB189 : Blk w186 db 4 (#[.bool true]) := by rw [hw187]; exact hv184.upd _ _
                  have hX190 : Ext [db] w8 w186 := by rw [hw187]; exact (Ext.refl _ _).updIn (.inl (by simp)) _ _
                  have hG191 : Cu (cb :: db :: oa bs) W w186 cb r.t.b ([]) q2.t.b p2 bs2 cap2 := hcR.store hX190 hv184 (by decide) (by decide) (.inl (by simp))
                  have hE192 : Ext (cb :: db :: oa bs) W w186 := by rw [hw187]; exact hcR.ext.updIn (.inl (by simp)) _ _
                  refine seg_end ?_
                  refine inBlock_normal ?_
                  exact ⟨([], q2.t.b, p2, bs2, cap2, false, true), ⟨hS.keepTo [7, 8, 15] (by kernel_rfl), hG191, hB188, hB189, .inr (.inl ⟨rfl, rfl, by rw [hp2, hst]; rfl⟩)⟩, by simp [hst]⟩
                · -- an alternative
                  have hum := hJ0.mem hK7 hrm
                  have huo : u.t.Ok w7 (sOf F.s0 F.s1 u.k) := (hK7.one u hum).ok
                  have hub := hJ0.bd hK7 hrm
                  have hukl := kids_le huo
                  have hutt := Tr.Ok.tt_pos u.t huo
                  have hkk : k < u.t.kids.length := by rw [kt_len hK7 hum]; exact (List.getElem?_eq_some_iff.1 hku).1
                  have hst0 : st2.length = st0.length + 1 := by rw [hst]; simp
                  have hlb := hJ0.last
                  have hcB : Cu (cb :: db :: oa bs) W w7 cb r.t.b (st0 ++ [(u.t, ((k : Nat) : Int), p2)]) q2.t.b p2 bs2 cap2 := by rw [← hst]; exact hcu7
                  refine region 3 (by kernel_rfl) ?_
                  refine seg (wide_wide.inRound l2) [.ld ((Pv cb))] [7, 8, 15, 179, 180] [w7.cell? ⟨vb, 0, none⟩ = some ((Pv cb))] [(7, (Pv vb)), (8, (Pv db)), (15, .bool false), (179, .bool true), (180, (Pv cb))] 1 2 hS (by kernel_rfl) (by kernel_rfl) (by kernel_rfl) (.cons (hvb7.cell 0 rfl) .nil) fun a hS => ?_
                  refine eff_call (wide_wide.inRound l2) (r := 1) (f := 45) (vs := [(Pv cb)]) (cap := #[]) (d := (some 181)) hS (by kernel_rfl) Try.call45 #[(Pv cb)] (by kernel_rfl) (hcB.right_ge (k := k) (by omega) huo rfl (by omega) hge) ?_
                  rintro _ w8 ⟨rfl, hcR, hE8⟩
                  refine ⟨_, rfl, fun a hS => ?_⟩
                  have hv193 := hvb7.ext hE8 (hcu7.notin hvb7 (by decide) (by decide))
                  have hv194 := hdb7.ext hE8 (hcu7.notin hdb7 (by decide) (by decide))
                  refine seg (wide_wide.inRound l2) [.p] [7, 8, 15, 179] [] [(7, (Pv vb)), (8, (Pv db)), (15, .bool false), (179, .bool true)] 3 0 hS (by kernel_rfl) (by kernel_rfl) (by kernel_rfl) .nil fun a hS => ?_
                  refine seg_end ?_
                  refine hK182 _ _ ?_
                  refine wpIn_seq_k fun K195 hK195 => ?_
                  refine region 2 (by kernel_rfl) ?_
                  refine seg (wide_wide.inRound l2) [.p, .p] [7, 8, 15, 179, 183] [] [(7, (Pv vb)), (8, (Pv db)), (15, .bool false), (179, .bool true), (183, .bool true)] 2 0 hS (by kernel_rfl) (by kernel_rfl) (by kernel_rfl) .nil fun a hS => ?_
                  refine seg_end ?_
                  refine hK195 _ _ ?_
                  refine cond_t hS rfl ?_
                  refine region 4 (by kernel_rfl) ?_
                  refine seg (wide_wide.inRound l2) [.ld ((Pv cb))] [7, 8, 15, 179, 183, 184] [w8.cell? ⟨vb, 0, none⟩ = some ((Pv cb))] [(7, (Pv vb)), (8, (Pv db)), (15, .bool false), (179, .bool true), (183, .bool true), (184, (Pv cb))] 1 3 hS (by kernel_rfl) (by kernel_rfl) (by kernel_rfl) (.cons (hv193.cell 0 rfl) .nil) fun a hS => ?_
                  refine eff_call (wide_wide.inRound l2) (r := 2) (f := 42) (vs := [(Pv cb)]) (cap := #[]) (d := (some 185)) hS (by kernel_rfl) Try.call42 #[(Pv cb)] (by kernel_rfl) (hcR.up (by omega)) ?_
                  rintro _ w9_ ⟨rfl, hcU, hE9⟩
                  refine ⟨_, rfl, fun a hS => ?_⟩
                  have hv196 := hv193.ext hE9 (hcR.notin hv193 (by decide) (by decide))
                  have hv197 := hv194.ext hE9 (hcR.notin hv194 (by decide) (by decide))
                  refine seg (wide_wide.inRound l2) [.p] [7, 8, 15, 179, 183, 186] [] [(7, (Pv vb)), (8, (Pv db)), (15, .bool false), (179, .bool true), (183, .bool true), (186, .bool false)] 3 1 hS (by kernel_rfl) (by kernel_rfl) (by kernel_rfl) .nil fun a hS => ?_
                  refine eff_store (wide_wide.inRound l2) (r := 0) (b := db) (off := 0) (vs := [.bool false]) hS (by kernel_rfl) hv197 (by simp) fun a w198 hw199 hS => ?_
                  have hB200 := Blk.at' hw199 (hv196.updNe (Blk.ne_type hv197 hv196 (by decide)) _ _)
                  have hB201 : Blk w198 db 4 (#[.bool false]) := by rw [hw199]; exact hv197.upd _ _
                  have hX202 : Ext [db] w9_ w198 := by rw [hw199]; exact (Ext.refl _ _).updIn (.inl (by simp)) _ _
                  have hG203 : Cu (cb :: db :: oa bs) W w198 cb r.t.b st0 u.t.b (lastB st0) bs2 cap2 := hcU.store hX202 hv197 (by decide) (by decide) (.inl (by simp))
                  have hE204 : Ext (cb :: db :: oa bs) W w198 := by rw [hw199]; exact hcU.ext.updIn (.inl (by simp)) _ _
                  refine seg_end ?_
                  refine inBlock_normal ?_
                  exact ⟨(st0, u.t.b, lastB st0, bs2, cap2, false, false), ⟨hS.keepTo [7, 8, 15] (by kernel_rfl), hG203, hB200, hB201, .inr (.inr ⟨rfl, rfl, by rw [hp2, hst]; exact beh_up (kt_at hK7 hum hku) hge, u, rfl, by rw [hlb]; exact hJ0⟩)⟩, by simp [hst]⟩
                · -- an alternative
                  have hum := hJ0.mem hK7 hrm
                  have huo : u.t.Ok w7 (sOf F.s0 F.s1 u.k) := (hK7.one u hum).ok
                  have hub := hJ0.bd hK7 hrm
                  have hukl := kids_le huo
                  have hutt := Tr.Ok.tt_pos u.t huo
                  have hkk : k < u.t.kids.length := by rw [kt_len hK7 hum]; exact (List.getElem?_eq_some_iff.1 hku).1
                  have hst0 : st2.length = st0.length + 1 := by rw [hst]; simp
                  have hlb := hJ0.last
                  have hcB : Cu (cb :: db :: oa bs) W w7 cb r.t.b (st0 ++ [(u.t, ((k : Nat) : Int), p2)]) q2.t.b p2 bs2 cap2 := by rw [← hst]; exact hcu7
                  refine region 3 (by kernel_rfl) ?_
                  refine seg (wide_wide.inRound l2) [.ld ((Pv cb))] [7, 8, 15, 179, 180] [w7.cell? ⟨vb, 0, none⟩ = some ((Pv cb))] [(7, (Pv vb)), (8, (Pv db)), (15, .bool false), (179, .bool true), (180, (Pv cb))] 1 2 hS (by kernel_rfl) (by kernel_rfl) (by kernel_rfl) (.cons (hvb7.cell 0 rfl) .nil) fun a hS => ?_
                  refine eff_call (wide_wide.inRound l2) (r := 1) (f := 45) (vs := [(Pv cb)]) (cap := #[]) (d := (some 181)) hS (by kernel_rfl) Try.call45 #[(Pv cb)] (by kernel_rfl) (hcB.right (k := k) (kid := kid2.t) (by omega) huo rfl (by omega) (kt_at hK7 hum hk2) (by omega)) ?_
                  rintro _ w8 ⟨rfl, bs3, cap3, hcR, hE8⟩
                  refine ⟨_, rfl, fun a hS => ?_⟩
                  have hv205 := hvb7.ext hE8 (hcu7.notin hvb7 (by decide) (by decide))
                  have hv206 := hdb7.ext hE8 (hcu7.notin hdb7 (by decide) (by decide))
                  have hJ3 : JW r (st0 ++ [(u.t, ((k + 1 : Nat) : Int), lastB st0 + sumW (u.t.kids.take (k + 1)))]) kid2 (lastB st0 + sumW (u.t.kids.take (k + 1))) := by
                    have h := JW.snoc hJ0 hk2
                    rw [← kids_sum hK7 hum] at h
                    rw [hlb]; exact h
                  refine seg (wide_wide.inRound l2) [.p] [7, 8, 15, 179] [] [(7, (Pv vb)), (8, (Pv db)), (15, .bool true), (179, .bool true)] 3 0 hS (by kernel_rfl) (by kernel_rfl) (by kernel_rfl) .nil fun a hS => ?_
                  refine seg_end ?_
                  refine hK182 _ _ ?_
                  refine wpIn_seq_k fun K207 hK207 => ?_
                  refine region 2 (by kernel_rfl) ?_
                  refine seg (wide_wide.inRound l2) [.p, .p] [7, 8, 15, 179, 183] [] [(7, (Pv vb)), (8, (Pv db)), (15, .bool true), (179, .bool true), (183, .bool false)] 2 0 hS (by kernel_rfl) (by kernel_rfl) (by kernel_rfl) .nil fun a hS => ?_
                  refine seg_end ?_
                  refine hK207 _ _ ?_
                  refine cond_f hS rfl ?_
                  refine wpIn_skip ?_
                  refine inBlock_normal ?_
                  exact ⟨(st0 ++ [(u.t, ((k + 1 : Nat) : Int), lastB st0 + sumW (u.t.kids.take (k + 1)))], kid2.t.b, lastB st0 + sumW (u.t.kids.take (k + 1)), bs3, cap3, true, false), ⟨hS.keepTo [7, 8, 15] (by kernel_rfl), hcR, hv205, hv206, .inl ⟨rfl, rfl, kid2, rfl, hJ3, by rw [hp2, hst, hqp, hlb]; exact beh_right (kt_at hK7 hum hku) (kt_at hK7 hum hk2)⟩⟩, by simp [hst]⟩
          have hK4 := hKW.ext0 hEW4
          have hlst := hJ.last
          rcases hc3 with hst | ⟨st0, u, pu, k, hJ0, hku, hst, hqp, hge⟩ | ⟨st0, u, pu, k, kid2, hJ0, hku, hst, hqp, hk2⟩ <;> rcases hkids with hk0 | ⟨kl, ql, q0, hk1, hkq, hq0, hkt0⟩
          · -- an alternative
            refine region 49 (by kernel_rfl) ?_
            refine seg (wide_wide.inRound l2) [.p] [6, 7, 8, 10, 11, 12, 13, 122, 123] [] [(6, (Pv xb)), (7, (Pv vb)), (8, (Pv db)), (10, .int .i64 qp), (11, (Pv q.t.b)), (12, (Pv dd)), (13, .slice pb st.length pc), (122, .bool false), (123, (Pv dd))] 1 48 hS (by kernel_rfl) (by kernel_rfl) (by kernel_rfl) .nil fun a hS => ?_
            have hcA : Cu [dd] wp w44 dd r.t.b [] q.t.b qp bsd capd := by rw [← hst]; exact hcu4
            refine eff_call (wide_wide.inRound l2) (r := 47) (f := 45) (vs := [(Pv dd)]) (cap := #[]) (d := (some 124)) hS (by kernel_rfl) Try.call45 #[(Pv dd)] (by kernel_rfl) (hcA.right0) ?_
            rintro _ wr ⟨rfl, hcR, _⟩
            refine ⟨_, rfl, fun a hS => ?_⟩
            have hcuR : Cu [dd] wp wr dd r.t.b st q.t.b qp bsd capd := by rw [hst]; exact hcR
            have hExwr := hWd hcuR.ext
            have hrxb208 := hWxb.ext hExwr (by simp)
            have hrvb208 := hWvb.ext hExwr (by simp)
            have hrdb208 := hdW.ext hExwr (by simp)
            have hrcb208 := hcW.ext hExwr (by simp)
            have hrvbs208 := hvW.ext hExwr (by simp)
            have hrqtb208 := hTq.ext hExwr (by simp)
            refine seg (wide_wide.inRound l2) [.p, .no, .no, .no, .no, .no, .no, .no, .no, .no, .no, .no, .p, .p, .p] [6, 7, 8, 10, 11, 12, 13, 122, 138, 139] [] [(6, (Pv xb)), (7, (Pv vb)), (8, (Pv db)), (10, .int .i64 qp), (11, (Pv q.t.b)), (12, (Pv dd)), (13, .slice pb st.length pc), (122, .bool false), (138, .bool false), (139, (Pv q.t.b))] 17 32 hS (by kernel_rfl) (by kernel_rfl) (by kernel_rfl) .nil fun a hS => ?_
            refine eff_call_ro (wide_wide.inRound l2) (r := 31) (f := 32) (vs := [(Pv q.t.b)]) (cap := #[]) (d := (some 140)) (v := Value.int .i64 ↑q.t.kids.length) hS (by kernel_rfl) Try.call32 #[(Pv q.t.b)] (by kernel_rfl) (Count_any ((hKW.ext0 hExwr).one q hqm).ok) fun a hS => ?_
            refine seg (wide_wide.inRound l2) [.as (.bool false), .p, .no, .no, .no, .no, .no, .no, .no, .no, .no, .no, .no, .no, .no, .no, .no, .no, .no, .no, .no, .no, .no, .no, .no, .no, .no, .no, .no, .p, .p] [6, 7, 8, 10, 11, 12, 13, 122, 171] [Value.bool (decide ((↑q.t.kids.length : Int) > 0)) = .bool false] [(6, (Pv xb)), (7, (Pv vb)), (8, (Pv db)), (10, .int .i64 qp), (11, (Pv q.t.b)), (12, (Pv dd)), (13, .slice pb st.length pc), (122, .bool false), (171, .bool false)] 49 0 hS (by kernel_rfl) (by kernel_rfl) (by kernel_rfl) (.cons (as_f (by simp [hk0])) .nil) fun a hS => ?_
            refine seg_end ?_
            exact hjoin147 _ _ (hS.keepTo [6, 7, 8, 171] (by kernel_rfl)) hExwr
          · -- an alternative
            refine region 49 (by kernel_rfl) ?_
            refine seg (wide_wide.inRound l2) [.p] [6, 7, 8, 10, 11, 12, 13, 122, 123] [] [(6, (Pv xb)), (7, (Pv vb)), (8, (Pv db)), (10, .int .i64 qp), (11, (Pv q.t.b)), (12, (Pv dd)), (13, .slice pb st.length pc), (122, .bool false), (123, (Pv dd))] 1 48 hS (by kernel_rfl) (by kernel_rfl) (by kernel_rfl) .nil fun a hS => ?_
            have hcA : Cu [dd] wp w44 dd r.t.b [] q.t.b qp bsd capd := by rw [← hst]; exact hcu4
            refine eff_call (wide_wide.inRound l2) (r := 47) (f := 45) (vs := [(Pv dd)]) (cap := #[]) (d := (some 124)) hS (by kernel_rfl) Try.call45 #[(Pv dd)] (by kernel_rfl) (hcA.right0) ?_
            rintro _ wr ⟨rfl, hcR, _⟩
            refine ⟨_, rfl, fun a hS => ?_⟩
            have hcuR : Cu [dd] wp wr dd r.t.b st q.t.b qp bsd capd := by rw [hst]; exact hcR
            have hExwr := hWd hcuR.ext
            have hrxb209 := hWxb.ext hExwr (by simp)
            have hrvb209 := hWvb.ext hExwr (by simp)
            have hrdb209 := hdW.ext hExwr (by simp)
            have hrcb209 := hcW.ext hExwr (by simp)
            have hrvbs209 := hvW.ext hExwr (by simp)
            have hrqtb209 := hTq.ext hExwr (by simp)
            refine seg (wide_wide.inRound l2) [.p, .no, .no, .no, .no, .no, .no, .no, .no, .no, .no, .no, .p, .p, .p] [6, 7, 8, 10, 11, 12, 13, 122, 138, 139] [] [(6, (Pv xb)), (7, (Pv vb)), (8, (Pv db)), (10, .int .i64 qp), (11, (Pv q.t.b)), (12, (Pv dd)), (13, .slice pb st.length pc), (122, .bool false), (138, .bool false), (139, (Pv q.t.b))] 17 32 hS (by kernel_rfl) (by kernel_rfl) (by kernel_rfl) .nil fun a hS => ?_
            refine eff_call_ro (wide_wide.inRound l2) (r := 31) (f := 32) (vs := [(Pv q.t.b)]) (cap := #[]) (d := (some 140)) (v := Value.int .i64 ↑q.t.kids.length) hS (by kernel_rfl) Try.call32 #[(Pv q.t.b)] (by kernel_rfl) (Count_any ((hKW.ext0 hExwr).one q hqm).ok) fun a hS => ?_
            refine seg (wide_wide.inRound l2) [.as (.bool true), .p, .p, .p] [6, 7, 8, 10, 11, 12, 13, 122, 138, 142, 143, 144] [Value.bool (decide ((↑q.t.kids.length : Int) > 0)) = .bool true] [(6, (Pv xb)), (7, (Pv vb)), (8, (Pv db)), (10, .int .i64 qp), (11, (Pv q.t.b)), (12, (Pv dd)), (13, .slice pb st.length pc), (122, .bool false), (138, .bool false), (142, .bool true), (143, (Pv dd)), (144, (Pv q.t.b))] 22 27 hS (by kernel_rfl) (by kernel_rfl) (by kernel_rfl) (.cons (as_t (by omega)) .nil) fun a hS => ?_
            refine eff_call_ro (wide_wide.inRound l2) (r := 26) (f := 32) (vs := [(Pv q.t.b)]) (cap := #[]) (d := (some 145)) (v := Value.int .i64 ↑q.t.kids.length) hS (by kernel_rfl) Try.call32 #[(Pv q.t.b)] (by kernel_rfl) (Count_any ((hKW.ext0 hExwr).one q hqm).ok) fun a hS => ?_
            refine seg (wide_wide.inRound l2) [.as (.int .i64 ↑kl)] [6, 7, 8, 10, 11, 12, 13, 122, 138, 142, 143, 146] [Value.int .i64 (IntKind.i64.wrap (↑q.t.kids.length - 1)) = .int .i64 ↑kl] [(6, (Pv xb)), (7, (Pv vb)), (8, (Pv db)), (10, .int .i64 qp), (11, (Pv q.t.b)), (12, (Pv dd)), (13, .slice pb st.length pc), (122, .bool false), (138, .bool false), (142, .bool true), (143, (Pv dd)), (146, .int .i64 ↑kl)] 24 25 hS (by kernel_rfl) (by kernel_rfl) (by kernel_rfl) (.cons ((by rw [show (↑q.t.kids.length - 1 : Int) = ↑kl from by omega]; exact as_i64 (by omega))) .nil) fun a hS => ?_
            refine eff_call (wide_wide.inRound l2) (r := 24) (f := 43) (vs := [(Pv dd), .int .i64 ↑kl]) (cap := #[]) (d := (some 147)) hS (by kernel_rfl) Try.call43 #[(Pv dd), .int .i64 ↑kl] (by kernel_rfl) (hcuR.down (k := kl) ((hKW.ext0 hExwr).one q hqm).ok (by omega) (by omega) hkq) ?_
            rintro _ wdn ⟨rfl, bsn, capn, hcD, _⟩
            refine ⟨_, rfl, fun a hS => ?_⟩
            have hExwdn := hWd hcD.ext
            have hrxb210 := hWxb.ext hExwdn (by simp)
            have hrvb210 := hWvb.ext hExwdn (by simp)
            have hrdb210 := hdW.ext hExwdn (by simp)
            have hrcb210 := hcW.ext hExwdn (by simp)
            have hrvbs210 := hvW.ext hExwdn (by simp)
            have hrqtb210 := hTq.ext hExwdn (by simp)
            refine seg (wide_wide.inRound l2) [.p, .p, .p] [6, 7, 8, 10, 11, 12, 13, 122, 138, 142, 149, 150] [] [(6, (Pv xb)), (7, (Pv vb)), (8, (Pv db)), (10, .int .i64 qp), (11, (Pv q.t.b)), (12, (Pv dd)), (13, .slice pb st.length pc), (122, .bool false), (138, .bool false), (142, .bool true), (149, .bool false), (150, (Pv dd))] 28 21 hS (by kernel_rfl) (by kernel_rfl) (by kernel_rfl) .nil fun a hS => ?_
            refine eff_call (wide_wide.inRound l2) (r := 20) (f := 42) (vs := [(Pv dd)]) (cap := #[]) (d := (some 151)) hS (by kernel_rfl) Try.call42 #[(Pv dd)] (by kernel_rfl) (hcD.up (by omega)) ?_
            rintro _ wup ⟨rfl, hcU, _⟩
            refine ⟨_, rfl, fun a hS => ?_⟩
            have hcuU : Cu [dd] wp wup dd r.t.b st q.t.b qp bsn capn := by
              have h := hcU
              rw [hlst] at h; exact h
            have hExwup := hWd hcuU.ext
            have hrxb211 := hWxb.ext hExwup (by simp)
            have hrvb211 := hWvb.ext hExwup (by simp)
            have hrdb211 := hdW.ext hExwup (by simp)
            have hrcb211 := hcW.ext hExwup (by simp)
            have hrvbs211 := hvW.ext hExwup (by simp)
            have hrqtb211 := hTq.ext hExwup (by simp)
            refine seg (wide_wide.inRound l2) [.p, .p, .p, .p, .p, .p] [6, 7, 8, 10, 11, 12, 13, 122, 138, 142, 154, 157] [] [(6, (Pv xb)), (7, (Pv vb)), (8, (Pv db)), (10, .int .i64 qp), (11, (Pv q.t.b)), (12, (Pv dd)), (13, .slice pb st.length pc), (122, .bool false), (138, .bool false), (142, .bool true), (154, .bool false), (157, (Pv dd))] 35 14 hS (by kernel_rfl) (by kernel_rfl) (by kernel_rfl) .nil fun a hS => ?_
            refine eff_call_ro (wide_wide.inRound l2) (r := 13) (f := 41) (vs := [(Pv dd)]) (cap := #[]) (d := (some 158)) (v := Value.pointer (some ⟨q.t.b, 0, none⟩)) hS (by kernel_rfl) Try.call41 #[(Pv dd)] (by kernel_rfl) (PNode_any hcuU.blk) fun a hS => ?_
            refine seg (wide_wide.inRound l2) [.p, .run (.bool false), .p, .p, .p, .p, .p] [6, 7, 8, 10, 11, 12, 13, 122, 138, 142, 162, 165] [Sem.run Try.prog (vS (do eqGuard .neq 47 (.tmp 158) (.tmp 159) ((Pv q.t.b)) ((Pv q.t.b)); binOp .neq 47 ((Pv q.t.b)) ((Pv q.t.b)))) wup = .ok (.value (.bool false)) wup] [(6, (Pv xb)), (7, (Pv vb)), (8, (Pv db)), (10, .int .i64 qp), (11, (Pv q.t.b)), (12, (Pv dd)), (13, .slice pb st.length pc), (122, .bool false), (138, .bool false), (142, .bool true), (162, .bool false), (165, (Pv dd))] 43 6 hS (by kernel_rfl) (by kernel_rfl) (by kernel_rfl) (.cons (bin_ptr_neq (E := 106) (by kernel_rfl) ⟨12, by kernel_rfl⟩ hrqtb211 hrqtb211 (by simp)) .nil) fun a hS => ?_
            refine eff_call_ro (wide_wide.inRound l2) (r := 5) (f := 40) (vs := [(Pv dd)]) (cap := #[]) (d := (some 166)) (v := Value.int .i64 qp) hS (by kernel_rfl) Try.call40 #[(Pv dd)] (by kernel_rfl) (Offset_any hcuU.blk) fun a hS => ?_
            refine seg (wide_wide.inRound l2) [.p, .as (.bool false), .p, .p, .p] [6, 7, 8, 10, 11, 12, 13, 122, 171] [Value.bool (((qp : Int) != qp)) = .bool false] [(6, (Pv xb)), (7, (Pv vb)), (8, (Pv db)), (10, .int .i64 qp), (11, (Pv q.t.b)), (12, (Pv dd)), (13, .slice pb st.length pc), (122, .bool false), (171, .bool false)] 49 0 hS (by kernel_rfl) (by kernel_rfl) (by kernel_rfl) (.cons (as_ne_f (rfl)) .nil) fun a hS => ?_
            refine seg_end ?_
            exact hjoin147 _ _ (hS.keepTo [6, 7, 8, 171] (by kernel_rfl)) hExwup
          · -- an alternative
            have hum := hJ0.mem hKW hrm
            have huo : u.t.Ok w44 (sOf F.s0 F.s1 u.k) := (hK4.one u hum).ok
            have hub := hJ0.bd hKW hrm
            have hukl := kids_le huo
            have hutt := Tr.Ok.tt_pos u.t huo
            have hkk : k < u.t.kids.length := by rw [kt_len hK4 hum]; exact (List.getElem?_eq_some_iff.1 hku).1
            have hst0 : st.length = st0.length + 1 := by rw [hst]; simp
            have hlb := hJ0.last
            have hcB : Cu [dd] wp w44 dd r.t.b (st0 ++ [(u.t, ((k : Nat) : Int), qp)]) q.t.b qp bsd capd := by rw [← hst]; exact hcu4
            refine region 49 (by kernel_rfl) ?_
            refine seg (wide_wide.inRound l2) [.p] [6, 7, 8, 10, 11, 12, 13, 122, 123] [] [(6, (Pv xb)), (7, (Pv vb)), (8, (Pv db)), (10, .int .i64 qp), (11, (Pv q.t.b)), (12, (Pv dd)), (13, .slice pb st.length pc), (122, .bool false), (123, (Pv dd))] 1 48 hS (by kernel_rfl) (by kernel_rfl) (by kernel_rfl) .nil fun a hS => ?_
            refine eff_call (wide_wide.inRound l2) (r := 47) (f := 45) (vs := [(Pv dd)]) (cap := #[]) (d := (some 124)) hS (by kernel_rfl) Try.call45 #[(Pv dd)] (by kernel_rfl) (hcB.right_ge (k := k) (by omega) huo rfl (by omega) hge) ?_
            rintro _ wr ⟨rfl, hcR, _⟩
            refine ⟨_, rfl, fun a hS => ?_⟩
            have hcuR : Cu [dd] wp wr dd r.t.b st q.t.b qp bsd capd := by rw [hst]; exact hcR
            have hExwr := hWd hcuR.ext
            have hrxb212 := hWxb.ext hExwr (by simp)
            have hrvb212 := hWvb.ext hExwr (by simp)
            have hrdb212 := hdW.ext hExwr (by simp)
            have hrcb212 := hcW.ext hExwr (by simp)
            have hrvbs212 := hvW.ext hExwr (by simp)
            have hrqtb212 := hTq.ext hExwr (by simp)
            refine seg (wide_wide.inRound l2) [.p, .no, .no, .no, .no, .no, .no, .no, .no, .no, .no, .no, .p, .p, .p] [6, 7, 8, 10, 11, 12, 13, 122, 138, 139] [] [(6, (Pv xb)), (7, (Pv vb)), (8, (Pv db)), (10, .int .i64 qp), (11, (Pv q.t.b)), (12, (Pv dd)), (13, .slice pb st.length pc), (122, .bool false), (138, .bool false), (139, (Pv q.t.b))] 17 32 hS (by kernel_rfl) (by kernel_rfl) (by kernel_rfl) .nil fun a hS => ?_
            refine eff_call_ro (wide_wide.inRound l2) (r := 31) (f := 32) (vs := [(Pv q.t.b)]) (cap := #[]) (d := (some 140)) (v := Value.int .i64 ↑q.t.kids.length) hS (by kernel_rfl) Try.call32 #[(Pv q.t.b)] (by kernel_rfl) (Count_any ((hKW.ext0 hExwr).one q hqm).ok) fun a hS => ?_
            refine seg (wide_wide.inRound l2) [.as (.bool false), .p, .no, .no, .no, .no, .no, .no, .no, .no, .no, .no, .no, .no, .no, .no, .no, .no, .no, .no, .no, .no, .no, .no, .no, .no, .no, .no, .no, .p, .p] [6, 7, 8, 10, 11, 12, 13, 122, 171] [Value.bool (decide ((↑q.t.kids.length : Int) > 0)) = .bool false] [(6, (Pv xb)), (7, (Pv vb)), (8, (Pv db)), (10, .int .i64 qp), (11, (Pv q.t.b)), (12, (Pv dd)), (13, .slice pb st.length pc), (122, .bool false), (171, .bool false)] 49 0 hS (by kernel_rfl) (by kernel_rfl) (by kernel_rfl) (.cons (as_f (by simp [hk0])) .nil) fun a hS => ?_
            refine seg_end ?_
            exact hjoin147 _ _ (hS.keepTo [6, 7, 8, 171] (by kernel_rfl)) hExwr
          · -- an alternative
            have hum := hJ0.mem hKW hrm
            have huo : u.t.Ok w44 (sOf F.s0 F.s1 u.k) := (hK4.one u hum).ok
            have hub := hJ0.bd hKW hrm
            have hukl := kids_le huo
            have hutt := Tr.Ok.tt_pos u.t huo
            have hkk : k < u.t.kids.length := by rw [kt_len hK4 hum]; exact (List.getElem?_eq_some_iff.1 hku).1
            have hst0 : st.length = st0.length + 1 := by rw [hst]; simp
            have hlb := hJ0.last
            have hcB : Cu [dd] wp w44 dd r.t.b (st0 ++ [(u.t, ((k : Nat) : Int), qp)]) q.t.b qp bsd capd := by rw [← hst]; exact hcu4
            refine region 49 (by kernel_rfl) ?_
            refine seg (wide_wide.inRound l2) [.p] [6, 7, 8, 10, 11, 12, 13, 122, 123] [] [(6, (Pv xb)), (7, (Pv vb)), (8, (Pv db)), (10, .int .i64 qp), (11, (Pv q.t.b)), (12, (Pv dd)), (13, .slice pb st.length pc), (122, .bool false), (123, (Pv dd))] 1 48 hS (by kernel_rfl) (by kernel_rfl) (by kernel_rfl) .nil fun a hS => ?_
            refine eff_call (wide_wide.inRound l2) (r := 47) (f := 45) (vs := [(Pv dd)]) (cap := #[]) (d := (some 124)) hS (by kernel_rfl) Try.call45 #[(Pv dd)] (by kernel_rfl) (hcB.right_ge (k := k) (by omega) huo rfl (by omega) hge) ?_
            rintro _ wr ⟨rfl, hcR, _⟩
            refine ⟨_, rfl, fun a hS => ?_⟩
            have hcuR : Cu [dd] wp wr dd r.t.b st q.t.b qp bsd capd := by rw [hst]; exact hcR
            have hExwr := hWd hcuR.ext
            have hrxb213 := hWxb.ext hExwr (by simp)
            have hrvb213 := hWvb.ext hExwr (by simp)
            have hrdb213 := hdW.ext hExwr (by simp)
            have hrcb213 := hcW.ext hExwr (by simp)
            have hrvbs213 := hvW.ext hExwr (by simp)
            have hrqtb213 := hTq.ext hExwr (by simp)
            refine seg (wide_wide.inRound l2) [.p, .no, .no, .no, .no, .no, .no, .no, .no, .no, .no, .no, .p, .p, .p] [6, 7, 8, 10, 11, 12, 13, 122, 138, 139] [] [(6, (Pv xb)), (7, (Pv vb)), (8, (Pv db)), (10, .int .i64 qp), (11, (Pv q.t.b)), (12, (Pv dd)), (13, .slice pb st.length pc), (122, .bool false), (138, .bool false), (139, (Pv q.t.b))] 17 32 hS (by kernel_rfl) (by kernel_rfl) (by kernel_rfl) .nil fun a hS => ?_
            refine eff_call_ro (wide_wide.inRound l2) (r := 31) (f := 32) (vs := [(Pv q.t.b)]) (cap := #[]) (d := (some 140)) (v := Value.int .i64 ↑q.t.kids.length) hS (by kernel_rfl) Try.call32 #[(Pv q.t.b)] (by kernel_rfl) (Count_any ((hKW.ext0 hExwr).one q hqm).ok) fun a hS => ?_
            refine seg (wide_wide.inRound l2) [.as (.bool true), .p, .p, .p] [6, 7, 8, 10, 11, 12, 13, 122, 138, 142, 143, 144] [Value.bool (decide ((↑q.t.kids.length : Int) > 0)) = .bool true] [(6, (Pv xb)), (7, (Pv vb)), (8, (Pv db)), (10, .int .i64 qp), (11, (Pv q.t.b)), (12, (Pv dd)), (13, .slice pb st.length pc), (122, .bool false), (138, .bool false), (142, .bool true), (143, (Pv dd)), (144, (Pv q.t.b))] 22 27 hS (by kernel_rfl) (by kernel_rfl) (by kernel_rfl) (.cons (as_t (by omega)) .nil) fun a hS => ?_
            refine eff_call_ro (wide_wide.inRound l2) (r := 26) (f := 32) (vs := [(Pv q.t.b)]) (cap := #[]) (d := (some 145)) (v := Value.int .i64 ↑q.t.kids.length) hS (by kernel_rfl) Try.call32 #[(Pv q.t.b)] (by kernel_rfl) (Count_any ((hKW.ext0 hExwr).one q hqm).ok) fun a hS => ?_
            refine seg (wide_wide.inRound l2) [.as (.int .i64 ↑kl)] [6, 7, 8, 10, 11, 12, 13, 122, 138, 142, 143, 146] [Value.int .i64 (IntKind.i64.wrap (↑q.t.kids.length - 1)) = .int .i64 ↑kl] [(6, (Pv xb)), (7, (Pv vb)), (8, (Pv db)), (10, .int .i64 qp), (11, (Pv q.t.b)), (12, (Pv dd)), (13, .slice pb st.length pc), (122, .bool false), (138, .bool false), (142, .bool true), (143, (Pv dd)), (146, .int .i64 ↑kl)] 24 25 hS (by kernel_rfl) (by kernel_rfl) (by kernel_rfl) (.cons ((by rw [show (↑q.t.kids.length - 1 : Int) = ↑kl from by omega]; exact as_i64 (by omega))) .nil) fun a hS => ?_
            refine eff_call (wide_wide.inRound l2) (r := 24) (f := 43) (vs := [(Pv dd), .int .i64 ↑kl]) (cap := #[]) (d := (some 147)) hS (by kernel_rfl) Try.call43 #[(Pv dd), .int .i64 ↑kl] (by kernel_rfl) (hcuR.down (k := kl) ((hKW.ext0 hExwr).one q hqm).ok (by omega) (by omega) hkq) ?_
            rintro _ wdn ⟨rfl, bsn, capn, hcD, _⟩
            refine ⟨_, rfl, fun a hS => ?_⟩
            have hExwdn := hWd hcD.ext
            have hrxb214 := hWxb.ext hExwdn (by simp)
            have hrvb214 := hWvb.ext hExwdn (by simp)
            have hrdb214 := hdW.ext hExwdn (by simp)
            have hrcb214 := hcW.ext hExwdn (by simp)
            have hrvbs214 := hvW.ext hExwdn (by simp)
            have hrqtb214 := hTq.ext hExwdn (by simp)
            refine seg (wide_wide.inRound l2) [.p, .p, .p] [6, 7, 8, 10, 11, 12, 13, 122, 138, 142, 149, 150] [] [(6, (Pv xb)), (7, (Pv vb)), (8, (Pv db)), (10, .int .i64 qp), (11, (Pv q.t.b)), (12, (Pv dd)), (13, .slice pb st.length pc), (122, .bool false), (138, .bool false), (142, .bool true), (149, .bool false), (150, (Pv dd))] 28 21 hS (by kernel_rfl) (by kernel_rfl) (by kernel_rfl) .nil fun a hS => ?_
            refine eff_call (wide_wide.inRound l2) (r := 20) (f := 42) (vs := [(Pv dd)]) (cap := #[]) (d := (some 151)) hS (by kernel_rfl) Try.call42 #[(Pv dd)] (by kernel_rfl) (hcD.up (by omega)) ?_
            rintro _ wup ⟨rfl, hcU, _⟩
            refine ⟨_, rfl, fun a hS => ?_⟩
            have hcuU : Cu [dd] wp wup dd r.t.b st q.t.b qp bsn capn := by
              have h := hcU
              rw [hlst] at h; exact h
            have hExwup := hWd hcuU.ext
            have hrxb215 := hWxb.ext hExwup (by simp)
            have hrvb215 := hWvb.ext hExwup (by simp)
            have hrdb215 := hdW.ext hExwup (by simp)
            have hrcb215 := hcW.ext hExwup (by simp)
            have hrvbs215 := hvW.ext hExwup (by simp)
            have hrqtb215 := hTq.ext hExwup (by simp)
            refine seg (wide_wide.inRound l2) [.p, .p, .p, .p, .p, .p] [6, 7, 8, 10, 11, 12, 13, 122, 138, 142, 154, 157] [] [(6, (Pv xb)), (7, (Pv vb)), (8, (Pv db)), (10, .int .i64 qp), (11, (Pv q.t.b)), (12, (Pv dd)), (13, .slice pb st.length pc), (122, .bool false), (138, .bool false), (142, .bool true), (154, .bool false), (157, (Pv dd))] 35 14 hS (by kernel_rfl) (by kernel_rfl) (by kernel_rfl) .nil fun a hS => ?_
            refine eff_call_ro (wide_wide.inRound l2) (r := 13) (f := 41) (vs := [(Pv dd)]) (cap := #[]) (d := (some 158)) (v := Value.pointer (some ⟨q.t.b, 0, none⟩)) hS (by kernel_rfl) Try.call41 #[(Pv dd)] (by kernel_rfl) (PNode_any hcuU.blk) fun a hS => ?_
            refine seg (wide_wide.inRound l2) [.p, .run (.bool false), .p, .p, .p, .p, .p] [6, 7, 8, 10, 11, 12, 13, 122, 138, 142, 162, 165] [Sem.run Try.prog (vS (do eqGuard .neq 47 (.tmp 158) (.tmp 159) ((Pv q.t.b)) ((Pv q.t.b)); binOp .neq 47 ((Pv q.t.b)) ((Pv q.t.b)))) wup = .ok (.value (.bool false)) wup] [(6, (Pv xb)), (7, (Pv vb)), (8, (Pv db)), (10, .int .i64 qp), (11, (Pv q.t.b)), (12, (Pv dd)), (13, .slice pb st.length pc), (122, .bool false), (138, .bool false), (142, .bool true), (162, .bool false), (165, (Pv dd))] 43 6 hS (by kernel_rfl) (by kernel_rfl) (by kernel_rfl) (.cons (bin_ptr_neq (E := 106) (by kernel_rfl) ⟨12, by kernel_rfl⟩ hrqtb215 hrqtb215 (by simp)) .nil) fun a hS => ?_
            refine eff_call_ro (wide_wide.inRound l2) (r := 5) (f := 40) (vs := [(Pv dd)]) (cap := #[]) (d := (some 166)) (v := Value.int .i64 qp) hS (by kernel_rfl) Try.call40 #[(Pv dd)] (by kernel_rfl) (Offset_any hcuU.blk) fun a hS => ?_
            refine seg (wide_wide.inRound l2) [.p, .as (.bool false), .p, .p, .p] [6, 7, 8, 10, 11, 12, 13, 122, 171] [Value.bool (((qp : Int) != qp)) = .bool false] [(6, (Pv xb)), (7, (Pv vb)), (8, (Pv db)), (10, .int .i64 qp), (11, (Pv q.t.b)), (12, (Pv dd)), (13, .slice pb st.length pc), (122, .bool false), (171, .bool false)] 49 0 hS (by kernel_rfl) (by kernel_rfl) (by kernel_rfl) (.cons (as_ne_f (rfl)) .nil) fun a hS => ?_
            refine seg_end ?_
            exact hjoin147 _ _ (hS.keepTo [6, 7, 8, 171] (by kernel_rfl)) hExwup
          · -- an alternative
            have hum := hJ0.mem hKW hrm
            have huo : u.t.Ok w44 (sOf F.s0 F.s1 u.k) := (hK4.one u hum).ok
            have hub := hJ0.bd hKW hrm
            have hukl := kids_le huo
            have hutt := Tr.Ok.tt_pos u.t huo
            have hkk : k < u.t.kids.length := by rw [kt_len hK4 hum]; exact (List.getElem?_eq_some_iff.1 hku).1
            have hst0 : st.length = st0.length + 1 := by rw [hst]; simp
            have hlb := hJ0.last
            have hcB : Cu [dd] wp w44 dd r.t.b (st0 ++ [(u.t, ((k : Nat) : Int), qp)]) q.t.b qp bsd capd := by rw [← hst]; exact hcu4
            refine region 49 (by kernel_rfl) ?_
            refine seg (wide_wide.inRound l2) [.p] [6, 7, 8, 10, 11, 12, 13, 122, 123] [] [(6, (Pv xb)), (7, (Pv vb)), (8, (Pv db)), (10, .int .i64 qp), (11, (Pv q.t.b)), (12, (Pv dd)), (13, .slice pb st.length pc), (122, .bool false), (123, (Pv dd))] 1 48 hS (by kernel_rfl) (by kernel_rfl) (by kernel_rfl) .nil fun a hS => ?_
            refine eff_call (wide_wide.inRound l2) (r := 47) (f := 45) (vs := [(Pv dd)]) (cap := #[]) (d := (some 124)) hS (by kernel_rfl) Try.call45 #[(Pv dd)] (by kernel_rfl) (hcB.right (k := k) (kid := kid2.t) (by omega) huo rfl (by omega) (kt_at hK4 hum hk2) (by omega)) ?_
            rintro _ wr ⟨rfl, bsr, capr, hcR, _⟩
            refine ⟨_, rfl, fun a hS => ?_⟩
            have hExwr := hWd hcR.ext
            have hrxb216 := hWxb.ext hExwr (by simp)
            have hrvb216 := hWvb.ext hExwr (by simp)
            have hrdb216 := hdW.ext hExwr (by simp)
            have hrcb216 := hcW.ext hExwr (by simp)
            have hrvbs216 := hvW.ext hExwr (by simp)
            have hrqtb216 := hTq.ext hExwr (by simp)
            refine seg (wide_wide.inRound l2) [.p, .p] [6, 7, 8, 10, 11, 12, 13, 122, 125, 126] [] [(6, (Pv xb)), (7, (Pv vb)), (8, (Pv db)), (10, .int .i64 qp), (11, (Pv q.t.b)), (12, (Pv dd)), (13, .slice pb st.length pc), (122, .bool false), (125, .bool true), (126, (Pv dd))] 4 45 hS (by kernel_rfl) (by kernel_rfl) (by kernel_rfl) .nil fun a hS => ?_
            refine eff_call (wide_wide.inRound l2) (r := 44) (f := 46) (vs := [(Pv dd)]) (cap := #[]) (d := (some 127)) hS (by kernel_rfl) Try.call46 #[(Pv dd)] (by kernel_rfl) (hcR.left (k := k) (kid := q.t) (by omega) ((hKW.ext0 hExwr).one u hum).ok rfl (by omega) (kt_at hK4 hum hku) (by omega)) ?_
            rintro _ wl ⟨rfl, bsl, capl, hcL, _⟩
            refine ⟨_, rfl, fun a hS => ?_⟩
            have hcuR : Cu [dd] wp wl dd r.t.b st q.t.b qp bsl capl := by
              have h := hcL
              rw [hlb, ← hqp] at h
              rw [hst]; exact h
            have hExwl := hWd hcuR.ext
            have hrxb217 := hWxb.ext hExwl (by simp)
            have hrvb217 := hWvb.ext hExwl (by simp)
            have hrdb217 := hdW.ext hExwl (by simp)
            have hrcb217 := hcW.ext hExwl (by simp)
            have hrvbs217 := hvW.ext hExwl (by simp)
            have hrqtb217 := hTq.ext hExwl (by simp)
            refine seg (wide_wide.inRound l2) [.p, .p, .p, .p, .p] [6, 7, 8, 10, 11, 12, 13, 122, 125, 129, 132] [] [(6, (Pv xb)), (7, (Pv vb)), (8, (Pv db)), (10, .int .i64 qp), (11, (Pv q.t.b)), (12, (Pv dd)), (13, .slice pb st.length pc), (122, .bool false), (125, .bool true), (129, .bool false), (132, (Pv dd))] 10 39 hS (by kernel_rfl) (by kernel_rfl) (by kernel_rfl) .nil fun a hS => ?_
            refine eff_call_ro (wide_wide.inRound l2) (r := 38) (f := 41) (vs := [(Pv dd)]) (cap := #[]) (d := (some 133)) (v := Value.pointer (some ⟨q.t.b, 0, none⟩)) hS (by kernel_rfl) Try.call41 #[(Pv dd)] (by kernel_rfl) (PNode_any hcuR.blk) fun a hS => ?_
            refine seg (wide_wide.inRound l2) [.p, .run (.bool false), .p, .p, .p, .p] [6, 7, 8, 10, 11, 12, 13, 122, 138, 139] [Sem.run Try.prog (vS (do eqGuard .neq 47 (.tmp 133) (.tmp 134) ((Pv q.t.b)) ((Pv q.t.b)); binOp .neq 47 ((Pv q.t.b)) ((Pv q.t.b)))) wl = .ok (.value (.bool false)) wl] [(6, (Pv xb)), (7, (Pv vb)), (8, (Pv db)), (10, .int .i64 qp), (11, (Pv q.t.b)), (12, (Pv dd)), (13, .slice pb st.length pc), (122, .bool false), (138, .bool false), (139, (Pv q.t.b))] 17 32 hS (by kernel_rfl) (by kernel_rfl) (by kernel_rfl) (.cons (bin_ptr_neq (E := 106) (by kernel_rfl) ⟨12, by kernel_rfl⟩ hrqtb217 hrqtb217 (by simp)) .nil) fun a hS => ?_
            refine eff_call_ro (wide_wide.inRound l2) (r := 31) (f := 32) (vs := [(Pv q.t.b)]) (cap := #[]) (d := (some 140)) (v := Value.int .i64 ↑q.t.kids.length) hS (by kernel_rfl) Try.call32 #[(Pv q.t.b)] (by kernel_rfl) (Count_any ((hKW.ext0 hExwl).one q hqm).ok) fun a hS => ?_
            refine seg (wide_wide.inRound l2) [.as (.bool false), .p, .no, .no, .no, .no, .no, .no, .no, .no, .no, .no, .no, .no, .no, .no, .no, .no, .no, .no, .no, .no, .no, .no, .no, .no, .no, .no, .no, .p, .p] [6, 7, 8, 10, 11, 12, 13, 122, 171] [Value.bool (decide ((↑q.t.kids.length : Int) > 0)) = .bool false] [(6, (Pv xb)), (7, (Pv vb)), (8, (Pv db)), (10, .int .i64 qp), (11, (Pv q.t.b)), (12, (Pv dd)), (13, .slice pb st.length pc), (122, .bool false), (171, .bool false)] 49 0 hS (by kernel_rfl) (by kernel_rfl) (by kernel_rfl) (.cons (as_f (by simp [hk0])) .nil) fun a hS => ?_
            refine seg_end ?_
            exact hjoin147 _ _ (hS.keepTo [6, 7, 8, 171] (by kernel_rfl)) hExwl
          · -- an alternative
            have hum := hJ0.mem hKW hrm
            have huo : u.t.Ok w44 (sOf F.s0 F.s1 u.k) := (hK4.one u hum).ok
            have hub := hJ0.bd hKW hrm
            have hukl := kids_le huo
            have hutt := Tr.Ok.tt_pos u.t huo
            have hkk : k < u.t.kids.length := by rw [kt_len hK4 hum]; exact (List.getElem?_eq_some_iff.1 hku).1
            have hst0 : st.length = st0.length + 1 := by rw [hst]; simp
            have hlb := hJ0.last
            have hcB : Cu [dd] wp w44 dd r.t.b (st0 ++ [(u.t, ((k : Nat) : Int), qp)]) q.t.b qp bsd capd := by rw [← hst]; exact hcu4
            refine region 49 (by kernel_rfl) ?_
            refine seg (wide_wide.inRound l2) [.p] [6, 7, 8, 10, 11, 12, 13, 122, 123] [] [(6, (Pv xb)), (7, (Pv vb)), (8, (Pv db)), (10, .int .i64 qp), (11, (Pv q.t.b)), (12, (Pv dd)), (13, .slice pb st.length pc), (122, .bool false), (123, (Pv dd))] 1 48 hS (by kernel_rfl) (by kernel_rfl) (by kernel_rfl) .nil fun a hS => ?_
            refine eff_call (wide_wide.inRound l2) (r := 47) (f := 45) (vs := [(Pv dd)]) (cap := #[]) (d := (some 124)) hS (by kernel_rfl) Try.call45 #[(Pv dd)] (by kernel_rfl) (hcB.right (k := k) (kid := kid2.t) (by omega) huo rfl (by omega) (kt_at hK4 hum hk2) (by omega)) ?_
            rintro _ wr ⟨rfl, bsr, capr, hcR, _⟩
            refine ⟨_, rfl, fun a hS => ?_⟩
            have hExwr := hWd hcR.ext
            have hrxb218 := hWxb.ext hExwr (by simp)
            have hrvb218 := hWvb.ext hExwr (by simp)
            have hrdb218 := hdW.ext hExwr (by simp)
            have hrcb218 := hcW.ext hExwr (by simp)
            have hrvbs218 := hvW.ext hExwr (by simp)
            have hrqtb218 := hTq.ext hExwr (by simp)
            refine seg (wide_wide.inRound l2) [.p, .p] [6, 7, 8, 10, 11, 12, 13, 122, 125, 126] [] [(6, (Pv xb)), (7, (Pv vb)), (8, (Pv db)), (10, .int .i64 qp), (11, (Pv q.t.b)), (12, (Pv dd)), (13, .slice pb st.length pc), (122, .bool false), (125, .bool true), (126, (Pv dd))] 4 45 hS (by kernel_rfl) (by kernel_rfl) (by kernel_rfl) .nil fun a hS => ?_
            refine eff_call (wide_wide.inRound l2) (r := 44) (f := 46) (vs := [(Pv dd)]) (cap := #[]) (d := (some 127)) hS (by kernel_rfl) Try.call46 #[(Pv dd)] (by kernel_rfl) (hcR.left (k := k) (kid := q.t) (by omega) ((hKW.ext0 hExwr).one u hum).ok rfl (by omega) (kt_at hK4 hum hku) (by omega)) ?_
            rintro _ wl ⟨rfl, bsl, capl, hcL, _⟩
            refine ⟨_, rfl, fun a hS => ?_⟩
            have hcuR : Cu [dd] wp wl dd r.t.b st q.t.b qp bsl capl := by
              have h := hcL
              rw [hlb, ← hqp] at h
              rw [hst]; exact h
            have hExwl := hWd hcuR.ext
            have hrxb219 := hWxb.ext hExwl (by simp)
            have hrvb219 := hWvb.ext hExwl (by simp)
            have hrdb219 := hdW.ext hExwl (by simp)
            have hrcb219 := hcW.ext hExwl (by simp)
            have hrvbs219 := hvW.ext hExwl (by simp)
            have hrqtb219 := hTq.ext hExwl (by simp)
            refine seg (wide_wide.inRound l2) [.p, .p, .p, .p, .p] [6, 7, 8, 10, 11, 12, 13, 122, 125, 129, 132] [] [(6, (Pv xb)), (7, (Pv vb)), (8, (Pv db)), (10, .int .i64 qp), (11, (Pv q.t.b)), (12, (Pv dd)), (13, .slice pb st.length pc), (122, .bool false), (125, .bool true), (129, .bool false), (132, (Pv dd))] 10 39 hS (by kernel_rfl) (by kernel_rfl) (by kernel_rfl) .nil fun a hS => ?_
            refine eff_call_ro (wide_wide.inRound l2) (r := 38) (f := 41) (vs := [(Pv dd)]) (cap := #[]) (d := (some 133)) (v := Value.pointer (some ⟨q.t.b, 0, none⟩)) hS (by kernel_rfl) Try.call41 #[(Pv dd)] (by kernel_rfl) (PNode_any hcuR.blk) fun a hS => ?_
            refine seg (wide_wide.inRound l2) [.p, .run (.bool false), .p, .p, .p, .p] [6, 7, 8, 10, 11, 12, 13, 122, 138, 139] [Sem.run Try.prog (vS (do eqGuard .neq 47 (.tmp 133) (.tmp 134) ((Pv q.t.b)) ((Pv q.t.b)); binOp .neq 47 ((Pv q.t.b)) ((Pv q.t.b)))) wl = .ok (.value (.bool false)) wl] [(6, (Pv xb)), (7, (Pv vb)), (8, (Pv db)), (10, .int .i64 qp), (11, (Pv q.t.b)), (12, (Pv dd)), (13, .slice pb st.length pc), (122, .bool false), (138, .bool false), (139, (Pv q.t.b))] 17 32 hS (by kernel_rfl) (by kernel_rfl) (by kernel_rfl) (.cons (bin_ptr_neq (E := 106) (by kernel_rfl) ⟨12, by kernel_rfl⟩ hrqtb219 hrqtb219 (by simp)) .nil) fun a hS => ?_
            refine eff_call_ro (wide_wide.inRound l2) (r := 31) (f := 32) (vs := [(Pv q.t.b)]) (cap := #[]) (d := (some 140)) (v := Value.int .i64 ↑q.t.kids.length) hS (by kernel_rfl) Try.call32 #[(Pv q.t.b)] (by kernel_rfl) (Count_any ((hKW.ext0 hExwl).one q hqm).ok) fun a hS => ?_
            refine seg (wide_wide.inRound l2) [.as (.bool true), .p, .p, .p] [6, 7, 8, 10, 11, 12, 13, 122, 138, 142, 143, 144] [Value.bool (decide ((↑q.t.kids.length : Int) > 0)) = .bool true] [(6, (Pv xb)), (7, (Pv vb)), (8, (Pv db)), (10, .int .i64 qp), (11, (Pv q.t.b)), (12, (Pv dd)), (13, .slice pb st.length pc), (122, .bool false), (138, .bool false), (142, .bool true), (143, (Pv dd)), (144, (Pv q.t.b))] 22 27 hS (by kernel_rfl) (by kernel_rfl) (by kernel_rfl) (.cons (as_t (by omega)) .nil) fun a hS => ?_
            refine eff_call_ro (wide_wide.inRound l2) (r := 26) (f := 32) (vs := [(Pv q.t.b)]) (cap := #[]) (d := (some 145)) (v := Value.int .i64 ↑q.t.kids.length) hS (by kernel_rfl) Try.call32 #[(Pv q.t.b)] (by kernel_rfl) (Count_any ((hKW.ext0 hExwl).one q hqm).ok) fun a hS => ?_
            refine seg (wide_wide.inRound l2) [.as (.int .i64 ↑kl)] [6, 7, 8, 10, 11, 12, 13, 122, 138, 142, 143, 146] [Value.int .i64 (IntKind.i64.wrap (↑q.t.kids.length - 1)) = .int .i64 ↑kl] [(6, (Pv xb)), (7, (Pv vb)), (8, (Pv db)), (10, .int .i64 qp), (11, (Pv q.t.b)), (12, (Pv dd)), (13, .slice pb st.length pc), (122, .bool false), (138, .bool false), (142, .bool true), (143, (Pv dd)), (146, .int .i64 ↑kl)] 24 25 hS (by kernel_rfl) (by kernel_rfl) (by kernel_rfl) (.cons ((by rw [show (↑q.t.kids.length - 1 : Int) = ↑kl from by omega]; exact as_i64 (by omega))) .nil) fun a hS => ?_
            refine eff_call (wide_wide.inRound l2) (r := 24) (f := 43) (vs := [(Pv dd), .int .i64 ↑kl]) (cap := #[]) (d := (some 147)) hS (by kernel_rfl) Try.call43 #[(Pv dd), .int .i64 ↑kl] (by kernel_rfl) (hcuR.down (k := kl) ((hKW.ext0 hExwl).one q hqm).ok (by omega) (by omega) hkq) ?_
            rintro _ wdn ⟨rfl, bsn, capn, hcD, _⟩
            refine ⟨_, rfl, fun a hS => ?_⟩
            have hExwdn := hWd hcD.ext
            have hrxb220 := hWxb.ext hExwdn (by simp)
            have hrvb220 := hWvb.ext hExwdn (by simp)
            have hrdb220 := hdW.ext hExwdn (by simp)
            have hrcb220 := hcW.ext hExwdn (by simp)
            have hrvbs220 := hvW.ext hExwdn (by simp)
            have hrqtb220 := hTq.ext hExwdn (by simp)
            refine seg (wide_wide.inRound l2) [.p, .p, .p] [6, 7, 8, 10, 11, 12, 13, 122, 138, 142, 149, 150] [] [(6, (Pv xb)), (7, (Pv vb)), (8, (Pv db)), (10, .int .i64 qp), (11, (Pv q.t.b)), (12, (Pv dd)), (13, .slice pb st.length pc), (122, .bool false), (138, .bool false), (142, .bool true), (149, .bool false), (150, (Pv dd))] 28 21 hS (by kernel_rfl) (by kernel_rfl) (by kernel_rfl) .nil fun a hS => ?_
            refine eff_call (wide_wide.inRound l2) (r := 20) (f := 42) (vs := [(Pv dd)]) (cap := #[]) (d := (some 151)) hS (by kernel_rfl) Try.call42 #[(Pv dd)] (by kernel_rfl) (hcD.up (by omega)) ?_
            rintro _ wup ⟨rfl, hcU, _⟩
            refine ⟨_, rfl, fun a hS => ?_⟩
            have hcuU : Cu [dd] wp wup dd r.t.b st q.t.b qp bsn capn := by
              have h := hcU
              rw [hlst] at h; exact h
            have hExwup := hWd hcuU.ext
            have hrxb221 := hWxb.ext hExwup (by simp)
            have hrvb221 := hWvb.ext hExwup (by simp)
            have hrdb221 := hdW.ext hExwup (by simp)
            have hrcb221 := hcW.ext hExwup (by simp)
            have hrvbs221 := hvW.ext hExwup (by simp)
            have hrqtb221 := hTq.ext hExwup (by simp)
            refine seg (wide_wide.inRound l2) [.p, .p, .p, .p, .p, .p] [6, 7, 8, 10, 11, 12, 13, 122, 138, 142, 154, 157] [] [(6, (Pv xb)), (7, (Pv vb)), (8, (Pv db)), (10, .int .i64 qp), (11, (Pv q.t.b)), (12, (Pv dd)), (13, .slice pb st.length pc), (122, .bool false), (138, .bool false), (142, .bool true), (154, .bool false), (157, (Pv dd))] 35 14 hS (by kernel_rfl) (by kernel_rfl) (by kernel_rfl) .nil fun a hS => ?_
            refine eff_call_ro (wide_wide.inRound l2) (r := 13) (f := 41) (vs := [(Pv dd)]) (cap := #[]) (d := (some 158)) (v := Value.pointer (some ⟨q.t.b, 0, none⟩)) hS (by kernel_rfl) Try.call41 #[(Pv dd)] (by kernel_rfl) (PNode_any hcuU.blk) fun a hS => ?_
            refine seg (wide_wide.inRound l2) [.p, .run (.bool false), .p, .p, .p, .p, .p] [6, 7, 8, 10, 11, 12, 13, 122, 138, 142, 162, 165] [Sem.run Try.prog (vS (do eqGuard .neq 47 (.tmp 158) (.tmp 159) ((Pv q.t.b)) ((Pv q.t.b)); binOp .neq 47 ((Pv q.t.b)) ((Pv q.t.b)))) wup = .ok (.value (.bool false)) wup] [(6, (Pv xb)), (7, (Pv vb)), (8, (Pv db)), (10, .int .i64 qp), (11, (Pv q.t.b)), (12, (Pv dd)), (13, .slice pb st.length pc), (122, .bool false), (138, .bool false), (142, .bool true), (162, .bool false), (165, (Pv dd))] 43 6 hS (by kernel_rfl) (by kernel_rfl) (by kernel_rfl) (.cons (bin_ptr_neq (E := 106) (by kernel_rfl) ⟨12, by kernel_rfl⟩ hrqtb221 hrqtb221 (by simp)) .nil) fun a hS => ?_
            refine eff_call_ro (wide_wide.inRound l2) (r := 5) (f := 40) (vs := [(Pv dd)]) (cap := #[]) (d := (some 166)) (v := Value.int .i64 qp) hS (by kernel_rfl) Try.call40 #[(Pv dd)] (by kernel_rfl) (Offset_any hcuU.blk) fun a hS => ?_
            refine seg (wide_wide.inRound l2) [.p, .as (.bool false), .p, .p, .p] [6, 7, 8, 10, 11, 12, 13, 122, 171] [Value.bool (((qp : Int) != qp)) = .bool false] [(6, (Pv xb)), (7, (Pv vb)), (8, (Pv db)), (10, .int .i64 qp), (11, (Pv q.t.b)), (12, (Pv dd)), (13, .slice pb st.length pc), (122, .bool false), (171, .bool false)] 49 0 hS (by kernel_rfl) (by kernel_rfl) (by kernel_rfl) (.cons (as_ne_f (rfl)) .nil) fun a hS => ?_
            refine seg_end ?_
            exact hjoin147 _ _ (hS.keepTo [6, 7, 8, 171] (by kernel_rfl)) hExwup
      · rintro Cx wd a hEd hfrd hlied hDd ⟨st, nb, p, bs, cap, dn, rfl, _, _, hdd, hd0, hd1⟩ hS
        obtain rfl : dn = true := by
          cases dn
          · obtain ⟨q, _, _, h⟩ := hd0 rfl
            have h := congrArg List.length h
            rw [walk_eq q.t] at h
            simp at h
          · rfl
        obtain ⟨D1, hDe⟩ : ∃ D, D = wi1.heap.size := ⟨_, rfl⟩
        rw [← hDe] at hDd hS
        have hDn : w.heap.size ≤ D1 := by rw [hDe]; exact hFwi1.size
        have hEe : Ext [] w wd := hFwi1.trans hEd (fun b hb => by rcases (by simpa using hb : b = cb ∨ b = db) with rfl | rfl <;> first | exact .inr hncu | exact .inr hwdb)
        have hrd := hNrb.ext hEd (by simpa using ⟨hnerbcb, hnerbdb⟩)
        replace hS : St 188 ([D1].map dmark) [(2, (Pv rb)), (8, (Pv db))] a := hS.keepTo [2, 8] (by kernel_rfl)
        refine inBlock_normal ?_
        refine hK122 _ _ ?_
        refine wpIn_seq_k fun K222 hK222 => ?_
        refine region 2 (by kernel_rfl) ?_
        refine seg wide_wide [.ld (.bool true)] [2, 8, 187] [wd.cell? ⟨db, 0, none⟩ = some (.bool true)] [(2, (Pv rb)), (8, (Pv db)), (187, .bool true)] 1 1 hS (by kernel_rfl) (by kernel_rfl) (by kernel_rfl) (.cons (hdd.cell 0 rfl) .nil) fun a hS => ?_
        refine eff_store wide_wide (r := 0) (b := rb) (off := 0) (vs := [.bool true]) hS (by kernel_rfl) hrd (by simp) fun a w223 hw224 hS => ?_
        have hB225 : Blk w223 rb 4 (#[.bool true]) := by rw [hw224]; exact hrd.upd _ _
        have hB226 := Blk.at' hw224 (hdd.updNe hnerbdb _ _)
        have hX227 : Ext [rb] wd w223 := by rw [hw224]; exact (Ext.refl _ _).updIn (.inl (by simp)) _ _
        have hG228 : Dfr w223 D1 := hDd.ext hX227 (by simpa using hDd.ne_blk hrd)
        have hE229 : Ext [] w w223 := by rw [hw224]; exact hEe.updIn (.inr hwrb) _ _
        refine seg_end ?_
        refine hK222 _ _ ?_
        refine wpIn_ret ?_
        refine retMc [D1] (T' := 4) hS Try.results9 (by kernel_rfl) rfl hB225 (by intro D hD; obtain rfl := (by simpa using hD : D = D1); exact hG228) (by simp) fun w99 hE99 => ?_
        exact ⟨rfl, hE229.trans hE99 (by intro b hb; obtain rfl := (by simpa using hb : b = D1); exact .inr hDn)⟩
      · intro c pr Cx W a _ _ _ _ _ h; exact h.elim
  · -- an alternative
    refine ⟨_, rfl, fun a hS => ?_⟩
    refine seg wide_wide [.p] [0, 2, 3, 4, 22, 5] [] [(0, v), (2, (Pv w.heap.size)), (3, (Pv F.fb)), (4, .bool true), (22, .bool false), (5, .int .i64 (-1))] 3 0 hS (by kernel_rfl) (by kernel_rfl) (by kernel_rfl) .nil fun a hS => ?_
    refine seg_end ?_
    refine hK11 _ _ ?_
    refine wpIn_seq_k fun K230 hK230 => ?_
    refine wpIn_seq_k fun K231 hK231 => ?_
    refine region 15 (by kernel_rfl) ?_
    refine seg wide_wide [.p, .p, .p, .no, .no, .no, .no, .no, .no, .no, .no, .no, .no, .no, .p] [0, 2, 3, 4, 22, 5, 39] [] [(0, v), (2, (Pv w.heap.size)), (3, (Pv F.fb)), (4, .bool true), (22, .bool false), (5, .int .i64 (-1)), (39, .bool true)] 15 0 hS (by kernel_rfl) (by kernel_rfl) (by kernel_rfl) .nil fun a hS => ?_
    refine seg_end ?_
    refine hK231 _ _ ?_
    refine cond_t hS rfl ?_
    refine wpIn_seq_k fun K232 hK232 => ?_
    refine region 1 (by kernel_rfl) ?_
    refine eff_store wide_wide (r := 0) (b := w.heap.size) (off := 0) (vs := [.bool true]) hS (by kernel_rfl) hB8 (by simp) fun a w233 hw234 hS => ?_
    have hB235 : Blk w233 w.heap.size 4 (#[.bool true]) := by rw [hw234]; exact hB8.upd _ _
    have hB236 := Blk.at' hw234 (hF.f.updNe (Blk.ne_type hB8 hF.f (by decide)) _ _)
    have hB237 := OwnV.at' hw234 (hF.P.updNe (OwnV.ne hF.P hB8 (by decide)) _ _)
    have hB238 := OwnV.at' hw234 (hF.R.updNe (OwnV.ne hF.R hB8 (by decide)) _ _)
    have hE239 : Ext [] w w233 := by rw [hw234]; exact hE1.updIn (.inr hs5) _ _
    refine seg_end ?_
    refine hK232 _ _ ?_
    refine wpIn_ret ?_
    refine then_ret ?_
    refine retMc [] (T' := 4) hS Try.results9 (by kernel_rfl) rfl hB235 (by simp) (by simp) fun w99 hE99 => ?_
    exact ⟨rfl, hE239.trans0 hE99⟩

end Go.Proofs.Ytpglmeeledmkoaa
