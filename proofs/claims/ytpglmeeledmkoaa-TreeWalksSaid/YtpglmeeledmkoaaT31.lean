import Derived.Test.YtpglmeeledmkoaaProg
import Derived.Test.YtpglmeeledmkoaaVc
import Derived.Test.YtpglmeeledmkoaaT27
namespace Go.Proofs.Ytpglmeeledmkoaa
open Go.Vc

theorem _root_.Go.Vc.OwnV.ext0' {w w' : World} {e : TypeId} {size n : Nat} {v : Value} {xs : List Value} (h : OwnV w e size v n xs) (hE : Ext [] w w') : OwnV w' e size v n xs := h.ext hE (by simp)

set_option maxHeartbeats 4000000 in
theorem Walked_w {N m : Nat} {w : World} {F : Fo} (hF : FI N m w F) {i : Nat} {r : Rf} {lw : List (Sp × Value)} {wv : Value} {stop : Int} (hr : F.L[i]? = some r) (hO : OwnV w 43 3 wv lw.length (spc lw)) (hxs : lw.map (fun q => (q.1.at_, q.1.r.t)) = (walk r.t 0)) (hin : ∀ q ∈ lw, q.1.r ∈ F.L) (hb : lw.length ≤ 1000000000) :
    Calls Try.prog 15 #[(Pv F.fb), .int .i64 ↑i, wv, .bool false, .int .i64 stop] w fun e w' => e = .returned (.bool true) ∧ Ext [] w w' := by
  have hi : i < F.L.length := (List.getElem?_eq_some_iff.1 hr).1
  have hrm := List.mem_of_getElem? hr
  have hxl : (walk r.t 0).length = lw.length := by rw [← hxs, List.length_map]
  obtain ⟨wb, wc, rfl⟩ := hO.form
  refine calls_bodyM 141 [(0, (Pv F.fb)), (1, .int .i64 ↑i), (2, (.slice wb lw.length wc)), (3, .bool false), (4, .int .i64 stop)] Try.func15 rfl (by kernel_rfl) (by kernel_rfl) (by kernel_rfl) fun a hS => ?_
  have hE0 : Ext [] w w := Ext.refl _ _
  refine wpIn_seq_k fun K1 hK1 => ?_
  refine region 4 (by kernel_rfl) ?_
  refine eff_box wide_wide (r := 3) (cs := #[(Pv F.fb)]) (T := 24) (d := (some 5)) hS (by kernel_rfl) fun a w2 hw3 hS => ?_
  have hn4 : F.fb ≠ w.heap.size := Nat.ne_of_lt hF.f.lt
  have hn5 : ∀ x ∈ ob (.slice F.pb F.L.length F.pc), w.heap.size ≠ x := fun x hx => Nat.ne_of_gt (hF.P.lie x hx)
  have hn6 : ∀ x ∈ ob (.slice F.qb F.L.length F.qc), w.heap.size ≠ x := fun x hx => Nat.ne_of_gt (hF.R.lie x hx)
  have hB7 := Blk.at' hw3 (hF.f.alloc _)
  have hB8 := OwnV.at' hw3 (hF.P.alloc _)
  have hB9 := OwnV.at' hw3 (hF.R.alloc _)
  have hB10 : Blk w2 (w.heap.size) 24 #[(Pv F.fb)] := by rw [hw3]; exact Blk.new _ _ _
  have hs11 : w.heap.size ≤ w.heap.size := hE0.size
  have hE12 : Ext [] w w2 := by rw [hw3]; exact hE0.alloc _
  refine eff_box wide_wide (r := 2) (cs := #[(.slice wb lw.length wc)]) (T := 28) (d := (some 7)) hS (by kernel_rfl) fun a w13 hw14 hS => ?_
  have hn15 : F.fb ≠ w2.heap.size := Nat.ne_of_lt hB7.lt
  have hn16 : ∀ x ∈ ob (.slice F.pb F.L.length F.pc), w2.heap.size ≠ x := fun x hx => Nat.ne_of_gt (hB8.lie x hx)
  have hn17 : ∀ x ∈ ob (.slice F.qb F.L.length F.qc), w2.heap.size ≠ x := fun x hx => Nat.ne_of_gt (hB9.lie x hx)
  have hn18 : w.heap.size ≠ w2.heap.size := Nat.ne_of_lt hB10.lt
  have hB19 := Blk.at' hw14 (hB7.alloc _)
  have hB20 := OwnV.at' hw14 (hB8.alloc _)
  have hB21 := OwnV.at' hw14 (hB9.alloc _)
  have hB22 := Blk.at' hw14 (hB10.alloc _)
  have hB23 : Blk w13 (w2.heap.size) 28 #[(.slice wb lw.length wc)] := by rw [hw14]; exact Blk.new _ _ _
  have hs24 : w.heap.size ≤ w2.heap.size := hE12.size
  have hE25 : Ext [] w w13 := by rw [hw14]; exact hE12.alloc _
  refine eff_box wide_wide (r := 1) (cs := #[.int .i64 stop]) (T := 3) (d := (some 9)) hS (by kernel_rfl) fun a w26 hw27 hS => ?_
  have hn28 : F.fb ≠ w13.heap.size := Nat.ne_of_lt hB19.lt
  have hn29 : ∀ x ∈ ob (.slice F.pb F.L.length F.pc), w13.heap.size ≠ x := fun x hx => Nat.ne_of_gt (hB20.lie x hx)
  have hn30 : ∀ x ∈ ob (.slice F.qb F.L.length F.qc), w13.heap.size ≠ x := fun x hx => Nat.ne_of_gt (hB21.lie x hx)
  have hn31 : w.heap.size ≠ w13.heap.size := Nat.ne_of_lt hB22.lt
  have hn32 : w2.heap.size ≠ w13.heap.size := Nat.ne_of_lt hB23.lt
  have hB33 := Blk.at' hw27 (hB19.alloc _)
  have hB34 := OwnV.at' hw27 (hB20.alloc _)
  have hB35 := OwnV.at' hw27 (hB21.alloc _)
  have hB36 := Blk.at' hw27 (hB22.alloc _)
  have hB37 := Blk.at' hw27 (hB23.alloc _)
  have hB38 : Blk w26 (w13.heap.size) 3 #[.int .i64 stop] := by rw [hw27]; exact Blk.new _ _ _
  have hs39 : w.heap.size ≤ w13.heap.size := hE25.size
  have hE40 : Ext [] w w26 := by rw [hw27]; exact hE25.alloc _
  refine eff_box wide_wide (r := 0) (cs := #[.bool false]) (T := 4) (d := (some 10)) hS (by kernel_rfl) fun a w41 hw42 hS => ?_
  have hn43 : F.fb ≠ w26.heap.size := Nat.ne_of_lt hB33.lt
  have hn44 : ∀ x ∈ ob (.slice F.pb F.L.length F.pc), w26.heap.size ≠ x := fun x hx => Nat.ne_of_gt (hB34.lie x hx)
  have hn45 : ∀ x ∈ ob (.slice F.qb F.L.length F.qc), w26.heap.size ≠ x := fun x hx => Nat.ne_of_gt (hB35.lie x hx)
  have hn46 : w.heap.size ≠ w26.heap.size := Nat.ne_of_lt hB36.lt
  have hn47 : w2.heap.size ≠ w26.heap.size := Nat.ne_of_lt hB37.lt
  have hn48 : w13.heap.size ≠ w26.heap.size := Nat.ne_of_lt hB38.lt
  have hB49 := Blk.at' hw42 (hB33.alloc _)
  have hB50 := OwnV.at' hw42 (hB34.alloc _)
  have hB51 := OwnV.at' hw42 (hB35.alloc _)
  have hB52 := Blk.at' hw42 (hB36.alloc _)
  have hB53 := Blk.at' hw42 (hB37.alloc _)
  have hB54 := Blk.at' hw42 (hB38.alloc _)
  have hB55 : Blk w41 (w26.heap.size) 4 #[.bool false] := by rw [hw42]; exact Blk.new _ _ _
  have hs56 : w.heap.size ≤ w26.heap.size := hE40.size
  have hE57 : Ext [] w w41 := by rw [hw42]; exact hE40.alloc _
  refine seg_end ?_
  refine hK1 _ _ ?_
  refine wpIn_seq_k fun K58 hK58 => ?_
  refine region 10 (by kernel_rfl) ?_
  refine seg wide_wide [.ld ((Pv F.fb)), .p, .p, .ld (.slice F.pb F.L.length F.pc), .p, .run (.pointer (some ⟨bof (.slice F.pb F.L.length F.pc), 0 + i * 1, none⟩)), .ld ((Pv r.t.b))] [0, 1, 2, 3, 4, 5, 7, 9, 10, 25] [w41.cell? ⟨w.heap.size, 0, none⟩ = some ((Pv F.fb)), w41.cell? ⟨F.fb, 2, none⟩ = some (.slice F.pb F.L.length F.pc), Sem.run Try.prog (vS (Instr.indexAt 32 (.slice F.pb F.L.length F.pc) (.int .i64 ↑i))) w41 = .ok (.value (.pointer (some ⟨bof (.slice F.pb F.L.length F.pc), 0 + i * 1, none⟩))) w41, w41.cell? ⟨bof (.slice F.pb F.L.length F.pc), 0 + i * 1, none⟩ = some ((Pv r.t.b))] [(0, (Pv F.fb)), (1, .int .i64 ↑i), (2, (.slice wb lw.length wc)), (3, .bool false), (4, .int .i64 stop), (5, (Pv w.heap.size)), (7, (Pv w2.heap.size)), (9, (Pv w13.heap.size)), (10, (Pv w26.heap.size)), (25, (Pv r.t.b))] 7 3 hS (by kernel_rfl) (by kernel_rfl) (by kernel_rfl) (.cons (hB52.cell 0 rfl) (.cons (hB49.cell 2 rfl) (.cons (ix_own (j := i) (hB50) (by kernel_rfl) (by kernel_rfl) rfl hi) (.cons ((hB50).cellAt _ (by simp [hr, Tr.ptr])) .nil)))) fun a hS => ?_
  refine eff_call wide_wide (r := 2) (f := 29) (vs := [(Pv r.t.b)]) (cap := #[]) (d := (some 26)) hS (by kernel_rfl) Try.call29 #[(Pv r.t.b)] (by kernel_rfl) (Walk_any r.t.b w41) ?_
  rintro _ wq1 ⟨rfl, hw59⟩
  refine ⟨_, rfl, fun a hS => ?_⟩
  have hEwq1 : Ext [] w41 wq1 := by rw [hw59]; exact (Ext.refl _ _).alloc _
  have hbxwq1 : Blk wq1 w41.heap.size 47 #[pv r.t.b] := by rw [hw59]; exact Blk.new _ _ _
  have hFwq1 := hE57.trans0 hEwq1
  have hB60 := hB49.ext hEwq1 (by simp)
  have hB61 := hB50.ext hEwq1 (by simp)
  have hB62 := hB51.ext hEwq1 (by simp)
  have hB63 := hB52.ext hEwq1 (by simp)
  have hB64 := hB53.ext hEwq1 (by simp)
  have hB65 := hB54.ext hEwq1 (by simp)
  have hB66 := hB55.ext hEwq1 (by simp)
  refine eff_box wide_wide (r := 1) (cs := #[.nilFunc]) (T := 61) (d := (some 11)) hS (by kernel_rfl) fun a w67 hw68 hS => ?_
  have hn69 : F.fb ≠ wq1.heap.size := Nat.ne_of_lt hB60.lt
  have hn70 : ∀ x ∈ ob (.slice F.pb F.L.length F.pc), wq1.heap.size ≠ x := fun x hx => Nat.ne_of_gt (hB61.lie x hx)
  have hn71 : ∀ x ∈ ob (.slice F.qb F.L.length F.qc), wq1.heap.size ≠ x := fun x hx => Nat.ne_of_gt (hB62.lie x hx)
  have hn72 : w.heap.size ≠ wq1.heap.size := Nat.ne_of_lt hB63.lt
  have hn73 : w2.heap.size ≠ wq1.heap.size := Nat.ne_of_lt hB64.lt
  have hn74 : w13.heap.size ≠ wq1.heap.size := Nat.ne_of_lt hB65.lt
  have hn75 : w26.heap.size ≠ wq1.heap.size := Nat.ne_of_lt hB66.lt
  have hn76 : w41.heap.size ≠ wq1.heap.size := Nat.ne_of_lt hbxwq1.lt
  have hB77 := Blk.at' hw68 (hB60.alloc _)
  have hB78 := OwnV.at' hw68 (hB61.alloc _)
  have hB79 := OwnV.at' hw68 (hB62.alloc _)
  have hB80 := Blk.at' hw68 (hB63.alloc _)
  have hB81 := Blk.at' hw68 (hB64.alloc _)
  have hB82 := Blk.at' hw68 (hB65.alloc _)
  have hB83 := Blk.at' hw68 (hB66.alloc _)
  have hB84 := Blk.at' hw68 (hbxwq1.alloc _)
  have hB85 : Blk w67 (wq1.heap.size) 61 #[.nilFunc] := by rw [hw68]; exact Blk.new _ _ _
  have hs86 : w.heap.size ≤ wq1.heap.size := hFwq1.size
  have hE87 : Ext [] w w67 := by rw [hw68]; exact hFwq1.alloc _
  refine eff_store wide_wide (r := 0) (b := wq1.heap.size) (off := 0) (vs := [.func (.func 55) #[] #[(Pv w41.heap.size)]]) hS (by kernel_rfl) hB85 (by simp) fun a w88 hw89 hS => ?_
  have hB90 := Blk.at' hw89 (hB77.updNe (Ne.symm hn69) _ _)
  have hB91 := OwnV.at' hw89 (hB78.updNe hn70 _ _)
  have hB92 := OwnV.at' hw89 (hB79.updNe hn71 _ _)
  have hB93 := Blk.at' hw89 (hB80.updNe (Ne.symm hn72) _ _)
  have hB94 := Blk.at' hw89 (hB81.updNe (Ne.symm hn73) _ _)
  have hB95 := Blk.at' hw89 (hB82.updNe (Ne.symm hn74) _ _)
  have hB96 := Blk.at' hw89 (hB83.updNe (Ne.symm hn75) _ _)
  have hB97 := Blk.at' hw89 (hB84.updNe (Ne.symm hn76) _ _)
  have hB98 : Blk w88 wq1.heap.size 61 (#[.func (.func 55) #[] #[(Pv w41.heap.size)]]) := by rw [hw89]; exact hB85.upd _ _
  have hE99 : Ext [] w w88 := by rw [hw89]; exact hE87.updIn (.inr hs86) _ _
  refine seg_end ?_
  refine hK58 _ _ ?_
  refine wpIn_seq_k fun K100 hK100 => ?_
  refine wpIn_seq_k fun K101 hK101 => ?_
  refine region 1 (by kernel_rfl) ?_
  refine seg wide_wide [.p] [0, 1, 2, 3, 4, 5, 7, 9, 10, 11, 27] [] [(0, (Pv F.fb)), (1, .int .i64 ↑i), (2, (.slice wb lw.length wc)), (3, .bool false), (4, .int .i64 stop), (5, (Pv w.heap.size)), (7, (Pv w2.heap.size)), (9, (Pv w13.heap.size)), (10, (Pv w26.heap.size)), (11, (Pv wq1.heap.size)), (27, .bool false)] 1 0 hS (by kernel_rfl) (by kernel_rfl) (by kernel_rfl) .nil fun a hS => ?_
  refine seg_end ?_
  refine hK101 _ _ ?_
  refine cond_f hS rfl ?_
  refine wpIn_skip ?_
  refine hK100 _ _ ?_
  refine wpIn_seq_k fun K102 hK102 => ?_
  refine wpIn_seq_k fun K103 hK103 => ?_
  refine region 2 (by kernel_rfl) ?_
  refine seg wide_wide [.ld (.func (.func 55) #[] #[(Pv w41.heap.size)]), .p] [0, 1, 2, 3, 4, 5, 7, 9, 10, 11, 27, 37] [w88.cell? ⟨wq1.heap.size, 0, none⟩ = some (.func (.func 55) #[] #[(Pv w41.heap.size)])] [(0, (Pv F.fb)), (1, .int .i64 ↑i), (2, (.slice wb lw.length wc)), (3, .bool false), (4, .int .i64 stop), (5, (Pv w.heap.size)), (7, (Pv w2.heap.size)), (9, (Pv w13.heap.size)), (10, (Pv w26.heap.size)), (11, (Pv wq1.heap.size)), (27, .bool false), (37, .bool false)] 2 0 hS (by kernel_rfl) (by kernel_rfl) (by kernel_rfl) (.cons (hB98.cell 0 rfl) .nil) fun a hS => ?_
  refine seg_end ?_
  refine hK103 _ _ ?_
  refine cond_f hS rfl ?_
  refine wpIn_skip ?_
  refine hK102 _ _ ?_
  refine wpIn_seq_k fun K104 hK104 => ?_
  refine wpIn_seq_k fun K105 hK105 => ?_
  refine region 2 (by kernel_rfl) ?_
  refine eff_box wide_wide (r := 1) (cs := #[.int .i64 0]) (T := 3) (d := (some 12)) hS (by kernel_rfl) fun a w106 hw107 hS => ?_
  have hn108 : F.fb ≠ w88.heap.size := Nat.ne_of_lt hB90.lt
  have hn109 : ∀ x ∈ ob (.slice F.pb F.L.length F.pc), w88.heap.size ≠ x := fun x hx => Nat.ne_of_gt (hB91.lie x hx)
  have hn110 : ∀ x ∈ ob (.slice F.qb F.L.length F.qc), w88.heap.size ≠ x := fun x hx => Nat.ne_of_gt (hB92.lie x hx)
  have hn111 : w.heap.size ≠ w88.heap.size := Nat.ne_of_lt hB93.lt
  have hn112 : w2.heap.size ≠ w88.heap.size := Nat.ne_of_lt hB94.lt
  have hn113 : w13.heap.size ≠ w88.heap.size := Nat.ne_of_lt hB95.lt
  have hn114 : w26.heap.size ≠ w88.heap.size := Nat.ne_of_lt hB96.lt
  have hn115 : w41.heap.size ≠ w88.heap.size := Nat.ne_of_lt hB97.lt
  have hn116 : wq1.heap.size ≠ w88.heap.size := Nat.ne_of_lt hB98.lt
  have hB117 := Blk.at' hw107 (hB90.alloc _)
  have hB118 := OwnV.at' hw107 (hB91.alloc _)
  have hB119 := OwnV.at' hw107 (hB92.alloc _)
  have hB120 := Blk.at' hw107 (hB93.alloc _)
  have hB121 := Blk.at' hw107 (hB94.alloc _)
  have hB122 := Blk.at' hw107 (hB95.alloc _)
  have hB123 := Blk.at' hw107 (hB96.alloc _)
  have hB124 := Blk.at' hw107 (hB97.alloc _)
  have hB125 := Blk.at' hw107 (hB98.alloc _)
  have hB126 : Blk w106 (w88.heap.size) 3 #[.int .i64 0] := by rw [hw107]; exact Blk.new _ _ _
  have hs127 : w.heap.size ≤ w88.heap.size := hE99.size
  have hE128 : Ext [] w w106 := by rw [hw107]; exact hE99.alloc _
  refine eff_store wide_wide (r := 0) (b := w88.heap.size) (off := 0) (vs := [.int .i64 0]) hS (by kernel_rfl) hB126 (by simp) fun a w129 hw130 hS => ?_
  have hB131 := Blk.at' hw130 (hB117.updNe (Ne.symm hn108) _ _)
  have hB132 := OwnV.at' hw130 (hB118.updNe hn109 _ _)
  have hB133 := OwnV.at' hw130 (hB119.updNe hn110 _ _)
  have hB134 := Blk.at' hw130 (hB120.updNe (Ne.symm hn111) _ _)
  have hB135 := Blk.at' hw130 (hB121.updNe (Ne.symm hn112) _ _)
  have hB136 := Blk.at' hw130 (hB122.updNe (Ne.symm hn113) _ _)
  have hB137 := Blk.at' hw130 (hB123.updNe (Ne.symm hn114) _ _)
  have hB138 := Blk.at' hw130 (hB124.updNe (Ne.symm hn115) _ _)
  have hB139 := Blk.at' hw130 (hB125.updNe (Ne.symm hn116) _ _)
  have hB140 : Blk w129 w88.heap.size 3 (#[.int .i64 0]) := by rw [hw130]; exact hB126.upd _ _
  have hE141 : Ext [] w w129 := by rw [hw130]; exact hE128.updIn (.inr hs127) _ _
  refine seg_end ?_
  refine hK105 _ _ ?_
  refine wpIn_block ?_
  replace hS := hS.keepTo [1, 5, 7, 9, 10, 11, 12] (m' := [(1, .int .i64 ↑i), (5, (Pv w.heap.size)), (7, (Pv w2.heap.size)), (9, (Pv w13.heap.size)), (10, (Pv w26.heap.size)), (11, (Pv wq1.heap.size)), (12, (Pv w88.heap.size))]) (by kernel_rfl)
  have hBfx0 := hB134
  obtain ⟨fx, hefx⟩ : ∃ x, x = w.heap.size := ⟨_, rfl⟩
  rw [← hefx] at hS hBfx0
  have hBwx0 := hB135
  obtain ⟨wx, hewx⟩ : ∃ x, x = w2.heap.size := ⟨_, rfl⟩
  rw [← hewx] at hS hBwx0
  have hBsx0 := hB136
  obtain ⟨sx, hesx⟩ : ∃ x, x = w13.heap.size := ⟨_, rfl⟩
  rw [← hesx] at hS hBsx0
  have hBrx0 := hB137
  obtain ⟨rx, herx⟩ : ∃ x, x = w26.heap.size := ⟨_, rfl⟩
  rw [← herx] at hS hBrx0
  have hBqx0 := hB139
  obtain ⟨qx, heqx⟩ : ∃ x, x = wq1.heap.size := ⟨_, rfl⟩
  rw [← heqx] at hS hBqx0
  have hBnx0 := hB140
  obtain ⟨nx, henx⟩ : ∃ x, x = w88.heap.size := ⟨_, rfl⟩
  rw [← henx] at hS hBnx0
  have hnrx : w.heap.size ≤ rx := by rw [herx]; exact hs56
  have hBbx0 := hB138
  obtain ⟨bx, hebx⟩ : ∃ x, x = w41.heap.size := ⟨_, rfl⟩
  rw [← hebx] at hBqx0 hBbx0
  have hE0l := hE141
  have hFl := hF.ext0 hE0l
  refine loop_ghost (fun ((n, nb, Ds) : Nat × Nat × List Nat) a' w' => St 141 (Ds.map dmark) [(1, .int .i64 ↑i), (5, (Pv fx)), (7, (Pv wx)), (9, (Pv sx)), (10, (Pv rx)), (11, (Pv qx)), (12, (Pv nb))] a' ∧ n ≤ 2 ∧ Ext [] w129 w' ∧ Blk w' nb 3 #[.int .i64 (n : Int)] ∧ (∀ D ∈ Ds, Dfr w' D) ∧ Ds.Nodup ∧ (∀ D ∈ Ds, w129.heap.size ≤ D)) (fun ((n, nb, Ds) : Nat × Nat × List Nat) => 2 - n) (0, nx, []) ⟨hS.keepTo [1, 5, 7, 9, 10, 11, 12] (by kernel_rfl), by omega, Ext.refl _ _, hBnx0, by simp, by simp, by simp⟩ ?_
  rintro ⟨n, nb, Ds⟩ a w1 ⟨hS, hn2, hEl, hnb, hDs, hnd, hDn⟩
  have hBfx1 := hBfx0.ext hEl (by simp)
  have hBwx1 := hBwx0.ext hEl (by simp)
  have hBsx1 := hBsx0.ext hEl (by simp)
  have hBrx1 := hBrx0.ext hEl (by simp)
  have hBqx1 := hBqx0.ext hEl (by simp)
  have hBbx1 := hBbx0.ext hEl (by simp)
  have hF1 := hFl.ext0 hEl
  refine wpIn_seq_k fun K142 hK142 => ?_
  refine wpIn_seq_k fun K143 hK143 => ?_
  refine region 2 (by kernel_rfl) ?_
  refine seg wide_wide [.ld (.int .i64 ↑n), .p] [1, 5, 7, 9, 10, 11, 12, 39] [w1.cell? ⟨nb, 0, none⟩ = some (.int .i64 ↑n)] [(1, .int .i64 ↑i), (5, (Pv fx)), (7, (Pv wx)), (9, (Pv sx)), (10, (Pv rx)), (11, (Pv qx)), (12, (Pv nb)), (39, .bool (decide ((↑n : Int) < 2)))] 2 0 hS (by kernel_rfl) (by kernel_rfl) (by kernel_rfl) (.cons (hnb.cell 0 rfl) .nil) fun a hS => ?_
  refine seg_end ?_
  refine hK143 _ _ ?_
  refine cond_b hS rfl (fun hb144 => ?_) (fun hb144 => ?_)
  · -- decide ((↑n : Int) < 2) is true
    replace hb144 := of_decide_eq_true hb144
    refine wpIn_skip ?_
    refine hK142 _ _ ?_
    refine wpIn_seq_k fun K145 hK145 => ?_
    refine wpIn_block ?_
    refine wpIn_seq_k fun K146 hK146 => ?_
    rcases (show n = 0 ∨ n = 1 by omega) with rfl | rfl
    · -- an alternative
      replace hnb : Blk w1 nb 3 #[.int .i64 0] := hnb
      refine region 2 (by kernel_rfl) ?_
      refine eff_box wide_wide (r := 1) (cs := #[.int .i64 0]) (T := 3) (d := (some 13)) hS (by kernel_rfl) fun a w147 hw148 hS => ?_
      have hn149 : fx ≠ w1.heap.size := Nat.ne_of_lt hBfx1.lt
      have hn150 : wx ≠ w1.heap.size := Nat.ne_of_lt hBwx1.lt
      have hn151 : sx ≠ w1.heap.size := Nat.ne_of_lt hBsx1.lt
      have hn152 : rx ≠ w1.heap.size := Nat.ne_of_lt hBrx1.lt
      have hn153 : qx ≠ w1.heap.size := Nat.ne_of_lt hBqx1.lt
      have hn154 : bx ≠ w1.heap.size := Nat.ne_of_lt hBbx1.lt
      have hn155 : nb ≠ w1.heap.size := Nat.ne_of_lt hnb.lt
      have hn156 : F.fb ≠ w1.heap.size := Nat.ne_of_lt hF1.f.lt
      have hB157 := Blk.at' hw148 (hBfx1.alloc _)
      have hB158 := Blk.at' hw148 (hBwx1.alloc _)
      have hB159 := Blk.at' hw148 (hBsx1.alloc _)
      have hB160 := Blk.at' hw148 (hBrx1.alloc _)
      have hB161 := Blk.at' hw148 (hBqx1.alloc _)
      have hB162 := Blk.at' hw148 (hBbx1.alloc _)
      have hB163 := Blk.at' hw148 (hnb.alloc _)
      have hB164 := Blk.at' hw148 (hF1.f.alloc _)
      have hX165 : Ext [] w1 w147 := by rw [hw148]; exact (Ext.refl _ _).alloc _
      have hG166 : ∀ D ∈ Ds, Dfr w147 D := fun D hD => (hDs D hD).ext hX165 (by simp)
      have hB167 : Blk w147 (w1.heap.size) 3 #[.int .i64 0] := by rw [hw148]; exact Blk.new _ _ _
      have hs168 : w129.heap.size ≤ w1.heap.size := hEl.size
      have hE169 : Ext [] w129 w147 := by rw [hw148]; exact hEl.alloc _
      refine eff_store wide_wide (r := 0) (b := w1.heap.size) (off := 0) (vs := [.int .i64 0]) hS (by kernel_rfl) hB167 (by simp) fun a w170 hw171 hS => ?_
      have hB172 := Blk.at' hw171 (hB157.updNe (Ne.symm hn149) _ _)
      have hB173 := Blk.at' hw171 (hB158.updNe (Ne.symm hn150) _ _)
      have hB174 := Blk.at' hw171 (hB159.updNe (Ne.symm hn151) _ _)
      have hB175 := Blk.at' hw171 (hB160.updNe (Ne.symm hn152) _ _)
      have hB176 := Blk.at' hw171 (hB161.updNe (Ne.symm hn153) _ _)
      have hB177 := Blk.at' hw171 (hB162.updNe (Ne.symm hn154) _ _)
      have hB178 := Blk.at' hw171 (hB163.updNe (Ne.symm hn155) _ _)
      have hB179 := Blk.at' hw171 (hB164.updNe (Ne.symm hn156) _ _)
      have hB180 : Blk w170 w1.heap.size 3 (#[.int .i64 0]) := by rw [hw171]; exact hB167.upd _ _
      have hX181 : Ext [w1.heap.size] w147 w170 := by rw [hw171]; exact (Ext.refl _ _).updIn (.inl (by simp)) _ _
      have hG182 : ∀ D ∈ Ds, Dfr w170 D := fun D hD => (hG166 D hD).ext hX181 (by simpa using (hG166 D hD).ne_blk hB167)
      have hE183 : Ext [] w129 w170 := by rw [hw171]; exact hE169.updIn (.inr hs168) _ _
      refine seg_end ?_
      refine hK146 _ _ ?_
      refine wpIn_seq_k fun K184 hK184 => ?_
      refine wpIn_seq_k fun K185 hK185 => ?_
      refine region 1 (by kernel_rfl) ?_
      refine seg wide_wide [.ld (.func (.func 55) #[] #[(Pv bx)])] [1, 5, 7, 9, 10, 11, 12, 13, 42] [w170.cell? ⟨qx, 0, none⟩ = some (.func (.func 55) #[] #[(Pv bx)])] [(1, .int .i64 ↑i), (5, (Pv fx)), (7, (Pv wx)), (9, (Pv sx)), (10, (Pv rx)), (11, (Pv qx)), (12, (Pv nb)), (13, (Pv w1.heap.size)), (42, .func (.func 55) #[] #[(Pv bx)])] 1 0 hS (by kernel_rfl) (by kernel_rfl) (by kernel_rfl) (.cons (hB176.cell 0 rfl) .nil) fun a hS => ?_
      refine seg_end ?_
      refine hK185 _ _ ?_
      refine wpIn_block ?_
      replace hS := hS.keepTo [1, 5, 7, 9, 10, 11, 12, 13, 42] (m' := [(1, .int .i64 ↑i), (5, (Pv fx)), (7, (Pv wx)), (9, (Pv sx)), (10, (Pv rx)), (11, (Pv qx)), (12, (Pv nb)), (13, (Pv w1.heap.size)), (42, .func (.func 55) #[] #[(Pv bx)])]) (by kernel_rfl)
      have hkb0 := hB180
      have hkbn := hs168
      have hBfx9 := hB172
      have hnefx : fx ≠ w1.heap.size := hn149
      have hBwx9 := hB173
      have hnewx : wx ≠ w1.heap.size := hn150
      have hBsx9 := hB174
      have hnesx : sx ≠ w1.heap.size := hn151
      have hBrx9 := hB175
      have hnerx : rx ≠ w1.heap.size := hn152
      have hBqx9 := hB176
      have hneqx : qx ≠ w1.heap.size := hn153
      have hBbx9 := hB177
      have hnebx : bx ≠ w1.heap.size := hn154
      have hBnb9 := hB178
      have hnenb : nb ≠ w1.heap.size := hn155
      obtain ⟨kb, hkbe⟩ : ∃ x, x = w1.heap.size := ⟨_, rfl⟩
      rw [← hkbe] at hS hkb0 hkbn hnefx hnewx hnesx hnerx hneqx hnebx hnenb
      have hE9 := hE183
      have hF9 := hFl.ext0 hE9
      have hD9 := hG182
      have hkblt := hkb0.lt
      have hbxlt := hBbx0.lt
      have hl9 := hE9.size
      refine range_out (gf := 55) (lb := #[pv bx]) (enc := encW) (xs := (walk r.t 0)) (T := fun b => b = bx ∨ r.t.Foot b)
        (fun pre Cx W => Cx = [kb] ∧ Blk W kb 3 #[.int .i64 (pre.length : Int)])
        (fun c s Cx W => c = .exit 2 ∧ Cx = [kb] ∧ ∃ k : Nat, (k : Int) = stop ∧ k < lw.length ∧ Blk W kb 3 #[.int .i64 (k : Int)]) [kb] (fun q => [(1, .int .i64 ↑i), (5, (Pv fx)), (7, (Pv wx)), (9, (Pv sx)), (10, (Pv rx)), (11, (Pv qx)), (12, (Pv nb)), (13, (Pv kb)), (14, .int .i64 q.1), (15, (Pv q.2.b))]) hS rfl Try.call55 ?_ ?_ ?_ ?_ (fun _ => rfl) rfl ?_ ?_ ?_ ?_ ?_ ?_ ?_
      · intro W hEW _
        exact Walk1_any (hBbx9.ext hEW (by simp)) ((hF9.ok.one r hrm).ok.ext hEW r.t (by simp))
      · rintro b (rfl | hb)
        · exact hBbx9.lt
        · exact (hF9.ok.one r hrm).ok.foot_lt hb
      · intro b hb hT
        obtain rfl : b = kb := by simpa using hb
        rcases hT with hT | hT
        · exact hnebx hT.symm
        · exact (hF9.ok.one r hrm).ok.not_foot hkb0 (by decide) (by decide) hT
      · intro b hb
        obtain rfl : b = kb := by simpa using hb
        exact hkblt
      · rintro s Cx M W W' ⟨rfl, h1⟩ hE hM
        exact ⟨rfl, h1.ext hE (fun hm => (hM _ hm).2 (by simp))⟩
      · rintro c s Cx M W W' ⟨hc, rfl, k, h1, h2, h3⟩ hE hM
        exact ⟨hc, rfl, k, h1, h2, h3.ext hE (fun hm => (hM _ hm).2 (by simp))⟩
      · exact ⟨rfl, hkb0⟩
      · intro l2 q a' W K hS hK
        refine wpIn_seq_k fun K186 hK186 => ?_
        refine region 1 (by kernel_rfl) ?_
        refine seg (wide_wide.inRound l2) [.p] [1, 5, 7, 9, 10, 11, 12, 13, 43, 44, 14] [] [(1, .int .i64 ↑i), (5, (Pv fx)), (7, (Pv wx)), (9, (Pv sx)), (10, (Pv rx)), (11, (Pv qx)), (12, (Pv nb)), (13, (Pv kb)), (43, .int .i64 q.1), (44, q.2.ptr), (14, .int .i64 q.1)] 1 0 hS (by kernel_rfl) (by kernel_rfl) (by kernel_rfl) .nil fun a hS => ?_
        refine seg_end ?_
        refine hK186 _ _ ?_
        refine region 1 (by kernel_rfl) ?_
        refine seg (wide_wide.inRound l2) [.p] [1, 5, 7, 9, 10, 11, 12, 13, 43, 44, 14, 15] [] [(1, .int .i64 ↑i), (5, (Pv fx)), (7, (Pv wx)), (9, (Pv sx)), (10, (Pv rx)), (11, (Pv qx)), (12, (Pv nb)), (13, (Pv kb)), (43, .int .i64 q.1), (44, q.2.ptr), (14, .int .i64 q.1), (15, q.2.ptr)] 1 0 hS (by kernel_rfl) (by kernel_rfl) (by kernel_rfl) .nil fun a hS => ?_
        refine seg_end ?_
        exact hK _ (hS.keepTo [1, 5, 7, 9, 10, 11, 12, 13, 14, 15] (by kernel_rfl))
      · rintro l2 pre q post Cx W a hxs2 ⟨rfl, hkbW⟩ hlieW hfrW hnl hrec hEW hS
        have hkl : pre.length < lw.length := by
          have := congrArg List.length hxs2
          rw [hxl] at this
          simp at this
          omega
        obtain ⟨⟨sp, pv_⟩, hsp⟩ : ∃ q, lw[pre.length]? = some q := ⟨_, List.getElem?_eq_getElem hkl⟩
        obtain rfl : q = (sp.at_, sp.r.t) := by
          have h1 : (walk r.t 0)[pre.length]? = some q := by rw [hxs2]; simp
          rw [← hxs] at h1
          simp [hsp] at h1
          exact h1.symm
        have hqm := hin _ (List.mem_of_getElem? hsp)
        have hcw := spc_at lw pre.length
        have hWW : Ext [kb] W W := Ext.refl _ _
        have hEW0 : Ext [] w W := (hE0l.trans0 hE9).trans hEW (by intro b hb; obtain rfl := (by simpa using hb : b = kb); exact .inr (Nat.le_trans hE0l.size hkbn))
        have hFW := hF.ext0 hEW0
        have hqi := (hFW.ok.one _ hqm).ki
        have hqL := hFW.ok.at hqm
        have hOW := hO.ext0' hEW0
        replace hS : St 141 [] [(1, .int .i64 ↑i), (5, (Pv fx)), (7, (Pv wx)), (9, (Pv sx)), (10, (Pv rx)), (11, (Pv qx)), (12, (Pv nb)), (13, (Pv kb)), (14, .int .i64 sp.at_), (15, (Pv sp.r.t.b))] a := hS
        have hBfxW := hBfx9.ext hEW (by simpa using hnefx)
        have hBwxW := hBwx9.ext hEW (by simpa using hnewx)
        have hBsxW := hBsx9.ext hEW (by simpa using hnesx)
        have hBrxW := hBrx9.ext hEW (by simpa using hnerx)
        have hBqxW := hBqx9.ext hEW (by simpa using hneqx)
        have hBbxW := hBbx9.ext hEW (by simpa using hnebx)
        have hBnbW := hBnb9.ext hEW (by simpa using hnenb)
        have hgpW : ∀ x ∈ ob (.slice F.pb F.L.length F.pc), kb ≠ x := hFW.P.ne hkbW (by decide)
        have hrowq := (hFW.ok.one sp.r hqm).row
        have hBq : Blk W sp.r.rb 40 #[.int .i64 sp.r.k, .int .i64 ↑sp.r.i, .int .i64 sp.r.t.kd, .int .i64 sp.r.t.nn, .int .i64 sp.r.t.lk, .int .i64 sp.r.t.ls, .int .i64 sp.r.t.ll, .int .i64 sp.r.t.lr, sp.r.kv, .int .i64 sp.r.t.tt] := (hFW.ok.one sp.r hqm).blk
        have hTq : Blk W sp.r.t.b 106 #[.pointer (some ⟨(sOf F.s0 F.s1 sp.r.k), 0, none⟩), .int .i64 sp.r.t.num, .int .i64 sp.r.t.kd, .int .i64 sp.r.t.nn, .int .i64 sp.r.t.lk, .int .i64 sp.r.t.ls, .int .i64 sp.r.t.ll, .int .i64 sp.r.t.lr, sp.r.t.ks, .int .i64 sp.r.t.wd, .int .i64 sp.r.t.lf, .int .i64 sp.r.t.tt, .bool sp.r.t.fl] := (hFW.ok.one sp.r hqm).ok.blk
        refine wpIn_block ?_
        refine wpIn_seq_k fun K187 hK187 => ?_
        refine wpIn_seq_k fun K188 hK188 => ?_
        refine region 7 (by kernel_rfl) ?_
        refine seg (wide_wide.inRound l2) [.ld (.int .i64 0), .p, .p, .ld (.int .i64 ↑pre.length), .ld (.int .i64 stop), .p, .p] [1, 5, 7, 9, 10, 11, 12, 13, 14, 15, 51] [W.cell? ⟨nb, 0, none⟩ = some (.int .i64 0), W.cell? ⟨kb, 0, none⟩ = some (.int .i64 ↑pre.length), W.cell? ⟨sx, 0, none⟩ = some (.int .i64 stop)] [(1, .int .i64 ↑i), (5, (Pv fx)), (7, (Pv wx)), (9, (Pv sx)), (10, (Pv rx)), (11, (Pv qx)), (12, (Pv nb)), (13, (Pv kb)), (14, .int .i64 sp.at_), (15, (Pv sp.r.t.b)), (51, .bool ((↑pre.length : Int) == stop))] 7 0 hS (by kernel_rfl) (by kernel_rfl) (by kernel_rfl) (.cons (hBnbW.cell 0 rfl) (.cons (hkbW.cell 0 rfl) (.cons (hBsxW.cell 0 rfl) .nil))) fun a hS => ?_
        refine seg_end ?_
        refine hK188 _ _ ?_
        refine cond_b hS rfl (fun hb189 => ?_) (fun hb189 => ?_)
        · -- ((↑pre.length : Int) == stop) is true
          replace hb189 := test_eq_t hb189
          refine wpIn_exit ?_
          refine then_exit ?_
          refine inBlock_miss rfl ?_
          exact left_exit (C' := [kb]) hWW (Fresh.refl _ _) (hlieW.ext hWW) ⟨rfl, rfl, pre.length, hb189, hkl, hkbW⟩
        · -- ((↑pre.length : Int) == stop) is false
          replace hb189 := test_eq_f hb189
          refine wpIn_skip ?_
          refine hK187 _ _ ?_
          refine wpIn_seq_k fun K190 hK190 => ?_
          refine wpIn_seq_k fun K191 hK191 => ?_
          refine region_fn2 (wide_wide.inRound l2) [.q (.ld (.int .i64 ↑pre.length)), .q (.ld ((.slice wb lw.length wc))), .q (.run (.int .i64 ↑lw.length)), .q (.as (.bool false)), .q .p, .q .p, .q (.ld ((.slice wb lw.length wc))), .q (.ld (.int .i64 ↑pre.length)), .q (.run (.pointer (some ⟨bof (.slice wb lw.length wc), 0 + pre.length * 3, none⟩))), .q .p, .q (.ld (.int .i64 sp.at_)), .q (.as (.bool false)), .q .p, .q .p, .q .p, .q (.ld ((Pv F.fb))), .q .p, .q .p, .q (.ld (.slice F.pb F.L.length F.pc)), .q (.ld ((.slice wb lw.length wc))), .q (.ld (.int .i64 ↑pre.length)), .q (.run (.pointer (some ⟨bof (.slice wb lw.length wc), 0 + pre.length * 3, none⟩))), .q .p, .q (.ld ((Pv sp.r.rb))), .q .p, .q .p, .q (.ld (.int .i64 ↑sp.r.i)), .q (.run (.pointer (some ⟨bof (.slice F.pb F.L.length F.pc), 0 + sp.r.i * 1, none⟩))), .q (.ld ((Pv sp.r.t.b))), .q (.run (.bool false)), .q .p] [0, 0, 0, 0, 0, 0, 0, 0, 0, 0, 0, 0, 0, 0, 0, 0, 0, 0, 0, 0, 0, 0, 0, 0, 0, 0, 0, 0, 0, 0, 0] [0, 0, 0, 0, 0, 0, 0, 0, 0, 0, 0, 0, 0, 0, 0, 0, 0, 0, 0, 0, 0, 0, 0, 0, 0, 0, 0, 0, 0, 0, 0] [0, 0, 2, 7, 15, 31, 31, 31, 223, 479, 991, 2047, 4095, 8191, 16383, 16383, 49151, 114687, 245759, 16383, 16383, 1589247, 3686399, 7880703, 16269311, 33046527, 66600959, 134201343, 268419071, 536870911, 1073741823] [] 0 ([(1, .int .i64 ↑i), (5, (Pv fx)), (7, (Pv wx)), (9, (Pv sx)), (10, (Pv rx)), (11, (Pv qx)), (12, (Pv nb)), (13, (Pv kb)), (14, .int .i64 sp.at_), (15, (Pv sp.r.t.b)), (52, .int .i64 ↑pre.length), (53, (.slice wb lw.length wc)), (54, .int .i64 ↑lw.length), (55, .bool false), (56, .bool false), (57, .int .i64 sp.at_), (58, (.slice wb lw.length wc)), (59, .int .i64 ↑pre.length), (60, .pointer (some ⟨bof (.slice wb lw.length wc), 0 + pre.length * 3, none⟩)), (61, .pointer (some ⟨bof (.slice wb lw.length wc), 0 + pre.length * 3 + 1, none⟩)), (62, .int .i64 sp.at_), (63, .bool false), (64, .bool false), (65, .bool false), (66, (Pv sp.r.t.b)), (67, (Pv F.fb)), (68, (Pv F.fb)), (69, .pointer (some ⟨F.fb, 2, none⟩)), (70, .slice F.pb F.L.length F.pc), (71, (.slice wb lw.length wc)), (72, .int .i64 ↑pre.length), (73, .pointer (some ⟨bof (.slice wb lw.length wc), 0 + pre.length * 3, none⟩)), (74, .pointer (some ⟨bof (.slice wb lw.length wc), 0 + pre.length * 3, none⟩)), (75, (Pv sp.r.rb)), (76, (Pv sp.r.rb)), (77, .pointer (some ⟨sp.r.rb, 1, none⟩)), (78, .int .i64 ↑sp.r.i), (79, .pointer (some ⟨bof (.slice F.pb F.L.length F.pc), 0 + sp.r.i * 1, none⟩)), (80, (Pv sp.r.t.b)), (81, .bool false), (82, .bool false)]) [W.drew] W.drew (fun w' => [(0, [w'.cell? ⟨kb, 0, none⟩ = some (.int .i64 ↑pre.length)]), (1, [w'.cell? ⟨wx, 0, none⟩ = some ((.slice wb lw.length wc))]), (2, [Sem.run Try.prog (vS (Builtin.len_ #[28] 3 #[(.slice wb lw.length wc)])) w' = .ok (.value (.int .i64 ↑lw.length)) w']), (3, [Value.bool (decide ((↑pre.length : Int) ≥ ↑lw.length)) = .bool false]), (6, [w'.cell? ⟨wx, 0, none⟩ = some ((.slice wb lw.length wc))]), (7, [w'.cell? ⟨kb, 0, none⟩ = some (.int .i64 ↑pre.length)]), (8, [Sem.run Try.prog (vS (Instr.indexAt 28 ((.slice wb lw.length wc)) (.int .i64 ↑pre.length))) w' = .ok (.value (.pointer (some ⟨bof (.slice wb lw.length wc), 0 + pre.length * 3, none⟩))) w']), (10, [w'.cell? ⟨bof (.slice wb lw.length wc), 0 + pre.length * 3 + 1, none⟩ = some (.int .i64 sp.at_)]), (11, [Value.bool (((sp.at_ : Int) != sp.at_)) = .bool false]), (15, [w'.cell? ⟨fx, 0, none⟩ = some ((Pv F.fb))]), (18, [w'.cell? ⟨F.fb, 2, none⟩ = some (.slice F.pb F.L.length F.pc)]), (19, [w'.cell? ⟨wx, 0, none⟩ = some ((.slice wb lw.length wc))]), (20, [w'.cell? ⟨kb, 0, none⟩ = some (.int .i64 ↑pre.length)]), (21, [Sem.run Try.prog (vS (Instr.indexAt 28 ((.slice wb lw.length wc)) (.int .i64 ↑pre.length))) w' = .ok (.value (.pointer (some ⟨bof (.slice wb lw.length wc), 0 + pre.length * 3, none⟩))) w']), (23, [w'.cell? ⟨bof (.slice wb lw.length wc), 0 + pre.length * 3, none⟩ = some ((Pv sp.r.rb))]), (26, [w'.cell? ⟨sp.r.rb, 1, none⟩ = some (.int .i64 ↑sp.r.i)]), (27, [Sem.run Try.prog (vS (Instr.indexAt 32 (.slice F.pb F.L.length F.pc) (.int .i64 ↑sp.r.i))) w' = .ok (.value (.pointer (some ⟨bof (.slice F.pb F.L.length F.pc), 0 + sp.r.i * 1, none⟩))) w']), (28, [w'.cell? ⟨bof (.slice F.pb F.L.length F.pc), 0 + sp.r.i * 1, none⟩ = some ((Pv sp.r.t.b))]), (29, [Sem.run Try.prog (vS (do eqGuard .neq 47 (.tmp 66) (.tmp 80) ((Pv sp.r.t.b)) ((Pv sp.r.t.b)); binOp .neq 47 ((Pv sp.r.t.b)) ((Pv sp.r.t.b)))) w' = .ok (.value (.bool false)) w'])]) [1, 5, 7, 9, 10, 11, 12, 13, 14, 15] [] hS (by kernel_rfl) (by kernel_rfl) (by kernel_rfl) (by kernel_rfl) (fun _ => by kernel_rfl) (by kernel_rfl) (by kernel_rfl) (by kernel_rfl) ?_ ?_ ?_
          · intro e w' hw
            refine (.cons ?_ (.cons ?_ (.cons ?_ (.cons ?_ (.cons ?_ (.cons ?_ (.cons ?_ (.cons ?_ (.cons ?_ (.cons ?_ (.cons ?_ (.cons ?_ (.cons ?_ (.cons ?_ (.cons ?_ (.cons ?_ (.cons ?_ (.cons ?_ (.cons ?_ .nil)))))))))))))))))))
            · intro h1 h2
              obtain rfl : e = 0 := Nat.le_antisymm h2 h1
              obtain rfl : w' = W.drew := hw.trans (by kernel_rfl)
              exact (.cons ((hkbW.drew : Blk W.drew kb 3 (#[.int .i64 ↑pre.length])).cell 0 rfl) .nil)
            · intro h1 h2
              obtain rfl : e = 0 := Nat.le_antisymm h2 h1
              obtain rfl : w' = W.drew := hw.trans (by kernel_rfl)
              exact (.cons ((hBwxW.drew : Blk W.drew wx 28 (#[(.slice wb lw.length wc)])).cell 0 rfl) .nil)
            · exact fun _ _ => (.cons (run_len_own hO (by kernel_rfl)) .nil)
            · exact fun _ _ => (.cons (as_f (by omega)) .nil)
            · intro h1 h2
              obtain rfl : e = 0 := Nat.le_antisymm h2 h1
              obtain rfl : w' = W.drew := hw.trans (by kernel_rfl)
              exact (.cons ((hBwxW.drew : Blk W.drew wx 28 (#[(.slice wb lw.length wc)])).cell 0 rfl) .nil)
            · intro h1 h2
              obtain rfl : e = 0 := Nat.le_antisymm h2 h1
              obtain rfl : w' = W.drew := hw.trans (by kernel_rfl)
              exact (.cons ((hkbW.drew : Blk W.drew kb 3 (#[.int .i64 ↑pre.length])).cell 0 rfl) .nil)
            · exact fun _ _ => (.cons (ix_own (j := pre.length) hO (by kernel_rfl) (by kernel_rfl) rfl hkl) .nil)
            · intro h1 h2
              obtain rfl : e = 0 := Nat.le_antisymm h2 h1
              obtain rfl : w' = W.drew := hw.trans (by kernel_rfl)
              exact (.cons (hOW.cellAt _ (by have h := spc_at lw pre.length 1 _ hsp (by omega); simpa [Rf.ptr] using h)) .nil)
            · exact fun _ _ => (.cons (as_ne_f (rfl)) .nil)
            · intro h1 h2
              obtain rfl : e = 0 := Nat.le_antisymm h2 h1
              obtain rfl : w' = W.drew := hw.trans (by kernel_rfl)
              exact (.cons ((hBfxW.drew : Blk W.drew fx 24 (#[(Pv F.fb)])).cell 0 rfl) .nil)
            · intro h1 h2
              obtain rfl : e = 0 := Nat.le_antisymm h2 h1
              obtain rfl : w' = W.drew := hw.trans (by kernel_rfl)
              exact (.cons ((hFW.f.drew : Blk W.drew F.fb 35 (#[(Pv F.s0), (Pv F.s1), .slice F.pb F.L.length F.pc, .slice F.qb F.L.length F.qc, .slice F.bb F.bn F.bc])).cell 2 rfl) .nil)
            · intro h1 h2
              obtain rfl : e = 0 := Nat.le_antisymm h2 h1
              obtain rfl : w' = W.drew := hw.trans (by kernel_rfl)
              exact (.cons ((hBwxW.drew : Blk W.drew wx 28 (#[(.slice wb lw.length wc)])).cell 0 rfl) .nil)
            · intro h1 h2
              obtain rfl : e = 0 := Nat.le_antisymm h2 h1
              obtain rfl : w' = W.drew := hw.trans (by kernel_rfl)
              exact (.cons ((hkbW.drew : Blk W.drew kb 3 (#[.int .i64 ↑pre.length])).cell 0 rfl) .nil)
            · exact fun _ _ => (.cons (ix_own (j := pre.length) hO (by kernel_rfl) (by kernel_rfl) rfl hkl) .nil)
            · intro h1 h2
              obtain rfl : e = 0 := Nat.le_antisymm h2 h1
              obtain rfl : w' = W.drew := hw.trans (by kernel_rfl)
              exact (.cons (hOW.cellAt _ (by have h := spc_at lw pre.length 0 _ hsp (by omega); simpa [Rf.ptr] using h)) .nil)
            · intro h1 h2
              obtain rfl : e = 0 := Nat.le_antisymm h2 h1
              obtain rfl : w' = W.drew := hw.trans (by kernel_rfl)
              exact (.cons ((hBq.drew : Blk W.drew sp.r.rb 40 (#[.int .i64 sp.r.k, .int .i64 ↑sp.r.i, .int .i64 sp.r.t.kd, .int .i64 sp.r.t.nn, .int .i64 sp.r.t.lk, .int .i64 sp.r.t.ls, .int .i64 sp.r.t.ll, .int .i64 sp.r.t.lr, sp.r.kv, .int .i64 sp.r.t.tt])).cell 1 rfl) .nil)
            · exact fun _ _ => (.cons (ix_own (j := sp.r.i) (hFW.P) (by kernel_rfl) (by kernel_rfl) rfl hqi) .nil)
            · intro h1 h2
              obtain rfl : e = 0 := Nat.le_antisymm h2 h1
              obtain rfl : w' = W.drew := hw.trans (by kernel_rfl)
              exact (.cons ((hFW.P.drew : OwnV W.drew 47 1 (.slice F.pb F.L.length F.pc) F.L.length (F.L.map fun r => r.t.ptr)).cellAt _ (by simp [hqL, Tr.ptr])) .nil)
            · intro h1 h2
              obtain rfl : e = 0 := Nat.le_antisymm h2 h1
              obtain rfl : w' = W.drew := hw.trans (by kernel_rfl)
              exact (.cons (bin_ptr_neq (E := 106) (by kernel_rfl) ⟨12, by kernel_rfl⟩ (hTq.drew) (hTq.drew) (by simp)) .nil)
          · refine .nil
          rintro a w193 hS hw194
          replace hw194 : w193 = W.drew := hw194.trans (by kernel_rfl)
          have hB195 := Blk.at' hw194 (hBfxW.drew)
          have hB196 := Blk.at' hw194 (hBwxW.drew)
          have hB197 := Blk.at' hw194 (hBsxW.drew)
          have hB198 := Blk.at' hw194 (hBrxW.drew)
          have hB199 := Blk.at' hw194 (hBqxW.drew)
          have hB200 := Blk.at' hw194 (hBbxW.drew)
          have hB201 := Blk.at' hw194 (hBnbW.drew)
          have hB202 := Blk.at' hw194 (hkbW.drew)
          have hB203 := Blk.at' hw194 (hFW.f.drew)
          have hB204 := OwnV.at' hw194 (hFW.P.drew)
          have hB205 := Blk.at' hw194 (hBq.drew)
          have hB206 := Blk.at' hw194 (hTq.drew)
          have hE207 : Ext [kb] W w193 := by rw [hw194]; exact hWW.drew
          replace hS := hS.keepTo [1, 5, 7, 9, 10, 11, 12, 13, 14, 15, 82] (m' := [(1, .int .i64 ↑i), (5, (Pv fx)), (7, (Pv wx)), (9, (Pv sx)), (10, (Pv rx)), (11, (Pv qx)), (12, (Pv nb)), (13, (Pv kb)), (14, .int .i64 sp.at_), (15, (Pv sp.r.t.b)), (82, .bool false)]) (by kernel_rfl)
          refine hK191 _ _ ?_
          refine cond_f hS rfl ?_
          refine wpIn_skip ?_
          refine hK190 _ _ ?_
          refine wpIn_seq_k fun K208 hK208 => ?_
          refine region 3 (by kernel_rfl) ?_
          refine seg (wide_wide.inRound l2) [.ld (.int .i64 ↑pre.length), .as (.int .i64 (↑pre.length + 1))] [1, 5, 7, 9, 10, 11, 12, 13, 14, 15, 82, 84] [w193.cell? ⟨kb, 0, none⟩ = some (.int .i64 ↑pre.length), Value.int .i64 (IntKind.i64.wrap (↑pre.length + 1)) = .int .i64 (↑pre.length + 1)] [(1, .int .i64 ↑i), (5, (Pv fx)), (7, (Pv wx)), (9, (Pv sx)), (10, (Pv rx)), (11, (Pv qx)), (12, (Pv nb)), (13, (Pv kb)), (14, .int .i64 sp.at_), (15, (Pv sp.r.t.b)), (82, .bool false), (84, .int .i64 (↑pre.length + 1))] 2 1 hS (by kernel_rfl) (by kernel_rfl) (by kernel_rfl) (.cons (hB202.cell 0 rfl) (.cons (as_i64 (by omega)) .nil)) fun a hS => ?_
          refine eff_store (wide_wide.inRound l2) (r := 0) (b := kb) (off := 0) (vs := [.int .i64 (↑pre.length + 1)]) hS (by kernel_rfl) hB202 (by simp) fun a w209 hw210 hS => ?_
          have hB211 := Blk.at' hw210 (hB195.updNe (Ne.symm hnefx) _ _)
          have hB212 := Blk.at' hw210 (hB196.updNe (Ne.symm hnewx) _ _)
          have hB213 := Blk.at' hw210 (hB197.updNe (Ne.symm hnesx) _ _)
          have hB214 := Blk.at' hw210 (hB198.updNe (Ne.symm hnerx) _ _)
          have hB215 := Blk.at' hw210 (hB199.updNe (Ne.symm hneqx) _ _)
          have hB216 := Blk.at' hw210 (hB200.updNe (Ne.symm hnebx) _ _)
          have hB217 := Blk.at' hw210 (hB201.updNe (Ne.symm hnenb) _ _)
          have hB218 : Blk w209 kb 3 (#[.int .i64 (↑pre.length + 1)]) := by rw [hw210]; exact hB202.upd _ _
          have hB219 := Blk.at' hw210 (hB203.updNe (Blk.ne_type hB202 hB203 (by decide)) _ _)
          have hB220 := OwnV.at' hw210 (hB204.updNe hgpW _ _)
          have hB221 := Blk.at' hw210 (hB205.updNe (Blk.ne_type hB202 hB205 (by decide)) _ _)
          have hB222 := Blk.at' hw210 (hB206.updNe (Blk.ne_type hB202 hB206 (by decide)) _ _)
          have hE223 : Ext [kb] W w209 := by rw [hw210]; exact hE207.updIn (.inl (by simp)) _ _
          refine seg_end ?_
          refine hK208 _ _ ?_
          refine wpIn_seq_k fun K224 hK224 => ?_
          refine region 2 (by kernel_rfl) ?_
          refine seg (wide_wide.inRound l2) [.ld (.int .i64 (↑pre.length + 1)), .p] [1, 5, 7, 9, 10, 11, 12, 13, 14, 15, 82, 86] [w209.cell? ⟨kb, 0, none⟩ = some (.int .i64 (↑pre.length + 1))] [(1, .int .i64 ↑i), (5, (Pv fx)), (7, (Pv wx)), (9, (Pv sx)), (10, (Pv rx)), (11, (Pv qx)), (12, (Pv nb)), (13, (Pv kb)), (14, .int .i64 sp.at_), (15, (Pv sp.r.t.b)), (82, .bool false), (86, .bool ((↑pre.length + 1 : Int) == 2))] 2 0 hS (by kernel_rfl) (by kernel_rfl) (by kernel_rfl) (.cons (hB218.cell 0 rfl) .nil) fun a hS => ?_
          refine seg_end ?_
          refine hK224 _ _ ?_
          refine cond_b hS rfl (fun hb225 => ?_) (fun hb225 => ?_)
          · -- ((↑pre.length + 1 : Int) == 2) is true
            replace hb225 := test_eq_t hb225
            refine wpIn_seq_k fun K226 hK226 => ?_
            refine region 2 (by kernel_rfl) ?_
            refine eff_box (wide_wide.inRound l2) (r := 1) (cs := #[.int .i64 0]) (T := 3) (d := (some 16)) hS (by kernel_rfl) fun a w227 hw228 hS => ?_
            have hn229 : fx ≠ w209.heap.size := Nat.ne_of_lt hB211.lt
            have hn230 : wx ≠ w209.heap.size := Nat.ne_of_lt hB212.lt
            have hn231 : sx ≠ w209.heap.size := Nat.ne_of_lt hB213.lt
            have hn232 : rx ≠ w209.heap.size := Nat.ne_of_lt hB214.lt
            have hn233 : qx ≠ w209.heap.size := Nat.ne_of_lt hB215.lt
            have hn234 : bx ≠ w209.heap.size := Nat.ne_of_lt hB216.lt
            have hn235 : nb ≠ w209.heap.size := Nat.ne_of_lt hB217.lt
            have hn236 : kb ≠ w209.heap.size := Nat.ne_of_lt hB218.lt
            have hn237 : F.fb ≠ w209.heap.size := Nat.ne_of_lt hB219.lt
            have hn238 : ∀ x ∈ ob (.slice F.pb F.L.length F.pc), w209.heap.size ≠ x := fun x hx => Nat.ne_of_gt (hB220.lie x hx)
            have hn239 : sp.r.rb ≠ w209.heap.size := Nat.ne_of_lt hB221.lt
            have hn240 : sp.r.t.b ≠ w209.heap.size := Nat.ne_of_lt hB222.lt
            have hB241 := Blk.at' hw228 (hB211.alloc _)
            have hB242 := Blk.at' hw228 (hB212.alloc _)
            have hB243 := Blk.at' hw228 (hB213.alloc _)
            have hB244 := Blk.at' hw228 (hB214.alloc _)
            have hB245 := Blk.at' hw228 (hB215.alloc _)
            have hB246 := Blk.at' hw228 (hB216.alloc _)
            have hB247 := Blk.at' hw228 (hB217.alloc _)
            have hB248 := Blk.at' hw228 (hB218.alloc _)
            have hB249 := Blk.at' hw228 (hB219.alloc _)
            have hB250 := OwnV.at' hw228 (hB220.alloc _)
            have hB251 := Blk.at' hw228 (hB221.alloc _)
            have hB252 := Blk.at' hw228 (hB222.alloc _)
            have hB253 : Blk w227 (w209.heap.size) 3 #[.int .i64 0] := by rw [hw228]; exact Blk.new _ _ _
            have hs254 : W.heap.size ≤ w209.heap.size := hE223.size
            have hE255 : Ext [kb] W w227 := by rw [hw228]; exact hE223.alloc _
            refine eff_store (wide_wide.inRound l2) (r := 0) (b := w209.heap.size) (off := 0) (vs := [.int .i64 0]) hS (by kernel_rfl) hB253 (by simp) fun a w256 hw257 hS => ?_
            have hB258 := Blk.at' hw257 (hB241.updNe (Ne.symm hn229) _ _)
            have hB259 := Blk.at' hw257 (hB242.updNe (Ne.symm hn230) _ _)
            have hB260 := Blk.at' hw257 (hB243.updNe (Ne.symm hn231) _ _)
            have hB261 := Blk.at' hw257 (hB244.updNe (Ne.symm hn232) _ _)
            have hB262 := Blk.at' hw257 (hB245.updNe (Ne.symm hn233) _ _)
            have hB263 := Blk.at' hw257 (hB246.updNe (Ne.symm hn234) _ _)
            have hB264 := Blk.at' hw257 (hB247.updNe (Ne.symm hn235) _ _)
            have hB265 := Blk.at' hw257 (hB248.updNe (Ne.symm hn236) _ _)
            have hB266 := Blk.at' hw257 (hB249.updNe (Ne.symm hn237) _ _)
            have hB267 := OwnV.at' hw257 (hB250.updNe hn238 _ _)
            have hB268 := Blk.at' hw257 (hB251.updNe (Ne.symm hn239) _ _)
            have hB269 := Blk.at' hw257 (hB252.updNe (Ne.symm hn240) _ _)
            have hB270 : Blk w256 w209.heap.size 3 (#[.int .i64 0]) := by rw [hw257]; exact hB253.upd _ _
            have hE271 : Ext [kb] W w256 := by rw [hw257]; exact hE255.updIn (.inr hs254) _ _
            refine seg_end ?_
            refine hK226 _ _ ?_
            refine wpIn_seq_k fun K272 hK272 => ?_
            refine wpIn_seq_k fun K273 hK273 => ?_
            refine region 1 (by kernel_rfl) ?_
            refine seg (wide_wide.inRound l2) [.ld (.func (.func 55) #[] #[(Pv bx)])] [1, 5, 7, 9, 10, 11, 12, 13, 14, 15, 82, 16, 87] [w256.cell? ⟨qx, 0, none⟩ = some (.func (.func 55) #[] #[(Pv bx)])] [(1, .int .i64 ↑i), (5, (Pv fx)), (7, (Pv wx)), (9, (Pv sx)), (10, (Pv rx)), (11, (Pv qx)), (12, (Pv nb)), (13, (Pv kb)), (14, .int .i64 sp.at_), (15, (Pv sp.r.t.b)), (82, .bool false), (16, (Pv w209.heap.size)), (87, .func (.func 55) #[] #[(Pv bx)])] 1 0 hS (by kernel_rfl) (by kernel_rfl) (by kernel_rfl) (.cons (hB262.cell 0 rfl) .nil) fun a hS => ?_
            refine seg_end ?_
            refine hK273 _ _ ?_
            refine wpIn_block ?_
            replace hS := hS.keepTo [1, 5, 7, 9, 10, 11, 12, 13, 16, 87] (m' := [(1, .int .i64 ↑i), (5, (Pv fx)), (7, (Pv wx)), (9, (Pv sx)), (10, (Pv rx)), (11, (Pv qx)), (12, (Pv nb)), (13, (Pv kb)), (16, (Pv w209.heap.size)), (87, .func (.func 55) #[] #[(Pv bx)])]) (by kernel_rfl)
            have hib0 := hB270
            have hibn := hs254
            have hCfx9 := hB258
            have hmifx : fx ≠ w209.heap.size := hn229
            have hCwx9 := hB259
            have hmiwx : wx ≠ w209.heap.size := hn230
            have hCsx9 := hB260
            have hmisx : sx ≠ w209.heap.size := hn231
            have hCrx9 := hB261
            have hmirx : rx ≠ w209.heap.size := hn232
            have hCqx9 := hB262
            have hmiqx : qx ≠ w209.heap.size := hn233
            have hCbx9 := hB263
            have hmibx : bx ≠ w209.heap.size := hn234
            have hCnb9 := hB264
            have hminb : nb ≠ w209.heap.size := hn235
            have hCkb9 := hB265
            have hmikb : kb ≠ w209.heap.size := hn236
            obtain ⟨ib, hibe⟩ : ∃ x, x = w209.heap.size := ⟨_, rfl⟩
            rw [← hibe] at hS hib0 hibn hmifx hmiwx hmisx hmirx hmiqx hmibx hminb hmikb
            have hEi9 := hE271
            have hE09 : Ext [] w w256 := hEW0.trans hEi9 (by intro b hb; obtain rfl := (by simpa using hb : b = kb); exact .inr (Nat.le_trans hE0l.size hkbn))
            have hFi9 := hF.ext0 hE09
            have hreci := hrec.ext hEi9 (by simpa using fun h => hnl (by simp [h]))
            refine range_in (gf := 55) (lb := #[pv bx]) (enc := encW) (xs := (walk r.t 0)) (T := fun b => b = bx ∨ r.t.Foot b)
              (fun pre Cx W => Cx = [ib] ∧ Blk W ib 3 #[.int .i64 (pre.length : Int)])
              (fun _ _ _ _ => False) [ib] (fun q => [(1, .int .i64 ↑i), (5, (Pv fx)), (7, (Pv wx)), (9, (Pv sx)), (10, (Pv rx)), (11, (Pv qx)), (12, (Pv nb)), (13, (Pv kb)), (16, (Pv ib)), (17, .int .i64 q.1), (18, (Pv q.2.b))]) hS hreci rfl Try.call55 ?_ ?_ ?_ ?_ (fun _ => rfl) rfl ?_ ?_ ?_ ?_ ?_ ?_ ?_
            · intro W hEW _
              exact Walk1_any (hCbx9.ext hEW (by simp)) ((hFi9.ok.one r hrm).ok.ext hEW r.t (by simp))
            · rintro b (rfl | hb)
              · exact hCbx9.lt
              · exact (hFi9.ok.one r hrm).ok.foot_lt hb
            · intro b hb hT
              obtain rfl : b = ib := by simpa using hb
              rcases hT with hT | hT
              · exact hmibx hT.symm
              · exact (hFi9.ok.one r hrm).ok.not_foot hib0 (by decide) (by decide) hT
            · intro b hb
              obtain rfl : b = ib := by simpa using hb
              exact hib0.lt
            · rintro s Cx M W W' ⟨rfl, h1⟩ hE hM
              exact ⟨rfl, h1.ext hE (fun hm => (hM _ hm).2 (by simp))⟩
            · intro c s Cx M W W' h; exact h.elim
            · exact ⟨rfl, hib0⟩
            · intro l3 q a' W3 K hS hK
              refine wpIn_seq_k fun K274 hK274 => ?_
              refine region 1 (by kernel_rfl) ?_
              refine seg (wide_wide.inRound l3) [.p] [1, 5, 7, 9, 10, 11, 12, 13, 16, 88, 89, 17] [] [(1, .int .i64 ↑i), (5, (Pv fx)), (7, (Pv wx)), (9, (Pv sx)), (10, (Pv rx)), (11, (Pv qx)), (12, (Pv nb)), (13, (Pv kb)), (16, (Pv ib)), (88, .int .i64 q.1), (89, q.2.ptr), (17, .int .i64 q.1)] 1 0 hS (by kernel_rfl) (by kernel_rfl) (by kernel_rfl) .nil fun a hS => ?_
              refine seg_end ?_
              refine hK274 _ _ ?_
              refine region 1 (by kernel_rfl) ?_
              refine seg (wide_wide.inRound l3) [.p] [1, 5, 7, 9, 10, 11, 12, 13, 16, 88, 89, 17, 18] [] [(1, .int .i64 ↑i), (5, (Pv fx)), (7, (Pv wx)), (9, (Pv sx)), (10, (Pv rx)), (11, (Pv qx)), (12, (Pv nb)), (13, (Pv kb)), (16, (Pv ib)), (88, .int .i64 q.1), (89, q.2.ptr), (17, .int .i64 q.1), (18, q.2.ptr)] 1 0 hS (by kernel_rfl) (by kernel_rfl) (by kernel_rfl) .nil fun a hS => ?_
              refine seg_end ?_
              exact hK _ (hS.keepTo [1, 5, 7, 9, 10, 11, 12, 13, 16, 17, 18] (by kernel_rfl))
            · rintro l3 pr q post3 Cx V a hxs3 ⟨rfl, hibV⟩ hlieV hfrV hnl3 hrec3 hEV hS
              have hjl : pr.length < lw.length := by
                have := congrArg List.length hxs3
                rw [hxl] at this
                simp at this
                omega
              obtain ⟨⟨so, po_⟩, hso⟩ : ∃ q, lw[pr.length]? = some q := ⟨_, List.getElem?_eq_getElem hjl⟩
              obtain rfl : q = (so.at_, so.r.t) := by
                have h1 : (walk r.t 0)[pr.length]? = some q := by rw [hxs3]; simp
                rw [← hxs] at h1
                simp [hso] at h1
                exact h1.symm
              have hom := hin _ (List.mem_of_getElem? hso)
              have hEV0 : Ext [] w V := hE09.trans hEV (by intro b hb; obtain rfl := (by simpa using hb : b = ib); exact .inr (Nat.le_trans hEW0.size hibn))
              have hFV := hF.ext0 hEV0
              have hoi := (hFV.ok.one _ hom).ki
              have hoL := hFV.ok.at hom
              have hOV := hO.ext0' hEV0
              have hVV : Ext [ib] V V := Ext.refl _ _
              replace hS : St 141 [] [(1, .int .i64 ↑i), (5, (Pv fx)), (7, (Pv wx)), (9, (Pv sx)), (10, (Pv rx)), (11, (Pv qx)), (12, (Pv nb)), (13, (Pv kb)), (16, (Pv ib)), (17, .int .i64 so.at_), (18, (Pv so.r.t.b))] a := hS
              have hCfxV := hCfx9.ext hEV (by simpa using hmifx)
              have hCwxV := hCwx9.ext hEV (by simpa using hmiwx)
              have hgpV : ∀ x ∈ ob (.slice F.pb F.L.length F.pc), ib ≠ x := hFV.P.ne hibV (by decide)
              have hrowo := (hFV.ok.one so.r hom).row
              have hBo : Blk V so.r.rb 40 #[.int .i64 so.r.k, .int .i64 ↑so.r.i, .int .i64 so.r.t.kd, .int .i64 so.r.t.nn, .int .i64 so.r.t.lk, .int .i64 so.r.t.ls, .int .i64 so.r.t.ll, .int .i64 so.r.t.lr, so.r.kv, .int .i64 so.r.t.tt] := (hFV.ok.one so.r hom).blk
              have hTo : Blk V so.r.t.b 106 #[.pointer (some ⟨(sOf F.s0 F.s1 so.r.k), 0, none⟩), .int .i64 so.r.t.num, .int .i64 so.r.t.kd, .int .i64 so.r.t.nn, .int .i64 so.r.t.lk, .int .i64 so.r.t.ls, .int .i64 so.r.t.ll, .int .i64 so.r.t.lr, so.r.t.ks, .int .i64 so.r.t.wd, .int .i64 so.r.t.lf, .int .i64 so.r.t.tt, .bool so.r.t.fl] := (hFV.ok.one so.r hom).ok.blk
              refine wpIn_block ?_
              refine wpIn_seq_k fun K275 hK275 => ?_
              refine wpIn_seq_k fun K276 hK276 => ?_
              refine region_fn2 (wide_wide.inRound l3) [.q (.ld (.int .i64 ↑pr.length)), .q (.ld ((.slice wb lw.length wc))), .q (.run (.int .i64 ↑lw.length)), .q (.as (.bool false)), .q .p, .q .p, .q (.ld ((.slice wb lw.length wc))), .q (.ld (.int .i64 ↑pr.length)), .q (.run (.pointer (some ⟨bof (.slice wb lw.length wc), 0 + pr.length * 3, none⟩))), .q .p, .q (.ld (.int .i64 so.at_)), .q (.as (.bool false)), .q .p, .q .p, .q .p, .q (.ld ((Pv F.fb))), .q .p, .q .p, .q (.ld (.slice F.pb F.L.length F.pc)), .q (.ld ((.slice wb lw.length wc))), .q (.ld (.int .i64 ↑pr.length)), .q (.run (.pointer (some ⟨bof (.slice wb lw.length wc), 0 + pr.length * 3, none⟩))), .q .p, .q (.ld ((Pv so.r.rb))), .q .p, .q .p, .q (.ld (.int .i64 ↑so.r.i)), .q (.run (.pointer (some ⟨bof (.slice F.pb F.L.length F.pc), 0 + so.r.i * 1, none⟩))), .q (.ld ((Pv so.r.t.b))), .q (.run (.bool false)), .q .p] [0, 0, 0, 0, 0, 0, 0, 0, 0, 0, 0, 0, 0, 0, 0, 0, 0, 0, 0, 0, 0, 0, 0, 0, 0, 0, 0, 0, 0, 0, 0] [0, 0, 0, 0, 0, 0, 0, 0, 0, 0, 0, 0, 0, 0, 0, 0, 0, 0, 0, 0, 0, 0, 0, 0, 0, 0, 0, 0, 0, 0, 0] [0, 0, 2, 7, 15, 31, 31, 31, 223, 479, 991, 2047, 4095, 8191, 16383, 16383, 49151, 114687, 245759, 16383, 16383, 1589247, 3686399, 7880703, 16269311, 33046527, 66600959, 134201343, 268419071, 536870911, 1073741823] [] 0 ([(1, .int .i64 ↑i), (5, (Pv fx)), (7, (Pv wx)), (9, (Pv sx)), (10, (Pv rx)), (11, (Pv qx)), (12, (Pv nb)), (13, (Pv kb)), (16, (Pv ib)), (17, .int .i64 so.at_), (18, (Pv so.r.t.b)), (90, .int .i64 ↑pr.length), (91, (.slice wb lw.length wc)), (92, .int .i64 ↑lw.length), (93, .bool false), (94, .bool false), (95, .int .i64 so.at_), (96, (.slice wb lw.length wc)), (97, .int .i64 ↑pr.length), (98, .pointer (some ⟨bof (.slice wb lw.length wc), 0 + pr.length * 3, none⟩)), (99, .pointer (some ⟨bof (.slice wb lw.length wc), 0 + pr.length * 3 + 1, none⟩)), (100, .int .i64 so.at_), (101, .bool false), (102, .bool false), (103, .bool false), (104, (Pv so.r.t.b)), (105, (Pv F.fb)), (106, (Pv F.fb)), (107, .pointer (some ⟨F.fb, 2, none⟩)), (108, .slice F.pb F.L.length F.pc), (109, (.slice wb lw.length wc)), (110, .int .i64 ↑pr.length), (111, .pointer (some ⟨bof (.slice wb lw.length wc), 0 + pr.length * 3, none⟩)), (112, .pointer (some ⟨bof (.slice wb lw.length wc), 0 + pr.length * 3, none⟩)), (113, (Pv so.r.rb)), (114, (Pv so.r.rb)), (115, .pointer (some ⟨so.r.rb, 1, none⟩)), (116, .int .i64 ↑so.r.i), (117, .pointer (some ⟨bof (.slice F.pb F.L.length F.pc), 0 + so.r.i * 1, none⟩)), (118, (Pv so.r.t.b)), (119, .bool false), (120, .bool false)]) [V.drew] V.drew (fun w' => [(0, [w'.cell? ⟨ib, 0, none⟩ = some (.int .i64 ↑pr.length)]), (1, [w'.cell? ⟨wx, 0, none⟩ = some ((.slice wb lw.length wc))]), (2, [Sem.run Try.prog (vS (Builtin.len_ #[28] 3 #[(.slice wb lw.length wc)])) w' = .ok (.value (.int .i64 ↑lw.length)) w']), (3, [Value.bool (decide ((↑pr.length : Int) ≥ ↑lw.length)) = .bool false]), (6, [w'.cell? ⟨wx, 0, none⟩ = some ((.slice wb lw.length wc))]), (7, [w'.cell? ⟨ib, 0, none⟩ = some (.int .i64 ↑pr.length)]), (8, [Sem.run Try.prog (vS (Instr.indexAt 28 ((.slice wb lw.length wc)) (.int .i64 ↑pr.length))) w' = .ok (.value (.pointer (some ⟨bof (.slice wb lw.length wc), 0 + pr.length * 3, none⟩))) w']), (10, [w'.cell? ⟨bof (.slice wb lw.length wc), 0 + pr.length * 3 + 1, none⟩ = some (.int .i64 so.at_)]), (11, [Value.bool (((so.at_ : Int) != so.at_)) = .bool false]), (15, [w'.cell? ⟨fx, 0, none⟩ = some ((Pv F.fb))]), (18, [w'.cell? ⟨F.fb, 2, none⟩ = some (.slice F.pb F.L.length F.pc)]), (19, [w'.cell? ⟨wx, 0, none⟩ = some ((.slice wb lw.length wc))]), (20, [w'.cell? ⟨ib, 0, none⟩ = some (.int .i64 ↑pr.length)]), (21, [Sem.run Try.prog (vS (Instr.indexAt 28 ((.slice wb lw.length wc)) (.int .i64 ↑pr.length))) w' = .ok (.value (.pointer (some ⟨bof (.slice wb lw.length wc), 0 + pr.length * 3, none⟩))) w']), (23, [w'.cell? ⟨bof (.slice wb lw.length wc), 0 + pr.length * 3, none⟩ = some ((Pv so.r.rb))]), (26, [w'.cell? ⟨so.r.rb, 1, none⟩ = some (.int .i64 ↑so.r.i)]), (27, [Sem.run Try.prog (vS (Instr.indexAt 32 (.slice F.pb F.L.length F.pc) (.int .i64 ↑so.r.i))) w' = .ok (.value (.pointer (some ⟨bof (.slice F.pb F.L.length F.pc), 0 + so.r.i * 1, none⟩))) w']), (28, [w'.cell? ⟨bof (.slice F.pb F.L.length F.pc), 0 + so.r.i * 1, none⟩ = some ((Pv so.r.t.b))]), (29, [Sem.run Try.prog (vS (do eqGuard .neq 47 (.tmp 104) (.tmp 118) ((Pv so.r.t.b)) ((Pv so.r.t.b)); binOp .neq 47 ((Pv so.r.t.b)) ((Pv so.r.t.b)))) w' = .ok (.value (.bool false)) w'])]) [1, 5, 7, 9, 10, 11, 12, 13, 16, 17, 18] [] hS (by kernel_rfl) (by kernel_rfl) (by kernel_rfl) (by kernel_rfl) (fun _ => by kernel_rfl) (by kernel_rfl) (by kernel_rfl) (by kernel_rfl) ?_ ?_ ?_
              · intro e w' hw
                refine (.cons ?_ (.cons ?_ (.cons ?_ (.cons ?_ (.cons ?_ (.cons ?_ (.cons ?_ (.cons ?_ (.cons ?_ (.cons ?_ (.cons ?_ (.cons ?_ (.cons ?_ (.cons ?_ (.cons ?_ (.cons ?_ (.cons ?_ (.cons ?_ (.cons ?_ .nil)))))))))))))))))))
                · intro h1 h2
                  obtain rfl : e = 0 := Nat.le_antisymm h2 h1
                  obtain rfl : w' = V.drew := hw.trans (by kernel_rfl)
                  exact (.cons ((hibV.drew : Blk V.drew ib 3 (#[.int .i64 ↑pr.length])).cell 0 rfl) .nil)
                · intro h1 h2
                  obtain rfl : e = 0 := Nat.le_antisymm h2 h1
                  obtain rfl : w' = V.drew := hw.trans (by kernel_rfl)
                  exact (.cons ((hCwxV.drew : Blk V.drew wx 28 (#[(.slice wb lw.length wc)])).cell 0 rfl) .nil)
                · exact fun _ _ => (.cons (run_len_own hO (by kernel_rfl)) .nil)
                · exact fun _ _ => (.cons (as_f (by omega)) .nil)
                · intro h1 h2
                  obtain rfl : e = 0 := Nat.le_antisymm h2 h1
                  obtain rfl : w' = V.drew := hw.trans (by kernel_rfl)
                  exact (.cons ((hCwxV.drew : Blk V.drew wx 28 (#[(.slice wb lw.length wc)])).cell 0 rfl) .nil)
                · intro h1 h2
                  obtain rfl : e = 0 := Nat.le_antisymm h2 h1
                  obtain rfl : w' = V.drew := hw.trans (by kernel_rfl)
                  exact (.cons ((hibV.drew : Blk V.drew ib 3 (#[.int .i64 ↑pr.length])).cell 0 rfl) .nil)
                · exact fun _ _ => (.cons (ix_own (j := pr.length) hO (by kernel_rfl) (by kernel_rfl) rfl hjl) .nil)
                · intro h1 h2
                  obtain rfl : e = 0 := Nat.le_antisymm h2 h1
                  obtain rfl : w' = V.drew := hw.trans (by kernel_rfl)
                  exact (.cons (hOV.cellAt _ (by have h := spc_at lw pr.length 1 _ hso (by omega); simpa [Rf.ptr] using h)) .nil)
                · exact fun _ _ => (.cons (as_ne_f (rfl)) .nil)
                · intro h1 h2
                  obtain rfl : e = 0 := Nat.le_antisymm h2 h1
                  obtain rfl : w' = V.drew := hw.trans (by kernel_rfl)
                  exact (.cons ((hCfxV.drew : Blk V.drew fx 24 (#[(Pv F.fb)])).cell 0 rfl) .nil)
                · intro h1 h2
                  obtain rfl : e = 0 := Nat.le_antisymm h2 h1
                  obtain rfl : w' = V.drew := hw.trans (by kernel_rfl)
                  exact (.cons ((hFV.f.drew : Blk V.drew F.fb 35 (#[(Pv F.s0), (Pv F.s1), .slice F.pb F.L.length F.pc, .slice F.qb F.L.length F.qc, .slice F.bb F.bn F.bc])).cell 2 rfl) .nil)
                · intro h1 h2
                  obtain rfl : e = 0 := Nat.le_antisymm h2 h1
                  obtain rfl : w' = V.drew := hw.trans (by kernel_rfl)
                  exact (.cons ((hCwxV.drew : Blk V.drew wx 28 (#[(.slice wb lw.length wc)])).cell 0 rfl) .nil)
                · intro h1 h2
                  obtain rfl : e = 0 := Nat.le_antisymm h2 h1
                  obtain rfl : w' = V.drew := hw.trans (by kernel_rfl)
                  exact (.cons ((hibV.drew : Blk V.drew ib 3 (#[.int .i64 ↑pr.length])).cell 0 rfl) .nil)
                · exact fun _ _ => (.cons (ix_own (j := pr.length) hO (by kernel_rfl) (by kernel_rfl) rfl hjl) .nil)
                · intro h1 h2
                  obtain rfl : e = 0 := Nat.le_antisymm h2 h1
                  obtain rfl : w' = V.drew := hw.trans (by kernel_rfl)
                  exact (.cons (hOV.cellAt _ (by have h := spc_at lw pr.length 0 _ hso (by omega); simpa [Rf.ptr] using h)) .nil)
                · intro h1 h2
                  obtain rfl : e = 0 := Nat.le_antisymm h2 h1
                  obtain rfl : w' = V.drew := hw.trans (by kernel_rfl)
                  exact (.cons ((hBo.drew : Blk V.drew so.r.rb 40 (#[.int .i64 so.r.k, .int .i64 ↑so.r.i, .int .i64 so.r.t.kd, .int .i64 so.r.t.nn, .int .i64 so.r.t.lk, .int .i64 so.r.t.ls, .int .i64 so.r.t.ll, .int .i64 so.r.t.lr, so.r.kv, .int .i64 so.r.t.tt])).cell 1 rfl) .nil)
                · exact fun _ _ => (.cons (ix_own (j := so.r.i) (hFV.P) (by kernel_rfl) (by kernel_rfl) rfl hoi) .nil)
                · intro h1 h2
                  obtain rfl : e = 0 := Nat.le_antisymm h2 h1
                  obtain rfl : w' = V.drew := hw.trans (by kernel_rfl)
                  exact (.cons ((hFV.P.drew : OwnV V.drew 47 1 (.slice F.pb F.L.length F.pc) F.L.length (F.L.map fun r => r.t.ptr)).cellAt _ (by simp [hoL, Tr.ptr])) .nil)
                · intro h1 h2
                  obtain rfl : e = 0 := Nat.le_antisymm h2 h1
                  obtain rfl : w' = V.drew := hw.trans (by kernel_rfl)
                  exact (.cons (bin_ptr_neq (E := 106) (by kernel_rfl) ⟨12, by kernel_rfl⟩ (hTo.drew) (hTo.drew) (by simp)) .nil)
              · refine .nil
              rintro a w278 hS hw279
              replace hw279 : w278 = V.drew := hw279.trans (by kernel_rfl)
              have hB280 := Blk.at' hw279 (hCfxV.drew)
              have hB281 := Blk.at' hw279 (hCwxV.drew)
              have hB282 := Blk.at' hw279 (hibV.drew)
              have hB283 := Blk.at' hw279 (hFV.f.drew)
              have hB284 := OwnV.at' hw279 (hFV.P.drew)
              have hB285 := Blk.at' hw279 (hBo.drew)
              have hB286 := Blk.at' hw279 (hTo.drew)
              have hE287 : Ext [ib] V w278 := by rw [hw279]; exact hVV.drew
              replace hS := hS.keepTo [1, 5, 7, 9, 10, 11, 12, 13, 16, 17, 18, 120] (m' := [(1, .int .i64 ↑i), (5, (Pv fx)), (7, (Pv wx)), (9, (Pv sx)), (10, (Pv rx)), (11, (Pv qx)), (12, (Pv nb)), (13, (Pv kb)), (16, (Pv ib)), (17, .int .i64 so.at_), (18, (Pv so.r.t.b)), (120, .bool false)]) (by kernel_rfl)
              refine hK276 _ _ ?_
              refine cond_f hS rfl ?_
              refine wpIn_skip ?_
              refine hK275 _ _ ?_
              refine region 3 (by kernel_rfl) ?_
              refine seg (wide_wide.inRound l3) [.ld (.int .i64 ↑pr.length), .as (.int .i64 (↑pr.length + 1))] [1, 5, 7, 9, 10, 11, 12, 13, 16, 17, 18, 120, 122] [w278.cell? ⟨ib, 0, none⟩ = some (.int .i64 ↑pr.length), Value.int .i64 (IntKind.i64.wrap (↑pr.length + 1)) = .int .i64 (↑pr.length + 1)] [(1, .int .i64 ↑i), (5, (Pv fx)), (7, (Pv wx)), (9, (Pv sx)), (10, (Pv rx)), (11, (Pv qx)), (12, (Pv nb)), (13, (Pv kb)), (16, (Pv ib)), (17, .int .i64 so.at_), (18, (Pv so.r.t.b)), (120, .bool false), (122, .int .i64 (↑pr.length + 1))] 2 1 hS (by kernel_rfl) (by kernel_rfl) (by kernel_rfl) (.cons (hB282.cell 0 rfl) (.cons (as_i64 (by omega)) .nil)) fun a hS => ?_
              refine eff_store (wide_wide.inRound l3) (r := 0) (b := ib) (off := 0) (vs := [.int .i64 (↑pr.length + 1)]) hS (by kernel_rfl) hB282 (by simp) fun a w288 hw289 hS => ?_
              have hB290 := Blk.at' hw289 (hB280.updNe (Ne.symm hmifx) _ _)
              have hB291 := Blk.at' hw289 (hB281.updNe (Ne.symm hmiwx) _ _)
              have hB292 : Blk w288 ib 3 (#[.int .i64 (↑pr.length + 1)]) := by rw [hw289]; exact hB282.upd _ _
              have hB293 := Blk.at' hw289 (hB283.updNe (Blk.ne_type hB282 hB283 (by decide)) _ _)
              have hB294 := OwnV.at' hw289 (hB284.updNe hgpV _ _)
              have hB295 := Blk.at' hw289 (hB285.updNe (Blk.ne_type hB282 hB285 (by decide)) _ _)
              have hB296 := Blk.at' hw289 (hB286.updNe (Blk.ne_type hB282 hB286 (by decide)) _ _)
              have hE297 : Ext [ib] V w288 := by rw [hw289]; exact hE287.updIn (.inl (by simp)) _ _
              refine seg_end ?_
              refine inBlock_normal ?_
              exact left_normal (C' := [ib]) hE297 (Fresh.refl _ _) (hlieV.ext hE297) ⟨rfl, by simpa using hB292⟩
            · rintro Cx V2 a hEV2 hfr2 hlie2 ⟨rfl, hib2⟩ hS
              rw [hxl] at hib2
              have hEi2 : Ext [kb] W V2 := hEi9.trans hEV2 (by intro b hb; obtain rfl := (by simpa using hb : b = ib); exact .inr hibn)
              replace hS : St 141 [] [(1, .int .i64 ↑i), (5, (Pv fx)), (7, (Pv wx)), (9, (Pv sx)), (10, (Pv rx)), (11, (Pv qx)), (12, (Pv nb)), (13, (Pv kb)), (16, (Pv ib))] a := hS.keepTo [1, 5, 7, 9, 10, 11, 12, 13, 16] (by kernel_rfl)
              have hCfx2 := hCfx9.ext hEV2 (by simpa using hmifx)
              have hCwx2 := hCwx9.ext hEV2 (by simpa using hmiwx)
              have hCsx2 := hCsx9.ext hEV2 (by simpa using hmisx)
              have hCrx2 := hCrx9.ext hEV2 (by simpa using hmirx)
              have hCqx2 := hCqx9.ext hEV2 (by simpa using hmiqx)
              have hCbx2 := hCbx9.ext hEV2 (by simpa using hmibx)
              have hCnb2 := hCnb9.ext hEV2 (by simpa using hminb)
              have hCkb2 := hCkb9.ext hEV2 (by simpa using hmikb)
              refine inBlock_normal ?_
              refine hK272 _ _ ?_
              refine wpIn_seq_k fun K298 hK298 => ?_
              refine region 4 (by kernel_rfl) ?_
              refine seg (wide_wide.inRound l2) [.ld (.int .i64 ↑lw.length), .ld ((.slice wb lw.length wc)), .run (.int .i64 ↑lw.length), .as (.bool false)] [1, 5, 7, 9, 10, 11, 12, 13, 16, 126] [V2.cell? ⟨ib, 0, none⟩ = some (.int .i64 ↑lw.length), V2.cell? ⟨wx, 0, none⟩ = some ((.slice wb lw.length wc)), Sem.run Try.prog (vS (Builtin.len_ #[28] 3 #[(.slice wb lw.length wc)])) V2 = .ok (.value (.int .i64 ↑lw.length)) V2, Value.bool (((↑lw.length : Int) != ↑lw.length)) = .bool false] [(1, .int .i64 ↑i), (5, (Pv fx)), (7, (Pv wx)), (9, (Pv sx)), (10, (Pv rx)), (11, (Pv qx)), (12, (Pv nb)), (13, (Pv kb)), (16, (Pv ib)), (126, .bool false)] 4 0 hS (by kernel_rfl) (by kernel_rfl) (by kernel_rfl) (.cons (hib2.cell 0 rfl) (.cons (hCwx2.cell 0 rfl) (.cons (run_len_own hO (by kernel_rfl)) (.cons (as_ne_f (rfl)) .nil)))) fun a hS => ?_
              refine seg_end ?_
              refine hK298 _ _ ?_
              refine cond_f hS rfl ?_
              refine wpIn_skip ?_
              refine inBlock_normal ?_
              exact left_normal (C' := [kb]) hEi2 (Fresh.refl _ _) (hlieW.ext hEi2) ⟨rfl, by simpa using hCkb2⟩
            · intro c pre Cx W a _ _ _ _ h; exact h.elim
          · -- ((↑pre.length + 1 : Int) == 2) is false
            replace hb225 := test_eq_f hb225
            refine wpIn_skip ?_
            refine inBlock_normal ?_
            exact left_normal (C' := [kb]) hE223 (Fresh.refl _ _) (hlieW.ext hE223) ⟨rfl, by simpa using hB218⟩
      · rintro Cx w10 a hE910 hfr10 hlie10 hD10 ⟨rfl, hkb10⟩ hS
        rw [hxl] at hkb10
        have hnk : ∀ {T : TypeId} {cs : Array Value} {b : Nat}, Blk w170 b T cs → b ≠ kb → b ∉ [kb] := fun _ h2 hm => h2 (by simpa using hm)
        have hEl10 : Ext [] w129 w10 := hE9.trans hE910 (by intro b hb; obtain rfl := (by simpa using hb : b = kb); exact .inr hkbn)
        obtain ⟨D0, hD0e⟩ : ∃ D, D = w170.heap.size := ⟨_, rfl⟩
        rw [← hD0e] at hD10 hS
        have hD0n : w129.heap.size ≤ D0 := by rw [hD0e]; exact hl9
        have hDs10 : ∀ D ∈ D0 :: Ds, Dfr w10 D := fun D hD => by
          rcases List.mem_cons.1 hD with rfl | hD
          · exact hD10
          · exact (hD9 D hD).ext hE910 (by simpa using (hD9 D hD).ne_blk hkb0)
        have hnd2 : (D0 :: Ds).Nodup := List.nodup_cons.2 ⟨fun h => by have := (hD9 D0 h).lt; omega, hnd⟩
        have hDn2 : ∀ D ∈ D0 :: Ds, w129.heap.size ≤ D := fun D hD => by
          rcases List.mem_cons.1 hD with rfl | hD
          · exact hD0n
          · exact hDn D hD
        replace hS : St 141 ((D0 :: Ds).map dmark) [(1, .int .i64 ↑i), (5, (Pv fx)), (7, (Pv wx)), (9, (Pv sx)), (10, (Pv rx)), (11, (Pv qx)), (12, (Pv nb)), (13, (Pv kb))] a := hS.keepTo [1, 5, 7, 9, 10, 11, 12, 13] (by kernel_rfl)
        have hBfx10 := hBfx9.ext hE910 (by simpa using hnefx)
        have hBwx10 := hBwx9.ext hE910 (by simpa using hnewx)
        have hBsx10 := hBsx9.ext hE910 (by simpa using hnesx)
        have hBrx10 := hBrx9.ext hE910 (by simpa using hnerx)
        have hBqx10 := hBqx9.ext hE910 (by simpa using hneqx)
        have hBbx10 := hBbx9.ext hE910 (by simpa using hnebx)
        have hBnb10 := hBnb9.ext hE910 (by simpa using hnenb)
        refine inBlock_normal ?_
        refine hK184 _ _ ?_
        refine wpIn_seq_k fun K299 hK299 => ?_
        refine region 13 (by kernel_rfl) ?_
        refine seg wide_wide [.ld (.int .i64 ↑lw.length), .ld ((.slice wb lw.length wc)), .run (.int .i64 ↑lw.length), .as (.bool false), .p, .no, .no, .no, .no, .no, .no, .no, .p] [1, 5, 7, 9, 10, 11, 12, 13, 139] [w10.cell? ⟨kb, 0, none⟩ = some (.int .i64 ↑lw.length), w10.cell? ⟨wx, 0, none⟩ = some ((.slice wb lw.length wc)), Sem.run Try.prog (vS (Builtin.len_ #[28] 3 #[(.slice wb lw.length wc)])) w10 = .ok (.value (.int .i64 ↑lw.length)) w10, Value.bool (((↑lw.length : Int) != ↑lw.length)) = .bool false] [(1, .int .i64 ↑i), (5, (Pv fx)), (7, (Pv wx)), (9, (Pv sx)), (10, (Pv rx)), (11, (Pv qx)), (12, (Pv nb)), (13, (Pv kb)), (139, .bool false)] 13 0 hS (by kernel_rfl) (by kernel_rfl) (by kernel_rfl) (.cons (hkb10.cell 0 rfl) (.cons (hBwx10.cell 0 rfl) (.cons (run_len_own hO (by kernel_rfl)) (.cons (as_ne_f (rfl)) .nil)))) fun a hS => ?_
        refine seg_end ?_
        refine hK299 _ _ ?_
        refine cond_f hS rfl ?_
        refine wpIn_skip ?_
        refine inBlock_normal ?_
        refine hK145 _ _ ?_
        refine wpIn_seq_k fun K300 hK300 => ?_
        refine wpIn_seq_k fun K301 hK301 => ?_
        refine region 1 (by kernel_rfl) ?_
        refine seg wide_wide [.ld (.int .i64 0)] [1, 5, 7, 9, 10, 11, 12, 13, 139, 140] [w10.cell? ⟨nb, 0, none⟩ = some (.int .i64 0)] [(1, .int .i64 ↑i), (5, (Pv fx)), (7, (Pv wx)), (9, (Pv sx)), (10, (Pv rx)), (11, (Pv qx)), (12, (Pv nb)), (13, (Pv kb)), (139, .bool false), (140, .int .i64 0)] 1 0 hS (by kernel_rfl) (by kernel_rfl) (by kernel_rfl) (.cons (hBnb10.cell 0 rfl) .nil) fun a hS => ?_
        refine seg_end ?_
        refine hK301 _ _ ?_
        refine region 2 (by kernel_rfl) ?_
        refine eff_box wide_wide (r := 1) (cs := #[.int .i64 0]) (T := 3) (d := (some 12)) hS (by kernel_rfl) fun a w302 hw303 hS => ?_
        have hn304 : fx ≠ w10.heap.size := Nat.ne_of_lt hBfx10.lt
        have hn305 : wx ≠ w10.heap.size := Nat.ne_of_lt hBwx10.lt
        have hn306 : sx ≠ w10.heap.size := Nat.ne_of_lt hBsx10.lt
        have hn307 : rx ≠ w10.heap.size := Nat.ne_of_lt hBrx10.lt
        have hn308 : qx ≠ w10.heap.size := Nat.ne_of_lt hBqx10.lt
        have hn309 : bx ≠ w10.heap.size := Nat.ne_of_lt hBbx10.lt
        have hn310 : nb ≠ w10.heap.size := Nat.ne_of_lt hBnb10.lt
        have hn311 : kb ≠ w10.heap.size := Nat.ne_of_lt hkb10.lt
        have hB312 := Blk.at' hw303 (hBfx10.alloc _)
        have hB313 := Blk.at' hw303 (hBwx10.alloc _)
        have hB314 := Blk.at' hw303 (hBsx10.alloc _)
        have hB315 := Blk.at' hw303 (hBrx10.alloc _)
        have hB316 := Blk.at' hw303 (hBqx10.alloc _)
        have hB317 := Blk.at' hw303 (hBbx10.alloc _)
        have hB318 := Blk.at' hw303 (hBnb10.alloc _)
        have hB319 := Blk.at' hw303 (hkb10.alloc _)
        have hX320 : Ext [] w10 w302 := by rw [hw303]; exact (Ext.refl _ _).alloc _
        have hG321 : ∀ D ∈ D0 :: Ds, Dfr w302 D := fun D hD => (hDs10 D hD).ext hX320 (by simp)
        have hB322 : Blk w302 (w10.heap.size) 3 #[.int .i64 0] := by rw [hw303]; exact Blk.new _ _ _
        have hs323 : w129.heap.size ≤ w10.heap.size := hEl10.size
        have hE324 : Ext [] w129 w302 := by rw [hw303]; exact hEl10.alloc _
        refine eff_store wide_wide (r := 0) (b := w10.heap.size) (off := 0) (vs := [.int .i64 0]) hS (by kernel_rfl) hB322 (by simp) fun a w325 hw326 hS => ?_
        have hB327 := Blk.at' hw326 (hB312.updNe (Ne.symm hn304) _ _)
        have hB328 := Blk.at' hw326 (hB313.updNe (Ne.symm hn305) _ _)
        have hB329 := Blk.at' hw326 (hB314.updNe (Ne.symm hn306) _ _)
        have hB330 := Blk.at' hw326 (hB315.updNe (Ne.symm hn307) _ _)
        have hB331 := Blk.at' hw326 (hB316.updNe (Ne.symm hn308) _ _)
        have hB332 := Blk.at' hw326 (hB317.updNe (Ne.symm hn309) _ _)
        have hB333 := Blk.at' hw326 (hB318.updNe (Ne.symm hn310) _ _)
        have hB334 := Blk.at' hw326 (hB319.updNe (Ne.symm hn311) _ _)
        have hB335 : Blk w325 w10.heap.size 3 (#[.int .i64 0]) := by rw [hw326]; exact hB322.upd _ _
        have hX336 : Ext [w10.heap.size] w302 w325 := by rw [hw326]; exact (Ext.refl _ _).updIn (.inl (by simp)) _ _
        have hG337 : ∀ D ∈ D0 :: Ds, Dfr w325 D := fun D hD => (hG321 D hD).ext hX336 (by simpa using (hG321 D hD).ne_blk hB322)
        have hE338 : Ext [] w129 w325 := by rw [hw326]; exact hE324.updIn (.inr hs323) _ _
        refine seg_end ?_
        refine hK300 _ _ ?_
        refine region 3 (by kernel_rfl) ?_
        refine seg wide_wide [.ld (.int .i64 0), .p] [1, 5, 7, 9, 10, 11, 12, 13, 139, 140, 41] [w325.cell? ⟨w10.heap.size, 0, none⟩ = some (.int .i64 0)] [(1, .int .i64 ↑i), (5, (Pv fx)), (7, (Pv wx)), (9, (Pv sx)), (10, (Pv rx)), (11, (Pv qx)), (12, (Pv w10.heap.size)), (13, (Pv kb)), (139, .bool false), (140, .int .i64 0), (41, .int .i64 1)] 2 1 hS (by kernel_rfl) (by kernel_rfl) (by kernel_rfl) (.cons (hB335.cell 0 rfl) .nil) fun a hS => ?_
        refine eff_store wide_wide (r := 0) (b := w10.heap.size) (off := 0) (vs := [.int .i64 1]) hS (by kernel_rfl) hB335 (by simp) fun a w339 hw340 hS => ?_
        have hB341 := Blk.at' hw340 (hB327.updNe (Ne.symm hn304) _ _)
        have hB342 := Blk.at' hw340 (hB328.updNe (Ne.symm hn305) _ _)
        have hB343 := Blk.at' hw340 (hB329.updNe (Ne.symm hn306) _ _)
        have hB344 := Blk.at' hw340 (hB330.updNe (Ne.symm hn307) _ _)
        have hB345 := Blk.at' hw340 (hB331.updNe (Ne.symm hn308) _ _)
        have hB346 := Blk.at' hw340 (hB332.updNe (Ne.symm hn309) _ _)
        have hB347 := Blk.at' hw340 (hB333.updNe (Ne.symm hn310) _ _)
        have hB348 := Blk.at' hw340 (hB334.updNe (Ne.symm hn311) _ _)
        have hB349 : Blk w339 w10.heap.size 3 (#[.int .i64 1]) := by rw [hw340]; exact hB335.upd _ _
        have hX350 : Ext [w10.heap.size] w325 w339 := by rw [hw340]; exact (Ext.refl _ _).updIn (.inl (by simp)) _ _
        have hG351 : ∀ D ∈ D0 :: Ds, Dfr w339 D := fun D hD => (hG337 D hD).ext hX350 (by simpa using (hG337 D hD).ne_blk hB335)
        have hE352 : Ext [] w129 w339 := by rw [hw340]; exact hE338.updIn (.inr hs323) _ _
        refine seg_end ?_
        exact ⟨(1, w10.heap.size, D0 :: Ds), ⟨hS.keepTo [1, 5, 7, 9, 10, 11, 12] (by kernel_rfl), by omega, hE352, hB349, hG351, hnd2, hDn2⟩, by simp⟩
      · rintro c pre Cx w10 a hE910 hfr10 hlie10 hD10 _ ⟨rfl, rfl, k, hks, hkl2, hkb10⟩ hS
        have hnk : ∀ {T : TypeId} {cs : Array Value} {b : Nat}, Blk w170 b T cs → b ≠ kb → b ∉ [kb] := fun _ h2 hm => h2 (by simpa using hm)
        have hEl10 : Ext [] w129 w10 := hE9.trans hE910 (by intro b hb; obtain rfl := (by simpa using hb : b = kb); exact .inr hkbn)
        obtain ⟨D0, hD0e⟩ : ∃ D, D = w170.heap.size := ⟨_, rfl⟩
        rw [← hD0e] at hD10 hS
        have hD0n : w129.heap.size ≤ D0 := by rw [hD0e]; exact hl9
        have hDs10 : ∀ D ∈ D0 :: Ds, Dfr w10 D := fun D hD => by
          rcases List.mem_cons.1 hD with rfl | hD
          · exact hD10
          · exact (hD9 D hD).ext hE910 (by simpa using (hD9 D hD).ne_blk hkb0)
        have hnd2 : (D0 :: Ds).Nodup := List.nodup_cons.2 ⟨fun h => by have := (hD9 D0 h).lt; omega, hnd⟩
        have hDn2 : ∀ D ∈ D0 :: Ds, w129.heap.size ≤ D := fun D hD => by
          rcases List.mem_cons.1 hD with rfl | hD
          · exact hD0n
          · exact hDn D hD
        replace hS : St 141 ((D0 :: Ds).map dmark) [(1, .int .i64 ↑i), (5, (Pv fx)), (7, (Pv wx)), (9, (Pv sx)), (10, (Pv rx)), (11, (Pv qx)), (12, (Pv nb)), (13, (Pv kb))] a := hS.keepTo [1, 5, 7, 9, 10, 11, 12, 13] (by kernel_rfl)
        have hBfx10 := hBfx9.ext hE910 (by simpa using hnefx)
        have hBwx10 := hBwx9.ext hE910 (by simpa using hnewx)
        have hBsx10 := hBsx9.ext hE910 (by simpa using hnesx)
        have hBrx10 := hBrx9.ext hE910 (by simpa using hnerx)
        have hBqx10 := hBqx9.ext hE910 (by simpa using hneqx)
        have hBbx10 := hBbx9.ext hE910 (by simpa using hnebx)
        have hBnb10 := hBnb9.ext hE910 (by simpa using hnenb)
        refine wpIn_exit ?_
        refine inBlock_hit ?_
        refine hK184 _ _ ?_
        refine wpIn_seq_k fun K353 hK353 => ?_
        refine region 13 (by kernel_rfl) ?_
        refine seg wide_wide [.ld (.int .i64 ↑k), .ld ((.slice wb lw.length wc)), .run (.int .i64 ↑lw.length), .as (.bool true), .p, .ld (.int .i64 0), .p, .p, .ld (.int .i64 ↑k), .ld (.int .i64 stop), .as (.bool false), .p, .p] [1, 5, 7, 9, 10, 11, 12, 13, 139] [w10.cell? ⟨kb, 0, none⟩ = some (.int .i64 ↑k), w10.cell? ⟨wx, 0, none⟩ = some ((.slice wb lw.length wc)), Sem.run Try.prog (vS (Builtin.len_ #[28] 3 #[(.slice wb lw.length wc)])) w10 = .ok (.value (.int .i64 ↑lw.length)) w10, Value.bool (((↑k : Int) != ↑lw.length)) = .bool true, w10.cell? ⟨nb, 0, none⟩ = some (.int .i64 0), w10.cell? ⟨kb, 0, none⟩ = some (.int .i64 ↑k), w10.cell? ⟨sx, 0, none⟩ = some (.int .i64 stop), Value.bool (((↑k : Int) != stop)) = .bool false] [(1, .int .i64 ↑i), (5, (Pv fx)), (7, (Pv wx)), (9, (Pv sx)), (10, (Pv rx)), (11, (Pv qx)), (12, (Pv nb)), (13, (Pv kb)), (139, .bool false)] 13 0 hS (by kernel_rfl) (by kernel_rfl) (by kernel_rfl) (.cons (hkb10.cell 0 rfl) (.cons (hBwx10.cell 0 rfl) (.cons (run_len_own hO (by kernel_rfl)) (.cons (as_ne_t (by omega)) (.cons (hBnb10.cell 0 rfl) (.cons (hkb10.cell 0 rfl) (.cons (hBsx10.cell 0 rfl) (.cons (as_ne_f (hks)) .nil)))))))) fun a hS => ?_
        refine seg_end ?_
        refine hK353 _ _ ?_
        refine cond_f hS rfl ?_
        refine wpIn_skip ?_
        refine inBlock_normal ?_
        refine hK145 _ _ ?_
        refine wpIn_seq_k fun K354 hK354 => ?_
        refine wpIn_seq_k fun K355 hK355 => ?_
        refine region 1 (by kernel_rfl) ?_
        refine seg wide_wide [.ld (.int .i64 0)] [1, 5, 7, 9, 10, 11, 12, 13, 139, 140] [w10.cell? ⟨nb, 0, none⟩ = some (.int .i64 0)] [(1, .int .i64 ↑i), (5, (Pv fx)), (7, (Pv wx)), (9, (Pv sx)), (10, (Pv rx)), (11, (Pv qx)), (12, (Pv nb)), (13, (Pv kb)), (139, .bool false), (140, .int .i64 0)] 1 0 hS (by kernel_rfl) (by kernel_rfl) (by kernel_rfl) (.cons (hBnb10.cell 0 rfl) .nil) fun a hS => ?_
        refine seg_end ?_
        refine hK355 _ _ ?_
        refine region 2 (by kernel_rfl) ?_
        refine eff_box wide_wide (r := 1) (cs := #[.int .i64 0]) (T := 3) (d := (some 12)) hS (by kernel_rfl) fun a w356 hw357 hS => ?_
        have hn358 : fx ≠ w10.heap.size := Nat.ne_of_lt hBfx10.lt
        have hn359 : wx ≠ w10.heap.size := Nat.ne_of_lt hBwx10.lt
        have hn360 : sx ≠ w10.heap.size := Nat.ne_of_lt hBsx10.lt
        have hn361 : rx ≠ w10.heap.size := Nat.ne_of_lt hBrx10.lt
        have hn362 : qx ≠ w10.heap.size := Nat.ne_of_lt hBqx10.lt
        have hn363 : bx ≠ w10.heap.size := Nat.ne_of_lt hBbx10.lt
        have hn364 : nb ≠ w10.heap.size := Nat.ne_of_lt hBnb10.lt
        have hn365 : kb ≠ w10.heap.size := Nat.ne_of_lt hkb10.lt
        have hB366 := Blk.at' hw357 (hBfx10.alloc _)
        have hB367 := Blk.at' hw357 (hBwx10.alloc _)
        have hB368 := Blk.at' hw357 (hBsx10.alloc _)
        have hB369 := Blk.at' hw357 (hBrx10.alloc _)
        have hB370 := Blk.at' hw357 (hBqx10.alloc _)
        have hB371 := Blk.at' hw357 (hBbx10.alloc _)
        have hB372 := Blk.at' hw357 (hBnb10.alloc _)
        have hB373 := Blk.at' hw357 (hkb10.alloc _)
        have hX374 : Ext [] w10 w356 := by rw [hw357]; exact (Ext.refl _ _).alloc _
        have hG375 : ∀ D ∈ D0 :: Ds, Dfr w356 D := fun D hD => (hDs10 D hD).ext hX374 (by simp)
        have hB376 : Blk w356 (w10.heap.size) 3 #[.int .i64 0] := by rw [hw357]; exact Blk.new _ _ _
        have hs377 : w129.heap.size ≤ w10.heap.size := hEl10.size
        have hE378 : Ext [] w129 w356 := by rw [hw357]; exact hEl10.alloc _
        refine eff_store wide_wide (r := 0) (b := w10.heap.size) (off := 0) (vs := [.int .i64 0]) hS (by kernel_rfl) hB376 (by simp) fun a w379 hw380 hS => ?_
        have hB381 := Blk.at' hw380 (hB366.updNe (Ne.symm hn358) _ _)
        have hB382 := Blk.at' hw380 (hB367.updNe (Ne.symm hn359) _ _)
        have hB383 := Blk.at' hw380 (hB368.updNe (Ne.symm hn360) _ _)
        have hB384 := Blk.at' hw380 (hB369.updNe (Ne.symm hn361) _ _)
        have hB385 := Blk.at' hw380 (hB370.updNe (Ne.symm hn362) _ _)
        have hB386 := Blk.at' hw380 (hB371.updNe (Ne.symm hn363) _ _)
        have hB387 := Blk.at' hw380 (hB372.updNe (Ne.symm hn364) _ _)
        have hB388 := Blk.at' hw380 (hB373.updNe (Ne.symm hn365) _ _)
        have hB389 : Blk w379 w10.heap.size 3 (#[.int .i64 0]) := by rw [hw380]; exact hB376.upd _ _
        have hX390 : Ext [w10.heap.size] w356 w379 := by rw [hw380]; exact (Ext.refl _ _).updIn (.inl (by simp)) _ _
        have hG391 : ∀ D ∈ D0 :: Ds, Dfr w379 D := fun D hD => (hG375 D hD).ext hX390 (by simpa using (hG375 D hD).ne_blk hB376)
        have hE392 : Ext [] w129 w379 := by rw [hw380]; exact hE378.updIn (.inr hs377) _ _
        refine seg_end ?_
        refine hK354 _ _ ?_
        refine region 3 (by kernel_rfl) ?_
        refine seg wide_wide [.ld (.int .i64 0), .p] [1, 5, 7, 9, 10, 11, 12, 13, 139, 140, 41] [w379.cell? ⟨w10.heap.size, 0, none⟩ = some (.int .i64 0)] [(1, .int .i64 ↑i), (5, (Pv fx)), (7, (Pv wx)), (9, (Pv sx)), (10, (Pv rx)), (11, (Pv qx)), (12, (Pv w10.heap.size)), (13, (Pv kb)), (139, .bool false), (140, .int .i64 0), (41, .int .i64 1)] 2 1 hS (by kernel_rfl) (by kernel_rfl) (by kernel_rfl) (.cons (hB389.cell 0 rfl) .nil) fun a hS => ?_
        refine eff_store wide_wide (r := 0) (b := w10.heap.size) (off := 0) (vs := [.int .i64 1]) hS (by kernel_rfl) hB389 (by simp) fun a w393 hw394 hS => ?_
        have hB395 := Blk.at' hw394 (hB381.updNe (Ne.symm hn358) _ _)
        have hB396 := Blk.at' hw394 (hB382.updNe (Ne.symm hn359) _ _)
        have hB397 := Blk.at' hw394 (hB383.updNe (Ne.symm hn360) _ _)
        have hB398 := Blk.at' hw394 (hB384.updNe (Ne.symm hn361) _ _)
        have hB399 := Blk.at' hw394 (hB385.updNe (Ne.symm hn362) _ _)
        have hB400 := Blk.at' hw394 (hB386.updNe (Ne.symm hn363) _ _)
        have hB401 := Blk.at' hw394 (hB387.updNe (Ne.symm hn364) _ _)
        have hB402 := Blk.at' hw394 (hB388.updNe (Ne.symm hn365) _ _)
        have hB403 : Blk w393 w10.heap.size 3 (#[.int .i64 1]) := by rw [hw394]; exact hB389.upd _ _
        have hX404 : Ext [w10.heap.size] w379 w393 := by rw [hw394]; exact (Ext.refl _ _).updIn (.inl (by simp)) _ _
        have hG405 : ∀ D ∈ D0 :: Ds, Dfr w393 D := fun D hD => (hG391 D hD).ext hX404 (by simpa using (hG391 D hD).ne_blk hB389)
        have hE406 : Ext [] w129 w393 := by rw [hw394]; exact hE392.updIn (.inr hs377) _ _
        refine seg_end ?_
        exact ⟨(1, w10.heap.size, D0 :: Ds), ⟨hS.keepTo [1, 5, 7, 9, 10, 11, 12] (by kernel_rfl), by omega, hE406, hB403, hG405, hnd2, hDn2⟩, by simp⟩
    · -- an alternative
      replace hnb : Blk w1 nb 3 #[.int .i64 1] := hnb
      refine region 2 (by kernel_rfl) ?_
      refine eff_box wide_wide (r := 1) (cs := #[.int .i64 0]) (T := 3) (d := (some 13)) hS (by kernel_rfl) fun a w407 hw408 hS => ?_
      have hn409 : fx ≠ w1.heap.size := Nat.ne_of_lt hBfx1.lt
      have hn410 : wx ≠ w1.heap.size := Nat.ne_of_lt hBwx1.lt
      have hn411 : sx ≠ w1.heap.size := Nat.ne_of_lt hBsx1.lt
      have hn412 : rx ≠ w1.heap.size := Nat.ne_of_lt hBrx1.lt
      have hn413 : qx ≠ w1.heap.size := Nat.ne_of_lt hBqx1.lt
      have hn414 : bx ≠ w1.heap.size := Nat.ne_of_lt hBbx1.lt
      have hn415 : nb ≠ w1.heap.size := Nat.ne_of_lt hnb.lt
      have hn416 : F.fb ≠ w1.heap.size := Nat.ne_of_lt hF1.f.lt
      have hB417 := Blk.at' hw408 (hBfx1.alloc _)
      have hB418 := Blk.at' hw408 (hBwx1.alloc _)
      have hB419 := Blk.at' hw408 (hBsx1.alloc _)
      have hB420 := Blk.at' hw408 (hBrx1.alloc _)
      have hB421 := Blk.at' hw408 (hBqx1.alloc _)
      have hB422 := Blk.at' hw408 (hBbx1.alloc _)
      have hB423 := Blk.at' hw408 (hnb.alloc _)
      have hB424 := Blk.at' hw408 (hF1.f.alloc _)
      have hX425 : Ext [] w1 w407 := by rw [hw408]; exact (Ext.refl _ _).alloc _
      have hG426 : ∀ D ∈ Ds, Dfr w407 D := fun D hD => (hDs D hD).ext hX425 (by simp)
      have hB427 : Blk w407 (w1.heap.size) 3 #[.int .i64 0] := by rw [hw408]; exact Blk.new _ _ _
      have hs428 : w129.heap.size ≤ w1.heap.size := hEl.size
      have hE429 : Ext [] w129 w407 := by rw [hw408]; exact hEl.alloc _
      refine eff_store wide_wide (r := 0) (b := w1.heap.size) (off := 0) (vs := [.int .i64 0]) hS (by kernel_rfl) hB427 (by simp) fun a w430 hw431 hS => ?_
      have hB432 := Blk.at' hw431 (hB417.updNe (Ne.symm hn409) _ _)
      have hB433 := Blk.at' hw431 (hB418.updNe (Ne.symm hn410) _ _)
      have hB434 := Blk.at' hw431 (hB419.updNe (Ne.symm hn411) _ _)
      have hB435 := Blk.at' hw431 (hB420.updNe (Ne.symm hn412) _ _)
      have hB436 := Blk.at' hw431 (hB421.updNe (Ne.symm hn413) _ _)
      have hB437 := Blk.at' hw431 (hB422.updNe (Ne.symm hn414) _ _)
      have hB438 := Blk.at' hw431 (hB423.updNe (Ne.symm hn415) _ _)
      have hB439 := Blk.at' hw431 (hB424.updNe (Ne.symm hn416) _ _)
      have hB440 : Blk w430 w1.heap.size 3 (#[.int .i64 0]) := by rw [hw431]; exact hB427.upd _ _
      have hX441 : Ext [w1.heap.size] w407 w430 := by rw [hw431]; exact (Ext.refl _ _).updIn (.inl (by simp)) _ _
      have hG442 : ∀ D ∈ Ds, Dfr w430 D := fun D hD => (hG426 D hD).ext hX441 (by simpa using (hG426 D hD).ne_blk hB427)
      have hE443 : Ext [] w129 w430 := by rw [hw431]; exact hE429.updIn (.inr hs428) _ _
      refine seg_end ?_
      refine hK146 _ _ ?_
      refine wpIn_seq_k fun K444 hK444 => ?_
      refine wpIn_seq_k fun K445 hK445 => ?_
      refine region 1 (by kernel_rfl) ?_
      refine seg wide_wide [.ld (.func (.func 55) #[] #[(Pv bx)])] [1, 5, 7, 9, 10, 11, 12, 13, 42] [w430.cell? ⟨qx, 0, none⟩ = some (.func (.func 55) #[] #[(Pv bx)])] [(1, .int .i64 ↑i), (5, (Pv fx)), (7, (Pv wx)), (9, (Pv sx)), (10, (Pv rx)), (11, (Pv qx)), (12, (Pv nb)), (13, (Pv w1.heap.size)), (42, .func (.func 55) #[] #[(Pv bx)])] 1 0 hS (by kernel_rfl) (by kernel_rfl) (by kernel_rfl) (.cons (hB436.cell 0 rfl) .nil) fun a hS => ?_
      refine seg_end ?_
      refine hK445 _ _ ?_
      refine wpIn_block ?_
      replace hS := hS.keepTo [1, 5, 7, 9, 10, 11, 12, 13, 42] (m' := [(1, .int .i64 ↑i), (5, (Pv fx)), (7, (Pv wx)), (9, (Pv sx)), (10, (Pv rx)), (11, (Pv qx)), (12, (Pv nb)), (13, (Pv w1.heap.size)), (42, .func (.func 55) #[] #[(Pv bx)])]) (by kernel_rfl)
      have hkb0 := hB440
      have hkbn := hs428
      have hBfx9 := hB432
      have hnefx : fx ≠ w1.heap.size := hn409
      have hBwx9 := hB433
      have hnewx : wx ≠ w1.heap.size := hn410
      have hBsx9 := hB434
      have hnesx : sx ≠ w1.heap.size := hn411
      have hBrx9 := hB435
      have hnerx : rx ≠ w1.heap.size := hn412
      have hBqx9 := hB436
      have hneqx : qx ≠ w1.heap.size := hn413
      have hBbx9 := hB437
      have hnebx : bx ≠ w1.heap.size := hn414
      have hBnb9 := hB438
      have hnenb : nb ≠ w1.heap.size := hn415
      obtain ⟨kb, hkbe⟩ : ∃ x, x = w1.heap.size := ⟨_, rfl⟩
      rw [← hkbe] at hS hkb0 hkbn hnefx hnewx hnesx hnerx hneqx hnebx hnenb
      have hE9 := hE443
      have hF9 := hFl.ext0 hE9
      have hD9 := hG442
      have hkblt := hkb0.lt
      have hbxlt := hBbx0.lt
      have hl9 := hE9.size
      refine range_out (gf := 55) (lb := #[pv bx]) (enc := encW) (xs := (walk r.t 0)) (T := fun b => b = bx ∨ r.t.Foot b)
        (fun pre Cx W => Cx = [kb] ∧ Blk W kb 3 #[.int .i64 (pre.length : Int)])
        (fun _ _ _ _ => False) [kb] (fun q => [(1, .int .i64 ↑i), (5, (Pv fx)), (7, (Pv wx)), (9, (Pv sx)), (10, (Pv rx)), (11, (Pv qx)), (12, (Pv nb)), (13, (Pv kb)), (14, .int .i64 q.1), (15, (Pv q.2.b))]) hS rfl Try.call55 ?_ ?_ ?_ ?_ (fun _ => rfl) rfl ?_ ?_ ?_ ?_ ?_ ?_ ?_
      · intro W hEW _
        exact Walk1_any (hBbx9.ext hEW (by simp)) ((hF9.ok.one r hrm).ok.ext hEW r.t (by simp))
      · rintro b (rfl | hb)
        · exact hBbx9.lt
        · exact (hF9.ok.one r hrm).ok.foot_lt hb
      · intro b hb hT
        obtain rfl : b = kb := by simpa using hb
        rcases hT with hT | hT
        · exact hnebx hT.symm
        · exact (hF9.ok.one r hrm).ok.not_foot hkb0 (by decide) (by decide) hT
      · intro b hb
        obtain rfl : b = kb := by simpa using hb
        exact hkblt
      · rintro s Cx M W W' ⟨rfl, h1⟩ hE hM
        exact ⟨rfl, h1.ext hE (fun hm => (hM _ hm).2 (by simp))⟩
      · intro c s Cx M W W' h; exact h.elim
      · exact ⟨rfl, hkb0⟩
      · intro l2 q a' W K hS hK
        refine wpIn_seq_k fun K446 hK446 => ?_
        refine region 1 (by kernel_rfl) ?_
        refine seg (wide_wide.inRound l2) [.p] [1, 5, 7, 9, 10, 11, 12, 13, 43, 44, 14] [] [(1, .int .i64 ↑i), (5, (Pv fx)), (7, (Pv wx)), (9, (Pv sx)), (10, (Pv rx)), (11, (Pv qx)), (12, (Pv nb)), (13, (Pv kb)), (43, .int .i64 q.1), (44, q.2.ptr), (14, .int .i64 q.1)] 1 0 hS (by kernel_rfl) (by kernel_rfl) (by kernel_rfl) .nil fun a hS => ?_
        refine seg_end ?_
        refine hK446 _ _ ?_
        refine region 1 (by kernel_rfl) ?_
        refine seg (wide_wide.inRound l2) [.p] [1, 5, 7, 9, 10, 11, 12, 13, 43, 44, 14, 15] [] [(1, .int .i64 ↑i), (5, (Pv fx)), (7, (Pv wx)), (9, (Pv sx)), (10, (Pv rx)), (11, (Pv qx)), (12, (Pv nb)), (13, (Pv kb)), (43, .int .i64 q.1), (44, q.2.ptr), (14, .int .i64 q.1), (15, q.2.ptr)] 1 0 hS (by kernel_rfl) (by kernel_rfl) (by kernel_rfl) .nil fun a hS => ?_
        refine seg_end ?_
        exact hK _ (hS.keepTo [1, 5, 7, 9, 10, 11, 12, 13, 14, 15] (by kernel_rfl))
      · rintro l2 pre q post Cx W a hxs2 ⟨rfl, hkbW⟩ hlieW hfrW hnl hrec hEW hS
        have hkl : pre.length < lw.length := by
          have := congrArg List.length hxs2
          rw [hxl] at this
          simp at this
          omega
        obtain ⟨⟨sp, pv_⟩, hsp⟩ : ∃ q, lw[pre.length]? = some q := ⟨_, List.getElem?_eq_getElem hkl⟩
        obtain rfl : q = (sp.at_, sp.r.t) := by
          have h1 : (walk r.t 0)[pre.length]? = some q := by rw [hxs2]; simp
          rw [← hxs] at h1
          simp [hsp] at h1
          exact h1.symm
        have hqm := hin _ (List.mem_of_getElem? hsp)
        have hcw := spc_at lw pre.length
        have hWW : Ext [kb] W W := Ext.refl _ _
        have hEW0 : Ext [] w W := (hE0l.trans0 hE9).trans hEW (by intro b hb; obtain rfl := (by simpa using hb : b = kb); exact .inr (Nat.le_trans hE0l.size hkbn))
        have hFW := hF.ext0 hEW0
        have hqi := (hFW.ok.one _ hqm).ki
        have hqL := hFW.ok.at hqm
        have hOW := hO.ext0' hEW0
        replace hS : St 141 [] [(1, .int .i64 ↑i), (5, (Pv fx)), (7, (Pv wx)), (9, (Pv sx)), (10, (Pv rx)), (11, (Pv qx)), (12, (Pv nb)), (13, (Pv kb)), (14, .int .i64 sp.at_), (15, (Pv sp.r.t.b))] a := hS
        have hBfxW := hBfx9.ext hEW (by simpa using hnefx)
        have hBwxW := hBwx9.ext hEW (by simpa using hnewx)
        have hBsxW := hBsx9.ext hEW (by simpa using hnesx)
        have hBrxW := hBrx9.ext hEW (by simpa using hnerx)
        have hBqxW := hBqx9.ext hEW (by simpa using hneqx)
        have hBbxW := hBbx9.ext hEW (by simpa using hnebx)
        have hBnbW := hBnb9.ext hEW (by simpa using hnenb)
        have hgpW : ∀ x ∈ ob (.slice F.pb F.L.length F.pc), kb ≠ x := hFW.P.ne hkbW (by decide)
        have hrowq := (hFW.ok.one sp.r hqm).row
        have hBq : Blk W sp.r.rb 40 #[.int .i64 sp.r.k, .int .i64 ↑sp.r.i, .int .i64 sp.r.t.kd, .int .i64 sp.r.t.nn, .int .i64 sp.r.t.lk, .int .i64 sp.r.t.ls, .int .i64 sp.r.t.ll, .int .i64 sp.r.t.lr, sp.r.kv, .int .i64 sp.r.t.tt] := (hFW.ok.one sp.r hqm).blk
        have hTq : Blk W sp.r.t.b 106 #[.pointer (some ⟨(sOf F.s0 F.s1 sp.r.k), 0, none⟩), .int .i64 sp.r.t.num, .int .i64 sp.r.t.kd, .int .i64 sp.r.t.nn, .int .i64 sp.r.t.lk, .int .i64 sp.r.t.ls, .int .i64 sp.r.t.ll, .int .i64 sp.r.t.lr, sp.r.t.ks, .int .i64 sp.r.t.wd, .int .i64 sp.r.t.lf, .int .i64 sp.r.t.tt, .bool sp.r.t.fl] := (hFW.ok.one sp.r hqm).ok.blk
        refine wpIn_block ?_
        refine wpIn_seq_k fun K447 hK447 => ?_
        refine wpIn_seq_k fun K448 hK448 => ?_
        refine region 7 (by kernel_rfl) ?_
        refine seg (wide_wide.inRound l2) [.ld (.int .i64 1), .p, .p, .no, .no, .no, .p] [1, 5, 7, 9, 10, 11, 12, 13, 14, 15, 51] [W.cell? ⟨nb, 0, none⟩ = some (.int .i64 1)] [(1, .int .i64 ↑i), (5, (Pv fx)), (7, (Pv wx)), (9, (Pv sx)), (10, (Pv rx)), (11, (Pv qx)), (12, (Pv nb)), (13, (Pv kb)), (14, .int .i64 sp.at_), (15, (Pv sp.r.t.b)), (51, .bool false)] 7 0 hS (by kernel_rfl) (by kernel_rfl) (by kernel_rfl) (.cons (hBnbW.cell 0 rfl) .nil) fun a hS => ?_
        refine seg_end ?_
        refine hK448 _ _ ?_
        refine cond_f hS rfl ?_
        refine wpIn_skip ?_
        refine hK447 _ _ ?_
        refine wpIn_seq_k fun K449 hK449 => ?_
        refine wpIn_seq_k fun K450 hK450 => ?_
        refine region_fn2 (wide_wide.inRound l2) [.q (.ld (.int .i64 ↑pre.length)), .q (.ld ((.slice wb lw.length wc))), .q (.run (.int .i64 ↑lw.length)), .q (.as (.bool false)), .q .p, .q .p, .q (.ld ((.slice wb lw.length wc))), .q (.ld (.int .i64 ↑pre.length)), .q (.run (.pointer (some ⟨bof (.slice wb lw.length wc), 0 + pre.length * 3, none⟩))), .q .p, .q (.ld (.int .i64 sp.at_)), .q (.as (.bool false)), .q .p, .q .p, .q .p, .q (.ld ((Pv F.fb))), .q .p, .q .p, .q (.ld (.slice F.pb F.L.length F.pc)), .q (.ld ((.slice wb lw.length wc))), .q (.ld (.int .i64 ↑pre.length)), .q (.run (.pointer (some ⟨bof (.slice wb lw.length wc), 0 + pre.length * 3, none⟩))), .q .p, .q (.ld ((Pv sp.r.rb))), .q .p, .q .p, .q (.ld (.int .i64 ↑sp.r.i)), .q (.run (.pointer (some ⟨bof (.slice F.pb F.L.length F.pc), 0 + sp.r.i * 1, none⟩))), .q (.ld ((Pv sp.r.t.b))), .q (.run (.bool false)), .q .p] [0, 0, 0, 0, 0, 0, 0, 0, 0, 0, 0, 0, 0, 0, 0, 0, 0, 0, 0, 0, 0, 0, 0, 0, 0, 0, 0, 0, 0, 0, 0] [0, 0, 0, 0, 0, 0, 0, 0, 0, 0, 0, 0, 0, 0, 0, 0, 0, 0, 0, 0, 0, 0, 0, 0, 0, 0, 0, 0, 0, 0, 0] [0, 0, 2, 7, 15, 31, 31, 31, 223, 479, 991, 2047, 4095, 8191, 16383, 16383, 49151, 114687, 245759, 16383, 16383, 1589247, 3686399, 7880703, 16269311, 33046527, 66600959, 134201343, 268419071, 536870911, 1073741823] [] 0 ([(1, .int .i64 ↑i), (5, (Pv fx)), (7, (Pv wx)), (9, (Pv sx)), (10, (Pv rx)), (11, (Pv qx)), (12, (Pv nb)), (13, (Pv kb)), (14, .int .i64 sp.at_), (15, (Pv sp.r.t.b)), (51, .bool false), (52, .int .i64 ↑pre.length), (53, (.slice wb lw.length wc)), (54, .int .i64 ↑lw.length), (55, .bool false), (56, .bool false), (57, .int .i64 sp.at_), (58, (.slice wb lw.length wc)), (59, .int .i64 ↑pre.length), (60, .pointer (some ⟨bof (.slice wb lw.length wc), 0 + pre.length * 3, none⟩)), (61, .pointer (some ⟨bof (.slice wb lw.length wc), 0 + pre.length * 3 + 1, none⟩)), (62, .int .i64 sp.at_), (63, .bool false), (64, .bool false), (65, .bool false), (66, (Pv sp.r.t.b)), (67, (Pv F.fb)), (68, (Pv F.fb)), (69, .pointer (some ⟨F.fb, 2, none⟩)), (70, .slice F.pb F.L.length F.pc), (71, (.slice wb lw.length wc)), (72, .int .i64 ↑pre.length), (73, .pointer (some ⟨bof (.slice wb lw.length wc), 0 + pre.length * 3, none⟩)), (74, .pointer (some ⟨bof (.slice wb lw.length wc), 0 + pre.length * 3, none⟩)), (75, (Pv sp.r.rb)), (76, (Pv sp.r.rb)), (77, .pointer (some ⟨sp.r.rb, 1, none⟩)), (78, .int .i64 ↑sp.r.i), (79, .pointer (some ⟨bof (.slice F.pb F.L.length F.pc), 0 + sp.r.i * 1, none⟩)), (80, (Pv sp.r.t.b)), (81, .bool false), (82, .bool false)]) [W.drew] W.drew (fun w' => [(0, [w'.cell? ⟨kb, 0, none⟩ = some (.int .i64 ↑pre.length)]), (1, [w'.cell? ⟨wx, 0, none⟩ = some ((.slice wb lw.length wc))]), (2, [Sem.run Try.prog (vS (Builtin.len_ #[28] 3 #[(.slice wb lw.length wc)])) w' = .ok (.value (.int .i64 ↑lw.length)) w']), (3, [Value.bool (decide ((↑pre.length : Int) ≥ ↑lw.length)) = .bool false]), (6, [w'.cell? ⟨wx, 0, none⟩ = some ((.slice wb lw.length wc))]), (7, [w'.cell? ⟨kb, 0, none⟩ = some (.int .i64 ↑pre.length)]), (8, [Sem.run Try.prog (vS (Instr.indexAt 28 ((.slice wb lw.length wc)) (.int .i64 ↑pre.length))) w' = .ok (.value (.pointer (some ⟨bof (.slice wb lw.length wc), 0 + pre.length * 3, none⟩))) w']), (10, [w'.cell? ⟨bof (.slice wb lw.length wc), 0 + pre.length * 3 + 1, none⟩ = some (.int .i64 sp.at_)]), (11, [Value.bool (((sp.at_ : Int) != sp.at_)) = .bool false]), (15, [w'.cell? ⟨fx, 0, none⟩ = some ((Pv F.fb))]), (18, [w'.cell? ⟨F.fb, 2, none⟩ = some (.slice F.pb F.L.length F.pc)]), (19, [w'.cell? ⟨wx, 0, none⟩ = some ((.slice wb lw.length wc))]), (20, [w'.cell? ⟨kb, 0, none⟩ = some (.int .i64 ↑pre.length)]), (21, [Sem.run Try.prog (vS (Instr.indexAt 28 ((.slice wb lw.length wc)) (.int .i64 ↑pre.length))) w' = .ok (.value (.pointer (some ⟨bof (.slice wb lw.length wc), 0 + pre.length * 3, none⟩))) w']), (23, [w'.cell? ⟨bof (.slice wb lw.length wc), 0 + pre.length * 3, none⟩ = some ((Pv sp.r.rb))]), (26, [w'.cell? ⟨sp.r.rb, 1, none⟩ = some (.int .i64 ↑sp.r.i)]), (27, [Sem.run Try.prog (vS (Instr.indexAt 32 (.slice F.pb F.L.length F.pc) (.int .i64 ↑sp.r.i))) w' = .ok (.value (.pointer (some ⟨bof (.slice F.pb F.L.length F.pc), 0 + sp.r.i * 1, none⟩))) w']), (28, [w'.cell? ⟨bof (.slice F.pb F.L.length F.pc), 0 + sp.r.i * 1, none⟩ = some ((Pv sp.r.t.b))]), (29, [Sem.run Try.prog (vS (do eqGuard .neq 47 (.tmp 66) (.tmp 80) ((Pv sp.r.t.b)) ((Pv sp.r.t.b)); binOp .neq 47 ((Pv sp.r.t.b)) ((Pv sp.r.t.b)))) w' = .ok (.value (.bool false)) w'])]) [1, 5, 7, 9, 10, 11, 12, 13, 14, 15, 51] [] hS (by kernel_rfl) (by kernel_rfl) (by kernel_rfl) (by kernel_rfl) (fun _ => by kernel_rfl) (by kernel_rfl) (by kernel_rfl) (by kernel_rfl) ?_ ?_ ?_
        · intro e w' hw
          refine (.cons ?_ (.cons ?_ (.cons ?_ (.cons ?_ (.cons ?_ (.cons ?_ (.cons ?_ (.cons ?_ (.cons ?_ (.cons ?_ (.cons ?_ (.cons ?_ (.cons ?_ (.cons ?_ (.cons ?_ (.cons ?_ (.cons ?_ (.cons ?_ (.cons ?_ .nil)))))))))))))))))))
          · intro h1 h2
            obtain rfl : e = 0 := Nat.le_antisymm h2 h1
            obtain rfl : w' = W.drew := hw.trans (by kernel_rfl)
            exact (.cons ((hkbW.drew : Blk W.drew kb 3 (#[.int .i64 ↑pre.length])).cell 0 rfl) .nil)
          · intro h1 h2
            obtain rfl : e = 0 := Nat.le_antisymm h2 h1
            obtain rfl : w' = W.drew := hw.trans (by kernel_rfl)
            exact (.cons ((hBwxW.drew : Blk W.drew wx 28 (#[(.slice wb lw.length wc)])).cell 0 rfl) .nil)
          · exact fun _ _ => (.cons (run_len_own hO (by kernel_rfl)) .nil)
          · exact fun _ _ => (.cons (as_f (by omega)) .nil)
          · intro h1 h2
            obtain rfl : e = 0 := Nat.le_antisymm h2 h1
            obtain rfl : w' = W.drew := hw.trans (by kernel_rfl)
            exact (.cons ((hBwxW.drew : Blk W.drew wx 28 (#[(.slice wb lw.length wc)])).cell 0 rfl) .nil)
          · intro h1 h2
            obtain rfl : e = 0 := Nat.le_antisymm h2 h1
            obtain rfl : w' = W.drew := hw.trans (by kernel_rfl)
            exact (.cons ((hkbW.drew : Blk W.drew kb 3 (#[.int .i64 ↑pre.length])).cell 0 rfl) .nil)
          · exact fun _ _ => (.cons (ix_own (j := pre.length) hO (by kernel_rfl) (by kernel_rfl) rfl hkl) .nil)
          · intro h1 h2
            obtain rfl : e = 0 := Nat.le_antisymm h2 h1
            obtain rfl : w' = W.drew := hw.trans (by kernel_rfl)
            exact (.cons (hOW.cellAt _ (by have h := spc_at lw pre.length 1 _ hsp (by omega); simpa [Rf.ptr] using h)) .nil)
          · exact fun _ _ => (.cons (as_ne_f (rfl)) .nil)
          · intro h1 h2
            obtain rfl : e = 0 := Nat.le_antisymm h2 h1
            obtain rfl : w' = W.drew := hw.trans (by kernel_rfl)
            exact (.cons ((hBfxW.drew : Blk W.drew fx 24 (#[(Pv F.fb)])).cell 0 rfl) .nil)
          · intro h1 h2
            obtain rfl : e = 0 := Nat.le_antisymm h2 h1
            obtain rfl : w' = W.drew := hw.trans (by kernel_rfl)
            exact (.cons ((hFW.f.drew : Blk W.drew F.fb 35 (#[(Pv F.s0), (Pv F.s1), .slice F.pb F.L.length F.pc, .slice F.qb F.L.length F.qc, .slice F.bb F.bn F.bc])).cell 2 rfl) .nil)
          · intro h1 h2
            obtain rfl : e = 0 := Nat.le_antisymm h2 h1
            obtain rfl : w' = W.drew := hw.trans (by kernel_rfl)
            exact (.cons ((hBwxW.drew : Blk W.drew wx 28 (#[(.slice wb lw.length wc)])).cell 0 rfl) .nil)
          · intro h1 h2
            obtain rfl : e = 0 := Nat.le_antisymm h2 h1
            obtain rfl : w' = W.drew := hw.trans (by kernel_rfl)
            exact (.cons ((hkbW.drew : Blk W.drew kb 3 (#[.int .i64 ↑pre.length])).cell 0 rfl) .nil)
          · exact fun _ _ => (.cons (ix_own (j := pre.length) hO (by kernel_rfl) (by kernel_rfl) rfl hkl) .nil)
          · intro h1 h2
            obtain rfl : e = 0 := Nat.le_antisymm h2 h1
            obtain rfl : w' = W.drew := hw.trans (by kernel_rfl)
            exact (.cons (hOW.cellAt _ (by have h := spc_at lw pre.length 0 _ hsp (by omega); simpa [Rf.ptr] using h)) .nil)
          · intro h1 h2
            obtain rfl : e = 0 := Nat.le_antisymm h2 h1
            obtain rfl : w' = W.drew := hw.trans (by kernel_rfl)
            exact (.cons ((hBq.drew : Blk W.drew sp.r.rb 40 (#[.int .i64 sp.r.k, .int .i64 ↑sp.r.i, .int .i64 sp.r.t.kd, .int .i64 sp.r.t.nn, .int .i64 sp.r.t.lk, .int .i64 sp.r.t.ls, .int .i64 sp.r.t.ll, .int .i64 sp.r.t.lr, sp.r.kv, .int .i64 sp.r.t.tt])).cell 1 rfl) .nil)
          · exact fun _ _ => (.cons (ix_own (j := sp.r.i) (hFW.P) (by kernel_rfl) (by kernel_rfl) rfl hqi) .nil)
          · intro h1 h2
            obtain rfl : e = 0 := Nat.le_antisymm h2 h1
            obtain rfl : w' = W.drew := hw.trans (by kernel_rfl)
            exact (.cons ((hFW.P.drew : OwnV W.drew 47 1 (.slice F.pb F.L.length F.pc) F.L.length (F.L.map fun r => r.t.ptr)).cellAt _ (by simp [hqL, Tr.ptr])) .nil)
          · intro h1 h2
            obtain rfl : e = 0 := Nat.le_antisymm h2 h1
            obtain rfl : w' = W.drew := hw.trans (by kernel_rfl)
            exact (.cons (bin_ptr_neq (E := 106) (by kernel_rfl) ⟨12, by kernel_rfl⟩ (hTq.drew) (hTq.drew) (by simp)) .nil)
        · refine .nil
        rintro a w452 hS hw453
        replace hw453 : w452 = W.drew := hw453.trans (by kernel_rfl)
        have hB454 := Blk.at' hw453 (hBfxW.drew)
        have hB455 := Blk.at' hw453 (hBwxW.drew)
        have hB456 := Blk.at' hw453 (hBsxW.drew)
        have hB457 := Blk.at' hw453 (hBrxW.drew)
        have hB458 := Blk.at' hw453 (hBqxW.drew)
        have hB459 := Blk.at' hw453 (hBbxW.drew)
        have hB460 := Blk.at' hw453 (hBnbW.drew)
        have hB461 := Blk.at' hw453 (hkbW.drew)
        have hB462 := Blk.at' hw453 (hFW.f.drew)
        have hB463 := OwnV.at' hw453 (hFW.P.drew)
        have hB464 := Blk.at' hw453 (hBq.drew)
        have hB465 := Blk.at' hw453 (hTq.drew)
        have hE466 : Ext [kb] W w452 := by rw [hw453]; exact hWW.drew
        replace hS := hS.keepTo [1, 5, 7, 9, 10, 11, 12, 13, 14, 15, 51, 82] (m' := [(1, .int .i64 ↑i), (5, (Pv fx)), (7, (Pv wx)), (9, (Pv sx)), (10, (Pv rx)), (11, (Pv qx)), (12, (Pv nb)), (13, (Pv kb)), (14, .int .i64 sp.at_), (15, (Pv sp.r.t.b)), (51, .bool false), (82, .bool false)]) (by kernel_rfl)
        refine hK450 _ _ ?_
        refine cond_f hS rfl ?_
        refine wpIn_skip ?_
        refine hK449 _ _ ?_
        refine wpIn_seq_k fun K467 hK467 => ?_
        refine region 3 (by kernel_rfl) ?_
        refine seg (wide_wide.inRound l2) [.ld (.int .i64 ↑pre.length), .as (.int .i64 (↑pre.length + 1))] [1, 5, 7, 9, 10, 11, 12, 13, 14, 15, 51, 82, 84] [w452.cell? ⟨kb, 0, none⟩ = some (.int .i64 ↑pre.length), Value.int .i64 (IntKind.i64.wrap (↑pre.length + 1)) = .int .i64 (↑pre.length + 1)] [(1, .int .i64 ↑i), (5, (Pv fx)), (7, (Pv wx)), (9, (Pv sx)), (10, (Pv rx)), (11, (Pv qx)), (12, (Pv nb)), (13, (Pv kb)), (14, .int .i64 sp.at_), (15, (Pv sp.r.t.b)), (51, .bool false), (82, .bool false), (84, .int .i64 (↑pre.length + 1))] 2 1 hS (by kernel_rfl) (by kernel_rfl) (by kernel_rfl) (.cons (hB461.cell 0 rfl) (.cons (as_i64 (by omega)) .nil)) fun a hS => ?_
        refine eff_store (wide_wide.inRound l2) (r := 0) (b := kb) (off := 0) (vs := [.int .i64 (↑pre.length + 1)]) hS (by kernel_rfl) hB461 (by simp) fun a w468 hw469 hS => ?_
        have hB470 := Blk.at' hw469 (hB454.updNe (Ne.symm hnefx) _ _)
        have hB471 := Blk.at' hw469 (hB455.updNe (Ne.symm hnewx) _ _)
        have hB472 := Blk.at' hw469 (hB456.updNe (Ne.symm hnesx) _ _)
        have hB473 := Blk.at' hw469 (hB457.updNe (Ne.symm hnerx) _ _)
        have hB474 := Blk.at' hw469 (hB458.updNe (Ne.symm hneqx) _ _)
        have hB475 := Blk.at' hw469 (hB459.updNe (Ne.symm hnebx) _ _)
        have hB476 := Blk.at' hw469 (hB460.updNe (Ne.symm hnenb) _ _)
        have hB477 : Blk w468 kb 3 (#[.int .i64 (↑pre.length + 1)]) := by rw [hw469]; exact hB461.upd _ _
        have hB478 := Blk.at' hw469 (hB462.updNe (Blk.ne_type hB461 hB462 (by decide)) _ _)
        have hB479 := OwnV.at' hw469 (hB463.updNe hgpW _ _)
        have hB480 := Blk.at' hw469 (hB464.updNe (Blk.ne_type hB461 hB464 (by decide)) _ _)
        have hB481 := Blk.at' hw469 (hB465.updNe (Blk.ne_type hB461 hB465 (by decide)) _ _)
        have hE482 : Ext [kb] W w468 := by rw [hw469]; exact hE466.updIn (.inl (by simp)) _ _
        refine seg_end ?_
        refine hK467 _ _ ?_
        refine wpIn_seq_k fun K483 hK483 => ?_
        refine region 2 (by kernel_rfl) ?_
        refine seg (wide_wide.inRound l2) [.ld (.int .i64 (↑pre.length + 1)), .p] [1, 5, 7, 9, 10, 11, 12, 13, 14, 15, 51, 82, 86] [w468.cell? ⟨kb, 0, none⟩ = some (.int .i64 (↑pre.length + 1))] [(1, .int .i64 ↑i), (5, (Pv fx)), (7, (Pv wx)), (9, (Pv sx)), (10, (Pv rx)), (11, (Pv qx)), (12, (Pv nb)), (13, (Pv kb)), (14, .int .i64 sp.at_), (15, (Pv sp.r.t.b)), (51, .bool false), (82, .bool false), (86, .bool ((↑pre.length + 1 : Int) == 2))] 2 0 hS (by kernel_rfl) (by kernel_rfl) (by kernel_rfl) (.cons (hB477.cell 0 rfl) .nil) fun a hS => ?_
        refine seg_end ?_
        refine hK483 _ _ ?_
        refine cond_b hS rfl (fun hb484 => ?_) (fun hb484 => ?_)
        · -- ((↑pre.length + 1 : Int) == 2) is true
          replace hb484 := test_eq_t hb484
          refine wpIn_seq_k fun K485 hK485 => ?_
          refine region 2 (by kernel_rfl) ?_
          refine eff_box (wide_wide.inRound l2) (r := 1) (cs := #[.int .i64 0]) (T := 3) (d := (some 16)) hS (by kernel_rfl) fun a w486 hw487 hS => ?_
          have hn488 : fx ≠ w468.heap.size := Nat.ne_of_lt hB470.lt
          have hn489 : wx ≠ w468.heap.size := Nat.ne_of_lt hB471.lt
          have hn490 : sx ≠ w468.heap.size := Nat.ne_of_lt hB472.lt
          have hn491 : rx ≠ w468.heap.size := Nat.ne_of_lt hB473.lt
          have hn492 : qx ≠ w468.heap.size := Nat.ne_of_lt hB474.lt
          have hn493 : bx ≠ w468.heap.size := Nat.ne_of_lt hB475.lt
          have hn494 : nb ≠ w468.heap.size := Nat.ne_of_lt hB476.lt
          have hn495 : kb ≠ w468.heap.size := Nat.ne_of_lt hB477.lt
          have hn496 : F.fb ≠ w468.heap.size := Nat.ne_of_lt hB478.lt
          have hn497 : ∀ x ∈ ob (.slice F.pb F.L.length F.pc), w468.heap.size ≠ x := fun x hx => Nat.ne_of_gt (hB479.lie x hx)
          have hn498 : sp.r.rb ≠ w468.heap.size := Nat.ne_of_lt hB480.lt
          have hn499 : sp.r.t.b ≠ w468.heap.size := Nat.ne_of_lt hB481.lt
          have hB500 := Blk.at' hw487 (hB470.alloc _)
          have hB501 := Blk.at' hw487 (hB471.alloc _)
          have hB502 := Blk.at' hw487 (hB472.alloc _)
          have hB503 := Blk.at' hw487 (hB473.alloc _)
          have hB504 := Blk.at' hw487 (hB474.alloc _)
          have hB505 := Blk.at' hw487 (hB475.alloc _)
          have hB506 := Blk.at' hw487 (hB476.alloc _)
          have hB507 := Blk.at' hw487 (hB477.alloc _)
          have hB508 := Blk.at' hw487 (hB478.alloc _)
          have hB509 := OwnV.at' hw487 (hB479.alloc _)
          have hB510 := Blk.at' hw487 (hB480.alloc _)
          have hB511 := Blk.at' hw487 (hB481.alloc _)
          have hB512 : Blk w486 (w468.heap.size) 3 #[.int .i64 0] := by rw [hw487]; exact Blk.new _ _ _
          have hs513 : W.heap.size ≤ w468.heap.size := hE482.size
          have hE514 : Ext [kb] W w486 := by rw [hw487]; exact hE482.alloc _
          refine eff_store (wide_wide.inRound l2) (r := 0) (b := w468.heap.size) (off := 0) (vs := [.int .i64 0]) hS (by kernel_rfl) hB512 (by simp) fun a w515 hw516 hS => ?_
          have hB517 := Blk.at' hw516 (hB500.updNe (Ne.symm hn488) _ _)
          have hB518 := Blk.at' hw516 (hB501.updNe (Ne.symm hn489) _ _)
          have hB519 := Blk.at' hw516 (hB502.updNe (Ne.symm hn490) _ _)
          have hB520 := Blk.at' hw516 (hB503.updNe (Ne.symm hn491) _ _)
          have hB521 := Blk.at' hw516 (hB504.updNe (Ne.symm hn492) _ _)
          have hB522 := Blk.at' hw516 (hB505.updNe (Ne.symm hn493) _ _)
          have hB523 := Blk.at' hw516 (hB506.updNe (Ne.symm hn494) _ _)
          have hB524 := Blk.at' hw516 (hB507.updNe (Ne.symm hn495) _ _)
          have hB525 := Blk.at' hw516 (hB508.updNe (Ne.symm hn496) _ _)
          have hB526 := OwnV.at' hw516 (hB509.updNe hn497 _ _)
          have hB527 := Blk.at' hw516 (hB510.updNe (Ne.symm hn498) _ _)
          have hB528 := Blk.at' hw516 (hB511.updNe (Ne.symm hn499) _ _)
          have hB529 : Blk w515 w468.heap.size 3 (#[.int .i64 0]) := by rw [hw516]; exact hB512.upd _ _
          have hE530 : Ext [kb] W w515 := by rw [hw516]; exact hE514.updIn (.inr hs513) _ _
          refine seg_end ?_
          refine hK485 _ _ ?_
          refine wpIn_seq_k fun K531 hK531 => ?_
          refine wpIn_seq_k fun K532 hK532 => ?_
          refine region 1 (by kernel_rfl) ?_
          refine seg (wide_wide.inRound l2) [.ld (.func (.func 55) #[] #[(Pv bx)])] [1, 5, 7, 9, 10, 11, 12, 13, 14, 15, 51, 82, 16, 87] [w515.cell? ⟨qx, 0, none⟩ = some (.func (.func 55) #[] #[(Pv bx)])] [(1, .int .i64 ↑i), (5, (Pv fx)), (7, (Pv wx)), (9, (Pv sx)), (10, (Pv rx)), (11, (Pv qx)), (12, (Pv nb)), (13, (Pv kb)), (14, .int .i64 sp.at_), (15, (Pv sp.r.t.b)), (51, .bool false), (82, .bool false), (16, (Pv w468.heap.size)), (87, .func (.func 55) #[] #[(Pv bx)])] 1 0 hS (by kernel_rfl) (by kernel_rfl) (by kernel_rfl) (.cons (hB521.cell 0 rfl) .nil) fun a hS => ?_
          refine seg_end ?_
          refine hK532 _ _ ?_
          refine wpIn_block ?_
          replace hS := hS.keepTo [1, 5, 7, 9, 10, 11, 12, 13, 16, 87] (m' := [(1, .int .i64 ↑i), (5, (Pv fx)), (7, (Pv wx)), (9, (Pv sx)), (10, (Pv rx)), (11, (Pv qx)), (12, (Pv nb)), (13, (Pv kb)), (16, (Pv w468.heap.size)), (87, .func (.func 55) #[] #[(Pv bx)])]) (by kernel_rfl)
          have hib0 := hB529
          have hibn := hs513
          have hCfx9 := hB517
          have hmifx : fx ≠ w468.heap.size := hn488
          have hCwx9 := hB518
          have hmiwx : wx ≠ w468.heap.size := hn489
          have hCsx9 := hB519
          have hmisx : sx ≠ w468.heap.size := hn490
          have hCrx9 := hB520
          have hmirx : rx ≠ w468.heap.size := hn491
          have hCqx9 := hB521
          have hmiqx : qx ≠ w468.heap.size := hn492
          have hCbx9 := hB522
          have hmibx : bx ≠ w468.heap.size := hn493
          have hCnb9 := hB523
          have hminb : nb ≠ w468.heap.size := hn494
          have hCkb9 := hB524
          have hmikb : kb ≠ w468.heap.size := hn495
          obtain ⟨ib, hibe⟩ : ∃ x, x = w468.heap.size := ⟨_, rfl⟩
          rw [← hibe] at hS hib0 hibn hmifx hmiwx hmisx hmirx hmiqx hmibx hminb hmikb
          have hEi9 := hE530
          have hE09 : Ext [] w w515 := hEW0.trans hEi9 (by intro b hb; obtain rfl := (by simpa using hb : b = kb); exact .inr (Nat.le_trans hE0l.size hkbn))
          have hFi9 := hF.ext0 hE09
          have hreci := hrec.ext hEi9 (by simpa using fun h => hnl (by simp [h]))
          refine range_in (gf := 55) (lb := #[pv bx]) (enc := encW) (xs := (walk r.t 0)) (T := fun b => b = bx ∨ r.t.Foot b)
            (fun pre Cx W => Cx = [ib] ∧ Blk W ib 3 #[.int .i64 (pre.length : Int)])
            (fun _ _ _ _ => False) [ib] (fun q => [(1, .int .i64 ↑i), (5, (Pv fx)), (7, (Pv wx)), (9, (Pv sx)), (10, (Pv rx)), (11, (Pv qx)), (12, (Pv nb)), (13, (Pv kb)), (16, (Pv ib)), (17, .int .i64 q.1), (18, (Pv q.2.b))]) hS hreci rfl Try.call55 ?_ ?_ ?_ ?_ (fun _ => rfl) rfl ?_ ?_ ?_ ?_ ?_ ?_ ?_
          · intro W hEW _
            exact Walk1_any (hCbx9.ext hEW (by simp)) ((hFi9.ok.one r hrm).ok.ext hEW r.t (by simp))
          · rintro b (rfl | hb)
            · exact hCbx9.lt
            · exact (hFi9.ok.one r hrm).ok.foot_lt hb
          · intro b hb hT
            obtain rfl : b = ib := by simpa using hb
            rcases hT with hT | hT
            · exact hmibx hT.symm
            · exact (hFi9.ok.one r hrm).ok.not_foot hib0 (by decide) (by decide) hT
          · intro b hb
            obtain rfl : b = ib := by simpa using hb
            exact hib0.lt
          · rintro s Cx M W W' ⟨rfl, h1⟩ hE hM
            exact ⟨rfl, h1.ext hE (fun hm => (hM _ hm).2 (by simp))⟩
          · intro c s Cx M W W' h; exact h.elim
          · exact ⟨rfl, hib0⟩
          · intro l3 q a' W3 K hS hK
            refine wpIn_seq_k fun K533 hK533 => ?_
            refine region 1 (by kernel_rfl) ?_
            refine seg (wide_wide.inRound l3) [.p] [1, 5, 7, 9, 10, 11, 12, 13, 16, 88, 89, 17] [] [(1, .int .i64 ↑i), (5, (Pv fx)), (7, (Pv wx)), (9, (Pv sx)), (10, (Pv rx)), (11, (Pv qx)), (12, (Pv nb)), (13, (Pv kb)), (16, (Pv ib)), (88, .int .i64 q.1), (89, q.2.ptr), (17, .int .i64 q.1)] 1 0 hS (by kernel_rfl) (by kernel_rfl) (by kernel_rfl) .nil fun a hS => ?_
            refine seg_end ?_
            refine hK533 _ _ ?_
            refine region 1 (by kernel_rfl) ?_
            refine seg (wide_wide.inRound l3) [.p] [1, 5, 7, 9, 10, 11, 12, 13, 16, 88, 89, 17, 18] [] [(1, .int .i64 ↑i), (5, (Pv fx)), (7, (Pv wx)), (9, (Pv sx)), (10, (Pv rx)), (11, (Pv qx)), (12, (Pv nb)), (13, (Pv kb)), (16, (Pv ib)), (88, .int .i64 q.1), (89, q.2.ptr), (17, .int .i64 q.1), (18, q.2.ptr)] 1 0 hS (by kernel_rfl) (by kernel_rfl) (by kernel_rfl) .nil fun a hS => ?_
            refine seg_end ?_
            exact hK _ (hS.keepTo [1, 5, 7, 9, 10, 11, 12, 13, 16, 17, 18] (by kernel_rfl))
          · rintro l3 pr q post3 Cx V a hxs3 ⟨rfl, hibV⟩ hlieV hfrV hnl3 hrec3 hEV hS
            have hjl : pr.length < lw.length := by
              have := congrArg List.length hxs3
              rw [hxl] at this
              simp at this
              omega
            obtain ⟨⟨so, po_⟩, hso⟩ : ∃ q, lw[pr.length]? = some q := ⟨_, List.getElem?_eq_getElem hjl⟩
            obtain rfl : q = (so.at_, so.r.t) := by
              have h1 : (walk r.t 0)[pr.length]? = some q := by rw [hxs3]; simp
              rw [← hxs] at h1
              simp [hso] at h1
              exact h1.symm
            have hom := hin _ (List.mem_of_getElem? hso)
            have hEV0 : Ext [] w V := hE09.trans hEV (by intro b hb; obtain rfl := (by simpa using hb : b = ib); exact .inr (Nat.le_trans hEW0.size hibn))
            have hFV := hF.ext0 hEV0
            have hoi := (hFV.ok.one _ hom).ki
            have hoL := hFV.ok.at hom
            have hOV := hO.ext0' hEV0
            have hVV : Ext [ib] V V := Ext.refl _ _
            replace hS : St 141 [] [(1, .int .i64 ↑i), (5, (Pv fx)), (7, (Pv wx)), (9, (Pv sx)), (10, (Pv rx)), (11, (Pv qx)), (12, (Pv nb)), (13, (Pv kb)), (16, (Pv ib)), (17, .int .i64 so.at_), (18, (Pv so.r.t.b))] a := hS
            have hCfxV := hCfx9.ext hEV (by simpa using hmifx)
            have hCwxV := hCwx9.ext hEV (by simpa using hmiwx)
            have hgpV : ∀ x ∈ ob (.slice F.pb F.L.length F.pc), ib ≠ x := hFV.P.ne hibV (by decide)
            have hrowo := (hFV.ok.one so.r hom).row
            have hBo : Blk V so.r.rb 40 #[.int .i64 so.r.k, .int .i64 ↑so.r.i, .int .i64 so.r.t.kd, .int .i64 so.r.t.nn, .int .i64 so.r.t.lk, .int .i64 so.r.t.ls, .int .i64 so.r.t.ll, .int .i64 so.r.t.lr, so.r.kv, .int .i64 so.r.t.tt] := (hFV.ok.one so.r hom).blk
            have hTo : Blk V so.r.t.b 106 #[.pointer (some ⟨(sOf F.s0 F.s1 so.r.k), 0, none⟩), .int .i64 so.r.t.num, .int .i64 so.r.t.kd, .int .i64 so.r.t.nn, .int .i64 so.r.t.lk, .int .i64 so.r.t.ls, .int .i64 so.r.t.ll, .int .i64 so.r.t.lr, so.r.t.ks, .int .i64 so.r.t.wd, .int .i64 so.r.t.lf, .int .i64 so.r.t.tt, .bool so.r.t.fl] := (hFV.ok.one so.r hom).ok.blk
            refine wpIn_block ?_
            refine wpIn_seq_k fun K534 hK534 => ?_
            refine wpIn_seq_k fun K535 hK535 => ?_
            refine region_fn2 (wide_wide.inRound l3) [.q (.ld (.int .i64 ↑pr.length)), .q (.ld ((.slice wb lw.length wc))), .q (.run (.int .i64 ↑lw.length)), .q (.as (.bool false)), .q .p, .q .p, .q (.ld ((.slice wb lw.length wc))), .q (.ld (.int .i64 ↑pr.length)), .q (.run (.pointer (some ⟨bof (.slice wb lw.length wc), 0 + pr.length * 3, none⟩))), .q .p, .q (.ld (.int .i64 so.at_)), .q (.as (.bool false)), .q .p, .q .p, .q .p, .q (.ld ((Pv F.fb))), .q .p, .q .p, .q (.ld (.slice F.pb F.L.length F.pc)), .q (.ld ((.slice wb lw.length wc))), .q (.ld (.int .i64 ↑pr.length)), .q (.run (.pointer (some ⟨bof (.slice wb lw.length wc), 0 + pr.length * 3, none⟩))), .q .p, .q (.ld ((Pv so.r.rb))), .q .p, .q .p, .q (.ld (.int .i64 ↑so.r.i)), .q (.run (.pointer (some ⟨bof (.slice F.pb F.L.length F.pc), 0 + so.r.i * 1, none⟩))), .q (.ld ((Pv so.r.t.b))), .q (.run (.bool false)), .q .p] [0, 0, 0, 0, 0, 0, 0, 0, 0, 0, 0, 0, 0, 0, 0, 0, 0, 0, 0, 0, 0, 0, 0, 0, 0, 0, 0, 0, 0, 0, 0] [0, 0, 0, 0, 0, 0, 0, 0, 0, 0, 0, 0, 0, 0, 0, 0, 0, 0, 0, 0, 0, 0, 0, 0, 0, 0, 0, 0, 0, 0, 0] [0, 0, 2, 7, 15, 31, 31, 31, 223, 479, 991, 2047, 4095, 8191, 16383, 16383, 49151, 114687, 245759, 16383, 16383, 1589247, 3686399, 7880703, 16269311, 33046527, 66600959, 134201343, 268419071, 536870911, 1073741823] [] 0 ([(1, .int .i64 ↑i), (5, (Pv fx)), (7, (Pv wx)), (9, (Pv sx)), (10, (Pv rx)), (11, (Pv qx)), (12, (Pv nb)), (13, (Pv kb)), (16, (Pv ib)), (17, .int .i64 so.at_), (18, (Pv so.r.t.b)), (90, .int .i64 ↑pr.length), (91, (.slice wb lw.length wc)), (92, .int .i64 ↑lw.length), (93, .bool false), (94, .bool false), (95, .int .i64 so.at_), (96, (.slice wb lw.length wc)), (97, .int .i64 ↑pr.length), (98, .pointer (some ⟨bof (.slice wb lw.length wc), 0 + pr.length * 3, none⟩)), (99, .pointer (some ⟨bof (.slice wb lw.length wc), 0 + pr.length * 3 + 1, none⟩)), (100, .int .i64 so.at_), (101, .bool false), (102, .bool false), (103, .bool false), (104, (Pv so.r.t.b)), (105, (Pv F.fb)), (106, (Pv F.fb)), (107, .pointer (some ⟨F.fb, 2, none⟩)), (108, .slice F.pb F.L.length F.pc), (109, (.slice wb lw.length wc)), (110, .int .i64 ↑pr.length), (111, .pointer (some ⟨bof (.slice wb lw.length wc), 0 + pr.length * 3, none⟩)), (112, .pointer (some ⟨bof (.slice wb lw.length wc), 0 + pr.length * 3, none⟩)), (113, (Pv so.r.rb)), (114, (Pv so.r.rb)), (115, .pointer (some ⟨so.r.rb, 1, none⟩)), (116, .int .i64 ↑so.r.i), (117, .pointer (some ⟨bof (.slice F.pb F.L.length F.pc), 0 + so.r.i * 1, none⟩)), (118, (Pv so.r.t.b)), (119, .bool false), (120, .bool false)]) [V.drew] V.drew (fun w' => [(0, [w'.cell? ⟨ib, 0, none⟩ = some (.int .i64 ↑pr.length)]), (1, [w'.cell? ⟨wx, 0, none⟩ = some ((.slice wb lw.length wc))]), (2, [Sem.run Try.prog (vS (Builtin.len_ #[28] 3 #[(.slice wb lw.length wc)])) w' = .ok (.value (.int .i64 ↑lw.length)) w']), (3, [Value.bool (decide ((↑pr.length : Int) ≥ ↑lw.length)) = .bool false]), (6, [w'.cell? ⟨wx, 0, none⟩ = some ((.slice wb lw.length wc))]), (7, [w'.cell? ⟨ib, 0, none⟩ = some (.int .i64 ↑pr.length)]), (8, [Sem.run Try.prog (vS (Instr.indexAt 28 ((.slice wb lw.length wc)) (.int .i64 ↑pr.length))) w' = .ok (.value (.pointer (some ⟨bof (.slice wb lw.length wc), 0 + pr.length * 3, none⟩))) w']), (10, [w'.cell? ⟨bof (.slice wb lw.length wc), 0 + pr.length * 3 + 1, none⟩ = some (.int .i64 so.at_)]), (11, [Value.bool (((so.at_ : Int) != so.at_)) = .bool false]), (15, [w'.cell? ⟨fx, 0, none⟩ = some ((Pv F.fb))]), (18, [w'.cell? ⟨F.fb, 2, none⟩ = some (.slice F.pb F.L.length F.pc)]), (19, [w'.cell? ⟨wx, 0, none⟩ = some ((.slice wb lw.length wc))]), (20, [w'.cell? ⟨ib, 0, none⟩ = some (.int .i64 ↑pr.length)]), (21, [Sem.run Try.prog (vS (Instr.indexAt 28 ((.slice wb lw.length wc)) (.int .i64 ↑pr.length))) w' = .ok (.value (.pointer (some ⟨bof (.slice wb lw.length wc), 0 + pr.length * 3, none⟩))) w']), (23, [w'.cell? ⟨bof (.slice wb lw.length wc), 0 + pr.length * 3, none⟩ = some ((Pv so.r.rb))]), (26, [w'.cell? ⟨so.r.rb, 1, none⟩ = some (.int .i64 ↑so.r.i)]), (27, [Sem.run Try.prog (vS (Instr.indexAt 32 (.slice F.pb F.L.length F.pc) (.int .i64 ↑so.r.i))) w' = .ok (.value (.pointer (some ⟨bof (.slice F.pb F.L.length F.pc), 0 + so.r.i * 1, none⟩))) w']), (28, [w'.cell? ⟨bof (.slice F.pb F.L.length F.pc), 0 + so.r.i * 1, none⟩ = some ((Pv so.r.t.b))]), (29, [Sem.run Try.prog (vS (do eqGuard .neq 47 (.tmp 104) (.tmp 118) ((Pv so.r.t.b)) ((Pv so.r.t.b)); binOp .neq 47 ((Pv so.r.t.b)) ((Pv so.r.t.b)))) w' = .ok (.value (.bool false)) w'])]) [1, 5, 7, 9, 10, 11, 12, 13, 16, 17, 18] [] hS (by kernel_rfl) (by kernel_rfl) (by kernel_rfl) (by kernel_rfl) (fun _ => by kernel_rfl) (by kernel_rfl) (by kernel_rfl) (by kernel_rfl) ?_ ?_ ?_
            · intro e w' hw
              refine (.cons ?_ (.cons ?_ (.cons ?_ (.cons ?_ (.cons ?_ (.cons ?_ (.cons ?_ (.cons ?_ (.cons ?_ (.cons ?_ (.cons ?_ (.cons ?_ (.cons ?_ (.cons ?_ (.cons ?_ (.cons ?_ (.cons ?_ (.cons ?_ (.cons ?_ .nil)))))))))))))))))))
              · intro h1 h2
                obtain rfl : e = 0 := Nat.le_antisymm h2 h1
                obtain rfl : w' = V.drew := hw.trans (by kernel_rfl)
                exact (.cons ((hibV.drew : Blk V.drew ib 3 (#[.int .i64 ↑pr.length])).cell 0 rfl) .nil)
              · intro h1 h2
                obtain rfl : e = 0 := Nat.le_antisymm h2 h1
                obtain rfl : w' = V.drew := hw.trans (by kernel_rfl)
                exact (.cons ((hCwxV.drew : Blk V.drew wx 28 (#[(.slice wb lw.length wc)])).cell 0 rfl) .nil)
              · exact fun _ _ => (.cons (run_len_own hO (by kernel_rfl)) .nil)
              · exact fun _ _ => (.cons (as_f (by omega)) .nil)
              · intro h1 h2
                obtain rfl : e = 0 := Nat.le_antisymm h2 h1
                obtain rfl : w' = V.drew := hw.trans (by kernel_rfl)
                exact (.cons ((hCwxV.drew : Blk V.drew wx 28 (#[(.slice wb lw.length wc)])).cell 0 rfl) .nil)
              · intro h1 h2
                obtain rfl : e = 0 := Nat.le_antisymm h2 h1
                obtain rfl : w' = V.drew := hw.trans (by kernel_rfl)
                exact (.cons ((hibV.drew : Blk V.drew ib 3 (#[.int .i64 ↑pr.length])).cell 0 rfl) .nil)
              · exact fun _ _ => (.cons (ix_own (j := pr.length) hO (by kernel_rfl) (by kernel_rfl) rfl hjl) .nil)
              · intro h1 h2
                obtain rfl : e = 0 := Nat.le_antisymm h2 h1
                obtain rfl : w' = V.drew := hw.trans (by kernel_rfl)
                exact (.cons (hOV.cellAt _ (by have h := spc_at lw pr.length 1 _ hso (by omega); simpa [Rf.ptr] using h)) .nil)
              · exact fun _ _ => (.cons (as_ne_f (rfl)) .nil)
              · intro h1 h2
                obtain rfl : e = 0 := Nat.le_antisymm h2 h1
                obtain rfl : w' = V.drew := hw.trans (by kernel_rfl)
                exact (.cons ((hCfxV.drew : Blk V.drew fx 24 (#[(Pv F.fb)])).cell 0 rfl) .nil)
              · intro h1 h2
                obtain rfl : e = 0 := Nat.le_antisymm h2 h1
                obtain rfl : w' = V.drew := hw.trans (by kernel_rfl)
                exact (.cons ((hFV.f.drew : Blk V.drew F.fb 35 (#[(Pv F.s0), (Pv F.s1), .slice F.pb F.L.length F.pc, .slice F.qb F.L.length F.qc, .slice F.bb F.bn F.bc])).cell 2 rfl) .nil)
              · intro h1 h2
                obtain rfl : e = 0 := Nat.le_antisymm h2 h1
                obtain rfl : w' = V.drew := hw.trans (by kernel_rfl)
                exact (.cons ((hCwxV.drew : Blk V.drew wx 28 (#[(.slice wb lw.length wc)])).cell 0 rfl) .nil)
              · intro h1 h2
                obtain rfl : e = 0 := Nat.le_antisymm h2 h1
                obtain rfl : w' = V.drew := hw.trans (by kernel_rfl)
                exact (.cons ((hibV.drew : Blk V.drew ib 3 (#[.int .i64 ↑pr.length])).cell 0 rfl) .nil)
              · exact fun _ _ => (.cons (ix_own (j := pr.length) hO (by kernel_rfl) (by kernel_rfl) rfl hjl) .nil)
              · intro h1 h2
                obtain rfl : e = 0 := Nat.le_antisymm h2 h1
                obtain rfl : w' = V.drew := hw.trans (by kernel_rfl)
                exact (.cons (hOV.cellAt _ (by have h := spc_at lw pr.length 0 _ hso (by omega); simpa [Rf.ptr] using h)) .nil)
              · intro h1 h2
                obtain rfl : e = 0 := Nat.le_antisymm h2 h1
                obtain rfl : w' = V.drew := hw.trans (by kernel_rfl)
                exact (.cons ((hBo.drew : Blk V.drew so.r.rb 40 (#[.int .i64 so.r.k, .int .i64 ↑so.r.i, .int .i64 so.r.t.kd, .int .i64 so.r.t.nn, .int .i64 so.r.t.lk, .int .i64 so.r.t.ls, .int .i64 so.r.t.ll, .int .i64 so.r.t.lr, so.r.kv, .int .i64 so.r.t.tt])).cell 1 rfl) .nil)
              · exact fun _ _ => (.cons (ix_own (j := so.r.i) (hFV.P) (by kernel_rfl) (by kernel_rfl) rfl hoi) .nil)
              · intro h1 h2
                obtain rfl : e = 0 := Nat.le_antisymm h2 h1
                obtain rfl : w' = V.drew := hw.trans (by kernel_rfl)
                exact (.cons ((hFV.P.drew : OwnV V.drew 47 1 (.slice F.pb F.L.length F.pc) F.L.length (F.L.map fun r => r.t.ptr)).cellAt _ (by simp [hoL, Tr.ptr])) .nil)
              · intro h1 h2
                obtain rfl : e = 0 := Nat.le_antisymm h2 h1
                obtain rfl : w' = V.drew := hw.trans (by kernel_rfl)
                exact (.cons (bin_ptr_neq (E := 106) (by kernel_rfl) ⟨12, by kernel_rfl⟩ (hTo.drew) (hTo.drew) (by simp)) .nil)
            · refine .nil
            rintro a w537 hS hw538
            replace hw538 : w537 = V.drew := hw538.trans (by kernel_rfl)
            have hB539 := Blk.at' hw538 (hCfxV.drew)
            have hB540 := Blk.at' hw538 (hCwxV.drew)
            have hB541 := Blk.at' hw538 (hibV.drew)
            have hB542 := Blk.at' hw538 (hFV.f.drew)
            have hB543 := OwnV.at' hw538 (hFV.P.drew)
            have hB544 := Blk.at' hw538 (hBo.drew)
            have hB545 := Blk.at' hw538 (hTo.drew)
            have hE546 : Ext [ib] V w537 := by rw [hw538]; exact hVV.drew
            replace hS := hS.keepTo [1, 5, 7, 9, 10, 11, 12, 13, 16, 17, 18, 120] (m' := [(1, .int .i64 ↑i), (5, (Pv fx)), (7, (Pv wx)), (9, (Pv sx)), (10, (Pv rx)), (11, (Pv qx)), (12, (Pv nb)), (13, (Pv kb)), (16, (Pv ib)), (17, .int .i64 so.at_), (18, (Pv so.r.t.b)), (120, .bool false)]) (by kernel_rfl)
            refine hK535 _ _ ?_
            refine cond_f hS rfl ?_
            refine wpIn_skip ?_
            refine hK534 _ _ ?_
            refine region 3 (by kernel_rfl) ?_
            refine seg (wide_wide.inRound l3) [.ld (.int .i64 ↑pr.length), .as (.int .i64 (↑pr.length + 1))] [1, 5, 7, 9, 10, 11, 12, 13, 16, 17, 18, 120, 122] [w537.cell? ⟨ib, 0, none⟩ = some (.int .i64 ↑pr.length), Value.int .i64 (IntKind.i64.wrap (↑pr.length + 1)) = .int .i64 (↑pr.length + 1)] [(1, .int .i64 ↑i), (5, (Pv fx)), (7, (Pv wx)), (9, (Pv sx)), (10, (Pv rx)), (11, (Pv qx)), (12, (Pv nb)), (13, (Pv kb)), (16, (Pv ib)), (17, .int .i64 so.at_), (18, (Pv so.r.t.b)), (120, .bool false), (122, .int .i64 (↑pr.length + 1))] 2 1 hS (by kernel_rfl) (by kernel_rfl) (by kernel_rfl) (.cons (hB541.cell 0 rfl) (.cons (as_i64 (by omega)) .nil)) fun a hS => ?_
            refine eff_store (wide_wide.inRound l3) (r := 0) (b := ib) (off := 0) (vs := [.int .i64 (↑pr.length + 1)]) hS (by kernel_rfl) hB541 (by simp) fun a w547 hw548 hS => ?_
            have hB549 := Blk.at' hw548 (hB539.updNe (Ne.symm hmifx) _ _)
            have hB550 := Blk.at' hw548 (hB540.updNe (Ne.symm hmiwx) _ _)
            have hB551 : Blk w547 ib 3 (#[.int .i64 (↑pr.length + 1)]) := by rw [hw548]; exact hB541.upd _ _
            have hB552 := Blk.at' hw548 (hB542.updNe (Blk.ne_type hB541 hB542 (by decide)) _ _)
            have hB553 := OwnV.at' hw548 (hB543.updNe hgpV _ _)
            have hB554 := Blk.at' hw548 (hB544.updNe (Blk.ne_type hB541 hB544 (by decide)) _ _)
            have hB555 := Blk.at' hw548 (hB545.updNe (Blk.ne_type hB541 hB545 (by decide)) _ _)
            have hE556 : Ext [ib] V w547 := by rw [hw548]; exact hE546.updIn (.inl (by simp)) _ _
            refine seg_end ?_
            refine inBlock_normal ?_
            exact left_normal (C' := [ib]) hE556 (Fresh.refl _ _) (hlieV.ext hE556) ⟨rfl, by simpa using hB551⟩
          · rintro Cx V2 a hEV2 hfr2 hlie2 ⟨rfl, hib2⟩ hS
            rw [hxl] at hib2
            have hEi2 : Ext [kb] W V2 := hEi9.trans hEV2 (by intro b hb; obtain rfl := (by simpa using hb : b = ib); exact .inr hibn)
            replace hS : St 141 [] [(1, .int .i64 ↑i), (5, (Pv fx)), (7, (Pv wx)), (9, (Pv sx)), (10, (Pv rx)), (11, (Pv qx)), (12, (Pv nb)), (13, (Pv kb)), (16, (Pv ib))] a := hS.keepTo [1, 5, 7, 9, 10, 11, 12, 13, 16] (by kernel_rfl)
            have hCfx2 := hCfx9.ext hEV2 (by simpa using hmifx)
            have hCwx2 := hCwx9.ext hEV2 (by simpa using hmiwx)
            have hCsx2 := hCsx9.ext hEV2 (by simpa using hmisx)
            have hCrx2 := hCrx9.ext hEV2 (by simpa using hmirx)
            have hCqx2 := hCqx9.ext hEV2 (by simpa using hmiqx)
            have hCbx2 := hCbx9.ext hEV2 (by simpa using hmibx)
            have hCnb2 := hCnb9.ext hEV2 (by simpa using hminb)
            have hCkb2 := hCkb9.ext hEV2 (by simpa using hmikb)
            refine inBlock_normal ?_
            refine hK531 _ _ ?_
            refine wpIn_seq_k fun K557 hK557 => ?_
            refine region 4 (by kernel_rfl) ?_
            refine seg (wide_wide.inRound l2) [.ld (.int .i64 ↑lw.length), .ld ((.slice wb lw.length wc)), .run (.int .i64 ↑lw.length), .as (.bool false)] [1, 5, 7, 9, 10, 11, 12, 13, 16, 126] [V2.cell? ⟨ib, 0, none⟩ = some (.int .i64 ↑lw.length), V2.cell? ⟨wx, 0, none⟩ = some ((.slice wb lw.length wc)), Sem.run Try.prog (vS (Builtin.len_ #[28] 3 #[(.slice wb lw.length wc)])) V2 = .ok (.value (.int .i64 ↑lw.length)) V2, Value.bool (((↑lw.length : Int) != ↑lw.length)) = .bool false] [(1, .int .i64 ↑i), (5, (Pv fx)), (7, (Pv wx)), (9, (Pv sx)), (10, (Pv rx)), (11, (Pv qx)), (12, (Pv nb)), (13, (Pv kb)), (16, (Pv ib)), (126, .bool false)] 4 0 hS (by kernel_rfl) (by kernel_rfl) (by kernel_rfl) (.cons (hib2.cell 0 rfl) (.cons (hCwx2.cell 0 rfl) (.cons (run_len_own hO (by kernel_rfl)) (.cons (as_ne_f (rfl)) .nil)))) fun a hS => ?_
            refine seg_end ?_
            refine hK557 _ _ ?_
            refine cond_f hS rfl ?_
            refine wpIn_skip ?_
            refine inBlock_normal ?_
            exact left_normal (C' := [kb]) hEi2 (Fresh.refl _ _) (hlieW.ext hEi2) ⟨rfl, by simpa using hCkb2⟩
          · intro c pre Cx W a _ _ _ _ h; exact h.elim
        · -- ((↑pre.length + 1 : Int) == 2) is false
          replace hb484 := test_eq_f hb484
          refine wpIn_skip ?_
          refine inBlock_normal ?_
          exact left_normal (C' := [kb]) hE482 (Fresh.refl _ _) (hlieW.ext hE482) ⟨rfl, by simpa using hB477⟩
      · rintro Cx w10 a hE910 hfr10 hlie10 hD10 ⟨rfl, hkb10⟩ hS
        rw [hxl] at hkb10
        have hnk : ∀ {T : TypeId} {cs : Array Value} {b : Nat}, Blk w430 b T cs → b ≠ kb → b ∉ [kb] := fun _ h2 hm => h2 (by simpa using hm)
        have hEl10 : Ext [] w129 w10 := hE9.trans hE910 (by intro b hb; obtain rfl := (by simpa using hb : b = kb); exact .inr hkbn)
        obtain ⟨D0, hD0e⟩ : ∃ D, D = w430.heap.size := ⟨_, rfl⟩
        rw [← hD0e] at hD10 hS
        have hD0n : w129.heap.size ≤ D0 := by rw [hD0e]; exact hl9
        have hDs10 : ∀ D ∈ D0 :: Ds, Dfr w10 D := fun D hD => by
          rcases List.mem_cons.1 hD with rfl | hD
          · exact hD10
          · exact (hD9 D hD).ext hE910 (by simpa using (hD9 D hD).ne_blk hkb0)
        have hnd2 : (D0 :: Ds).Nodup := List.nodup_cons.2 ⟨fun h => by have := (hD9 D0 h).lt; omega, hnd⟩
        have hDn2 : ∀ D ∈ D0 :: Ds, w129.heap.size ≤ D := fun D hD => by
          rcases List.mem_cons.1 hD with rfl | hD
          · exact hD0n
          · exact hDn D hD
        replace hS : St 141 ((D0 :: Ds).map dmark) [(1, .int .i64 ↑i), (5, (Pv fx)), (7, (Pv wx)), (9, (Pv sx)), (10, (Pv rx)), (11, (Pv qx)), (12, (Pv nb)), (13, (Pv kb))] a := hS.keepTo [1, 5, 7, 9, 10, 11, 12, 13] (by kernel_rfl)
        have hBfx10 := hBfx9.ext hE910 (by simpa using hnefx)
        have hBwx10 := hBwx9.ext hE910 (by simpa using hnewx)
        have hBsx10 := hBsx9.ext hE910 (by simpa using hnesx)
        have hBrx10 := hBrx9.ext hE910 (by simpa using hnerx)
        have hBqx10 := hBqx9.ext hE910 (by simpa using hneqx)
        have hBbx10 := hBbx9.ext hE910 (by simpa using hnebx)
        have hBnb10 := hBnb9.ext hE910 (by simpa using hnenb)
        refine inBlock_normal ?_
        refine hK444 _ _ ?_
        refine wpIn_seq_k fun K558 hK558 => ?_
        refine region 13 (by kernel_rfl) ?_
        refine seg wide_wide [.ld (.int .i64 ↑lw.length), .ld ((.slice wb lw.length wc)), .run (.int .i64 ↑lw.length), .as (.bool false), .p, .no, .no, .no, .no, .no, .no, .no, .p] [1, 5, 7, 9, 10, 11, 12, 13, 139] [w10.cell? ⟨kb, 0, none⟩ = some (.int .i64 ↑lw.length), w10.cell? ⟨wx, 0, none⟩ = some ((.slice wb lw.length wc)), Sem.run Try.prog (vS (Builtin.len_ #[28] 3 #[(.slice wb lw.length wc)])) w10 = .ok (.value (.int .i64 ↑lw.length)) w10, Value.bool (((↑lw.length : Int) != ↑lw.length)) = .bool false] [(1, .int .i64 ↑i), (5, (Pv fx)), (7, (Pv wx)), (9, (Pv sx)), (10, (Pv rx)), (11, (Pv qx)), (12, (Pv nb)), (13, (Pv kb)), (139, .bool false)] 13 0 hS (by kernel_rfl) (by kernel_rfl) (by kernel_rfl) (.cons (hkb10.cell 0 rfl) (.cons (hBwx10.cell 0 rfl) (.cons (run_len_own hO (by kernel_rfl)) (.cons (as_ne_f (rfl)) .nil)))) fun a hS => ?_
        refine seg_end ?_
        refine hK558 _ _ ?_
        refine cond_f hS rfl ?_
        refine wpIn_skip ?_
        refine inBlock_normal ?_
        refine hK145 _ _ ?_
        refine wpIn_seq_k fun K559 hK559 => ?_
        refine wpIn_seq_k fun K560 hK560 => ?_
        refine region 1 (by kernel_rfl) ?_
        refine seg wide_wide [.ld (.int .i64 1)] [1, 5, 7, 9, 10, 11, 12, 13, 139, 140] [w10.cell? ⟨nb, 0, none⟩ = some (.int .i64 1)] [(1, .int .i64 ↑i), (5, (Pv fx)), (7, (Pv wx)), (9, (Pv sx)), (10, (Pv rx)), (11, (Pv qx)), (12, (Pv nb)), (13, (Pv kb)), (139, .bool false), (140, .int .i64 1)] 1 0 hS (by kernel_rfl) (by kernel_rfl) (by kernel_rfl) (.cons (hBnb10.cell 0 rfl) .nil) fun a hS => ?_
        refine seg_end ?_
        refine hK560 _ _ ?_
        refine region 2 (by kernel_rfl) ?_
        refine eff_box wide_wide (r := 1) (cs := #[.int .i64 0]) (T := 3) (d := (some 12)) hS (by kernel_rfl) fun a w561 hw562 hS => ?_
        have hn563 : fx ≠ w10.heap.size := Nat.ne_of_lt hBfx10.lt
        have hn564 : wx ≠ w10.heap.size := Nat.ne_of_lt hBwx10.lt
        have hn565 : sx ≠ w10.heap.size := Nat.ne_of_lt hBsx10.lt
        have hn566 : rx ≠ w10.heap.size := Nat.ne_of_lt hBrx10.lt
        have hn567 : qx ≠ w10.heap.size := Nat.ne_of_lt hBqx10.lt
        have hn568 : bx ≠ w10.heap.size := Nat.ne_of_lt hBbx10.lt
        have hn569 : nb ≠ w10.heap.size := Nat.ne_of_lt hBnb10.lt
        have hn570 : kb ≠ w10.heap.size := Nat.ne_of_lt hkb10.lt
        have hB571 := Blk.at' hw562 (hBfx10.alloc _)
        have hB572 := Blk.at' hw562 (hBwx10.alloc _)
        have hB573 := Blk.at' hw562 (hBsx10.alloc _)
        have hB574 := Blk.at' hw562 (hBrx10.alloc _)
        have hB575 := Blk.at' hw562 (hBqx10.alloc _)
        have hB576 := Blk.at' hw562 (hBbx10.alloc _)
        have hB577 := Blk.at' hw562 (hBnb10.alloc _)
        have hB578 := Blk.at' hw562 (hkb10.alloc _)
        have hX579 : Ext [] w10 w561 := by rw [hw562]; exact (Ext.refl _ _).alloc _
        have hG580 : ∀ D ∈ D0 :: Ds, Dfr w561 D := fun D hD => (hDs10 D hD).ext hX579 (by simp)
        have hB581 : Blk w561 (w10.heap.size) 3 #[.int .i64 0] := by rw [hw562]; exact Blk.new _ _ _
        have hs582 : w129.heap.size ≤ w10.heap.size := hEl10.size
        have hE583 : Ext [] w129 w561 := by rw [hw562]; exact hEl10.alloc _
        refine eff_store wide_wide (r := 0) (b := w10.heap.size) (off := 0) (vs := [.int .i64 1]) hS (by kernel_rfl) hB581 (by simp) fun a w584 hw585 hS => ?_
        have hB586 := Blk.at' hw585 (hB571.updNe (Ne.symm hn563) _ _)
        have hB587 := Blk.at' hw585 (hB572.updNe (Ne.symm hn564) _ _)
        have hB588 := Blk.at' hw585 (hB573.updNe (Ne.symm hn565) _ _)
        have hB589 := Blk.at' hw585 (hB574.updNe (Ne.symm hn566) _ _)
        have hB590 := Blk.at' hw585 (hB575.updNe (Ne.symm hn567) _ _)
        have hB591 := Blk.at' hw585 (hB576.updNe (Ne.symm hn568) _ _)
        have hB592 := Blk.at' hw585 (hB577.updNe (Ne.symm hn569) _ _)
        have hB593 := Blk.at' hw585 (hB578.updNe (Ne.symm hn570) _ _)
        have hB594 : Blk w584 w10.heap.size 3 (#[.int .i64 1]) := by rw [hw585]; exact hB581.upd _ _
        have hX595 : Ext [w10.heap.size] w561 w584 := by rw [hw585]; exact (Ext.refl _ _).updIn (.inl (by simp)) _ _
        have hG596 : ∀ D ∈ D0 :: Ds, Dfr w584 D := fun D hD => (hG580 D hD).ext hX595 (by simpa using (hG580 D hD).ne_blk hB581)
        have hE597 : Ext [] w129 w584 := by rw [hw585]; exact hE583.updIn (.inr hs582) _ _
        refine seg_end ?_
        refine hK559 _ _ ?_
        refine region 3 (by kernel_rfl) ?_
        refine seg wide_wide [.ld (.int .i64 1), .p] [1, 5, 7, 9, 10, 11, 12, 13, 139, 140, 41] [w584.cell? ⟨w10.heap.size, 0, none⟩ = some (.int .i64 1)] [(1, .int .i64 ↑i), (5, (Pv fx)), (7, (Pv wx)), (9, (Pv sx)), (10, (Pv rx)), (11, (Pv qx)), (12, (Pv w10.heap.size)), (13, (Pv kb)), (139, .bool false), (140, .int .i64 1), (41, .int .i64 2)] 2 1 hS (by kernel_rfl) (by kernel_rfl) (by kernel_rfl) (.cons (hB594.cell 0 rfl) .nil) fun a hS => ?_
        refine eff_store wide_wide (r := 0) (b := w10.heap.size) (off := 0) (vs := [.int .i64 2]) hS (by kernel_rfl) hB594 (by simp) fun a w598 hw599 hS => ?_
        have hB600 := Blk.at' hw599 (hB586.updNe (Ne.symm hn563) _ _)
        have hB601 := Blk.at' hw599 (hB587.updNe (Ne.symm hn564) _ _)
        have hB602 := Blk.at' hw599 (hB588.updNe (Ne.symm hn565) _ _)
        have hB603 := Blk.at' hw599 (hB589.updNe (Ne.symm hn566) _ _)
        have hB604 := Blk.at' hw599 (hB590.updNe (Ne.symm hn567) _ _)
        have hB605 := Blk.at' hw599 (hB591.updNe (Ne.symm hn568) _ _)
        have hB606 := Blk.at' hw599 (hB592.updNe (Ne.symm hn569) _ _)
        have hB607 := Blk.at' hw599 (hB593.updNe (Ne.symm hn570) _ _)
        have hB608 : Blk w598 w10.heap.size 3 (#[.int .i64 2]) := by rw [hw599]; exact hB594.upd _ _
        have hX609 : Ext [w10.heap.size] w584 w598 := by rw [hw599]; exact (Ext.refl _ _).updIn (.inl (by simp)) _ _
        have hG610 : ∀ D ∈ D0 :: Ds, Dfr w598 D := fun D hD => (hG596 D hD).ext hX609 (by simpa using (hG596 D hD).ne_blk hB594)
        have hE611 : Ext [] w129 w598 := by rw [hw599]; exact hE597.updIn (.inr hs582) _ _
        refine seg_end ?_
        exact ⟨(2, w10.heap.size, D0 :: Ds), ⟨hS.keepTo [1, 5, 7, 9, 10, 11, 12] (by kernel_rfl), by omega, hE611, hB608, hG610, hnd2, hDn2⟩, by simp⟩
      · intro c pre Cx W a _ _ _ _ _ h; exact h.elim
  · -- decide ((↑n : Int) < 2) is false
    replace hb144 := of_decide_eq_false hb144
    have hEw1 : Ext [] w w1 := hE0l.trans0 hEl
    refine wpIn_exit ?_
    refine then_exit ?_
    refine then_exit ?_
    refine inBlock_hit ?_
    refine hK104 _ _ ?_
    refine wpIn_seq_k fun K612 hK612 => ?_
    refine region 1 (by kernel_rfl) ?_
    refine eff_store wide_wide (r := 0) (b := rx) (off := 0) (vs := [.bool true]) hS (by kernel_rfl) hBrx1 (by simp) fun a w613 hw614 hS => ?_
    have hB615 := Blk.at' hw614 (hBfx1.updNe (Blk.ne_type hBrx1 hBfx1 (by decide)) _ _)
    have hB616 := Blk.at' hw614 (hBwx1.updNe (Blk.ne_type hBrx1 hBwx1 (by decide)) _ _)
    have hB617 := Blk.at' hw614 (hBsx1.updNe (Blk.ne_type hBrx1 hBsx1 (by decide)) _ _)
    have hB618 : Blk w613 rx 4 (#[.bool true]) := by rw [hw614]; exact hBrx1.upd _ _
    have hB619 := Blk.at' hw614 (hBqx1.updNe (Blk.ne_type hBrx1 hBqx1 (by decide)) _ _)
    have hB620 := Blk.at' hw614 (hBbx1.updNe (Blk.ne_type hBrx1 hBbx1 (by decide)) _ _)
    have hB621 := Blk.at' hw614 (hnb.updNe (Blk.ne_type hBrx1 hnb (by decide)) _ _)
    have hB622 := Blk.at' hw614 (hF1.f.updNe (Blk.ne_type hBrx1 hF1.f (by decide)) _ _)
    have hX623 : Ext [rx] w1 w613 := by rw [hw614]; exact (Ext.refl _ _).updIn (.inl (by simp)) _ _
    have hG624 : ∀ D ∈ Ds, Dfr w613 D := fun D hD => (hDs D hD).ext hX623 (by simpa using (hDs D hD).ne_blk hBrx1)
    have hE625 : Ext [] w w613 := by rw [hw614]; exact hEw1.updIn (.inr hnrx) _ _
    refine seg_end ?_
    refine hK612 _ _ ?_
    refine wpIn_ret ?_
    refine retMc Ds (T' := 4) hS Try.results15 (by kernel_rfl) rfl hB618 hG624 hnd fun w99 hE99 => ?_
    exact ⟨rfl, (hE625).trans hE99 (fun D hD => .inr (Nat.le_trans hE0l.size (hDn D hD)))⟩

end Go.Proofs.Ytpglmeeledmkoaa
