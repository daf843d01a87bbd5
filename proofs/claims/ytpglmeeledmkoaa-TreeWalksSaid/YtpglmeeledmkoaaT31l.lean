import Derived.Test.YtpglmeeledmkoaaProg
import Derived.Test.YtpglmeeledmkoaaVc
import Derived.Test.YtpglmeeledmkoaaT31
import Derived.Test.YtpglmeeledmkoaaT10
namespace Go.Proofs.Ytpglmeeledmkoaa
open Go.Vc

set_option maxHeartbeats 4000000 in
theorem Walked_l {N m : Nat} {w : World} {F : Fo} (hF : FI N m w F) {i : Nat} {r : Rf} {lw : List (Sp × Value)} {wv : Value} {stop : Int} (hr : F.L[i]? = some r) (hO : OwnV w 43 3 wv lw.length (spc lw)) (hxs : lw.map (fun q => (q.1.at_, q.1.r.t)) = ((walk r.t 0).filter isLeaf)) (hin : ∀ q ∈ lw, q.1.r ∈ F.L) (hb : lw.length ≤ 1000000000) :
    Calls Try.prog 15 #[(Pv F.fb), .int .i64 ↑i, wv, .bool true, .int .i64 stop] w fun e w' => e = .returned (.bool true) ∧ Ext [] w w' := by
  have hi : i < F.L.length := (List.getElem?_eq_some_iff.1 hr).1
  have hrm := List.mem_of_getElem? hr
  have hxl : ((walk r.t 0).filter isLeaf).length = lw.length := by rw [← hxs, List.length_map]
  obtain ⟨wb, wc, rfl⟩ := hO.form
  refine calls_bodyM 141 [(0, (Pv F.fb)), (1, .int .i64 ↑i), (2, (.slice wb lw.length wc)), (3, .bool true), (4, .int .i64 stop)] Try.func15 rfl (by kernel_rfl) (by kernel_rfl) (by kernel_rfl) fun a hS => ?_
  have hE0 : Ext [] w w := Ext.refl _ _
  refine wpIn_seq_k fun K1 hK1 => ?_
  refine region 4 (by kernel_rfl) ?_
  refine eff_box wide_wide (r := 3) (cs := #[(Pv F.fb)]) (T := 24) (d := (some 5)) hS (by kernel_rfl) fun a w2 hw3 hS => ?_
  have hn4 : F.fb ≠ w.heap.size := Nat.ne_of_lt hF.f.lt
  have hn5 : ∀ x ∈ ob (.slice F.pb F.L.length F.pc), w.heap.size ≠ x := fun x hx => Nat.ne_of_gt (hF.P.lie x hx)
  have hn6 : ∀ x ∈ ob (.slice F.qb F.L.length F.qc), w.heap.size ≠ x := fun x hx => Nat.ne_of_gt (hF.R.lie x hx)
  have hB7 := Blk.at' hw3 (hF.f.alloc _)
  have hB8 := OwnV.at' hw3 (hF.P.alloc _)
  have hB9 := OwnV.at' hw3 (hF.R.alloc _)
  have hB10 : Blk w2 (w.heap.size) 24 #[(Pv F.fb)] := by rw [hw3]; exact Blk.new _ _ _
  have hs11 : w.heap.size ≤ w.heap.size := hE0.size
  have hE12 : Ext [] w w2 := by rw [hw3]; exact hE0.alloc _
  refine eff_box wide_wide (r := 2) (cs := #[(.slice wb lw.length wc)]) (T := 28) (d := (some 7)) hS (by kernel_rfl) fun a w13 hw14 hS => ?_
  have hn15 : F.fb ≠ w2.heap.size := Nat.ne_of_lt hB7.lt
  have hn16 : ∀ x ∈ ob (.slice F.pb F.L.length F.pc), w2.heap.size ≠ x := fun x hx => Nat.ne_of_gt (hB8.lie x hx)
  have hn17 : ∀ x ∈ ob (.slice F.qb F.L.length F.qc), w2.heap.size ≠ x := fun x hx => Nat.ne_of_gt (hB9.lie x hx)
  have hn18 : w.heap.size ≠ w2.heap.size := Nat.ne_of_lt hB10.lt
  have hB19 := Blk.at' hw14 (hB7.alloc _)
  have hB20 := OwnV.at' hw14 (hB8.alloc _)
  have hB21 := OwnV.at' hw14 (hB9.alloc _)
  have hB22 := Blk.at' hw14 (hB10.alloc _)
  have hB23 : Blk w13 (w2.heap.size) 28 #[(.slice wb lw.length wc)] := by rw [hw14]; exact Blk.new _ _ _
  have hs24 : w.heap.size ≤ w2.heap.size := hE12.size
  have hE25 : Ext [] w w13 := by rw [hw14]; exact hE12.alloc _
  refine eff_box wide_wide (r := 1) (cs := #[.int .i64 stop]) (T := 3) (d := (some 9)) hS (by kernel_rfl) fun a w26 hw27 hS => ?_
  have hn28 : F.fb ≠ w13.heap.size := Nat.ne_of_lt hB19.lt
  have hn29 : ∀ x ∈ ob (.slice F.pb F.L.length F.pc), w13.heap.size ≠ x := fun x hx => Nat.ne_of_gt (hB20.lie x hx)
  have hn30 : ∀ x ∈ ob (.slice F.qb F.L.length F.qc), w13.heap.size ≠ x := fun x hx => Nat.ne_of_gt (hB21.lie x hx)
  have hn31 : w.heap.size ≠ w13.heap.size := Nat.ne_of_lt hB22.lt
  have hn32 : w2.heap.size ≠ w13.heap.size := Nat.ne_of_lt hB23.lt
  have hB33 := Blk.at' hw27 (hB19.alloc _)
  have hB34 := OwnV.at' hw27 (hB20.alloc _)
  have hB35 := OwnV.at' hw27 (hB21.alloc _)
  have hB36 := Blk.at' hw27 (hB22.alloc _)
  have hB37 := Blk.at' hw27 (hB23.alloc _)
  have hB38 : Blk w26 (w13.heap.size) 3 #[.int .i64 stop] := by rw [hw27]; exact Blk.new _ _ _
  have hs39 : w.heap.size ≤ w13.heap.size := hE25.size
  have hE40 : Ext [] w w26 := by rw [hw27]; exact hE25.alloc _
  refine eff_box wide_wide (r := 0) (cs := #[.bool false]) (T := 4) (d := (some 10)) hS (by kernel_rfl) fun a w41 hw42 hS => ?_
  have hn43 : F.fb ≠ w26.heap.size := Nat.ne_of_lt hB33.lt
  have hn44 : ∀ x ∈ ob (.slice F.pb F.L.length F.pc), w26.heap.size ≠ x := fun x hx => Nat.ne_of_gt (hB34.lie x hx)
  have hn45 : ∀ x ∈ ob (.slice F.qb F.L.length F.qc), w26.heap.size ≠ x := fun x hx => Nat.ne_of_gt (hB35.lie x hx)
  have hn46 : w.heap.size ≠ w26.heap.size := Nat.ne_of_lt hB36.lt
  have hn47 : w2.heap.size ≠ w26.heap.size := Nat.ne_of_lt hB37.lt
  have hn48 : w13.heap.size ≠ w26.heap.size := Nat.ne_of_lt hB38.lt
  have hB49 := Blk.at' hw42 (hB33.alloc _)
  have hB50 := OwnV.at' hw42 (hB34.alloc _)
  have hB51 := OwnV.at' hw42 (hB35.alloc _)
  have hB52 := Blk.at' hw42 (hB36.alloc _)
  have hB53 := Blk.at' hw42 (hB37.alloc _)
  have hB54 := Blk.at' hw42 (hB38.alloc _)
  have hB55 : Blk w41 (w26.heap.size) 4 #[.bool false] := by rw [hw42]; exact Blk.new _ _ _
  have hs56 : w.heap.size ≤ w26.heap.size := hE40.size
  have hE57 : Ext [] w w41 := by rw [hw42]; exact hE40.alloc _
  refine seg_end ?_
  refine hK1 _ _ ?_
  refine wpIn_seq_k fun K58 hK58 => ?_
  refine region 10 (by kernel_rfl) ?_
  refine seg wide_wide [.ld ((Pv F.fb)), .p, .p, .ld (.slice F.pb F.L.length F.pc), .p, .run (.pointer (some ⟨bof (.slice F.pb F.L.length F.pc), 0 + i * 1, none⟩)), .ld ((Pv r.t.b))] [0, 1, 2, 3, 4, 5, 7, 9, 10, 25] [w41.cell? ⟨w.heap.size, 0, none⟩ = some ((Pv F.fb)), w41.cell? ⟨F.fb, 2, none⟩ = some (.slice F.pb F.L.length F.pc), Sem.run Try.prog (vS (Instr.indexAt 32 (.slice F.pb F.L.length F.pc) (.int .i64 ↑i))) w41 = .ok (.value (.pointer (some ⟨bof (.slice F.pb F.L.length F.pc), 0 + i * 1, none⟩))) w41, w41.cell? ⟨bof (.slice F.pb F.L.length F.pc), 0 + i * 1, none⟩ = some ((Pv r.t.b))] [(0, (Pv F.fb)), (1, .int .i64 ↑i), (2, (.slice wb lw.length wc)), (3, .bool true), (4, .int .i64 stop), (5, (Pv w.heap.size)), (7, (Pv w2.heap.size)), (9, (Pv w13.heap.size)), (10, (Pv w26.heap.size)), (25, (Pv r.t.b))] 7 3 hS (by kernel_rfl) (by kernel_rfl) (by kernel_rfl) (.cons (hB52.cell 0 rfl) (.cons (hB49.cell 2 rfl) (.cons (ix_own (j := i) (hB50) (by kernel_rfl) (by kernel_rfl) rfl hi) (.cons ((hB50).cellAt _ (by simp [hr, Tr.ptr])) .nil)))) fun a hS => ?_
  refine eff_call wide_wide (r := 2) (f := 29) (vs := [(Pv r.t.b)]) (cap := #[]) (d := (some 26)) hS (by kernel_rfl) Try.call29 #[(Pv r.t.b)] (by kernel_rfl) (Walk_any r.t.b w41) ?_
  rintro _ wq1 ⟨rfl, hw59⟩
  refine ⟨_, rfl, fun a hS => ?_⟩
  have hEwq1 : Ext [] w41 wq1 := by rw [hw59]; exact (Ext.refl _ _).alloc _
  have hbxwq1 : Blk wq1 w41.heap.size 47 #[pv r.t.b] := by rw [hw59]; exact Blk.new _ _ _
  have hFwq1 := hE57.trans0 hEwq1
  have hB60 := hB49.ext hEwq1 (by simp)
  have hB61 := hB50.ext hEwq1 (by simp)
  have hB62 := hB51.ext hEwq1 (by simp)
  have hB63 := hB52.ext hEwq1 (by simp)
  have hB64 := hB53.ext hEwq1 (by simp)
  have hB65 := hB54.ext hEwq1 (by simp)
  have hB66 := hB55.ext hEwq1 (by simp)
  refine eff_box wide_wide (r := 1) (cs := #[.nilFunc]) (T := 61) (d := (some 11)) hS (by kernel_rfl) fun a w67 hw68 hS => ?_
  have hn69 : F.fb ≠ wq1.heap.size := Nat.ne_of_lt hB60.lt
  have hn70 : ∀ x ∈ ob (.slice F.pb F.L.length F.pc), wq1.heap.size ≠ x := fun x hx => Nat.ne_of_gt (hB61.lie x hx)
  have hn71 : ∀ x ∈ ob (.slice F.qb F.L.length F.qc), wq1.heap.size ≠ x := fun x hx => Nat.ne_of_gt (hB62.lie x hx)
  have hn72 : w.heap.size ≠ wq1.heap.size := Nat.ne_of_lt hB63.lt
  have hn73 : w2.heap.size ≠ wq1.heap.size := Nat.ne_of_lt hB64.lt
  have hn74 : w13.heap.size ≠ wq1.heap.size := Nat.ne_of_lt hB65.lt
  have hn75 : w26.heap.size ≠ wq1.heap.size := Nat.ne_of_lt hB66.lt
  have hn76 : w41.heap.size ≠ wq1.heap.size := Nat.ne_of_lt hbxwq1.lt
  have hB77 := Blk.at' hw68 (hB60.alloc _)
  have hB78 := OwnV.at' hw68 (hB61.alloc _)
  have hB79 := OwnV.at' hw68 (hB62.alloc _)
  have hB80 := Blk.at' hw68 (hB63.alloc _)
  have hB81 := Blk.at' hw68 (hB64.alloc _)
  have hB82 := Blk.at' hw68 (hB65.alloc _)
  have hB83 := Blk.at' hw68 (hB66.alloc _)
  have hB84 := Blk.at' hw68 (hbxwq1.alloc _)
  have hB85 : Blk w67 (wq1.heap.size) 61 #[.nilFunc] := by rw [hw68]; exact Blk.new _ _ _
  have hs86 : w.heap.size ≤ wq1.heap.size := hFwq1.size
  have hE87 : Ext [] w w67 := by rw [hw68]; exact hFwq1.alloc _
  refine eff_store wide_wide (r := 0) (b := wq1.heap.size) (off := 0) (vs := [.func (.func 55) #[] #[(Pv w41.heap.size)]]) hS (by kernel_rfl) hB85 (by simp) fun a w88 hw89 hS => ?_
  have hB90 := Blk.at' hw89 (hB77.updNe (Ne.symm hn69) _ _)
  have hB91 := OwnV.at' hw89 (hB78.updNe hn70 _ _)
  have hB92 := OwnV.at' hw89 (hB79.updNe hn71 _ _)
  have hB93 := Blk.at' hw89 (hB80.updNe (Ne.symm hn72) _ _)
  have hB94 := Blk.at' hw89 (hB81.updNe (Ne.symm hn73) _ _)
  have hB95 := Blk.at' hw89 (hB82.updNe (Ne.symm hn74) _ _)
  have hB96 := Blk.at' hw89 (hB83.updNe (Ne.symm hn75) _ _)
  have hB97 := Blk.at' hw89 (hB84.updNe (Ne.symm hn76) _ _)
  have hB98 : Blk w88 wq1.heap.size 61 (#[.func (.func 55) #[] #[(Pv w41.heap.size)]]) := by rw [hw89]; exact hB85.upd _ _
  have hE99 : Ext [] w w88 := by rw [hw89]; exact hE87.updIn (.inr hs86) _ _
  refine seg_end ?_
  refine hK58 _ _ ?_
  refine wpIn_seq_k fun K100 hK100 => ?_
  refine wpIn_seq_k fun K101 hK101 => ?_
  refine region 1 (by kernel_rfl) ?_
  refine seg wide_wide [.p] [0, 1, 2, 3, 4, 5, 7, 9, 10, 11, 27] [] [(0, (Pv F.fb)), (1, .int .i64 ↑i), (2, (.slice wb lw.length wc)), (3, .bool true), (4, .int .i64 stop), (5, (Pv w.heap.size)), (7, (Pv w2.heap.size)), (9, (Pv w13.heap.size)), (10, (Pv w26.heap.size)), (11, (Pv wq1.heap.size)), (27, .bool true)] 1 0 hS (by kernel_rfl) (by kernel_rfl) (by kernel_rfl) .nil fun a hS => ?_
  refine seg_end ?_
  refine hK101 _ _ ?_
  refine cond_t hS rfl ?_
  refine region 9 (by kernel_rfl) ?_
  refine seg wide_wide [.ld ((Pv F.fb)), .p, .p, .ld (.slice F.pb F.L.length F.pc), .p, .run (.pointer (some ⟨bof (.slice F.pb F.L.length F.pc), 0 + i * 1, none⟩)), .ld ((Pv r.t.b))] [0, 1, 2, 3, 4, 5, 7, 9, 10, 11, 27, 34] [w88.cell? ⟨w.heap.size, 0, none⟩ = some ((Pv F.fb)), w88.cell? ⟨F.fb, 2, none⟩ = some (.slice F.pb F.L.length F.pc), Sem.run Try.prog (vS (Instr.indexAt 32 (.slice F.pb F.L.length F.pc) (.int .i64 ↑i))) w88 = .ok (.value (.pointer (some ⟨bof (.slice F.pb F.L.length F.pc), 0 + i * 1, none⟩))) w88, w88.cell? ⟨bof (.slice F.pb F.L.length F.pc), 0 + i * 1, none⟩ = some ((Pv r.t.b))] [(0, (Pv F.fb)), (1, .int .i64 ↑i), (2, (.slice wb lw.length wc)), (3, .bool true), (4, .int .i64 stop), (5, (Pv w.heap.size)), (7, (Pv w2.heap.size)), (9, (Pv w13.heap.size)), (10, (Pv w26.heap.size)), (11, (Pv wq1.heap.size)), (27, .bool true), (34, (Pv r.t.b))] 7 2 hS (by kernel_rfl) (by kernel_rfl) (by kernel_rfl) (.cons (hB93.cell 0 rfl) (.cons (hB90.cell 2 rfl) (.cons (ix_own (j := i) (hB91) (by kernel_rfl) (by kernel_rfl) rfl hi) (.cons ((hB91).cellAt _ (by simp [hr, Tr.ptr])) .nil)))) fun a hS => ?_
  refine eff_call wide_wide (r := 1) (f := 30) (vs := [(Pv r.t.b)]) (cap := #[]) (d := (some 35)) hS (by kernel_rfl) Try.call30 #[(Pv r.t.b)] (by kernel_rfl) (Leaves_any r.t.b w88) ?_
  rintro _ wq2 ⟨rfl, hw102⟩
  refine ⟨_, rfl, fun a hS => ?_⟩
  have hEwq2 : Ext [] w88 wq2 := by rw [hw102]; exact (Ext.refl _ _).alloc _
  have hbxwq2 : Blk wq2 w88.heap.size 47 #[pv r.t.b] := by rw [hw102]; exact Blk.new _ _ _
  have hFwq2 := hE99.trans0 hEwq2
  have hB103 := hB90.ext hEwq2 (by simp)
  have hB104 := hB91.ext hEwq2 (by simp)
  have hB105 := hB92.ext hEwq2 (by simp)
  have hB106 := hB93.ext hEwq2 (by simp)
  have hB107 := hB94.ext hEwq2 (by simp)
  have hB108 := hB95.ext hEwq2 (by simp)
  have hB109 := hB96.ext hEwq2 (by simp)
  have hB110 := hB97.ext hEwq2 (by simp)
  have hB111 := hB98.ext hEwq2 (by simp)
  refine eff_store wide_wide (r := 0) (b := wq1.heap.size) (off := 0) (vs := [.func (.func 57) #[] #[(Pv w88.heap.size)]]) hS (by kernel_rfl) hB111 (by simp) fun a w112 hw113 hS => ?_
  have hB114 := Blk.at' hw113 (hB103.updNe (Ne.symm hn69) _ _)
  have hB115 := OwnV.at' hw113 (hB104.updNe hn70 _ _)
  have hB116 := OwnV.at' hw113 (hB105.updNe hn71 _ _)
  have hB117 := Blk.at' hw113 (hB106.updNe (Ne.symm hn72) _ _)
  have hB118 := Blk.at' hw113 (hB107.updNe (Ne.symm hn73) _ _)
  have hB119 := Blk.at' hw113 (hB108.updNe (Ne.symm hn74) _ _)
  have hB120 := Blk.at' hw113 (hB109.updNe (Ne.symm hn75) _ _)
  have hB121 := Blk.at' hw113 (hB110.updNe (Ne.symm hn76) _ _)
  have hB122 : Blk w112 wq1.heap.size 61 (#[.func (.func 57) #[] #[(Pv w88.heap.size)]]) := by rw [hw113]; exact hB111.upd _ _
  have hB123 := Blk.at' hw113 (hbxwq2.updNe (Nat.ne_of_lt hB98.lt) _ _)
  have hE124 : Ext [] w w112 := by rw [hw113]; exact hFwq2.updIn (.inr hs86) _ _
  refine seg_end ?_
  refine hK100 _ _ ?_
  refine wpIn_seq_k fun K125 hK125 => ?_
  refine wpIn_seq_k fun K126 hK126 => ?_
  refine region 2 (by kernel_rfl) ?_
  refine seg wide_wide [.ld (.func (.func 57) #[] #[(Pv w88.heap.size)]), .p] [0, 1, 2, 3, 4, 5, 7, 9, 10, 11, 27, 37] [w112.cell? ⟨wq1.heap.size, 0, none⟩ = some (.func (.func 57) #[] #[(Pv w88.heap.size)])] [(0, (Pv F.fb)), (1, .int .i64 ↑i), (2, (.slice wb lw.length wc)), (3, .bool true), (4, .int .i64 stop), (5, (Pv w.heap.size)), (7, (Pv w2.heap.size)), (9, (Pv w13.heap.size)), (10, (Pv w26.heap.size)), (11, (Pv wq1.heap.size)), (27, .bool true), (37, .bool false)] 2 0 hS (by kernel_rfl) (by kernel_rfl) (by kernel_rfl) (.cons (hB122.cell 0 rfl) .nil) fun a hS => ?_
  refine seg_end ?_
  refine hK126 _ _ ?_
  refine cond_f hS rfl ?_
  refine wpIn_skip ?_
  refine hK125 _ _ ?_
  refine wpIn_seq_k fun K127 hK127 => ?_
  refine wpIn_seq_k fun K128 hK128 => ?_
  refine region 2 (by kernel_rfl) ?_
  refine eff_box wide_wide (r := 1) (cs := #[.int .i64 0]) (T := 3) (d := (some 12)) hS (by kernel_rfl) fun a w129 hw130 hS => ?_
  have hn131 : F.fb ≠ w112.heap.size := Nat.ne_of_lt hB114.lt
  have hn132 : ∀ x ∈ ob (.slice F.pb F.L.length F.pc), w112.heap.size ≠ x := fun x hx => Nat.ne_of_gt (hB115.lie x hx)
  have hn133 : ∀ x ∈ ob (.slice F.qb F.L.length F.qc), w112.heap.size ≠ x := fun x hx => Nat.ne_of_gt (hB116.lie x hx)
  have hn134 : w.heap.size ≠ w112.heap.size := Nat.ne_of_lt hB117.lt
  have hn135 : w2.heap.size ≠ w112.heap.size := Nat.ne_of_lt hB118.lt
  have hn136 : w13.heap.size ≠ w112.heap.size := Nat.ne_of_lt hB119.lt
  have hn137 : w26.heap.size ≠ w112.heap.size := Nat.ne_of_lt hB120.lt
  have hn138 : w41.heap.size ≠ w112.heap.size := Nat.ne_of_lt hB121.lt
  have hn139 : wq1.heap.size ≠ w112.heap.size := Nat.ne_of_lt hB122.lt
  have hn140 : w88.heap.size ≠ w112.heap.size := Nat.ne_of_lt hB123.lt
  have hB141 := Blk.at' hw130 (hB114.alloc _)
  have hB142 := OwnV.at' hw130 (hB115.alloc _)
  have hB143 := OwnV.at' hw130 (hB116.alloc _)
  have hB144 := Blk.at' hw130 (hB117.alloc _)
  have hB145 := Blk.at' hw130 (hB118.alloc _)
  have hB146 := Blk.at' hw130 (hB119.alloc _)
  have hB147 := Blk.at' hw130 (hB120.alloc _)
  have hB148 := Blk.at' hw130 (hB121.alloc _)
  have hB149 := Blk.at' hw130 (hB122.alloc _)
  have hB150 := Blk.at' hw130 (hB123.alloc _)
  have hB151 : Blk w129 (w112.heap.size) 3 #[.int .i64 0] := by rw [hw130]; exact Blk.new _ _ _
  have hs152 : w.heap.size ≤ w112.heap.size := hE124.size
  have hE153 : Ext [] w w129 := by rw [hw130]; exact hE124.alloc _
  refine eff_store wide_wide (r := 0) (b := w112.heap.size) (off := 0) (vs := [.int .i64 0]) hS (by kernel_rfl) hB151 (by simp) fun a w154 hw155 hS => ?_
  have hB156 := Blk.at' hw155 (hB141.updNe (Ne.symm hn131) _ _)
  have hB157 := OwnV.at' hw155 (hB142.updNe hn132 _ _)
  have hB158 := OwnV.at' hw155 (hB143.updNe hn133 _ _)
  have hB159 := Blk.at' hw155 (hB144.updNe (Ne.symm hn134) _ _)
  have hB160 := Blk.at' hw155 (hB145.updNe (Ne.symm hn135) _ _)
  have hB161 := Blk.at' hw155 (hB146.updNe (Ne.symm hn136) _ _)
  have hB162 := Blk.at' hw155 (hB147.updNe (Ne.symm hn137) _ _)
  have hB163 := Blk.at' hw155 (hB148.updNe (Ne.symm hn138) _ _)
  have hB164 := Blk.at' hw155 (hB149.updNe (Ne.symm hn139) _ _)
  have hB165 := Blk.at' hw155 (hB150.updNe (Ne.symm hn140) _ _)
  have hB166 : Blk w154 w112.heap.size 3 (#[.int .i64 0]) := by rw [hw155]; exact hB151.upd _ _
  have hE167 : Ext [] w w154 := by rw [hw155]; exact hE153.updIn (.inr hs152) _ _
  refine seg_end ?_
  refine hK128 _ _ ?_
  refine wpIn_block ?_
  replace hS := hS.keepTo [1, 5, 7, 9, 10, 11, 12] (m' := [(1, .int .i64 ↑i), (5, (Pv w.heap.size)), (7, (Pv w2.heap.size)), (9, (Pv w13.heap.size)), (10, (Pv w26.heap.size)), (11, (Pv wq1.heap.size)), (12, (Pv w112.heap.size))]) (by kernel_rfl)
  have hBfx0 := hB159
  obtain ⟨fx, hefx⟩ : ∃ x, x = w.heap.size := ⟨_, rfl⟩
  rw [← hefx] at hS hBfx0
  have hBwx0 := hB160
  obtain ⟨wx, hewx⟩ : ∃ x, x = w2.heap.size := ⟨_, rfl⟩
  rw [← hewx] at hS hBwx0
  have hBsx0 := hB161
  obtain ⟨sx, hesx⟩ : ∃ x, x = w13.heap.size := ⟨_, rfl⟩
  rw [← hesx] at hS hBsx0
  have hBrx0 := hB162
  obtain ⟨rx, herx⟩ : ∃ x, x = w26.heap.size := ⟨_, rfl⟩
  rw [← herx] at hS hBrx0
  have hBqx0 := hB164
  obtain ⟨qx, heqx⟩ : ∃ x, x = wq1.heap.size := ⟨_, rfl⟩
  rw [← heqx] at hS hBqx0
  have hBnx0 := hB166
  obtain ⟨nx, henx⟩ : ∃ x, x = w112.heap.size := ⟨_, rfl⟩
  rw [← henx] at hS hBnx0
  have hnrx : w.heap.size ≤ rx := by rw [herx]; exact hs56
  have hBbx0 := hB165
  obtain ⟨bx, hebx⟩ : ∃ x, x = w88.heap.size := ⟨_, rfl⟩
  rw [← hebx] at hBqx0 hBbx0
  have hE0l := hE167
  have hFl := hF.ext0 hE0l
  refine loop_ghost (fun ((n, nb, Ds) : Nat × Nat × List Nat) a' w' => St 141 (Ds.map dmark) [(1, .int .i64 ↑i), (5, (Pv fx)), (7, (Pv wx)), (9, (Pv sx)), (10, (Pv rx)), (11, (Pv qx)), (12, (Pv nb))] a' ∧ n ≤ 2 ∧ Ext [] w154 w' ∧ Blk w' nb 3 #[.int .i64 (n : Int)] ∧ (∀ D ∈ Ds, Dfr w' D) ∧ Ds.Nodup ∧ (∀ D ∈ Ds, w154.heap.size ≤ D)) (fun ((n, nb, Ds) : Nat × Nat × List Nat) => 2 - n) (0, nx, []) ⟨hS.keepTo [1, 5, 7, 9, 10, 11, 12] (by kernel_rfl), by omega, Ext.refl _ _, hBnx0, by simp, by simp, by simp⟩ ?_
  rintro ⟨n, nb, Ds⟩ a w1 ⟨hS, hn2, hEl, hnb, hDs, hnd, hDn⟩
  have hBfx1 := hBfx0.ext hEl (by simp)
  have hBwx1 := hBwx0.ext hEl (by simp)
  have hBsx1 := hBsx0.ext hEl (by simp)
  have hBrx1 := hBrx0.ext hEl (by simp)
  have hBqx1 := hBqx0.ext hEl (by simp)
  have hBbx1 := hBbx0.ext hEl (by simp)
  have hF1 := hFl.ext0 hEl
  refine wpIn_seq_k fun K168 hK168 => ?_
  refine wpIn_seq_k fun K169 hK169 => ?_
  refine region 2 (by kernel_rfl) ?_
  refine seg wide_wide [.ld (.int .i64 ↑n), .p] [1, 5, 7, 9, 10, 11, 12, 39] [w1.cell? ⟨nb, 0, none⟩ = some (.int .i64 ↑n)] [(1, .int .i64 ↑i), (5, (Pv fx)), (7, (Pv wx)), (9, (Pv sx)), (10, (Pv rx)), (11, (Pv qx)), (12, (Pv nb)), (39, .bool (decide ((↑n : Int) < 2)))] 2 0 hS (by kernel_rfl) (by kernel_rfl) (by kernel_rfl) (.cons (hnb.cell 0 rfl) .nil) fun a hS => ?_
  refine seg_end ?_
  refine hK169 _ _ ?_
  refine cond_b hS rfl (fun hb170 => ?_) (fun hb170 => ?_)
  · -- decide ((↑n : Int) < 2) is true
    replace hb170 := of_decide_eq_true hb170
    refine wpIn_skip ?_
    refine hK168 _ _ ?_
    refine wpIn_seq_k fun K171 hK171 => ?_
    refine wpIn_block ?_
    refine wpIn_seq_k fun K172 hK172 => ?_
    rcases (show n = 0 ∨ n = 1 by omega) with rfl | rfl
    · -- an alternative
      replace hnb : Blk w1 nb 3 #[.int .i64 0] := hnb
      refine region 2 (by kernel_rfl) ?_
      refine eff_box wide_wide (r := 1) (cs := #[.int .i64 0]) (T := 3) (d := (some 13)) hS (by kernel_rfl) fun a w173 hw174 hS => ?_
      have hn175 : fx ≠ w1.heap.size := Nat.ne_of_lt hBfx1.lt
      have hn176 : wx ≠ w1.heap.size := Nat.ne_of_lt hBwx1.lt
      have hn177 : sx ≠ w1.heap.size := Nat.ne_of_lt hBsx1.lt
      have hn178 : rx ≠ w1.heap.size := Nat.ne_of_lt hBrx1.lt
      have hn179 : qx ≠ w1.heap.size := Nat.ne_of_lt hBqx1.lt
      have hn180 : bx ≠ w1.heap.size := Nat.ne_of_lt hBbx1.lt
      have hn181 : nb ≠ w1.heap.size := Nat.ne_of_lt hnb.lt
      have hn182 : F.fb ≠ w1.heap.size := Nat.ne_of_lt hF1.f.lt
      have hB183 := Blk.at' hw174 (hBfx1.alloc _)
      have hB184 := Blk.at' hw174 (hBwx1.alloc _)
      have hB185 := Blk.at' hw174 (hBsx1.alloc _)
      have hB186 := Blk.at' hw174 (hBrx1.alloc _)
      have hB187 := Blk.at' hw174 (hBqx1.alloc _)
      have hB188 := Blk.at' hw174 (hBbx1.alloc _)
      have hB189 := Blk.at' hw174 (hnb.alloc _)
      have hB190 := Blk.at' hw174 (hF1.f.alloc _)
      have hX191 : Ext [] w1 w173 := by rw [hw174]; exact (Ext.refl _ _).alloc _
      have hG192 : ∀ D ∈ Ds, Dfr w173 D := fun D hD => (hDs D hD).ext hX191 (by simp)
      have hB193 : Blk w173 (w1.heap.size) 3 #[.int .i64 0] := by rw [hw174]; exact Blk.new _ _ _
      have hs194 : w154.heap.size ≤ w1.heap.size := hEl.size
      have hE195 : Ext [] w154 w173 := by rw [hw174]; exact hEl.alloc _
      refine eff_store wide_wide (r := 0) (b := w1.heap.size) (off := 0) (vs := [.int .i64 0]) hS (by kernel_rfl) hB193 (by simp) fun a w196 hw197 hS => ?_
      have hB198 := Blk.at' hw197 (hB183.updNe (Ne.symm hn175) _ _)
      have hB199 := Blk.at' hw197 (hB184.updNe (Ne.symm hn176) _ _)
      have hB200 := Blk.at' hw197 (hB185.updNe (Ne.symm hn177) _ _)
      have hB201 := Blk.at' hw197 (hB186.updNe (Ne.symm hn178) _ _)
      have hB202 := Blk.at' hw197 (hB187.updNe (Ne.symm hn179) _ _)
      have hB203 := Blk.at' hw197 (hB188.updNe (Ne.symm hn180) _ _)
      have hB204 := Blk.at' hw197 (hB189.updNe (Ne.symm hn181) _ _)
      have hB205 := Blk.at' hw197 (hB190.updNe (Ne.symm hn182) _ _)
      have hB206 : Blk w196 w1.heap.size 3 (#[.int .i64 0]) := by rw [hw197]; exact hB193.upd _ _
      have hX207 : Ext [w1.heap.size] w173 w196 := by rw [hw197]; exact (Ext.refl _ _).updIn (.inl (by simp)) _ _
      have hG208 : ∀ D ∈ Ds, Dfr w196 D := fun D hD => (hG192 D hD).ext hX207 (by simpa using (hG192 D hD).ne_blk hB193)
      have hE209 : Ext [] w154 w196 := by rw [hw197]; exact hE195.updIn (.inr hs194) _ _
      refine seg_end ?_
      refine hK172 _ _ ?_
      refine wpIn_seq_k fun K210 hK210 => ?_
      refine wpIn_seq_k fun K211 hK211 => ?_
      refine region 1 (by kernel_rfl) ?_
      refine seg wide_wide [.ld (.func (.func 57) #[] #[(Pv bx)])] [1, 5, 7, 9, 10, 11, 12, 13, 42] [w196.cell? ⟨qx, 0, none⟩ = some (.func (.func 57) #[] #[(Pv bx)])] [(1, .int .i64 ↑i), (5, (Pv fx)), (7, (Pv wx)), (9, (Pv sx)), (10, (Pv rx)), (11, (Pv qx)), (12, (Pv nb)), (13, (Pv w1.heap.size)), (42, .func (.func 57) #[] #[(Pv bx)])] 1 0 hS (by kernel_rfl) (by kernel_rfl) (by kernel_rfl) (.cons (hB202.cell 0 rfl) .nil) fun a hS => ?_
      refine seg_end ?_
      refine hK211 _ _ ?_
      refine wpIn_block ?_
      replace hS := hS.keepTo [1, 5, 7, 9, 10, 11, 12, 13, 42] (m' := [(1, .int .i64 ↑i), (5, (Pv fx)), (7, (Pv wx)), (9, (Pv sx)), (10, (Pv rx)), (11, (Pv qx)), (12, (Pv nb)), (13, (Pv w1.heap.size)), (42, .func (.func 57) #[] #[(Pv bx)])]) (by kernel_rfl)
      have hkb0 := hB206
      have hkbn := hs194
      have hBfx9 := hB198
      have hnefx : fx ≠ w1.heap.size := hn175
      have hBwx9 := hB199
      have hnewx : wx ≠ w1.heap.size := hn176
      have hBsx9 := hB200
      have hnesx : sx ≠ w1.heap.size := hn177
      have hBrx9 := hB201
      have hnerx : rx ≠ w1.heap.size := hn178
      have hBqx9 := hB202
      have hneqx : qx ≠ w1.heap.size := hn179
      have hBbx9 := hB203
      have hnebx : bx ≠ w1.heap.size := hn180
      have hBnb9 := hB204
      have hnenb : nb ≠ w1.heap.size := hn181
      obtain ⟨kb, hkbe⟩ : ∃ x, x = w1.heap.size := ⟨_, rfl⟩
      rw [← hkbe] at hS hkb0 hkbn hnefx hnewx hnesx hnerx hneqx hnebx hnenb
      have hE9 := hE209
      have hF9 := hFl.ext0 hE9
      have hD9 := hG208
      have hkblt := hkb0.lt
      have hbxlt := hBbx0.lt
      have hl9 := hE9.size
      refine range_out (gf := 57) (lb := #[pv bx]) (enc := encW) (xs := ((walk r.t 0).filter isLeaf)) (T := fun b => b = bx ∨ r.t.Foot b)
        (fun pre Cx W => Cx = [kb] ∧ Blk W kb 3 #[.int .i64 (pre.length : Int)])
        (fun c s Cx W => c = .exit 2 ∧ Cx = [kb] ∧ ∃ k : Nat, (k : Int) = stop ∧ k < lw.length ∧ Blk W kb 3 #[.int .i64 (k : Int)]) [kb] (fun q => [(1, .int .i64 ↑i), (5, (Pv fx)), (7, (Pv wx)), (9, (Pv sx)), (10, (Pv rx)), (11, (Pv qx)), (12, (Pv nb)), (13, (Pv kb)), (14, .int .i64 q.1), (15, (Pv q.2.b))]) hS rfl Try.call57 ?_ ?_ ?_ ?_ (fun _ => rfl) rfl ?_ ?_ ?_ ?_ ?_ ?_ ?_
      · intro W hEW _
        exact Leaves1_any (hBbx9.ext hEW (by simp)) ((hF9.ok.one r hrm).ok.ext hEW r.t (by simp))
      · rintro b (rfl | hb)
        · exact hBbx9.lt
        · exact (hF9.ok.one r hrm).ok.foot_lt hb
      · intro b hb hT
        obtain rfl : b = kb := by simpa using hb
        rcases hT with hT | hT
        · exact hnebx hT.symm
        · exact (hF9.ok.one r hrm).ok.not_foot hkb0 (by decide) (by decide) hT
      · intro b hb
        obtain rfl : b = kb := by simpa using hb
        exact hkblt
      · rintro s Cx M W W' ⟨rfl, h1⟩ hE hM
        exact ⟨rfl, h1.ext hE (fun hm => (hM _ hm).2 (by simp))⟩
      · rintro c s Cx M W W' ⟨hc, rfl, k, h1, h2, h3⟩ hE hM
        exact ⟨hc, rfl, k, h1, h2, h3.ext hE (fun hm => (hM _ hm).2 (by simp))⟩
      · exact ⟨rfl, hkb0⟩
      · intro l2 q a' W K hS hK
        refine wpIn_seq_k fun K212 hK212 => ?_
        refine region 1 (by kernel_rfl) ?_
        refine seg (wide_wide.inRound l2) [.p] [1, 5, 7, 9, 10, 11, 12, 13, 43, 44, 14] [] [(1, .int .i64 ↑i), (5, (Pv fx)), (7, (Pv wx)), (9, (Pv sx)), (10, (Pv rx)), (11, (Pv qx)), (12, (Pv nb)), (13, (Pv kb)), (43, .int .i64 q.1), (44, q.2.ptr), (14, .int .i64 q.1)] 1 0 hS (by kernel_rfl) (by kernel_rfl) (by kernel_rfl) .nil fun a hS => ?_
        refine seg_end ?_
        refine hK212 _ _ ?_
        refine region 1 (by kernel_rfl) ?_
        refine seg (wide_wide.inRound l2) [.p] [1, 5, 7, 9, 10, 11, 12, 13, 43, 44, 14, 15] [] [(1, .int .i64 ↑i), (5, (Pv fx)), (7, (Pv wx)), (9, (Pv sx)), (10, (Pv rx)), (11, (Pv qx)), (12, (Pv nb)), (13, (Pv kb)), (43, .int .i64 q.1), (44, q.2.ptr), (14, .int .i64 q.1), (15, q.2.ptr)] 1 0 hS (by kernel_rfl) (by kernel_rfl) (by kernel_rfl) .nil fun a hS => ?_
        refine seg_end ?_
        exact hK _ (hS.keepTo [1, 5, 7, 9, 10, 11, 12, 13, 14, 15] (by kernel_rfl))
      · rintro l2 pre q post Cx W a hxs2 ⟨rfl, hkbW⟩ hlieW hfrW hnl hrec hEW hS
        have hkl : pre.length < lw.length := by
          have := congrArg List.length hxs2
          rw [hxl] at this
          simp at this
          omega
        obtain ⟨⟨sp, pv_⟩, hsp⟩ : ∃ q, lw[pre.length]? = some q := ⟨_, List.getElem?_eq_getElem hkl⟩
        obtain rfl : q = (sp.at_, sp.r.t) := by
          have h1 : ((walk r.t 0).filter isLeaf)[pre.length]? = some q := by rw [hxs2]; simp
          rw [← hxs] at h1
          simp [hsp] at h1
          exact h1.symm
        have hqm := hin _ (List.mem_of_getElem? hsp)
        have hcw := spc_at lw pre.length
        have hWW : Ext [kb] W W := Ext.refl _ _
        have hEW0 : Ext [] w W := (hE0l.trans0 hE9).trans hEW (by intro b hb; obtain rfl := (by simpa using hb : b = kb); exact .inr (Nat.le_trans hE0l.size hkbn))
        have hFW := hF.ext0 hEW0
        have hqi := (hFW.ok.one _ hqm).ki
        have hqL := hFW.ok.at hqm
        have hOW := hO.ext0' hEW0
        replace hS : St 141 [] [(1, .int .i64 ↑i), (5, (Pv fx)), (7, (Pv wx)), (9, (Pv sx)), (10, (Pv rx)), (11, (Pv qx)), (12, (Pv nb)), (13, (Pv kb)), (14, .int .i64 sp.at_), (15, (Pv sp.r.t.b))] a := hS
        have hBfxW := hBfx9.ext hEW (by simpa using hnefx)
        have hBwxW := hBwx9.ext hEW (by simpa using hnewx)
        have hBsxW := hBsx9.ext hEW (by simpa using hnesx)
        have hBrxW := hBrx9.ext hEW (by simpa using hnerx)
        have hBqxW := hBqx9.ext hEW (by simpa using hneqx)
        have hBbxW := hBbx9.ext hEW (by simpa using hnebx)
        have hBnbW := hBnb9.ext hEW (by simpa using hnenb)
        have hgpW : ∀ x ∈ ob (.slice F.pb F.L.length F.pc), kb ≠ x := hFW.P.ne hkbW (by decide)
        have hrowq := (hFW.ok.one sp.r hqm).row
        have hBq : Blk W sp.r.rb 40 #[.int .i64 sp.r.k, .int .i64 ↑sp.r.i, .int .i64 sp.r.t.kd, .int .i64 sp.r.t.nn, .int .i64 sp.r.t.lk, .int .i64 sp.r.t.ls, .int .i64 sp.r.t.ll, .int .i64 sp.r.t.lr, sp.r.kv, .int .i64 sp.r.t.tt] := (hFW.ok.one sp.r hqm).blk
        have hTq : Blk W sp.r.t.b 106 #[.pointer (some ⟨(sOf F.s0 F.s1 sp.r.k), 0, none⟩), .int .i64 sp.r.t.num, .int .i64 sp.r.t.kd, .int .i64 sp.r.t.nn, .int .i64 sp.r.t.lk, .int .i64 sp.r.t.ls, .int .i64 sp.r.t.ll, .int .i64 sp.r.t.lr, sp.r.t.ks, .int .i64 sp.r.t.wd, .int .i64 sp.r.t.lf, .int .i64 sp.r.t.tt, .bool sp.r.t.fl] := (hFW.ok.one sp.r hqm).ok.blk
        refine wpIn_block ?_
        refine wpIn_seq_k fun K213 hK213 => ?_
        refine wpIn_seq_k fun K214 hK214 => ?_
        refine region 7 (by kernel_rfl) ?_
        refine seg (wide_wide.inRound l2) [.ld (.int .i64 0), .p, .p, .ld (.int .i64 ↑pre.length), .ld (.int .i64 stop), .p, .p] [1, 5, 7, 9, 10, 11, 12, 13, 14, 15, 51] [W.cell? ⟨nb, 0, none⟩ = some (.int .i64 0), W.cell? ⟨kb, 0, none⟩ = some (.int .i64 ↑pre.length), W.cell? ⟨sx, 0, none⟩ = some (.int .i64 stop)] [(1, .int .i64 ↑i), (5, (Pv fx)), (7, (Pv wx)), (9, (Pv sx)), (10, (Pv rx)), (11, (Pv qx)), (12, (Pv nb)), (13, (Pv kb)), (14, .int .i64 sp.at_), (15, (Pv sp.r.t.b)), (51, .bool ((↑pre.length : Int) == stop))] 7 0 hS (by kernel_rfl) (by kernel_rfl) (by kernel_rfl) (.cons (hBnbW.cell 0 rfl) (.cons (hkbW.cell 0 rfl) (.cons (hBsxW.cell 0 rfl) .nil))) fun a hS => ?_
        refine seg_end ?_
        refine hK214 _ _ ?_
        refine cond_b hS rfl (fun hb215 => ?_) (fun hb215 => ?_)
        · -- ((↑pre.length : Int) == stop) is true
          replace hb215 := test_eq_t hb215
          refine wpIn_exit ?_
          refine then_exit ?_
          refine inBlock_miss rfl ?_
          exact left_exit (C' := [kb]) hWW (Fresh.refl _ _) (hlieW.ext hWW) ⟨rfl, rfl, pre.length, hb215, hkl, hkbW⟩
        · -- ((↑pre.length : Int) == stop) is false
          replace hb215 := test_eq_f hb215
          refine wpIn_skip ?_
          refine hK213 _ _ ?_
          refine wpIn_seq_k fun K216 hK216 => ?_
          refine wpIn_seq_k fun K217 hK217 => ?_
          refine region_fn2 (wide_wide.inRound l2) [.q (.ld (.int .i64 ↑pre.length)), .q (.ld ((.slice wb lw.length wc))), .q (.run (.int .i64 ↑lw.length)), .q (.as (.bool false)), .q .p, .q .p, .q (.ld ((.slice wb lw.length wc))), .q (.ld (.int .i64 ↑pre.length)), .q (.run (.pointer (some ⟨bof (.slice wb lw.length wc), 0 + pre.length * 3, none⟩))), .q .p, .q (.ld (.int .i64 sp.at_)), .q (.as (.bool false)), .q .p, .q .p, .q .p, .q (.ld ((Pv F.fb))), .q .p, .q .p, .q (.ld (.slice F.pb F.L.length F.pc)), .q (.ld ((.slice wb lw.length wc))), .q (.ld (.int .i64 ↑pre.length)), .q (.run (.pointer (some ⟨bof (.slice wb lw.length wc), 0 + pre.length * 3, none⟩))), .q .p, .q (.ld ((Pv sp.r.rb))), .q .p, .q .p, .q (.ld (.int .i64 ↑sp.r.i)), .q (.run (.pointer (some ⟨bof (.slice F.pb F.L.length F.pc), 0 + sp.r.i * 1, none⟩))), .q (.ld ((Pv sp.r.t.b))), .q (.run (.bool false)), .q .p] [0, 0, 0, 0, 0, 0, 0, 0, 0, 0, 0, 0, 0, 0, 0, 0, 0, 0, 0, 0, 0, 0, 0, 0, 0, 0, 0, 0, 0, 0, 0] [0, 0, 0, 0, 0, 0, 0, 0, 0, 0, 0, 0, 0, 0, 0, 0, 0, 0, 0, 0, 0, 0, 0, 0, 0, 0, 0, 0, 0, 0, 0] [0, 0, 2, 7, 15, 31, 31, 31, 223, 479, 991, 2047, 4095, 8191, 16383, 16383, 49151, 114687, 245759, 16383, 16383, 1589247, 3686399, 7880703, 16269311, 33046527, 66600959, 134201343, 268419071, 536870911, 1073741823] [] 0 ([(1, .int .i64 ↑i), (5, (Pv fx)), (7, (Pv wx)), (9, (Pv sx)), (10, (Pv rx)), (11, (Pv qx)), (12, (Pv nb)), (13, (Pv kb)), (14, .int .i64 sp.at_), (15, (Pv sp.r.t.b)), (52, .int .i64 ↑pre.length), (53, (.slice wb lw.length wc)), (54, .int .i64 ↑lw.length), (55, .bool false), (56, .bool false), (57, .int .i64 sp.at_), (58, (.slice wb lw.length wc)), (59, .int .i64 ↑pre.length), (60, .pointer (some ⟨bof (.slice wb lw.length wc), 0 + pre.length * 3, none⟩)), (61, .pointer (some ⟨bof (.slice wb lw.length wc), 0 + pre.length * 3 + 1, none⟩)), (62, .int .i64 sp.at_), (63, .bool false), (64, .bool false), (65, .bool false), (66, (Pv sp.r.t.b)), (67, (Pv F.fb)), (68, (Pv F.fb)), (69, .pointer (some ⟨F.fb, 2, none⟩)), (70, .slice F.pb F.L.length F.pc), (71, (.slice wb lw.length wc)), (72, .int .i64 ↑pre.length), (73, .pointer (some ⟨bof (.slice wb lw.length wc), 0 + pre.length * 3, none⟩)), (74, .pointer (some ⟨bof (.slice wb lw.length wc), 0 + pre.length * 3, none⟩)), (75, (Pv sp.r.rb)), (76, (Pv sp.r.rb)), (77, .pointer (some ⟨sp.r.rb, 1, none⟩)), (78, .int .i64 ↑sp.r.i), (79, .pointer (some ⟨bof (.slice F.pb F.L.length F.pc), 0 + sp.r.i * 1, none⟩)), (80, (Pv sp.r.t.b)), (81, .bool false), (82, .bool false)]) [W.drew] W.drew (fun w' => [(0, [w'.cell? ⟨kb, 0, none⟩ = some (.int .i64 ↑pre.length)]), (1, [w'.cell? ⟨wx, 0, none⟩ = some ((.slice wb lw.length wc))]), (2, [Sem.run Try.prog (vS (Builtin.len_ #[28] 3 #[(.slice wb lw.length wc)])) w' = .ok (.value (.int .i64 ↑lw.length)) w']), (3, [Value.bool (decide ((↑pre.length : Int) ≥ ↑lw.length)) = .bool false]), (6, [w'.cell? ⟨wx, 0, none⟩ = some ((.slice wb lw.length wc))]), (7, [w'.cell? ⟨kb, 0, none⟩ = some (.int .i64 ↑pre.length)]), (8, [Sem.run Try.prog (vS (Instr.indexAt 28 ((.slice wb lw.length wc)) (.int .i64 ↑pre.length))) w' = .ok (.value (.pointer (some ⟨bof (.slice wb lw.length wc), 0 + pre.length * 3, none⟩))) w']), (10, [w'.cell? ⟨bof (.slice wb lw.length wc), 0 + pre.length * 3 + 1, none⟩ = some (.int .i64 sp.at_)]), (11, [Value.bool (((sp.at_ : Int) != sp.at_)) = .bool false]), (15, [w'.cell? ⟨fx, 0, none⟩ = some ((Pv F.fb))]), (18, [w'.cell? ⟨F.fb, 2, none⟩ = some (.slice F.pb F.L.length F.pc)]), (19, [w'.cell? ⟨wx, 0, none⟩ = some ((.slice wb lw.length wc))]), (20, [w'.cell? ⟨kb, 0, none⟩ = some (.int .i64 ↑pre.length)]), (21, [Sem.run Try.prog (vS (Instr.indexAt 28 ((.slice wb lw.length wc)) (.int .i64 ↑pre.length))) w' = .ok (.value (.pointer (some ⟨bof (.slice wb lw.length wc), 0 + pre.length * 3, none⟩))) w']), (23, [w'.cell? ⟨bof (.slice wb lw.length wc), 0 + pre.length * 3, none⟩ = some ((Pv sp.r.rb))]), (26, [w'.cell? ⟨sp.r.rb, 1, none⟩ = some (.int .i64 ↑sp.r.i)]), (27, [Sem.run Try.prog (vS (Instr.indexAt 32 (.slice F.pb F.L.length F.pc) (.int .i64 ↑sp.r.i))) w' = .ok (.value (.pointer (some ⟨bof (.slice F.pb F.L.length F.pc), 0 + sp.r.i * 1, none⟩))) w']), (28, [w'.cell? ⟨bof (.slice F.pb F.L.length F.pc), 0 + sp.r.i * 1, none⟩ = some ((Pv sp.r.t.b))]), (29, [Sem.run Try.prog (vS (do eqGuard .neq 47 (.tmp 66) (.tmp 80) ((Pv sp.r.t.b)) ((Pv sp.r.t.b)); binOp .neq 47 ((Pv sp.r.t.b)) ((Pv sp.r.t.b)))) w' = .ok (.value (.bool false)) w'])]) [1, 5, 7, 9, 10, 11, 12, 13, 14, 15] [] hS (by kernel_rfl) (by kernel_rfl) (by kernel_rfl) (by kernel_rfl) (fun _ => by kernel_rfl) (by kernel_rfl) (by kernel_rfl) (by kernel_rfl) ?_ ?_ ?_
          · intro e w' hw
            refine (.cons ?_ (.cons ?_ (.cons ?_ (.cons ?_ (.cons ?_ (.cons ?_ (.cons ?_ (.cons ?_ (.cons ?_ (.cons ?_ (.cons ?_ (.cons ?_ (.cons ?_ (.cons ?_ (.cons ?_ (.cons ?_ (.cons ?_ (.cons ?_ (.cons ?_ .nil)))))))))))))))))))
            · intro h1 h2
              obtain rfl : e = 0 := Nat.le_antisymm h2 h1
              obtain rfl : w' = W.drew := hw.trans (by kernel_rfl)
              exact (.cons ((hkbW.drew : Blk W.drew kb 3 (#[.int .i64 ↑pre.length])).cell 0 rfl) .nil)
            · intro h1 h2
              obtain rfl : e = 0 := Nat.le_antisymm h2 h1
              obtain rfl : w' = W.drew := hw.trans (by kernel_rfl)
              exact (.cons ((hBwxW.drew : Blk W.drew wx 28 (#[(.slice wb lw.length wc)])).cell 0 rfl) .nil)
            · exact fun _ _ => (.cons (run_len_own hO (by kernel_rfl)) .nil)
            · exact fun _ _ => (.cons (as_f (by omega)) .nil)
            · intro h1 h2
              obtain rfl : e = 0 := Nat.le_antisymm h2 h1
              obtain rfl : w' = W.drew := hw.trans (by kernel_rfl)
              exact (.cons ((hBwxW.drew : Blk W.drew wx 28 (#[(.slice wb lw.length wc)])).cell 0 rfl) .nil)
            · intro h1 h2
              obtain rfl : e = 0 := Nat.le_antisymm h2 h1
              obtain rfl : w' = W.drew := hw.trans (by kernel_rfl)
              exact (.cons ((hkbW.drew : Blk W.drew kb 3 (#[.int .i64 ↑pre.length])).cell 0 rfl) .nil)
            · exact fun _ _ => (.cons (ix_own (j := pre.length) hO (by kernel_rfl) (by kernel_rfl) rfl hkl) .nil)
            · intro h1 h2
              obtain rfl : e = 0 := Nat.le_antisymm h2 h1
              obtain rfl : w' = W.drew := hw.trans (by kernel_rfl)
              exact (.cons (hOW.cellAt _ (by have h := spc_at lw pre.length 1 _ hsp (by omega); simpa [Rf.ptr] using h)) .nil)
            · exact fun _ _ => (.cons (as_ne_f (rfl)) .nil)
            · intro h1 h2
              obtain rfl : e = 0 := Nat.le_antisymm h2 h1
              obtain rfl : w' = W.drew := hw.trans (by kernel_rfl)
              exact (.cons ((hBfxW.drew : Blk W.drew fx 24 (#[(Pv F.fb)])).cell 0 rfl) .nil)
            · intro h1 h2
              obtain rfl : e = 0 := Nat.le_antisymm h2 h1
              obtain rfl : w' = W.drew := hw.trans (by kernel_rfl)
              exact (.cons ((hFW.f.drew : Blk W.drew F.fb 35 (#[(Pv F.s0), (Pv F.s1), .slice F.pb F.L.length F.pc, .slice F.qb F.L.length F.qc, .slice F.bb F.bn F.bc])).cell 2 rfl) .nil)
            · intro h1 h2
              obtain rfl : e = 0 := Nat.le_antisymm h2 h1
              obtain rfl : w' = W.drew := hw.trans (by kernel_rfl)
              exact (.cons ((hBwxW.drew : Blk W.drew wx 28 (#[(.slice wb lw.length wc)])).cell 0 rfl) .nil)
            · intro h1 h2
              obtain rfl : e = 0 := Nat.le_antisymm h2 h1
              obtain rfl : w' = W.drew := hw.trans (by kernel_rfl)
              exact (.cons ((hkbW.drew : Blk W.drew kb 3 (#[.int .i64 ↑pre.length])).cell 0 rfl) .nil)
            · exact fun _ _ => (.cons (ix_own (j := pre.length) hO (by kernel_rfl) (by kernel_rfl) rfl hkl) .nil)
            · intro h1 h2
              obtain rfl : e = 0 := Nat.le_antisymm h2 h1
              obtain rfl : w' = W.drew := hw.trans (by kernel_rfl)
              exact (.cons (hOW.cellAt _ (by have h := spc_at lw pre.length 0 _ hsp (by omega); simpa [Rf.ptr] using h)) .nil)
            · intro h1 h2
              obtain rfl : e = 0 := Nat.le_antisymm h2 h1
              obtain rfl : w' = W.drew := hw.trans (by kernel_rfl)
              exact (.cons ((hBq.drew : Blk W.drew sp.r.rb 40 (#[.int .i64 sp.r.k, .int .i64 ↑sp.r.i, .int .i64 sp.r.t.kd, .int .i64 sp.r.t.nn, .int .i64 sp.r.t.lk, .int .i64 sp.r.t.ls, .int .i64 sp.r.t.ll, .int .i64 sp.r.t.lr, sp.r.kv, .int .i64 sp.r.t.tt])).cell 1 rfl) .nil)
            · exact fun _ _ => (.cons (ix_own (j := sp.r.i) (hFW.P) (by kernel_rfl) (by kernel_rfl) rfl hqi) .nil)
            · intro h1 h2
              obtain rfl : e = 0 := Nat.le_antisymm h2 h1
              obtain rfl : w' = W.drew := hw.trans (by kernel_rfl)
              exact (.cons ((hFW.P.drew : OwnV W.drew 47 1 (.slice F.pb F.L.length F.pc) F.L.length (F.L.map fun r => r.t.ptr)).cellAt _ (by simp [hqL, Tr.ptr])) .nil)
            · intro h1 h2
              obtain rfl : e = 0 := Nat.le_antisymm h2 h1
              obtain rfl : w' = W.drew := hw.trans (by kernel_rfl)
              exact (.cons (bin_ptr_neq (E := 106) (by kernel_rfl) ⟨12, by kernel_rfl⟩ (hTq.drew) (hTq.drew) (by simp)) .nil)
          · refine .nil
          rintro a w219 hS hw220
          replace hw220 : w219 = W.drew := hw220.trans (by kernel_rfl)
          have hB221 := Blk.at' hw220 (hBfxW.drew)
          have hB222 := Blk.at' hw220 (hBwxW.drew)
          have hB223 := Blk.at' hw220 (hBsxW.drew)
          have hB224 := Blk.at' hw220 (hBrxW.drew)
          have hB225 := Blk.at' hw220 (hBqxW.drew)
          have hB226 := Blk.at' hw220 (hBbxW.drew)
          have hB227 := Blk.at' hw220 (hBnbW.drew)
          have hB228 := Blk.at' hw220 (hkbW.drew)
          have hB229 := Blk.at' hw220 (hFW.f.drew)
          have hB230 := OwnV.at' hw220 (hFW.P.drew)
          have hB231 := Blk.at' hw220 (hBq.drew)
          have hB232 := Blk.at' hw220 (hTq.drew)
          have hE233 : Ext [kb] W w219 := by rw [hw220]; exact hWW.drew
          replace hS := hS.keepTo [1, 5, 7, 9, 10, 11, 12, 13, 14, 15, 82] (m' := [(1, .int .i64 ↑i), (5, (Pv fx)), (7, (Pv wx)), (9, (Pv sx)), (10, (Pv rx)), (11, (Pv qx)), (12, (Pv nb)), (13, (Pv kb)), (14, .int .i64 sp.at_), (15, (Pv sp.r.t.b)), (82, .bool false)]) (by kernel_rfl)
          refine hK217 _ _ ?_
          refine cond_f hS rfl ?_
          refine wpIn_skip ?_
          refine hK216 _ _ ?_
          refine wpIn_seq_k fun K234 hK234 => ?_
          refine region 3 (by kernel_rfl) ?_
          refine seg (wide_wide.inRound l2) [.ld (.int .i64 ↑pre.length), .as (.int .i64 (↑pre.length + 1))] [1, 5, 7, 9, 10, 11, 12, 13, 14, 15, 82, 84] [w219.cell? ⟨kb, 0, none⟩ = some (.int .i64 ↑pre.length), Value.int .i64 (IntKind.i64.wrap (↑pre.length + 1)) = .int .i64 (↑pre.length + 1)] [(1, .int .i64 ↑i), (5, (Pv fx)), (7, (Pv wx)), (9, (Pv sx)), (10, (Pv rx)), (11, (Pv qx)), (12, (Pv nb)), (13, (Pv kb)), (14, .int .i64 sp.at_), (15, (Pv sp.r.t.b)), (82, .bool false), (84, .int .i64 (↑pre.length + 1))] 2 1 hS (by kernel_rfl) (by kernel_rfl) (by kernel_rfl) (.cons (hB228.cell 0 rfl) (.cons (as_i64 (by omega)) .nil)) fun a hS => ?_
          refine eff_store (wide_wide.inRound l2) (r := 0) (b := kb) (off := 0) (vs := [.int .i64 (↑pre.length + 1)]) hS (by kernel_rfl) hB228 (by simp) fun a w235 hw236 hS => ?_
          have hB237 := Blk.at' hw236 (hB221.updNe (Ne.symm hnefx) _ _)
          have hB238 := Blk.at' hw236 (hB222.updNe (Ne.symm hnewx) _ _)
          have hB239 := Blk.at' hw236 (hB223.updNe (Ne.symm hnesx) _ _)
          have hB240 := Blk.at' hw236 (hB224.updNe (Ne.symm hnerx) _ _)
          have hB241 := Blk.at' hw236 (hB225.updNe (Ne.symm hneqx) _ _)
          have hB242 := Blk.at' hw236 (hB226.updNe (Ne.symm hnebx) _ _)
          have hB243 := Blk.at' hw236 (hB227.updNe (Ne.symm hnenb) _ _)
          have hB244 : Blk w235 kb 3 (#[.int .i64 (↑pre.length + 1)]) := by rw [hw236]; exact hB228.upd _ _
          have hB245 := Blk.at' hw236 (hB229.updNe (Blk.ne_type hB228 hB229 (by decide)) _ _)
          have hB246 := OwnV.at' hw236 (hB230.updNe hgpW _ _)
          have hB247 := Blk.at' hw236 (hB231.updNe (Blk.ne_type hB228 hB231 (by decide)) _ _)
          have hB248 := Blk.at' hw236 (hB232.updNe (Blk.ne_type hB228 hB232 (by decide)) _ _)
          have hE249 : Ext [kb] W w235 := by rw [hw236]; exact hE233.updIn (.inl (by simp)) _ _
          refine seg_end ?_
          refine hK234 _ _ ?_
          refine wpIn_seq_k fun K250 hK250 => ?_
          refine region 2 (by kernel_rfl) ?_
          refine seg (wide_wide.inRound l2) [.ld (.int .i64 (↑pre.length + 1)), .p] [1, 5, 7, 9, 10, 11, 12, 13, 14, 15, 82, 86] [w235.cell? ⟨kb, 0, none⟩ = some (.int .i64 (↑pre.length + 1))] [(1, .int .i64 ↑i), (5, (Pv fx)), (7, (Pv wx)), (9, (Pv sx)), (10, (Pv rx)), (11, (Pv qx)), (12, (Pv nb)), (13, (Pv kb)), (14, .int .i64 sp.at_), (15, (Pv sp.r.t.b)), (82, .bool false), (86, .bool ((↑pre.length + 1 : Int) == 2))] 2 0 hS (by kernel_rfl) (by kernel_rfl) (by kernel_rfl) (.cons (hB244.cell 0 rfl) .nil) fun a hS => ?_
          refine seg_end ?_
          refine hK250 _ _ ?_
          refine cond_b hS rfl (fun hb251 => ?_) (fun hb251 => ?_)
          · -- ((↑pre.length + 1 : Int) == 2) is true
            replace hb251 := test_eq_t hb251
            refine wpIn_seq_k fun K252 hK252 => ?_
            refine region 2 (by kernel_rfl) ?_
            refine eff_box (wide_wide.inRound l2) (r := 1) (cs := #[.int .i64 0]) (T := 3) (d := (some 16)) hS (by kernel_rfl) fun a w253 hw254 hS => ?_
            have hn255 : fx ≠ w235.heap.size := Nat.ne_of_lt hB237.lt
            have hn256 : wx ≠ w235.heap.size := Nat.ne_of_lt hB238.lt
            have hn257 : sx ≠ w235.heap.size := Nat.ne_of_lt hB239.lt
            have hn258 : rx ≠ w235.heap.size := Nat.ne_of_lt hB240.lt
            have hn259 : qx ≠ w235.heap.size := Nat.ne_of_lt hB241.lt
            have hn260 : bx ≠ w235.heap.size := Nat.ne_of_lt hB242.lt
            have hn261 : nb ≠ w235.heap.size := Nat.ne_of_lt hB243.lt
            have hn262 : kb ≠ w235.heap.size := Nat.ne_of_lt hB244.lt
            have hn263 : F.fb ≠ w235.heap.size := Nat.ne_of_lt hB245.lt
            have hn264 : ∀ x ∈ ob (.slice F.pb F.L.length F.pc), w235.heap.size ≠ x := fun x hx => Nat.ne_of_gt (hB246.lie x hx)
            have hn265 : sp.r.rb ≠ w235.heap.size := Nat.ne_of_lt hB247.lt
            have hn266 : sp.r.t.b ≠ w235.heap.size := Nat.ne_of_lt hB248.lt
            have hB267 := Blk.at' hw254 (hB237.alloc _)
            have hB268 := Blk.at' hw254 (hB238.alloc _)
            have hB269 := Blk.at' hw254 (hB239.alloc _)
            have hB270 := Blk.at' hw254 (hB240.alloc _)
            have hB271 := Blk.at' hw254 (hB241.alloc _)
            have hB272 := Blk.at' hw254 (hB242.alloc _)
            have hB273 := Blk.at' hw254 (hB243.alloc _)
            have hB274 := Blk.at' hw254 (hB244.alloc _)
            have hB275 := Blk.at' hw254 (hB245.alloc _)
            have hB276 := OwnV.at' hw254 (hB246.alloc _)
            have hB277 := Blk.at' hw254 (hB247.alloc _)
            have hB278 := Blk.at' hw254 (hB248.alloc _)
            have hB279 : Blk w253 (w235.heap.size) 3 #[.int .i64 0] := by rw [hw254]; exact Blk.new _ _ _
            have hs280 : W.heap.size ≤ w235.heap.size := hE249.size
            have hE281 : Ext [kb] W w253 := by rw [hw254]; exact hE249.alloc _
            refine eff_store (wide_wide.inRound l2) (r := 0) (b := w235.heap.size) (off := 0) (vs := [.int .i64 0]) hS (by kernel_rfl) hB279 (by simp) fun a w282 hw283 hS => ?_
            have hB284 := Blk.at' hw283 (hB267.updNe (Ne.symm hn255) _ _)
            have hB285 := Blk.at' hw283 (hB268.updNe (Ne.symm hn256) _ _)
            have hB286 := Blk.at' hw283 (hB269.updNe (Ne.symm hn257) _ _)
            have hB287 := Blk.at' hw283 (hB270.updNe (Ne.symm hn258) _ _)
            have hB288 := Blk.at' hw283 (hB271.updNe (Ne.symm hn259) _ _)
            have hB289 := Blk.at' hw283 (hB272.updNe (Ne.symm hn260) _ _)
            have hB290 := Blk.at' hw283 (hB273.updNe (Ne.symm hn261) _ _)
            have hB291 := Blk.at' hw283 (hB274.updNe (Ne.symm hn262) _ _)
            have hB292 := Blk.at' hw283 (hB275.updNe (Ne.symm hn263) _ _)
            have hB293 := OwnV.at' hw283 (hB276.updNe hn264 _ _)
            have hB294 := Blk.at' hw283 (hB277.updNe (Ne.symm hn265) _ _)
            have hB295 := Blk.at' hw283 (hB278.updNe (Ne.symm hn266) _ _)
            have hB296 : Blk w282 w235.heap.size 3 (#[.int .i64 0]) := by rw [hw283]; exact hB279.upd _ _
            have hE297 : Ext [kb] W w282 := by rw [hw283]; exact hE281.updIn (.inr hs280) _ _
            refine seg_end ?_
            refine hK252 _ _ ?_
            refine wpIn_seq_k fun K298 hK298 => ?_
            refine wpIn_seq_k fun K299 hK299 => ?_
            refine region 1 (by kernel_rfl) ?_
            refine seg (wide_wide.inRound l2) [.ld (.func (.func 57) #[] #[(Pv bx)])] [1, 5, 7, 9, 10, 11, 12, 13, 14, 15, 82, 16, 87] [w282.cell? ⟨qx, 0, none⟩ = some (.func (.func 57) #[] #[(Pv bx)])] [(1, .int .i64 ↑i), (5, (Pv fx)), (7, (Pv wx)), (9, (Pv sx)), (10, (Pv rx)), (11, (Pv qx)), (12, (Pv nb)), (13, (Pv kb)), (14, .int .i64 sp.at_), (15, (Pv sp.r.t.b)), (82, .bool false), (16, (Pv w235.heap.size)), (87, .func (.func 57) #[] #[(Pv bx)])] 1 0 hS (by kernel_rfl) (by kernel_rfl) (by kernel_rfl) (.cons (hB288.cell 0 rfl) .nil) fun a hS => ?_
            refine seg_end ?_
            refine hK299 _ _ ?_
            refine wpIn_block ?_
            replace hS := hS.keepTo [1, 5, 7, 9, 10, 11, 12, 13, 16, 87] (m' := [(1, .int .i64 ↑i), (5, (Pv fx)), (7, (Pv wx)), (9, (Pv sx)), (10, (Pv rx)), (11, (Pv qx)), (12, (Pv nb)), (13, (Pv kb)), (16, (Pv w235.heap.size)), (87, .func (.func 57) #[] #[(Pv bx)])]) (by kernel_rfl)
            have hib0 := hB296
            have hibn := hs280
            have hCfx9 := hB284
            have hmifx : fx ≠ w235.heap.size := hn255
            have hCwx9 := hB285
            have hmiwx : wx ≠ w235.heap.size := hn256
            have hCsx9 := hB286
            have hmisx : sx ≠ w235.heap.size := hn257
            have hCrx9 := hB287
            have hmirx : rx ≠ w235.heap.size := hn258
            have hCqx9 := hB288
            have hmiqx : qx ≠ w235.heap.size := hn259
            have hCbx9 := hB289
            have hmibx : bx ≠ w235.heap.size := hn260
            have hCnb9 := hB290
            have hminb : nb ≠ w235.heap.size := hn261
            have hCkb9 := hB291
            have hmikb : kb ≠ w235.heap.size := hn262
            obtain ⟨ib, hibe⟩ : ∃ x, x = w235.heap.size := ⟨_, rfl⟩
            rw [← hibe] at hS hib0 hibn hmifx hmiwx hmisx hmirx hmiqx hmibx hminb hmikb
            have hEi9 := hE297
            have hE09 : Ext [] w w282 := hEW0.trans hEi9 (by intro b hb; obtain rfl := (by simpa using hb : b = kb); exact .inr (Nat.le_trans hE0l.size hkbn))
            have hFi9 := hF.ext0 hE09
            have hreci := hrec.ext hEi9 (by simpa using fun h => hnl (by simp [h]))
            refine range_in (gf := 57) (lb := #[pv bx]) (enc := encW) (xs := ((walk r.t 0).filter isLeaf)) (T := fun b => b = bx ∨ r.t.Foot b)
              (fun pre Cx W => Cx = [ib] ∧ Blk W ib 3 #[.int .i64 (pre.length : Int)])
              (fun _ _ _ _ => False) [ib] (fun q => [(1, .int .i64 ↑i), (5, (Pv fx)), (7, (Pv wx)), (9, (Pv sx)), (10, (Pv rx)), (11, (Pv qx)), (12, (Pv nb)), (13, (Pv kb)), (16, (Pv ib)), (17, .int .i64 q.1), (18, (Pv q.2.b))]) hS hreci rfl Try.call57 ?_ ?_ ?_ ?_ (fun _ => rfl) rfl ?_ ?_ ?_ ?_ ?_ ?_ ?_
            · intro W hEW _
              exact Leaves1_any (hCbx9.ext hEW (by simp)) ((hFi9.ok.one r hrm).ok.ext hEW r.t (by simp))
            · rintro b (rfl | hb)
              · exact hCbx9.lt
              · exact (hFi9.ok.one r hrm).ok.foot_lt hb
            · intro b hb hT
              obtain rfl : b = ib := by simpa using hb
              rcases hT with hT | hT
              · exact hmibx hT.symm
              · exact (hFi9.ok.one r hrm).ok.not_foot hib0 (by decide) (by decide) hT
            · intro b hb
              obtain rfl : b = ib := by simpa using hb
              exact hib0.lt
            · rintro s Cx M W W' ⟨rfl, h1⟩ hE hM
              exact ⟨rfl, h1.ext hE (fun hm => (hM _ hm).2 (by simp))⟩
            · intro c s Cx M W W' h; exact h.elim
            · exact ⟨rfl, hib0⟩
            · intro l3 q a' W3 K hS hK
              refine wpIn_seq_k fun K300 hK300 => ?_
              refine region 1 (by kernel_rfl) ?_
              refine seg (wide_wide.inRound l3) [.p] [1, 5, 7, 9, 10, 11, 12, 13, 16, 88, 89, 17] [] [(1, .int .i64 ↑i), (5, (Pv fx)), (7, (Pv wx)), (9, (Pv sx)), (10, (Pv rx)), (11, (Pv qx)), (12, (Pv nb)), (13, (Pv kb)), (16, (Pv ib)), (88, .int .i64 q.1), (89, q.2.ptr), (17, .int .i64 q.1)] 1 0 hS (by kernel_rfl) (by kernel_rfl) (by kernel_rfl) .nil fun a hS => ?_
              refine seg_end ?_
              refine hK300 _ _ ?_
              refine region 1 (by kernel_rfl) ?_
              refine seg (wide_wide.inRound l3) [.p] [1, 5, 7, 9, 10, 11, 12, 13, 16, 88, 89, 17, 18] [] [(1, .int .i64 ↑i), (5, (Pv fx)), (7, (Pv wx)), (9, (Pv sx)), (10, (Pv rx)), (11, (Pv qx)), (12, (Pv nb)), (13, (Pv kb)), (16, (Pv ib)), (88, .int .i64 q.1), (89, q.2.ptr), (17, .int .i64 q.1), (18, q.2.ptr)] 1 0 hS (by kernel_rfl) (by kernel_rfl) (by kernel_rfl) .nil fun a hS => ?_
              refine seg_end ?_
              exact hK _ (hS.keepTo [1, 5, 7, 9, 10, 11, 12, 13, 16, 17, 18] (by kernel_rfl))
            · rintro l3 pr q post3 Cx V a hxs3 ⟨rfl, hibV⟩ hlieV hfrV hnl3 hrec3 hEV hS
              have hjl : pr.length < lw.length := by
                have := congrArg List.length hxs3
                rw [hxl] at this
                simp at this
                omega
              obtain ⟨⟨so, po_⟩, hso⟩ : ∃ q, lw[pr.length]? = some q := ⟨_, List.getElem?_eq_getElem hjl⟩
              obtain rfl : q = (so.at_, so.r.t) := by
                have h1 : ((walk r.t 0).filter isLeaf)[pr.length]? = some q := by rw [hxs3]; simp
                rw [← hxs] at h1
                simp [hso] at h1
                exact h1.symm
              have hom := hin _ (List.mem_of_getElem? hso)
              have hEV0 : Ext [] w V := hE09.trans hEV (by intro b hb; obtain rfl := (by simpa using hb : b = ib); exact .inr (Nat.le_trans hEW0.size hibn))
              have hFV := hF.ext0 hEV0
              have hoi := (hFV.ok.one _ hom).ki
              have hoL := hFV.ok.at hom
              have hOV := hO.ext0' hEV0
              have hVV : Ext [ib] V V := Ext.refl _ _
              replace hS : St 141 [] [(1, .int .i64 ↑i), (5, (Pv fx)), (7, (Pv wx)), (9, (Pv sx)), (10, (Pv rx)), (11, (Pv qx)), (12, (Pv nb)), (13, (Pv kb)), (16, (Pv ib)), (17, .int .i64 so.at_), (18, (Pv so.r.t.b))] a := hS
              have hCfxV := hCfx9.ext hEV (by simpa using hmifx)
              have hCwxV := hCwx9.ext hEV (by simpa using hmiwx)
              have hgpV : ∀ x ∈ ob (.slice F.pb F.L.length F.pc), ib ≠ x := hFV.P.ne hibV (by decide)
              have hrowo := (hFV.ok.one so.r hom).row
              have hBo : Blk V so.r.rb 40 #[.int .i64 so.r.k, .int .i64 ↑so.r.i, .int .i64 so.r.t.kd, .int .i64 so.r.t.nn, .int .i64 so.r.t.lk, .int .i64 so.r.t.ls, .int .i64 so.r.t.ll, .int .i64 so.r.t.lr, so.r.kv, .int .i64 so.r.t.tt] := (hFV.ok.one so.r hom).blk
              have hTo : Blk V so.r.t.b 106 #[.pointer (some ⟨(sOf F.s0 F.s1 so.r.k), 0, none⟩), .int .i64 so.r.t.num, .int .i64 so.r.t.kd, .int .i64 so.r.t.nn, .int .i64 so.r.t.lk, .int .i64 so.r.t.ls, .int .i64 so.r.t.ll, .int .i64 so.r.t.lr, so.r.t.ks, .int .i64 so.r.t.wd, .int .i64 so.r.t.lf, .int .i64 so.r.t.tt, .bool so.r.t.fl] := (hFV.ok.one so.r hom).ok.blk
              refine wpIn_block ?_
              refine wpIn_seq_k fun K301 hK301 => ?_
              refine wpIn_seq_k fun K302 hK302 => ?_
              refine region_fn2 (wide_wide.inRound l3) [.q (.ld (.int .i64 ↑pr.length)), .q (.ld ((.slice wb lw.length wc))), .q (.run (.int .i64 ↑lw.length)), .q (.as (.bool false)), .q .p, .q .p, .q (.ld ((.slice wb lw.length wc))), .q (.ld (.int .i64 ↑pr.length)), .q (.run (.pointer (some ⟨bof (.slice wb lw.length wc), 0 + pr.length * 3, none⟩))), .q .p, .q (.ld (.int .i64 so.at_)), .q (.as (.bool false)), .q .p, .q .p, .q .p, .q (.ld ((Pv F.fb))), .q .p, .q .p, .q (.ld (.slice F.pb F.L.length F.pc)), .q (.ld ((.slice wb lw.length wc))), .q (.ld (.int .i64 ↑pr.length)), .q (.run (.pointer (some ⟨bof (.slice wb lw.length wc), 0 + pr.length * 3, none⟩))), .q .p, .q (.ld ((Pv so.r.rb))), .q .p, .q .p, .q (.ld (.int .i64 ↑so.r.i)), .q (.run (.pointer (some ⟨bof (.slice F.pb F.L.length F.pc), 0 + so.r.i * 1, none⟩))), .q (.ld ((Pv so.r.t.b))), .q (.run (.bool false)), .q .p] [0, 0, 0, 0, 0, 0, 0, 0, 0, 0, 0, 0, 0, 0, 0, 0, 0, 0, 0, 0, 0, 0, 0, 0, 0, 0, 0, 0, 0, 0, 0] [0, 0, 0, 0, 0, 0, 0, 0, 0, 0, 0, 0, 0, 0, 0, 0, 0, 0, 0, 0, 0, 0, 0, 0, 0, 0, 0, 0, 0, 0, 0] [0, 0, 2, 7, 15, 31, 31, 31, 223, 479, 991, 2047, 4095, 8191, 16383, 16383, 49151, 114687, 245759, 16383, 16383, 1589247, 3686399, 7880703, 16269311, 33046527, 66600959, 134201343, 268419071, 536870911, 1073741823] [] 0 ([(1, .int .i64 ↑i), (5, (Pv fx)), (7, (Pv wx)), (9, (Pv sx)), (10, (Pv rx)), (11, (Pv qx)), (12, (Pv nb)), (13, (Pv kb)), (16, (Pv ib)), (17, .int .i64 so.at_), (18, (Pv so.r.t.b)), (90, .int .i64 ↑pr.length), (91, (.slice wb lw.length wc)), (92, .int .i64 ↑lw.length), (93, .bool false), (94, .bool false), (95, .int .i64 so.at_), (96, (.slice wb lw.length wc)), (97, .int .i64 ↑pr.length), (98, .pointer (some ⟨bof (.slice wb lw.length wc), 0 + pr.length * 3, none⟩)), (99, .pointer (some ⟨bof (.slice wb lw.length wc), 0 + pr.length * 3 + 1, none⟩)), (100, .int .i64 so.at_), (101, .bool false), (102, .bool false), (103, .bool false), (104, (Pv so.r.t.b)), (105, (Pv F.fb)), (106, (Pv F.fb)), (107, .pointer (some ⟨F.fb, 2, none⟩)), (108, .slice F.pb F.L.length F.pc), (109, (.slice wb lw.length wc)), (110, .int .i64 ↑pr.length), (111, .pointer (some ⟨bof (.slice wb lw.length wc), 0 + pr.length * 3, none⟩)), (112, .pointer (some ⟨bof (.slice wb lw.length wc), 0 + pr.length * 3, none⟩)), (113, (Pv so.r.rb)), (114, (Pv so.r.rb)), (115, .pointer (some ⟨so.r.rb, 1, none⟩)), (116, .int .i64 ↑so.r.i), (117, .pointer (some ⟨bof (.slice F.pb F.L.length F.pc), 0 + so.r.i * 1, none⟩)), (118, (Pv so.r.t.b)), (119, .bool false), (120, .bool false)]) [V.drew] V.drew (fun w' => [(0, [w'.cell? ⟨ib, 0, none⟩ = some (.int .i64 ↑pr.length)]), (1, [w'.cell? ⟨wx, 0, none⟩ = some ((.slice wb lw.length wc))]), (2, [Sem.run Try.prog (vS (Builtin.len_ #[28] 3 #[(.slice wb lw.length wc)])) w' = .ok (.value (.int .i64 ↑lw.length)) w']), (3, [Value.bool (decide ((↑pr.length : Int) ≥ ↑lw.length)) = .bool false]), (6, [w'.cell? ⟨wx, 0, none⟩ = some ((.slice wb lw.length wc))]), (7, [w'.cell? ⟨ib, 0, none⟩ = some (.int .i64 ↑pr.length)]), (8, [Sem.run Try.prog (vS (Instr.indexAt 28 ((.slice wb lw.length wc)) (.int .i64 ↑pr.length))) w' = .ok (.value (.pointer (some ⟨bof (.slice wb lw.length wc), 0 + pr.length * 3, none⟩))) w']), (10, [w'.cell? ⟨bof (.slice wb lw.length wc), 0 + pr.length * 3 + 1, none⟩ = some (.int .i64 so.at_)]), (11, [Value.bool (((so.at_ : Int) != so.at_)) = .bool false]), (15, [w'.cell? ⟨fx, 0, none⟩ = some ((Pv F.fb))]), (18, [w'.cell? ⟨F.fb, 2, none⟩ = some (.slice F.pb F.L.length F.pc)]), (19, [w'.cell? ⟨wx, 0, none⟩ = some ((.slice wb lw.length wc))]), (20, [w'.cell? ⟨ib, 0, none⟩ = some (.int .i64 ↑pr.length)]), (21, [Sem.run Try.prog (vS (Instr.indexAt 28 ((.slice wb lw.length wc)) (.int .i64 ↑pr.length))) w' = .ok (.value (.pointer (some ⟨bof (.slice wb lw.length wc), 0 + pr.length * 3, none⟩))) w']), (23, [w'.cell? ⟨bof (.slice wb lw.length wc), 0 + pr.length * 3, none⟩ = some ((Pv so.r.rb))]), (26, [w'.cell? ⟨so.r.rb, 1, none⟩ = some (.int .i64 ↑so.r.i)]), (27, [Sem.run Try.prog (vS (Instr.indexAt 32 (.slice F.pb F.L.length F.pc) (.int .i64 ↑so.r.i))) w' = .ok (.value (.pointer (some ⟨bof (.slice F.pb F.L.length F.pc), 0 + so.r.i * 1, none⟩))) w']), (28, [w'.cell? ⟨bof (.slice F.pb F.L.length F.pc), 0 + so.r.i * 1, none⟩ = some ((Pv so.r.t.b))]), (29, [Sem.run Try.prog (vS (do eqGuard .neq 47 (.tmp 104) (.tmp 118) ((Pv so.r.t.b)) ((Pv so.r.t.b)); binOp .neq 47 ((Pv so.r.t.b)) ((Pv so.r.t.b)))) w' = .ok (.value (.bool false)) w'])]) [1, 5, 7, 9, 10, 11, 12, 13, 16, 17, 18] [] hS (by kernel_rfl) (by kernel_rfl) (by kernel_rfl) (by kernel_rfl) (fun _ => by kernel_rfl) (by kernel_rfl) (by kernel_rfl) (by kernel_rfl) ?_ ?_ ?_
              · intro e w' hw
                refine (.cons ?_ (.cons ?_ (.cons ?_ (.cons ?_ (.cons ?_ (.cons ?_ (.cons ?_ (.cons ?_ (.cons ?_ (.cons ?_ (.cons ?_ (.cons ?_ (.cons ?_ (.cons ?_ (.cons ?_ (.cons ?_ (.cons ?_ (.cons ?_ (.cons ?_ .nil)))))))))))))))))))
                · intro h1 h2
                  obtain rfl : e = 0 := Nat.le_antisymm h2 h1
                  obtain rfl : w' = V.drew := hw.trans (by kernel_rfl)
                  exact (.cons ((hibV.drew : Blk V.drew ib 3 (#[.int .i64 ↑pr.length])).cell 0 rfl) .nil)
                · intro h1 h2
                  obtain rfl : e = 0 := Nat.le_antisymm h2 h1
                  obtain rfl : w' = V.drew := hw.trans (by kernel_rfl)
                  exact (.cons ((hCwxV.drew : Blk V.drew wx 28 (#[(.slice wb lw.length wc)])).cell 0 rfl) .nil)
                · exact fun _ _ => (.cons (run_len_own hO (by kernel_rfl)) .nil)
                · exact fun _ _ => (.cons (as_f (by omega)) .nil)
                · intro h1 h2
                  obtain rfl : e = 0 := Nat.le_antisymm h2 h1
                  obtain rfl : w' = V.drew := hw.trans (by kernel_rfl)
                  exact (.cons ((hCwxV.drew : Blk V.drew wx 28 (#[(.slice wb lw.length wc)])).cell 0 rfl) .nil)
                · intro h1 h2
                  obtain rfl : e = 0 := Nat.le_antisymm h2 h1
                  obtain rfl : w' = V.drew := hw.trans (by kernel_rfl)
                  exact (.cons ((hibV.drew : Blk V.drew ib 3 (#[.int .i64 ↑pr.length])).cell 0 rfl) .nil)
                · exact fun _ _ => (.cons (ix_own (j := pr.length) hO (by kernel_rfl) (by kernel_rfl) rfl hjl) .nil)
                · intro h1 h2
                  obtain rfl : e = 0 := Nat.le_antisymm h2 h1
                  obtain rfl : w' = V.drew := hw.trans (by kernel_rfl)
                  exact (.cons (hOV.cellAt _ (by have h := spc_at lw pr.length 1 _ hso (by omega); simpa [Rf.ptr] using h)) .nil)
                · exact fun _ _ => (.cons (as_ne_f (rfl)) .nil)
                · intro h1 h2
                  obtain rfl : e = 0 := Nat.le_antisymm h2 h1
                  obtain rfl : w' = V.drew := hw.trans (by kernel_rfl)
                  exact (.cons ((hCfxV.drew : Blk V.drew fx 24 (#[(Pv F.fb)])).cell 0 rfl) .nil)
                · intro h1 h2
                  obtain rfl : e = 0 := Nat.le_antisymm h2 h1
                  obtain rfl : w' = V.drew := hw.trans (by kernel_rfl)
                  exact (.cons ((hFV.f.drew : Blk V.drew F.fb 35 (#[(Pv F.s0), (Pv F.s1), .slice F.pb F.L.length F.pc, .slice F.qb F.L.length F.qc, .slice F.bb F.bn F.bc])).cell 2 rfl) .nil)
                · intro h1 h2
                  obtain rfl : e = 0 := Nat.le_antisymm h2 h1
                  obtain rfl : w' = V.drew := hw.trans (by kernel_rfl)
                  exact (.cons ((hCwxV.drew : Blk V.drew wx 28 (#[(.slice wb lw.length wc)])).cell 0 rfl) .nil)
                · intro h1 h2
                  obtain rfl : e = 0 := Nat.le_antisymm h2 h1
                  obtain rfl : w' = V.drew := hw.trans (by kernel_rfl)
                  exact (.cons ((hibV.drew : Blk V.drew ib 3 (#[.int .i64 ↑pr.length])).cell 0 rfl) .nil)
                · exact fun _ _ => (.cons (ix_own (j := pr.length) hO (by kernel_rfl) (by kernel_rfl) rfl hjl) .nil)
                · intro h1 h2
                  obtain rfl : e = 0 := Nat.le_antisymm h2 h1
                  obtain rfl : w' = V.drew := hw.trans (by kernel_rfl)
                  exact (.cons (hOV.cellAt _ (by have h := spc_at lw pr.length 0 _ hso (by omega); simpa [Rf.ptr] using h)) .nil)
                · intro h1 h2
                  obtain rfl : e = 0 := Nat.le_antisymm h2 h1
                  obtain rfl : w' = V.drew := hw.trans (by kernel_rfl)
                  exact (.cons ((hBo.drew : Blk V.drew so.r.rb 40 (#[.int .i64 so.r.k, .int .i64 ↑so.r.i, .int .i64 so.r.t.kd, .int .i64 so.r.t.nn, .int .i64 so.r.t.lk, .int .i64 so.r.t.ls, .int .i64 so.r.t.ll, .int .i64 so.r.t.lr, so.r.kv, .int .i64 so.r.t.tt])).cell 1 rfl) .nil)
                · exact fun _ _ => (.cons (ix_own (j := so.r.i) (hFV.P) (by kernel_rfl) (by kernel_rfl) rfl hoi) .nil)
                · intro h1 h2
                  obtain rfl : e = 0 := Nat.le_antisymm h2 h1
                  obtain rfl : w' = V.drew := hw.trans (by kernel_rfl)
                  exact (.cons ((hFV.P.drew : OwnV V.drew 47 1 (.slice F.pb F.L.length F.pc) F.L.length (F.L.map fun r => r.t.ptr)).cellAt _ (by simp [hoL, Tr.ptr])) .nil)
                · intro h1 h2
                  obtain rfl : e = 0 := Nat.le_antisymm h2 h1
                  obtain rfl : w' = V.drew := hw.trans (by kernel_rfl)
                  exact (.cons (bin_ptr_neq (E := 106) (by kernel_rfl) ⟨12, by kernel_rfl⟩ (hTo.drew) (hTo.drew) (by simp)) .nil)
              · refine .nil
              rintro a w304 hS hw305
              replace hw305 : w304 = V.drew := hw305.trans (by kernel_rfl)
              have hB306 := Blk.at' hw305 (hCfxV.drew)
              have hB307 := Blk.at' hw305 (hCwxV.drew)
              have hB308 := Blk.at' hw305 (hibV.drew)
              have hB309 := Blk.at' hw305 (hFV.f.drew)
              have hB310 := OwnV.at' hw305 (hFV.P.drew)
              have hB311 := Blk.at' hw305 (hBo.drew)
              have hB312 := Blk.at' hw305 (hTo.drew)
              have hE313 : Ext [ib] V w304 := by rw [hw305]; exact hVV.drew
              replace hS := hS.keepTo [1, 5, 7, 9, 10, 11, 12, 13, 16, 17, 18, 120] (m' := [(1, .int .i64 ↑i), (5, (Pv fx)), (7, (Pv wx)), (9, (Pv sx)), (10, (Pv rx)), (11, (Pv qx)), (12, (Pv nb)), (13, (Pv kb)), (16, (Pv ib)), (17, .int .i64 so.at_), (18, (Pv so.r.t.b)), (120, .bool false)]) (by kernel_rfl)
              refine hK302 _ _ ?_
              refine cond_f hS rfl ?_
              refine wpIn_skip ?_
              refine hK301 _ _ ?_
              refine region 3 (by kernel_rfl) ?_
              refine seg (wide_wide.inRound l3) [.ld (.int .i64 ↑pr.length), .as (.int .i64 (↑pr.length + 1))] [1, 5, 7, 9, 10, 11, 12, 13, 16, 17, 18, 120, 122] [w304.cell? ⟨ib, 0, none⟩ = some (.int .i64 ↑pr.length), Value.int .i64 (IntKind.i64.wrap (↑pr.length + 1)) = .int .i64 (↑pr.length + 1)] [(1, .int .i64 ↑i), (5, (Pv fx)), (7, (Pv wx)), (9, (Pv sx)), (10, (Pv rx)), (11, (Pv qx)), (12, (Pv nb)), (13, (Pv kb)), (16, (Pv ib)), (17, .int .i64 so.at_), (18, (Pv so.r.t.b)), (120, .bool false), (122, .int .i64 (↑pr.length + 1))] 2 1 hS (by kernel_rfl) (by kernel_rfl) (by kernel_rfl) (.cons (hB308.cell 0 rfl) (.cons (as_i64 (by omega)) .nil)) fun a hS => ?_
              refine eff_store (wide_wide.inRound l3) (r := 0) (b := ib) (off := 0) (vs := [.int .i64 (↑pr.length + 1)]) hS (by kernel_rfl) hB308 (by simp) fun a w314 hw315 hS => ?_
              have hB316 := Blk.at' hw315 (hB306.updNe (Ne.symm hmifx) _ _)
              have hB317 := Blk.at' hw315 (hB307.updNe (Ne.symm hmiwx) _ _)
              have hB318 : Blk w314 ib 3 (#[.int .i64 (↑pr.length + 1)]) := by rw [hw315]; exact hB308.upd _ _
              have hB319 := Blk.at' hw315 (hB309.updNe (Blk.ne_type hB308 hB309 (by decide)) _ _)
              have hB320 := OwnV.at' hw315 (hB310.updNe hgpV _ _)
              have hB321 := Blk.at' hw315 (hB311.updNe (Blk.ne_type hB308 hB311 (by decide)) _ _)
              have hB322 := Blk.at' hw315 (hB312.updNe (Blk.ne_type hB308 hB312 (by decide)) _ _)
              have hE323 : Ext [ib] V w314 := by rw [hw315]; exact hE313.updIn (.inl (by simp)) _ _
              refine seg_end ?_
              refine inBlock_normal ?_
              exact left_normal (C' := [ib]) hE323 (Fresh.refl _ _) (hlieV.ext hE323) ⟨rfl, by simpa using hB318⟩
            · rintro Cx V2 a hEV2 hfr2 hlie2 ⟨rfl, hib2⟩ hS
              rw [hxl] at hib2
              have hEi2 : Ext [kb] W V2 := hEi9.trans hEV2 (by intro b hb; obtain rfl := (by simpa using hb : b = ib); exact .inr hibn)
              replace hS : St 141 [] [(1, .int .i64 ↑i), (5, (Pv fx)), (7, (Pv wx)), (9, (Pv sx)), (10, (Pv rx)), (11, (Pv qx)), (12, (Pv nb)), (13, (Pv kb)), (16, (Pv ib))] a := hS.keepTo [1, 5, 7, 9, 10, 11, 12, 13, 16] (by kernel_rfl)
              have hCfx2 := hCfx9.ext hEV2 (by simpa using hmifx)
              have hCwx2 := hCwx9.ext hEV2 (by simpa using hmiwx)
              have hCsx2 := hCsx9.ext hEV2 (by simpa using hmisx)
              have hCrx2 := hCrx9.ext hEV2 (by simpa using hmirx)
              have hCqx2 := hCqx9.ext hEV2 (by simpa using hmiqx)
              have hCbx2 := hCbx9.ext hEV2 (by simpa using hmibx)
              have hCnb2 := hCnb9.ext hEV2 (by simpa using hminb)
              have hCkb2 := hCkb9.ext hEV2 (by simpa using hmikb)
              refine inBlock_normal ?_
              refine hK298 _ _ ?_
              refine wpIn_seq_k fun K324 hK324 => ?_
              refine region 4 (by kernel_rfl) ?_
              refine seg (wide_wide.inRound l2) [.ld (.int .i64 ↑lw.length), .ld ((.slice wb lw.length wc)), .run (.int .i64 ↑lw.length), .as (.bool false)] [1, 5, 7, 9, 10, 11, 12, 13, 16, 126] [V2.cell? ⟨ib, 0, none⟩ = some (.int .i64 ↑lw.length), V2.cell? ⟨wx, 0, none⟩ = some ((.slice wb lw.length wc)), Sem.run Try.prog (vS (Builtin.len_ #[28] 3 #[(.slice wb lw.length wc)])) V2 = .ok (.value (.int .i64 ↑lw.length)) V2, Value.bool (((↑lw.length : Int) != ↑lw.length)) = .bool false] [(1, .int .i64 ↑i), (5, (Pv fx)), (7, (Pv wx)), (9, (Pv sx)), (10, (Pv rx)), (11, (Pv qx)), (12, (Pv nb)), (13, (Pv kb)), (16, (Pv ib)), (126, .bool false)] 4 0 hS (by kernel_rfl) (by kernel_rfl) (by kernel_rfl) (.cons (hib2.cell 0 rfl) (.cons (hCwx2.cell 0 rfl) (.cons (run_len_own hO (by kernel_rfl)) (.cons (as_ne_f (rfl)) .nil)))) fun a hS => ?_
              refine seg_end ?_
              refine hK324 _ _ ?_
              refine cond_f hS rfl ?_
              refine wpIn_skip ?_
              refine inBlock_normal ?_
              exact left_normal (C' := [kb]) hEi2 (Fresh.refl _ _) (hlieW.ext hEi2) ⟨rfl, by simpa using hCkb2⟩
            · intro c pre Cx W a _ _ _ _ h; exact h.elim
          · -- ((↑pre.length + 1 : Int) == 2) is false
            replace hb251 := test_eq_f hb251
            refine wpIn_skip ?_
            refine inBlock_normal ?_
            exact left_normal (C' := [kb]) hE249 (Fresh.refl _ _) (hlieW.ext hE249) ⟨rfl, by simpa using hB244⟩
      · rintro Cx w10 a hE910 hfr10 hlie10 hD10 ⟨rfl, hkb10⟩ hS
        rw [hxl] at hkb10
        have hnk : ∀ {T : TypeId} {cs : Array Value} {b : Nat}, Blk w196 b T cs → b ≠ kb → b ∉ [kb] := fun _ h2 hm => h2 (by simpa using hm)
        have hEl10 : Ext [] w154 w10 := hE9.trans hE910 (by intro b hb; obtain rfl := (by simpa using hb : b = kb); exact .inr hkbn)
        obtain ⟨D0, hD0e⟩ : ∃ D, D = w196.heap.size := ⟨_, rfl⟩
        rw [← hD0e] at hD10 hS
        have hD0n : w154.heap.size ≤ D0 := by rw [hD0e]; exact hl9
        have hDs10 : ∀ D ∈ D0 :: Ds, Dfr w10 D := fun D hD => by
          rcases List.mem_cons.1 hD with rfl | hD
          · exact hD10
          · exact (hD9 D hD).ext hE910 (by simpa using (hD9 D hD).ne_blk hkb0)
        have hnd2 : (D0 :: Ds).Nodup := List.nodup_cons.2 ⟨fun h => by have := (hD9 D0 h).lt; omega, hnd⟩
        have hDn2 : ∀ D ∈ D0 :: Ds, w154.heap.size ≤ D := fun D hD => by
          rcases List.mem_cons.1 hD with rfl | hD
          · exact hD0n
          · exact hDn D hD
        replace hS : St 141 ((D0 :: Ds).map dmark) [(1, .int .i64 ↑i), (5, (Pv fx)), (7, (Pv wx)), (9, (Pv sx)), (10, (Pv rx)), (11, (Pv qx)), (12, (Pv nb)), (13, (Pv kb))] a := hS.keepTo [1, 5, 7, 9, 10, 11, 12, 13] (by kernel_rfl)
        have hBfx10 := hBfx9.ext hE910 (by simpa using hnefx)
        have hBwx10 := hBwx9.ext hE910 (by simpa using hnewx)
        have hBsx10 := hBsx9.ext hE910 (by simpa using hnesx)
        have hBrx10 := hBrx9.ext hE910 (by simpa using hnerx)
        have hBqx10 := hBqx9.ext hE910 (by simpa using hneqx)
        have hBbx10 := hBbx9.ext hE910 (by simpa using hnebx)
        have hBnb10 := hBnb9.ext hE910 (by simpa using hnenb)
        refine inBlock_normal ?_
        refine hK210 _ _ ?_
        refine wpIn_seq_k fun K325 hK325 => ?_
        refine region 13 (by kernel_rfl) ?_
        refine seg wide_wide [.ld (.int .i64 ↑lw.length), .ld ((.slice wb lw.length wc)), .run (.int .i64 ↑lw.length), .as (.bool false), .p, .no, .no, .no, .no, .no, .no, .no, .p] [1, 5, 7, 9, 10, 11, 12, 13, 139] [w10.cell? ⟨kb, 0, none⟩ = some (.int .i64 ↑lw.length), w10.cell? ⟨wx, 0, none⟩ = some ((.slice wb lw.length wc)), Sem.run Try.prog (vS (Builtin.len_ #[28] 3 #[(.slice wb lw.length wc)])) w10 = .ok (.value (.int .i64 ↑lw.length)) w10, Value.bool (((↑lw.length : Int) != ↑lw.length)) = .bool false] [(1, .int .i64 ↑i), (5, (Pv fx)), (7, (Pv wx)), (9, (Pv sx)), (10, (Pv rx)), (11, (Pv qx)), (12, (Pv nb)), (13, (Pv kb)), (139, .bool false)] 13 0 hS (by kernel_rfl) (by kernel_rfl) (by kernel_rfl) (.cons (hkb10.cell 0 rfl) (.cons (hBwx10.cell 0 rfl) (.cons (run_len_own hO (by kernel_rfl)) (.cons (as_ne_f (rfl)) .nil)))) fun a hS => ?_
        refine seg_end ?_
        refine hK325 _ _ ?_
        refine cond_f hS rfl ?_
        refine wpIn_skip ?_
        refine inBlock_normal ?_
        refine hK171 _ _ ?_
        refine wpIn_seq_k fun K326 hK326 => ?_
        refine wpIn_seq_k fun K327 hK327 => ?_
        refine region 1 (by kernel_rfl) ?_
        refine seg wide_wide [.ld (.int .i64 0)] [1, 5, 7, 9, 10, 11, 12, 13, 139, 140] [w10.cell? ⟨nb, 0, none⟩ = some (.int .i64 0)] [(1, .int .i64 ↑i), (5, (Pv fx)), (7, (Pv wx)), (9, (Pv sx)), (10, (Pv rx)), (11, (Pv qx)), (12, (Pv nb)), (13, (Pv kb)), (139, .bool false), (140, .int .i64 0)] 1 0 hS (by kernel_rfl) (by kernel_rfl) (by kernel_rfl) (.cons (hBnb10.cell 0 rfl) .nil) fun a hS => ?_
        refine seg_end ?_
        refine hK327 _ _ ?_
        refine region 2 (by kernel_rfl) ?_
        refine eff_box wide_wide (r := 1) (cs := #[.int .i64 0]) (T := 3) (d := (some 12)) hS (by kernel_rfl) fun a w328 hw329 hS => ?_
        have hn330 : fx ≠ w10.heap.size := Nat.ne_of_lt hBfx10.lt
        have hn331 : wx ≠ w10.heap.size := Nat.ne_of_lt hBwx10.lt
        have hn332 : sx ≠ w10.heap.size := Nat.ne_of_lt hBsx10.lt
        have hn333 : rx ≠ w10.heap.size := Nat.ne_of_lt hBrx10.lt
        have hn334 : qx ≠ w10.heap.size := Nat.ne_of_lt hBqx10.lt
        have hn335 : bx ≠ w10.heap.size := Nat.ne_of_lt hBbx10.lt
        have hn336 : nb ≠ w10.heap.size := Nat.ne_of_lt hBnb10.lt
        have hn337 : kb ≠ w10.heap.size := Nat.ne_of_lt hkb10.lt
        have hB338 := Blk.at' hw329 (hBfx10.alloc _)
        have hB339 := Blk.at' hw329 (hBwx10.alloc _)
        have hB340 := Blk.at' hw329 (hBsx10.alloc _)
        have hB341 := Blk.at' hw329 (hBrx10.alloc _)
        have hB342 := Blk.at' hw329 (hBqx10.alloc _)
        have hB343 := Blk.at' hw329 (hBbx10.alloc _)
        have hB344 := Blk.at' hw329 (hBnb10.alloc _)
        have hB345 := Blk.at' hw329 (hkb10.alloc _)
        have hX346 : Ext [] w10 w328 := by rw [hw329]; exact (Ext.refl _ _).alloc _
        have hG347 : ∀ D ∈ D0 :: Ds, Dfr w328 D := fun D hD => (hDs10 D hD).ext hX346 (by simp)
        have hB348 : Blk w328 (w10.heap.size) 3 #[.int .i64 0] := by rw [hw329]; exact Blk.new _ _ _
        have hs349 : w154.heap.size ≤ w10.heap.size := hEl10.size
        have hE350 : Ext [] w154 w328 := by rw [hw329]; exact hEl10.alloc _
        refine eff_store wide_wide (r := 0) (b := w10.heap.size) (off := 0) (vs := [.int .i64 0]) hS (by kernel_rfl) hB348 (by simp) fun a w351 hw352 hS => ?_
        have hB353 := Blk.at' hw352 (hB338.updNe (Ne.symm hn330) _ _)
        have hB354 := Blk.at' hw352 (hB339.updNe (Ne.symm hn331) _ _)
        have hB355 := Blk.at' hw352 (hB340.updNe (Ne.symm hn332) _ _)
        have hB356 := Blk.at' hw352 (hB341.updNe (Ne.symm hn333) _ _)
        have hB357 := Blk.at' hw352 (hB342.updNe (Ne.symm hn334) _ _)
        have hB358 := Blk.at' hw352 (hB343.updNe (Ne.symm hn335) _ _)
        have hB359 := Blk.at' hw352 (hB344.updNe (Ne.symm hn336) _ _)
        have hB360 := Blk.at' hw352 (hB345.updNe (Ne.symm hn337) _ _)
        have hB361 : Blk w351 w10.heap.size 3 (#[.int .i64 0]) := by rw [hw352]; exact hB348.upd _ _
        have hX362 : Ext [w10.heap.size] w328 w351 := by rw [hw352]; exact (Ext.refl _ _).updIn (.inl (by simp)) _ _
        have hG363 : ∀ D ∈ D0 :: Ds, Dfr w351 D := fun D hD => (hG347 D hD).ext hX362 (by simpa using (hG347 D hD).ne_blk hB348)
        have hE364 : Ext [] w154 w351 := by rw [hw352]; exact hE350.updIn (.inr hs349) _ _
        refine seg_end ?_
        refine hK326 _ _ ?_
        refine region 3 (by kernel_rfl) ?_
        refine seg wide_wide [.ld (.int .i64 0), .p] [1, 5, 7, 9, 10, 11, 12, 13, 139, 140, 41] [w351.cell? ⟨w10.heap.size, 0, none⟩ = some (.int .i64 0)] [(1, .int .i64 ↑i), (5, (Pv fx)), (7, (Pv wx)), (9, (Pv sx)), (10, (Pv rx)), (11, (Pv qx)), (12, (Pv w10.heap.size)), (13, (Pv kb)), (139, .bool false), (140, .int .i64 0), (41, .int .i64 1)] 2 1 hS (by kernel_rfl) (by kernel_rfl) (by kernel_rfl) (.cons (hB361.cell 0 rfl) .nil) fun a hS => ?_
        refine eff_store wide_wide (r := 0) (b := w10.heap.size) (off := 0) (vs := [.int .i64 1]) hS (by kernel_rfl) hB361 (by simp) fun a w365 hw366 hS => ?_
        have hB367 := Blk.at' hw366 (hB353.updNe (Ne.symm hn330) _ _)
        have hB368 := Blk.at' hw366 (hB354.updNe (Ne.symm hn331) _ _)
        have hB369 := Blk.at' hw366 (hB355.updNe (Ne.symm hn332) _ _)
        have hB370 := Blk.at' hw366 (hB356.updNe (Ne.symm hn333) _ _)
        have hB371 := Blk.at' hw366 (hB357.updNe (Ne.symm hn334) _ _)
        have hB372 := Blk.at' hw366 (hB358.updNe (Ne.symm hn335) _ _)
        have hB373 := Blk.at' hw366 (hB359.updNe (Ne.symm hn336) _ _)
        have hB374 := Blk.at' hw366 (hB360.updNe (Ne.symm hn337) _ _)
        have hB375 : Blk w365 w10.heap.size 3 (#[.int .i64 1]) := by rw [hw366]; exact hB361.upd _ _
        have hX376 : Ext [w10.heap.size] w351 w365 := by rw [hw366]; exact (Ext.refl _ _).updIn (.inl (by simp)) _ _
        have hG377 : ∀ D ∈ D0 :: Ds, Dfr w365 D := fun D hD => (hG363 D hD).ext hX376 (by simpa using (hG363 D hD).ne_blk hB361)
        have hE378 : Ext [] w154 w365 := by rw [hw366]; exact hE364.updIn (.inr hs349) _ _
        refine seg_end ?_
        exact ⟨(1, w10.heap.size, D0 :: Ds), ⟨hS.keepTo [1, 5, 7, 9, 10, 11, 12] (by kernel_rfl), by omega, hE378, hB375, hG377, hnd2, hDn2⟩, by simp⟩
      · rintro c pre Cx w10 a hE910 hfr10 hlie10 hD10 _ ⟨rfl, rfl, k, hks, hkl2, hkb10⟩ hS
        have hnk : ∀ {T : TypeId} {cs : Array Value} {b : Nat}, Blk w196 b T cs → b ≠ kb → b ∉ [kb] := fun _ h2 hm => h2 (by simpa using hm)
        have hEl10 : Ext [] w154 w10 := hE9.trans hE910 (by intro b hb; obtain rfl := (by simpa using hb : b = kb); exact .inr hkbn)
        obtain ⟨D0, hD0e⟩ : ∃ D, D = w196.heap.size := ⟨_, rfl⟩
        rw [← hD0e] at hD10 hS
        have hD0n : w154.heap.size ≤ D0 := by rw [hD0e]; exact hl9
        have hDs10 : ∀ D ∈ D0 :: Ds, Dfr w10 D := fun D hD => by
          rcases List.mem_cons.1 hD with rfl | hD
          · exact hD10
          · exact (hD9 D hD).ext hE910 (by simpa using (hD9 D hD).ne_blk hkb0)
        have hnd2 : (D0 :: Ds).Nodup := List.nodup_cons.2 ⟨fun h => by have := (hD9 D0 h).lt; omega, hnd⟩
        have hDn2 : ∀ D ∈ D0 :: Ds, w154.heap.size ≤ D := fun D hD => by
          rcases List.mem_cons.1 hD with rfl | hD
          · exact hD0n
          · exact hDn D hD
        replace hS : St 141 ((D0 :: Ds).map dmark) [(1, .int .i64 ↑i), (5, (Pv fx)), (7, (Pv wx)), (9, (Pv sx)), (10, (Pv rx)), (11, (Pv qx)), (12, (Pv nb)), (13, (Pv kb))] a := hS.keepTo [1, 5, 7, 9, 10, 11, 12, 13] (by kernel_rfl)
        have hBfx10 := hBfx9.ext hE910 (by simpa using hnefx)
        have hBwx10 := hBwx9.ext hE910 (by simpa using hnewx)
        have hBsx10 := hBsx9.ext hE910 (by simpa using hnesx)
        have hBrx10 := hBrx9.ext hE910 (by simpa using hnerx)
        have hBqx10 := hBqx9.ext hE910 (by simpa using hneqx)
        have hBbx10 := hBbx9.ext hE910 (by simpa using hnebx)
        have hBnb10 := hBnb9.ext hE910 (by simpa using hnenb)
        refine wpIn_exit ?_
        refine inBlock_hit ?_
        refine hK210 _ _ ?_
        refine wpIn_seq_k fun K379 hK379 => ?_
        refine region 13 (by kernel_rfl) ?_
        refine seg wide_wide [.ld (.int .i64 ↑k), .ld ((.slice wb lw.length wc)), .run (.int .i64 ↑lw.length), .as (.bool true), .p, .ld (.int .i64 0), .p, .p, .ld (.int .i64 ↑k), .ld (.int .i64 stop), .as (.bool false), .p, .p] [1, 5, 7, 9, 10, 11, 12, 13, 139] [w10.cell? ⟨kb, 0, none⟩ = some (.int .i64 ↑k), w10.cell? ⟨wx, 0, none⟩ = some ((.slice wb lw.length wc)), Sem.run Try.prog (vS (Builtin.len_ #[28] 3 #[(.slice wb lw.length wc)])) w10 = .ok (.value (.int .i64 ↑lw.length)) w10, Value.bool (((↑k : Int) != ↑lw.length)) = .bool true, w10.cell? ⟨nb, 0, none⟩ = some (.int .i64 0), w10.cell? ⟨kb, 0, none⟩ = some (.int .i64 ↑k), w10.cell? ⟨sx, 0, none⟩ = some (.int .i64 stop), Value.bool (((↑k : Int) != stop)) = .bool false] [(1, .int .i64 ↑i), (5, (Pv fx)), (7, (Pv wx)), (9, (Pv sx)), (10, (Pv rx)), (11, (Pv qx)), (12, (Pv nb)), (13, (Pv kb)), (139, .bool false)] 13 0 hS (by kernel_rfl) (by kernel_rfl) (by kernel_rfl) (.cons (hkb10.cell 0 rfl) (.cons (hBwx10.cell 0 rfl) (.cons (run_len_own hO (by kernel_rfl)) (.cons (as_ne_t (by omega)) (.cons (hBnb10.cell 0 rfl) (.cons (hkb10.cell 0 rfl) (.cons (hBsx10.cell 0 rfl) (.cons (as_ne_f (hks)) .nil)))))))) fun a hS => ?_
        refine seg_end ?_
        refine hK379 _ _ ?_
        refine cond_f hS rfl ?_
        refine wpIn_skip ?_
        refine inBlock_normal ?_
        refine hK171 _ _ ?_
        refine wpIn_seq_k fun K380 hK380 => ?_
        refine wpIn_seq_k fun K381 hK381 => ?_
        refine region 1 (by kernel_rfl) ?_
        refine seg wide_wide [.ld (.int .i64 0)] [1, 5, 7, 9, 10, 11, 12, 13, 139, 140] [w10.cell? ⟨nb, 0, none⟩ = some (.int .i64 0)] [(1, .int .i64 ↑i), (5, (Pv fx)), (7, (Pv wx)), (9, (Pv sx)), (10, (Pv rx)), (11, (Pv qx)), (12, (Pv nb)), (13, (Pv kb)), (139, .bool false), (140, .int .i64 0)] 1 0 hS (by kernel_rfl) (by kernel_rfl) (by kernel_rfl) (.cons (hBnb10.cell 0 rfl) .nil) fun a hS => ?_
        refine seg_end ?_
        refine hK381 _ _ ?_
        refine region 2 (by kernel_rfl) ?_
        refine eff_box wide_wide (r := 1) (cs := #[.int .i64 0]) (T := 3) (d := (some 12)) hS (by kernel_rfl) fun a w382 hw383 hS => ?_
        have hn384 : fx ≠ w10.heap.size := Nat.ne_of_lt hBfx10.lt
        have hn385 : wx ≠ w10.heap.size := Nat.ne_of_lt hBwx10.lt
        have hn386 : sx ≠ w10.heap.size := Nat.ne_of_lt hBsx10.lt
        have hn387 : rx ≠ w10.heap.size := Nat.ne_of_lt hBrx10.lt
        have hn388 : qx ≠ w10.heap.size := Nat.ne_of_lt hBqx10.lt
        have hn389 : bx ≠ w10.heap.size := Nat.ne_of_lt hBbx10.lt
        have hn390 : nb ≠ w10.heap.size := Nat.ne_of_lt hBnb10.lt
        have hn391 : kb ≠ w10.heap.size := Nat.ne_of_lt hkb10.lt
        have hB392 := Blk.at' hw383 (hBfx10.alloc _)
        have hB393 := Blk.at' hw383 (hBwx10.alloc _)
        have hB394 := Blk.at' hw383 (hBsx10.alloc _)
        have hB395 := Blk.at' hw383 (hBrx10.alloc _)
        have hB396 := Blk.at' hw383 (hBqx10.alloc _)
        have hB397 := Blk.at' hw383 (hBbx10.alloc _)
        have hB398 := Blk.at' hw383 (hBnb10.alloc _)
        have hB399 := Blk.at' hw383 (hkb10.alloc _)
        have hX400 : Ext [] w10 w382 := by rw [hw383]; exact (Ext.refl _ _).alloc _
        have hG401 : ∀ D ∈ D0 :: Ds, Dfr w382 D := fun D hD => (hDs10 D hD).ext hX400 (by simp)
        have hB402 : Blk w382 (w10.heap.size) 3 #[.int .i64 0] := by rw [hw383]; exact Blk.new _ _ _
        have hs403 : w154.heap.size ≤ w10.heap.size := hEl10.size
        have hE404 : Ext [] w154 w382 := by rw [hw383]; exact hEl10.alloc _
        refine eff_store wide_wide (r := 0) (b := w10.heap.size) (off := 0) (vs := [.int .i64 0]) hS (by kernel_rfl) hB402 (by simp) fun a w405 hw406 hS => ?_
        have hB407 := Blk.at' hw406 (hB392.updNe (Ne.symm hn384) _ _)
        have hB408 := Blk.at' hw406 (hB393.updNe (Ne.symm hn385) _ _)
        have hB409 := Blk.at' hw406 (hB394.updNe (Ne.symm hn386) _ _)
        have hB410 := Blk.at' hw406 (hB395.updNe (Ne.symm hn387) _ _)
        have hB411 := Blk.at' hw406 (hB396.updNe (Ne.symm hn388) _ _)
        have hB412 := Blk.at' hw406 (hB397.updNe (Ne.symm hn389) _ _)
        have hB413 := Blk.at' hw406 (hB398.updNe (Ne.symm hn390) _ _)
        have hB414 := Blk.at' hw406 (hB399.updNe (Ne.symm hn391) _ _)
        have hB415 : Blk w405 w10.heap.size 3 (#[.int .i64 0]) := by rw [hw406]; exact hB402.upd _ _
        have hX416 : Ext [w10.heap.size] w382 w405 := by rw [hw406]; exact (Ext.refl _ _).updIn (.inl (by simp)) _ _
        have hG417 : ∀ D ∈ D0 :: Ds, Dfr w405 D := fun D hD => (hG401 D hD).ext hX416 (by simpa using (hG401 D hD).ne_blk hB402)
        have hE418 : Ext [] w154 w405 := by rw [hw406]; exact hE404.updIn (.inr hs403) _ _
        refine seg_end ?_
        refine hK380 _ _ ?_
        refine region 3 (by kernel_rfl) ?_
        refine seg wide_wide [.ld (.int .i64 0), .p] [1, 5, 7, 9, 10, 11, 12, 13, 139, 140, 41] [w405.cell? ⟨w10.heap.size, 0, none⟩ = some (.int .i64 0)] [(1, .int .i64 ↑i), (5, (Pv fx)), (7, (Pv wx)), (9, (Pv sx)), (10, (Pv rx)), (11, (Pv qx)), (12, (Pv w10.heap.size)), (13, (Pv kb)), (139, .bool false), (140, .int .i64 0), (41, .int .i64 1)] 2 1 hS (by kernel_rfl) (by kernel_rfl) (by kernel_rfl) (.cons (hB415.cell 0 rfl) .nil) fun a hS => ?_
        refine eff_store wide_wide (r := 0) (b := w10.heap.size) (off := 0) (vs := [.int .i64 1]) hS (by kernel_rfl) hB415 (by simp) fun a w419 hw420 hS => ?_
        have hB421 := Blk.at' hw420 (hB407.updNe (Ne.symm hn384) _ _)
        have hB422 := Blk.at' hw420 (hB408.updNe (Ne.symm hn385) _ _)
        have hB423 := Blk.at' hw420 (hB409.updNe (Ne.symm hn386) _ _)
        have hB424 := Blk.at' hw420 (hB410.updNe (Ne.symm hn387) _ _)
        have hB425 := Blk.at' hw420 (hB411.updNe (Ne.symm hn388) _ _)
        have hB426 := Blk.at' hw420 (hB412.updNe (Ne.symm hn389) _ _)
        have hB427 := Blk.at' hw420 (hB413.updNe (Ne.symm hn390) _ _)
        have hB428 := Blk.at' hw420 (hB414.updNe (Ne.symm hn391) _ _)
        have hB429 : Blk w419 w10.heap.size 3 (#[.int .i64 1]) := by rw [hw420]; exact hB415.upd _ _
        have hX430 : Ext [w10.heap.size] w405 w419 := by rw [hw420]; exact (Ext.refl _ _).updIn (.inl (by simp)) _ _
        have hG431 : ∀ D ∈ D0 :: Ds, Dfr w419 D := fun D hD => (hG417 D hD).ext hX430 (by simpa using (hG417 D hD).ne_blk hB415)
        have hE432 : Ext [] w154 w419 := by rw [hw420]; exact hE418.updIn (.inr hs403) _ _
        refine seg_end ?_
        exact ⟨(1, w10.heap.size, D0 :: Ds), ⟨hS.keepTo [1, 5, 7, 9, 10, 11, 12] (by kernel_rfl), by omega, hE432, hB429, hG431, hnd2, hDn2⟩, by simp⟩
    · -- an alternative
      replace hnb : Blk w1 nb 3 #[.int .i64 1] := hnb
      refine region 2 (by kernel_rfl) ?_
      refine eff_box wide_wide (r := 1) (cs := #[.int .i64 0]) (T := 3) (d := (some 13)) hS (by kernel_rfl) fun a w433 hw434 hS => ?_
      have hn435 : fx ≠ w1.heap.size := Nat.ne_of_lt hBfx1.lt
      have hn436 : wx ≠ w1.heap.size := Nat.ne_of_lt hBwx1.lt
      have hn437 : sx ≠ w1.heap.size := Nat.ne_of_lt hBsx1.lt
      have hn438 : rx ≠ w1.heap.size := Nat.ne_of_lt hBrx1.lt
      have hn439 : qx ≠ w1.heap.size := Nat.ne_of_lt hBqx1.lt
      have hn440 : bx ≠ w1.heap.size := Nat.ne_of_lt hBbx1.lt
      have hn441 : nb ≠ w1.heap.size := Nat.ne_of_lt hnb.lt
      have hn442 : F.fb ≠ w1.heap.size := Nat.ne_of_lt hF1.f.lt
      have hB443 := Blk.at' hw434 (hBfx1.alloc _)
      have hB444 := Blk.at' hw434 (hBwx1.alloc _)
      have hB445 := Blk.at' hw434 (hBsx1.alloc _)
      have hB446 := Blk.at' hw434 (hBrx1.alloc _)
      have hB447 := Blk.at' hw434 (hBqx1.alloc _)
      have hB448 := Blk.at' hw434 (hBbx1.alloc _)
      have hB449 := Blk.at' hw434 (hnb.alloc _)
      have hB450 := Blk.at' hw434 (hF1.f.alloc _)
      have hX451 : Ext [] w1 w433 := by rw [hw434]; exact (Ext.refl _ _).alloc _
      have hG452 : ∀ D ∈ Ds, Dfr w433 D := fun D hD => (hDs D hD).ext hX451 (by simp)
      have hB453 : Blk w433 (w1.heap.size) 3 #[.int .i64 0] := by rw [hw434]; exact Blk.new _ _ _
      have hs454 : w154.heap.size ≤ w1.heap.size := hEl.size
      have hE455 : Ext [] w154 w433 := by rw [hw434]; exact hEl.alloc _
      refine eff_store wide_wide (r := 0) (b := w1.heap.size) (off := 0) (vs := [.int .i64 0]) hS (by kernel_rfl) hB453 (by simp) fun a w456 hw457 hS => ?_
      have hB458 := Blk.at' hw457 (hB443.updNe (Ne.symm hn435) _ _)
      have hB459 := Blk.at' hw457 (hB444.updNe (Ne.symm hn436) _ _)
      have hB460 := Blk.at' hw457 (hB445.updNe (Ne.symm hn437) _ _)
      have hB461 := Blk.at' hw457 (hB446.updNe (Ne.symm hn438) _ _)
      have hB462 := Blk.at' hw457 (hB447.updNe (Ne.symm hn439) _ _)
      have hB463 := Blk.at' hw457 (hB448.updNe (Ne.symm hn440) _ _)
      have hB464 := Blk.at' hw457 (hB449.updNe (Ne.symm hn441) _ _)
      have hB465 := Blk.at' hw457 (hB450.updNe (Ne.symm hn442) _ _)
      have hB466 : Blk w456 w1.heap.size 3 (#[.int .i64 0]) := by rw [hw457]; exact hB453.upd _ _
      have hX467 : Ext [w1.heap.size] w433 w456 := by rw [hw457]; exact (Ext.refl _ _).updIn (.inl (by simp)) _ _
      have hG468 : ∀ D ∈ Ds, Dfr w456 D := fun D hD => (hG452 D hD).ext hX467 (by simpa using (hG452 D hD).ne_blk hB453)
      have hE469 : Ext [] w154 w456 := by rw [hw457]; exact hE455.updIn (.inr hs454) _ _
      refine seg_end ?_
      refine hK172 _ _ ?_
      refine wpIn_seq_k fun K470 hK470 => ?_
      refine wpIn_seq_k fun K471 hK471 => ?_
      refine region 1 (by kernel_rfl) ?_
      refine seg wide_wide [.ld (.func (.func 57) #[] #[(Pv bx)])] [1, 5, 7, 9, 10, 11, 12, 13, 42] [w456.cell? ⟨qx, 0, none⟩ = some (.func (.func 57) #[] #[(Pv bx)])] [(1, .int .i64 ↑i), (5, (Pv fx)), (7, (Pv wx)), (9, (Pv sx)), (10, (Pv rx)), (11, (Pv qx)), (12, (Pv nb)), (13, (Pv w1.heap.size)), (42, .func (.func 57) #[] #[(Pv bx)])] 1 0 hS (by kernel_rfl) (by kernel_rfl) (by kernel_rfl) (.cons (hB462.cell 0 rfl) .nil) fun a hS => ?_
      refine seg_end ?_
      refine hK471 _ _ ?_
      refine wpIn_block ?_
      replace hS := hS.keepTo [1, 5, 7, 9, 10, 11, 12, 13, 42] (m' := [(1, .int .i64 ↑i), (5, (Pv fx)), (7, (Pv wx)), (9, (Pv sx)), (10, (Pv rx)), (11, (Pv qx)), (12, (Pv nb)), (13, (Pv w1.heap.size)), (42, .func (.func 57) #[] #[(Pv bx)])]) (by kernel_rfl)
      have hkb0 := hB466
      have hkbn := hs454
      have hBfx9 := hB458
      have hnefx : fx ≠ w1.heap.size := hn435
      have hBwx9 := hB459
      have hnewx : wx ≠ w1.heap.size := hn436
      have hBsx9 := hB460
      have hnesx : sx ≠ w1.heap.size := hn437
      have hBrx9 := hB461
      have hnerx : rx ≠ w1.heap.size := hn438
      have hBqx9 := hB462
      have hneqx : qx ≠ w1.heap.size := hn439
      have hBbx9 := hB463
      have hnebx : bx ≠ w1.heap.size := hn440
      have hBnb9 := hB464
      have hnenb : nb ≠ w1.heap.size := hn441
      obtain ⟨kb, hkbe⟩ : ∃ x, x = w1.heap.size := ⟨_, rfl⟩
      rw [← hkbe] at hS hkb0 hkbn hnefx hnewx hnesx hnerx hneqx hnebx hnenb
      have hE9 := hE469
      have hF9 := hFl.ext0 hE9
      have hD9 := hG468
      have hkblt := hkb0.lt
      have hbxlt := hBbx0.lt
      have hl9 := hE9.size
      refine range_out (gf := 57) (lb := #[pv bx]) (enc := encW) (xs := ((walk r.t 0).filter isLeaf)) (T := fun b => b = bx ∨ r.t.Foot b)
        (fun pre Cx W => Cx = [kb] ∧ Blk W kb 3 #[.int .i64 (pre.length : Int)])
        (fun _ _ _ _ => False) [kb] (fun q => [(1, .int .i64 ↑i), (5, (Pv fx)), (7, (Pv wx)), (9, (Pv sx)), (10, (Pv rx)), (11, (Pv qx)), (12, (Pv nb)), (13, (Pv kb)), (14, .int .i64 q.1), (15, (Pv q.2.b))]) hS rfl Try.call57 ?_ ?_ ?_ ?_ (fun _ => rfl) rfl ?_ ?_ ?_ ?_ ?_ ?_ ?_
      · intro W hEW _
        exact Leaves1_any (hBbx9.ext hEW (by simp)) ((hF9.ok.one r hrm).ok.ext hEW r.t (by simp))
      · rintro b (rfl | hb)
        · exact hBbx9.lt
        · exact (hF9.ok.one r hrm).ok.foot_lt hb
      · intro b hb hT
        obtain rfl : b = kb := by simpa using hb
        rcases hT with hT | hT
        · exact hnebx hT.symm
        · exact (hF9.ok.one r hrm).ok.not_foot hkb0 (by decide) (by decide) hT
      · intro b hb
        obtain rfl : b = kb := by simpa using hb
        exact hkblt
      · rintro s Cx M W W' ⟨rfl, h1⟩ hE hM
        exact ⟨rfl, h1.ext hE (fun hm => (hM _ hm).2 (by simp))⟩
      · intro c s Cx M W W' h; exact h.elim
      · exact ⟨rfl, hkb0⟩
      · intro l2 q a' W K hS hK
        refine wpIn_seq_k fun K472 hK472 => ?_
        refine region 1 (by kernel_rfl) ?_
        refine seg (wide_wide.inRound l2) [.p] [1, 5, 7, 9, 10, 11, 12, 13, 43, 44, 14] [] [(1, .int .i64 ↑i), (5, (Pv fx)), (7, (Pv wx)), (9, (Pv sx)), (10, (Pv rx)), (11, (Pv qx)), (12, (Pv nb)), (13, (Pv kb)), (43, .int .i64 q.1), (44, q.2.ptr), (14, .int .i64 q.1)] 1 0 hS (by kernel_rfl) (by kernel_rfl) (by kernel_rfl) .nil fun a hS => ?_
        refine seg_end ?_
        refine hK472 _ _ ?_
        refine region 1 (by kernel_rfl) ?_
        refine seg (wide_wide.inRound l2) [.p] [1, 5, 7, 9, 10, 11, 12, 13, 43, 44, 14, 15] [] [(1, .int .i64 ↑i), (5, (Pv fx)), (7, (Pv wx)), (9, (Pv sx)), (10, (Pv rx)), (11, (Pv qx)), (12, (Pv nb)), (13, (Pv kb)), (43, .int .i64 q.1), (44, q.2.ptr), (14, .int .i64 q.1), (15, q.2.ptr)] 1 0 hS (by kernel_rfl) (by kernel_rfl) (by kernel_rfl) .nil fun a hS => ?_
        refine seg_end ?_
        exact hK _ (hS.keepTo [1, 5, 7, 9, 10, 11, 12, 13, 14, 15] (by kernel_rfl))
      · rintro l2 pre q post Cx W a hxs2 ⟨rfl, hkbW⟩ hlieW hfrW hnl hrec hEW hS
        have hkl : pre.length < lw.length := by
          have := congrArg List.length hxs2
          rw [hxl] at this
          simp at this
          omega
        obtain ⟨⟨sp, pv_⟩, hsp⟩ : ∃ q, lw[pre.length]? = some q := ⟨_, List.getElem?_eq_getElem hkl⟩
        obtain rfl : q = (sp.at_, sp.r.t) := by
          have h1 : ((walk r.t 0).filter isLeaf)[pre.length]? = some q := by rw [hxs2]; simp
          rw [← hxs] at h1
          simp [hsp] at h1
          exact h1.symm
        have hqm := hin _ (List.mem_of_getElem? hsp)
        have hcw := spc_at lw pre.length
        have hWW : Ext [kb] W W := Ext.refl _ _
        have hEW0 : Ext [] w W := (hE0l.trans0 hE9).trans hEW (by intro b hb; obtain rfl := (by simpa using hb : b = kb); exact .inr (Nat.le_trans hE0l.size hkbn))
        have hFW := hF.ext0 hEW0
        have hqi := (hFW.ok.one _ hqm).ki
        have hqL := hFW.ok.at hqm
        have hOW := hO.ext0' hEW0
        replace hS : St 141 [] [(1, .int .i64 ↑i), (5, (Pv fx)), (7, (Pv wx)), (9, (Pv sx)), (10, (Pv rx)), (11, (Pv qx)), (12, (Pv nb)), (13, (Pv kb)), (14, .int .i64 sp.at_), (15, (Pv sp.r.t.b))] a := hS
        have hBfxW := hBfx9.ext hEW (by simpa using hnefx)
        have hBwxW := hBwx9.ext hEW (by simpa using hnewx)
        have hBsxW := hBsx9.ext hEW (by simpa using hnesx)
        have hBrxW := hBrx9.ext hEW (by simpa using hnerx)
        have hBqxW := hBqx9.ext hEW (by simpa using hneqx)
        have hBbxW := hBbx9.ext hEW (by simpa using hnebx)
        have hBnbW := hBnb9.ext hEW (by simpa using hnenb)
        have hgpW : ∀ x ∈ ob (.slice F.pb F.L.length F.pc), kb ≠ x := hFW.P.ne hkbW (by decide)
        have hrowq := (hFW.ok.one sp.r hqm).row
        have hBq : Blk W sp.r.rb 40 #[.int .i64 sp.r.k, .int .i64 ↑sp.r.i, .int .i64 sp.r.t.kd, .int .i64 sp.r.t.nn, .int .i64 sp.r.t.lk, .int .i64 sp.r.t.ls, .int .i64 sp.r.t.ll, .int .i64 sp.r.t.lr, sp.r.kv, .int .i64 sp.r.t.tt] := (hFW.ok.one sp.r hqm).blk
        have hTq : Blk W sp.r.t.b 106 #[.pointer (some ⟨(sOf F.s0 F.s1 sp.r.k), 0, none⟩), .int .i64 sp.r.t.num, .int .i64 sp.r.t.kd, .int .i64 sp.r.t.nn, .int .i64 sp.r.t.lk, .int .i64 sp.r.t.ls, .int .i64 sp.r.t.ll, .int .i64 sp.r.t.lr, sp.r.t.ks, .int .i64 sp.r.t.wd, .int .i64 sp.r.t.lf, .int .i64 sp.r.t.tt, .bool sp.r.t.fl] := (hFW.ok.one sp.r hqm).ok.blk
        refine wpIn_block ?_
        refine wpIn_seq_k fun K473 hK473 => ?_
        refine wpIn_seq_k fun K474 hK474 => ?_
        refine region 7 (by kernel_rfl) ?_
        refine seg (wide_wide.inRound l2) [.ld (.int .i64 1), .p, .p, .no, .no, .no, .p] [1, 5, 7, 9, 10, 11, 12, 13, 14, 15, 51] [W.cell? ⟨nb, 0, none⟩ = some (.int .i64 1)] [(1, .int .i64 ↑i), (5, (Pv fx)), (7, (Pv wx)), (9, (Pv sx)), (10, (Pv rx)), (11, (Pv qx)), (12, (Pv nb)), (13, (Pv kb)), (14, .int .i64 sp.at_), (15, (Pv sp.r.t.b)), (51, .bool false)] 7 0 hS (by kernel_rfl) (by kernel_rfl) (by kernel_rfl) (.cons (hBnbW.cell 0 rfl) .nil) fun a hS => ?_
        refine seg_end ?_
        refine hK474 _ _ ?_
        refine cond_f hS rfl ?_
        refine wpIn_skip ?_
        refine hK473 _ _ ?_
        refine wpIn_seq_k fun K475 hK475 => ?_
        refine wpIn_seq_k fun K476 hK476 => ?_
        refine region_fn2 (wide_wide.inRound l2) [.q (.ld (.int .i64 ↑pre.length)), .q (.ld ((.slice wb lw.length wc))), .q (.run (.int .i64 ↑lw.length)), .q (.as (.bool false)), .q .p, .q .p, .q (.ld ((.slice wb lw.length wc))), .q (.ld (.int .i64 ↑pre.length)), .q (.run (.pointer (some ⟨bof (.slice wb lw.length wc), 0 + pre.length * 3, none⟩))), .q .p, .q (.ld (.int .i64 sp.at_)), .q (.as (.bool false)), .q .p, .q .p, .q .p, .q (.ld ((Pv F.fb))), .q .p, .q .p, .q (.ld (.slice F.pb F.L.length F.pc)), .q (.ld ((.slice wb lw.length wc))), .q (.ld (.int .i64 ↑pre.length)), .q (.run (.pointer (some ⟨bof (.slice wb lw.length wc), 0 + pre.length * 3, none⟩))), .q .p, .q (.ld ((Pv sp.r.rb))), .q .p, .q .p, .q (.ld (.int .i64 ↑sp.r.i)), .q (.run (.pointer (some ⟨bof (.slice F.pb F.L.length F.pc), 0 + sp.r.i * 1, none⟩))), .q (.ld ((Pv sp.r.t.b))), .q (.run (.bool false)), .q .p] [0, 0, 0, 0, 0, 0, 0, 0, 0, 0, 0, 0, 0, 0, 0, 0, 0, 0, 0, 0, 0, 0, 0, 0, 0, 0, 0, 0, 0, 0, 0] [0, 0, 0, 0, 0, 0, 0, 0, 0, 0, 0, 0, 0, 0, 0, 0, 0, 0, 0, 0, 0, 0, 0, 0, 0, 0, 0, 0, 0, 0, 0] [0, 0, 2, 7, 15, 31, 31, 31, 223, 479, 991, 2047, 4095, 8191, 16383, 16383, 49151, 114687, 245759, 16383, 16383, 1589247, 3686399, 7880703, 16269311, 33046527, 66600959, 134201343, 268419071, 536870911, 1073741823] [] 0 ([(1, .int .i64 ↑i), (5, (Pv fx)), (7, (Pv wx)), (9, (Pv sx)), (10, (Pv rx)), (11, (Pv qx)), (12, (Pv nb)), (13, (Pv kb)), (14, .int .i64 sp.at_), (15, (Pv sp.r.t.b)), (51, .bool false), (52, .int .i64 ↑pre.length), (53, (.slice wb lw.length wc)), (54, .int .i64 ↑lw.length), (55, .bool false), (56, .bool false), (57, .int .i64 sp.at_), (58, (.slice wb lw.length wc)), (59, .int .i64 ↑pre.length), (60, .pointer (some ⟨bof (.slice wb lw.length wc), 0 + pre.length * 3, none⟩)), (61, .pointer (some ⟨bof (.slice wb lw.length wc), 0 + pre.length * 3 + 1, none⟩)), (62, .int .i64 sp.at_), (63, .bool false), (64, .bool false), (65, .bool false), (66, (Pv sp.r.t.b)), (67, (Pv F.fb)), (68, (Pv F.fb)), (69, .pointer (some ⟨F.fb, 2, none⟩)), (70, .slice F.pb F.L.length F.pc), (71, (.slice wb lw.length wc)), (72, .int .i64 ↑pre.length), (73, .pointer (some ⟨bof (.slice wb lw.length wc), 0 + pre.length * 3, none⟩)), (74, .pointer (some ⟨bof (.slice wb lw.length wc), 0 + pre.length * 3, none⟩)), (75, (Pv sp.r.rb)), (76, (Pv sp.r.rb)), (77, .pointer (some ⟨sp.r.rb, 1, none⟩)), (78, .int .i64 ↑sp.r.i), (79, .pointer (some ⟨bof (.slice F.pb F.L.length F.pc), 0 + sp.r.i * 1, none⟩)), (80, (Pv sp.r.t.b)), (81, .bool false), (82, .bool false)]) [W.drew] W.drew (fun w' => [(0, [w'.cell? ⟨kb, 0, none⟩ = some (.int .i64 ↑pre.length)]), (1, [w'.cell? ⟨wx, 0, none⟩ = some ((.slice wb lw.length wc))]), (2, [Sem.run Try.prog (vS (Builtin.len_ #[28] 3 #[(.slice wb lw.length wc)])) w' = .ok (.value (.int .i64 ↑lw.length)) w']), (3, [Value.bool (decide ((↑pre.length : Int) ≥ ↑lw.length)) = .bool false]), (6, [w'.cell? ⟨wx, 0, none⟩ = some ((.slice wb lw.length wc))]), (7, [w'.cell? ⟨kb, 0, none⟩ = some (.int .i64 ↑pre.length)]), (8, [Sem.run Try.prog (vS (Instr.indexAt 28 ((.slice wb lw.length wc)) (.int .i64 ↑pre.length))) w' = .ok (.value (.pointer (some ⟨bof (.slice wb lw.length wc), 0 + pre.length * 3, none⟩))) w']), (10, [w'.cell? ⟨bof (.slice wb lw.length wc), 0 + pre.length * 3 + 1, none⟩ = some (.int .i64 sp.at_)]), (11, [Value.bool (((sp.at_ : Int) != sp.at_)) = .bool false]), (15, [w'.cell? ⟨fx, 0, none⟩ = some ((Pv F.fb))]), (18, [w'.cell? ⟨F.fb, 2, none⟩ = some (.slice F.pb F.L.length F.pc)]), (19, [w'.cell? ⟨wx, 0, none⟩ = some ((.slice wb lw.length wc))]), (20, [w'.cell? ⟨kb, 0, none⟩ = some (.int .i64 ↑pre.length)]), (21, [Sem.run Try.prog (vS (Instr.indexAt 28 ((.slice wb lw.length wc)) (.int .i64 ↑pre.length))) w' = .ok (.value (.pointer (some ⟨bof (.slice wb lw.length wc), 0 + pre.length * 3, none⟩))) w']), (23, [w'.cell? ⟨bof (.slice wb lw.length wc), 0 + pre.length * 3, none⟩ = some ((Pv sp.r.rb))]), (26, [w'.cell? ⟨sp.r.rb, 1, none⟩ = some (.int .i64 ↑sp.r.i)]), (27, [Sem.run Try.prog (vS (Instr.indexAt 32 (.slice F.pb F.L.length F.pc) (.int .i64 ↑sp.r.i))) w' = .ok (.value (.pointer (some ⟨bof (.slice F.pb F.L.length F.pc), 0 + sp.r.i * 1, none⟩))) w']), (28, [w'.cell? ⟨bof (.slice F.pb F.L.length F.pc), 0 + sp.r.i * 1, none⟩ = some ((Pv sp.r.t.b))]), (29, [Sem.run Try.prog (vS (do eqGuard .neq 47 (.tmp 66) (.tmp 80) ((Pv sp.r.t.b)) ((Pv sp.r.t.b)); binOp .neq 47 ((Pv sp.r.t.b)) ((Pv sp.r.t.b)))) w' = .ok (.value (.bool false)) w'])]) [1, 5, 7, 9, 10, 11, 12, 13, 14, 15, 51] [] hS (by kernel_rfl) (by kernel_rfl) (by kernel_rfl) (by kernel_rfl) (fun _ => by kernel_rfl) (by kernel_rfl) (by kernel_rfl) (by kernel_rfl) ?_ ?_ ?_
        · intro e w' hw
          refine (.cons ?_ (.cons ?_ (.cons ?_ (.cons ?_ (.cons ?_ (.cons ?_ (.cons ?_ (.cons ?_ (.cons ?_ (.cons ?_ (.cons ?_ (.cons ?_ (.cons ?_ (.cons ?_ (.cons ?_ (.cons ?_ (.cons ?_ (.cons ?_ (.cons ?_ .nil)))))))))))))))))))
          · intro h1 h2
            obtain rfl : e = 0 := Nat.le_antisymm h2 h1
            obtain rfl : w' = W.drew := hw.trans (by kernel_rfl)
            exact (.cons ((hkbW.drew : Blk W.drew kb 3 (#[.int .i64 ↑pre.length])).cell 0 rfl) .nil)
          · intro h1 h2
            obtain rfl : e = 0 := Nat.le_antisymm h2 h1
            obtain rfl : w' = W.drew := hw.trans (by kernel_rfl)
            exact (.cons ((hBwxW.drew : Blk W.drew wx 28 (#[(.slice wb lw.length wc)])).cell 0 rfl) .nil)
          · exact fun _ _ => (.cons (run_len_own hO (by kernel_rfl)) .nil)
          · exact fun _ _ => (.cons (as_f (by omega)) .nil)
          · intro h1 h2
            obtain rfl : e = 0 := Nat.le_antisymm h2 h1
            obtain rfl : w' = W.drew := hw.trans (by kernel_rfl)
            exact (.cons ((hBwxW.drew : Blk W.drew wx 28 (#[(.slice wb lw.length wc)])).cell 0 rfl) .nil)
          · intro h1 h2
            obtain rfl : e = 0 := Nat.le_antisymm h2 h1
            obtain rfl : w' = W.drew := hw.trans (by kernel_rfl)
            exact (.cons ((hkbW.drew : Blk W.drew kb 3 (#[.int .i64 ↑pre.length])).cell 0 rfl) .nil)
          · exact fun _ _ => (.cons (ix_own (j := pre.length) hO (by kernel_rfl) (by kernel_rfl) rfl hkl) .nil)
          · intro h1 h2
            obtain rfl : e = 0 := Nat.le_antisymm h2 h1
            obtain rfl : w' = W.drew := hw.trans (by kernel_rfl)
            exact (.cons (hOW.cellAt _ (by have h := spc_at lw pre.length 1 _ hsp (by omega); simpa [Rf.ptr] using h)) .nil)
          · exact fun _ _ => (.cons (as_ne_f (rfl)) .nil)
          · intro h1 h2
            obtain rfl : e = 0 := Nat.le_antisymm h2 h1
            obtain rfl : w' = W.drew := hw.trans (by kernel_rfl)
            exact (.cons ((hBfxW.drew : Blk W.drew fx 24 (#[(Pv F.fb)])).cell 0 rfl) .nil)
          · intro h1 h2
            obtain rfl : e = 0 := Nat.le_antisymm h2 h1
            obtain rfl : w' = W.drew := hw.trans (by kernel_rfl)
            exact (.cons ((hFW.f.drew : Blk W.drew F.fb 35 (#[(Pv F.s0), (Pv F.s1), .slice F.pb F.L.length F.pc, .slice F.qb F.L.length F.qc, .slice F.bb F.bn F.bc])).cell 2 rfl) .nil)
          · intro h1 h2
            obtain rfl : e = 0 := Nat.le_antisymm h2 h1
            obtain rfl : w' = W.drew := hw.trans (by kernel_rfl)
            exact (.cons ((hBwxW.drew : Blk W.drew wx 28 (#[(.slice wb lw.length wc)])).cell 0 rfl) .nil)
          · intro h1 h2
            obtain rfl : e = 0 := Nat.le_antisymm h2 h1
            obtain rfl : w' = W.drew := hw.trans (by kernel_rfl)
            exact (.cons ((hkbW.drew : Blk W.drew kb 3 (#[.int .i64 ↑pre.length])).cell 0 rfl) .nil)
          · exact fun _ _ => (.cons (ix_own (j := pre.length) hO (by kernel_rfl) (by kernel_rfl) rfl hkl) .nil)
          · intro h1 h2
            obtain rfl : e = 0 := Nat.le_antisymm h2 h1
            obtain rfl : w' = W.drew := hw.trans (by kernel_rfl)
            exact (.cons (hOW.cellAt _ (by have h := spc_at lw pre.length 0 _ hsp (by omega); simpa [Rf.ptr] using h)) .nil)
          · intro h1 h2
            obtain rfl : e = 0 := Nat.le_antisymm h2 h1
            obtain rfl : w' = W.drew := hw.trans (by kernel_rfl)
            exact (.cons ((hBq.drew : Blk W.drew sp.r.rb 40 (#[.int .i64 sp.r.k, .int .i64 ↑sp.r.i, .int .i64 sp.r.t.kd, .int .i64 sp.r.t.nn, .int .i64 sp.r.t.lk, .int .i64 sp.r.t.ls, .int .i64 sp.r.t.ll, .int .i64 sp.r.t.lr, sp.r.kv, .int .i64 sp.r.t.tt])).cell 1 rfl) .nil)
          · exact fun _ _ => (.cons (ix_own (j := sp.r.i) (hFW.P) (by kernel_rfl) (by kernel_rfl) rfl hqi) .nil)
          · intro h1 h2
            obtain rfl : e = 0 := Nat.le_antisymm h2 h1
            obtain rfl : w' = W.drew := hw.trans (by kernel_rfl)
            exact (.cons ((hFW.P.drew : OwnV W.drew 47 1 (.slice F.pb F.L.length F.pc) F.L.length (F.L.map fun r => r.t.ptr)).cellAt _ (by simp [hqL, Tr.ptr])) .nil)
          · intro h1 h2
            obtain rfl : e = 0 := Nat.le_antisymm h2 h1
            obtain rfl : w' = W.drew := hw.trans (by kernel_rfl)
            exact (.cons (bin_ptr_neq (E := 106) (by kernel_rfl) ⟨12, by kernel_rfl⟩ (hTq.drew) (hTq.drew) (by simp)) .nil)
        · refine .nil
        rintro a w478 hS hw479
        replace hw479 : w478 = W.drew := hw479.trans (by kernel_rfl)
        have hB480 := Blk.at' hw479 (hBfxW.drew)
        have hB481 := Blk.at' hw479 (hBwxW.drew)
        have hB482 := Blk.at' hw479 (hBsxW.drew)
        have hB483 := Blk.at' hw479 (hBrxW.drew)
        have hB484 := Blk.at' hw479 (hBqxW.drew)
        have hB485 := Blk.at' hw479 (hBbxW.drew)
        have hB486 := Blk.at' hw479 (hBnbW.drew)
        have hB487 := Blk.at' hw479 (hkbW.drew)
        have hB488 := Blk.at' hw479 (hFW.f.drew)
        have hB489 := OwnV.at' hw479 (hFW.P.drew)
        have hB490 := Blk.at' hw479 (hBq.drew)
        have hB491 := Blk.at' hw479 (hTq.drew)
        have hE492 : Ext [kb] W w478 := by rw [hw479]; exact hWW.drew
        replace hS := hS.keepTo [1, 5, 7, 9, 10, 11, 12, 13, 14, 15, 51, 82] (m' := [(1, .int .i64 ↑i), (5, (Pv fx)), (7, (Pv wx)), (9, (Pv sx)), (10, (Pv rx)), (11, (Pv qx)), (12, (Pv nb)), (13, (Pv kb)), (14, .int .i64 sp.at_), (15, (Pv sp.r.t.b)), (51, .bool false), (82, .bool false)]) (by kernel_rfl)
        refine hK476 _ _ ?_
        refine cond_f hS rfl ?_
        refine wpIn_skip ?_
        refine hK475 _ _ ?_
        refine wpIn_seq_k fun K493 hK493 => ?_
        refine region 3 (by kernel_rfl) ?_
        refine seg (wide_wide.inRound l2) [.ld (.int .i64 ↑pre.length), .as (.int .i64 (↑pre.length + 1))] [1, 5, 7, 9, 10, 11, 12, 13, 14, 15, 51, 82, 84] [w478.cell? ⟨kb, 0, none⟩ = some (.int .i64 ↑pre.length), Value.int .i64 (IntKind.i64.wrap (↑pre.length + 1)) = .int .i64 (↑pre.length + 1)] [(1, .int .i64 ↑i), (5, (Pv fx)), (7, (Pv wx)), (9, (Pv sx)), (10, (Pv rx)), (11, (Pv qx)), (12, (Pv nb)), (13, (Pv kb)), (14, .int .i64 sp.at_), (15, (Pv sp.r.t.b)), (51, .bool false), (82, .bool false), (84, .int .i64 (↑pre.length + 1))] 2 1 hS (by kernel_rfl) (by kernel_rfl) (by kernel_rfl) (.cons (hB487.cell 0 rfl) (.cons (as_i64 (by omega)) .nil)) fun a hS => ?_
        refine eff_store (wide_wide.inRound l2) (r := 0) (b := kb) (off := 0) (vs := [.int .i64 (↑pre.length + 1)]) hS (by kernel_rfl) hB487 (by simp) fun a w494 hw495 hS => ?_
        have hB496 := Blk.at' hw495 (hB480.updNe (Ne.symm hnefx) _ _)
        have hB497 := Blk.at' hw495 (hB481.updNe (Ne.symm hnewx) _ _)
        have hB498 := Blk.at' hw495 (hB482.updNe (Ne.symm hnesx) _ _)
        have hB499 := Blk.at' hw495 (hB483.updNe (Ne.symm hnerx) _ _)
        have hB500 := Blk.at' hw495 (hB484.updNe (Ne.symm hneqx) _ _)
        have hB501 := Blk.at' hw495 (hB485.updNe (Ne.symm hnebx) _ _)
        have hB502 := Blk.at' hw495 (hB486.updNe (Ne.symm hnenb) _ _)
        have hB503 : Blk w494 kb 3 (#[.int .i64 (↑pre.length + 1)]) := by rw [hw495]; exact hB487.upd _ _
        have hB504 := Blk.at' hw495 (hB488.updNe (Blk.ne_type hB487 hB488 (by decide)) _ _)
        have hB505 := OwnV.at' hw495 (hB489.updNe hgpW _ _)
        have hB506 := Blk.at' hw495 (hB490.updNe (Blk.ne_type hB487 hB490 (by decide)) _ _)
        have hB507 := Blk.at' hw495 (hB491.updNe (Blk.ne_type hB487 hB491 (by decide)) _ _)
        have hE508 : Ext [kb] W w494 := by rw [hw495]; exact hE492.updIn (.inl (by simp)) _ _
        refine seg_end ?_
        refine hK493 _ _ ?_
        refine wpIn_seq_k fun K509 hK509 => ?_
        refine region 2 (by kernel_rfl) ?_
        refine seg (wide_wide.inRound l2) [.ld (.int .i64 (↑pre.length + 1)), .p] [1, 5, 7, 9, 10, 11, 12, 13, 14, 15, 51, 82, 86] [w494.cell? ⟨kb, 0, none⟩ = some (.int .i64 (↑pre.length + 1))] [(1, .int .i64 ↑i), (5, (Pv fx)), (7, (Pv wx)), (9, (Pv sx)), (10, (Pv rx)), (11, (Pv qx)), (12, (Pv nb)), (13, (Pv kb)), (14, .int .i64 sp.at_), (15, (Pv sp.r.t.b)), (51, .bool false), (82, .bool false), (86, .bool ((↑pre.length + 1 : Int) == 2))] 2 0 hS (by kernel_rfl) (by kernel_rfl) (by kernel_rfl) (.cons (hB503.cell 0 rfl) .nil) fun a hS => ?_
        refine seg_end ?_
        refine hK509 _ _ ?_
        refine cond_b hS rfl (fun hb510 => ?_) (fun hb510 => ?_)
        · -- ((↑pre.length + 1 : Int) == 2) is true
          replace hb510 := test_eq_t hb510
          refine wpIn_seq_k fun K511 hK511 => ?_
          refine region 2 (by kernel_rfl) ?_
          refine eff_box (wide_wide.inRound l2) (r := 1) (cs := #[.int .i64 0]) (T := 3) (d := (some 16)) hS (by kernel_rfl) fun a w512 hw513 hS => ?_
          have hn514 : fx ≠ w494.heap.size := Nat.ne_of_lt hB496.lt
          have hn515 : wx ≠ w494.heap.size := Nat.ne_of_lt hB497.lt
          have hn516 : sx ≠ w494.heap.size := Nat.ne_of_lt hB498.lt
          have hn517 : rx ≠ w494.heap.size := Nat.ne_of_lt hB499.lt
          have hn518 : qx ≠ w494.heap.size := Nat.ne_of_lt hB500.lt
          have hn519 : bx ≠ w494.heap.size := Nat.ne_of_lt hB501.lt
          have hn520 : nb ≠ w494.heap.size := Nat.ne_of_lt hB502.lt
          have hn521 : kb ≠ w494.heap.size := Nat.ne_of_lt hB503.lt
          have hn522 : F.fb ≠ w494.heap.size := Nat.ne_of_lt hB504.lt
          have hn523 : ∀ x ∈ ob (.slice F.pb F.L.length F.pc), w494.heap.size ≠ x := fun x hx => Nat.ne_of_gt (hB505.lie x hx)
          have hn524 : sp.r.rb ≠ w494.heap.size := Nat.ne_of_lt hB506.lt
          have hn525 : sp.r.t.b ≠ w494.heap.size := Nat.ne_of_lt hB507.lt
          have hB526 := Blk.at' hw513 (hB496.alloc _)
          have hB527 := Blk.at' hw513 (hB497.alloc _)
          have hB528 := Blk.at' hw513 (hB498.alloc _)
          have hB529 := Blk.at' hw513 (hB499.alloc _)
          have hB530 := Blk.at' hw513 (hB500.alloc _)
          have hB531 := Blk.at' hw513 (hB501.alloc _)
          have hB532 := Blk.at' hw513 (hB502.alloc _)
          have hB533 := Blk.at' hw513 (hB503.alloc _)
          have hB534 := Blk.at' hw513 (hB504.alloc _)
          have hB535 := OwnV.at' hw513 (hB505.alloc _)
          have hB536 := Blk.at' hw513 (hB506.alloc _)
          have hB537 := Blk.at' hw513 (hB507.alloc _)
          have hB538 : Blk w512 (w494.heap.size) 3 #[.int .i64 0] := by rw [hw513]; exact Blk.new _ _ _
          have hs539 : W.heap.size ≤ w494.heap.size := hE508.size
          have hE540 : Ext [kb] W w512 := by rw [hw513]; exact hE508.alloc _
          refine eff_store (wide_wide.inRound l2) (r := 0) (b := w494.heap.size) (off := 0) (vs := [.int .i64 0]) hS (by kernel_rfl) hB538 (by simp) fun a w541 hw542 hS => ?_
          have hB543 := Blk.at' hw542 (hB526.updNe (Ne.symm hn514) _ _)
          have hB544 := Blk.at' hw542 (hB527.updNe (Ne.symm hn515) _ _)
          have hB545 := Blk.at' hw542 (hB528.updNe (Ne.symm hn516) _ _)
          have hB546 := Blk.at' hw542 (hB529.updNe (Ne.symm hn517) _ _)
          have hB547 := Blk.at' hw542 (hB530.updNe (Ne.symm hn518) _ _)
          have hB548 := Blk.at' hw542 (hB531.updNe (Ne.symm hn519) _ _)
          have hB549 := Blk.at' hw542 (hB532.updNe (Ne.symm hn520) _ _)
          have hB550 := Blk.at' hw542 (hB533.updNe (Ne.symm hn521) _ _)
          have hB551 := Blk.at' hw542 (hB534.updNe (Ne.symm hn522) _ _)
          have hB552 := OwnV.at' hw542 (hB535.updNe hn523 _ _)
          have hB553 := Blk.at' hw542 (hB536.updNe (Ne.symm hn524) _ _)
          have hB554 := Blk.at' hw542 (hB537.updNe (Ne.symm hn525) _ _)
          have hB555 : Blk w541 w494.heap.size 3 (#[.int .i64 0]) := by rw [hw542]; exact hB538.upd _ _
          have hE556 : Ext [kb] W w541 := by rw [hw542]; exact hE540.updIn (.inr hs539) _ _
          refine seg_end ?_
          refine hK511 _ _ ?_
          refine wpIn_seq_k fun K557 hK557 => ?_
          refine wpIn_seq_k fun K558 hK558 => ?_
          refine region 1 (by kernel_rfl) ?_
          refine seg (wide_wide.inRound l2) [.ld (.func (.func 57) #[] #[(Pv bx)])] [1, 5, 7, 9, 10, 11, 12, 13, 14, 15, 51, 82, 16, 87] [w541.cell? ⟨qx, 0, none⟩ = some (.func (.func 57) #[] #[(Pv bx)])] [(1, .int .i64 ↑i), (5, (Pv fx)), (7, (Pv wx)), (9, (Pv sx)), (10, (Pv rx)), (11, (Pv qx)), (12, (Pv nb)), (13, (Pv kb)), (14, .int .i64 sp.at_), (15, (Pv sp.r.t.b)), (51, .bool false), (82, .bool false), (16, (Pv w494.heap.size)), (87, .func (.func 57) #[] #[(Pv bx)])] 1 0 hS (by kernel_rfl) (by kernel_rfl) (by kernel_rfl) (.cons (hB547.cell 0 rfl) .nil) fun a hS => ?_
          refine seg_end ?_
          refine hK558 _ _ ?_
          refine wpIn_block ?_
          replace hS := hS.keepTo [1, 5, 7, 9, 10, 11, 12, 13, 16, 87] (m' := [(1, .int .i64 ↑i), (5, (Pv fx)), (7, (Pv wx)), (9, (Pv sx)), (10, (Pv rx)), (11, (Pv qx)), (12, (Pv nb)), (13, (Pv kb)), (16, (Pv w494.heap.size)), (87, .func (.func 57) #[] #[(Pv bx)])]) (by kernel_rfl)
          have hib0 := hB555
          have hibn := hs539
          have hCfx9 := hB543
          have hmifx : fx ≠ w494.heap.size := hn514
          have hCwx9 := hB544
          have hmiwx : wx ≠ w494.heap.size := hn515
          have hCsx9 := hB545
          have hmisx : sx ≠ w494.heap.size := hn516
          have hCrx9 := hB546
          have hmirx : rx ≠ w494.heap.size := hn517
          have hCqx9 := hB547
          have hmiqx : qx ≠ w494.heap.size := hn518
          have hCbx9 := hB548
          have hmibx : bx ≠ w494.heap.size := hn519
          have hCnb9 := hB549
          have hminb : nb ≠ w494.heap.size := hn520
          have hCkb9 := hB550
          have hmikb : kb ≠ w494.heap.size := hn521
          obtain ⟨ib, hibe⟩ : ∃ x, x = w494.heap.size := ⟨_, rfl⟩
          rw [← hibe] at hS hib0 hibn hmifx hmiwx hmisx hmirx hmiqx hmibx hminb hmikb
          have hEi9 := hE556
          have hE09 : Ext [] w w541 := hEW0.trans hEi9 (by intro b hb; obtain rfl := (by simpa using hb : b = kb); exact .inr (Nat.le_trans hE0l.size hkbn))
          have hFi9 := hF.ext0 hE09
          have hreci := hrec.ext hEi9 (by simpa using fun h => hnl (by simp [h]))
          refine range_in (gf := 57) (lb := #[pv bx]) (enc := encW) (xs := ((walk r.t 0).filter isLeaf)) (T := fun b => b = bx ∨ r.t.Foot b)
            (fun pre Cx W => Cx = [ib] ∧ Blk W ib 3 #[.int .i64 (pre.length : Int)])
            (fun _ _ _ _ => False) [ib] (fun q => [(1, .int .i64 ↑i), (5, (Pv fx)), (7, (Pv wx)), (9, (Pv sx)), (10, (Pv rx)), (11, (Pv qx)), (12, (Pv nb)), (13, (Pv kb)), (16, (Pv ib)), (17, .int .i64 q.1), (18, (Pv q.2.b))]) hS hreci rfl Try.call57 ?_ ?_ ?_ ?_ (fun _ => rfl) rfl ?_ ?_ ?_ ?_ ?_ ?_ ?_
          · intro W hEW _
            exact Leaves1_any (hCbx9.ext hEW (by simp)) ((hFi9.ok.one r hrm).ok.ext hEW r.t (by simp))
          · rintro b (rfl | hb)
            · exact hCbx9.lt
            · exact (hFi9.ok.one r hrm).ok.foot_lt hb
          · intro b hb hT
            obtain rfl : b = ib := by simpa using hb
            rcases hT with hT | hT
            · exact hmibx hT.symm
            · exact (hFi9.ok.one r hrm).ok.not_foot hib0 (by decide) (by decide) hT
          · intro b hb
            obtain rfl : b = ib := by simpa using hb
            exact hib0.lt
          · rintro s Cx M W W' ⟨rfl, h1⟩ hE hM
            exact ⟨rfl, h1.ext hE (fun hm => (hM _ hm).2 (by simp))⟩
          · intro c s Cx M W W' h; exact h.elim
          · exact ⟨rfl, hib0⟩
          · intro l3 q a' W3 K hS hK
            refine wpIn_seq_k fun K559 hK559 => ?_
            refine region 1 (by kernel_rfl) ?_
            refine seg (wide_wide.inRound l3) [.p] [1, 5, 7, 9, 10, 11, 12, 13, 16, 88, 89, 17] [] [(1, .int .i64 ↑i), (5, (Pv fx)), (7, (Pv wx)), (9, (Pv sx)), (10, (Pv rx)), (11, (Pv qx)), (12, (Pv nb)), (13, (Pv kb)), (16, (Pv ib)), (88, .int .i64 q.1), (89, q.2.ptr), (17, .int .i64 q.1)] 1 0 hS (by kernel_rfl) (by kernel_rfl) (by kernel_rfl) .nil fun a hS => ?_
            refine seg_end ?_
            refine hK559 _ _ ?_
            refine region 1 (by kernel_rfl) ?_
            refine seg (wide_wide.inRound l3) [.p] [1, 5, 7, 9, 10, 11, 12, 13, 16, 88, 89, 17, 18] [] [(1, .int .i64 ↑i), (5, (Pv fx)), (7, (Pv wx)), (9, (Pv sx)), (10, (Pv rx)), (11, (Pv qx)), (12, (Pv nb)), (13, (Pv kb)), (16, (Pv ib)), (88, .int .i64 q.1), (89, q.2.ptr), (17, .int .i64 q.1), (18, q.2.ptr)] 1 0 hS (by kernel_rfl) (by kernel_rfl) (by kernel_rfl) .nil fun a hS => ?_
            refine seg_end ?_
            exact hK _ (hS.keepTo [1, 5, 7, 9, 10, 11, 12, 13, 16, 17, 18] (by kernel_rfl))
          · rintro l3 pr q post3 Cx V a hxs3 ⟨rfl, hibV⟩ hlieV hfrV hnl3 hrec3 hEV hS
            have hjl : pr.length < lw.length := by
              have := congrArg List.length hxs3
              rw [hxl] at this
              simp at this
              omega
            obtain ⟨⟨so, po_⟩, hso⟩ : ∃ q, lw[pr.length]? = some q := ⟨_, List.getElem?_eq_getElem hjl⟩
            obtain rfl : q = (so.at_, so.r.t) := by
              have h1 : ((walk r.t 0).filter isLeaf)[pr.length]? = some q := by rw [hxs3]; simp
              rw [← hxs] at h1
              simp [hso] at h1
              exact h1.symm
            have hom := hin _ (List.mem_of_getElem? hso)
            have hEV0 : Ext [] w V := hE09.trans hEV (by intro b hb; obtain rfl := (by simpa using hb : b = ib); exact .inr (Nat.le_trans hEW0.size hibn))
            have hFV := hF.ext0 hEV0
            have hoi := (hFV.ok.one _ hom).ki
            have hoL := hFV.ok.at hom
            have hOV := hO.ext0' hEV0
            have hVV : Ext [ib] V V := Ext.refl _ _
            replace hS : St 141 [] [(1, .int .i64 ↑i), (5, (Pv fx)), (7, (Pv wx)), (9, (Pv sx)), (10, (Pv rx)), (11, (Pv qx)), (12, (Pv nb)), (13, (Pv kb)), (16, (Pv ib)), (17, .int .i64 so.at_), (18, (Pv so.r.t.b))] a := hS
            have hCfxV := hCfx9.ext hEV (by simpa using hmifx)
            have hCwxV := hCwx9.ext hEV (by simpa using hmiwx)
            have hgpV : ∀ x ∈ ob (.slice F.pb F.L.length F.pc), ib ≠ x := hFV.P.ne hibV (by decide)
            have hrowo := (hFV.ok.one so.r hom).row
            have hBo : Blk V so.r.rb 40 #[.int .i64 so.r.k, .int .i64 ↑so.r.i, .int .i64 so.r.t.kd, .int .i64 so.r.t.nn, .int .i64 so.r.t.lk, .int .i64 so.r.t.ls, .int .i64 so.r.t.ll, .int .i64 so.r.t.lr, so.r.kv, .int .i64 so.r.t.tt] := (hFV.ok.one so.r hom).blk
            have hTo : Blk V so.r.t.b 106 #[.pointer (some ⟨(sOf F.s0 F.s1 so.r.k), 0, none⟩), .int .i64 so.r.t.num, .int .i64 so.r.t.kd, .int .i64 so.r.t.nn, .int .i64 so.r.t.lk, .int .i64 so.r.t.ls, .int .i64 so.r.t.ll, .int .i64 so.r.t.lr, so.r.t.ks, .int .i64 so.r.t.wd, .int .i64 so.r.t.lf, .int .i64 so.r.t.tt, .bool so.r.t.fl] := (hFV.ok.one so.r hom).ok.blk
            refine wpIn_block ?_
            refine wpIn_seq_k fun K560 hK560 => ?_
            refine wpIn_seq_k fun K561 hK561 => ?_
            refine region_fn2 (wide_wide.inRound l3) [.q (.ld (.int .i64 ↑pr.length)), .q (.ld ((.slice wb lw.length wc))), .q (.run (.int .i64 ↑lw.length)), .q (.as (.bool false)), .q .p, .q .p, .q (.ld ((.slice wb lw.length wc))), .q (.ld (.int .i64 ↑pr.length)), .q (.run (.pointer (some ⟨bof (.slice wb lw.length wc), 0 + pr.length * 3, none⟩))), .q .p, .q (.ld (.int .i64 so.at_)), .q (.as (.bool false)), .q .p, .q .p, .q .p, .q (.ld ((Pv F.fb))), .q .p, .q .p, .q (.ld (.slice F.pb F.L.length F.pc)), .q (.ld ((.slice wb lw.length wc))), .q (.ld (.int .i64 ↑pr.length)), .q (.run (.pointer (some ⟨bof (.slice wb lw.length wc), 0 + pr.length * 3, none⟩))), .q .p, .q (.ld ((Pv so.r.rb))), .q .p, .q .p, .q (.ld (.int .i64 ↑so.r.i)), .q (.run (.pointer (some ⟨bof (.slice F.pb F.L.length F.pc), 0 + so.r.i * 1, none⟩))), .q (.ld ((Pv so.r.t.b))), .q (.run (.bool false)), .q .p] [0, 0, 0, 0, 0, 0, 0, 0, 0, 0, 0, 0, 0, 0, 0, 0, 0, 0, 0, 0, 0, 0, 0, 0, 0, 0, 0, 0, 0, 0, 0] [0, 0, 0, 0, 0, 0, 0, 0, 0, 0, 0, 0, 0, 0, 0, 0, 0, 0, 0, 0, 0, 0, 0, 0, 0, 0, 0, 0, 0, 0, 0] [0, 0, 2, 7, 15, 31, 31, 31, 223, 479, 991, 2047, 4095, 8191, 16383, 16383, 49151, 114687, 245759, 16383, 16383, 1589247, 3686399, 7880703, 16269311, 33046527, 66600959, 134201343, 268419071, 536870911, 1073741823] [] 0 ([(1, .int .i64 ↑i), (5, (Pv fx)), (7, (Pv wx)), (9, (Pv sx)), (10, (Pv rx)), (11, (Pv qx)), (12, (Pv nb)), (13, (Pv kb)), (16, (Pv ib)), (17, .int .i64 so.at_), (18, (Pv so.r.t.b)), (90, .int .i64 ↑pr.length), (91, (.slice wb lw.length wc)), (92, .int .i64 ↑lw.length), (93, .bool false), (94, .bool false), (95, .int .i64 so.at_), (96, (.slice wb lw.length wc)), (97, .int .i64 ↑pr.length), (98, .pointer (some ⟨bof (.slice wb lw.length wc), 0 + pr.length * 3, none⟩)), (99, .pointer (some ⟨bof (.slice wb lw.length wc), 0 + pr.length * 3 + 1, none⟩)), (100, .int .i64 so.at_), (101, .bool false), (102, .bool false), (103, .bool false), (104, (Pv so.r.t.b)), (105, (Pv F.fb)), (106, (Pv F.fb)), (107, .pointer (some ⟨F.fb, 2, none⟩)), (108, .slice F.pb F.L.length F.pc), (109, (.slice wb lw.length wc)), (110, .int .i64 ↑pr.length), (111, .pointer (some ⟨bof (.slice wb lw.length wc), 0 + pr.length * 3, none⟩)), (112, .pointer (some ⟨bof (.slice wb lw.length wc), 0 + pr.length * 3, none⟩)), (113, (Pv so.r.rb)), (114, (Pv so.r.rb)), (115, .pointer (some ⟨so.r.rb, 1, none⟩)), (116, .int .i64 ↑so.r.i), (117, .pointer (some ⟨bof (.slice F.pb F.L.length F.pc), 0 + so.r.i * 1, none⟩)), (118, (Pv so.r.t.b)), (119, .bool false), (120, .bool false)]) [V.drew] V.drew (fun w' => [(0, [w'.cell? ⟨ib, 0, none⟩ = some (.int .i64 ↑pr.length)]), (1, [w'.cell? ⟨wx, 0, none⟩ = some ((.slice wb lw.length wc))]), (2, [Sem.run Try.prog (vS (Builtin.len_ #[28] 3 #[(.slice wb lw.length wc)])) w' = .ok (.value (.int .i64 ↑lw.length)) w']), (3, [Value.bool (decide ((↑pr.length : Int) ≥ ↑lw.length)) = .bool false]), (6, [w'.cell? ⟨wx, 0, none⟩ = some ((.slice wb lw.length wc))]), (7, [w'.cell? ⟨ib, 0, none⟩ = some (.int .i64 ↑pr.length)]), (8, [Sem.run Try.prog (vS (Instr.indexAt 28 ((.slice wb lw.length wc)) (.int .i64 ↑pr.length))) w' = .ok (.value (.pointer (some ⟨bof (.slice wb lw.length wc), 0 + pr.length * 3, none⟩))) w']), (10, [w'.cell? ⟨bof (.slice wb lw.length wc), 0 + pr.length * 3 + 1, none⟩ = some (.int .i64 so.at_)]), (11, [Value.bool (((so.at_ : Int) != so.at_)) = .bool false]), (15, [w'.cell? ⟨fx, 0, none⟩ = some ((Pv F.fb))]), (18, [w'.cell? ⟨F.fb, 2, none⟩ = some (.slice F.pb F.L.length F.pc)]), (19, [w'.cell? ⟨wx, 0, none⟩ = some ((.slice wb lw.length wc))]), (20, [w'.cell? ⟨ib, 0, none⟩ = some (.int .i64 ↑pr.length)]), (21, [Sem.run Try.prog (vS (Instr.indexAt 28 ((.slice wb lw.length wc)) (.int .i64 ↑pr.length))) w' = .ok (.value (.pointer (some ⟨bof (.slice wb lw.length wc), 0 + pr.length * 3, none⟩))) w']), (23, [w'.cell? ⟨bof (.slice wb lw.length wc), 0 + pr.length * 3, none⟩ = some ((Pv so.r.rb))]), (26, [w'.cell? ⟨so.r.rb, 1, none⟩ = some (.int .i64 ↑so.r.i)]), (27, [Sem.run Try.prog (vS (Instr.indexAt 32 (.slice F.pb F.L.length F.pc) (.int .i64 ↑so.r.i))) w' = .ok (.value (.pointer (some ⟨bof (.slice F.pb F.L.length F.pc), 0 + so.r.i * 1, none⟩))) w']), (28, [w'.cell? ⟨bof (.slice F.pb F.L.length F.pc), 0 + so.r.i * 1, none⟩ = some ((Pv so.r.t.b))]), (29, [Sem.run Try.prog (vS (do eqGuard .neq 47 (.tmp 104) (.tmp 118) ((Pv so.r.t.b)) ((Pv so.r.t.b)); binOp .neq 47 ((Pv so.r.t.b)) ((Pv so.r.t.b)))) w' = .ok (.value (.bool false)) w'])]) [1, 5, 7, 9, 10, 11, 12, 13, 16, 17, 18] [] hS (by kernel_rfl) (by kernel_rfl) (by kernel_rfl) (by kernel_rfl) (fun _ => by kernel_rfl) (by kernel_rfl) (by kernel_rfl) (by kernel_rfl) ?_ ?_ ?_
            · intro e w' hw
              refine (.cons ?_ (.cons ?_ (.cons ?_ (.cons ?_ (.cons ?_ (.cons ?_ (.cons ?_ (.cons ?_ (.cons ?_ (.cons ?_ (.cons ?_ (.cons ?_ (.cons ?_ (.cons ?_ (.cons ?_ (.cons ?_ (.cons ?_ (.cons ?_ (.cons ?_ .nil)))))))))))))))))))
              · intro h1 h2
                obtain rfl : e = 0 := Nat.le_antisymm h2 h1
                obtain rfl : w' = V.drew := hw.trans (by kernel_rfl)
                exact (.cons ((hibV.drew : Blk V.drew ib 3 (#[.int .i64 ↑pr.length])).cell 0 rfl) .nil)
              · intro h1 h2
                obtain rfl : e = 0 := Nat.le_antisymm h2 h1
                obtain rfl : w' = V.drew := hw.trans (by kernel_rfl)
                exact (.cons ((hCwxV.drew : Blk V.drew wx 28 (#[(.slice wb lw.length wc)])).cell 0 rfl) .nil)
              · exact fun _ _ => (.cons (run_len_own hO (by kernel_rfl)) .nil)
              · exact fun _ _ => (.cons (as_f (by omega)) .nil)
              · intro h1 h2
                obtain rfl : e = 0 := Nat.le_antisymm h2 h1
                obtain rfl : w' = V.drew := hw.trans (by kernel_rfl)
                exact (.cons ((hCwxV.drew : Blk V.drew wx 28 (#[(.slice wb lw.length wc)])).cell 0 rfl) .nil)
              · intro h1 h2
                obtain rfl : e = 0 := Nat.le_antisymm h2 h1
                obtain rfl : w' = V.drew := hw.trans (by kernel_rfl)
                exact (.cons ((hibV.drew : Blk V.drew ib 3 (#[.int .i64 ↑pr.length])).cell 0 rfl) .nil)
              · exact fun _ _ => (.cons (ix_own (j := pr.length) hO (by kernel_rfl) (by kernel_rfl) rfl hjl) .nil)
              · intro h1 h2
                obtain rfl : e = 0 := Nat.le_antisymm h2 h1
                obtain rfl : w' = V.drew := hw.trans (by kernel_rfl)
                exact (.cons (hOV.cellAt _ (by have h := spc_at lw pr.length 1 _ hso (by omega); simpa [Rf.ptr] using h)) .nil)
              · exact fun _ _ => (.cons (as_ne_f (rfl)) .nil)
              · intro h1 h2
                obtain rfl : e = 0 := Nat.le_antisymm h2 h1
                obtain rfl : w' = V.drew := hw.trans (by kernel_rfl)
                exact (.cons ((hCfxV.drew : Blk V.drew fx 24 (#[(Pv F.fb)])).cell 0 rfl) .nil)
              · intro h1 h2
                obtain rfl : e = 0 := Nat.le_antisymm h2 h1
                obtain rfl : w' = V.drew := hw.trans (by kernel_rfl)
                exact (.cons ((hFV.f.drew : Blk V.drew F.fb 35 (#[(Pv F.s0), (Pv F.s1), .slice F.pb F.L.length F.pc, .slice F.qb F.L.length F.qc, .slice F.bb F.bn F.bc])).cell 2 rfl) .nil)
              · intro h1 h2
                obtain rfl : e = 0 := Nat.le_antisymm h2 h1
                obtain rfl : w' = V.drew := hw.trans (by kernel_rfl)
                exact (.cons ((hCwxV.drew : Blk V.drew wx 28 (#[(.slice wb lw.length wc)])).cell 0 rfl) .nil)
              · intro h1 h2
                obtain rfl : e = 0 := Nat.le_antisymm h2 h1
                obtain rfl : w' = V.drew := hw.trans (by kernel_rfl)
                exact (.cons ((hibV.drew : Blk V.drew ib 3 (#[.int .i64 ↑pr.length])).cell 0 rfl) .nil)
              · exact fun _ _ => (.cons (ix_own (j := pr.length) hO (by kernel_rfl) (by kernel_rfl) rfl hjl) .nil)
              · intro h1 h2
                obtain rfl : e = 0 := Nat.le_antisymm h2 h1
                obtain rfl : w' = V.drew := hw.trans (by kernel_rfl)
                exact (.cons (hOV.cellAt _ (by have h := spc_at lw pr.length 0 _ hso (by omega); simpa [Rf.ptr] using h)) .nil)
              · intro h1 h2
                obtain rfl : e = 0 := Nat.le_antisymm h2 h1
                obtain rfl : w' = V.drew := hw.trans (by kernel_rfl)
                exact (.cons ((hBo.drew : Blk V.drew so.r.rb 40 (#[.int .i64 so.r.k, .int .i64 ↑so.r.i, .int .i64 so.r.t.kd, .int .i64 so.r.t.nn, .int .i64 so.r.t.lk, .int .i64 so.r.t.ls, .int .i64 so.r.t.ll, .int .i64 so.r.t.lr, so.r.kv, .int .i64 so.r.t.tt])).cell 1 rfl) .nil)
              · exact fun _ _ => (.cons (ix_own (j := so.r.i) (hFV.P) (by kernel_rfl) (by kernel_rfl) rfl hoi) .nil)
              · intro h1 h2
                obtain rfl : e = 0 := Nat.le_antisymm h2 h1
                obtain rfl : w' = V.drew := hw.trans (by kernel_rfl)
                exact (.cons ((hFV.P.drew : OwnV V.drew 47 1 (.slice F.pb F.L.length F.pc) F.L.length (F.L.map fun r => r.t.ptr)).cellAt _ (by simp [hoL, Tr.ptr])) .nil)
              · intro h1 h2
                obtain rfl : e = 0 := Nat.le_antisymm h2 h1
                obtain rfl : w' = V.drew := hw.trans (by kernel_rfl)
                exact (.cons (bin_ptr_neq (E := 106) (by kernel_rfl) ⟨12, by kernel_rfl⟩ (hTo.drew) (hTo.drew) (by simp)) .nil)
            · refine .nil
            rintro a w563 hS hw564
            replace hw564 : w563 = V.drew := hw564.trans (by kernel_rfl)
            have hB565 := Blk.at' hw564 (hCfxV.drew)
            have hB566 := Blk.at' hw564 (hCwxV.drew)
            have hB567 := Blk.at' hw564 (hibV.drew)
            have hB568 := Blk.at' hw564 (hFV.f.drew)
            have hB569 := OwnV.at' hw564 (hFV.P.drew)
            have hB570 := Blk.at' hw564 (hBo.drew)
            have hB571 := Blk.at' hw564 (hTo.drew)
            have hE572 : Ext [ib] V w563 := by rw [hw564]; exact hVV.drew
            replace hS := hS.keepTo [1, 5, 7, 9, 10, 11, 12, 13, 16, 17, 18, 120] (m' := [(1, .int .i64 ↑i), (5, (Pv fx)), (7, (Pv wx)), (9, (Pv sx)), (10, (Pv rx)), (11, (Pv qx)), (12, (Pv nb)), (13, (Pv kb)), (16, (Pv ib)), (17, .int .i64 so.at_), (18, (Pv so.r.t.b)), (120, .bool false)]) (by kernel_rfl)
            refine hK561 _ _ ?_
            refine cond_f hS rfl ?_
            refine wpIn_skip ?_
            refine hK560 _ _ ?_
            refine region 3 (by kernel_rfl) ?_
            refine seg (wide_wide.inRound l3) [.ld (.int .i64 ↑pr.length), .as (.int .i64 (↑pr.length + 1))] [1, 5, 7, 9, 10, 11, 12, 13, 16, 17, 18, 120, 122] [w563.cell? ⟨ib, 0, none⟩ = some (.int .i64 ↑pr.length), Value.int .i64 (IntKind.i64.wrap (↑pr.length + 1)) = .int .i64 (↑pr.length + 1)] [(1, .int .i64 ↑i), (5, (Pv fx)), (7, (Pv wx)), (9, (Pv sx)), (10, (Pv rx)), (11, (Pv qx)), (12, (Pv nb)), (13, (Pv kb)), (16, (Pv ib)), (17, .int .i64 so.at_), (18, (Pv so.r.t.b)), (120, .bool false), (122, .int .i64 (↑pr.length + 1))] 2 1 hS (by kernel_rfl) (by kernel_rfl) (by kernel_rfl) (.cons (hB567.cell 0 rfl) (.cons (as_i64 (by omega)) .nil)) fun a hS => ?_
            refine eff_store (wide_wide.inRound l3) (r := 0) (b := ib) (off := 0) (vs := [.int .i64 (↑pr.length + 1)]) hS (by kernel_rfl) hB567 (by simp) fun a w573 hw574 hS => ?_
            have hB575 := Blk.at' hw574 (hB565.updNe (Ne.symm hmifx) _ _)
            have hB576 := Blk.at' hw574 (hB566.updNe (Ne.symm hmiwx) _ _)
            have hB577 : Blk w573 ib 3 (#[.int .i64 (↑pr.length + 1)]) := by rw [hw574]; exact hB567.upd _ _
            have hB578 := Blk.at' hw574 (hB568.updNe (Blk.ne_type hB567 hB568 (by decide)) _ _)
            have hB579 := OwnV.at' hw574 (hB569.updNe hgpV _ _)
            have hB580 := Blk.at' hw574 (hB570.updNe (Blk.ne_type hB567 hB570 (by decide)) _ _)
            have hB581 := Blk.at' hw574 (hB571.updNe (Blk.ne_type hB567 hB571 (by decide)) _ _)
            have hE582 : Ext [ib] V w573 := by rw [hw574]; exact hE572.updIn (.inl (by simp)) _ _
            refine seg_end ?_
            refine inBlock_normal ?_
            exact left_normal (C' := [ib]) hE582 (Fresh.refl _ _) (hlieV.ext hE582) ⟨rfl, by simpa using hB577⟩
          · rintro Cx V2 a hEV2 hfr2 hlie2 ⟨rfl, hib2⟩ hS
            rw [hxl] at hib2
            have hEi2 : Ext [kb] W V2 := hEi9.trans hEV2 (by intro b hb; obtain rfl := (by simpa using hb : b = ib); exact .inr hibn)
            replace hS : St 141 [] [(1, .int .i64 ↑i), (5, (Pv fx)), (7, (Pv wx)), (9, (Pv sx)), (10, (Pv rx)), (11, (Pv qx)), (12, (Pv nb)), (13, (Pv kb)), (16, (Pv ib))] a := hS.keepTo [1, 5, 7, 9, 10, 11, 12, 13, 16] (by kernel_rfl)
            have hCfx2 := hCfx9.ext hEV2 (by simpa using hmifx)
            have hCwx2 := hCwx9.ext hEV2 (by simpa using hmiwx)
            have hCsx2 := hCsx9.ext hEV2 (by simpa using hmisx)
            have hCrx2 := hCrx9.ext hEV2 (by simpa using hmirx)
            have hCqx2 := hCqx9.ext hEV2 (by simpa using hmiqx)
            have hCbx2 := hCbx9.ext hEV2 (by simpa using hmibx)
            have hCnb2 := hCnb9.ext hEV2 (by simpa using hminb)
            have hCkb2 := hCkb9.ext hEV2 (by simpa using hmikb)
            refine inBlock_normal ?_
            refine hK557 _ _ ?_
            refine wpIn_seq_k fun K583 hK583 => ?_
            refine region 4 (by kernel_rfl) ?_
            refine seg (wide_wide.inRound l2) [.ld (.int .i64 ↑lw.length), .ld ((.slice wb lw.length wc)), .run (.int .i64 ↑lw.length), .as (.bool false)] [1, 5, 7, 9, 10, 11, 12, 13, 16, 126] [V2.cell? ⟨ib, 0, none⟩ = some (.int .i64 ↑lw.length), V2.cell? ⟨wx, 0, none⟩ = some ((.slice wb lw.length wc)), Sem.run Try.prog (vS (Builtin.len_ #[28] 3 #[(.slice wb lw.length wc)])) V2 = .ok (.value (.int .i64 ↑lw.length)) V2, Value.bool (((↑lw.length : Int) != ↑lw.length)) = .bool false] [(1, .int .i64 ↑i), (5, (Pv fx)), (7, (Pv wx)), (9, (Pv sx)), (10, (Pv rx)), (11, (Pv qx)), (12, (Pv nb)), (13, (Pv kb)), (16, (Pv ib)), (126, .bool false)] 4 0 hS (by kernel_rfl) (by kernel_rfl) (by kernel_rfl) (.cons (hib2.cell 0 rfl) (.cons (hCwx2.cell 0 rfl) (.cons (run_len_own hO (by kernel_rfl)) (.cons (as_ne_f (rfl)) .nil)))) fun a hS => ?_
            refine seg_end ?_
            refine hK583 _ _ ?_
            refine cond_f hS rfl ?_
            refine wpIn_skip ?_
            refine inBlock_normal ?_
            exact left_normal (C' := [kb]) hEi2 (Fresh.refl _ _) (hlieW.ext hEi2) ⟨rfl, by simpa using hCkb2⟩
          · intro c pre Cx W a _ _ _ _ h; exact h.elim
        · -- ((↑pre.length + 1 : Int) == 2) is false
          replace hb510 := test_eq_f hb510
          refine wpIn_skip ?_
          refine inBlock_normal ?_
          exact left_normal (C' := [kb]) hE508 (Fresh.refl _ _) (hlieW.ext hE508) ⟨rfl, by simpa using hB503⟩
      · rintro Cx w10 a hE910 hfr10 hlie10 hD10 ⟨rfl, hkb10⟩ hS
        rw [hxl] at hkb10
        have hnk : ∀ {T : TypeId} {cs : Array Value} {b : Nat}, Blk w456 b T cs → b ≠ kb → b ∉ [kb] := fun _ h2 hm => h2 (by simpa using hm)
        have hEl10 : Ext [] w154 w10 := hE9.trans hE910 (by intro b hb; obtain rfl := (by simpa using hb : b = kb); exact .inr hkbn)
        obtain ⟨D0, hD0e⟩ : ∃ D, D = w456.heap.size := ⟨_, rfl⟩
        rw [← hD0e] at hD10 hS
        have hD0n : w154.heap.size ≤ D0 := by rw [hD0e]; exact hl9
        have hDs10 : ∀ D ∈ D0 :: Ds, Dfr w10 D := fun D hD => by
          rcases List.mem_cons.1 hD with rfl | hD
          · exact hD10
          · exact (hD9 D hD).ext hE910 (by simpa using (hD9 D hD).ne_blk hkb0)
        have hnd2 : (D0 :: Ds).Nodup := List.nodup_cons.2 ⟨fun h => by have := (hD9 D0 h).lt; omega, hnd⟩
        have hDn2 : ∀ D ∈ D0 :: Ds, w154.heap.size ≤ D := fun D hD => by
          rcases List.mem_cons.1 hD with rfl | hD
          · exact hD0n
          · exact hDn D hD
        replace hS : St 141 ((D0 :: Ds).map dmark) [(1, .int .i64 ↑i), (5, (Pv fx)), (7, (Pv wx)), (9, (Pv sx)), (10, (Pv rx)), (11, (Pv qx)), (12, (Pv nb)), (13, (Pv kb))] a := hS.keepTo [1, 5, 7, 9, 10, 11, 12, 13] (by kernel_rfl)
        have hBfx10 := hBfx9.ext hE910 (by simpa using hnefx)
        have hBwx10 := hBwx9.ext hE910 (by simpa using hnewx)
        have hBsx10 := hBsx9.ext hE910 (by simpa using hnesx)
        have hBrx10 := hBrx9.ext hE910 (by simpa using hnerx)
        have hBqx10 := hBqx9.ext hE910 (by simpa using hneqx)
        have hBbx10 := hBbx9.ext hE910 (by simpa using hnebx)
        have hBnb10 := hBnb9.ext hE910 (by simpa using hnenb)
        refine inBlock_normal ?_
        refine hK470 _ _ ?_
        refine wpIn_seq_k fun K584 hK584 => ?_
        refine region 13 (by kernel_rfl) ?_
        refine seg wide_wide [.ld (.int .i64 ↑lw.length), .ld ((.slice wb lw.length wc)), .run (.int .i64 ↑lw.length), .as (.bool false), .p, .no, .no, .no, .no, .no, .no, .no, .p] [1, 5, 7, 9, 10, 11, 12, 13, 139] [w10.cell? ⟨kb, 0, none⟩ = some (.int .i64 ↑lw.length), w10.cell? ⟨wx, 0, none⟩ = some ((.slice wb lw.length wc)), Sem.run Try.prog (vS (Builtin.len_ #[28] 3 #[(.slice wb lw.length wc)])) w10 = .ok (.value (.int .i64 ↑lw.length)) w10, Value.bool (((↑lw.length : Int) != ↑lw.length)) = .bool false] [(1, .int .i64 ↑i), (5, (Pv fx)), (7, (Pv wx)), (9, (Pv sx)), (10, (Pv rx)), (11, (Pv qx)), (12, (Pv nb)), (13, (Pv kb)), (139, .bool false)] 13 0 hS (by kernel_rfl) (by kernel_rfl) (by kernel_rfl) (.cons (hkb10.cell 0 rfl) (.cons (hBwx10.cell 0 rfl) (.cons (run_len_own hO (by kernel_rfl)) (.cons (as_ne_f (rfl)) .nil)))) fun a hS => ?_
        refine seg_end ?_
        refine hK584 _ _ ?_
        refine cond_f hS rfl ?_
        refine wpIn_skip ?_
        refine inBlock_normal ?_
        refine hK171 _ _ ?_
        refine wpIn_seq_k fun K585 hK585 => ?_
        refine wpIn_seq_k fun K586 hK586 => ?_
        refine region 1 (by kernel_rfl) ?_
        refine seg wide_wide [.ld (.int .i64 1)] [1, 5, 7, 9, 10, 11, 12, 13, 139, 140] [w10.cell? ⟨nb, 0, none⟩ = some (.int .i64 1)] [(1, .int .i64 ↑i), (5, (Pv fx)), (7, (Pv wx)), (9, (Pv sx)), (10, (Pv rx)), (11, (Pv qx)), (12, (Pv nb)), (13, (Pv kb)), (139, .bool false), (140, .int .i64 1)] 1 0 hS (by kernel_rfl) (by kernel_rfl) (by kernel_rfl) (.cons (hBnb10.cell 0 rfl) .nil) fun a hS => ?_
        refine seg_end ?_
        refine hK586 _ _ ?_
        refine region 2 (by kernel_rfl) ?_
        refine eff_box wide_wide (r := 1) (cs := #[.int .i64 0]) (T := 3) (d := (some 12)) hS (by kernel_rfl) fun a w587 hw588 hS => ?_
        have hn589 : fx ≠ w10.heap.size := Nat.ne_of_lt hBfx10.lt
        have hn590 : wx ≠ w10.heap.size := Nat.ne_of_lt hBwx10.lt
        have hn591 : sx ≠ w10.heap.size := Nat.ne_of_lt hBsx10.lt
        have hn592 : rx ≠ w10.heap.size := Nat.ne_of_lt hBrx10.lt
        have hn593 : qx ≠ w10.heap.size := Nat.ne_of_lt hBqx10.lt
        have hn594 : bx ≠ w10.heap.size := Nat.ne_of_lt hBbx10.lt
        have hn595 : nb ≠ w10.heap.size := Nat.ne_of_lt hBnb10.lt
        have hn596 : kb ≠ w10.heap.size := Nat.ne_of_lt hkb10.lt
        have hB597 := Blk.at' hw588 (hBfx10.alloc _)
        have hB598 := Blk.at' hw588 (hBwx10.alloc _)
        have hB599 := Blk.at' hw588 (hBsx10.alloc _)
        have hB600 := Blk.at' hw588 (hBrx10.alloc _)
        have hB601 := Blk.at' hw588 (hBqx10.alloc _)
        have hB602 := Blk.at' hw588 (hBbx10.alloc _)
        have hB603 := Blk.at' hw588 (hBnb10.alloc _)
        have hB604 := Blk.at' hw588 (hkb10.alloc _)
        have hX605 : Ext [] w10 w587 := by rw [hw588]; exact (Ext.refl _ _).alloc _
        have hG606 : ∀ D ∈ D0 :: Ds, Dfr w587 D := fun D hD => (hDs10 D hD).ext hX605 (by simp)
        have hB607 : Blk w587 (w10.heap.size) 3 #[.int .i64 0] := by rw [hw588]; exact Blk.new _ _ _
        have hs608 : w154.heap.size ≤ w10.heap.size := hEl10.size
        have hE609 : Ext [] w154 w587 := by rw [hw588]; exact hEl10.alloc _
        refine eff_store wide_wide (r := 0) (b := w10.heap.size) (off := 0) (vs := [.int .i64 1]) hS (by kernel_rfl) hB607 (by simp) fun a w610 hw611 hS => ?_
        have hB612 := Blk.at' hw611 (hB597.updNe (Ne.symm hn589) _ _)
        have hB613 := Blk.at' hw611 (hB598.updNe (Ne.symm hn590) _ _)
        have hB614 := Blk.at' hw611 (hB599.updNe (Ne.symm hn591) _ _)
        have hB615 := Blk.at' hw611 (hB600.updNe (Ne.symm hn592) _ _)
        have hB616 := Blk.at' hw611 (hB601.updNe (Ne.symm hn593) _ _)
        have hB617 := Blk.at' hw611 (hB602.updNe (Ne.symm hn594) _ _)
        have hB618 := Blk.at' hw611 (hB603.updNe (Ne.symm hn595) _ _)
        have hB619 := Blk.at' hw611 (hB604.updNe (Ne.symm hn596) _ _)
        have hB620 : Blk w610 w10.heap.size 3 (#[.int .i64 1]) := by rw [hw611]; exact hB607.upd _ _
        have hX621 : Ext [w10.heap.size] w587 w610 := by rw [hw611]; exact (Ext.refl _ _).updIn (.inl (by simp)) _ _
        have hG622 : ∀ D ∈ D0 :: Ds, Dfr w610 D := fun D hD => (hG606 D hD).ext hX621 (by simpa using (hG606 D hD).ne_blk hB607)
        have hE623 : Ext [] w154 w610 := by rw [hw611]; exact hE609.updIn (.inr hs608) _ _
        refine seg_end ?_
        refine hK585 _ _ ?_
        refine region 3 (by kernel_rfl) ?_
        refine seg wide_wide [.ld (.int .i64 1), .p] [1, 5, 7, 9, 10, 11, 12, 13, 139, 140, 41] [w610.cell? ⟨w10.heap.size, 0, none⟩ = some (.int .i64 1)] [(1, .int .i64 ↑i), (5, (Pv fx)), (7, (Pv wx)), (9, (Pv sx)), (10, (Pv rx)), (11, (Pv qx)), (12, (Pv w10.heap.size)), (13, (Pv kb)), (139, .bool false), (140, .int .i64 1), (41, .int .i64 2)] 2 1 hS (by kernel_rfl) (by kernel_rfl) (by kernel_rfl) (.cons (hB620.cell 0 rfl) .nil) fun a hS => ?_
        refine eff_store wide_wide (r := 0) (b := w10.heap.size) (off := 0) (vs := [.int .i64 2]) hS (by kernel_rfl) hB620 (by simp) fun a w624 hw625 hS => ?_
        have hB626 := Blk.at' hw625 (hB612.updNe (Ne.symm hn589) _ _)
        have hB627 := Blk.at' hw625 (hB613.updNe (Ne.symm hn590) _ _)
        have hB628 := Blk.at' hw625 (hB614.updNe (Ne.symm hn591) _ _)
        have hB629 := Blk.at' hw625 (hB615.updNe (Ne.symm hn592) _ _)
        have hB630 := Blk.at' hw625 (hB616.updNe (Ne.symm hn593) _ _)
        have hB631 := Blk.at' hw625 (hB617.updNe (Ne.symm hn594) _ _)
        have hB632 := Blk.at' hw625 (hB618.updNe (Ne.symm hn595) _ _)
        have hB633 := Blk.at' hw625 (hB619.updNe (Ne.symm hn596) _ _)
        have hB634 : Blk w624 w10.heap.size 3 (#[.int .i64 2]) := by rw [hw625]; exact hB620.upd _ _
        have hX635 : Ext [w10.heap.size] w610 w624 := by rw [hw625]; exact (Ext.refl _ _).updIn (.inl (by simp)) _ _
        have hG636 : ∀ D ∈ D0 :: Ds, Dfr w624 D := fun D hD => (hG622 D hD).ext hX635 (by simpa using (hG622 D hD).ne_blk hB620)
        have hE637 : Ext [] w154 w624 := by rw [hw625]; exact hE623.updIn (.inr hs608) _ _
        refine seg_end ?_
        exact ⟨(2, w10.heap.size, D0 :: Ds), ⟨hS.keepTo [1, 5, 7, 9, 10, 11, 12] (by kernel_rfl), by omega, hE637, hB634, hG636, hnd2, hDn2⟩, by simp⟩
      · intro c pre Cx W a _ _ _ _ _ h; exact h.elim
  · -- decide ((↑n : Int) < 2) is false
    replace hb170 := of_decide_eq_false hb170
    have hEw1 : Ext [] w w1 := hE0l.trans0 hEl
    refine wpIn_exit ?_
    refine then_exit ?_
    refine then_exit ?_
    refine inBlock_hit ?_
    refine hK127 _ _ ?_
    refine wpIn_seq_k fun K638 hK638 => ?_
    refine region 1 (by kernel_rfl) ?_
    refine eff_store wide_wide (r := 0) (b := rx) (off := 0) (vs := [.bool true]) hS (by kernel_rfl) hBrx1 (by simp) fun a w639 hw640 hS => ?_
    have hB641 := Blk.at' hw640 (hBfx1.updNe (Blk.ne_type hBrx1 hBfx1 (by decide)) _ _)
    have hB642 := Blk.at' hw640 (hBwx1.updNe (Blk.ne_type hBrx1 hBwx1 (by decide)) _ _)
    have hB643 := Blk.at' hw640 (hBsx1.updNe (Blk.ne_type hBrx1 hBsx1 (by decide)) _ _)
    have hB644 : Blk w639 rx 4 (#[.bool true]) := by rw [hw640]; exact hBrx1.upd _ _
    have hB645 := Blk.at' hw640 (hBqx1.updNe (Blk.ne_type hBrx1 hBqx1 (by decide)) _ _)
    have hB646 := Blk.at' hw640 (hBbx1.updNe (Blk.ne_type hBrx1 hBbx1 (by decide)) _ _)
    have hB647 := Blk.at' hw640 (hnb.updNe (Blk.ne_type hBrx1 hnb (by decide)) _ _)
    have hB648 := Blk.at' hw640 (hF1.f.updNe (Blk.ne_type hBrx1 hF1.f (by decide)) _ _)
    have hX649 : Ext [rx] w1 w639 := by rw [hw640]; exact (Ext.refl _ _).updIn (.inl (by simp)) _ _
    have hG650 : ∀ D ∈ Ds, Dfr w639 D := fun D hD => (hDs D hD).ext hX649 (by simpa using (hDs D hD).ne_blk hBrx1)
    have hE651 : Ext [] w w639 := by rw [hw640]; exact hEw1.updIn (.inr hnrx) _ _
    refine seg_end ?_
    refine hK638 _ _ ?_
    refine wpIn_ret ?_
    refine retMc Ds (T' := 4) hS Try.results15 (by kernel_rfl) rfl hB644 hG650 hnd fun w99 hE99 => ?_
    exact ⟨rfl, (hE651).trans hE99 (fun D hD => .inr (Nat.le_trans hE0l.size (hDn D hD)))⟩

end Go.Proofs.Ytpglmeeledmkoaa
