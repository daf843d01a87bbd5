import Derived.Test.YtkkpghlcmcaoiaaDoorS27
import Derived.Test.YtkkpghlcmcaoiaaDoorS23
namespace Go.Proofs.YtkkpghlcmcaoiaaDoor
open Go.Vc Go.Gm

set_option maxHeartbeats 1000000 in
theorem SetsBehind_any {w0 w : World} {S : Sp} (hG : SpOk w0 S) (hb : Ext [] w0 w) (hT : Tab w0) {pa : Option Addr} {np pc : Nat} {ts : List Int} (hp : RdV w0 1 (.slice pa np pc) np (its ts)) (hpm0 : np ≤ 1048576) :
  Calls Tryd.prog 5 #[.agg S.ca, (.slice pa np pc)] w fun e w' => e = .returned (.bool true) ∧ Ext [] w w' := by
 have hlmax := hG.lmax
 have hnmax := hG.nmax
 have hpmax := hG.pmax
 refine calls_body 71 [(0, .agg S.ca), (1, (.slice pa np pc))] Tryd.func5 rfl (by kernel_rfl) (by kernel_rfl) (by kernel_rfl) fun a hS => ?_
 have hE0 : Ext [] w w := Ext.refl _ _
 refine sq fun K1 hK1 => rgn 2 <| eff_box ww (r := 1) (cs := S.ca) (T := 26) (d := (some 2)) hS (by kernel_rfl) fun a w2 hw3 hS => ?_
 have hB4 : Blk w2 (w.heap.size) 26 S.ca := by rw [hw3]; exact Blk.new _ _ _
 have hs5 : w.heap.size ≤ w.heap.size := hE0.size
 have hE6 : Ext [] w w2 := by rw [hw3]; exact hE0.alloc _
 refine sd ww [.p] [] [(4, .bool false)] [] 2 0 hS .nil fun a hS => seg_end <| hK1 _ _ <| sq fun K7 hK7 => rgn 10 <| sd ww [.lds [S.lv, S.nv, I6 S.st, S.pv]] [w2.cell? ⟨w.heap.size, 0, none⟩ = some (S.lv), w2.cell? ⟨w.heap.size, 1, none⟩ = some (S.nv), w2.cell? ⟨w.heap.size, 2, none⟩ = some (I6 S.st), w2.cell? ⟨w.heap.size, 3, none⟩ = some (S.pv)] [(13, .agg S.ca)] [] 1 9 hS (.cons (hB4.cell 0 rfl) (.cons (hB4.cell 1 rfl) (.cons (hB4.cell 2 rfl) (.cons (hB4.cell 3 rfl) .nil)))) fun a hS => eff_call ww (r := 8) (f := 27) (vs := [.agg S.ca]) (cap := #[]) (d := (some 14)) hS (by kernel_rfl) Tryd.call27 #[.agg S.ca] (by kernel_rfl) (told_any hG (hb.trans0 hE6) hT) ?_
 rintro _ wtT ⟨z, hZT, ⟨hzT, rfl⟩ | ⟨hzT, T, rfl, hTT⟩, hEtT⟩
 ·
  refine ⟨_, rfl, fun a hS => ?_⟩
  have hE9 := hE6.trans0 hEtT
  refine sd ww [.p, .p, .p, .p] [] [(15, .agg #[.slice none 0 0, .slice none 0 0, .slice none 0 0, .slice none 0 0, .bool false]), (16, .bool false), (17, .bool true)] [] 6 4 hS .nil fun a hS => eff_box ww (r := 3) (cs := #[.slice none 0 0, .slice none 0 0, .slice none 0 0, .slice none 0 0, .bool false]) (T := 53) (d := (some 5)) hS (by kernel_rfl) fun a w10 hw11 hS => ?_
  have hB14 : Blk w10 (wtT.heap.size) 53 #[.slice none 0 0, .slice none 0 0, .slice none 0 0, .slice none 0 0, .bool false] := by rw [hw11]; exact Blk.new _ _ _
  have hs15 : w.heap.size ≤ wtT.heap.size := hE9.size
  have hE16 : Ext [] w w10 := by rw [hw11]; exact hE9.alloc _
  refine eff_store ww (r := 2) (b := wtT.heap.size) (off := 0) (vs := [.slice none 0 0, .slice none 0 0, .slice none 0 0, .slice none 0 0, .bool false]) hS (by kernel_rfl) hB14 (by simp) fun a w17 hw18 hS => ?_
  have hE21 : Ext [] w w17 := by rw [hw18]; exact hE16.updIn (.inr hs15) _ _
  refine sd ww [.p, .p] [] [(6, .bool false), (7, .bool true)] [] 10 0 hS .nil fun a hS => seg_end <| hK7 _ _ <| sq fun K22 hK22 => sq fun K23 hK23 => rgn 2 <| sd ww [.p, .p] [] [(19, .bool true)] [] 2 0 hS .nil fun a hS => seg_end <| hK23 _ _ ?_
  refine cond_t hS rfl ?_
  refine sq fun K24 hK24 => rgn 5 <| sd ww [.p, .p] [] [(21, .bool true)] [] 2 3 hS .nil fun a hS => eff_call ww (r := 2) (f := 12) (vs := []) (cap := #[]) (d := (some 22)) hS (by kernel_rfl) Tryd.call12 #[] (by kernel_rfl) (Head_any (hT.ext0 (hb.trans0 hE21))) ?_
  rintro _ wc25 ⟨rfl, hEc25⟩
  refine ⟨_, rfl, fun a hS => ?_⟩
  have hE28 := hE21.trans0 hEc25
  refine sg ww [.p, .p] [] [(0, .agg S.ca), (1, (.slice pa np pc)), (2, (Pv w.heap.size)), (4, .bool true), (5, (Pv wtT.heap.size)), (6, .bool false), (7, .bool true), (19, .bool true)] 5 0 hS .nil fun a hS => seg_end <| hK24 _ _ <| wpIn_ret <| then_ret ?_
  refine ret1 hS Tryd.results5 rfl ?_
  exact ⟨rfl, hE28⟩
 ·
  refine ⟨_, rfl, fun a hS => ?_⟩
  have hB29 := hB4.ext hEtT (by simp)
  have hE30 := hE6.trans0 hEtT
  have hok := hZT.zero.2.1 hzT
  have hTT0 := hTT
  have hst := hok.ix.st
  refine sd ww [.p, .p, .p, .p] [] [(15, .agg #[Sl T.eg S.ns.length S.ns.length, .slice T.fb S.ns.length T.fc, .slice T.wb S.ns.length T.wc, .slice T.yb T.yn T.yc, .bool T.full]), (16, .bool true), (17, .bool true)] [] 6 4 hS .nil fun a hS => eff_box ww (r := 3) (cs := #[.slice none 0 0, .slice none 0 0, .slice none 0 0, .slice none 0 0, .bool false]) (T := 53) (d := (some 5)) hS (by kernel_rfl) fun a w31 hw32 hS => ?_
  have hn33 : w.heap.size ≠ wtT.heap.size := Nat.ne_of_lt hB29.lt
  have hB34 := Blk.at' hw32 (hB29.alloc _)
  have hX35 : Ext [] wtT w31 := by rw [hw32]; exact (Ext.refl _ _).alloc _
  have hG36 : TdOk S w2.heap.size w31 T := hTT.ext0 hX35
  have hB37 : Blk w31 (wtT.heap.size) 53 #[.slice none 0 0, .slice none 0 0, .slice none 0 0, .slice none 0 0, .bool false] := by rw [hw32]; exact Blk.new _ _ _
  have hs38 : w.heap.size ≤ wtT.heap.size := hE30.size
  have hE39 : Ext [] w w31 := by rw [hw32]; exact hE30.alloc _
  refine eff_store ww (r := 2) (b := wtT.heap.size) (off := 0) (vs := [Sl T.eg S.ns.length S.ns.length, .slice T.fb S.ns.length T.fc, .slice T.wb S.ns.length T.wc, .slice T.yb T.yn T.yc, .bool T.full]) hS (by kernel_rfl) hB37 (by simp) fun a w40 hw41 hS => ?_
  have hB42 := Blk.at' hw41 (hB34.updNe (Ne.symm hn33) _ _)
  have hB43 : Blk w40 wtT.heap.size 53 (#[Sl T.eg S.ns.length S.ns.length, .slice T.fb S.ns.length T.fc, .slice T.wb S.ns.length T.wc, .slice T.yb T.yn T.yc, .bool T.full]) := by rw [hw41]; exact hB37.upd _ _
  have hX44 : Ext [wtT.heap.size] w31 w40 := by rw [hw41]; exact (Ext.refl _ _).updIn (.inl (by simp)) _ _
  have hG45 : TdOk S w2.heap.size w40 T := hG36.extT hX44 hB37 (by decide) (by decide) (by decide)
  have hE46 : Ext [] w w40 := by rw [hw41]; exact hE39.updIn (.inr hs38) _ _
  refine sd ww [.p, .p] [] [(6, .bool true), (7, .bool true)] [] 10 0 hS .nil fun a hS => seg_end <| hK7 _ _ <| sq fun K47 hK47 => sq fun K48 hK48 => rgn 2 <| sd ww [.p, .p] [] [(19, .bool false)] [] 2 0 hS .nil fun a hS => seg_end <| hK48 _ _ ?_
  refine cond_f hS rfl ?_
  refine wpIn_skip <| hK47 _ _ <| sq fun K49 hK49 => rgn 5 <| sd ww [.lds [S.lv, S.nv, I6 S.st, S.pv], .p, .p] [w40.cell? ⟨w.heap.size, 0, none⟩ = some (S.lv), w40.cell? ⟨w.heap.size, 1, none⟩ = some (S.nv), w40.cell? ⟨w.heap.size, 2, none⟩ = some (I6 S.st), w40.cell? ⟨w.heap.size, 3, none⟩ = some (S.pv)] [(26, .agg #[S.lv, S.nv, I6 S.st, S.pv, (.slice pa np pc), I6 0, .slice none 0 0, I6 0])] [] 3 2 hS (.cons (hB42.cell 0 rfl) (.cons (hB42.cell 1 rfl) (.cons (hB42.cell 2 rfl) (.cons (hB42.cell 3 rfl) .nil)))) fun a hS => eff_box ww (r := 1) (cs := #[S.lv, S.nv, I6 S.st, S.pv, (.slice pa np pc), I6 0, .slice none 0 0, I6 0]) (T := 58) (d := (some 27)) hS (by kernel_rfl) fun a w50 hw51 hS => ?_
  have hn52 : w.heap.size ≠ w40.heap.size := Nat.ne_of_lt hB42.lt
  have hn53 : wtT.heap.size ≠ w40.heap.size := Nat.ne_of_lt hB43.lt
  have hB54 := Blk.at' hw51 (hB42.alloc _)
  have hB55 := Blk.at' hw51 (hB43.alloc _)
  have hX56 : Ext [] w40 w50 := by rw [hw51]; exact (Ext.refl _ _).alloc _
  have hG57 : TdOk S w2.heap.size w50 T := hG45.ext0 hX56
  have hB58 : Blk w50 (w40.heap.size) 58 #[S.lv, S.nv, I6 S.st, S.pv, (.slice pa np pc), I6 0, .slice none 0 0, I6 0] := by rw [hw51]; exact Blk.new _ _ _
  have hs59 : w.heap.size ≤ w40.heap.size := hE46.size
  have hE60 : Ext [] w w50 := by rw [hw51]; exact hE46.alloc _
  refine sg ww [.p] [] [(0, .agg S.ca), (1, (.slice pa np pc)), (2, (Pv w.heap.size)), (4, .bool false), (5, (Pv wtT.heap.size)), (6, .bool true), (7, .bool true), (19, .bool false), (8, (Pv w40.heap.size))] 5 0 hS .nil fun a hS => seg_end <| hK49 _ _ <| sq fun K61 hK61 => rgn 1 <| eff_box ww (r := 0) (cs := #[.slice none 0 0]) (T := 65) (d := (some 9)) hS (by kernel_rfl) fun a w62 hw63 hS => ?_
  have hn64 : w.heap.size ≠ w50.heap.size := Nat.ne_of_lt hB54.lt
  have hn65 : wtT.heap.size ≠ w50.heap.size := Nat.ne_of_lt hB55.lt
  have hB67 := Blk.at' hw63 (hB54.alloc _)
  have hB68 := Blk.at' hw63 (hB55.alloc _)
  have hB69 := Blk.at' hw63 (hB58.alloc _)
  have hX70 : Ext [] w50 w62 := by rw [hw63]; exact (Ext.refl _ _).alloc _
  have hG71 : TdOk S w2.heap.size w62 T := hG57.ext0 hX70
  have hB72 : Blk w62 (w50.heap.size) 65 #[.slice none 0 0] := by rw [hw63]; exact Blk.new _ _ _
  have hs73 : w.heap.size ≤ w50.heap.size := hE60.size
  have hE74 : Ext [] w w62 := by rw [hw63]; exact hE60.alloc _
  refine seg_end <| hK61 _ _ <| sq fun K75 hK75 => sq fun K76 hK76 => rgn 6 <| sd ww [.p, .p, .ld (I6 S.st), .p] [w62.cell? ⟨w.heap.size, 2, none⟩ = some (I6 S.st)] [(28, (Pv w40.heap.size)), (31, .agg #[I6 3, I6 S.st])] [] 4 2 hS (.cons (hB67.cell 2 rfl) .nil) fun a hS => eff_call ww (r := 1) (f := 31) (vs := [(Pv w40.heap.size), .agg #[I6 3, I6 S.st], (Pv w50.heap.size)]) (cap := #[]) (d := (some 32)) hS (by kernel_rfl) Tryd.call31 #[(Pv w40.heap.size), .agg #[I6 3, I6 S.st], (Pv w50.heap.size)] (by kernel_rfl) (notes_any hG hp hpm0 hok (Nat.le_trans hb.size hs59) (Nat.le_trans hb.size hs73) 401 (by omega) (hb.trans0 hE74) (show NotK S (.slice pa np pc) w0.heap.size (w40.heap.size) (w50.heap.size) w62 0 0 none 0 0 [] none 0 0 [] from ⟨⟨hB69, RowN.nil _ _⟩, hB72, OwnV.nil _ _ _, fun x hx => by simp [ob] at hx⟩) (Nat.le_refl _) (Nat.le_refl _) (Nat.le_refl _) (Nat.zero_le _) (y := (3, S.st)) (.inr (.inr ⟨rfl, by simp only; omega, by simp only; omega⟩))) ?_
  rintro _ wm (⟨rfl, hEm⟩ | ⟨a2, u2, bs2, n2, cp2, ls2, ln2, lc2, u, Ln, rfl, hKm, hEm, hfm, hgm, ha2, hn2, hl2, hu2, hu4, hmt⟩)
  ·
   refine ⟨_, rfl, fun a hS => ?_⟩
   replace hEm : Ext [w40.heap.size, w50.heap.size] w62 wm := hEm
   have hE79 := hE74.trans hEm (fun b hbM => by simp at hbM; exact hbM.elim (fun hbM => by rw [hbM]; exact .inr hs59) fun hbM => by rw [hbM]; exact .inr hs73)
   have hMt : ∀ x ∈ ([w40.heap.size, w50.heap.size] : List Nat), ∃ t cs, Blk w62 x t cs ∧ 51 ≠ t ∧ 3 ≠ t ∧ 4 ≠ t := fun x hx => by
    simp at hx
    rcases hx with hx | hx
    ·rw [hx]; exact ⟨_, _, hB69, by decide, by decide, by decide⟩
    ·rw [hx]; exact ⟨_, _, hB72, by decide, by decide, by decide⟩
   have hG80 : TdOk S w2.heap.size wm T := hG71.extM hEm hMt
   refine sd ww [.p] [] [(33, .bool true)] [] 6 0 hS .nil fun a hS => seg_end <| hK76 _ _ ?_
   refine cond_t hS rfl ?_
   refine sq fun K81 hK81 => rgn 2 <| eff_call ww (r := 1) (f := 12) (vs := []) (cap := #[]) (d := (some 34)) hS (by kernel_rfl) Tryd.call12 #[] (by kernel_rfl) (Head_any (hT.ext0 (hb.trans0 hE79))) ?_
   rintro _ wc82 ⟨rfl, hEc82⟩
   refine ⟨_, rfl, fun a hS => ?_⟩
   have hG85 : TdOk S w2.heap.size wc82 T := hG80.ext0 hEc82
   have hE86 := hE79.trans0 hEc82
   refine sd ww [.p] [] [(4, .bool true)] [] 2 0 hS .nil fun a hS => seg_end <| hK81 _ _ <| wpIn_ret <| then_ret ?_
   refine ret1 hS Tryd.results5 rfl ?_
   exact ⟨rfl, hE86⟩
  ·
   refine ⟨_, rfl, fun a hS => ?_⟩
   have hTl : ∀ x ∈ T.blks, x < w62.heap.size := TdOk.lie hG71
   replace hEm : Ext [w40.heap.size, w50.heap.size] w62 wm := hEm
   rw [List.nil_append, List.nil_append] at hKm
   have hrow : RowN w0.heap.size wm bs2 n2 cp2 u := hKm.tk.row
   have hB87 := hB67.ext hEm (by simp; exact ⟨hn52, hn64⟩)
   have hB88 := hB68.ext hEm (by simp; exact ⟨hn53, hn65⟩)
   have hE89 := hE74.trans hEm (fun b hbM => by simp at hbM; exact hbM.elim (fun hbM => by rw [hbM]; exact .inr hs59) fun hbM => by rw [hbM]; exact .inr hs73)
   have hMt : ∀ x ∈ ([w40.heap.size, w50.heap.size] : List Nat), ∃ t cs, Blk w62 x t cs ∧ 51 ≠ t ∧ 3 ≠ t ∧ 4 ≠ t := fun x hx => by
    simp at hx
    rcases hx with hx | hx
    ·rw [hx]; exact ⟨_, _, hB69, by decide, by decide, by decide⟩
    ·rw [hx]; exact ⟨_, _, hB72, by decide, by decide, by decide⟩
   have hG90 : TdOk S w2.heap.size wm T := hG71.extM hEm hMt
   have hnu : u.length = n2 := hrow.len
   have hnl : Ln.length = ln2 := hKm.len
   have hsa : sm (3, S.st) = .m S.st.toNat := sm_name rfl
   rw [hsa] at hmt
   have hfo := NT_start hmt .start
   refine sd ww [.p] [] [(33, .bool false)] [] 6 0 hS .nil fun a hS => seg_end <| hK76 _ _ ?_
   refine cond_f hS rfl ?_
   refine wpIn_skip <| hK75 _ _ <| sq fun K91 hK91 => ?_
   obtain ⟨ga92, ca92, wa92, hra92, hOa92, hEa92, hFa92⟩ := append_any (P := Tryd.prog) (w := (wm.drew).alloc (.cells #[I6 ((S.lx.length + 1 : Nat) : Int)] 3)) (t := 51) (ty := 51) (e := 3) (size := 1) (bytes := 8) (n := n2) (b := wm.heap.size) (off := 0) (k := 1) (c := 1) (z := #[I6 0]) (v := Value.slice bs2 n2 cp2) (xs := (ivs u)) (news := [I6 ((S.lx.length + 1 : Nat) : Int)]) (by kernel_rfl) (by kernel_rfl) rfl (by decide) ((hrow.own.drew).alloc _ : OwnV ((wm.drew).alloc (.cells #[I6 ((S.lx.length + 1 : Nat) : Int)] 3)) 3 1 (.slice bs2 n2 cp2) n2 (ivs u)) (by simp) (fun j u hu => by rw [Nat.zero_add]; exact (Blk.new' _ _ _ (by first | rfl | simp [upd_size]) : Blk ((wm.drew).alloc (.cells #[I6 ((S.lx.length + 1 : Nat) : Int)] 3)) wm.heap.size 3 (#[I6 ((S.lx.length + 1 : Nat) : Int)])).cell j (by simpa using hu)) rfl (by omega) (by simp only [maxLen]; omega) (by omega)
   refine region_fn2 ww [.q .p, .q .p, .q .p, .q (.ld (.slice bs2 n2 cp2)), .q .p, .q (.ld (S.lv)), .q (.run (I6 ↑S.lx.length)), .q (.as (I6 ((S.lx.length + 1 : Nat) : Int))), .e, .e, .q .p] [0, 0, 0, 0, 0, 0, 0, 0, 0, 1, 2] [1, 1, 1, 1, 0, 0, 0, 0, 0, 1, 2] [0, 1, 3, 7, 0, 16, 48, 112, 240, 511, 1023] [8, 9] 2 ([(0, .agg S.ca), (1, (.slice pa np pc)), (2, (Pv w.heap.size)), (4, .bool false), (5, (Pv wtT.heap.size)), (6, .bool true), (7, .bool true), (19, .bool false), (8, (Pv w40.heap.size)), (9, (Pv w50.heap.size)), (33, .bool false), (35, (Pv w40.heap.size)), (36, (Pv w40.heap.size)), (37, (Po w40.heap.size 6)), (38, .slice bs2 n2 cp2), (39, (Pv w.heap.size)), (40, S.lv), (41, I6 ↑S.lx.length), (42, I6 ((S.lx.length + 1 : Nat) : Int)), (43, Sl wm.heap.size 1 1), (44, Sl ga92 (n2 + 1) ca92), (10, Sl ga92 (n2 + 1) ca92)]) [wm.drew, (wm.drew).alloc (.cells #[I6 ((S.lx.length + 1 : Nat) : Int)] 3), wa92] wm.drew (fun w' => [(3, [w'.cell? ⟨w40.heap.size, 6, none⟩ = some (.slice bs2 n2 cp2)]), (5, [w'.cell? ⟨w.heap.size, 0, none⟩ = some (S.lv)]), (6, [Ru Tryd.prog (vS (Builtin.len_ #[22] 3 #[S.lv])) (I6 ↑S.lx.length) w']), (7, [Value.int .i64 (IntKind.i64.wrap (↑S.lx.length + 1)) = I6 ((S.lx.length + 1 : Nat) : Int)])]) [0, 1, 2, 4, 5, 6, 7, 19, 8, 9, 33] [] hS (by kernel_rfl) (by kernel_rfl) (by kernel_rfl) (by kernel_rfl) (fun _ => by kernel_rfl) (by kernel_rfl) (by kernel_rfl) (by kernel_rfl) ?_ ?_ ?_
   ·intro e w' hw
    refine (.cons ?_ (.cons ?_ (.cons ?_ (.cons ?_ .nil))))
    ·intro h1 h2
     replace h1 : 0 ≤ e := h1
     replace h2 : e ≤ 1 := h2
     have he : e = 0 ∨ e = 1 := by omega
     rcases he with rfl | rfl
     ·obtain rfl : w' = wm.drew := hw.trans (by kernel_rfl)
      exact (.cons ((hKm.tk.blk.drew : Blk wm.drew w40.heap.size 58 (#[S.lv, S.nv, I6 S.st, S.pv, (.slice pa np pc), I6 ↑a2, .slice bs2 n2 cp2, I6 ↑u2])).cell 6 rfl) .nil)
     ·obtain rfl : w' = (wm.drew).alloc (.cells #[I6 ((S.lx.length + 1 : Nat) : Int)] 3) := hw.trans (by kernel_rfl)
      exact (.cons (((hKm.tk.blk.drew).alloc _ : Blk ((wm.drew).alloc (.cells #[I6 ((S.lx.length + 1 : Nat) : Int)] 3)) w40.heap.size 58 (#[S.lv, S.nv, I6 S.st, S.pv, (.slice pa np pc), I6 ↑a2, .slice bs2 n2 cp2, I6 ↑u2])).cell 6 rfl) .nil)
    ·intro h1 h2
     obtain rfl : e = 0 := Nat.le_antisymm h2 h1
     obtain rfl : w' = wm.drew := hw.trans (by kernel_rfl)
     exact (.cons ((hB87.drew : Blk wm.drew w.heap.size 26 (S.ca)).cell 0 rfl) .nil)
    ·exact fun _ _ => (.cons (run_len_rd (e := 100) hG.lex (by kernel_rfl)) .nil)
    ·exact fun _ _ => (.cons ((by rw [show (↑S.lx.length + 1 : Int) = ((S.lx.length + 1 : Nat) : Int) from by omega]; exact as_i64 (by omega))) .nil)
   ·refine (.cons ?eq93_8 (.cons ?eq93_9 .nil))
    ·refine eff_at (wm.drew) ((wm.drew).alloc (.cells #[I6 ((S.lx.length + 1 : Nat) : Int)] 3)) (by kernel_rfl) (by kernel_rfl) ?_
     exact upon_new (nb := wm.heap.size) (cs := #[I6 ((S.lx.length + 1 : Nat) : Int)]) (T := 3) (v := Value.slice (some ⟨wm.heap.size, 0, none⟩) 1 1) (d := (some 43)) (by kernel_rfl) (by first | rfl | simp [upd_size]) ⟨by kernel_rfl, by kernel_rfl⟩
    ·refine eff_at ((wm.drew).alloc (.cells #[I6 ((S.lx.length + 1 : Nat) : Int)] 3)) (wa92) (by kernel_rfl) (by kernel_rfl) ?_
     exact upon_run (s := vS (Builtin.append_ #[51, 51] 51 #[Value.slice bs2 n2 cp2, Value.slice (some ⟨wm.heap.size, 0, none⟩) 1 1])) (d := (some 44)) (v := Value.slice (some ⟨ga92, 0, none⟩) (n2 + 1) ca92) (by kernel_rfl) (vS_run hra92) ⟨by kernel_rfl, by kernel_rfl⟩
   rintro a w94 hS hw95
   replace hw95 : w94 = wa92 := hw95.trans (by kernel_rfl)
   have hB97 := Blk.at' hw95 ((((hB88.drew).alloc _ : Blk ((wm.drew).alloc (.cells #[I6 ((S.lx.length + 1 : Nat) : Int)] 3)) wtT.heap.size 53 (#[Sl T.eg S.ns.length S.ns.length, .slice T.fb S.ns.length T.fc, .slice T.wb S.ns.length T.wc, .slice T.yb T.yn T.yc, .bool T.full]))).ext hEa92 (OwnV.notin ((hrow.own.drew).alloc _ : OwnV ((wm.drew).alloc (.cells #[I6 ((S.lx.length + 1 : Nat) : Int)] 3)) 3 1 (.slice bs2 n2 cp2) n2 (ivs u)) ((hB88.drew).alloc _ : Blk ((wm.drew).alloc (.cells #[I6 ((S.lx.length + 1 : Nat) : Int)] 3)) wtT.heap.size 53 (#[Sl T.eg S.ns.length S.ns.length, .slice T.fb S.ns.length T.fc, .slice T.wb S.ns.length T.wc, .slice T.yb T.yn T.yc, .bool T.full])) (by decide)))
   have hB99 := Blk.at' hw95 ((((hKm.lb.drew).alloc _ : Blk ((wm.drew).alloc (.cells #[I6 ((S.lx.length + 1 : Nat) : Int)] 3)) w50.heap.size 65 (#[.slice ls2 ln2 lc2]))).ext hEa92 (OwnV.notin ((hrow.own.drew).alloc _ : OwnV ((wm.drew).alloc (.cells #[I6 ((S.lx.length + 1 : Nat) : Int)] 3)) 3 1 (.slice bs2 n2 cp2) n2 (ivs u)) ((hKm.lb.drew).alloc _ : Blk ((wm.drew).alloc (.cells #[I6 ((S.lx.length + 1 : Nat) : Int)] 3)) w50.heap.size 65 (#[.slice ls2 ln2 lc2])) (by decide)))
   have hB100 := OwnV.at' hw95 ((((hKm.own.drew).alloc _ : OwnV ((wm.drew).alloc (.cells #[I6 ((S.lx.length + 1 : Nat) : Int)] 3)) 69 2 (.slice ls2 ln2 lc2) ln2 (ncs Ln))).ext hEa92 (OwnV.disj ((hKm.own.drew).alloc _ : OwnV ((wm.drew).alloc (.cells #[I6 ((S.lx.length + 1 : Nat) : Int)] 3)) 69 2 (.slice ls2 ln2 lc2) ln2 (ncs Ln)) ((hrow.own.drew).alloc _ : OwnV ((wm.drew).alloc (.cells #[I6 ((S.lx.length + 1 : Nat) : Int)] 3)) 3 1 (.slice bs2 n2 cp2) n2 (ivs u)) (by decide)))
   have hB101 : OwnR w94 3 1 ga92 ca92 (n2 + 1) ((ivs u) ++ [I6 ((S.lx.length + 1 : Nat) : Int)]) := by rw [hw95]; exact hOa92
   have hE102 : Ext [] w w94 := by rw [hw95]; exact ((hE89.drew).alloc _).trans hEa92 (fun x hx => by
    rcases hfm x hx with h | h
    ·simp [ob] at h
    ·exact .inr (Nat.le_trans hE74.size h))
   have hX103 : Ext (ob (Value.slice bs2 n2 cp2)) wm w94 := by rw [hw95]; exact (((Ext.refl _ _).drew).alloc _).trans hEa92 (fun b hb => .inl (by simp [hb]))
   have hG104 : TdOk S w2.heap.size w94 T := hG90.extD hX103 (fun x hx hm => by
    have h1 := hTl x hx
    rcases hfm x hm with h | h
    ·simp [ob] at h
    ·omega)
   replace hS := hS.kp [(0, .agg S.ca), (1, (.slice pa np pc)), (2, (Pv w.heap.size)), (4, .bool false), (5, (Pv wtT.heap.size)), (6, .bool true), (7, .bool true), (19, .bool false), (8, (Pv w40.heap.size)), (9, (Pv w50.heap.size)), (33, .bool false), (10, Sl ga92 (n2 + 1) ca92)]
   refine hK91 _ _ <| sq fun K105 hK105 => sq fun K106 hK106 => rgn 1 <| sd ww [.p] [] [(11, I6 0)] [] 1 0 hS .nil fun a hS => seg_end <| hK106 _ _ <| wpIn_block ?_
   have hbl107 : Ext [] w0 w94 := (hb.trans0 hE102)
   refine loop_ghost (fun (i : Nat) a' w' => St 71 [] [(5, (Pv wtT.heap.size)), (9, (Pv w50.heap.size)), (10, Sl ga92 (n2 + 1) ca92), (11, I6 ↑i)] a' ∧ Ext [] w94 w' ∧ i ≤ ln2) (fun (i : Nat) => ln2 - i) 0 ⟨hS.keepTo [5, 9, 10, 11] (by kernel_rfl), Ext.refl _ _, by omega⟩ ?_
   rintro i a wl107 ⟨hS, hXl107, hi⟩
   have hB109 := hB97.ext hXl107 (by simp)
   have hB111 := hB99.ext hXl107 (by simp)
   have hB112 := hB100.ext hXl107 (by simp)
   have hB113 := hB101.ext hXl107 (by simp)
   have hG114 : TdOk S w2.heap.size wl107 T := hG104.ext0 hXl107
   refine sq fun K115 hK115 => sq fun K116 hK116 => rgn 4 <| sd ww [.p, .ld (.slice ls2 ln2 lc2), .p, .p] [wl107.cell? ⟨w50.heap.size, 0, none⟩ = some (.slice ls2 ln2 lc2)] [(48, .bool (decide ((↑i : Int) < ↑ln2)))] [] 4 0 hS (.cons (hB111.cell 0 rfl) .nil) fun a hS => seg_end <| hK116 _ _ ?_
   refine cond_b hS rfl (fun hb117 => ?_) (fun hb117 => ?_)
   ·
    replace hb117 := of_decide_eq_true hb117
    obtain ⟨x, hx⟩ : ∃ x, Ln[i]? = some x := ⟨_, List.getElem?_eq_getElem (by omega)⟩
    obtain ⟨a9, ha9, hfa⟩ := hfo x (List.mem_of_getElem? hx)
    obtain ⟨l, hl, hal⟩ := hG114.isW.at hfa
    have hlA : x.1 < S.ns.length := by have h1 := (List.getElem?_eq_some_iff.1 hl).1; have h2 := hG114.isW.len; omega
    have hl9 : x.2 < n2 + 1 := by have h1 := (List.getElem?_eq_some_iff.1 ha9).1; simp at h1; omega
    obtain ⟨uv, huv, hur⟩ := hG114.lw.at' hl
    have hlm := (TdOk.max hG114).2.1 l (List.mem_of_getElem? hl)
    refine wpIn_skip <| hK115 _ _ <| sq fun K118 hK118 => wpIn_block <| sq fun K119 hK119 => ?_
    refine region_gh2 (G := World) ww [.q .p, .q (.ld (.slice T.wb S.ns.length T.wc)), .q (.ld (.slice ls2 ln2 lc2)), .q .p, .q (.run ((Po (bof (.slice ls2 ln2 lc2)) (0 + i * 2)))), .q .p, .q (.ld (I6 ↑x.1)), .q (.run ((Po (bof (.slice T.wb S.ns.length T.wc)) (0 + x.1 * 1)))), .q (.ld (uv)), .q .p, .q (.ld (.slice ls2 ln2 lc2)), .q .p, .q (.run ((Po (bof (.slice ls2 ln2 lc2)) (0 + i * 2)))), .q .p, .q (.ld (I6 ↑x.2)), .q (.run ((Po ga92 (0 + x.2 * 1)))), .q (.ld (I6 ↑a9)), .e, .q .p] [0, 0, 0, 0, 0, 0, 0, 0, 0, 0, 0, 0, 0, 0, 0, 0, 0, 0, 1] [0, 0, 0, 0, 0, 0, 0, 0, 0, 0, 0, 0, 0, 0, 0, 0, 0, 0, 1] [0, 1, 0, 0, 12, 28, 60, 127, 255, 0, 0, 0, 3072, 7168, 15360, 32256, 65024, 131071, 262143] [17] [(17, 0)] 1 (fun wc120 => ([(5, (Pv wtT.heap.size)), (9, (Pv w50.heap.size)), (10, Sl ga92 (n2 + 1) ca92), (11, I6 ↑i), (48, .bool (decide ((↑i : Int) < ↑ln2))), (51, (Po wtT.heap.size 2)), (52, .slice T.wb S.ns.length T.wc), (53, .slice ls2 ln2 lc2), (54, I6 ↑i), (55, (Po (bof (.slice ls2 ln2 lc2)) (0 + i * 2))), (56, (Po (bof (.slice ls2 ln2 lc2)) (0 + i * 2))), (57, I6 ↑x.1), (58, (Po (bof (.slice T.wb S.ns.length T.wc)) (0 + x.1 * 1))), (59, uv), (60, Sl ga92 (n2 + 1) ca92), (61, .slice ls2 ln2 lc2), (62, I6 ↑i), (63, (Po (bof (.slice ls2 ln2 lc2)) (0 + i * 2))), (64, (Po (bof (.slice ls2 ln2 lc2)) (0 + i * 2 + 1))), (65, I6 ↑x.2), (66, (Po ga92 (0 + x.2 * 1))), (67, I6 ↑a9), (68, .bool true), (69, .bool false)] : Fm)) (fun wc120 => [wl107.drew, wc120]) (wl107.drew) (fun e wc120 => hAt [True, (Ext [] wl107.drew wc120) ∧ True] e) (fun wc120 w' => [(1, [w'.cell? ⟨wtT.heap.size, 2, none⟩ = some (.slice T.wb S.ns.length T.wc)]), (2, [w'.cell? ⟨w50.heap.size, 0, none⟩ = some (.slice ls2 ln2 lc2)]), (4, [Ru Tryd.prog (vS (Instr.indexAt 65 (.slice ls2 ln2 lc2) (I6 ↑i))) ((Po (bof (.slice ls2 ln2 lc2)) (0 + i * 2))) w']), (6, [w'.cell? ⟨bof (.slice ls2 ln2 lc2), 0 + i * 2, none⟩ = some (I6 ↑x.1)]), (7, [Ru Tryd.prog (vS (Instr.indexAt 37 (.slice T.wb S.ns.length T.wc) (I6 ↑x.1))) ((Po (bof (.slice T.wb S.ns.length T.wc)) (0 + x.1 * 1))) w']), (8, [w'.cell? ⟨bof (.slice T.wb S.ns.length T.wc), 0 + x.1 * 1, none⟩ = some (uv)]), (10, [w'.cell? ⟨w50.heap.size, 0, none⟩ = some (.slice ls2 ln2 lc2)]), (12, [Ru Tryd.prog (vS (Instr.indexAt 65 (.slice ls2 ln2 lc2) (I6 ↑i))) ((Po (bof (.slice ls2 ln2 lc2)) (0 + i * 2))) w']), (14, [w'.cell? ⟨bof (.slice ls2 ln2 lc2), 0 + i * 2 + 1, none⟩ = some (I6 ↑x.2)]), (15, [Ru Tryd.prog (vS (Instr.indexAt 51 (Sl ga92 (n2 + 1) ca92) (I6 ↑x.2))) ((Po ga92 (0 + x.2 * 1))) w']), (16, [w'.cell? ⟨ga92, 0 + x.2 * 1, none⟩ = some (I6 ↑a9)])]) wl107.drew [5, 9, 10, 11, 48] [] hS (by kernel_rfl) (by kernel_rfl) (by kernel_rfl) (by kernel_rfl) (fun wc120 _ => by kernel_rfl) (by kernel_rfl) (by kernel_rfl) (by kernel_rfl) trivial ?_ (by kernel_rfl) ?_ ?_
    ·rintro e wc120 w' hw hH
     refine (.cons ?_ (.cons ?_ (.cons ?_ (.cons ?_ (.cons ?_ (.cons ?_ (.cons ?_ (.cons ?_ (.cons ?_ (.cons ?_ (.cons ?_ .nil)))))))))))
     ·intro h1 h2
      obtain rfl : e = 0 := Nat.le_antisymm h2 h1
      have hwe : wl107.drew = w' := (hw.trans (by kernel_rfl)).symm
      subst hwe
      clear hH
      exact (.cons ((hB109.drew : Blk wl107.drew wtT.heap.size 53 (#[Sl T.eg S.ns.length S.ns.length, .slice T.fb S.ns.length T.fc, .slice T.wb S.ns.length T.wc, .slice T.yb T.yn T.yc, .bool T.full])).cell 2 rfl) .nil)
     ·intro h1 h2
      obtain rfl : e = 0 := Nat.le_antisymm h2 h1
      have hwe : wl107.drew = w' := (hw.trans (by kernel_rfl)).symm
      subst hwe
      clear hH
      exact (.cons ((hB111.drew : Blk wl107.drew w50.heap.size 65 (#[.slice ls2 ln2 lc2])).cell 0 rfl) .nil)
     ·intro h1 h2
      obtain rfl : e = 0 := Nat.le_antisymm h2 h1
      have hwe : wl107.drew = w' := (hw.trans (by kernel_rfl)).symm
      subst hwe
      clear hH
      exact (.cons (ix_own (j := i) (hB112) (by kernel_rfl) (by kernel_rfl) rfl (by omega)) .nil)
     ·intro h1 h2
      obtain rfl : e = 0 := Nat.le_antisymm h2 h1
      have hwe : wl107.drew = w' := (hw.trans (by kernel_rfl)).symm
      subst hwe
      clear hH
      exact (.cons (OwnV.cellAt (hB112.drew : OwnV wl107.drew 69 2 (.slice ls2 ln2 lc2) ln2 (ncs Ln)) _ (ncs_at hx).1) .nil)
     ·intro h1 h2
      obtain rfl : e = 0 := Nat.le_antisymm h2 h1
      have hwe : wl107.drew = w' := (hw.trans (by kernel_rfl)).symm
      subst hwe
      clear hH
      exact (.cons (ix_own (j := x.1) (hG114.lw.own) (by kernel_rfl) (by kernel_rfl) rfl (by omega)) .nil)
     ·intro h1 h2
      obtain rfl : e = 0 := Nat.le_antisymm h2 h1
      have hwe : wl107.drew = w' := (hw.trans (by kernel_rfl)).symm
      subst hwe
      clear hH
      exact (.cons (OwnV.cellAt (hG114.lw.own.drew : OwnV wl107.drew 51 1 (.slice T.wb S.ns.length T.wc) S.ns.length (T.wL.map Rw.v)) _ (by rw [Nat.zero_add, Nat.mul_one]; exact huv)) .nil)
     ·intro h1 h2
      obtain rfl : e = 0 := Nat.le_antisymm h2 h1
      have hwe : wl107.drew = w' := (hw.trans (by kernel_rfl)).symm
      subst hwe
      clear hH
      exact (.cons ((hB111.drew : Blk wl107.drew w50.heap.size 65 (#[.slice ls2 ln2 lc2])).cell 0 rfl) .nil)
     ·intro h1 h2
      obtain rfl : e = 0 := Nat.le_antisymm h2 h1
      have hwe : wl107.drew = w' := (hw.trans (by kernel_rfl)).symm
      subst hwe
      clear hH
      exact (.cons (ix_own (j := i) (hB112) (by kernel_rfl) (by kernel_rfl) rfl (by omega)) .nil)
     ·intro h1 h2
      obtain rfl : e = 0 := Nat.le_antisymm h2 h1
      have hwe : wl107.drew = w' := (hw.trans (by kernel_rfl)).symm
      subst hwe
      clear hH
      exact (.cons (OwnV.cellAt (hB112.drew : OwnV wl107.drew 69 2 (.slice ls2 ln2 lc2) ln2 (ncs Ln)) _ (ncs_at hx).2) .nil)
     ·intro h1 h2
      obtain rfl : e = 0 := Nat.le_antisymm h2 h1
      have hwe : wl107.drew = w' := (hw.trans (by kernel_rfl)).symm
      subst hwe
      clear hH
      exact (.cons (ix_slice (E := 3) (size := 1) (j := x.2) (by kernel_rfl) (by kernel_rfl) rfl (by omega)) .nil)
     ·intro h1 h2
      obtain rfl : e = 0 := Nat.le_antisymm h2 h1
      have hwe : wl107.drew = w' := (hw.trans (by kernel_rfl)).symm
      subst hwe
      clear hH
      exact (.cons ((hB113.drew : OwnR wl107.drew 3 1 ga92 ca92 (n2 + 1) ((ivs u) ++ [I6 ((S.lx.length + 1 : Nat) : Int)])).cellAt _ (by have h := ivs_at ha9; rw [ivs_snoc] at h; exact h)) .nil)
    ·refine (.cons ?eq121_17 .nil)
     ·rintro wc120 hH
      clear hH
      refine eff_gh (wl107.drew) (by kernel_rfl) ?_
      refine upon_call (f := 29) (vs := [uv, I6 ↑a9]) (cap := #[]) (d := (some 68)) (by kernel_rfl) Tryd.call29 #[uv, I6 ↑a9] (by kernel_rfl) (has_true hal (hur.ext0 ((Ext.refl [] _).drew)) hlm) ?_
      rintro _ wc120 ⟨rfl, hEc120⟩
      exact ⟨_, rfl, ⟨wc120, by kernel_rfl, by kernel_rfl, by kernel_rfl, ⟨hEc120, trivial⟩⟩⟩
    rintro wc120 a w122 hS hw123 hH
    obtain ⟨hEc120, _⟩ := hH
    replace hw123 : w122 = wc120 := hw123.trans (by kernel_rfl)
    have hE131 : Ext [] w94 w122 := by rw [hw123]; exact (hXl107.drew).trans0 hEc120
    have hX132 : Ext [] wl107 w122 := by rw [hw123]; exact ((Ext.refl _ _).drew).trans0 hEc120
    have hG133 : TdOk S w2.heap.size w122 T := hG114.ext0 hX132
    replace hS := hS.kp [(5, (Pv wtT.heap.size)), (9, (Pv w50.heap.size)), (10, Sl ga92 (n2 + 1) ca92), (11, I6 ↑i), (48, .bool (decide ((↑i : Int) < ↑ln2))), (69, .bool false)]
    refine hK119 _ _ ?_
    refine cond_f hS rfl ?_
    refine wpIn_skip <| inBlock_normal <| hK118 _ _ <| rgn 3 <| sd ww [.p, .as (I6 (↑i + 1)), .p] [Value.int .i64 (IntKind.i64.wrap (↑i + 1)) = I6 (↑i + 1)] [(11, I6 (↑i + 1))] [] 3 0 hS (.cons (as_i64 (by omega)) .nil) fun a hS => seg_end ?_
    exact ⟨i + 1, ⟨hS.kp [(5, (Pv wtT.heap.size)), (9, (Pv w50.heap.size)), (10, Sl ga92 (n2 + 1) ca92), (11, I6 (↑i + 1))], hE131, by omega⟩, by omega⟩
   ·
    replace hb117 := of_decide_eq_false hb117
    have hEl107 : Ext [] w wl107 := hE102.trans0 hXl107
    refine wpIn_exit <| then_exit <| then_exit <| inBlock_hit <| hK105 _ _ <| sq fun K134 hK134 => rgn 2 <| eff_call ww (r := 1) (f := 12) (vs := []) (cap := #[]) (d := (some 70)) hS (by kernel_rfl) Tryd.call12 #[] (by kernel_rfl) (Head_any (hT.ext0 (hb.trans0 hEl107))) ?_
    rintro _ wc135 ⟨rfl, hEc135⟩
    refine ⟨_, rfl, fun a hS => ?_⟩
    have hG142 : TdOk S w2.heap.size wc135 T := hG114.ext0 hEc135
    have hE143 := hEl107.trans0 hEc135
    refine sd ww [.p] [] [(4, .bool true)] [] 2 0 hS .nil fun a hS => seg_end <| hK134 _ _ <| wpIn_ret ?_
    refine ret1 hS Tryd.results5 rfl ?_
    exact ⟨rfl, hE143⟩

end Go.Proofs.YtkkpghlcmcaoiaaDoor
