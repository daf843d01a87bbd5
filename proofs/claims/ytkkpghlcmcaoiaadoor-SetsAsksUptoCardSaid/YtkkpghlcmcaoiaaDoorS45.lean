import Derived.Test.YtkkpghlcmcaoiaaDoorS44
namespace Go.Proofs.YtkkpghlcmcaoiaaDoor
open Go.Vc Go.Gm
set_option maxHeartbeats 1000000 in
theorem twin_step {w0 w : World} {t : Ex} (hE : t.Ok w0) (hb : Ext [] w0 w) (ih : ∀ k ∈ t.kids, ∀ w, Ext [] w0 w → Calls Tryd.prog 88 #[.agg #[I6 k.kd, I6 k.fr, I6 k.to, I6 k.mi, I6 k.ma, k.ls]] w fun e w' => ∃ va vn vc, e = .returned (.agg #[I6 k.kd, I6 k.fr, I6 k.to, I6 k.mi, I6 k.ma, .slice va vn vc]) ∧ Tw w' w.heap.size (.slice va vn vc) k ∧ Ext [] w w') :
  Calls Tryd.prog 88 #[.agg #[I6 t.kd, I6 t.fr, I6 t.to, I6 t.mi, I6 t.ma, t.ls]] w fun e w' => ∃ va vn vc, e = .returned (.agg #[I6 t.kd, I6 t.fr, I6 t.to, I6 t.mi, I6 t.ma, .slice va vn vc]) ∧ Tw w' w.heap.size (.slice va vn vc) t ∧ Ext [] w w' := by
 have hkm := hE.max
 refine cbd 46 [(0, .agg #[I6 t.kd, I6 t.fr, I6 t.to, I6 t.mi, I6 t.ma, t.ls])] Tryd.func88 rfl fun a hS => ?_
 have hE0 : Ext [] w w := Ext.refl _ _
 refine sq fun K1 hK1 => rgn 2 <| ebx 1 #[I6 t.kd, I6 t.fr, I6 t.to, I6 t.mi, I6 t.ma, t.ls] 98 (some 1) hS fun a w2 hw3 hS => ?_
 have hB4 := Blk.nw hw3
 have hs5 := hE0.size
 have hE6 := hE0.al hw3
 refine ebx 0 #[I6 0, I6 0, I6 0, I6 0, I6 0, .slice none 0 0] 98 (some 2) hS fun a w7 hw8 hS => ?_
 have hB10 := Blk.at' hw8 (hB4.alloc _)
 have hB11 := Blk.nw hw8
 have hs12 := hE6.size
 have hE13 := hE6.al hw8
 refine sge hK1 <| sq fun K14 hK14 => rgn 3 <| sd ww [.lds [I6 t.kd, I6 t.fr, I6 t.to, I6 t.mi, I6 t.ma, t.ls]] [_, _, _, _, _, _] [(6, .agg #[I6 t.kd, I6 t.fr, I6 t.to, I6 t.mi, I6 t.ma, t.ls])] [] 1 2 hS (hB10.k 0 (hB10.k 1 (hB10.k 2 (hB10.k 3 (hB10.k 4 (hB10.k 5 .nil)))))) fun a hS => ebx 1 #[I6 0, I6 0, I6 0, I6 0, I6 0, .slice none 0 0] 98 (some 3) hS fun a w15 hw16 hS => ?_
 have hn17 := Nat.ne_of_lt hB10.lt
 have hn18 := Nat.ne_of_lt hB11.lt
 have hB19 := Blk.at' hw16 (hB10.alloc _)
 have hB20 := Blk.at' hw16 (hB11.alloc _)
 have hB21 := Blk.nw hw16
 have hs22 := hE13.size
 have hE23 := hE13.al hw16
 refine est 0 w7.heap.size 0 [I6 t.kd, I6 t.fr, I6 t.to, I6 t.mi, I6 t.ma, t.ls] hS hB21 fun a w24 hw25 hS => ?_
 have hB26 := Blk.at' hw25 (hB19.updNe (Ne.symm hn17) _ _)
 have hB27 := Blk.at' hw25 (hB20.updNe (Ne.symm hn18) _ _)
 have hB28 : Blk w24 w7.heap.size 98 (#[I6 t.kd, I6 t.fr, I6 t.to, I6 t.mi, I6 t.ma, t.ls]) := hB21.up hw25
 have hE29 := hE23.ui hw25 hs22
 refine sge hK14 <| sq fun K30 hK30 => rgn 2 <| sd ww [.p] [] [(7, (Po w7.heap.size 5))] [] 1 1 hS .nil fun a hS => est 0 w7.heap.size 5 [.slice none 0 0] hS hB28 fun a w31 hw32 hS => ?_
 have hB33 := Blk.at' hw32 (hB26.updNe (Ne.symm hn17) _ _)
 have hB34 := Blk.at' hw32 (hB27.updNe (Ne.symm hn18) _ _)
 have hB35 : Blk w31 w7.heap.size 98 (#[I6 t.kd, I6 t.fr, I6 t.to, I6 t.mi, I6 t.ma, .slice none 0 0]) := hB28.up hw32
 have hE36 := hE29.ui hw32 hs22
 refine sge hK30 <| sq fun K37 hK37 => sq fun K38 hK38 => ?_
 rcases (show (t.kids.length = 0) ∨ (0 < t.kids.length) from by omega) with h0 | h0
 ·
  have hkz : t.kids = [] := List.eq_nil_of_length_eq_zero h0
  refine rgn 4 <| sd ww [.p, .ld (t.ls), .run (I6 t.kids.length), .as (.bool false)] [_, Rv (Builtin.len_ #[96] 3 #[t.ls]) (I6 t.kids.length) w31, Value.bool (decide ((↑t.kids.length : Int) > 0)) = .bool false] [(11, .bool false)] [] 4 0 hS (hB33.k 5 (.c (rlr 98 hE.rd) (.c (as_f (by omega)) .nil))) fun a hS => sge hK38 ?_
  refine cond_f hS rfl ?_
  refine wpIn_skip <| hK37 _ _ <| sq fun K39 hK39 => rgn 2 <| sd ww [.lds [I6 t.kd, I6 t.fr, I6 t.to, I6 t.mi, I6 t.ma, .slice none 0 0]] [_, _, _, _, _, _] [(45, .agg #[I6 t.kd, I6 t.fr, I6 t.to, I6 t.mi, I6 t.ma, .slice none 0 0])] [] 1 1 hS (hB35.k 0 (hB35.k 1 (hB35.k 2 (hB35.k 3 (hB35.k 4 (hB35.k 5 .nil)))))) fun a hS => est 0 w2.heap.size 0 [I6 t.kd, I6 t.fr, I6 t.to, I6 t.mi, I6 t.ma, .slice none 0 0] hS hB34 fun a w40 hw41 hS => ?_
  have hB43 : Blk w40 w2.heap.size 98 (#[I6 t.kd, I6 t.fr, I6 t.to, I6 t.mi, I6 t.ma, .slice none 0 0]) := hB34.up hw41
  have hE45 := hE36.ui hw41 hs12
  refine sge hK39 <| wpIn_ret ?_
  refine retA1 hS Tryd.results88 (by kernel_rfl) (by kernel_rfl) rfl hB43 ?_
  exact ⟨_, _, _, rfl, .nil hkz, hE45⟩
 ·
  have hkz : t.kids ≠ [] := fun h => by rw [h] at h0; simp at h0
  refine rgn 4 <| sd ww [.p, .ld (t.ls), .run (I6 t.kids.length), .as (.bool true)] [_, Rv (Builtin.len_ #[96] 3 #[t.ls]) (I6 t.kids.length) w31, Value.bool (decide ((↑t.kids.length : Int) > 0)) = .bool true] [(11, .bool true)] [] 4 0 hS (hB33.k 5 (.c (rlr 98 hE.rd) (.c (as_t (by omega)) .nil))) fun a hS => sge hK38 ?_
  refine cond_t hS rfl ?_
  refine sq fun K46 hK46 => rgn 6 <| sd ww [.p, .ld (t.ls), .run (I6 t.kids.length), .as (I6 ((t.kids.length + 1 : Nat) : Int))] [_, Rv (Builtin.len_ #[96] 3 #[t.ls]) (I6 t.kids.length) w31, Value.int .i64 (IntKind.i64.wrap (↑t.kids.length + 1)) = I6 ((t.kids.length + 1 : Nat) : Int)] [(15, I6 ((t.kids.length + 1 : Nat) : Int))] [] 4 2 hS (hB33.k 5 (.c (rlr 98 hE.rd) (.c ((by rw [show (↑t.kids.length + 1 : Int) = ((t.kids.length + 1 : Nat) : Int) from by omega]; exact as_i64 (by omega))) .nil))) fun a hS => ?_
  obtain ⟨wm47, xm47, hrm47, hOm47, hEm47, hsm47⟩ := make_lenN (P := Tryd.prog) (w := w31) (T := 96) (E := 98) (size := 6) (bytes := 64) (z := #[I6 0, I6 0, I6 0, I6 0, I6 0, .slice none 0 0]) (l := (t.kids.length + 1)) (by kernel_rfl) (by kernel_rfl) (by omega) (by omega)
  refine eff_run ww (r := 1) (s := vS (Instr.makeSlice 96 (I6 ((t.kids.length + 1 : Nat) : Int)) (I6 ((t.kids.length + 1 : Nat) : Int)))) (d := (some 16)) (v := Sl w31.heap.size (t.kids.length + 1) (t.kids.length + 1)) hS (by kernel_rfl) hrm47 fun a hS => ?_
  have hn47_47 := Nat.ne_of_lt hB33.lt
  have hn47_48 := Nat.ne_of_lt hB34.lt
  have hn47_49 := Nat.ne_of_lt hB35.lt
  have hB51 := hB33.ext hEm47 (by simp)
  have hB52 := hB34.ext hEm47 (by simp)
  have hB53 := hB35.ext hEm47 (by simp)
  have hE54 := hE36.trans0 hEm47
  refine sd ww [.p] [] [(4, Sl w31.heap.size (t.kids.length + 1) (t.kids.length + 1))] [] 6 0 hS .nil fun a hS => sge hK46 <| sq fun K55 hK55 => sdq 1 [.p] [] [(5, I6 0)] [] hS .nil fun a hS => wpIn_block ?_
  have hgN : ∀ x ∈ ([w31.heap.size] : List Nat), x < wm47.heap.size := fun x hx => by simp at hx; rw [hx, hsm47]; exact Nat.lt_succ_self _
  have hxl : xm47.length = (t.kids.length + 1) * 6 := hOm47.len
  have h3N : w7.heap.size < wm47.heap.size := hB53.lt
  have h2N : w2.heap.size < wm47.heap.size := hB52.lt
  have hbl57 := (hb.trans0 hE54)
  refine loop_ghost (fun ((k, vs) : Nat × (List Value)) a' w' => St 46 [] [(1, (Pv w.heap.size)), (2, (Pv w2.heap.size)), (3, (Pv w7.heap.size)), (4, Sl w31.heap.size (t.kids.length + 1) (t.kids.length + 1)), (5, I6 k)] a' ∧ Ext [w31.heap.size] wm47 w' ∧ k ≤ t.kids.length ∧ vs.length = k ∧ OwnR w' 98 6 (w31.heap.size) (t.kids.length + 1) (t.kids.length + 1) (zcells (t.kids.take k) vs ++ xm47.drop (k * 6)) ∧ (∀ (i : Nat) (v : Value) (kk : Ex), vs[i]? = some v → t.kids[i]? = some kk → Tw w' wm47.heap.size v kk)) (fun ((k, vs) : Nat × (List Value)) => t.kids.length - k) (0, []) ⟨hS.keepTo [1, 2, 3, 4, 5] (by kernel_rfl), Ext.refl _ _, by omega, rfl, hOm47, fun i v kk h => by simp at h⟩ ?_
  rintro ⟨k, vs⟩ a wl57 ⟨hS, hXl57, hk, hvl, hgk, hTw⟩
  have hB58 := hB51.ext hXl57 (by simpa using hn47_47)
  have hB59 := hB52.ext hXl57 (by simpa using hn47_48)
  have hB60 := hB53.ext hXl57 (by simpa using hn47_49)
  refine sq fun K61 hK61 => sdq 5 [.p, .p, .ld (t.ls), .run (I6 t.kids.length), .p] [_, Rv (Builtin.len_ #[96] 3 #[t.ls]) (I6 t.kids.length) wl57] [(21, .bool (decide ((↑k : Int) < ↑t.kids.length)))] [] hS (hB58.k 5 (.c (rlr 98 hE.rd) .nil)) fun a hS => ?_
  refine cond_b hS rfl (fun hb63 => ?_) (fun hb63 => ?_)
  ·
   replace hb63 := of_decide_eq_true hb63
   obtain ⟨y, hy⟩ : ∃ y, t.kids[k]? = some y := gE
   have hzl : (zcells (t.kids.take k) vs ++ xm47.drop (k * 6)).length = (t.kids.length + 1) * 6 := hgk.len
   refine wpIn_skip <| hK61 _ _ <| sq fun K64 hK64 => wpIn_block <| rgn 10 <| sd ww [.p, .p, .p, .ld (t.ls), .p, .run ((Po (bof t.ls) (oof t.ls + k * 6))), .lds [I6 y.kd, I6 y.fr, I6 y.to, I6 y.mi, I6 y.ma, y.ls]] [_, Rv (Instr.indexAt 96 (t.ls) (I6 k)) ((Po (bof t.ls) (oof t.ls + k * 6))) wl57, wl57.cell? ⟨bof t.ls, oof t.ls + k * 6, none⟩ = some (I6 y.kd), wl57.cell? ⟨bof t.ls, oof t.ls + k * 6 + 1, none⟩ = some (I6 y.fr), wl57.cell? ⟨bof t.ls, oof t.ls + k * 6 + 2, none⟩ = some (I6 y.to), wl57.cell? ⟨bof t.ls, oof t.ls + k * 6 + 3, none⟩ = some (I6 y.mi), wl57.cell? ⟨bof t.ls, oof t.ls + k * 6 + 4, none⟩ = some (I6 y.ma), wl57.cell? ⟨bof t.ls, oof t.ls + k * 6 + 5, none⟩ = some (y.ls)] [(24, Sl w31.heap.size (t.kids.length + 1) (t.kids.length + 1)), (25, I6 k), (30, .agg #[I6 y.kd, I6 y.fr, I6 y.to, I6 y.mi, I6 y.ma, y.ls])] [] 7 3 hS (hB58.k 5 (.c (ixr 98 k hE.rd) (.c ((hE.rd.ext0 (hbl57.trans hXl57 (fun b hbM => by simp at hbM; rw [hbM]; exact .inr (Nat.le_trans hb.size hE36.size)))).cellAt (k * 6 + 0) (by omega) (ecells_at t.kids k 0 y hy (by omega))) (.c ((hE.rd.ext0 (hbl57.trans hXl57 (fun b hbM => by simp at hbM; rw [hbM]; exact .inr (Nat.le_trans hb.size hE36.size)))).cellAt (k * 6 + 1) (by omega) (ecells_at t.kids k 1 y hy (by omega))) (.c ((hE.rd.ext0 (hbl57.trans hXl57 (fun b hbM => by simp at hbM; rw [hbM]; exact .inr (Nat.le_trans hb.size hE36.size)))).cellAt (k * 6 + 2) (by omega) (ecells_at t.kids k 2 y hy (by omega))) (.c ((hE.rd.ext0 (hbl57.trans hXl57 (fun b hbM => by simp at hbM; rw [hbM]; exact .inr (Nat.le_trans hb.size hE36.size)))).cellAt (k * 6 + 3) (by omega) (ecells_at t.kids k 3 y hy (by omega))) (.c ((hE.rd.ext0 (hbl57.trans hXl57 (fun b hbM => by simp at hbM; rw [hbM]; exact .inr (Nat.le_trans hb.size hE36.size)))).cellAt (k * 6 + 4) (by omega) (ecells_at t.kids k 4 y hy (by omega))) (.c ((hE.rd.ext0 (hbl57.trans hXl57 (fun b hbM => by simp at hbM; rw [hbM]; exact .inr (Nat.le_trans hb.size hE36.size)))).cellAt (k * 6 + 5) (by omega) (ecells_at t.kids k 5 y hy (by omega))) .nil)))))))) fun a hS => ecl 2 (some 31) hS Tryd.call88 #[.agg #[I6 y.kd, I6 y.fr, I6 y.to, I6 y.mi, I6 y.ma, y.ls]] (ih y (List.mem_of_getElem? hy) _ (hbl57.trans hXl57 (fun b hbM => by simp at hbM; rw [hbM]; exact .inr (Nat.le_trans hb.size hE36.size)))) ?_
   rintro _ wc65 ⟨va65, vn65, vc65, rfl, hT65, hEc65⟩
   refine ⟨_, rfl, fun a hS => ?_⟩
   have hB69 := hgk.ext hEc65 (by simp)
   have hG70 : ∀ (i : Nat) (v : Value) (kk : Ex), vs[i]? = some v → t.kids[i]? = some kk → Tw wc65 wm47.heap.size v kk := fun i v kk h h' => (hTw i v kk h h').ext0 hEc65
   have hE71 := hXl57.trans0 hEc65
   refine sd ww [.run ((Po w31.heap.size (0 + k * 6)))] [Rv (Instr.indexAt 96 (Sl w31.heap.size (t.kids.length + 1) (t.kids.length + 1)) (I6 k)) ((Po w31.heap.size (0 + k * 6))) wc65] [(32, (Po w31.heap.size (0 + k * 6)))] [] 9 1 hS (.c (ixs 98 6 k) .nil) fun a hS => eff_store_ownN ww (r := 0) (b := w31.heap.size) (off := 0 + k * 6) (vs := [I6 y.kd, I6 y.fr, I6 y.to, I6 y.mi, I6 y.ma, .slice va65 vn65 vc65]) (xs := (zcells (t.kids.take k) vs ++ xm47.drop (k * 6))) hS (by kernel_rfl) hB69 (by simp only [List.length_cons, List.length_nil]; omega) fun a ws72 hOs72 hEs72 hsz72 hS => ?_
   have hE76 : Ext [w31.heap.size] wm47 ws72 := hE71.trans hEs72 (fun b hb => by simp at hb; subst hb; exact .inl (by simp))
   have hG77 : ∀ (i : Nat) (v : Value) (kk : Ex), vs[i]? = some v → t.kids[i]? = some kk → Tw ws72 wm47.heap.size v kk := fun i v kk h h' => (hG70 i v kk h h').extN hEs72 hgN
   have hG78 : Tw ws72 wm47.heap.size (.slice va65 vn65 vc65) y := (hT65.mono hXl57.size).extN hEs72 hgN
   refine seg_end <| inBlock_normal <| hK64 _ _ <| rgn 3 <| sd ww [.p, .as (I6 (↑k + 1)), .p] [_] [(5, I6 (↑k + 1))] [] 3 0 hS (as6 (↑k + 1)) fun a hS => seg_end ?_
   have hgs := hOs72
   rw [show ([I6 y.kd, I6 y.fr, I6 y.to, I6 y.mi, I6 y.ma, .slice va65 vn65 vc65] : List Value) = y.cellsW (.slice va65 vn65 vc65) from rfl, zc_step hy hvl hxl] at hgs
   have htA := hG77
   have htB := hG78
   exact ⟨(k + 1, (vs ++ [(.slice va65 vn65 vc65)])), ⟨hS.kp [(1, (Pv w.heap.size)), (2, (Pv w2.heap.size)), (3, (Pv w7.heap.size)), (4, Sl w31.heap.size (t.kids.length + 1) (t.kids.length + 1)), (5, I6 (↑k + 1))], hE76, by omega, by rw [List.length_append, hvl]; rfl, hgs, fun i v kk h h' => by
    rcases Nat.lt_or_ge i vs.length with h1 | h1
    ·rw [List.getElem?_append_left h1] at h; exact htA i v kk h h'
    ·have hi := (List.getElem?_eq_some_iff.1 h).1
     rw [List.length_append, List.length_singleton] at hi
     obtain rfl : i = vs.length := by omega
     rw [List.getElem?_append_right (Nat.le_refl _), Nat.sub_self] at h
     rw [hvl, hy] at h'
     cases h; cases h'; exact htB⟩, by simp only; omega⟩
  ·
   replace hb63 := of_decide_eq_false hb63
   have hEl57 : Ext [] w wl57 := hE54.trans hXl57 (fun b hbM => by simp at hbM; rw [hbM]; exact .inr hE36.size)
   have hke : k = t.kids.length := by omega
   rw [hke] at hvl
   have hgz := hgk
   rw [hke] at hgz
   have hzl := hgz.len
   refine xt2 <| hK55 _ _ <| sq fun K79 hK79 => rgn 7 <| sd ww [.p, .p, .ld (t.ls), .run (I6 t.kids.length), .p, .run ((Po w31.heap.size (0 + t.kids.length * 6)))] [_, Rv (Builtin.len_ #[96] 3 #[t.ls]) (I6 t.kids.length) wl57, Rv (Instr.indexAt 96 (Sl w31.heap.size (t.kids.length + 1) (t.kids.length + 1)) (I6 t.kids.length)) ((Po w31.heap.size (0 + t.kids.length * 6))) wl57] [(37, .agg #[I6 93, I6 0, I6 0, I6 0, I6 0, .slice none 0 0]), (38, (Po w31.heap.size (0 + t.kids.length * 6)))] [] 6 1 hS (hB58.k 5 (.c (rlr 98 hE.rd) (.c (ixs 98 6 t.kids.length) .nil))) fun a hS => eff_store_ownN ww (r := 0) (b := w31.heap.size) (off := 0 + t.kids.length * 6) (vs := [I6 93, I6 0, I6 0, I6 0, I6 0, .slice none 0 0]) (xs := (zcells (t.kids.take t.kids.length) vs ++ xm47.drop (t.kids.length * 6))) hS (by kernel_rfl) hgz (by simp only [List.length_cons, List.length_nil]; omega) fun a ws80 hOs80 hEs80 hsz80 hS => ?_
   have hB81 := hB58.ext hEs80 (by simpa using hn47_47)
   have hB82 := hB59.ext hEs80 (by simpa using hn47_48)
   have hB83 := hB60.ext hEs80 (by simpa using hn47_49)
   have hE84 : Ext [] w ws80 := hEl57.trans hEs80 (fun b hb => by simp at hb; subst hb; exact .inr hE36.size)
   have hG85 : ∀ (i : Nat) (v : Value) (kk : Ex), vs[i]? = some v → t.kids[i]? = some kk → Tw ws80 wm47.heap.size v kk := fun i v kk h h' => (hTw i v kk h h').extN hEs80 hgN
   refine sge hK79 <| rgn 7 <| sd ww [.p, .p, .ld (t.ls), .run (I6 t.kids.length), .run (Sl w31.heap.size t.kids.length (t.kids.length + 1)), .p] [_, Rv (Builtin.len_ #[96] 3 #[t.ls]) (I6 t.kids.length) ws80, Rv (Instr.sliceAt 96 (Sl w31.heap.size (t.kids.length + 1) (t.kids.length + 1)) none (some (I6 t.kids.length)) none) (Sl w31.heap.size t.kids.length (t.kids.length + 1)) ws80] [(43, Sl w31.heap.size t.kids.length (t.kids.length + 1)), (44, (Po w7.heap.size 5))] [] 6 1 hS (hB81.k 5 (.c (rlr 98 hE.rd) (.c (sl_h (E := 98) (size := 6) (h := t.kids.length) (by kernel_rfl) (by kernel_rfl) rfl (by omega)) .nil))) fun a hS => est 0 w7.heap.size 5 [Sl w31.heap.size t.kids.length (t.kids.length + 1)] hS hB83 fun a w86 hw87 hS => ?_
   have hB89 := Blk.at' hw87 (hB82.updNe (Ne.symm hn18) _ _)
   have hB90 : Blk w86 w7.heap.size 98 (#[I6 t.kd, I6 t.fr, I6 t.to, I6 t.mi, I6 t.ma, Sl w31.heap.size t.kids.length (t.kids.length + 1)]) := hB83.up hw87
   have hB91 := OwnR.at' hw87 (hOs80.updNe hn47_49 _ _)
   have hX92 : Ext [w7.heap.size] ws80 w86 := by rw [hw87]; exact (Ext.refl _ _).updIn (.inl (by simp)) _ _
   have hG93 : ∀ (i : Nat) (v : Value) (kk : Ex), vs[i]? = some v → t.kids[i]? = some kk → Tw w86 wm47.heap.size v kk := fun i v kk h h' => (hG85 i v kk h h').extN hX92 (fun x hx => by simp at hx; rw [hx]; exact h3N)
   have hE94 := hE84.ui hw87 hs22
   refine sge hK37 <| sq fun K95 hK95 => rgn 2 <| sd ww [.lds [I6 t.kd, I6 t.fr, I6 t.to, I6 t.mi, I6 t.ma, Sl w31.heap.size t.kids.length (t.kids.length + 1)]] [_, _, _, _, _, _] [(45, .agg #[I6 t.kd, I6 t.fr, I6 t.to, I6 t.mi, I6 t.ma, Sl w31.heap.size t.kids.length (t.kids.length + 1)])] [] 1 1 hS (hB90.k 0 (hB90.k 1 (hB90.k 2 (hB90.k 3 (hB90.k 4 (hB90.k 5 .nil)))))) fun a hS => est 0 w2.heap.size 0 [I6 t.kd, I6 t.fr, I6 t.to, I6 t.mi, I6 t.ma, Sl w31.heap.size t.kids.length (t.kids.length + 1)] hS hB89 fun a w96 hw97 hS => ?_
   have hB99 : Blk w96 w2.heap.size 98 (#[I6 t.kd, I6 t.fr, I6 t.to, I6 t.mi, I6 t.ma, Sl w31.heap.size t.kids.length (t.kids.length + 1)]) := hB89.up hw97
   have hB101 := OwnR.at' hw97 (hB91.updNe hn47_48 _ _)
   have hX102 : Ext [w2.heap.size] w86 w96 := by rw [hw97]; exact (Ext.refl _ _).updIn (.inl (by simp)) _ _
   have hG103 : ∀ (i : Nat) (v : Value) (kk : Ex), vs[i]? = some v → t.kids[i]? = some kk → Tw w96 wm47.heap.size v kk := fun i v kk h h' => (hG93 i v kk h h').extN hX102 (fun x hx => by simp at hx; rw [hx]; exact h2N)
   have hE104 := hE94.ui hw97 hs12
   refine sge hK95 <| wpIn_ret ?_
   refine retA1 hS Tryd.results88 (by kernel_rfl) (by kernel_rfl) rfl hB99 ?_
   exact ⟨_, _, _, rfl, .row hkz hkm hvl (by have h := hB101; rw [show ([I6 93, I6 0, I6 0, I6 0, I6 0, .slice none 0 0] : List Value) = markE from rfl, zc_mark hvl hxl] at h; exact h) hE36.size (fun i v kk h h' => (hG103 i v kk h h').mono (hE54).size), hE104⟩
theorem twin_any {w0 : World} : ∀ (n : Nat) {w : World} {t : Ex}, SizeOf.sizeOf t < n → t.Ok w0 → Ext [] w0 w → Calls Tryd.prog 88 #[.agg #[I6 t.kd, I6 t.fr, I6 t.to, I6 t.mi, I6 t.ma, t.ls]] w fun e w' => ∃ va vn vc, e = .returned (.agg #[I6 t.kd, I6 t.fr, I6 t.to, I6 t.mi, I6 t.ma, .slice va vn vc]) ∧ Tw w' w.heap.size (.slice va vn vc) t ∧ Ext [] w w'
 | 0, _, _, h, _, _ => by omega
 | n + 1, _, _, h, hE, hb => twin_step hE hb fun k hk w hw => twin_any n (by have := Ex.kid_lt hk; omega) (hE.kid k hk) hw
theorem TwinExpr_any {w0 w : World} {t : Ex} (hE : t.Ok w0) (hb : Ext [] w0 w) :
  Calls Tryd.prog 51 #[.agg #[I6 t.kd, I6 t.fr, I6 t.to, I6 t.mi, I6 t.ma, t.ls]] w fun e w' => ∃ va vn vc, e = .returned (.agg #[I6 t.kd, I6 t.fr, I6 t.to, I6 t.mi, I6 t.ma, .slice va vn vc]) ∧ TwE w' w.heap.size (.slice va vn vc) t ∧ Ext [] w w' := by
 refine cbd 9 [(0, .agg #[I6 t.kd, I6 t.fr, I6 t.to, I6 t.mi, I6 t.ma, t.ls])] Tryd.func51 rfl fun a hS => ?_
 have hE0 : Ext [] w w := Ext.refl _ _
 refine sq fun K1 hK1 => rgn 2 <| ebx 1 #[I6 t.kd, I6 t.fr, I6 t.to, I6 t.mi, I6 t.ma, t.ls] 98 (some 1) hS fun a w2 hw3 hS => ?_
 have hB4 := Blk.nw hw3
 have hs5 := hE0.size
 have hE6 := hE0.al hw3
 refine ebx 0 #[I6 0, I6 0, I6 0, I6 0, I6 0, .slice none 0 0] 98 (some 2) hS fun a w7 hw8 hS => ?_
 have hB10 := Blk.at' hw8 (hB4.alloc _)
 have hB11 := Blk.nw hw8
 have hs12 := hE6.size
 have hE13 := hE6.al hw8
 refine sge hK1 <| sq fun K14 hK14 => sq fun K15 hK15 => rgn 3 <| sd ww [.lds [I6 t.kd, I6 t.fr, I6 t.to, I6 t.mi, I6 t.ma, t.ls]] [_, _, _, _, _, _] [(3, .agg #[I6 t.kd, I6 t.fr, I6 t.to, I6 t.mi, I6 t.ma, t.ls])] [] 1 2 hS (hB10.k 0 (hB10.k 1 (hB10.k 2 (hB10.k 3 (hB10.k 4 (hB10.k 5 .nil)))))) fun a hS => ecl 1 (some 4) hS Tryd.call87 #[.agg #[I6 t.kd, I6 t.fr, I6 t.to, I6 t.mi, I6 t.ma, t.ls]] (Flat_any hE (hb.trans0 hE13)) ?_
 rintro _ wg16 ⟨z16, hz16, rfl, hEg16⟩
 refine ⟨_, rfl, fun a hS => ?_⟩
 have hB17 := hB10.ext hEg16 (by simp)
 have hB18 := hB11.ext hEg16 (by simp)
 have hE19 := hE13.trans0 hEg16
 refine sd ww [.p] [] [(5, .bool (!((z16 : Int) == 0)))] [] 3 0 hS .nil fun a hS => sge hK15 ?_
 refine cond_b hS rfl (fun hb20 => ?_) (fun hb20 => ?_)
 ·
  replace hb20 := hb20
  have hzn : z16 ≠ 0 := by simpa using hb20
  refine sq fun K21 hK21 => rgn 2 <| sd ww [.lds [I6 t.kd, I6 t.fr, I6 t.to, I6 t.mi, I6 t.ma, t.ls]] [_, _, _, _, _, _] [(6, .agg #[I6 t.kd, I6 t.fr, I6 t.to, I6 t.mi, I6 t.ma, t.ls])] [] 1 1 hS (hB17.k 0 (hB17.k 1 (hB17.k 2 (hB17.k 3 (hB17.k 4 (hB17.k 5 .nil)))))) fun a hS => est 0 w2.heap.size 0 [I6 t.kd, I6 t.fr, I6 t.to, I6 t.mi, I6 t.ma, t.ls] hS hB18 fun a w22 hw23 hS => ?_
  have hB25 : Blk w22 w2.heap.size 98 (#[I6 t.kd, I6 t.fr, I6 t.to, I6 t.mi, I6 t.ma, t.ls]) := hB18.up hw23
  have hE26 := hE19.ui hw23 hs12
  refine sge hK21 <| wpIn_ret <| then_ret ?_
  refine retA1 hS Tryd.results51 (by kernel_rfl) (by kernel_rfl) rfl hB25 ?_
  exact ⟨_, _, _, rfl, ⟨z16, hz16, .inr ⟨hzn, rfl⟩⟩, hE26⟩
 ·
  replace hb20 := hb20
  have hzn : z16 = 0 := by simpa using hb20
  refine wpIn_skip <| hK14 _ _ <| sq fun K27 hK27 => ?_
  have h2N : w2.heap.size < wg16.heap.size := hB18.lt
  refine rgn 3 <| sd ww [.lds [I6 t.kd, I6 t.fr, I6 t.to, I6 t.mi, I6 t.ma, t.ls]] [_, _, _, _, _, _] [(7, .agg #[I6 t.kd, I6 t.fr, I6 t.to, I6 t.mi, I6 t.ma, t.ls])] [] 1 2 hS (hB17.k 0 (hB17.k 1 (hB17.k 2 (hB17.k 3 (hB17.k 4 (hB17.k 5 .nil)))))) fun a hS => ecl 1 (some 8) hS Tryd.call88 #[.agg #[I6 t.kd, I6 t.fr, I6 t.to, I6 t.mi, I6 t.ma, t.ls]] (twin_any _ (Nat.lt_succ_self _) hE (hb.trans0 hE19)) ?_
  rintro _ wc28 ⟨va28, vn28, vc28, rfl, hT28, hEc28⟩
  refine ⟨_, rfl, fun a hS => ?_⟩
  have hB30 := hB18.ext hEc28 (by simp)
  have hE31 := hE19.trans0 hEc28
  refine est 0 w2.heap.size 0 [I6 t.kd, I6 t.fr, I6 t.to, I6 t.mi, I6 t.ma, .slice va28 vn28 vc28] hS hB30 fun a w32 hw33 hS => ?_
  have hB35 : Blk w32 w2.heap.size 98 (#[I6 t.kd, I6 t.fr, I6 t.to, I6 t.mi, I6 t.ma, .slice va28 vn28 vc28]) := hB30.up hw33
  have hX36 : Ext [w2.heap.size] wc28 w32 := by rw [hw33]; exact (Ext.refl _ _).updIn (.inl (by simp)) _ _
  have hG37 : Tw w32 wg16.heap.size (.slice va28 vn28 vc28) t := hT28.extN hX36 (fun x hx => by simp at hx; rw [hx]; exact h2N)
  have hE38 := hE31.ui hw33 hs12
  refine sge hK27 <| wpIn_ret ?_
  refine retA1 hS Tryd.results51 (by kernel_rfl) (by kernel_rfl) rfl hB35 ?_
  exact ⟨_, _, _, rfl, ⟨z16, hz16, .inl ⟨hzn, hG37.mono hE19.size⟩⟩, hE38⟩
theorem kept_nil {w0 w : World} {t : Ex} (hE : t.Ok w0) (hb : Ext [] w0 w) (h0 : t.kids = []) :
  Calls Tryd.prog 98 #[.agg #[I6 t.kd, I6 t.fr, I6 t.to, I6 t.mi, I6 t.ma, .slice none 0 0], .agg #[I6 t.kd, I6 t.fr, I6 t.to, I6 t.mi, I6 t.ma, t.ls]] w fun e w' => e = .returned (.bool true) ∧ Ext [] w w' := by
 have hkl : t.kids.length = 0 := by rw [h0]; rfl
 refine cbd 82 [(0, .agg #[I6 t.kd, I6 t.fr, I6 t.to, I6 t.mi, I6 t.ma, .slice none 0 0]), (1, .agg #[I6 t.kd, I6 t.fr, I6 t.to, I6 t.mi, I6 t.ma, t.ls])] Tryd.func98 rfl fun a hS => ?_
 have hE0 : Ext [] w w := Ext.refl _ _
 refine sq fun K1 hK1 => rgn 3 <| ebx 2 #[I6 t.kd, I6 t.fr, I6 t.to, I6 t.mi, I6 t.ma, .slice none 0 0] 98 (some 2) hS fun a w2 hw3 hS => ?_
 have hB4 := Blk.nw hw3
 have hs5 := hE0.size
 have hE6 := hE0.al hw3
 refine ebx 1 #[I6 t.kd, I6 t.fr, I6 t.to, I6 t.mi, I6 t.ma, t.ls] 98 (some 3) hS fun a w7 hw8 hS => ?_
 have hB10 := Blk.at' hw8 (hB4.alloc _)
 have hB11 := Blk.nw hw8
 have hs12 := hE6.size
 have hE13 := hE6.al hw8
 refine sd ww [.p] [] [(4, .bool false)] [] 3 0 hS .nil fun a hS => sge hK1 <| sq fun K14 hK14 => sdq 42 [.p, .ld (I6 t.kd), .p, .ld (I6 t.kd), .as (.bool false), .p, .p, .ld (I6 t.fr), .p, .ld (I6 t.fr), .as (.bool false), .p, .p, .p, .ld (I6 t.to), .p, .ld (I6 t.to), .as (.bool false), .p, .p, .p, .ld (I6 t.mi), .p, .ld (I6 t.mi), .as (.bool false), .p, .p, .p, .ld (I6 t.ma), .p, .ld (I6 t.ma), .as (.bool false), .p, .p, .p, .ld (.slice none 0 0), .p, .p, .ld (t.ls), .run (I6 t.kids.length), .as (.bool false), .p] [_, _, Value.bool (((t.kd : Int) != t.kd)) = .bool false, _, _, Value.bool (((t.fr : Int) != t.fr)) = .bool false, _, _, Value.bool (((t.to : Int) != t.to)) = .bool false, _, _, Value.bool (((t.mi : Int) != t.mi)) = .bool false, _, _, Value.bool (((t.ma : Int) != t.ma)) = .bool false, _, _, Rv (Builtin.len_ #[96] 3 #[t.ls]) (I6 t.kids.length) w7, Value.bool (((0 : Int) != ↑t.kids.length)) = .bool false] [(49, .bool false)] [] hS (hB10.k 0 (hB11.k 0 (.c (as_ne_f (rfl)) (hB10.k 1 (hB11.k 1 (.c (as_ne_f (rfl)) (hB10.k 2 (hB11.k 2 (.c (as_ne_f (rfl)) (hB10.k 3 (hB11.k 3 (.c (as_ne_f (rfl)) (hB10.k 4 (hB11.k 4 (.c (as_ne_f (rfl)) (hB10.k 5 (hB11.k 5 (.c (rlr 98 hE.rd) (.c (as_ne_f (by omega)) .nil))))))))))))))))))) fun a hS => ?_
 refine cond_f hS rfl ?_
 refine wpIn_skip <| hK14 _ _ <| sdq 4 [.p, .ld (t.ls), .run (I6 t.kids.length), .p] [_, Rv (Builtin.len_ #[96] 3 #[t.ls]) (I6 t.kids.length) w7] [(5, I6 t.kids.length)] [] hS (hB11.k 5 (.c (rlr 98 hE.rd) .nil)) fun a hS => sq fun K17 hK17 => sdq 2 [.p, .as (.bool true)] [Value.bool (((↑t.kids.length : Int) == 0)) = .bool true] [(54, .bool true)] [] hS (.c (as_eq_t (by omega)) .nil) fun a hS => ?_
 refine cond_t hS rfl ?_
 refine sdq 1 [.p] [] [(4, .bool true)] [] hS .nil fun a hS => wpIn_ret <| then_ret ?_
 refine ret1 hS Tryd.results98 rfl ?_
 exact ⟨rfl, hE13⟩
set_option maxHeartbeats 1000000 in
theorem kept_row {w0 w : World} {t : Ex} (hE : t.Ok w0) (hb : Ext [] w0 w) {N g : Nat} {vs : List Value} (hk0 : t.kids ≠ []) (hvl : vs.length = t.kids.length) (hg : OwnR w 98 6 g (t.kids.length + 1) (t.kids.length + 1) (zcells t.kids vs ++ markE)) (hTw : ∀ (i : Nat) (v : Value) (k : Ex), vs[i]? = some v → t.kids[i]? = some k → Tw w N v k) (ih : ∀ k ∈ t.kids, ∀ w v, Ext [] w0 w → Tw w N v k → Calls Tryd.prog 98 #[.agg #[I6 k.kd, I6 k.fr, I6 k.to, I6 k.mi, I6 k.ma, v], .agg #[I6 k.kd, I6 k.fr, I6 k.to, I6 k.mi, I6 k.ma, k.ls]] w fun e w' => e = .returned (.bool true) ∧ Ext [] w w') :
  Calls Tryd.prog 98 #[.agg #[I6 t.kd, I6 t.fr, I6 t.to, I6 t.mi, I6 t.ma, Sl g t.kids.length (t.kids.length + 1)], .agg #[I6 t.kd, I6 t.fr, I6 t.to, I6 t.mi, I6 t.ma, t.ls]] w fun e w' => e = .returned (.bool true) ∧ Ext [] w w' := by
 have hkm := hE.max
 have hk1 : 0 < t.kids.length := List.length_pos_iff.2 hk0
 refine cbd 82 [(0, .agg #[I6 t.kd, I6 t.fr, I6 t.to, I6 t.mi, I6 t.ma, Sl g t.kids.length (t.kids.length + 1)]), (1, .agg #[I6 t.kd, I6 t.fr, I6 t.to, I6 t.mi, I6 t.ma, t.ls])] Tryd.func98 rfl fun a hS => ?_
 have hE0 : Ext [] w w := Ext.refl _ _
 refine sq fun K1 hK1 => rgn 3 <| ebx 2 #[I6 t.kd, I6 t.fr, I6 t.to, I6 t.mi, I6 t.ma, Sl g t.kids.length (t.kids.length + 1)] 98 (some 2) hS fun a w2 hw3 hS => ?_
 have hB5 := OwnR.at' hw3 (hg.alloc _)
 have hB6 := Blk.nw hw3
 have hs7 := hE0.size
 have hE8 := hE0.al hw3
 refine ebx 1 #[I6 t.kd, I6 t.fr, I6 t.to, I6 t.mi, I6 t.ma, t.ls] 98 (some 3) hS fun a w9 hw10 hS => ?_
 have hB13 := OwnR.at' hw10 (hB5.alloc _)
 have hB14 := Blk.at' hw10 (hB6.alloc _)
 have hB15 := Blk.nw hw10
 have hs16 := hE8.size
 have hE17 := hE8.al hw10
 refine sd ww [.p] [] [(4, .bool false)] [] 3 0 hS .nil fun a hS => sge hK1 <| sq fun K18 hK18 => sdq 42 [.p, .ld (I6 t.kd), .p, .ld (I6 t.kd), .as (.bool false), .p, .p, .ld (I6 t.fr), .p, .ld (I6 t.fr), .as (.bool false), .p, .p, .p, .ld (I6 t.to), .p, .ld (I6 t.to), .as (.bool false), .p, .p, .p, .ld (I6 t.mi), .p, .ld (I6 t.mi), .as (.bool false), .p, .p, .p, .ld (I6 t.ma), .p, .ld (I6 t.ma), .as (.bool false), .p, .p, .p, .ld (Sl g t.kids.length (t.kids.length + 1)), .p, .p, .ld (t.ls), .run (I6 t.kids.length), .as (.bool false), .p] [_, _, Value.bool (((t.kd : Int) != t.kd)) = .bool false, _, _, Value.bool (((t.fr : Int) != t.fr)) = .bool false, _, _, Value.bool (((t.to : Int) != t.to)) = .bool false, _, _, Value.bool (((t.mi : Int) != t.mi)) = .bool false, _, _, Value.bool (((t.ma : Int) != t.ma)) = .bool false, _, _, Rv (Builtin.len_ #[96] 3 #[t.ls]) (I6 t.kids.length) w9, Value.bool (((↑t.kids.length : Int) != ↑t.kids.length)) = .bool false] [(49, .bool false)] [] hS (hB14.k 0 (hB15.k 0 (.c (as_ne_f (rfl)) (hB14.k 1 (hB15.k 1 (.c (as_ne_f (rfl)) (hB14.k 2 (hB15.k 2 (.c (as_ne_f (rfl)) (hB14.k 3 (hB15.k 3 (.c (as_ne_f (rfl)) (hB14.k 4 (hB15.k 4 (.c (as_ne_f (rfl)) (hB14.k 5 (hB15.k 5 (.c (rlr 98 hE.rd) (.c (as_ne_f (rfl)) .nil))))))))))))))))))) fun a hS => ?_
 refine cond_f hS rfl ?_
 refine wpIn_skip <| hK18 _ _ <| sdq 4 [.p, .ld (t.ls), .run (I6 t.kids.length), .p] [_, Rv (Builtin.len_ #[96] 3 #[t.ls]) (I6 t.kids.length) w9] [(5, I6 t.kids.length)] [] hS (hB15.k 5 (.c (rlr 98 hE.rd) .nil)) fun a hS => sq fun K21 hK21 => sdq 2 [.p, .as (.bool false)] [Value.bool (((↑t.kids.length : Int) == 0)) = .bool false] [(54, .bool false)] [] hS (.c (as_eq_f (by omega)) .nil) fun a hS => ?_
 refine cond_f hS rfl ?_
 refine wpIn_skip <| hK21 _ _ <| sdq 6 [.p, .ld (Sl g t.kids.length (t.kids.length + 1)), .p, .as (I6 ((t.kids.length + 1 : Nat) : Int)), .run (Sl g (t.kids.length + 1) (t.kids.length + 1)), .p] [_, Value.int .i64 (IntKind.i64.wrap (↑t.kids.length + 1)) = I6 ((t.kids.length + 1 : Nat) : Int), Rv (Instr.sliceAt 96 (Sl g t.kids.length (t.kids.length + 1)) none (some (I6 ((t.kids.length + 1 : Nat) : Int))) none) (Sl g (t.kids.length + 1) (t.kids.length + 1)) w9] [(6, Sl g (t.kids.length + 1) (t.kids.length + 1))] [] hS (hB14.k 5 (.c ((by rw [show (↑t.kids.length + 1 : Int) = ((t.kids.length + 1 : Nat) : Int) from by omega]; exact as_i64 (by omega))) (.c (sl_h (E := 98) (size := 6) (h := (t.kids.length + 1)) (by kernel_rfl) (by kernel_rfl) rfl (by omega)) .nil))) fun a hS => sq fun K24 hK24 => sdq 6 [.p, .p, .run ((Po g (0 + t.kids.length * 6))), .p, .ld (I6 93), .p] [Rv (Instr.indexAt 96 (Sl g (t.kids.length + 1) (t.kids.length + 1)) (I6 t.kids.length)) ((Po g (0 + t.kids.length * 6))) w9, w9.cell? ⟨g, 0 + t.kids.length * 6, none⟩ = some (I6 93)] [(65, .bool false)] [] hS (.c (ixs 98 6 t.kids.length) (.c ((hB13).cellAt _ (zc_m hvl)) .nil)) fun a hS => ?_
 refine cond_f hS rfl ?_
 refine wpIn_skip <| hK24 _ _ <| sq fun K26 hK26 => sq fun K27 hK27 => rgn 1 <| sg ww [.p] [] [(0, .agg #[I6 t.kd, I6 t.fr, I6 t.to, I6 t.mi, I6 t.ma, Sl g t.kids.length (t.kids.length + 1)]), (1, .agg #[I6 t.kd, I6 t.fr, I6 t.to, I6 t.mi, I6 t.ma, t.ls]), (2, (Pv w.heap.size)), (3, (Pv w2.heap.size)), (4, .bool false), (49, .bool false), (5, I6 t.kids.length), (54, .bool false), (6, Sl g (t.kids.length + 1) (t.kids.length + 1)), (65, .bool false), (7, I6 0)] 1 0 hS .nil fun a hS => sge hK27 <| wpIn_block ?_
 have hbl28 := (hb.trans0 hE17)
 refine loop_ghost (fun (i : Nat) a' w' => St 82 [] [(3, (Pv w2.heap.size)), (5, I6 t.kids.length), (6, Sl g (t.kids.length + 1) (t.kids.length + 1)), (7, I6 i)] a' ∧ Ext [] w9 w' ∧ i ≤ t.kids.length) (fun (i : Nat) => t.kids.length - i) 0 ⟨hS.keepTo [3, 5, 6, 7] (by kernel_rfl), Ext.refl _ _, by omega⟩ ?_
 rintro i a wl28 ⟨hS, hXl28, hi⟩
 have hB29 := hB13.ext hXl28 (by simp)
 have hB31 := hB15.ext hXl28 (by simp)
 refine sq fun K32 hK32 => sdq 3 [.p, .p, .p] [] [(68, .bool (decide ((↑i : Int) < ↑t.kids.length)))] [] hS .nil fun a hS => ?_
 refine cond_b hS rfl (fun hb34 => ?_) (fun hb34 => ?_)
 ·
  replace hb34 := of_decide_eq_true hb34
  obtain ⟨y, hy⟩ : ∃ y, t.kids[i]? = some y := gE
  obtain ⟨u, hu⟩ : ∃ u, vs[i]? = some u := gE
  refine wpIn_skip <| hK32 _ _ <| sq fun K35 hK35 => wpIn_block <| sq fun K36 hK36 => ?_
  refine gh3 (G := World) [.q .p, .q .p, .q (.run ((Po g (0 + i * 6)))), .q (.lds [I6 y.kd, I6 y.fr, I6 y.to, I6 y.mi, I6 y.ma, u]), .q .p, .q (.ld (t.ls)), .q .p, .q (.run ((Po (bof t.ls) (oof t.ls + i * 6)))), .q (.lds [I6 y.kd, I6 y.fr, I6 y.to, I6 y.mi, I6 y.ma, y.ls]), .e, .q .p] [0, 0, 0, 0, 0, 0, 0, 0, 0, 0, 1] [0, 0, 0, 0, 0, 0, 0, 0, 0, 0, 1] [0, 0, 3, 7, 0, 16, 0, 112, 240, 511, 1023] [9] [(9, 0)] 1 (fun wc37 => ([(3, (Pv w2.heap.size)), (5, I6 t.kids.length), (6, Sl g (t.kids.length + 1) (t.kids.length + 1)), (7, I6 i), (68, .bool (decide ((↑i : Int) < ↑t.kids.length))), (71, Sl g (t.kids.length + 1) (t.kids.length + 1)), (72, I6 i), (73, (Po g (0 + i * 6))), (74, .agg #[I6 y.kd, I6 y.fr, I6 y.to, I6 y.mi, I6 y.ma, u]), (75, (Po w2.heap.size 5)), (76, t.ls), (77, I6 i), (78, (Po (bof t.ls) (oof t.ls + i * 6))), (79, .agg #[I6 y.kd, I6 y.fr, I6 y.to, I6 y.mi, I6 y.ma, y.ls]), (80, .bool true), (81, .bool false)] : Fm)) (fun wc37 => [wl28.drew, wc37]) (wl28.drew) (fun e wc37 => hAt [True, (Ext [] wl28.drew wc37) ∧ True] e) (fun wc37 w' => [(2, [Rv (Instr.indexAt 96 (Sl g (t.kids.length + 1) (t.kids.length + 1)) (I6 i)) ((Po g (0 + i * 6))) w']), (3, [w'.cell? ⟨g, 0 + i * 6, none⟩ = some (I6 y.kd), w'.cell? ⟨g, 0 + i * 6 + 1, none⟩ = some (I6 y.fr), w'.cell? ⟨g, 0 + i * 6 + 2, none⟩ = some (I6 y.to), w'.cell? ⟨g, 0 + i * 6 + 3, none⟩ = some (I6 y.mi), w'.cell? ⟨g, 0 + i * 6 + 4, none⟩ = some (I6 y.ma), w'.cell? ⟨g, 0 + i * 6 + 5, none⟩ = some (u)]), (5, [w'.cell? ⟨w2.heap.size, 5, none⟩ = some (t.ls)]), (7, [Rv (Instr.indexAt 96 (t.ls) (I6 i)) ((Po (bof t.ls) (oof t.ls + i * 6))) w']), (8, [w'.cell? ⟨bof t.ls, oof t.ls + i * 6, none⟩ = some (I6 y.kd), w'.cell? ⟨bof t.ls, oof t.ls + i * 6 + 1, none⟩ = some (I6 y.fr), w'.cell? ⟨bof t.ls, oof t.ls + i * 6 + 2, none⟩ = some (I6 y.to), w'.cell? ⟨bof t.ls, oof t.ls + i * 6 + 3, none⟩ = some (I6 y.mi), w'.cell? ⟨bof t.ls, oof t.ls + i * 6 + 4, none⟩ = some (I6 y.ma), w'.cell? ⟨bof t.ls, oof t.ls + i * 6 + 5, none⟩ = some (y.ls)])]) wl28.drew [3, 5, 6, 7, 68] [] hS (fun wc37 _ => by kernel_rfl) trivial ?_ ?_ ?_
  ·rintro e wc37 w' hw hH
   refine (.c ?_ (.c ?_ (.c ?_ (.c ?_ (.c ?_ .nil)))))
   ·intro h1 h2
    obtain rfl := Nat.le_antisymm h2 h1
    have hwe : wl28.drew = w' := hwz hw
    subst hwe
    clear hH
    exact (.c (ixs 98 6 i) .nil)
   ·intro h1 h2
    obtain rfl := Nat.le_antisymm h2 h1
    have hwe : wl28.drew = w' := hwz hw
    subst hwe
    clear hH
    exact (.c ((hB29.drew : OwnR wl28.drew 98 6 g (t.kids.length + 1) (t.kids.length + 1) (zcells t.kids vs ++ markE)).cellAt _ ((zc_at (i := 0) hy hu hvl (by omega)))) (.c ((hB29.drew : OwnR wl28.drew 98 6 g (t.kids.length + 1) (t.kids.length + 1) (zcells t.kids vs ++ markE)).cellAt _ ((zc_at (i := 1) hy hu hvl (by omega)))) (.c ((hB29.drew : OwnR wl28.drew 98 6 g (t.kids.length + 1) (t.kids.length + 1) (zcells t.kids vs ++ markE)).cellAt _ ((zc_at (i := 2) hy hu hvl (by omega)))) (.c ((hB29.drew : OwnR wl28.drew 98 6 g (t.kids.length + 1) (t.kids.length + 1) (zcells t.kids vs ++ markE)).cellAt _ ((zc_at (i := 3) hy hu hvl (by omega)))) (.c ((hB29.drew : OwnR wl28.drew 98 6 g (t.kids.length + 1) (t.kids.length + 1) (zcells t.kids vs ++ markE)).cellAt _ ((zc_at (i := 4) hy hu hvl (by omega)))) (.c ((hB29.drew : OwnR wl28.drew 98 6 g (t.kids.length + 1) (t.kids.length + 1) (zcells t.kids vs ++ markE)).cellAt _ ((zc_at (i := 5) hy hu hvl (by omega)))) .nil))))))
   ·intro h1 h2
    obtain rfl := Nat.le_antisymm h2 h1
    have hwe : wl28.drew = w' := hwz hw
    subst hwe
    clear hH
    exact (.c ((hB31.drew : Blk wl28.drew w2.heap.size 98 (#[I6 t.kd, I6 t.fr, I6 t.to, I6 t.mi, I6 t.ma, t.ls])).cell 5 rfl) .nil)
   ·intro h1 h2
    obtain rfl := Nat.le_antisymm h2 h1
    have hwe : wl28.drew = w' := hwz hw
    subst hwe
    clear hH
    exact (.c (ixr 98 i hE.rd) .nil)
   ·intro h1 h2
    obtain rfl := Nat.le_antisymm h2 h1
    have hwe : wl28.drew = w' := hwz hw
    subst hwe
    clear hH
    exact (.c ((hE.rd.ext0 ((hbl28.trans0 hXl28).trans0 (by first | exact (Ext.refl [] _).drew | exact Ext.refl [] _))).cellAt (i * 6 + 0) (by omega) (ecells_at t.kids i 0 y hy (by omega))) (.c ((hE.rd.ext0 ((hbl28.trans0 hXl28).trans0 (by first | exact (Ext.refl [] _).drew | exact Ext.refl [] _))).cellAt (i * 6 + 1) (by omega) (ecells_at t.kids i 1 y hy (by omega))) (.c ((hE.rd.ext0 ((hbl28.trans0 hXl28).trans0 (by first | exact (Ext.refl [] _).drew | exact Ext.refl [] _))).cellAt (i * 6 + 2) (by omega) (ecells_at t.kids i 2 y hy (by omega))) (.c ((hE.rd.ext0 ((hbl28.trans0 hXl28).trans0 (by first | exact (Ext.refl [] _).drew | exact Ext.refl [] _))).cellAt (i * 6 + 3) (by omega) (ecells_at t.kids i 3 y hy (by omega))) (.c ((hE.rd.ext0 ((hbl28.trans0 hXl28).trans0 (by first | exact (Ext.refl [] _).drew | exact Ext.refl [] _))).cellAt (i * 6 + 4) (by omega) (ecells_at t.kids i 4 y hy (by omega))) (.c ((hE.rd.ext0 ((hbl28.trans0 hXl28).trans0 (by first | exact (Ext.refl [] _).drew | exact Ext.refl [] _))).cellAt (i * 6 + 5) (by omega) (ecells_at t.kids i 5 y hy (by omega))) .nil))))))
  ·refine (.c ?eq38_9 .nil)
   ·rintro wc37 hH
    clear hH
    refine eff_gh (wl28.drew) (by kernel_rfl) ?_
    refine upon_call (f := 98) (vs := [.agg #[I6 y.kd, I6 y.fr, I6 y.to, I6 y.mi, I6 y.ma, u], .agg #[I6 y.kd, I6 y.fr, I6 y.to, I6 y.mi, I6 y.ma, y.ls]]) (cap := #[]) (d := (some 80)) (by kernel_rfl) Tryd.call98 #[.agg #[I6 y.kd, I6 y.fr, I6 y.to, I6 y.mi, I6 y.ma, u], .agg #[I6 y.kd, I6 y.fr, I6 y.to, I6 y.mi, I6 y.ma, y.ls]] (by kernel_rfl) (ih y (List.mem_of_getElem? hy) _ u ((hbl28.trans0 hXl28).trans0 ((Ext.refl [] _).drew)) ((hTw i u y hu hy).ext0 ((hE17.trans0 hXl28).trans0 ((Ext.refl [] _).drew)))) ?_
    rintro _ wc37 ⟨rfl, hEc37⟩
    exact ⟨_, rfl, ⟨wc37, by kernel_rfl, by kernel_rfl, by kernel_rfl, ⟨hEc37, trivial⟩⟩⟩
  rintro wc37 a w39 hS hw40 hH
  obtain ⟨hEc37, _⟩ := hH
  replace hw40 : w39 = wc37 := hw40.trans (by kernel_rfl)
  have hE44 : Ext [] w9 w39 := by rw [hw40]; exact (hXl28.drew).trans0 hEc37
  replace hS := hS.kp [(3, (Pv w2.heap.size)), (5, I6 t.kids.length), (6, Sl g (t.kids.length + 1) (t.kids.length + 1)), (7, I6 i), (68, .bool (decide ((↑i : Int) < ↑t.kids.length))), (81, .bool false)]
  refine hK36 _ _ ?_
  refine cond_f hS rfl ?_
  refine wpIn_skip <| inBlock_normal <| hK35 _ _ <| rgn 3 <| sd ww [.p, .as (I6 (↑i + 1)), .p] [_] [(7, I6 (↑i + 1))] [] 3 0 hS (as6 (↑i + 1)) fun a hS => seg_end ?_
  exact ⟨i + 1, ⟨hS.kp [(3, (Pv w2.heap.size)), (5, I6 t.kids.length), (6, Sl g (t.kids.length + 1) (t.kids.length + 1)), (7, I6 (↑i + 1))], hE44, by omega⟩, by omega⟩
 ·
  replace hb34 := of_decide_eq_false hb34
  have hEl28 : Ext [] w wl28 := hE17.trans0 hXl28
  refine xt2 <| hK26 _ _ <| sdq 1 [.p] [] [(4, .bool true)] [] hS .nil fun a hS => wpIn_ret ?_
  refine ret1 hS Tryd.results98 rfl ?_
  exact ⟨rfl, hEl28⟩
theorem kept_any {w0 : World} {N : Nat} : ∀ (n : Nat) {w : World} {v : Value} {t : Ex}, SizeOf.sizeOf t < n → t.Ok w0 → Ext [] w0 w → Tw w N v t → Calls Tryd.prog 98 #[.agg #[I6 t.kd, I6 t.fr, I6 t.to, I6 t.mi, I6 t.ma, v], .agg #[I6 t.kd, I6 t.fr, I6 t.to, I6 t.mi, I6 t.ma, t.ls]] w fun e w' => e = .returned (.bool true) ∧ Ext [] w w'
 | 0, _, _, _, h, _, _, _ => by omega
 | n + 1, _, _, _, h, hE, hb, hT => by
  cases hT with
  | nil h0 => exact kept_nil hE hb h0
  | row h1 h2 h3 h4 h5 h6 => exact kept_row hE hb h1 h3 h4 h6 fun k hk w v hw hT => kept_any n (by have := Ex.kid_lt hk; omega) (hE.kid k hk) hw hT
theorem KeptExpr_any {w0 w : World} {t : Ex} (hE : t.Ok w0) (hb : Ext [] w0 w) {N : Nat} {v : Value} (hT : TwE w N v t) :
  Calls Tryd.prog 65 #[.agg #[I6 t.kd, I6 t.fr, I6 t.to, I6 t.mi, I6 t.ma, v], .agg #[I6 t.kd, I6 t.fr, I6 t.to, I6 t.mi, I6 t.ma, t.ls]] w fun e w' => e = .returned (.bool true) ∧ Ext [] w w' := by
 obtain ⟨z0, hz0, hz1⟩ := hT
 refine cbd 13 [(0, .agg #[I6 t.kd, I6 t.fr, I6 t.to, I6 t.mi, I6 t.ma, v]), (1, .agg #[I6 t.kd, I6 t.fr, I6 t.to, I6 t.mi, I6 t.ma, t.ls])] Tryd.func65 rfl fun a hS => ?_
 have hE0 : Ext [] w w := Ext.refl _ _
 refine sq fun K1 hK1 => rgn 3 <| ebx 2 #[I6 t.kd, I6 t.fr, I6 t.to, I6 t.mi, I6 t.ma, v] 98 (some 2) hS fun a w2 hw3 hS => ?_
 have hB4 := Blk.nw hw3
 have hs5 := hE0.size
 have hE6 := hE0.al hw3
 refine ebx 1 #[I6 t.kd, I6 t.fr, I6 t.to, I6 t.mi, I6 t.ma, t.ls] 98 (some 3) hS fun a w7 hw8 hS => ?_
 have hB10 := Blk.at' hw8 (hB4.alloc _)
 have hB11 := Blk.nw hw8
 have hs12 := hE6.size
 have hE13 := hE6.al hw8
 refine sd ww [.p] [] [(4, .bool false)] [] 3 0 hS .nil fun a hS => sge hK1 <| sq fun K14 hK14 => rgn 9 <| sd ww [.lds [I6 t.kd, I6 t.fr, I6 t.to, I6 t.mi, I6 t.ma, t.ls]] [_, _, _, _, _, _] [(5, .agg #[I6 t.kd, I6 t.fr, I6 t.to, I6 t.mi, I6 t.ma, t.ls])] [] 1 8 hS (hB11.k 0 (hB11.k 1 (hB11.k 2 (hB11.k 3 (hB11.k 4 (hB11.k 5 .nil)))))) fun a hS => ecl 7 (some 6) hS Tryd.call87 #[.agg #[I6 t.kd, I6 t.fr, I6 t.to, I6 t.mi, I6 t.ma, t.ls]] ((Flat_any hE (hb.trans0 hE13)).mono (R' := fun e w' => (z0 = 0 ∧ Tw w N v t ∧ e = .returned (.bool true) ∧ Ext [] w7 w') ∨ (z0 ≠ 0 ∧ e = .returned (.bool false) ∧ Ext [] w7 w')) (fun e w' h => by
  obtain ⟨z, hz, he, hE⟩ := h
  obtain rfl := hz0.same hz
  rcases hz1 with h1 | h1
  ·exact .inl ⟨h1.1, h1.2, by rw [he, h1.1]; rfl, hE⟩
  ·exact .inr ⟨h1.1, by rw [he]; simp [h1.1], hE⟩)) ?_
 rintro _ wg15 (⟨hzz, hTt, rfl, hEg15⟩ | ⟨hzz, rfl, hEg15⟩)
 ·
  refine ⟨_, rfl, fun a hS => ?_⟩
  have hB16 := hB10.ext hEg15 (by simp)
  have hB17 := hB11.ext hEg15 (by simp)
  have hE18 := hE13.trans0 hEg15
  refine sd ww [.p, .p, .lds [I6 t.kd, I6 t.fr, I6 t.to, I6 t.mi, I6 t.ma, v], .lds [I6 t.kd, I6 t.fr, I6 t.to, I6 t.mi, I6 t.ma, t.ls]] [_, _, _, _, _, _, _, _, _, _, _, _] [(8, .bool false), (9, .agg #[I6 t.kd, I6 t.fr, I6 t.to, I6 t.mi, I6 t.ma, v]), (10, .agg #[I6 t.kd, I6 t.fr, I6 t.to, I6 t.mi, I6 t.ma, t.ls])] [] 6 3 hS (hB16.k 0 (hB16.k 1 (hB16.k 2 (hB16.k 3 (hB16.k 4 (hB16.k 5 (hB17.k 0 (hB17.k 1 (hB17.k 2 (hB17.k 3 (hB17.k 4 (hB17.k 5 .nil)))))))))))) fun a hS => ecl 2 (some 11) hS Tryd.call98 #[.agg #[I6 t.kd, I6 t.fr, I6 t.to, I6 t.mi, I6 t.ma, v], .agg #[I6 t.kd, I6 t.fr, I6 t.to, I6 t.mi, I6 t.ma, t.ls]] (kept_any _ (Nat.lt_succ_self _) hE (hb.trans0 hE18) (hTt.ext0 hE18)) ?_
  rintro _ wc19 ⟨rfl, hEc19⟩
  refine ⟨_, rfl, fun a hS => ?_⟩
  have hE22 := hE18.trans0 hEc19
  refine sd ww [.p, .p] [] [(4, .bool true)] [] 9 0 hS .nil fun a hS => sge hK14 <| wpIn_ret ?_
  refine ret1 hS Tryd.results65 rfl ?_
  exact ⟨rfl, hE22⟩
 ·
  refine ⟨_, rfl, fun a hS => ?_⟩
  have hE25 := hE13.trans0 hEg15
  refine sd ww [.p, .p, .no, .no, .no, .p, .p] [] [(4, .bool true)] [] 9 0 hS .nil fun a hS => sge hK14 <| wpIn_ret ?_
  refine ret1 hS Tryd.results65 rfl ?_
  exact ⟨rfl, hE25⟩
end Go.Proofs.YtkkpghlcmcaoiaaDoor
