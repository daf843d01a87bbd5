import Derived.Test.YtkkpghlcmcaoiaaDoorS44
namespace Go.Proofs.YtkkpghlcmcaoiaaDoor
open Go.Vc Go.Gm
set_option maxHeartbeats 1000000 in
theorem twin_step {w0 w : World} {t : Ex} (hE : t.Ok w0) (hb : Ext [] w0 w) (ih : ∀ k ∈ t.kids, ∀ w, Ext [] w0 w → Calls Tryd.prog 88 #[.agg #[I6 k.kd, I6 k.fr, I6 k.to, I6 k.mi, I6 k.ma, k.ls]] w fun e w' => ∃ va vn vc, e = .returned (.agg #[I6 k.kd, I6 k.fr, I6 k.to, I6 k.mi, I6 k.ma, .slice va vn vc]) ∧ Tw w' w.heap.size (.slice va vn vc) k ∧ Ext [] w w') :
  Calls Tryd.prog 88 #[.agg #[I6 t.kd, I6 t.fr, I6 t.to, I6 t.mi, I6 t.ma, t.ls]] w fun e w' => ∃ va vn vc, e = .returned (.agg #[I6 t.kd, I6 t.fr, I6 t.to, I6 t.mi, I6 t.ma, .slice va vn vc]) ∧ Tw w' w.heap.size (.slice va vn vc) t ∧ Ext [] w w' := by
 have hkm := hE.max
 refine cbd 46 [(0, .agg #[I6 t.kd, I6 t.fr, I6 t.to, I6 t.mi, I6 t.ma, t.ls])] Tryd.func88 rfl fun a hS => ?_
 have hE0 : Ext [] w w := Ext.refl _ _
 refine sq fun K1 hK1 => rgn 2 <| ebx 1 #[I6 t.kd, I6 t.fr, I6 t.to, I6 t.mi, I6 t.ma, t.ls] 98 (some 1) hS fun a w2 hw3 hS => ?_
 have hB4 := Blk.nw hw3
 have hs5 := hE0.size
 have hE6 := hE0.al hw3
 refine ebx 0 #[I6 0, I6 0, I6 0, I6 0, I6 0, .slice none 0 0] 98 (some 2) hS fun a w7 hw8 hS => ?_
 have hB10 := Blk.at' hw8 (hB4.alloc _)
 have hB11 := Blk.nw hw8
 have hs12 := hE6.size
 have hE13 := hE6.al hw8
 refine sge hK1 <| sq fun K14 hK14 => rgn 3 <| sd ww [.lds [I6 t.kd, I6 t.fr, I6 t.to, I6 t.mi, I6 t.ma, t.ls]] [_, _, _, _, _, _] [(6, .agg #[I6 t.kd, I6 t.fr, I6 t.to, I6 t.mi, I6 t.ma, t.ls])] [] 1 2 hS (hB10.k 0 (hB10.k 1 (hB10.k 2 (hB10.k 3 (hB10.k 4 (hB10.k 5 .nil)))))) fun a hS => ebx 1 #[I6 0, I6 0, I6 0, I6 0, I6 0, .slice none 0 0] 98 (some 3) hS fun a w15 hw16 hS => ?_
 have hn17 := Nat.ne_of_lt hB10.lt
 have hn18 := Nat.ne_of_lt hB11.lt
 have hB19 := Blk.at' hw16 (hB10.alloc _)
 have hB20 := Blk.at' hw16 (hB11.alloc _)
 have hB21 := Blk.nw hw16
 have hs22 := hE13.size
 have hE23 := hE13.al hw16
 refine est 0 w7.heap.size 0 [I6 t.kd, I6 t.fr, I6 t.to, I6 t.mi, I6 t.ma, t.ls] hS hB21 fun a w24 hw25 hS => ?_
 have hB26 := Blk.at' hw25 (hB19.updNe (Ne.symm hn17) _ _)
 have hB27 := Blk.at' hw25 (hB20.updNe (Ne.symm hn18) _ _)
 have hB28 : Blk w24 w7.heap.size 98 (#[I6 t.kd, I6 t.fr, I6 t.to, I6 t.mi, I6 t.ma, t.ls]) := hB21.up hw25
 have hE29 := hE23.ui hw25 hs22
 refine sge hK14 <| sq fun K30 hK30 => rgn 2 <| sd ww [.p] [] [(7, (Po w7.heap.size 5))] [] 1 1 hS .nil fun a hS => est 0 w7.heap.size 5 [.slice none 0 0] hS hB28 fun a w31 hw32 hS => ?_
 have hB33 := Blk.at' hw32 (hB26.updNe (Ne.symm hn17) _ _)
 have hB34 := Blk.at' hw32 (hB27.updNe (Ne.symm hn18) _ _)
 have hB35 : Blk w31 w7.heap.size 98 (#[I6 t.kd, I6 t.fr, I6 t.to, I6 t.mi, I6 t.ma, .slice none 0 0]) := hB28.up hw32
 have hE36 := hE29.ui hw32 hs22
 refine sge hK30 <| sq fun K37 hK37 => sq fun K38 hK38 => ?_
 rcases (show (t.kids.length = 0) ∨ (0 < t.kids.length) from by omega) with h0 | h0
 ·
  have hkz : t.kids = [] := List.eq_nil_of_length_eq_zero h0
  refine rgn 4 <| sd ww [.p, .ld (t.ls), .run (I6 t.kids.length), .as (.bool false)] [_, Rv (Builtin.len_ #[96] 3 #[t.ls]) (I6 t.kids.length) w31, Value.bool (decide ((↑t.kids.length : Int) > 0)) = .bool false] [(11, .bool false)] [] 4 0 hS (hB33.k 5 (.c (rlr 98 hE.rd) (.c (as_f (by omega)) .nil))) fun a hS => sge hK38 ?_
  refine cond_f hS rfl ?_
  refine wpIn_skip <| hK37 _ _ <| sq fun K39 hK39 => rgn 2 <| sd ww [.lds [I6 t.kd, I6 t.fr, I6 t.to, I6 t.mi, I6 t.ma, .slice none 0 0]] [_, _, _, _, _, _] [(45, .agg #[I6 t.kd, I6 t.fr, I6 t.to, I6 t.mi, I6 t.ma, .slice none 0 0])] [] 1 1 hS (hB35.k 0 (hB35.k 1 (hB35.k 2 (hB35.k 3 (hB35.k 4 (hB35.k 5 .nil)))))) fun a hS => est 0 w2.heap.size 0 [I6 t.kd, I6 t.fr, I6 t.to, I6 t.mi, I6 t.ma, .slice none 0 0] hS hB34 fun a w40 hw41 hS => ?_
  have hB43 : Blk w40 w2.heap.size 98 (#[I6 t.kd, I6 t.fr, I6 t.to, I6 t.mi, I6 t.ma, .slice none 0 0]) := hB34.up hw41
  have hE45 := hE36.ui hw41 hs12
  refine sge hK39 <| wpIn_ret ?_
  refine retA1 hS Tryd.results88 (by kernel_rfl) (by kernel_rfl) rfl hB43 ?_
  exact ⟨_, _, _, rfl, .nil hkz, hE45⟩
 ·
  have hkz : t.kids ≠ [] := fun h => by rw [h] at h0; simp at h0
  refine rgn 4 <| sd ww [.p, .ld (t.ls), .run (I6 t.kids.length), .as (.bool true)] [_, Rv (Builtin.len_ #[96] 3 #[t.ls]) (I6 t.kids.length) w31, Value.bool (decide ((↑t.kids.length : Int) > 0)) = .bool true] [(11, .bool true)] [] 4 0 hS (hB33.k 5 (.c (rlr 98 hE.rd) (.c (as_t (by omega)) .nil))) fun a hS => sge hK38 ?_
  refine cond_t hS rfl ?_
  refine sq fun K46 hK46 => rgn 6 <| sd ww [.p, .ld (t.ls), .run (I6 t.kids.length), .as (I6 ((t.kids.length + 1 : Nat) : Int))] [_, Rv (Builtin.len_ #[96] 3 #[t.ls]) (I6 t.kids.length) w31, Value.int .i64 (IntKind.i64.wrap (↑t.kids.length + 1)) = I6 ((t.kids.length + 1 : Nat) : Int)] [(15, I6 ((t.kids.length + 1 : Nat) : Int))] [] 4 2 hS (hB33.k 5 (.c (rlr 98 hE.rd) (.c ((by rw [show (↑t.kids.length + 1 : Int) = ((t.kids.length + 1 : Nat) : Int) from by omega]; exact as_i64 (by omega))) .nil))) fun a hS => ?_
  obtain ⟨wm47, xm47, hrm47, hOm47, hEm47, hsm47⟩ := make_lenN (P := Tryd.prog) (w := w31) (T := 96) (E := 98) (size := 6) (bytes := 64) (z := #[I6 0, I6 0, I6 0, I6 0, I6 0, .slice none 0 0]) (l := (t.kids.length + 1)) (by kernel_rfl) (by kernel_rfl) (by omega) (by omega)
  refine eff_run ww (r := 1) (s := vS (Instr.makeSlice 96 (I6 ((t.kids.length + 1 : Nat) : Int)) (I6 ((t.kids.length + 1 : Nat) : Int)))) (d := (some 16)) (v := Sl w31.heap.size (t.kids.length + 1) (t.kids.length + 1)) hS (by kernel_rfl) hrm47 fun a hS => ?_
  have hn47_47 := Nat.ne_of_lt hB33.lt
  have hn47_48 := Nat.ne_of_lt hB34.lt
  have hn47_49 := Nat.ne_of_lt hB35.lt
  have hB51 := hB33.ext hEm47 (by simp)
  have hB52 := hB34.ext hEm47 (by simp)
  have hB53 := hB35.ext hEm47 (by simp)
  have hE54 := hE36.trans0 hEm47
  refine sd ww [.p] [] [(4, Sl w31.heap.size (t.kids.length + 1) (t.kids.length + 1))] [] 6 0 hS .nil fun a hS => sge hK46 <| sq fun K55 hK55 => sdq 1 [.p] [] [(5, I6 0)] [] hS .nil fun a hS => wpIn_block ?_
  have hgN : ∀ x ∈ ([w31.heap.size] : List Nat), x < wm47.heap.size := fun x hx => by simp at hx; rw [hx, hsm47]; exact Nat.lt_succ_self _
  have hxl : xm47.length = (t.kids.length + 1) * 6 := hOm47.len
  have h3N : w7.heap.size < wm47.heap.size := hB53.lt
  have h2N : w2.heap.size < wm47.heap.size := hB52.lt
  have hbl57 := (hb.trans0 hE54)
  refine loop_ghost (fun ((k, vs) : Nat × (List Value)) a' w' => St 46 [] [(1, (Pv w.heap.size)), (2, (Pv w2.heap.size)), (3, (Pv w7.heap.size)), (4, Sl w31.heap.size (t.kids.length + 1) (t.kids.length + 1)), (5, I6 k)] a' ∧ Ext [w31.heap.size] wm47 w' ∧ k ≤ t.kids.length ∧ vs.length = k ∧ OwnR w' 98 6 (w31.heap.size) (t.kids.length + 1) (t.kids.length + 1) (zcells (t.kids.take k) vs ++ xm47.drop (k * 6)) ∧ (∀ (i : Nat) (v : Value) (kk : Ex), vs[i]? = some v → t.kids[i]? = some kk → Tw w' wm47.heap.size v kk)) (fun ((k, vs) : Nat × (List Value)) => t.kids.length - k) (0, []) ⟨hS.keepTo [1, 2, 3, 4, 5] (by kernel_rfl), Ext.refl _ _, by omega, rfl, hOm47, fun i v kk h => by simp at h⟩ ?_
  rintro ⟨k, vs⟩ a wl57 ⟨hS, hXl57, hk, hvl, hgk, hTw⟩
  have hB58 := hB51.ext hXl57 (by simpa using hn47_47)
  have hB59 := hB52.ext hXl57 (by simpa using hn47_48)
  have hB60 := hB53.ext hXl57 (by simpa using hn47_49)
  refine sq fun K61 hK61 => sdq 5 [.p, .p, .ld (t.ls), .run (I6 t.kids.length), .p] [_, Rv (Builtin.len_ #[96] 3 #[t.ls]) (I6 t.kids.length) wl57] [(21, .bool (decide ((↑k : Int) < ↑t.kids.length)))] [] hS (hB58.k 5 (.c (rlr 98 hE.rd) .nil)) fun a hS => ?_
  refine cond_b hS rfl (fun hb63 => ?_) (fun hb63 => ?_)
  ·
   replace hb63 := of_decide_eq_true hb63
   obtain ⟨y, hy⟩ : ∃ y, t.kids[k]? = some y := gE
   have hzl : (zcells (t.kids.take k) vs ++ xm47.drop (k * 6)).length = (t.kids.length + 1) * 6 := hgk.len
   refine wpIn_skip <| hK61 _ _ <| sq fun K64 hK64 => wpIn_block <| rgn 10 <| sd ww [.p, .p, .p, .ld (t.ls), .p, .run ((Po (bof t.ls) (oof t.ls + k * 6))), .lds [I6 y.kd, I6 y.fr, I6 y.to, I6 y.mi, I6 y.ma, y.ls]] [_, Rv (Instr.indexAt 96 (t.ls) (I6 k)) ((Po (bof t.ls) (oof t.ls + k * 6))) wl57, wl57.cell? ⟨bof t.ls, oof t.ls + k * 6, none⟩ = some (I6 y.kd), wl57.cell? ⟨bof t.ls, oof t.ls + k * 6 + 1, none⟩ = some (I6 y.fr), wl57.cell? ⟨bof t.ls, oof t.ls + k * 6 + 2, none⟩ = some (I6 y.to), wl57.cell? ⟨bof t.ls, oof t.ls + k * 6 + 3, none⟩ = some (I6 y.mi), wl57.cell? ⟨bof t.ls, oof t.ls + k * 6 + 4, none⟩ = some (I6 y.ma), wl57.cell? ⟨bof t.ls, oof t.ls + k * 6 + 5, none⟩ = some (y.ls)] [(24, Sl w31.heap.size (t.kids.length + 1) (t.kids.length + 1)), (25, I6 k), (30, .agg #[I6 y.kd, I6 y.fr, I6 y.to, I6 y.mi, I6 y.ma, y.ls])] [] 7 3 hS (hB58.k 5 (.c (ixr 98 k hE.rd) (.c ((hE.rd.ext0 (hbl57.trans hXl57 (fun b hbM => by simp at hbM; rw [hbM]; exact .inr (Nat.le_trans hb.size hE36.size)))).cellAt (k * 6 + 0) (by omega) (ecells_at t.kids k 0 y hy (by omega))) (.c ((hE.rd.ext0 (hbl57.trans hXl57 (fun b hbM => by simp at hbM; rw [hbM]; exact .inr (Nat.le_trans hb.size hE36.size)))).cellAt (k * 6 + 1) (by omega) (ecells_at t.kids k 1 y hy (by omega))) (.c ((hE.rd.ext0 (hbl57.trans hXl57 (fun b hbM => by simp at hbM; rw [hbM]; exact .inr (Nat.le_trans hb.size hE36.size)))).cellAt (k * 6 + 2) (by omega) (ecells_at t.kids k 2 y hy (by omega))) (.c ((hE.rd.ext0 (hbl57.trans hXl57 (fun b hbM => by simp at hbM; rw [hbM]; exact .inr (Nat.le_trans hb.size hE36.size)))).cellAt (k * 6 + 3) (by omega) (ecells_at t.kids k 3 y hy (by omega))) (.c ((hE.rd.ext0 (hbl57.trans hXl57 (fun b hbM => by simp at hbM; rw [hbM]; exact .inr (Nat.le_trans hb.size hE36.size)))).cellAt (k * 6 + 4) (by omega) (ecells_at t.kids k 4 y hy (by omega))) (.c ((hE.rd.ext0 (hbl57.trans hXl57 (fun b hbM => by simp at hbM; rw [hbM]; exact .inr (Nat.le_trans hb.size hE36.size)))).cellAt (k * 6 + 5) (by omega) (ecells_at t.kids k 5 y hy (by omega))) .nil)))))))) fun a hS => ecl 2 (some 31) hS Tryd.call88 #[.agg #[I6 y.kd, I6 y.fr, I6 y.to, I6 y.mi, I6 y.ma, y.ls]] (ih y (List.mem_of_getElem? hy) _ (hbl57.trans hXl57 (fun b hbM => by simp at hbM; rw [hbM]; exact .inr (Nat.le_trans hb.size hE36.size)))) ?_
   rintro _ wc65 ⟨va65, vn65, vc65, rfl, hT65, hEc65⟩
   refine ⟨_, rfl, fun a hS => ?_⟩
   have hB69 := hgk.ext hEc65 (by simp)
   have hG70 : ∀ (i : Nat) (v : Value) (kk : Ex), vs[i]? = some v → t.kids[i]? = some kk → Tw wc65 wm47.heap.size v kk := fun i v kk h h' => (hTw i v kk h h').ext0 hEc65
   have hE71 := hXl57.trans0 hEc65
   refine sd ww [.run ((Po w31.heap.size (0 + k * 6)))] [Rv (Instr.indexAt 96 (Sl w31.heap.size (t.kids.length + 1) (t.kids.length + 1)) (I6 k)) ((Po w31.heap.size (0 + k * 6))) wc65] [(32, (Po w31.heap.size (0 + k * 6)))] [] 9 1 hS (.c (ixs 98 6 k) .nil) fun a hS => eff_store_ownN ww (r := 0) (b := w31.heap.size) (off := 0 + k * 6) (vs := [I6 y.kd, I6 y.fr, I6 y.to, I6 y.mi, I6 y.ma, .slice va65 vn65 vc65]) (xs := (zcells (t.kids.take k) vs ++ xm47.drop (k * 6))) hS (by kernel_rfl) hB69 (by simp only [List.length_cons, List.length_nil]; omega) fun a ws72 hOs72 hEs72 hsz72 hS => ?_
   have hE76 : Ext [w31.heap.size] wm47 ws72 := hE71.trans hEs72 (fun b hb => by simp at hb; subst hb; exact .inl (by simp))
   have hG77 : ∀ (i : Nat) (v : Value) (kk : Ex), vs[i]? = some v → t.kids[i]? = some kk → Tw ws72 wm47.heap.size v kk := fun i v kk h h' => (hG70 i v kk h h').extN hEs72 hgN
   have hG78 : Tw ws72 wm47.heap.size (.slice va65 vn65 vc65) y := (hT65.mono hXl57.size).extN hEs72 hgN
   refine seg_end <| inBlock_normal <| hK64 _ _ <| rgn 3 <| sd ww [.p, .as (I6 (↑k + 1)), .p] [_] [(5, I6 (↑k + 1))] [] 3 0 hS (as6 (↑k + 1)) fun a hS => seg_end ?_
   have hgs := hOs72
   rw [show ([I6 y.kd, I6 y.fr, I6 y.to, I6 y.mi, I6 y.ma, .slice va65 vn65 vc65] : List Value) = y.cellsW (.slice va65 vn65 vc65) from rfl, zc_step hy hvl hxl] at hgs
   have htA := hG77
   have htB := hG78
   exact ⟨(k + 1, (vs ++ [(.slice va65 vn65 vc65)])), ⟨hS.kp [(1, (Pv w.heap.size)), (2, (Pv w2.heap.size)), (3, (Pv w7.heap.size)), (4, Sl w31.heap.size (t.kids.length + 1) (t.kids.length + 1)), (5, I6 (↑k + 1))], hE76, by omega, by rw [List.length_append, hvl]; rfl, hgs, fun i v kk h h' => by
    rcases Nat.lt_or_ge i vs.length with h1 | h1
    ·rw [List.getElem?_append_left h1] at h; exact htA i v kk h h'
    ·have hi := (List.getElem?_eq_some_iff.1 h).1
     rw [List.length_append, List.length_singleton] at hi
     obtain rfl : i = vs.length := by omega
     rw [List.getElem?_append_right (Nat.le_refl _), Nat.sub_self] at h
     rw [hvl, hy] at h'
     cases h; cases h'; exact htB⟩, by simp only; omega⟩
  ·
   replace hb63 := of_decide_eq_false hb63
   have hEl57 : Ext [] w wl57 := hE54.trans hXl57 (fun b hbM => by simp at hbM; rw [hbM]; exact .inr hE36.size)
   have hke : k = t.kids.length := by omega
   rw [hke] at hvl
   have hgz := hgk
   rw [hke] at hgz
   have hzl := hgz.len
   refine xt2 <| hK55 _ _ <| sq fun K79 hK79 => rgn 7 <| sd ww [.p, .p, .ld (t.ls), .run (I6 t.kids.length), .p, .run ((Po w31.heap.size (0 + t.kids.length * 6)))] [_, Rv (Builtin.len_ #[96] 3 #[t.ls]) (I6 t.kids.length) wl57, Rv (Instr.indexAt 96 (Sl w31.heap.size (t.kids.length + 1) (t.kids.length + 1)) (I6 t.kids.length)) ((Po w31.heap.size (0 + t.kids.length * 6))) wl57] [(37, .agg #[I6 93, I6 0, I6 0, I6 0, I6 0, .slice none 0 0]), (38, (Po w31.heap.size (0 + t.kids.length * 6)))] [] 6 1 hS (hB58.k 5 (.c (rlr 98 hE.rd) (.c (ixs 98 6 t.kids.length) .nil))) fun a hS => eff_store_ownN ww (r := 0) (b := w31.heap.size) (off := 0 + t.kids.length * 6) (vs := [I6 93, I6 0, I6 0, I6 0, I6 0, .slice none 0 0]) (xs := (zcells (t.kids.take t.kids.length) vs ++ xm47.drop (t.kids.length * 6))) hS (by kernel_rfl) hgz (by simp only [List.length_cons, List.length_nil]; omega) fun a ws80 hOs80 hEs80 hsz80 hS => ?_
   have hB81 := hB58.ext hEs80 (by simpa using hn47_47)
   have hB82 := hB59.ext hEs80 (by simpa using hn47_48)
   have hB83 := hB60.ext hEs80 (by simpa using hn47_49)
   have hE84 : Ext [] w ws80 := hEl57.trans hEs80 (fun b hb => by simp at hb; subst hb; exact .inr hE36.size)
   have hG85 : ∀ (i : Nat) (v : Value) (kk : Ex), vs[i]? = some v → t.kids[i]? = some kk → Tw ws80 wm47.heap.size v kk := fun i v kk h h' => (hTw i v kk h h').extN hEs80 hgN
   refine sge hK79 <| rgn 7 <| sd ww [.p, .p, .ld (t.ls), .run (I6 t.kids.length), .run (Sl w31.heap.size t.kids.length (t.kids.length + 1)), .p] [_, Rv (Builtin.len_ #[96] 3 #[t.ls]) (I6 t.kids.length) ws80, Rv (Instr.sliceAt 96 (Sl w31.heap.size (t.kids.length + 1) (t.kids.length + 1)) none (some (I6 t.kids.length)) none) (Sl w31.heap.size t.kids.length (t.kids.length + 1)) ws80] [(43, Sl w31.heap.size t.kids.length (t.kids.length + 1)), (44, (Po w7.heap.size 5))] [] 6 1 hS (hB81.k 5 (.c (rlr 98 hE.rd) (.c (sl_h (E := 98) (size := 6) (h := t.kids.length) (by kernel_rfl) (by kernel_rfl) rfl (by omega)) .nil))) fun a hS => est 0 w7.heap.size 5 [Sl w31.heap.size t.kids.length (t.kids.length + 1)] hS hB83 fun a w86 hw87 hS => ?_
   have hB89 := Blk.at' hw87 (hB82.updNe (Ne.symm hn18) _ _)
   have hB90 : Blk w86 w7.heap.size 98 (#[I6 t.kd, I6 t.fr, I6 t.to, I6 t.mi, I6 t.ma, Sl w31.heap.size t.kids.length (t.kids.length + 1)]) := hB83.up hw87
   have hB91 := OwnR.at' hw87 (hOs80.updNe hn47_49 _ _)
   have hX92 : Ext [w7.heap.size] ws80 w86 := by rw [hw87]; exact (Ext.refl _ _).updIn (.inl (by simp)) _ _
   have hG93 : ∀ (i : Nat) (v : Value) (kk : Ex), vs[i]? = some v → t.kids[i]? = some kk → Tw w86 wm47.heap.size v kk := fun i v kk h h' => (hG85 i v kk h h').extN hX92 (fun x hx => by simp at hx; rw [hx]; exact h3N)
   have hE94 := hE84.ui hw87 hs22
   refine sge hK37 <| sq fun K95 hK95 => rgn 2 <| sd ww [.lds [I6 t.kd, I6 t.fr, I6 t.to, I6 t.mi, I6 t.ma, Sl w31.heap.size t.kids.length (t.kids.length + 1)]] [_, _, _, _, _, _] [(45, .agg #[I6 t.kd, I6 t.fr, I6 t.to, I6 t.mi, I6 t.ma, Sl w31.heap.size t.kids.length (t.kids.length + 1)])] [] 1 1 hS (hB90.k 0 (hB90.k 1 (hB90.k 2 (hB90.k 3 (hB90.k 4 (hB90.k 5 .nil)))))) fun a hS => est 0 w2.heap.size 0 [I6 t.kd, I6 t.fr, I6 t.to, I6 t.mi, I6 t.ma, Sl w31.heap.size t.kids.length (t.kids.length + 1)] hS hB89 fun a w96 hw97 hS => ?_
   have hB99 : Blk w96 w2.heap.size 98 (#[I6 t.kd, I6 t.fr, I6 t.to, I6 t.mi, I6 t.ma, Sl w31.heap.size t.kids.length (t.kids.length + 1)]) := hB89.up hw97
   have hB101 := OwnR.at' hw97 (hB91.updNe hn47_48 _ _)
   have hX102 : Ext [w2.heap.size] w86 w96 := by rw [hw97]; exact (Ext.refl _ _).updIn (.inl (by simp)) _ _
   have hG103 : ∀ (i : Nat) (v : Value) (kk : Ex), vs[i]? = some v → t.kids[i]? = some kk → Tw w96 wm47.heap.size v kk := fun i v kk h h' => (hG93 i v kk h h').extN hX102 (fun x hx => by simp at hx; rw [hx]; exact h2N)
   have hE104 := hE94.ui hw97 hs12
   refine sge hK95 <| wpIn_ret ?_
   refine retA1 hS Tryd.results88 (by kernel_rfl) (by kernel_rfl) rfl hB99 ?_
   exact ⟨_, _, _, rfl, .row hkz hkm hvl (by have h := hB101; rw [show ([I6 93, I6 0, I6 0, I6 0, I6 0, .slice none 0 0] : List Value) = markE from rfl, zc_mark hvl hxl] at h; exact h) hE36.size (fun i v kk h h' => (hG103 i v kk h h').mono (hE54).size), hE104⟩
theorem twin_any {w0 : World} : ∀ (n : Nat) {w : World} {t : Ex}, SizeOf.sizeOf t < n → t.Ok w0 → Ext [] w0 w → Calls Tryd.prog 88 #[.agg #[I6 t.kd, I6 t.fr, I6 t.to, I6 t.mi, I6 t.ma, t.ls]] w fun e w' => ∃ va vn vc, e = .returned (.agg #[I6 t.kd, I6 t.fr, I6 t.to, I6 t.mi, I6 t.ma, .slice va vn vc]) ∧ Tw w' w.heap.size (.slice va vn vc) t ∧ Ext [] w w'
 | 0, _, _, h, _, _ => by omega
 | n + 1, _, _, h, hE, hb => twin_step hE hb fun k hk w hw => twin_any n (by have := Ex.kid_lt hk; omega) (hE.kid k hk) hw
theorem TwinExpr_any {w0 w : World} {t : Ex} (hE : t.Ok w0) (hb : Ext [] w0 w) :
  Calls Tryd.prog 51 #[.agg #[I6 t.kd, I6 t.fr, I6 t.to, I6 t.mi, I6 t.ma, t.ls]] w fun e w' => ∃ va vn vc, e = .returned (.agg #[I6 t.kd, I6 t.fr, I6 t.to, I6 t.mi, I6 t.ma, .slice va vn vc]) ∧ TwE w' w.heap.size (.slice va vn vc) t ∧ Ext [] w w' := by
 refine cbd 9 [(0, .agg #[I6 t.kd, I6 t.fr, I6 t.to, I6 t.mi, I6 t.ma, t.ls])] Tryd.func51 rfl fun a hS => ?_
 have hE0 : Ext [] w w := Ext.refl _ _
 refine sq fun K1 hK1 => rgn 2 <| ebx 1 #[I6 t.kd, I6 t.fr, I6 t.to, I6 t.mi, I6 t.ma, t.ls] 98 (some 1) hS fun a w2 hw3 hS => ?_
 have hB4 := Blk.nw hw3
 have hs5 := hE0.size
 have hE6 := hE0.al hw3
 refine ebx 0 #[I6 0, I6 0, I6 0, I6 0, I6 0, .slice none 0 0] 98 (some 2) hS fun a w7 hw8 hS => ?_
 have hB10 := Blk.at' hw8 (hB4.alloc _)
 have hB11 := Blk.nw hw8
 have hs12 := hE6.size
 have hE13 := hE6.al hw8
 refine sge hK1 <| sq fun K14 hK14 => sq fun K15 hK15 => rgn 3 <| sd ww [.lds [I6 t.kd, I6 t.fr, I6 t.to, I6 t.mi, I6 t.ma, t.ls]] [_, _, _, _, _, _] [(3, .agg #[I6 t.kd, I6 t.fr, I6 t.to, I6 t.mi, I6 t.ma, t.ls])] [] 1 2 hS (hB10.k 0 (hB10.k 1 (hB10.k 2 (hB10.k 3 (hB10.k 4 (hB10.k 5 .nil)))))) fun a hS => ecl 1 (some 4) hS Tryd.call87 #[.agg #[I6 t.kd, I6 t.fr, I6 t.to, I6 t.mi, I6 t.ma, t.ls]] (Flat_any hE (hb.trans0 hE13)) ?_
 rintro _ wg16 ⟨z16, hz16, rfl, hEg16⟩
 refine ⟨_, rfl, fun a hS => ?_⟩
 have hB17 := hB10.ext hEg16 (by simp)
 have hB18 := hB11.ext hEg16 (by simp)
 have hE19 := hE13.trans0 hEg16
 refine sd ww [.p] [] [(5, .bool (!((z16 : Int) == 0)))] [] 3 0 hS .nil fun a hS => sge hK15 ?_
 refine cond_b hS rfl (fun hb20 => ?_) (fun hb20 => ?_)
 ·
  replace hb20 := hb20
  have hzn : z16 ≠ 0 := by simpa using hb20
  refine sq fun K21 hK21 => rgn 2 <| sd ww [.lds [I6 t.kd, I6 t.fr, I6 t.to, I6 t.mi, I6 t.ma, t.ls]] [_, _, _, _, _, _] [(6, .agg #[I6 t.kd, I6 t.fr, I6 t.to, I6 t.mi, I6 t.ma, t.ls])] [] 1 1 hS (hB17.k 0 (hB17.k 1 (hB17.k 2 (hB17.k 3 (hB17.k 4 (hB17.k 5 .nil)))))) fun a hS => est 0 w2.heap.size 0 [I6 t.kd, I6 t.fr, I6 t.to, I6 t.mi, I6 t.ma, t.ls] hS hB18 fun a w22 hw23 hS => ?_
  have hB25 : Blk w22 w2.heap.size 98 (#[I6 t.kd, I6 t.fr, I6 t.to, I6 t.mi, I6 t.ma, t.ls]) := hB18.up hw23
  have hE26 := hE19.ui hw23 hs12
  refine sge hK21 <| wpIn_ret <| then_ret ?_
  refine retA1 hS Tryd.results51 (by kernel_rfl) (by kernel_rfl) rfl hB25 ?_
  exact ⟨_, _, _, rfl, ⟨z16, hz16, .inr ⟨hzn, rfl⟩⟩, hE26⟩
 ·
  replace hb20 := hb20
  have hzn : z16 = 0 := by simpa using hb20
  refine wpIn_skip <| hK14 _ _ <| sq fun K27 hK27 => ?_
  have h2N : w2.heap.size < wg16.heap.size := hB18.lt
  refine rgn 3 <| sd ww [.lds [I6 t.kd, I6 t.fr, I6 t.to, I6 t.mi, I6 t.ma, t.ls]] [_, _, _, _, _, _] [(7, .agg #[I6 t.kd, I6 t.fr, I6 t.to, I6 t.mi, I6 t.ma, t.ls])] [] 1 2 hS (hB17.k 0 (hB17.k 1 (hB17.k 2 (hB17.k 3 (hB17.k 4 (hB17.k 5 .nil)))))) fun a hS => ecl 1 (some 8) hS Tryd.call88 #[.agg #[I6 t.kd, I6 t.fr, I6 t.to, I6 t.mi, I6 t.ma, t.ls]] (twin_any _ (Nat.lt_succ_self _) hE (hb.trans0 hE19)) ?_
  rintro _ wc28 ⟨va28, vn28, vc28, rfl, hT28, hEc28⟩
  refine ⟨_, rfl, fun a hS => ?_⟩
  have hB30 := hB18.ext hEc28 (by simp)
  have hE31 := hE19.trans0 hEc28
  refine est 0 w2.heap.size 0 [I6 t.kd, I6 t.fr, I6 t.to, I6 t.mi, I6 t.ma, .slice va28 vn28 vc28] hS hB30 fun a w32 hw33 hS => ?_
  have hB35 : Blk w32 w2.heap.size 98 (#[I6 t.kd, I6 t.fr, I6 t.to, I6 t.mi, I6 t.ma, .slice va28 vn28 vc28]) := hB30.up hw33
  have hX36 : Ext [w2.heap.size] wc28 w32 := by rw [hw33]; exact (Ext.refl _ _).updIn (.inl (by simp)) _ _
  have hG37 : Tw w32 wg16.heap.size (.slice va28 vn28 vc28) t := hT28.extN hX36 (fun x hx => by simp at hx; rw [hx]; exact h2N)
  have hE38 := hE31.ui hw33 hs12
  refine sge hK27 <| wpIn_ret ?_
  refine retA1 hS Tryd.results51 (by kernel_rfl) (by kernel_rfl) rfl hB35 ?_
  exact ⟨_, _, _, rfl, ⟨z16, hz16, .inl ⟨hzn, hG37.mono hE19.size⟩⟩, hE38⟩
end Go.Proofs.YtkkpghlcmcaoiaaDoor
