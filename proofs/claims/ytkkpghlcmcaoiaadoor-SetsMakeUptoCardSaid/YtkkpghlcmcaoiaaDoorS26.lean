import Derived.Test.YtkkpghlcmcaoiaaDoorS25
import Derived.Test.YtkkpghlcmcaoiaaDoorS23
namespace Go.Proofs.YtkkpghlcmcaoiaaDoor
open Go.Vc Go.Gm

theorem MT_emp {G : Gr} {nl : Nat} {r : List Sm} {u : List Nat} (h : MT G nl r u) : u = [] → NuR G r := by
 induction h with
 | nil => intro _ x hx; cases hx
 | t _ _ => intro h; cases h
 | e _ _ => intro h; cases h
 | @m A q r v u hm _ _ ih1 ih2 =>
  intro h
  obtain ⟨h1, h2⟩ := List.append_eq_nil_iff.1 h
  intro x hx
  rcases List.mem_cons.1 hx with rfl | hx
  ·refine ⟨A, rfl, .mk A q hm (fun B hB => ?_) (.inr fun x hx => ?_)⟩
   ·obtain ⟨B', h3, h4⟩ := ih1 h1 _ hB
    cases h3; exact h4
   ·obtain ⟨B', h3, _⟩ := ih1 h1 _ hx
    rw [h3]; rfl
  ·exact ih2 h2 x hx
theorem MT_head {G : Gr} {nl : Nat} {r : List Sm} {u : List Nat} (h : MT G nl r u) : ∀ {a v}, u = a :: v → FiR G nl r a := by
 induction h with
 | nil => intro a v h; cases h
 | t _ _ => intro a v h; cases h; exact .t
 | e _ _ => intro a v h; cases h; exact .e
 | @m A q r v u hm hq _ ih1 ih2 =>
  intro a v' h
  cases v with
  | nil =>
   have hn := MT_emp hq rfl
   refine .skip (.mk A q hm (fun B hB => ?_) (.inr fun x hx => ?_)) (ih2 h)
   ·obtain ⟨B', h3, h4⟩ := hn _ hB
    cases h3; exact h4
   ·obtain ⟨B', h3, _⟩ := hn _ hx
    rw [h3]; rfl
  | cons b v =>
   cases h
   exact .m hm (ih1 rfl)
theorem MT_name {G : Gr} {nl A : Nat} {u : List Nat} (h : MT G nl [.m A] u) : MN G nl A u := by
 cases h with
 | @m A q r v u hm hq hr =>
  cases hr
  rw [List.append_nil]
  exact ⟨q, hm, hq⟩
theorem MN_nil {G : Gr} {nl A : Nat} (h : MN G nl A []) : Der G false A := by
 obtain ⟨q, hm, hq⟩ := h
 have hn := MT_emp hq rfl
 refine .mk A q hm (fun B hB => ?_) (.inr fun x hx => ?_)
 ·obtain ⟨B', h3, h4⟩ := hn _ hB
  cases h3; exact h4
 ·obtain ⟨B', h3, _⟩ := hn _ hx
  rw [h3]; rfl
theorem MN_head {G : Gr} {nl A a : Nat} {v : List Nat} (h : MN G nl A (a :: v)) : FiN G nl A a := by
 obtain ⟨q, hm, hq⟩ := h
 exact ⟨q, hm, MT_head hq rfl⟩
theorem FirR.has {S : Sp} {ls : List (List Nat)} (h : FirR S ls) {A a : Nat} {l : List Nat} (hl : ls[A]? = some l) : a ∈ l ↔ FiN S.g S.nl A a := by
 obtain ⟨fs, rfl, _, hk, hFF⟩ := h
 rw [List.getElem?_map] at hl
 obtain ⟨s, hs, rfl⟩ := Option.map_eq_some_iff.1 hl
 rw [mem_tls (hk s (List.mem_of_getElem? hs)), ← hFF.iff A a]
 unfold hF
 rw [gF_at hs]
theorem TdOk.extT {S : Sp} {N : Nat} {w w' : World} {T : Td} (h : TdOk S N w T) {b t : Nat} {cs : Array Value} (hE : Ext [b] w w') (hB : Blk w b t cs) (h1 : 51 ≠ t) (h2 : 3 ≠ t) (h3 : 4 ≠ t) : TdOk S N w' T :=
 ⟨h.re.ext hE (by simpa using h.re.ne_type hB h3), h.ne, h.isE, h.lf.extT hE hB h1 h2, h.isF, h.lw.extT hE hB h1 h2, h.isW, h.ly.extT hE hB h1 h2, h.isY, h.afw, h.afy, h.awy⟩
theorem TdOk.yld {S : Sp} {N : Nat} {w : World} {T : Td} (h : TdOk S N w T) (hf : T.full = false) : T.yn = S.ns.length ∧ YldR S T.yl := by
 obtain ⟨k, x, ⟨vs, hv, h1 | h1⟩, h2⟩ := h.isY
 ·have := h2.2 h1.1; rw [hf] at this; cases this
 ·exact ⟨h1.2.2.2.1, h1.2.2.2.2⟩
theorem Lsts.at' {N : Nat} {w : World} {bs : Option Addr} {n cp : Nat} {L : List Rw} {ls : List (List Nat)} (h : Lsts N w bs n cp L ls) {k : Nat} {l : List Nat} (hk : ls[k]? = some l) : ∃ u, (L.map Rw.v)[k]? = some u ∧ RdV w 1 u l.length (ivs l) := by
 have hl := h.len
 obtain ⟨x, hx⟩ : ∃ x, L[k]? = some x := ⟨_, List.getElem?_eq_getElem (by have := (List.getElem?_eq_some_iff.1 hk).1; omega)⟩
 have he := congrArg (fun l => l[k]?) h.is
 simp only [List.getElem?_map, hx, hk, Option.map_some, Option.some.injEq, Prod.mk.injEq] at he
 refine ⟨x.v, by rw [List.getElem?_map, hx]; rfl, ?_⟩
 have := (h.fam.own k x hx).rd
 rw [he.1, he.2] at this
 exact this
theorem has_true {w : World} {v : Value} {n : Nat} {xs : List Nat} {q : Nat} (hq : q ∈ xs) (hv : RdV w 1 v n (ivs xs)) (hn : n ≤ 1048576) : Calls Tryd.prog 29 #[v, I6 (q : Int)] w fun e w' => e = .returned (.bool true) ∧ Ext [] w w' := by
 refine (has_any q hv hn).mono ?_
 rintro e w' ⟨h1, h2⟩
 exact ⟨by rw [h1, decide_eq_true hq], h2⟩
theorem Less_false {w : World} {v u : Value} {n m : Nat} {xs ys : List Nat} (h : ¬less xs ys) (hv : RdV w 1 v n (ivs xs)) (hu : RdV w 1 u m (ivs ys)) (hn : n ≤ 1048576) : Calls Tryd.prog 30 #[v, u] w fun e w' => e = .returned (.bool false) ∧ Ext [] w w' := by
 refine (Less_any hv hu hn).mono ?_
 rintro e w' ⟨h1, h2⟩
 exact ⟨by rw [h1, decide_eq_false h], h2⟩

set_option maxHeartbeats 1000000 in
theorem SetsMake_any {w : World} {S : Sp} (hG : SpOk w S) (hT : Tab w) (nm : Int) {pa : Option Addr} {np pc : Nat} {ts : List Int} (hp : RdV w 1 (.slice pa np pc) np (its ts)) (hpm0 : np ≤ 1048576) :
  Calls Tryd.prog 4 #[.agg #[S.lv, S.nv, I6 S.st, S.pv], I6 nm, (.slice pa np pc)] w fun e w' => e = .returned (.bool true) ∧ Ext [] w w' := by
 have hlmax := hG.lmax
 have hnmax := hG.nmax
 have hpmax := hG.pmax
 have hb : Ext [] w w := Ext.refl _ _
 refine calls_body 97 [(0, .agg #[S.lv, S.nv, I6 S.st, S.pv]), (1, I6 nm), (2, (.slice pa np pc))] Tryd.func4 rfl (by kernel_rfl) (by kernel_rfl) (by kernel_rfl) fun a hS => ?_
 have hE0 : Ext [] w w := Ext.refl _ _
 refine sq fun K1 hK1 => ?_
 refine rgn 2 ?_
 refine eff_box wide_wide (r := 1) (cs := #[S.lv, S.nv, I6 S.st, S.pv]) (T := 26) (d := (some 3)) hS (by kernel_rfl) fun a w2 hw3 hS => ?_
 have hB4 : Blk w2 (w.heap.size) 26 #[S.lv, S.nv, I6 S.st, S.pv] := by rw [hw3]; exact Blk.new _ _ _
 have hs5 : w.heap.size ≤ w.heap.size := hE0.size
 have hE6 : Ext [] w w2 := by rw [hw3]; exact hE0.alloc _
 refine sg wide_wide [.p] [] [(0, .agg #[S.lv, S.nv, I6 S.st, S.pv]), (1, I6 nm), (2, (.slice pa np pc)), (3, (Pv w.heap.size)), (6, .bool false)] 2 0 hS .nil fun a hS => ?_
 refine seg_end ?_
 refine hK1 _ _ ?_
 refine sq fun K7 hK7 => ?_
 refine rgn 10 ?_
 refine sg wide_wide [.lds [S.lv, S.nv, I6 S.st, S.pv]] [w2.cell? ⟨w.heap.size, 0, none⟩ = some (S.lv), w2.cell? ⟨w.heap.size, 1, none⟩ = some (S.nv), w2.cell? ⟨w.heap.size, 2, none⟩ = some (I6 S.st), w2.cell? ⟨w.heap.size, 3, none⟩ = some (S.pv)] [(0, .agg #[S.lv, S.nv, I6 S.st, S.pv]), (1, I6 nm), (2, (.slice pa np pc)), (3, (Pv w.heap.size)), (6, .bool false), (14, .agg #[S.lv, S.nv, I6 S.st, S.pv])] 1 9 hS (.cons (hB4.cell 0 rfl) (.cons (hB4.cell 1 rfl) (.cons (hB4.cell 2 rfl) (.cons (hB4.cell 3 rfl) .nil)))) fun a hS => ?_
 refine eff_call wide_wide (r := 8) (f := 27) (vs := [.agg #[S.lv, S.nv, I6 S.st, S.pv]]) (cap := #[]) (d := (some 15)) hS (by kernel_rfl) Tryd.call27 #[.agg #[S.lv, S.nv, I6 S.st, S.pv]] (by kernel_rfl) (told_any hG (hb.trans0 hE6) hT) ?_
 rintro _ wtT ⟨z, hZT, ⟨hzT, rfl⟩ | ⟨hzT, T, rfl, hTT⟩, hEtT⟩
 ·
  refine ⟨_, rfl, fun a hS => ?_⟩
  have hE9 := hE6.trans0 hEtT
  refine sg wide_wide [.p, .p, .p, .p] [] [(0, .agg #[S.lv, S.nv, I6 S.st, S.pv]), (1, I6 nm), (2, (.slice pa np pc)), (3, (Pv w.heap.size)), (6, .bool false), (16, .agg #[.slice none 0 0, .slice none 0 0, .slice none 0 0, .slice none 0 0, .bool false]), (17, .bool false), (18, .bool true)] 6 4 hS .nil fun a hS => ?_
  refine eff_box wide_wide (r := 3) (cs := #[.slice none 0 0, .slice none 0 0, .slice none 0 0, .slice none 0 0, .bool false]) (T := 53) (d := (some 7)) hS (by kernel_rfl) fun a w10 hw11 hS => ?_
  have hB14 : Blk w10 (wtT.heap.size) 53 #[.slice none 0 0, .slice none 0 0, .slice none 0 0, .slice none 0 0, .bool false] := by rw [hw11]; exact Blk.new _ _ _
  have hs15 : w.heap.size ≤ wtT.heap.size := hE9.size
  have hE16 : Ext [] w w10 := by rw [hw11]; exact hE9.alloc _
  refine eff_store wide_wide (r := 2) (b := wtT.heap.size) (off := 0) (vs := [.slice none 0 0, .slice none 0 0, .slice none 0 0, .slice none 0 0, .bool false]) hS (by kernel_rfl) hB14 (by simp) fun a w17 hw18 hS => ?_
  have hE21 : Ext [] w w17 := by rw [hw18]; exact hE16.updIn (.inr hs15) _ _
  refine sg wide_wide [.p, .p] [] [(0, .agg #[S.lv, S.nv, I6 S.st, S.pv]), (1, I6 nm), (2, (.slice pa np pc)), (3, (Pv w.heap.size)), (6, .bool false), (7, (Pv wtT.heap.size)), (8, .bool false), (9, .bool true)] 10 0 hS .nil fun a hS => ?_
  refine seg_end ?_
  refine hK7 _ _ ?_
  refine sq fun K22 hK22 => ?_
  refine sq fun K23 hK23 => ?_
  refine rgn 8 ?_
  refine sg wide_wide [.p, .p, .p, .no, .no, .no, .no, .p] [] [(0, .agg #[S.lv, S.nv, I6 S.st, S.pv]), (1, I6 nm), (2, (.slice pa np pc)), (3, (Pv w.heap.size)), (6, .bool false), (7, (Pv wtT.heap.size)), (8, .bool false), (9, .bool true), (26, .bool true)] 8 0 hS .nil fun a hS => ?_
  refine seg_end ?_
  refine hK23 _ _ ?_
  refine cond_t hS rfl ?_
  refine sq fun K24 hK24 => ?_
  refine rgn 5 ?_
  refine sg wide_wide [.p, .p] [] [(0, .agg #[S.lv, S.nv, I6 S.st, S.pv]), (1, I6 nm), (2, (.slice pa np pc)), (3, (Pv w.heap.size)), (6, .bool false), (7, (Pv wtT.heap.size)), (8, .bool false), (9, .bool true), (26, .bool true), (28, .bool true)] 2 3 hS .nil fun a hS => ?_
  refine eff_call wide_wide (r := 2) (f := 12) (vs := []) (cap := #[]) (d := (some 29)) hS (by kernel_rfl) Tryd.call12 #[] (by kernel_rfl) (Head_any (hT.ext0 (hb.trans0 hE21))) ?_
  rintro _ wc25 ⟨rfl, hEc25⟩
  refine ⟨_, rfl, fun a hS => ?_⟩
  have hE28 := hE21.trans0 hEc25
  refine sg wide_wide [.p, .p] [] [(0, .agg #[S.lv, S.nv, I6 S.st, S.pv]), (1, I6 nm), (2, (.slice pa np pc)), (3, (Pv w.heap.size)), (6, .bool true), (7, (Pv wtT.heap.size)), (8, .bool false), (9, .bool true), (26, .bool true)] 5 0 hS .nil fun a hS => ?_
  refine seg_end ?_
  refine hK24 _ _ ?_
  refine wpIn_ret ?_
  refine then_ret ?_
  refine ret1 hS Tryd.results4 rfl ?_
  exact ⟨rfl, hE28⟩
 ·
  refine ⟨_, rfl, fun a hS => ?_⟩
  have hB29 := hB4.ext hEtT (by simp)
  have hE30 := hE6.trans0 hEtT
  have hok := hZT.zero.2.1 hzT
  have hTT0 := hTT
  have hst := hok.ix.st
  have hnp : 0 < S.ns.length := by omega
  have hlng := hok.lng
  unfold Lng at hlng
  obtain ⟨r, hr⟩ : ∃ r : Int, r = nm.tmod S.ns.length := ⟨_, rfl⟩
  have hrb := tmod_bd2 nm hnp
  rw [← hr] at hrb
  refine sg wide_wide [.p, .p, .p, .p] [] [(0, .agg #[S.lv, S.nv, I6 S.st, S.pv]), (1, I6 nm), (2, (.slice pa np pc)), (3, (Pv w.heap.size)), (6, .bool false), (16, .agg #[.slice (some ⟨T.eg, 0, none⟩) S.ns.length S.ns.length, .slice T.fb S.ns.length T.fc, .slice T.wb S.ns.length T.wc, .slice T.yb T.yn T.yc, .bool T.full]), (17, .bool true), (18, .bool true)] 6 4 hS .nil fun a hS => ?_
  refine eff_box wide_wide (r := 3) (cs := #[.slice none 0 0, .slice none 0 0, .slice none 0 0, .slice none 0 0, .bool false]) (T := 53) (d := (some 7)) hS (by kernel_rfl) fun a w31 hw32 hS => ?_
  have hn33 : w.heap.size ≠ wtT.heap.size := Nat.ne_of_lt hB29.lt
  have hB34 := Blk.at' hw32 (hB29.alloc _)
  have hX35 : Ext [] wtT w31 := by rw [hw32]; exact (Ext.refl _ _).alloc _
  have hG36 : TdOk S w2.heap.size w31 T := hTT.ext0 hX35
  have hB37 : Blk w31 (wtT.heap.size) 53 #[.slice none 0 0, .slice none 0 0, .slice none 0 0, .slice none 0 0, .bool false] := by rw [hw32]; exact Blk.new _ _ _
  have hs38 : w.heap.size ≤ wtT.heap.size := hE30.size
  have hE39 : Ext [] w w31 := by rw [hw32]; exact hE30.alloc _
  refine eff_store wide_wide (r := 2) (b := wtT.heap.size) (off := 0) (vs := [.slice (some ⟨T.eg, 0, none⟩) S.ns.length S.ns.length, .slice T.fb S.ns.length T.fc, .slice T.wb S.ns.length T.wc, .slice T.yb T.yn T.yc, .bool T.full]) hS (by kernel_rfl) hB37 (by simp) fun a w40 hw41 hS => ?_
  have hB42 := Blk.at' hw41 (hB34.updNe (Ne.symm hn33) _ _)
  have hB43 : Blk w40 wtT.heap.size 53 (#[.slice (some ⟨T.eg, 0, none⟩) S.ns.length S.ns.length, .slice T.fb S.ns.length T.fc, .slice T.wb S.ns.length T.wc, .slice T.yb T.yn T.yc, .bool T.full]) := by rw [hw41]; exact hB37.upd _ _
  have hX44 : Ext [wtT.heap.size] w31 w40 := by rw [hw41]; exact (Ext.refl _ _).updIn (.inl (by simp)) _ _
  have hG45 : TdOk S w2.heap.size w40 T := hG36.extT hX44 hB37 (by decide) (by decide) (by decide)
  have hE46 : Ext [] w w40 := by rw [hw41]; exact hE39.updIn (.inr hs38) _ _
  refine sg wide_wide [.p, .p] [] [(0, .agg #[S.lv, S.nv, I6 S.st, S.pv]), (1, I6 nm), (2, (.slice pa np pc)), (3, (Pv w.heap.size)), (6, .bool false), (7, (Pv wtT.heap.size)), (8, .bool true), (9, .bool true)] 10 0 hS .nil fun a hS => ?_
  refine seg_end ?_
  refine hK7 _ _ ?_
  refine sq fun K47 hK47 => ?_
  refine sq fun K48 hK48 => ?_
  refine rgn 8 ?_
  refine sg wide_wide [.p, .p, .p, .p, .ld (S.nv), .run (I6 ↑S.ns.length), .as (.bool false), .p] [w40.cell? ⟨w.heap.size, 1, none⟩ = some (S.nv), Ru Tryd.prog (vS (Builtin.len_ #[23] 3 #[S.nv])) (I6 ↑S.ns.length) w40, Value.bool (((↑S.ns.length : Int) == 0)) = .bool false] [(0, .agg #[S.lv, S.nv, I6 S.st, S.pv]), (1, I6 nm), (2, (.slice pa np pc)), (3, (Pv w.heap.size)), (6, .bool false), (7, (Pv wtT.heap.size)), (8, .bool true), (9, .bool true), (26, .bool false)] 8 0 hS (.cons (hB42.cell 1 rfl) (.cons (run_len_rd (e := 9) hG.names (by kernel_rfl)) (.cons (as_eq_f (by omega)) .nil))) fun a hS => ?_
  refine seg_end ?_
  refine hK48 _ _ ?_
  refine cond_f hS rfl ?_
  refine wpIn_skip ?_
  refine hK47 _ _ ?_
  refine sq fun K49 hK49 => ?_
  rcases (show (∃ k : Nat, r = k ∧ k < S.ns.length) ∨ (∃ k : Nat, r + S.ns.length = k ∧ k < S.ns.length ∧ r < 0) from hrb) with ⟨A, hA, hAl⟩ | ⟨A, hA, hAl, hA0⟩
  ·
   refine rgn 6 ?_
   refine sg wide_wide [.p, .p, .ld (S.nv), .run (I6 ↑S.ns.length), .run (I6 ↑A), .p] [w40.cell? ⟨w.heap.size, 1, none⟩ = some (S.nv), Ru Tryd.prog (vS (Builtin.len_ #[23] 3 #[S.nv])) (I6 ↑S.ns.length) w40, Ru Tryd.prog (vS (do eqGuard .rem 3 (.tmp 31) (.tmp 34) (I6 nm) (I6 ↑S.ns.length); binOp .rem 3 (I6 nm) (I6 ↑S.ns.length))) (I6 ↑A) w40] [(0, .agg #[S.lv, S.nv, I6 S.st, S.pv]), (1, I6 nm), (2, (.slice pa np pc)), (3, (Pv w.heap.size)), (6, .bool false), (7, (Pv wtT.heap.size)), (8, .bool true), (9, .bool true), (26, .bool false), (10, I6 ↑A)] 6 0 hS (.cons (hB42.cell 1 rfl) (.cons (run_len_rd (e := 9) hG.names (by kernel_rfl)) (.cons ((by have h := bin_rem (P := Tryd.prog) (w := w40) (T := 3) (a := .tmp 31) (b := .tmp 34) (x := nm) (y := (S.ns.length : Int)) (by omega); rw [← hr, hA] at h; exact h)) .nil))) fun a hS => ?_
   refine seg_end ?_
   refine hK49 _ _ ?_
   refine sq fun K50 hK50 => ?_
   refine sq fun K51 hK51 => ?_
   refine rgn 2 ?_
   refine sg wide_wide [.p, .as (.bool false)] [Value.bool (decide ((↑A : Int) < 0)) = .bool false] [(0, .agg #[S.lv, S.nv, I6 S.st, S.pv]), (1, I6 nm), (2, (.slice pa np pc)), (3, (Pv w.heap.size)), (6, .bool false), (7, (Pv wtT.heap.size)), (8, .bool true), (9, .bool true), (26, .bool false), (10, I6 ↑A), (37, .bool false)] 2 0 hS (.cons (as_f (by omega)) .nil) fun a hS => ?_
   refine seg_end ?_
   refine hK51 _ _ ?_
   refine cond_f hS rfl ?_
   refine wpIn_skip ?_
   refine hK50 _ _ ?_
   refine sq fun K52 hK52 => ?_
   refine rgn 5 ?_
   refine sg wide_wide [.lds [S.lv, S.nv, I6 S.st, S.pv], .p, .p] [w40.cell? ⟨w.heap.size, 0, none⟩ = some (S.lv), w40.cell? ⟨w.heap.size, 1, none⟩ = some (S.nv), w40.cell? ⟨w.heap.size, 2, none⟩ = some (I6 S.st), w40.cell? ⟨w.heap.size, 3, none⟩ = some (S.pv)] [(0, .agg #[S.lv, S.nv, I6 S.st, S.pv]), (1, I6 nm), (2, (.slice pa np pc)), (3, (Pv w.heap.size)), (6, .bool false), (7, (Pv wtT.heap.size)), (8, .bool true), (9, .bool true), (26, .bool false), (10, I6 ↑A), (37, .bool false), (45, .agg #[S.lv, S.nv, I6 S.st, S.pv, (.slice pa np pc), I6 0, .slice none 0 0, I6 0])] 3 2 hS (.cons (hB42.cell 0 rfl) (.cons (hB42.cell 1 rfl) (.cons (hB42.cell 2 rfl) (.cons (hB42.cell 3 rfl) .nil)))) fun a hS => ?_
   refine eff_box wide_wide (r := 1) (cs := #[S.lv, S.nv, I6 S.st, S.pv, (.slice pa np pc), I6 0, .slice none 0 0, I6 0]) (T := 58) (d := (some 46)) hS (by kernel_rfl) fun a w53 hw54 hS => ?_
   have hn56 : wtT.heap.size ≠ w40.heap.size := Nat.ne_of_lt hB43.lt
   have hB58 := Blk.at' hw54 (hB43.alloc _)
   have hX59 : Ext [] w40 w53 := by rw [hw54]; exact (Ext.refl _ _).alloc _
   have hG60 : TdOk S w2.heap.size w53 T := hG45.ext0 hX59
   have hB61 : Blk w53 (w40.heap.size) 58 #[S.lv, S.nv, I6 S.st, S.pv, (.slice pa np pc), I6 0, .slice none 0 0, I6 0] := by rw [hw54]; exact Blk.new _ _ _
   have hs62 : w.heap.size ≤ w40.heap.size := hE46.size
   have hE63 : Ext [] w w53 := by rw [hw54]; exact hE46.alloc _
   refine sg wide_wide [.p] [] [(0, .agg #[S.lv, S.nv, I6 S.st, S.pv]), (1, I6 nm), (2, (.slice pa np pc)), (3, (Pv w.heap.size)), (6, .bool false), (7, (Pv wtT.heap.size)), (8, .bool true), (9, .bool true), (26, .bool false), (10, I6 ↑A), (37, .bool false), (11, (Pv w40.heap.size))] 5 0 hS .nil fun a hS => ?_
   refine seg_end ?_
   refine hK52 _ _ ?_
   refine sq fun K64 hK64 => ?_
   refine sq fun K65 hK65 => ?_
   refine rgn 5 ?_
   refine sg wide_wide [.p, .p, .p] [] [(0, .agg #[S.lv, S.nv, I6 S.st, S.pv]), (1, I6 nm), (2, (.slice pa np pc)), (3, (Pv w.heap.size)), (6, .bool false), (7, (Pv wtT.heap.size)), (8, .bool true), (9, .bool true), (26, .bool false), (10, I6 ↑A), (37, .bool false), (11, (Pv w40.heap.size)), (47, (Pv w40.heap.size)), (49, .agg #[I6 3, I6 ↑A])] 3 2 hS .nil fun a hS => ?_
   refine eff_call wide_wide (r := 1) (f := 28) (vs := [(Pv w40.heap.size), .agg #[I6 3, I6 ↑A]]) (cap := #[]) (d := (some 50)) hS (by kernel_rfl) Tryd.call28 #[(Pv w40.heap.size), .agg #[I6 3, I6 ↑A]] (by kernel_rfl) (trip_any hG hp hpm0 hok hs62 401 (by omega) (hb.trans0 hE63) (show TripK S (.slice pa np pc) w.heap.size (w40.heap.size) w53 0 0 none 0 0 [] from ⟨hB61, RowN.nil _ _⟩) (Nat.le_refl _) (Nat.le_refl _) (Nat.zero_le _) (y := (3, (A : Int))) (.inr (.inr ⟨rfl, by simp only; omega, by simp only; omega⟩))) ?_
   rintro _ wm (⟨rfl, hEm⟩ | ⟨a2, u2, bs2, n2, cp2, u, rfl, hKm, hEm, hfm, ha2, hn2, hu2, hu4, hmt⟩)
   ·
    refine ⟨_, rfl, fun a hS => ?_⟩
    replace hEm : Ext [w40.heap.size] w53 wm := hEm
    have hE68 := hE63.trans hEm (fun x hx => by simp at hx; subst hx; exact .inr hs62)
    have hG69 : TdOk S w2.heap.size wm T := hG60.extT hEm hB61 (by decide) (by decide) (by decide)
    refine sg wide_wide [.p] [] [(0, .agg #[S.lv, S.nv, I6 S.st, S.pv]), (1, I6 nm), (2, (.slice pa np pc)), (3, (Pv w.heap.size)), (6, .bool false), (7, (Pv wtT.heap.size)), (8, .bool true), (9, .bool true), (26, .bool false), (10, I6 ↑A), (37, .bool false), (11, (Pv w40.heap.size)), (51, .bool true)] 5 0 hS .nil fun a hS => ?_
    refine seg_end ?_
    refine hK65 _ _ ?_
    refine cond_t hS rfl ?_
    refine sq fun K70 hK70 => ?_
    refine rgn 2 ?_
    refine eff_call wide_wide (r := 1) (f := 12) (vs := []) (cap := #[]) (d := (some 52)) hS (by kernel_rfl) Tryd.call12 #[] (by kernel_rfl) (Head_any (hT.ext0 (hb.trans0 hE68))) ?_
    rintro _ wc71 ⟨rfl, hEc71⟩
    refine ⟨_, rfl, fun a hS => ?_⟩
    have hG74 : TdOk S w2.heap.size wc71 T := hG69.ext0 hEc71
    have hE75 := hE68.trans0 hEc71
    refine sg wide_wide [.p] [] [(0, .agg #[S.lv, S.nv, I6 S.st, S.pv]), (1, I6 nm), (2, (.slice pa np pc)), (3, (Pv w.heap.size)), (6, .bool true), (7, (Pv wtT.heap.size)), (8, .bool true), (9, .bool true), (26, .bool false), (10, I6 ↑A), (37, .bool false), (11, (Pv w40.heap.size)), (51, .bool true)] 2 0 hS .nil fun a hS => ?_
    refine seg_end ?_
    refine hK70 _ _ ?_
    refine wpIn_ret ?_
    refine then_ret ?_
    refine ret1 hS Tryd.results4 rfl ?_
    exact ⟨rfl, hE75⟩
   ·
    refine ⟨_, rfl, fun a hS => ?_⟩
    replace hEm : Ext [w40.heap.size] w53 wm := hEm
    have hrow : RowN w.heap.size wm bs2 n2 cp2 u := hKm.row
    have hB77 := hB58.ext hEm (by simpa using hn56)
    have hE78 := hE63.trans hEm (fun x hx => by simp at hx; subst hx; exact .inr hs62)
    have hG79 : TdOk S w2.heap.size wm T := hG60.extT hEm hB61 (by decide) (by decide) (by decide)
    have hMN : MN S.g S.nl A u := MT_name (show MT S.g S.nl [.m A] u from hmt)
    have hnu : u.length = n2 := hrow.len
    refine sg wide_wide [.p] [] [(0, .agg #[S.lv, S.nv, I6 S.st, S.pv]), (1, I6 nm), (2, (.slice pa np pc)), (3, (Pv w.heap.size)), (6, .bool false), (7, (Pv wtT.heap.size)), (8, .bool true), (9, .bool true), (26, .bool false), (10, I6 ↑A), (37, .bool false), (11, (Pv w40.heap.size)), (51, .bool false)] 5 0 hS .nil fun a hS => ?_
    refine seg_end ?_
    refine hK65 _ _ ?_
    refine cond_f hS rfl ?_
    refine wpIn_skip ?_
    refine hK64 _ _ ?_
    refine sq fun K80 hK80 => ?_
    refine rgn 5 ?_
    refine sg wide_wide [.p, .p, .p, .ld (.slice bs2 n2 cp2), .p] [wm.cell? ⟨w40.heap.size, 6, none⟩ = some (.slice bs2 n2 cp2)] [(0, .agg #[S.lv, S.nv, I6 S.st, S.pv]), (1, I6 nm), (2, (.slice pa np pc)), (3, (Pv w.heap.size)), (6, .bool false), (7, (Pv wtT.heap.size)), (8, .bool true), (9, .bool true), (26, .bool false), (10, I6 ↑A), (37, .bool false), (11, (Pv w40.heap.size)), (51, .bool false), (12, .slice bs2 n2 cp2)] 5 0 hS (.cons ((hKm.blk).cell 6 rfl) .nil) fun a hS => ?_
    refine seg_end ?_
    refine hK80 _ _ ?_
    refine sq fun K81 hK81 => ?_
    refine sq fun K82 hK82 => ?_
    rcases (show (u = []) ∨ (∃ q r, u = q :: r) from by
     cases u with
     | nil => exact .inl rfl
     | cons q r => exact .inr ⟨q, r, rfl⟩) with hu0 | ⟨q, ur, hu0⟩
    ·
     have hnz : n2 = 0 := by rw [← hnu, hu0]; rfl
     have hem : T.es[A]? = some true := (hG79.isE.iff A).2 (MN_nil (by rw [hu0] at hMN; exact hMN))
     refine region_fn2 wide_wide [.q .p, .q .p, .q (.as (.bool true)), .q .p, .q .p, .q (.ld (.slice (some ⟨T.eg, 0, none⟩) S.ns.length S.ns.length)), .q .p, .q (.run ((Po T.eg (0 + A * 1)))), .q (.ld (.bool true)), .q .p, .q .p, .q .p, .q .p, .q .p, .q (.as (.bool false)), .q .p, .q .no, .q .no, .q .no, .q .no, .q .no, .q .no, .q .no, .q .no, .q .no, .q .no, .q .p, .q .p] [0, 0, 0, 0, 0, 0, 0, 0, 0, 0, 0, 0, 0, 0, 0, 0, 0, 0, 0, 0, 0, 0, 0, 0, 0, 0, 0, 0] [0, 0, 0, 0, 0, 0, 0, 0, 0, 0, 0, 0, 0, 0, 0, 0, 0, 0, 0, 0, 0, 0, 0, 0, 0, 0, 0, 0] [0, 1, 3, 7, 15, 31, 15, 127, 255, 511, 1023, 2047, 4095, 8191, 16383, 32767, 65535, 131071, 65535, 524287, 1048575, 65535, 2162687, 6356991, 16777215, 33554431, 67108863, 134217727] [] 0 ([(0, .agg #[S.lv, S.nv, I6 S.st, S.pv]), (1, I6 nm), (2, (.slice pa np pc)), (3, (Pv w.heap.size)), (6, .bool false), (7, (Pv wtT.heap.size)), (8, .bool true), (9, .bool true), (26, .bool false), (10, I6 ↑A), (37, .bool false), (11, (Pv w40.heap.size)), (51, .bool false), (12, .slice bs2 n2 cp2), (57, .slice bs2 n2 cp2), (58, I6 ↑n2), (59, .bool true), (60, .bool true), (61, (Pv wtT.heap.size)), (62, .slice (some ⟨T.eg, 0, none⟩) S.ns.length S.ns.length), (63, I6 ↑A), (64, (Po T.eg (0 + A * 1))), (65, .bool true), (66, .bool false), (67, .bool false), (68, .bool false), (69, .slice bs2 n2 cp2), (70, I6 ↑n2), (71, .bool false), (72, .bool false), (73, undef), (74, undef), (75, undef), (76, undef), (77, undef), (78, undef), (79, undef), (80, undef), (81, undef), (82, undef), (83, .bool false), (84, .bool false)]) [wm.drew] wm.drew (fun w' => [(2, [Value.bool (((↑n2 : Int) == 0)) = .bool true]), (5, [w'.cell? ⟨wtT.heap.size, 0, none⟩ = some (.slice (some ⟨T.eg, 0, none⟩) S.ns.length S.ns.length)]), (7, [Ru Tryd.prog (vS (Instr.indexAt 31 (.slice (some ⟨T.eg, 0, none⟩) S.ns.length S.ns.length) (I6 ↑A))) ((Po T.eg (0 + A * 1))) w']), (8, [w'.cell? ⟨T.eg, 0 + A * 1, none⟩ = some (.bool true)]), (14, [Value.bool (decide ((↑n2 : Int) > 0)) = .bool false])]) [0, 1, 2, 3, 6, 7, 8, 9, 26, 10, 37, 11, 51, 12] [] hS (by kernel_rfl) (by kernel_rfl) (by kernel_rfl) (by kernel_rfl) (fun _ => by kernel_rfl) (by kernel_rfl) (by kernel_rfl) (by kernel_rfl) ?_ ?_ ?_
     ·intro e w' hw
      refine (.cons ?_ (.cons ?_ (.cons ?_ (.cons ?_ (.cons ?_ .nil)))))
      ·exact fun _ _ => (.cons (as_eq_t (by omega)) .nil)
      ·intro h1 h2
       obtain rfl : e = 0 := Nat.le_antisymm h2 h1
       obtain rfl : w' = wm.drew := hw.trans (by kernel_rfl)
       exact (.cons ((hB77.drew : Blk wm.drew wtT.heap.size 53 (#[.slice (some ⟨T.eg, 0, none⟩) S.ns.length S.ns.length, .slice T.fb S.ns.length T.fc, .slice T.wb S.ns.length T.wc, .slice T.yb T.yn T.yc, .bool T.full])).cell 0 rfl) .nil)
      ·exact fun _ _ => (.cons (ix_slice (E := 4) (size := 1) (j := A) (by kernel_rfl) (by kernel_rfl) rfl (by omega)) .nil)
      ·intro h1 h2
       obtain rfl : e = 0 := Nat.le_antisymm h2 h1
       obtain rfl : w' = wm.drew := hw.trans (by kernel_rfl)
       exact (.cons ((hG79.re.ext (by first | exact (Ext.refl [] _).drew | exact Ext.refl [] _) (by simp)).cellAt _ (by rw [Nat.zero_add]; exact bls_at' hem)) .nil)
      ·exact fun _ _ => (.cons (as_f (by omega)) .nil)
     ·refine .nil
     rintro a w84 hS hw85
     replace hw85 : w84 = wm.drew := hw85.trans (by kernel_rfl)
     have hB87 := Blk.at' hw85 (hB77.drew)
     have hB89 := OwnV.at' hw85 (hrow.own.drew)
     have hE90 : Ext [] w w84 := by rw [hw85]; exact hE78.drew
     have hX91 : Ext [] wm w84 := by rw [hw85]; exact (Ext.refl _ _).drew
     have hG92 : TdOk S w2.heap.size w84 T := hG79.ext0 hX91
     replace hS := hS.kp [(0, .agg #[S.lv, S.nv, I6 S.st, S.pv]), (1, I6 nm), (2, (.slice pa np pc)), (3, (Pv w.heap.size)), (6, .bool false), (7, (Pv wtT.heap.size)), (8, .bool true), (9, .bool true), (26, .bool false), (10, I6 ↑A), (37, .bool false), (11, (Pv w40.heap.size)), (51, .bool false), (12, .slice bs2 n2 cp2), (84, .bool false)]
     refine hK82 _ _ ?_
     refine cond_f hS rfl ?_
     refine wpIn_skip ?_
     refine hK81 _ _ ?_
     refine sq fun K93 hK93 => ?_
     rcases (show (T.full = true) ∨ (T.full = false) from by cases T.full <;> simp) with hfu | hfu
     ·
      rw [hfu] at hB87
      refine rgn 13 ?_
      refine sg wide_wide [.p, .ld (.bool true), .p, .no, .no, .no, .no, .no, .no, .no, .no, .p, .p] [w84.cell? ⟨wtT.heap.size, 4, none⟩ = some (.bool true)] [(0, .agg #[S.lv, S.nv, I6 S.st, S.pv]), (1, I6 nm), (2, (.slice pa np pc)), (3, (Pv w.heap.size)), (6, .bool true), (7, (Pv wtT.heap.size)), (8, .bool true), (9, .bool true), (26, .bool false), (10, I6 ↑A), (37, .bool false), (11, (Pv w40.heap.size)), (51, .bool false), (12, .slice bs2 n2 cp2), (84, .bool false)] 13 0 hS (.cons (hB87.cell 4 rfl) .nil) fun a hS => ?_
      refine seg_end ?_
      refine hK93 _ _ ?_
      refine wpIn_ret ?_
      refine ret1 hS Tryd.results4 rfl ?_
      exact ⟨rfl, hE90⟩
     ·
      rw [hfu] at hB87
      obtain ⟨hyn, hyl⟩ := hG92.yld hfu
      have hyln := hyl.1
      have hnu : u.length = n2 := hrow.len
      obtain ⟨ly, hly⟩ : ∃ l, T.yl[A]? = some l := ⟨_, List.getElem?_eq_getElem (by omega)⟩
      have hYd := hyl.2 A ly hly
      obtain ⟨k9, x9, hY9, _⟩ := hG92.isY
      obtain ⟨yv, hyv, hyr⟩ := hG92.ly.at' hly
      refine rgn 13 ?_
      refine sg wide_wide [.p, .ld (.bool false), .p, .p, .p, .ld (.slice T.yb T.yn T.yc), .p, .run ((Po (bof (.slice T.yb T.yn T.yc)) (0 + A * 1))), .ld (yv)] [w84.cell? ⟨wtT.heap.size, 4, none⟩ = some (.bool false), w84.cell? ⟨wtT.heap.size, 3, none⟩ = some (.slice T.yb T.yn T.yc), Ru Tryd.prog (vS (Instr.indexAt 37 (.slice T.yb T.yn T.yc) (I6 ↑A))) ((Po (bof (.slice T.yb T.yn T.yc)) (0 + A * 1))) w84, w84.cell? ⟨bof (.slice T.yb T.yn T.yc), 0 + A * 1, none⟩ = some (yv)] [(0, .agg #[S.lv, S.nv, I6 S.st, S.pv]), (1, I6 nm), (2, (.slice pa np pc)), (3, (Pv w.heap.size)), (6, .bool false), (7, (Pv wtT.heap.size)), (8, .bool true), (9, .bool true), (26, .bool false), (10, I6 ↑A), (37, .bool false), (11, (Pv w40.heap.size)), (51, .bool false), (12, .slice bs2 n2 cp2), (84, .bool false), (87, .bool false), (88, .slice bs2 n2 cp2), (93, yv)] 9 4 hS (.cons (hB87.cell 4 rfl) (.cons (hB87.cell 3 rfl) (.cons (ix_own (j := A) (hG92.ly.own) (by kernel_rfl) (by kernel_rfl) rfl (by omega)) (.cons (OwnV.cellAt hG92.ly.own _ (by rw [Nat.zero_add, Nat.mul_one]; exact hyv)) .nil)))) fun a hS => ?_
      refine eff_call wide_wide (r := 3) (f := 30) (vs := [.slice bs2 n2 cp2, yv]) (cap := #[]) (d := (some 94)) hS (by kernel_rfl) Tryd.call30 #[.slice bs2 n2 cp2, yv] (by kernel_rfl) (Less_false (hYd.2 u hMN) (hB89.rd) hyr (by omega)) ?_
      rintro _ wc94 ⟨rfl, hEc94⟩
      refine ⟨_, rfl, fun a hS => ?_⟩
      have hG100 : TdOk S w2.heap.size wc94 T := hG92.ext0 hEc94
      have hE101 := hE90.trans0 hEc94
      refine sg wide_wide [.p, .p, .p] [] [(0, .agg #[S.lv, S.nv, I6 S.st, S.pv]), (1, I6 nm), (2, (.slice pa np pc)), (3, (Pv w.heap.size)), (6, .bool true), (7, (Pv wtT.heap.size)), (8, .bool true), (9, .bool true), (26, .bool false), (10, I6 ↑A), (37, .bool false), (11, (Pv w40.heap.size)), (51, .bool false), (12, .slice bs2 n2 cp2), (84, .bool false)] 13 0 hS .nil fun a hS => ?_
      refine seg_end ?_
      refine hK93 _ _ ?_
      refine wpIn_ret ?_
      refine ret1 hS Tryd.results4 rfl ?_
      exact ⟨rfl, hE101⟩
    ·
     have hnz : 0 < n2 := by rw [← hnu, hu0]; exact Nat.succ_pos _
     have hfl := hG79.isF.len
     obtain ⟨l, hl⟩ : ∃ l, T.fl[A]? = some l := ⟨_, List.getElem?_eq_getElem (by omega)⟩
     have hql : q ∈ l := (hG79.isF.has hl).2 (MN_head (by rw [hu0] at hMN; exact hMN))
     obtain ⟨uv, huv, hur⟩ := hG79.lf.at' hl
     have hlm := hG79.isF.max l (List.mem_of_getElem? hl)
     refine region_gh2 (G := World) wide_wide [.q .p, .q .p, .q (.as (.bool false)), .q .p, .q .no, .q .no, .q .no, .q .no, .q .no, .q .no, .q .p, .q .p, .q .p, .q .p, .q (.as (.bool true)), .q .p, .q .p, .q (.ld (.slice T.fb S.ns.length T.fc)), .q .p, .q (.run ((Po (bof (.slice T.fb S.ns.length T.fc)) (0 + A * 1)))), .q (.ld (uv)), .q .p, .q (.run ((Po (bof (.slice bs2 n2 cp2)) (0 + 0 * 1)))), .q (.ld (I6 ↑q)), .e, .q .p, .q .p, .q .p] [0, 0, 0, 0, 0, 0, 0, 0, 0, 0, 0, 0, 0, 0, 0, 0, 0, 0, 0, 0, 0, 0, 0, 0, 0, 1, 1, 1] [0, 0, 0, 0, 0, 0, 0, 0, 0, 0, 0, 0, 0, 0, 0, 0, 0, 0, 0, 0, 0, 0, 0, 0, 0, 1, 1, 1] [0, 1, 3, 7, 15, 31, 15, 127, 255, 511, 1023, 2047, 4095, 8191, 16383, 32767, 65535, 131071, 65535, 524287, 1048575, 65535, 2162687, 6356991, 16777215, 33554431, 67108863, 134217727] [24] [(24, 0)] 1 (fun wc102 => ([(0, .agg #[S.lv, S.nv, I6 S.st, S.pv]), (1, I6 nm), (2, (.slice pa np pc)), (3, (Pv w.heap.size)), (6, .bool false), (7, (Pv wtT.heap.size)), (8, .bool true), (9, .bool true), (26, .bool false), (10, I6 ↑A), (37, .bool false), (11, (Pv w40.heap.size)), (51, .bool false), (12, .slice bs2 n2 cp2), (57, .slice bs2 n2 cp2), (58, I6 ↑n2), (59, .bool false), (60, .bool false), (61, undef), (62, undef), (63, undef), (64, undef), (65, undef), (66, undef), (67, .bool false), (68, .bool false), (69, .slice bs2 n2 cp2), (70, I6 ↑n2), (71, .bool true), (72, .bool true), (73, (Po wtT.heap.size 1)), (74, .slice T.fb S.ns.length T.fc), (75, I6 ↑A), (76, (Po (bof (.slice T.fb S.ns.length T.fc)) (0 + A * 1))), (77, uv), (78, .slice bs2 n2 cp2), (79, (Po (bof (.slice bs2 n2 cp2)) (0 + 0 * 1))), (80, I6 ↑q), (81, .bool true), (82, .bool false), (83, .bool false), (84, .bool false)] : Fm)) (fun wc102 => [wm.drew, wc102]) (wm.drew) (fun e wc102 => hAt [True, (Ext [] wm.drew wc102) ∧ True] e) (fun wc102 w' => [(2, [Value.bool (((↑n2 : Int) == 0)) = .bool false]), (14, [Value.bool (decide ((↑n2 : Int) > 0)) = .bool true]), (17, [w'.cell? ⟨wtT.heap.size, 1, none⟩ = some (.slice T.fb S.ns.length T.fc)]), (19, [Ru Tryd.prog (vS (Instr.indexAt 37 (.slice T.fb S.ns.length T.fc) (I6 ↑A))) ((Po (bof (.slice T.fb S.ns.length T.fc)) (0 + A * 1))) w']), (20, [w'.cell? ⟨bof (.slice T.fb S.ns.length T.fc), 0 + A * 1, none⟩ = some (uv)]), (22, [Ru Tryd.prog (vS (Instr.indexAt 51 (.slice bs2 n2 cp2) (I6 0))) ((Po (bof (.slice bs2 n2 cp2)) (0 + 0 * 1))) w']), (23, [w'.cell? ⟨bof (.slice bs2 n2 cp2), 0 + 0 * 1, none⟩ = some (I6 ↑q)])]) wm.drew [0, 1, 2, 3, 6, 7, 8, 9, 26, 10, 37, 11, 51, 12] [] hS (by kernel_rfl) (by kernel_rfl) (by kernel_rfl) (by kernel_rfl) (fun wc102 _ => by kernel_rfl) (by kernel_rfl) (by kernel_rfl) (by kernel_rfl) trivial ?_ (by kernel_rfl) ?_ ?_
     ·rintro e wc102 w' hw hH
      refine (.cons ?_ (.cons ?_ (.cons ?_ (.cons ?_ (.cons ?_ (.cons ?_ (.cons ?_ .nil)))))))
      ·intro h1 h2
       obtain rfl : e = 0 := Nat.le_antisymm h2 h1
       have hwe : wm.drew = w' := (hw.trans (by kernel_rfl)).symm
       subst hwe
       clear hH
       exact (.cons (as_eq_f (by omega)) .nil)
      ·intro h1 h2
       obtain rfl : e = 0 := Nat.le_antisymm h2 h1
       have hwe : wm.drew = w' := (hw.trans (by kernel_rfl)).symm
       subst hwe
       clear hH
       exact (.cons (as_t (by omega)) .nil)
      ·intro h1 h2
       obtain rfl : e = 0 := Nat.le_antisymm h2 h1
       have hwe : wm.drew = w' := (hw.trans (by kernel_rfl)).symm
       subst hwe
       clear hH
       exact (.cons ((hB77.drew : Blk wm.drew wtT.heap.size 53 (#[.slice (some ⟨T.eg, 0, none⟩) S.ns.length S.ns.length, .slice T.fb S.ns.length T.fc, .slice T.wb S.ns.length T.wc, .slice T.yb T.yn T.yc, .bool T.full])).cell 1 rfl) .nil)
      ·intro h1 h2
       obtain rfl : e = 0 := Nat.le_antisymm h2 h1
       have hwe : wm.drew = w' := (hw.trans (by kernel_rfl)).symm
       subst hwe
       clear hH
       exact (.cons (ix_own (j := A) (hG79.lf.own) (by kernel_rfl) (by kernel_rfl) rfl (by omega)) .nil)
      ·intro h1 h2
       obtain rfl : e = 0 := Nat.le_antisymm h2 h1
       have hwe : wm.drew = w' := (hw.trans (by kernel_rfl)).symm
       subst hwe
       clear hH
       exact (.cons (OwnV.cellAt (hG79.lf.own.drew : OwnV wm.drew 51 1 (.slice T.fb S.ns.length T.fc) S.ns.length (T.fL.map Rw.v)) _ (by rw [Nat.zero_add, Nat.mul_one]; exact huv)) .nil)
      ·intro h1 h2
       obtain rfl : e = 0 := Nat.le_antisymm h2 h1
       have hwe : wm.drew = w' := (hw.trans (by kernel_rfl)).symm
       subst hwe
       clear hH
       exact (.cons (ix_own (j := 0) (hrow.own) (by kernel_rfl) (by kernel_rfl) rfl (by omega)) .nil)
      ·intro h1 h2
       obtain rfl : e = 0 := Nat.le_antisymm h2 h1
       have hwe : wm.drew = w' := (hw.trans (by kernel_rfl)).symm
       subst hwe
       clear hH
       exact (.cons (OwnV.cellAt (hrow.own.drew : OwnV wm.drew 3 1 (.slice bs2 n2 cp2) n2 (ivs u)) _ (by rw [hu0]; rfl)) .nil)
     ·refine (.cons ?eq103_24 .nil)
      ·rintro wc102 hH
       clear hH
       refine eff_gh (wm.drew) (by kernel_rfl) ?_
       refine upon_call (f := 29) (vs := [uv, I6 ↑q]) (cap := #[]) (d := (some 81)) (by kernel_rfl) Tryd.call29 #[uv, I6 ↑q] (by kernel_rfl) (has_true hql (hur.ext0 ((Ext.refl [] _).drew)) hlm) ?_
       rintro _ wc102 ⟨rfl, hEc102⟩
       exact ⟨_, rfl, ⟨wc102, by kernel_rfl, by kernel_rfl, by kernel_rfl, ⟨hEc102, trivial⟩⟩⟩
     rintro wc102 a w104 hS hw105 hH
     obtain ⟨hEc102, _⟩ := hH
     replace hw105 : w104 = wc102 := hw105.trans (by kernel_rfl)
     have hB107 := Blk.at' hw105 ((hB77.drew : Blk wm.drew wtT.heap.size 53 (#[.slice (some ⟨T.eg, 0, none⟩) S.ns.length S.ns.length, .slice T.fb S.ns.length T.fc, .slice T.wb S.ns.length T.wc, .slice T.yb T.yn T.yc, .bool T.full])).ext hEc102 (by simp))
     have hB109 := OwnV.at' hw105 ((hrow.own.drew : OwnV wm.drew 3 1 (.slice bs2 n2 cp2) n2 (ivs u)).ext hEc102 (by simp))
     have hE111 : Ext [] w w104 := by rw [hw105]; exact (hE78.drew).trans0 hEc102
     have hX112 : Ext [] wm w104 := by rw [hw105]; exact ((Ext.refl _ _).drew).trans0 hEc102
     have hG113 : TdOk S w2.heap.size w104 T := hG79.ext0 hX112
     replace hS := hS.kp [(0, .agg #[S.lv, S.nv, I6 S.st, S.pv]), (1, I6 nm), (2, (.slice pa np pc)), (3, (Pv w.heap.size)), (6, .bool false), (7, (Pv wtT.heap.size)), (8, .bool true), (9, .bool true), (26, .bool false), (10, I6 ↑A), (37, .bool false), (11, (Pv w40.heap.size)), (51, .bool false), (12, .slice bs2 n2 cp2), (84, .bool false)]
     refine hK82 _ _ ?_
     refine cond_f hS rfl ?_
     refine wpIn_skip ?_
     refine hK81 _ _ ?_
     refine sq fun K114 hK114 => ?_
     rcases (show (T.full = true) ∨ (T.full = false) from by cases T.full <;> simp) with hfu | hfu
     ·
      rw [hfu] at hB107
      refine rgn 13 ?_
      refine sg wide_wide [.p, .ld (.bool true), .p, .no, .no, .no, .no, .no, .no, .no, .no, .p, .p] [w104.cell? ⟨wtT.heap.size, 4, none⟩ = some (.bool true)] [(0, .agg #[S.lv, S.nv, I6 S.st, S.pv]), (1, I6 nm), (2, (.slice pa np pc)), (3, (Pv w.heap.size)), (6, .bool true), (7, (Pv wtT.heap.size)), (8, .bool true), (9, .bool true), (26, .bool false), (10, I6 ↑A), (37, .bool false), (11, (Pv w40.heap.size)), (51, .bool false), (12, .slice bs2 n2 cp2), (84, .bool false)] 13 0 hS (.cons (hB107.cell 4 rfl) .nil) fun a hS => ?_
      refine seg_end ?_
      refine hK114 _ _ ?_
      refine wpIn_ret ?_
      refine ret1 hS Tryd.results4 rfl ?_
      exact ⟨rfl, hE111⟩
     ·
      rw [hfu] at hB107
      obtain ⟨hyn, hyl⟩ := hG113.yld hfu
      have hyln := hyl.1
      have hnu : u.length = n2 := hrow.len
      obtain ⟨ly, hly⟩ : ∃ l, T.yl[A]? = some l := ⟨_, List.getElem?_eq_getElem (by omega)⟩
      have hYd := hyl.2 A ly hly
      obtain ⟨k9, x9, hY9, _⟩ := hG113.isY
      obtain ⟨yv, hyv, hyr⟩ := hG113.ly.at' hly
      refine rgn 13 ?_
      refine sg wide_wide [.p, .ld (.bool false), .p, .p, .p, .ld (.slice T.yb T.yn T.yc), .p, .run ((Po (bof (.slice T.yb T.yn T.yc)) (0 + A * 1))), .ld (yv)] [w104.cell? ⟨wtT.heap.size, 4, none⟩ = some (.bool false), w104.cell? ⟨wtT.heap.size, 3, none⟩ = some (.slice T.yb T.yn T.yc), Ru Tryd.prog (vS (Instr.indexAt 37 (.slice T.yb T.yn T.yc) (I6 ↑A))) ((Po (bof (.slice T.yb T.yn T.yc)) (0 + A * 1))) w104, w104.cell? ⟨bof (.slice T.yb T.yn T.yc), 0 + A * 1, none⟩ = some (yv)] [(0, .agg #[S.lv, S.nv, I6 S.st, S.pv]), (1, I6 nm), (2, (.slice pa np pc)), (3, (Pv w.heap.size)), (6, .bool false), (7, (Pv wtT.heap.size)), (8, .bool true), (9, .bool true), (26, .bool false), (10, I6 ↑A), (37, .bool false), (11, (Pv w40.heap.size)), (51, .bool false), (12, .slice bs2 n2 cp2), (84, .bool false), (87, .bool false), (88, .slice bs2 n2 cp2), (93, yv)] 9 4 hS (.cons (hB107.cell 4 rfl) (.cons (hB107.cell 3 rfl) (.cons (ix_own (j := A) (hG113.ly.own) (by kernel_rfl) (by kernel_rfl) rfl (by omega)) (.cons (OwnV.cellAt hG113.ly.own _ (by rw [Nat.zero_add, Nat.mul_one]; exact hyv)) .nil)))) fun a hS => ?_
      refine eff_call wide_wide (r := 3) (f := 30) (vs := [.slice bs2 n2 cp2, yv]) (cap := #[]) (d := (some 94)) hS (by kernel_rfl) Tryd.call30 #[.slice bs2 n2 cp2, yv] (by kernel_rfl) (Less_false (hYd.2 u hMN) (hB109.rd) hyr (by omega)) ?_
      rintro _ wc115 ⟨rfl, hEc115⟩
      refine ⟨_, rfl, fun a hS => ?_⟩
      have hG122 : TdOk S w2.heap.size wc115 T := hG113.ext0 hEc115
      have hE123 := hE111.trans0 hEc115
      refine sg wide_wide [.p, .p, .p] [] [(0, .agg #[S.lv, S.nv, I6 S.st, S.pv]), (1, I6 nm), (2, (.slice pa np pc)), (3, (Pv w.heap.size)), (6, .bool true), (7, (Pv wtT.heap.size)), (8, .bool true), (9, .bool true), (26, .bool false), (10, I6 ↑A), (37, .bool false), (11, (Pv w40.heap.size)), (51, .bool false), (12, .slice bs2 n2 cp2), (84, .bool false)] 13 0 hS .nil fun a hS => ?_
      refine seg_end ?_
      refine hK114 _ _ ?_
      refine wpIn_ret ?_
      refine ret1 hS Tryd.results4 rfl ?_
      exact ⟨rfl, hE123⟩
  ·
   refine rgn 6 ?_
   refine sg wide_wide [.p, .p, .ld (S.nv), .run (I6 ↑S.ns.length), .run (I6 r), .p] [w40.cell? ⟨w.heap.size, 1, none⟩ = some (S.nv), Ru Tryd.prog (vS (Builtin.len_ #[23] 3 #[S.nv])) (I6 ↑S.ns.length) w40, Ru Tryd.prog (vS (do eqGuard .rem 3 (.tmp 31) (.tmp 34) (I6 nm) (I6 ↑S.ns.length); binOp .rem 3 (I6 nm) (I6 ↑S.ns.length))) (I6 r) w40] [(0, .agg #[S.lv, S.nv, I6 S.st, S.pv]), (1, I6 nm), (2, (.slice pa np pc)), (3, (Pv w.heap.size)), (6, .bool false), (7, (Pv wtT.heap.size)), (8, .bool true), (9, .bool true), (26, .bool false), (10, I6 r)] 6 0 hS (.cons (hB42.cell 1 rfl) (.cons (run_len_rd (e := 9) hG.names (by kernel_rfl)) (.cons ((by have h := bin_rem (P := Tryd.prog) (w := w40) (T := 3) (a := .tmp 31) (b := .tmp 34) (x := nm) (y := (S.ns.length : Int)) (by omega); rw [← hr] at h; exact h)) .nil))) fun a hS => ?_
   refine seg_end ?_
   refine hK49 _ _ ?_
   refine sq fun K124 hK124 => ?_
   refine sq fun K125 hK125 => ?_
   refine rgn 2 ?_
   refine sg wide_wide [.p, .as (.bool true)] [Value.bool (decide ((r : Int) < 0)) = .bool true] [(0, .agg #[S.lv, S.nv, I6 S.st, S.pv]), (1, I6 nm), (2, (.slice pa np pc)), (3, (Pv w.heap.size)), (6, .bool false), (7, (Pv wtT.heap.size)), (8, .bool true), (9, .bool true), (26, .bool false), (10, I6 r), (37, .bool true)] 2 0 hS (.cons (as_t (by omega)) .nil) fun a hS => ?_
   refine seg_end ?_
   refine hK125 _ _ ?_
   refine cond_t hS rfl ?_
   refine rgn 6 ?_
   refine sg wide_wide [.p, .p, .ld (S.nv), .run (I6 ↑S.ns.length), .as (I6 ↑A), .p] [w40.cell? ⟨w.heap.size, 1, none⟩ = some (S.nv), Ru Tryd.prog (vS (Builtin.len_ #[23] 3 #[S.nv])) (I6 ↑S.ns.length) w40, Value.int .i64 (IntKind.i64.wrap (r + ↑S.ns.length)) = I6 ↑A] [(0, .agg #[S.lv, S.nv, I6 S.st, S.pv]), (1, I6 nm), (2, (.slice pa np pc)), (3, (Pv w.heap.size)), (6, .bool false), (7, (Pv wtT.heap.size)), (8, .bool true), (9, .bool true), (26, .bool false), (10, I6 ↑A), (37, .bool true)] 6 0 hS (.cons (hB42.cell 1 rfl) (.cons (run_len_rd (e := 9) hG.names (by kernel_rfl)) (.cons ((by rw [show (r + ↑S.ns.length : Int) = ↑A from by omega]; exact as_i64 (by omega))) .nil))) fun a hS => ?_
   refine seg_end ?_
   refine hK124 _ _ ?_
   refine sq fun K126 hK126 => ?_
   refine rgn 5 ?_
   refine sg wide_wide [.lds [S.lv, S.nv, I6 S.st, S.pv], .p, .p] [w40.cell? ⟨w.heap.size, 0, none⟩ = some (S.lv), w40.cell? ⟨w.heap.size, 1, none⟩ = some (S.nv), w40.cell? ⟨w.heap.size, 2, none⟩ = some (I6 S.st), w40.cell? ⟨w.heap.size, 3, none⟩ = some (S.pv)] [(0, .agg #[S.lv, S.nv, I6 S.st, S.pv]), (1, I6 nm), (2, (.slice pa np pc)), (3, (Pv w.heap.size)), (6, .bool false), (7, (Pv wtT.heap.size)), (8, .bool true), (9, .bool true), (26, .bool false), (10, I6 ↑A), (37, .bool true), (45, .agg #[S.lv, S.nv, I6 S.st, S.pv, (.slice pa np pc), I6 0, .slice none 0 0, I6 0])] 3 2 hS (.cons (hB42.cell 0 rfl) (.cons (hB42.cell 1 rfl) (.cons (hB42.cell 2 rfl) (.cons (hB42.cell 3 rfl) .nil)))) fun a hS => ?_
   refine eff_box wide_wide (r := 1) (cs := #[S.lv, S.nv, I6 S.st, S.pv, (.slice pa np pc), I6 0, .slice none 0 0, I6 0]) (T := 58) (d := (some 46)) hS (by kernel_rfl) fun a w127 hw128 hS => ?_
   have hn130 : wtT.heap.size ≠ w40.heap.size := Nat.ne_of_lt hB43.lt
   have hB132 := Blk.at' hw128 (hB43.alloc _)
   have hX133 : Ext [] w40 w127 := by rw [hw128]; exact (Ext.refl _ _).alloc _
   have hG134 : TdOk S w2.heap.size w127 T := hG45.ext0 hX133
   have hB135 : Blk w127 (w40.heap.size) 58 #[S.lv, S.nv, I6 S.st, S.pv, (.slice pa np pc), I6 0, .slice none 0 0, I6 0] := by rw [hw128]; exact Blk.new _ _ _
   have hs136 : w.heap.size ≤ w40.heap.size := hE46.size
   have hE137 : Ext [] w w127 := by rw [hw128]; exact hE46.alloc _
   refine sg wide_wide [.p] [] [(0, .agg #[S.lv, S.nv, I6 S.st, S.pv]), (1, I6 nm), (2, (.slice pa np pc)), (3, (Pv w.heap.size)), (6, .bool false), (7, (Pv wtT.heap.size)), (8, .bool true), (9, .bool true), (26, .bool false), (10, I6 ↑A), (37, .bool true), (11, (Pv w40.heap.size))] 5 0 hS .nil fun a hS => ?_
   refine seg_end ?_
   refine hK126 _ _ ?_
   refine sq fun K138 hK138 => ?_
   refine sq fun K139 hK139 => ?_
   refine rgn 5 ?_
   refine sg wide_wide [.p, .p, .p] [] [(0, .agg #[S.lv, S.nv, I6 S.st, S.pv]), (1, I6 nm), (2, (.slice pa np pc)), (3, (Pv w.heap.size)), (6, .bool false), (7, (Pv wtT.heap.size)), (8, .bool true), (9, .bool true), (26, .bool false), (10, I6 ↑A), (37, .bool true), (11, (Pv w40.heap.size)), (47, (Pv w40.heap.size)), (49, .agg #[I6 3, I6 ↑A])] 3 2 hS .nil fun a hS => ?_
   refine eff_call wide_wide (r := 1) (f := 28) (vs := [(Pv w40.heap.size), .agg #[I6 3, I6 ↑A]]) (cap := #[]) (d := (some 50)) hS (by kernel_rfl) Tryd.call28 #[(Pv w40.heap.size), .agg #[I6 3, I6 ↑A]] (by kernel_rfl) (trip_any hG hp hpm0 hok hs136 401 (by omega) (hb.trans0 hE137) (show TripK S (.slice pa np pc) w.heap.size (w40.heap.size) w127 0 0 none 0 0 [] from ⟨hB135, RowN.nil _ _⟩) (Nat.le_refl _) (Nat.le_refl _) (Nat.zero_le _) (y := (3, (A : Int))) (.inr (.inr ⟨rfl, by simp only; omega, by simp only; omega⟩))) ?_
   rintro _ wm (⟨rfl, hEm⟩ | ⟨a2, u2, bs2, n2, cp2, u, rfl, hKm, hEm, hfm, ha2, hn2, hu2, hu4, hmt⟩)
   ·
    refine ⟨_, rfl, fun a hS => ?_⟩
    replace hEm : Ext [w40.heap.size] w127 wm := hEm
    have hE142 := hE137.trans hEm (fun x hx => by simp at hx; subst hx; exact .inr hs136)
    have hG143 : TdOk S w2.heap.size wm T := hG134.extT hEm hB135 (by decide) (by decide) (by decide)
    refine sg wide_wide [.p] [] [(0, .agg #[S.lv, S.nv, I6 S.st, S.pv]), (1, I6 nm), (2, (.slice pa np pc)), (3, (Pv w.heap.size)), (6, .bool false), (7, (Pv wtT.heap.size)), (8, .bool true), (9, .bool true), (26, .bool false), (10, I6 ↑A), (37, .bool true), (11, (Pv w40.heap.size)), (51, .bool true)] 5 0 hS .nil fun a hS => ?_
    refine seg_end ?_
    refine hK139 _ _ ?_
    refine cond_t hS rfl ?_
    refine sq fun K144 hK144 => ?_
    refine rgn 2 ?_
    refine eff_call wide_wide (r := 1) (f := 12) (vs := []) (cap := #[]) (d := (some 52)) hS (by kernel_rfl) Tryd.call12 #[] (by kernel_rfl) (Head_any (hT.ext0 (hb.trans0 hE142))) ?_
    rintro _ wc145 ⟨rfl, hEc145⟩
    refine ⟨_, rfl, fun a hS => ?_⟩
    have hG148 : TdOk S w2.heap.size wc145 T := hG143.ext0 hEc145
    have hE149 := hE142.trans0 hEc145
    refine sg wide_wide [.p] [] [(0, .agg #[S.lv, S.nv, I6 S.st, S.pv]), (1, I6 nm), (2, (.slice pa np pc)), (3, (Pv w.heap.size)), (6, .bool true), (7, (Pv wtT.heap.size)), (8, .bool true), (9, .bool true), (26, .bool false), (10, I6 ↑A), (37, .bool true), (11, (Pv w40.heap.size)), (51, .bool true)] 2 0 hS .nil fun a hS => ?_
    refine seg_end ?_
    refine hK144 _ _ ?_
    refine wpIn_ret ?_
    refine then_ret ?_
    refine ret1 hS Tryd.results4 rfl ?_
    exact ⟨rfl, hE149⟩
   ·
    refine ⟨_, rfl, fun a hS => ?_⟩
    replace hEm : Ext [w40.heap.size] w127 wm := hEm
    have hrow : RowN w.heap.size wm bs2 n2 cp2 u := hKm.row
    have hB151 := hB132.ext hEm (by simpa using hn130)
    have hE152 := hE137.trans hEm (fun x hx => by simp at hx; subst hx; exact .inr hs136)
    have hG153 : TdOk S w2.heap.size wm T := hG134.extT hEm hB135 (by decide) (by decide) (by decide)
    have hMN : MN S.g S.nl A u := MT_name (show MT S.g S.nl [.m A] u from hmt)
    have hnu : u.length = n2 := hrow.len
    refine sg wide_wide [.p] [] [(0, .agg #[S.lv, S.nv, I6 S.st, S.pv]), (1, I6 nm), (2, (.slice pa np pc)), (3, (Pv w.heap.size)), (6, .bool false), (7, (Pv wtT.heap.size)), (8, .bool true), (9, .bool true), (26, .bool false), (10, I6 ↑A), (37, .bool true), (11, (Pv w40.heap.size)), (51, .bool false)] 5 0 hS .nil fun a hS => ?_
    refine seg_end ?_
    refine hK139 _ _ ?_
    refine cond_f hS rfl ?_
    refine wpIn_skip ?_
    refine hK138 _ _ ?_
    refine sq fun K154 hK154 => ?_
    refine rgn 5 ?_
    refine sg wide_wide [.p, .p, .p, .ld (.slice bs2 n2 cp2), .p] [wm.cell? ⟨w40.heap.size, 6, none⟩ = some (.slice bs2 n2 cp2)] [(0, .agg #[S.lv, S.nv, I6 S.st, S.pv]), (1, I6 nm), (2, (.slice pa np pc)), (3, (Pv w.heap.size)), (6, .bool false), (7, (Pv wtT.heap.size)), (8, .bool true), (9, .bool true), (26, .bool false), (10, I6 ↑A), (37, .bool true), (11, (Pv w40.heap.size)), (51, .bool false), (12, .slice bs2 n2 cp2)] 5 0 hS (.cons ((hKm.blk).cell 6 rfl) .nil) fun a hS => ?_
    refine seg_end ?_
    refine hK154 _ _ ?_
    refine sq fun K155 hK155 => ?_
    refine sq fun K156 hK156 => ?_
    rcases (show (u = []) ∨ (∃ q r, u = q :: r) from by
     cases u with
     | nil => exact .inl rfl
     | cons q r => exact .inr ⟨q, r, rfl⟩) with hu0 | ⟨q, ur, hu0⟩
    ·
     have hnz : n2 = 0 := by rw [← hnu, hu0]; rfl
     have hem : T.es[A]? = some true := (hG153.isE.iff A).2 (MN_nil (by rw [hu0] at hMN; exact hMN))
     refine region_fn2 wide_wide [.q .p, .q .p, .q (.as (.bool true)), .q .p, .q .p, .q (.ld (.slice (some ⟨T.eg, 0, none⟩) S.ns.length S.ns.length)), .q .p, .q (.run ((Po T.eg (0 + A * 1)))), .q (.ld (.bool true)), .q .p, .q .p, .q .p, .q .p, .q .p, .q (.as (.bool false)), .q .p, .q .no, .q .no, .q .no, .q .no, .q .no, .q .no, .q .no, .q .no, .q .no, .q .no, .q .p, .q .p] [0, 0, 0, 0, 0, 0, 0, 0, 0, 0, 0, 0, 0, 0, 0, 0, 0, 0, 0, 0, 0, 0, 0, 0, 0, 0, 0, 0] [0, 0, 0, 0, 0, 0, 0, 0, 0, 0, 0, 0, 0, 0, 0, 0, 0, 0, 0, 0, 0, 0, 0, 0, 0, 0, 0, 0] [0, 1, 3, 7, 15, 31, 15, 127, 255, 511, 1023, 2047, 4095, 8191, 16383, 32767, 65535, 131071, 65535, 524287, 1048575, 65535, 2162687, 6356991, 16777215, 33554431, 67108863, 134217727] [] 0 ([(0, .agg #[S.lv, S.nv, I6 S.st, S.pv]), (1, I6 nm), (2, (.slice pa np pc)), (3, (Pv w.heap.size)), (6, .bool false), (7, (Pv wtT.heap.size)), (8, .bool true), (9, .bool true), (26, .bool false), (10, I6 ↑A), (37, .bool true), (11, (Pv w40.heap.size)), (51, .bool false), (12, .slice bs2 n2 cp2), (57, .slice bs2 n2 cp2), (58, I6 ↑n2), (59, .bool true), (60, .bool true), (61, (Pv wtT.heap.size)), (62, .slice (some ⟨T.eg, 0, none⟩) S.ns.length S.ns.length), (63, I6 ↑A), (64, (Po T.eg (0 + A * 1))), (65, .bool true), (66, .bool false), (67, .bool false), (68, .bool false), (69, .slice bs2 n2 cp2), (70, I6 ↑n2), (71, .bool false), (72, .bool false), (73, undef), (74, undef), (75, undef), (76, undef), (77, undef), (78, undef), (79, undef), (80, undef), (81, undef), (82, undef), (83, .bool false), (84, .bool false)]) [wm.drew] wm.drew (fun w' => [(2, [Value.bool (((↑n2 : Int) == 0)) = .bool true]), (5, [w'.cell? ⟨wtT.heap.size, 0, none⟩ = some (.slice (some ⟨T.eg, 0, none⟩) S.ns.length S.ns.length)]), (7, [Ru Tryd.prog (vS (Instr.indexAt 31 (.slice (some ⟨T.eg, 0, none⟩) S.ns.length S.ns.length) (I6 ↑A))) ((Po T.eg (0 + A * 1))) w']), (8, [w'.cell? ⟨T.eg, 0 + A * 1, none⟩ = some (.bool true)]), (14, [Value.bool (decide ((↑n2 : Int) > 0)) = .bool false])]) [0, 1, 2, 3, 6, 7, 8, 9, 26, 10, 37, 11, 51, 12] [] hS (by kernel_rfl) (by kernel_rfl) (by kernel_rfl) (by kernel_rfl) (fun _ => by kernel_rfl) (by kernel_rfl) (by kernel_rfl) (by kernel_rfl) ?_ ?_ ?_
     ·intro e w' hw
      refine (.cons ?_ (.cons ?_ (.cons ?_ (.cons ?_ (.cons ?_ .nil)))))
      ·exact fun _ _ => (.cons (as_eq_t (by omega)) .nil)
      ·intro h1 h2
       obtain rfl : e = 0 := Nat.le_antisymm h2 h1
       obtain rfl : w' = wm.drew := hw.trans (by kernel_rfl)
       exact (.cons ((hB151.drew : Blk wm.drew wtT.heap.size 53 (#[.slice (some ⟨T.eg, 0, none⟩) S.ns.length S.ns.length, .slice T.fb S.ns.length T.fc, .slice T.wb S.ns.length T.wc, .slice T.yb T.yn T.yc, .bool T.full])).cell 0 rfl) .nil)
      ·exact fun _ _ => (.cons (ix_slice (E := 4) (size := 1) (j := A) (by kernel_rfl) (by kernel_rfl) rfl (by omega)) .nil)
      ·intro h1 h2
       obtain rfl : e = 0 := Nat.le_antisymm h2 h1
       obtain rfl : w' = wm.drew := hw.trans (by kernel_rfl)
       exact (.cons ((hG153.re.ext (by first | exact (Ext.refl [] _).drew | exact Ext.refl [] _) (by simp)).cellAt _ (by rw [Nat.zero_add]; exact bls_at' hem)) .nil)
      ·exact fun _ _ => (.cons (as_f (by omega)) .nil)
     ·refine .nil
     rintro a w158 hS hw159
     replace hw159 : w158 = wm.drew := hw159.trans (by kernel_rfl)
     have hB161 := Blk.at' hw159 (hB151.drew)
     have hB163 := OwnV.at' hw159 (hrow.own.drew)
     have hE164 : Ext [] w w158 := by rw [hw159]; exact hE152.drew
     have hX165 : Ext [] wm w158 := by rw [hw159]; exact (Ext.refl _ _).drew
     have hG166 : TdOk S w2.heap.size w158 T := hG153.ext0 hX165
     replace hS := hS.kp [(0, .agg #[S.lv, S.nv, I6 S.st, S.pv]), (1, I6 nm), (2, (.slice pa np pc)), (3, (Pv w.heap.size)), (6, .bool false), (7, (Pv wtT.heap.size)), (8, .bool true), (9, .bool true), (26, .bool false), (10, I6 ↑A), (37, .bool true), (11, (Pv w40.heap.size)), (51, .bool false), (12, .slice bs2 n2 cp2), (84, .bool false)]
     refine hK156 _ _ ?_
     refine cond_f hS rfl ?_
     refine wpIn_skip ?_
     refine hK155 _ _ ?_
     refine sq fun K167 hK167 => ?_
     rcases (show (T.full = true) ∨ (T.full = false) from by cases T.full <;> simp) with hfu | hfu
     ·
      rw [hfu] at hB161
      refine rgn 13 ?_
      refine sg wide_wide [.p, .ld (.bool true), .p, .no, .no, .no, .no, .no, .no, .no, .no, .p, .p] [w158.cell? ⟨wtT.heap.size, 4, none⟩ = some (.bool true)] [(0, .agg #[S.lv, S.nv, I6 S.st, S.pv]), (1, I6 nm), (2, (.slice pa np pc)), (3, (Pv w.heap.size)), (6, .bool true), (7, (Pv wtT.heap.size)), (8, .bool true), (9, .bool true), (26, .bool false), (10, I6 ↑A), (37, .bool true), (11, (Pv w40.heap.size)), (51, .bool false), (12, .slice bs2 n2 cp2), (84, .bool false)] 13 0 hS (.cons (hB161.cell 4 rfl) .nil) fun a hS => ?_
      refine seg_end ?_
      refine hK167 _ _ ?_
      refine wpIn_ret ?_
      refine ret1 hS Tryd.results4 rfl ?_
      exact ⟨rfl, hE164⟩
     ·
      rw [hfu] at hB161
      obtain ⟨hyn, hyl⟩ := hG166.yld hfu
      have hyln := hyl.1
      have hnu : u.length = n2 := hrow.len
      obtain ⟨ly, hly⟩ : ∃ l, T.yl[A]? = some l := ⟨_, List.getElem?_eq_getElem (by omega)⟩
      have hYd := hyl.2 A ly hly
      obtain ⟨k9, x9, hY9, _⟩ := hG166.isY
      obtain ⟨yv, hyv, hyr⟩ := hG166.ly.at' hly
      refine rgn 13 ?_
      refine sg wide_wide [.p, .ld (.bool false), .p, .p, .p, .ld (.slice T.yb T.yn T.yc), .p, .run ((Po (bof (.slice T.yb T.yn T.yc)) (0 + A * 1))), .ld (yv)] [w158.cell? ⟨wtT.heap.size, 4, none⟩ = some (.bool false), w158.cell? ⟨wtT.heap.size, 3, none⟩ = some (.slice T.yb T.yn T.yc), Ru Tryd.prog (vS (Instr.indexAt 37 (.slice T.yb T.yn T.yc) (I6 ↑A))) ((Po (bof (.slice T.yb T.yn T.yc)) (0 + A * 1))) w158, w158.cell? ⟨bof (.slice T.yb T.yn T.yc), 0 + A * 1, none⟩ = some (yv)] [(0, .agg #[S.lv, S.nv, I6 S.st, S.pv]), (1, I6 nm), (2, (.slice pa np pc)), (3, (Pv w.heap.size)), (6, .bool false), (7, (Pv wtT.heap.size)), (8, .bool true), (9, .bool true), (26, .bool false), (10, I6 ↑A), (37, .bool true), (11, (Pv w40.heap.size)), (51, .bool false), (12, .slice bs2 n2 cp2), (84, .bool false), (87, .bool false), (88, .slice bs2 n2 cp2), (93, yv)] 9 4 hS (.cons (hB161.cell 4 rfl) (.cons (hB161.cell 3 rfl) (.cons (ix_own (j := A) (hG166.ly.own) (by kernel_rfl) (by kernel_rfl) rfl (by omega)) (.cons (OwnV.cellAt hG166.ly.own _ (by rw [Nat.zero_add, Nat.mul_one]; exact hyv)) .nil)))) fun a hS => ?_
      refine eff_call wide_wide (r := 3) (f := 30) (vs := [.slice bs2 n2 cp2, yv]) (cap := #[]) (d := (some 94)) hS (by kernel_rfl) Tryd.call30 #[.slice bs2 n2 cp2, yv] (by kernel_rfl) (Less_false (hYd.2 u hMN) (hB163.rd) hyr (by omega)) ?_
      rintro _ wc168 ⟨rfl, hEc168⟩
      refine ⟨_, rfl, fun a hS => ?_⟩
      have hG174 : TdOk S w2.heap.size wc168 T := hG166.ext0 hEc168
      have hE175 := hE164.trans0 hEc168
      refine sg wide_wide [.p, .p, .p] [] [(0, .agg #[S.lv, S.nv, I6 S.st, S.pv]), (1, I6 nm), (2, (.slice pa np pc)), (3, (Pv w.heap.size)), (6, .bool true), (7, (Pv wtT.heap.size)), (8, .bool true), (9, .bool true), (26, .bool false), (10, I6 ↑A), (37, .bool true), (11, (Pv w40.heap.size)), (51, .bool false), (12, .slice bs2 n2 cp2), (84, .bool false)] 13 0 hS .nil fun a hS => ?_
      refine seg_end ?_
      refine hK167 _ _ ?_
      refine wpIn_ret ?_
      refine ret1 hS Tryd.results4 rfl ?_
      exact ⟨rfl, hE175⟩
    ·
     have hnz : 0 < n2 := by rw [← hnu, hu0]; exact Nat.succ_pos _
     have hfl := hG153.isF.len
     obtain ⟨l, hl⟩ : ∃ l, T.fl[A]? = some l := ⟨_, List.getElem?_eq_getElem (by omega)⟩
     have hql : q ∈ l := (hG153.isF.has hl).2 (MN_head (by rw [hu0] at hMN; exact hMN))
     obtain ⟨uv, huv, hur⟩ := hG153.lf.at' hl
     have hlm := hG153.isF.max l (List.mem_of_getElem? hl)
     refine region_gh2 (G := World) wide_wide [.q .p, .q .p, .q (.as (.bool false)), .q .p, .q .no, .q .no, .q .no, .q .no, .q .no, .q .no, .q .p, .q .p, .q .p, .q .p, .q (.as (.bool true)), .q .p, .q .p, .q (.ld (.slice T.fb S.ns.length T.fc)), .q .p, .q (.run ((Po (bof (.slice T.fb S.ns.length T.fc)) (0 + A * 1)))), .q (.ld (uv)), .q .p, .q (.run ((Po (bof (.slice bs2 n2 cp2)) (0 + 0 * 1)))), .q (.ld (I6 ↑q)), .e, .q .p, .q .p, .q .p] [0, 0, 0, 0, 0, 0, 0, 0, 0, 0, 0, 0, 0, 0, 0, 0, 0, 0, 0, 0, 0, 0, 0, 0, 0, 1, 1, 1] [0, 0, 0, 0, 0, 0, 0, 0, 0, 0, 0, 0, 0, 0, 0, 0, 0, 0, 0, 0, 0, 0, 0, 0, 0, 1, 1, 1] [0, 1, 3, 7, 15, 31, 15, 127, 255, 511, 1023, 2047, 4095, 8191, 16383, 32767, 65535, 131071, 65535, 524287, 1048575, 65535, 2162687, 6356991, 16777215, 33554431, 67108863, 134217727] [24] [(24, 0)] 1 (fun wc176 => ([(0, .agg #[S.lv, S.nv, I6 S.st, S.pv]), (1, I6 nm), (2, (.slice pa np pc)), (3, (Pv w.heap.size)), (6, .bool false), (7, (Pv wtT.heap.size)), (8, .bool true), (9, .bool true), (26, .bool false), (10, I6 ↑A), (37, .bool true), (11, (Pv w40.heap.size)), (51, .bool false), (12, .slice bs2 n2 cp2), (57, .slice bs2 n2 cp2), (58, I6 ↑n2), (59, .bool false), (60, .bool false), (61, undef), (62, undef), (63, undef), (64, undef), (65, undef), (66, undef), (67, .bool false), (68, .bool false), (69, .slice bs2 n2 cp2), (70, I6 ↑n2), (71, .bool true), (72, .bool true), (73, (Po wtT.heap.size 1)), (74, .slice T.fb S.ns.length T.fc), (75, I6 ↑A), (76, (Po (bof (.slice T.fb S.ns.length T.fc)) (0 + A * 1))), (77, uv), (78, .slice bs2 n2 cp2), (79, (Po (bof (.slice bs2 n2 cp2)) (0 + 0 * 1))), (80, I6 ↑q), (81, .bool true), (82, .bool false), (83, .bool false), (84, .bool false)] : Fm)) (fun wc176 => [wm.drew, wc176]) (wm.drew) (fun e wc176 => hAt [True, (Ext [] wm.drew wc176) ∧ True] e) (fun wc176 w' => [(2, [Value.bool (((↑n2 : Int) == 0)) = .bool false]), (14, [Value.bool (decide ((↑n2 : Int) > 0)) = .bool true]), (17, [w'.cell? ⟨wtT.heap.size, 1, none⟩ = some (.slice T.fb S.ns.length T.fc)]), (19, [Ru Tryd.prog (vS (Instr.indexAt 37 (.slice T.fb S.ns.length T.fc) (I6 ↑A))) ((Po (bof (.slice T.fb S.ns.length T.fc)) (0 + A * 1))) w']), (20, [w'.cell? ⟨bof (.slice T.fb S.ns.length T.fc), 0 + A * 1, none⟩ = some (uv)]), (22, [Ru Tryd.prog (vS (Instr.indexAt 51 (.slice bs2 n2 cp2) (I6 0))) ((Po (bof (.slice bs2 n2 cp2)) (0 + 0 * 1))) w']), (23, [w'.cell? ⟨bof (.slice bs2 n2 cp2), 0 + 0 * 1, none⟩ = some (I6 ↑q)])]) wm.drew [0, 1, 2, 3, 6, 7, 8, 9, 26, 10, 37, 11, 51, 12] [] hS (by kernel_rfl) (by kernel_rfl) (by kernel_rfl) (by kernel_rfl) (fun wc176 _ => by kernel_rfl) (by kernel_rfl) (by kernel_rfl) (by kernel_rfl) trivial ?_ (by kernel_rfl) ?_ ?_
     ·rintro e wc176 w' hw hH
      refine (.cons ?_ (.cons ?_ (.cons ?_ (.cons ?_ (.cons ?_ (.cons ?_ (.cons ?_ .nil)))))))
      ·intro h1 h2
       obtain rfl : e = 0 := Nat.le_antisymm h2 h1
       have hwe : wm.drew = w' := (hw.trans (by kernel_rfl)).symm
       subst hwe
       clear hH
       exact (.cons (as_eq_f (by omega)) .nil)
      ·intro h1 h2
       obtain rfl : e = 0 := Nat.le_antisymm h2 h1
       have hwe : wm.drew = w' := (hw.trans (by kernel_rfl)).symm
       subst hwe
       clear hH
       exact (.cons (as_t (by omega)) .nil)
      ·intro h1 h2
       obtain rfl : e = 0 := Nat.le_antisymm h2 h1
       have hwe : wm.drew = w' := (hw.trans (by kernel_rfl)).symm
       subst hwe
       clear hH
       exact (.cons ((hB151.drew : Blk wm.drew wtT.heap.size 53 (#[.slice (some ⟨T.eg, 0, none⟩) S.ns.length S.ns.length, .slice T.fb S.ns.length T.fc, .slice T.wb S.ns.length T.wc, .slice T.yb T.yn T.yc, .bool T.full])).cell 1 rfl) .nil)
      ·intro h1 h2
       obtain rfl : e = 0 := Nat.le_antisymm h2 h1
       have hwe : wm.drew = w' := (hw.trans (by kernel_rfl)).symm
       subst hwe
       clear hH
       exact (.cons (ix_own (j := A) (hG153.lf.own) (by kernel_rfl) (by kernel_rfl) rfl (by omega)) .nil)
      ·intro h1 h2
       obtain rfl : e = 0 := Nat.le_antisymm h2 h1
       have hwe : wm.drew = w' := (hw.trans (by kernel_rfl)).symm
       subst hwe
       clear hH
       exact (.cons (OwnV.cellAt (hG153.lf.own.drew : OwnV wm.drew 51 1 (.slice T.fb S.ns.length T.fc) S.ns.length (T.fL.map Rw.v)) _ (by rw [Nat.zero_add, Nat.mul_one]; exact huv)) .nil)
      ·intro h1 h2
       obtain rfl : e = 0 := Nat.le_antisymm h2 h1
       have hwe : wm.drew = w' := (hw.trans (by kernel_rfl)).symm
       subst hwe
       clear hH
       exact (.cons (ix_own (j := 0) (hrow.own) (by kernel_rfl) (by kernel_rfl) rfl (by omega)) .nil)
      ·intro h1 h2
       obtain rfl : e = 0 := Nat.le_antisymm h2 h1
       have hwe : wm.drew = w' := (hw.trans (by kernel_rfl)).symm
       subst hwe
       clear hH
       exact (.cons (OwnV.cellAt (hrow.own.drew : OwnV wm.drew 3 1 (.slice bs2 n2 cp2) n2 (ivs u)) _ (by rw [hu0]; rfl)) .nil)
     ·refine (.cons ?eq177_24 .nil)
      ·rintro wc176 hH
       clear hH
       refine eff_gh (wm.drew) (by kernel_rfl) ?_
       refine upon_call (f := 29) (vs := [uv, I6 ↑q]) (cap := #[]) (d := (some 81)) (by kernel_rfl) Tryd.call29 #[uv, I6 ↑q] (by kernel_rfl) (has_true hql (hur.ext0 ((Ext.refl [] _).drew)) hlm) ?_
       rintro _ wc176 ⟨rfl, hEc176⟩
       exact ⟨_, rfl, ⟨wc176, by kernel_rfl, by kernel_rfl, by kernel_rfl, ⟨hEc176, trivial⟩⟩⟩
     rintro wc176 a w178 hS hw179 hH
     obtain ⟨hEc176, _⟩ := hH
     replace hw179 : w178 = wc176 := hw179.trans (by kernel_rfl)
     have hB181 := Blk.at' hw179 ((hB151.drew : Blk wm.drew wtT.heap.size 53 (#[.slice (some ⟨T.eg, 0, none⟩) S.ns.length S.ns.length, .slice T.fb S.ns.length T.fc, .slice T.wb S.ns.length T.wc, .slice T.yb T.yn T.yc, .bool T.full])).ext hEc176 (by simp))
     have hB183 := OwnV.at' hw179 ((hrow.own.drew : OwnV wm.drew 3 1 (.slice bs2 n2 cp2) n2 (ivs u)).ext hEc176 (by simp))
     have hE185 : Ext [] w w178 := by rw [hw179]; exact (hE152.drew).trans0 hEc176
     have hX186 : Ext [] wm w178 := by rw [hw179]; exact ((Ext.refl _ _).drew).trans0 hEc176
     have hG187 : TdOk S w2.heap.size w178 T := hG153.ext0 hX186
     replace hS := hS.kp [(0, .agg #[S.lv, S.nv, I6 S.st, S.pv]), (1, I6 nm), (2, (.slice pa np pc)), (3, (Pv w.heap.size)), (6, .bool false), (7, (Pv wtT.heap.size)), (8, .bool true), (9, .bool true), (26, .bool false), (10, I6 ↑A), (37, .bool true), (11, (Pv w40.heap.size)), (51, .bool false), (12, .slice bs2 n2 cp2), (84, .bool false)]
     refine hK156 _ _ ?_
     refine cond_f hS rfl ?_
     refine wpIn_skip ?_
     refine hK155 _ _ ?_
     refine sq fun K188 hK188 => ?_
     rcases (show (T.full = true) ∨ (T.full = false) from by cases T.full <;> simp) with hfu | hfu
     ·
      rw [hfu] at hB181
      refine rgn 13 ?_
      refine sg wide_wide [.p, .ld (.bool true), .p, .no, .no, .no, .no, .no, .no, .no, .no, .p, .p] [w178.cell? ⟨wtT.heap.size, 4, none⟩ = some (.bool true)] [(0, .agg #[S.lv, S.nv, I6 S.st, S.pv]), (1, I6 nm), (2, (.slice pa np pc)), (3, (Pv w.heap.size)), (6, .bool true), (7, (Pv wtT.heap.size)), (8, .bool true), (9, .bool true), (26, .bool false), (10, I6 ↑A), (37, .bool true), (11, (Pv w40.heap.size)), (51, .bool false), (12, .slice bs2 n2 cp2), (84, .bool false)] 13 0 hS (.cons (hB181.cell 4 rfl) .nil) fun a hS => ?_
      refine seg_end ?_
      refine hK188 _ _ ?_
      refine wpIn_ret ?_
      refine ret1 hS Tryd.results4 rfl ?_
      exact ⟨rfl, hE185⟩
     ·
      rw [hfu] at hB181
      obtain ⟨hyn, hyl⟩ := hG187.yld hfu
      have hyln := hyl.1
      have hnu : u.length = n2 := hrow.len
      obtain ⟨ly, hly⟩ : ∃ l, T.yl[A]? = some l := ⟨_, List.getElem?_eq_getElem (by omega)⟩
      have hYd := hyl.2 A ly hly
      obtain ⟨k9, x9, hY9, _⟩ := hG187.isY
      obtain ⟨yv, hyv, hyr⟩ := hG187.ly.at' hly
      refine rgn 13 ?_
      refine sg wide_wide [.p, .ld (.bool false), .p, .p, .p, .ld (.slice T.yb T.yn T.yc), .p, .run ((Po (bof (.slice T.yb T.yn T.yc)) (0 + A * 1))), .ld (yv)] [w178.cell? ⟨wtT.heap.size, 4, none⟩ = some (.bool false), w178.cell? ⟨wtT.heap.size, 3, none⟩ = some (.slice T.yb T.yn T.yc), Ru Tryd.prog (vS (Instr.indexAt 37 (.slice T.yb T.yn T.yc) (I6 ↑A))) ((Po (bof (.slice T.yb T.yn T.yc)) (0 + A * 1))) w178, w178.cell? ⟨bof (.slice T.yb T.yn T.yc), 0 + A * 1, none⟩ = some (yv)] [(0, .agg #[S.lv, S.nv, I6 S.st, S.pv]), (1, I6 nm), (2, (.slice pa np pc)), (3, (Pv w.heap.size)), (6, .bool false), (7, (Pv wtT.heap.size)), (8, .bool true), (9, .bool true), (26, .bool false), (10, I6 ↑A), (37, .bool true), (11, (Pv w40.heap.size)), (51, .bool false), (12, .slice bs2 n2 cp2), (84, .bool false), (87, .bool false), (88, .slice bs2 n2 cp2), (93, yv)] 9 4 hS (.cons (hB181.cell 4 rfl) (.cons (hB181.cell 3 rfl) (.cons (ix_own (j := A) (hG187.ly.own) (by kernel_rfl) (by kernel_rfl) rfl (by omega)) (.cons (OwnV.cellAt hG187.ly.own _ (by rw [Nat.zero_add, Nat.mul_one]; exact hyv)) .nil)))) fun a hS => ?_
      refine eff_call wide_wide (r := 3) (f := 30) (vs := [.slice bs2 n2 cp2, yv]) (cap := #[]) (d := (some 94)) hS (by kernel_rfl) Tryd.call30 #[.slice bs2 n2 cp2, yv] (by kernel_rfl) (Less_false (hYd.2 u hMN) (hB183.rd) hyr (by omega)) ?_
      rintro _ wc189 ⟨rfl, hEc189⟩
      refine ⟨_, rfl, fun a hS => ?_⟩
      have hG196 : TdOk S w2.heap.size wc189 T := hG187.ext0 hEc189
      have hE197 := hE185.trans0 hEc189
      refine sg wide_wide [.p, .p, .p] [] [(0, .agg #[S.lv, S.nv, I6 S.st, S.pv]), (1, I6 nm), (2, (.slice pa np pc)), (3, (Pv w.heap.size)), (6, .bool true), (7, (Pv wtT.heap.size)), (8, .bool true), (9, .bool true), (26, .bool false), (10, I6 ↑A), (37, .bool true), (11, (Pv w40.heap.size)), (51, .bool false), (12, .slice bs2 n2 cp2), (84, .bool false)] 13 0 hS .nil fun a hS => ?_
      refine seg_end ?_
      refine hK188 _ _ ?_
      refine wpIn_ret ?_
      refine ret1 hS Tryd.results4 rfl ?_
      exact ⟨rfl, hE197⟩

end Go.Proofs.YtkkpghlcmcaoiaaDoor
