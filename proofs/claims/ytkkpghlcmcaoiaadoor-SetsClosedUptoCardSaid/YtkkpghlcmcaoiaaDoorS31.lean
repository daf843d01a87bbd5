import Derived.Test.YtkkpghlcmcaoiaaDoorS30
import Derived.Test.YtkkpghlcmcaoiaaDoorVt
import Derived.Test.YtkkpghlcmcaoiaaDoorVd
namespace Go.Proofs.YtkkpghlcmcaoiaaDoor
open Go.Vc Go.Gm

theorem Lsts.rd {N : Nat} {w : World} {bs : Option Addr} {n cp : Nat} {L : List Rw} {ls : List (List Nat)} (h : Lsts N w bs n cp L ls) {k : Nat} {l : List Nat} (hk : ls[k]? = some l) {u : Value} (hu : (L.map Rw.v)[k]? = some u) : RdV w 1 u l.length (ivs l) := by
 obtain ⟨u', h1, h2⟩ := h.at' hk
 rw [hu] at h1; cases h1; exact h2
theorem Lsts.at2 {N : Nat} {w : World} {bs : Option Addr} {n cp : Nat} {L : List Rw} {ls : List (List Nat)} (h : Lsts N w bs n cp L ls) {k : Nat} {l : List Nat} (hk : ls[k]? = some l) : ∃ b c, (L.map Rw.v)[k]? = some (.slice b l.length c) ∧ OwnV w 3 1 (.slice b l.length c) l.length (ivs l) := by
 have hl := h.len
 obtain ⟨x, hx⟩ : ∃ x, L[k]? = some x := ⟨_, List.getElem?_eq_getElem (by have := (List.getElem?_eq_some_iff.1 hk).1; omega)⟩
 have he := congrArg (fun l => l[k]?) h.is
 simp only [List.getElem?_map, hx, hk, Option.map_some, Option.some.injEq, Prod.mk.injEq] at he
 have ho := h.fam.own k x hx
 rw [he.1, he.2] at ho
 rcases ho with ⟨h1, h2, h3⟩ | ⟨g, cap, h1, h2⟩
 ·exact ⟨Option.none, 0, by rw [List.getElem?_map, hx, h2]; exact congrArg some h1, .inl ⟨by rw [h2], h2, h3⟩⟩
 ·exact ⟨some ⟨g, 0, Option.none⟩, cap, by rw [List.getElem?_map, hx]; exact congrArg some h1, .inr ⟨g, cap, rfl, h2⟩⟩
theorem TdOk.extG {S : Sp} {N : Nat} {w w' : World} {T : Td} {M : List Nat} {g : Nat} (h : TdOk S N w T) (hE : Ext M w w') (hg : ∀ x ∈ T.blks, x < g) (hM : ∀ x ∈ M, g ≤ x) : TdOk S N w' T :=
 h.extD hE fun x hx hm => Nat.not_lt.2 (hM x hm) (hg x hx)
theorem row_split {r : List Sy} {k : Nat} {x : Sy} (h : r[k]? = some x) : row r = (row r).take k ++ sm x :: row (r.drop (k + 1)) := by
 rw [show row (r.drop (k + 1)) = (row r).drop (k + 1) by rw [row, row, List.map_drop], ← row_at h, List.take_append_drop]
/-- what Heads has told, its row owned -/
structure HdO (S : Sp) (r : List Sy) (ts : List Int) (N : Nat) (w : World) (bs : Option Addr) (n cp : Nat) (l : List Nat) : Prop where
 row : RowN N w bs n cp l
 is : HdsR S r ts l
theorem HdO.ext0 {S : Sp} {r : List Sy} {ts : List Int} {N : Nat} {w w' : World} {bs : Option Addr} {n cp : Nat} {l : List Nat} (h : HdO S r ts N w bs n cp l) (hE : Ext [] w w') : HdO S r ts N w' bs n cp l := ⟨⟨h.row.own.ext hE (by simp), h.row.new⟩, h.is⟩
theorem HdO.updT {S : Sp} {r : List Sy} {ts : List Int} {N : Nat} {w : World} {bs : Option Addr} {n cp : Nat} {l : List Nat} (h : HdO S r ts N w bs n cp l) {b T : Nat} {cs : Array Value} (hB : Blk w b T cs) (hT : 3 ≠ T) (cs' : Array Value) : HdO S r ts N (upd w b T cs') bs n cp l :=
 ⟨⟨h.row.own.ext ((Ext.refl [b] w).updIn (.inl (by simp)) _ _) (fun x hx hm => by simp at hm; exact h.row.own.ne hB hT x hx hm.symm), h.row.new⟩, h.is⟩
theorem HdO.mono {S : Sp} {r : List Sy} {ts : List Int} {N N' : Nat} {w : World} {bs : Option Addr} {n cp : Nat} {l : List Nat} (h : HdO S r ts N w bs n cp l) (hN : N' ≤ N) : HdO S r ts N' w bs n cp l := ⟨h.row.mono hN, h.is⟩
theorem Heads_ok {w0 w : World} {S : Sp} (hG : SpOk w0 S) (hb : Ext [] w0 w) (hT : Tab w0) (hok : GOk S) {rv : Value} {r : List Sy} (hr : RdV w0 2 rv r.length (ycells r)) (hr16 : r.length ≤ 16) (hrk : ∀ x ∈ r, syOk S x) {nv : Value} {nn : Nat} {ts : List Int} (hn : RdV w0 1 nv nn (its ts)) (hnm : nn ≤ 1048576) (htm : ∀ z ∈ ts, isTm S z) :
  Calls Tryd.prog 33 #[.agg S.ca, rv, nv] w fun e w' => ∃ bs n cp l, e = .returned (.tuple #[.slice bs n cp, .agg #[I6 0, I6 0, .string ⟨#[]⟩]]) ∧ HdO S r ts w.heap.size w' bs n cp l ∧ Ext [] w w' := by
 have h0 : hdE S r ts = (0, 0) := by unfold hdE; rw [if_neg (by omega), symsE_ok hrk, if_neg (by simp), termsE_ok htm]
 refine (Heads_any hG hb hT hr (by omega) hn hnm).mono ?_
 rintro e w' ⟨z, hZ, h | ⟨_, h | ⟨_, bs, n, cp, l, h1, h2, h3⟩⟩, hE⟩
 ·exact absurd (hZ.zero.2.2 hok) h.1
 ·exact absurd (by rw [h0]) h.1
 ·exact ⟨bs, n, cp, l, h1, ⟨h2, h3⟩, hE⟩
theorem hdl_any2 {w0 w : World} {S : Sp} (hG : SpOk w0 S) (hb : Ext [] w0 w) {N : Nat} {T : Td} (hTd : TdOk S N w T) {rv : Value} {r : List Sy} (hr : RdV w0 2 rv r.length (ycells r)) (hr16 : r.length ≤ 16) (hrk : ∀ x ∈ r, syOk S x) {nv : Value} {nx : List Nat} (hn : RdV w 1 nv nx.length (ivs nx)) {K : Nat} (hK : nx.length ≤ K) (hK2 : K ≤ 128) :
  Calls Tryd.prog 38 #[.agg (T.cells S), .agg S.ca, rv, nv] w fun e w' => ∃ bs n cp, e = .returned (.slice bs n cp) ∧ OwnV w' 3 1 (.slice bs n cp) n (ivs (hdL S.nl T.fl T.es nx (row r))) ∧ (∀ x ∈ ob (.slice bs n cp), w.heap.size ≤ x) ∧ n ≤ 4224 ∧ Ext [] w w' := by
 refine (hdl_any hG hb hTd hr hr16 hrk hn (by omega)).mono ?_
 rintro e w' ⟨bs, n, cp, zs, h1, h2, rfl, h4, hE⟩
 exact ⟨bs, n, cp, h1, h2.own, h2.new, by omega, hE⟩
theorem yld_any2 {w0 w : World} {S : Sp} (hG : SpOk w0 S) (hb : Ext [] w0 w) {N : Nat} {T : Td} (hTd : TdOk S N w T) (hok : GOk S) (hfu : T.full = false) {p : Pd} (hpm : p ∈ S.ps) :
  Calls Tryd.prog 40 #[.agg (T.cells S), .agg S.ca, .agg #[I6 p.l, p.rv]] w fun e w' => ∃ bs n cp, e = .returned (.slice bs n cp) ∧ OwnV w' 3 1 (.slice bs n cp) n (ivs (mkR S.nl (rF T.yl) (row p.r))) ∧ (∀ x ∈ ob (.slice bs n cp), w.heap.size ≤ x) ∧ n ≤ 65536 ∧ Ext [] w w' := by
 refine (yld_any hG hb hTd hok hfu hpm).mono ?_
 rintro e w' ⟨bs, n, cp, zs, h1, h2, rfl, h4, hE⟩
 exact ⟨bs, n, cp, h1, h2.own, h2.new, h4, hE⟩

set_option maxHeartbeats 2000000 in
theorem SetsClosed_any {w0 w : World} {S : Sp} (hG : SpOk w0 S) (hb : Ext [] w0 w) (hT : Tab w0) :
  Calls Tryd.prog 9 #[.agg S.ca] w fun e w' => e = .returned (.bool true) ∧ Ext [] w w' := by
 have hlmax := hG.lmax
 have hnmax := hG.nmax
 have hpmax := hG.pmax
 refine calls_body 260 [(0, .agg S.ca)] Tryd.func9 rfl (by kernel_rfl) (by kernel_rfl) (by kernel_rfl) fun a hS => ?_
 have hE0 : Ext [] w w := Ext.refl _ _
 refine sq fun K1 hK1 => rgn 2 <| eff_box ww (r := 1) (cs := S.ca) (T := 26) (d := (some 1)) hS (by kernel_rfl) fun a w2 hw3 hS => ?_
 have hB4 : Blk w2 (w.heap.size) 26 S.ca := by rw [hw3]; exact Blk.new _ _ _
 have hs5 : w.heap.size ≤ w.heap.size := hE0.size
 have hE6 : Ext [] w w2 := by rw [hw3]; exact hE0.alloc _
 refine sd ww [.p] [] [(2, .bool false)] [] 2 0 hS .nil fun a hS => seg_end <| hK1 _ _ <| sq fun K7 hK7 => rgn 10 <| sd ww [.lds [S.lv, S.nv, I6 S.st, S.pv]] [w2.cell? ⟨w.heap.size, 0, none⟩ = some (S.lv), w2.cell? ⟨w.heap.size, 1, none⟩ = some (S.nv), w2.cell? ⟨w.heap.size, 2, none⟩ = some (I6 S.st), w2.cell? ⟨w.heap.size, 3, none⟩ = some (S.pv)] [(18, .agg S.ca)] [] 1 9 hS (.cons (hB4.cell 0 rfl) (.cons (hB4.cell 1 rfl) (.cons (hB4.cell 2 rfl) (.cons (hB4.cell 3 rfl) .nil)))) fun a hS => eff_call ww (r := 8) (f := 27) (vs := [.agg S.ca]) (cap := #[]) (d := (some 19)) hS (by kernel_rfl) Tryd.call27 #[.agg S.ca] (by kernel_rfl) (told_any hG (hb.trans0 hE6) hT) ?_
 rintro _ wtT ⟨z, hZT, ⟨hzT, rfl⟩ | ⟨hzT, T, rfl, hTT⟩, hEtT⟩
 ·
  refine ⟨_, rfl, fun a hS => ?_⟩
  have hE9 := hE6.trans0 hEtT
  refine sd ww [.p, .p, .p, .p] [] [(20, .agg #[.slice none 0 0, .slice none 0 0, .slice none 0 0, .slice none 0 0, .bool false]), (21, .bool false), (22, .bool true)] [] 6 4 hS .nil fun a hS => eff_box ww (r := 3) (cs := #[.slice none 0 0, .slice none 0 0, .slice none 0 0, .slice none 0 0, .bool false]) (T := 53) (d := (some 3)) hS (by kernel_rfl) fun a w10 hw11 hS => ?_
  have hB14 : Blk w10 (wtT.heap.size) 53 #[.slice none 0 0, .slice none 0 0, .slice none 0 0, .slice none 0 0, .bool false] := by rw [hw11]; exact Blk.new _ _ _
  have hs15 : w.heap.size ≤ wtT.heap.size := hE9.size
  have hE16 : Ext [] w w10 := by rw [hw11]; exact hE9.alloc _
  refine eff_store ww (r := 2) (b := wtT.heap.size) (off := 0) (vs := [.slice none 0 0, .slice none 0 0, .slice none 0 0, .slice none 0 0, .bool false]) hS (by kernel_rfl) hB14 (by simp) fun a w17 hw18 hS => ?_
  have hE21 : Ext [] w w17 := by rw [hw18]; exact hE16.updIn (.inr hs15) _ _
  refine sd ww [.p, .p] [] [(4, .bool false), (5, .bool true)] [] 10 0 hS .nil fun a hS => seg_end <| hK7 _ _ <| sq fun K22 hK22 => sq fun K23 hK23 => rgn 6 <| sd ww [.p, .p, .p, .no, .no, .p] [] [(28, .bool true)] [] 6 0 hS .nil fun a hS => seg_end <| hK23 _ _ ?_
  refine cond_t hS rfl ?_
  refine sq fun K24 hK24 => rgn 5 <| sd ww [.p, .p] [] [(30, .bool true)] [] 2 3 hS .nil fun a hS => eff_call ww (r := 2) (f := 12) (vs := []) (cap := #[]) (d := (some 31)) hS (by kernel_rfl) Tryd.call12 #[] (by kernel_rfl) (Head_any (hT.ext0 (hb.trans0 hE21))) ?_
  rintro _ wc25 ⟨rfl, hEc25⟩
  refine ⟨_, rfl, fun a hS => ?_⟩
  have hE28 := hE21.trans0 hEc25
  refine sg ww [.p, .p] [] [(0, .agg S.ca), (1, (Pv w.heap.size)), (2, .bool true), (3, (Pv wtT.heap.size)), (4, .bool false), (5, .bool true), (28, .bool true)] 5 0 hS .nil fun a hS => seg_end <| hK24 _ _ <| wpIn_ret <| then_ret ?_
  refine ret1 hS Tryd.results9 rfl ?_
  exact ⟨rfl, hE28⟩
 ·
  refine ⟨_, rfl, fun a hS => ?_⟩
  have hB29 := hB4.ext hEtT (by simp)
  have hE30 := hE6.trans0 hEtT
  have hok := hZT.zero.2.1 hzT
  have hTT0 := hTT
  have hst := hok.ix.st
  have hI := hok.ix
  have hIF := hTT0.isF
  have hIE := hTT0.isE
  have hIW := hTT0.isW
  have hfn := hIF.len
  have hwn := hIW.len
  have hen := hIE.len
  refine sd ww [.p, .p, .p, .p] [] [(20, .agg #[Sl T.eg S.ns.length S.ns.length, .slice T.fb S.ns.length T.fc, .slice T.wb S.ns.length T.wc, .slice T.yb T.yn T.yc, .bool T.full]), (21, .bool true), (22, .bool true)] [] 6 4 hS .nil fun a hS => eff_box ww (r := 3) (cs := #[.slice none 0 0, .slice none 0 0, .slice none 0 0, .slice none 0 0, .bool false]) (T := 53) (d := (some 3)) hS (by kernel_rfl) fun a w31 hw32 hS => ?_
  have hn33 : w.heap.size ≠ wtT.heap.size := Nat.ne_of_lt hB29.lt
  have hB34 := Blk.at' hw32 (hB29.alloc _)
  have hX35 : Ext [] wtT w31 := by rw [hw32]; exact (Ext.refl _ _).alloc _
  have hG36 : TdOk S w2.heap.size w31 T := hTT.ext0 hX35
  have hB37 : Blk w31 (wtT.heap.size) 53 #[.slice none 0 0, .slice none 0 0, .slice none 0 0, .slice none 0 0, .bool false] := by rw [hw32]; exact Blk.new _ _ _
  have hs38 : w.heap.size ≤ wtT.heap.size := hE30.size
  have hE39 : Ext [] w w31 := by rw [hw32]; exact hE30.alloc _
  refine eff_store ww (r := 2) (b := wtT.heap.size) (off := 0) (vs := [Sl T.eg S.ns.length S.ns.length, .slice T.fb S.ns.length T.fc, .slice T.wb S.ns.length T.wc, .slice T.yb T.yn T.yc, .bool T.full]) hS (by kernel_rfl) hB37 (by simp) fun a w40 hw41 hS => ?_
  have hB42 := Blk.at' hw41 (hB34.updNe (Ne.symm hn33) _ _)
  have hB43 : Blk w40 wtT.heap.size 53 (#[Sl T.eg S.ns.length S.ns.length, .slice T.fb S.ns.length T.fc, .slice T.wb S.ns.length T.wc, .slice T.yb T.yn T.yc, .bool T.full]) := by rw [hw41]; exact hB37.upd _ _
  have hX44 : Ext [wtT.heap.size] w31 w40 := by rw [hw41]; exact (Ext.refl _ _).updIn (.inl (by simp)) _ _
  have hG45 : TdOk S w2.heap.size w40 T := hG36.extT hX44 hB37 (by decide) (by decide) (by decide)
  have hE46 : Ext [] w w40 := by rw [hw41]; exact hE39.updIn (.inr hs38) _ _
  refine sd ww [.p, .p] [] [(4, .bool true), (5, .bool true)] [] 10 0 hS .nil fun a hS => seg_end <| hK7 _ _ <| sq fun K47 hK47 => sq fun K48 hK48 => rgn 6 <| sd ww [.p, .p, .p] [] [(25, .bool false)] [] 3 3 hS .nil fun a hS => eff_call ww (r := 2) (f := 12) (vs := []) (cap := #[]) (d := (some 26)) hS (by kernel_rfl) Tryd.call12 #[] (by kernel_rfl) (Head_any (hT.ext0 (hb.trans0 hE46))) ?_
  rintro _ wc49 ⟨rfl, hEc49⟩
  refine ⟨_, rfl, fun a hS => ?_⟩
  have hB50 := hB42.ext hEc49 (by simp)
  have hB51 := hB43.ext hEc49 (by simp)
  have hG52 : TdOk S w2.heap.size wc49 T := hG45.ext0 hEc49
  have hE53 := hE46.trans0 hEc49
  refine sd ww [.p, .p] [] [(28, .bool false)] [] 6 0 hS .nil fun a hS => seg_end <| hK48 _ _ ?_
  refine cond_f hS rfl ?_
  refine wpIn_skip <| hK47 _ _ <| sq fun K54 hK54 => rgn 5 <| sg ww [.p, .ld (S.lv), .run (I6 ↑S.lx.length), .as (I6 ((S.lx.length + 1 : Nat) : Int)), .p] [wc49.cell? ⟨w.heap.size, 0, none⟩ = some (S.lv), Ru Tryd.prog (vS (Builtin.len_ #[22] 3 #[S.lv])) (I6 ↑S.lx.length) wc49, Value.int .i64 (IntKind.i64.wrap (↑S.lx.length + 1)) = I6 ((S.lx.length + 1 : Nat) : Int)] [(0, .agg S.ca), (1, (Pv w.heap.size)), (2, .bool false), (3, (Pv wtT.heap.size)), (4, .bool true), (5, .bool true), (28, .bool false), (6, I6 ((S.lx.length + 1 : Nat) : Int))] 5 0 hS (.cons (hB50.cell 0 rfl) (.cons (run_len_rd (e := 100) hG.lex (by kernel_rfl)) (.cons ((by rw [show (↑S.lx.length + 1 : Int) = ((S.lx.length + 1 : Nat) : Int) from by omega]; exact as_i64 (by omega))) .nil))) fun a hS => seg_end <| hK54 _ _ <| sq fun K55 hK55 => sq fun K56 hK56 => ?_
  obtain ⟨le, hle, hel⟩ := hIW.at .start
  obtain ⟨ve, hve, hre⟩ := hG52.lw.at' hle
  have hlm := hIW.max1 le (List.mem_of_getElem? hle)
  refine rgn 9 <| sd ww [.p, .ld (.slice T.wb S.ns.length T.wc), .p, .ld (I6 S.st), .run ((Po (bof (.slice T.wb S.ns.length T.wc)) (0 + S.st.toNat * 1))), .ld (ve), .p] [wc49.cell? ⟨wtT.heap.size, 2, none⟩ = some (.slice T.wb S.ns.length T.wc), wc49.cell? ⟨w.heap.size, 2, none⟩ = some (I6 S.st), Ru Tryd.prog (vS (Instr.indexAt 37 (.slice T.wb S.ns.length T.wc) (I6 S.st))) ((Po (bof (.slice T.wb S.ns.length T.wc)) (0 + S.st.toNat * 1))) wc49, wc49.cell? ⟨bof (.slice T.wb S.ns.length T.wc), 0 + S.st.toNat * 1, none⟩ = some (ve)] [(42, ve), (43, I6 ((S.lx.length + 1 : Nat) : Int))] [] 7 2 hS (.cons (hB51.cell 2 rfl) (.cons (hB50.cell 2 rfl) (.cons (ix_own (j := S.st.toNat) (hG52.lw.own) (by kernel_rfl) (by kernel_rfl) (Int.toNat_of_nonneg (by omega)).symm (by omega)) (.cons (OwnV.cellAt hG52.lw.own _ (by rw [Nat.zero_add, Nat.mul_one]; exact hve)) .nil)))) fun a hS => eff_call ww (r := 1) (f := 29) (vs := [ve, I6 ((S.lx.length + 1 : Nat) : Int)]) (cap := #[]) (d := (some 44)) hS (by kernel_rfl) Tryd.call29 #[ve, I6 ((S.lx.length + 1 : Nat) : Int)] (by kernel_rfl) (has_true (q := S.lx.length + 1) hel hre (by omega)) ?_
  rintro _ wc57 ⟨rfl, hEc57⟩
  refine ⟨_, rfl, fun a hS => ?_⟩
  have hB58 := hB50.ext hEc57 (by simp)
  have hB59 := hB51.ext hEc57 (by simp)
  have hG61 : TdOk S w2.heap.size wc57 T := hG52.ext0 hEc57
  have hE62 := hE53.trans0 hEc57
  refine sd ww [.p] [] [(45, .bool false)] [] 9 0 hS .nil fun a hS => seg_end <| hK56 _ _ ?_
  refine cond_f hS rfl ?_
  refine wpIn_skip <| hK55 _ _ <| sq fun K63 hK63 => rgn 5 <| sd ww [.p, .ld (S.nv), .run (I6 ↑S.ns.length)] [wc57.cell? ⟨w.heap.size, 1, none⟩ = some (S.nv), Ru Tryd.prog (vS (Builtin.len_ #[23] 3 #[S.nv])) (I6 ↑S.ns.length) wc57] [(48, I6 ↑S.ns.length)] [] 3 2 hS (.cons (hB58.cell 1 rfl) (.cons (run_len_rd (e := 9) hG.names (by kernel_rfl)) .nil)) fun a hS => ?_
  obtain ⟨wm64, hrm64, hOm64, hEm64, hsm64⟩ := make_full (P := Tryd.prog) (w := wc57) (T := 31) (E := 4) (size := 1) (bytes := 1) (z := #[.bool false]) (Value.bool false) (l := S.ns.length) (by kernel_rfl) (by kernel_rfl) (by rfl) (by omega) (by omega) (by omega)
  refine eff_run ww (r := 1) (s := vS (Instr.makeSlice 31 (I6 ↑S.ns.length) (I6 ↑S.ns.length))) (d := (some 49)) (v := Sl wc57.heap.size S.ns.length S.ns.length) hS (by kernel_rfl) hrm64 fun a hS => ?_
  have hn64_64 : w.heap.size ≠ wc57.heap.size := Nat.ne_of_lt hB58.lt
  have hn64_65 : wtT.heap.size ≠ wc57.heap.size := Nat.ne_of_lt hB59.lt
  have hB67 := hB58.ext hEm64 (by simp)
  have hB68 := hB59.ext hEm64 (by simp)
  have hG69 : TdOk S w2.heap.size wm64 T := hG61.ext0 hEm64
  have hE70 := hE62.trans0 hEm64
  refine sd ww [.p] [] [(7, Sl wc57.heap.size S.ns.length S.ns.length)] [] 5 0 hS .nil fun a hS => seg_end <| hK63 _ _ <| sq fun K71 hK71 => sq fun K72 hK72 => ?_
  have hg0 : OwnR wm64 4 1 (wc57.heap.size) S.ns.length S.ns.length (bls (List.replicate S.ns.length false)) := by rw [← bls_rep]; simpa using hOm64
  have hTl : ∀ x ∈ T.blks, x < wc57.heap.size := TdOk.lie hG61
  refine rgn 1 <| sd ww [.p] [] [(8, I6 0)] [] 1 0 hS .nil fun a hS => seg_end <| hK72 _ _ <| wpIn_block ?_
  have hbl73 : Ext [] w0 wm64 := (hb.trans0 hE70)
  refine loop_ghost (fun ((i, ms) : Nat × (List Bool)) a' w' => St 260 [] [(1, (Pv w.heap.size)), (3, (Pv wtT.heap.size)), (7, Sl wc57.heap.size S.ns.length S.ns.length), (8, I6 ↑i)] a' ∧ Ext [wc57.heap.size] wm64 w' ∧ i ≤ S.ps.length ∧ OwnR w' 4 1 (wc57.heap.size) S.ns.length S.ns.length (bls ms) ∧ ms.length = S.ns.length ∧ (T.full = false → MdI S T.yl i ms)) (fun ((i, ms) : Nat × (List Bool)) => S.ps.length - i) (0, (List.replicate S.ns.length false)) ⟨hS.keepTo [1, 3, 7, 8] (by kernel_rfl), Ext.refl _ _, by omega, hg0, by simp, fun _ => .start _⟩ ?_
  rintro ⟨i, ms⟩ a wl73 ⟨hS, hXl73, hi, hg1, hml, hM⟩
  have hB74 := hB67.ext hXl73 (by simpa using hn64_64)
  have hB75 := hB68.ext hXl73 (by simpa using hn64_65)
  have hG76 : TdOk S w2.heap.size wl73 T := hG69.extG hXl73 hTl (by simp)
  refine sq fun K77 hK77 => sq fun K78 hK78 => rgn 5 <| sd ww [.p, .p, .ld (S.pv), .run (I6 ↑S.ps.length), .p] [wl73.cell? ⟨w.heap.size, 3, none⟩ = some (S.pv), Ru Tryd.prog (vS (Builtin.len_ #[24] 3 #[S.pv])) (I6 ↑S.ps.length) wl73] [(54, .bool (decide ((↑i : Int) < ↑S.ps.length)))] [] 5 0 hS (.cons (hB74.cell 3 rfl) (.cons (run_len_rd (e := 73) hG.prods (by kernel_rfl)) .nil)) fun a hS => seg_end <| hK78 _ _ ?_
  refine cond_b hS rfl (fun hb79 => ?_) (fun hb79 => ?_)
  ·
   replace hb79 := of_decide_eq_true hb79
   obtain ⟨p, hpi⟩ : ∃ p, S.ps[i]? = some p := ⟨_, List.getElem?_eq_getElem (by omega)⟩
   have hpm := List.mem_of_getElem? hpi
   have hrm := hG.rmax p hpm
   have hpl := hI.pl hpm
   have h16 := hok.r16 hpm
   have hgm := g_mem hpm
   obtain ⟨lfA, hfA⟩ : ∃ l, T.fl[p.l.toNat]? = some l := ⟨_, List.getElem?_eq_getElem (by omega)⟩
   obtain ⟨vfA, hvfA, hrfA⟩ := hG76.lf.at' hfA
   obtain ⟨lwA, hwA⟩ : ∃ l, T.wl[p.l.toNat]? = some l := ⟨_, List.getElem?_eq_getElem (by omega)⟩
   obtain ⟨vwA, hvwA, hrwA⟩ := hG76.lw.at' hwA
   have hfm := hIF.max1 lfA (List.mem_of_getElem? hfA)
   have hwm := hIW.max1 lwA (List.mem_of_getElem? hwA)
   refine wpIn_skip <| hK77 _ _ <| sq fun K80 hK80 => wpIn_block <| sq fun K81 hK81 => rgn 7 <| sd ww [.p, .ld (S.pv), .p, .run ((Po (bof S.pv) (oof S.pv + i * 2))), .lds [I6 p.l, p.rv]] [wl73.cell? ⟨w.heap.size, 3, none⟩ = some (S.pv), Ru Tryd.prog (vS (Instr.indexAt 24 (S.pv) (I6 ↑i))) ((Po (bof S.pv) (oof S.pv + i * 2))) wl73, wl73.cell? ⟨bof S.pv, oof S.pv + i * 2, none⟩ = some (I6 p.l), wl73.cell? ⟨bof S.pv, oof S.pv + i * 2 + 1, none⟩ = some (p.rv)] [(61, .agg #[I6 p.l, p.rv])] [] 5 2 hS (.cons (hB74.cell 3 rfl) (.cons (ix_rd (e := 73) (j := i) hG.prods (by kernel_rfl) (by kernel_rfl) rfl (by omega)) (.cons ((hG.prods.ext0 (hbl73.trans hXl73 (fun b hbM => by simp at hbM; rw [hbM]; exact .inr (Nat.le_trans hb.size hE62.size)))).cellAt (i * 2 + 0) (by omega) (pcells_at S.ps i 0 p hpi (by omega))) (.cons ((hG.prods.ext0 (hbl73.trans hXl73 (fun b hbM => by simp at hbM; rw [hbM]; exact .inr (Nat.le_trans hb.size hE62.size)))).cellAt (i * 2 + 1) (by omega) (pcells_at S.ps i 1 p hpi (by omega))) .nil)))) fun a hS => eff_box ww (r := 1) (cs := #[I6 0, .slice none 0 0]) (T := 73) (d := (some 9)) hS (by kernel_rfl) fun a w82 hw83 hS => ?_
   have hn84 : w.heap.size ≠ wl73.heap.size := Nat.ne_of_lt hB74.lt
   have hn85 : wtT.heap.size ≠ wl73.heap.size := Nat.ne_of_lt hB75.lt
   have hn86 : wc57.heap.size ≠ wl73.heap.size := Nat.ne_of_lt hg1.lt
   have hB87 := Blk.at' hw83 (hB74.alloc _)
   have hB88 := Blk.at' hw83 (hB75.alloc _)
   have hB89 := OwnR.at' hw83 (hg1.alloc _)
   have hX90 : Ext [] wl73 w82 := by rw [hw83]; exact (Ext.refl _ _).alloc _
   have hG91 : TdOk S w2.heap.size w82 T := hG76.extG hX90 hTl (by simp)
   have hB92 : Blk w82 (wl73.heap.size) 73 #[I6 0, .slice none 0 0] := by rw [hw83]; exact Blk.new _ _ _
   have hs93 : wm64.heap.size ≤ wl73.heap.size := hXl73.size
   have hE94 : Ext [wc57.heap.size] wm64 w82 := by rw [hw83]; exact hXl73.alloc _
   refine eff_store ww (r := 0) (b := wl73.heap.size) (off := 0) (vs := [I6 p.l, p.rv]) hS (by kernel_rfl) hB92 (by simp) fun a w95 hw96 hS => ?_
   have hB97 := Blk.at' hw96 (hB87.updNe (Ne.symm hn84) _ _)
   have hB98 := Blk.at' hw96 (hB88.updNe (Ne.symm hn85) _ _)
   have hB99 := OwnR.at' hw96 (hB89.updNe (Ne.symm hn86) _ _)
   have hB100 : Blk w95 wl73.heap.size 73 (#[I6 p.l, p.rv]) := by rw [hw96]; exact hB92.upd _ _
   have hX101 : Ext [wl73.heap.size] w82 w95 := by rw [hw96]; exact (Ext.refl _ _).updIn (.inl (by simp)) _ _
   have hG102 : TdOk S w2.heap.size w95 T := hG91.extT hX101 hB92 (by decide) (by decide) (by decide)
   have hE103 : Ext [wc57.heap.size] wm64 w95 := by rw [hw96]; exact hE94.updIn (.inr hs93) _ _
   refine seg_end <| hK81 _ _ <| sq fun K104 hK104 => sq fun K105 hK105 => ?_
   refine region_gh2 (G := (Option Addr) × Nat × Nat × World × World) ww [.q (.lds [Sl T.eg S.ns.length S.ns.length, .slice T.fb S.ns.length T.fc, .slice T.wb S.ns.length T.wc, .slice T.yb T.yn T.yc, .bool T.full]), .q (.lds [S.lv, S.nv, I6 S.st, S.pv]), .q .p, .q (.ld (p.rv)), .e, .q .p, .q (.ld (.slice T.fb S.ns.length T.fc)), .q .p, .q (.ld (I6 p.l)), .q (.run ((Po (bof (.slice T.fb S.ns.length T.fc)) (0 + p.l.toNat * 1)))), .q (.ld (vfA)), .e, .q .p] [0, 0, 0, 0, 0, 0, 0, 0, 0, 0, 0, 1, 2] [0, 0, 0, 0, 0, 1, 1, 1, 1, 1, 1, 1, 2] [0, 0, 0, 4, 15, 0, 32, 0, 128, 480, 992, 2047, 4095] [4, 11] [(4, 0), (11, 1)] 2 (fun ⟨b5106, n5106, c5106, wc106, wc107⟩ => ([(1, (Pv w.heap.size)), (3, (Pv wtT.heap.size)), (7, Sl wc57.heap.size S.ns.length S.ns.length), (8, I6 ↑i), (54, .bool (decide ((↑i : Int) < ↑S.ps.length))), (9, (Pv wl73.heap.size)), (62, .agg #[Sl T.eg S.ns.length S.ns.length, .slice T.fb S.ns.length T.fc, .slice T.wb S.ns.length T.wc, .slice T.yb T.yn T.yc, .bool T.full]), (63, .agg S.ca), (64, (Po wl73.heap.size 1)), (65, p.rv), (66, .slice b5106 n5106 c5106), (67, (Po wtT.heap.size 1)), (68, .slice T.fb S.ns.length T.fc), (69, (Pv wl73.heap.size)), (70, I6 p.l), (71, (Po (bof (.slice T.fb S.ns.length T.fc)) (0 + p.l.toNat * 1))), (72, vfA), (73, .bool true), (74, .bool false)] : Fm)) (fun ⟨b5106, n5106, c5106, wc106, wc107⟩ => [w95.drew, wc106, wc107]) (w95.drew) (fun e ⟨b5106, n5106, c5106, wc106, wc107⟩ => hAt [True, (OwnV wc106 3 1 (.slice b5106 n5106 c5106) n5106 (ivs (hdL S.nl T.fl T.es [] (row p.r)))) ∧ (∀ x ∈ ob (.slice b5106 n5106 c5106), (w95.drew).heap.size ≤ x) ∧ (n5106 ≤ 4224) ∧ (Ext [] w95.drew wc106) ∧ True, (OwnV wc106 3 1 (.slice b5106 n5106 c5106) n5106 (ivs (hdL S.nl T.fl T.es [] (row p.r)))) ∧ (∀ x ∈ ob (.slice b5106 n5106 c5106), (w95.drew).heap.size ≤ x) ∧ (n5106 ≤ 4224) ∧ (Ext [] w95.drew wc106) ∧ (Ext [] wc106 wc107) ∧ True] e) (fun ⟨b5106, n5106, c5106, wc106, wc107⟩ w' => [(0, [w'.cell? ⟨wtT.heap.size, 0, none⟩ = some (Sl T.eg S.ns.length S.ns.length), w'.cell? ⟨wtT.heap.size, 1, none⟩ = some (.slice T.fb S.ns.length T.fc), w'.cell? ⟨wtT.heap.size, 2, none⟩ = some (.slice T.wb S.ns.length T.wc), w'.cell? ⟨wtT.heap.size, 3, none⟩ = some (.slice T.yb T.yn T.yc), w'.cell? ⟨wtT.heap.size, 4, none⟩ = some (.bool T.full)]), (1, [w'.cell? ⟨w.heap.size, 0, none⟩ = some (S.lv), w'.cell? ⟨w.heap.size, 1, none⟩ = some (S.nv), w'.cell? ⟨w.heap.size, 2, none⟩ = some (I6 S.st), w'.cell? ⟨w.heap.size, 3, none⟩ = some (S.pv)]), (3, [w'.cell? ⟨wl73.heap.size, 1, none⟩ = some (p.rv)]), (6, [w'.cell? ⟨wtT.heap.size, 1, none⟩ = some (.slice T.fb S.ns.length T.fc)]), (8, [w'.cell? ⟨wl73.heap.size, 0, none⟩ = some (I6 p.l)]), (9, [Ru Tryd.prog (vS (Instr.indexAt 37 (.slice T.fb S.ns.length T.fc) (I6 p.l))) ((Po (bof (.slice T.fb S.ns.length T.fc)) (0 + p.l.toNat * 1))) w']), (10, [w'.cell? ⟨bof (.slice T.fb S.ns.length T.fc), 0 + p.l.toNat * 1, none⟩ = some (vfA)])]) (none, 0, 0, w95.drew, w) [1, 3, 7, 8, 54, 9] [] hS (by kernel_rfl) (by kernel_rfl) (by kernel_rfl) (by kernel_rfl) (fun ⟨b5106, n5106, c5106, wc106, wc107⟩ _ => by kernel_rfl) (by kernel_rfl) (by kernel_rfl) (by kernel_rfl) trivial ?_ (by kernel_rfl) ?_ ?_
   ·rintro e ⟨b5106, n5106, c5106, wc106, wc107⟩ w' hw hH
    refine (.cons ?_ (.cons ?_ (.cons ?_ (.cons ?_ (.cons ?_ (.cons ?_ (.cons ?_ .nil)))))))
    ·intro h1 h2
     obtain rfl : e = 0 := Nat.le_antisymm h2 h1
     have hwe : w95.drew = w' := (hw.trans (by kernel_rfl)).symm
     subst hwe
     clear hH
     exact (.cons ((hB98.drew : Blk w95.drew wtT.heap.size 53 (#[Sl T.eg S.ns.length S.ns.length, .slice T.fb S.ns.length T.fc, .slice T.wb S.ns.length T.wc, .slice T.yb T.yn T.yc, .bool T.full])).cell 0 rfl) (.cons ((hB98.drew : Blk w95.drew wtT.heap.size 53 (#[Sl T.eg S.ns.length S.ns.length, .slice T.fb S.ns.length T.fc, .slice T.wb S.ns.length T.wc, .slice T.yb T.yn T.yc, .bool T.full])).cell 1 rfl) (.cons ((hB98.drew : Blk w95.drew wtT.heap.size 53 (#[Sl T.eg S.ns.length S.ns.length, .slice T.fb S.ns.length T.fc, .slice T.wb S.ns.length T.wc, .slice T.yb T.yn T.yc, .bool T.full])).cell 2 rfl) (.cons ((hB98.drew : Blk w95.drew wtT.heap.size 53 (#[Sl T.eg S.ns.length S.ns.length, .slice T.fb S.ns.length T.fc, .slice T.wb S.ns.length T.wc, .slice T.yb T.yn T.yc, .bool T.full])).cell 3 rfl) (.cons ((hB98.drew : Blk w95.drew wtT.heap.size 53 (#[Sl T.eg S.ns.length S.ns.length, .slice T.fb S.ns.length T.fc, .slice T.wb S.ns.length T.wc, .slice T.yb T.yn T.yc, .bool T.full])).cell 4 rfl) .nil)))))
    ·intro h1 h2
     obtain rfl : e = 0 := Nat.le_antisymm h2 h1
     have hwe : w95.drew = w' := (hw.trans (by kernel_rfl)).symm
     subst hwe
     clear hH
     exact (.cons ((hB97.drew : Blk w95.drew w.heap.size 26 (S.ca)).cell 0 rfl) (.cons ((hB97.drew : Blk w95.drew w.heap.size 26 (S.ca)).cell 1 rfl) (.cons ((hB97.drew : Blk w95.drew w.heap.size 26 (S.ca)).cell 2 rfl) (.cons ((hB97.drew : Blk w95.drew w.heap.size 26 (S.ca)).cell 3 rfl) .nil))))
    ·intro h1 h2
     obtain rfl : e = 0 := Nat.le_antisymm h2 h1
     have hwe : w95.drew = w' := (hw.trans (by kernel_rfl)).symm
     subst hwe
     clear hH
     exact (.cons ((hB100.drew : Blk w95.drew wl73.heap.size 73 (#[I6 p.l, p.rv])).cell 1 rfl) .nil)
    ·intro h1 h2
     replace h1 : 0 ≤ e := h1
     replace h2 : e ≤ 1 := h2
     have he : e = 0 ∨ e = 1 := by omega
     rcases he with rfl | rfl
     ·have hwe : w95.drew = w' := (hw.trans (by kernel_rfl)).symm
      subst hwe
      clear hH
      exact (.cons ((hB98.drew : Blk w95.drew wtT.heap.size 53 (#[Sl T.eg S.ns.length S.ns.length, .slice T.fb S.ns.length T.fc, .slice T.wb S.ns.length T.wc, .slice T.yb T.yn T.yc, .bool T.full])).cell 1 rfl) .nil)
     ·have hwe : wc106 = w' := (hw.trans (by kernel_rfl)).symm
      subst hwe
      obtain ⟨hO5106, hN5106, hK5106, hEc106, _⟩ := hH
      exact (.cons (((hB98.drew : Blk w95.drew wtT.heap.size 53 (#[Sl T.eg S.ns.length S.ns.length, .slice T.fb S.ns.length T.fc, .slice T.wb S.ns.length T.wc, .slice T.yb T.yn T.yc, .bool T.full])).ext hEc106 (by simp) : Blk wc106 wtT.heap.size 53 (#[Sl T.eg S.ns.length S.ns.length, .slice T.fb S.ns.length T.fc, .slice T.wb S.ns.length T.wc, .slice T.yb T.yn T.yc, .bool T.full])).cell 1 rfl) .nil)
    ·intro h1 h2
     replace h1 : 0 ≤ e := h1
     replace h2 : e ≤ 1 := h2
     have he : e = 0 ∨ e = 1 := by omega
     rcases he with rfl | rfl
     ·have hwe : w95.drew = w' := (hw.trans (by kernel_rfl)).symm
      subst hwe
      clear hH
      exact (.cons ((hB100.drew : Blk w95.drew wl73.heap.size 73 (#[I6 p.l, p.rv])).cell 0 rfl) .nil)
     ·have hwe : wc106 = w' := (hw.trans (by kernel_rfl)).symm
      subst hwe
      obtain ⟨hO5106, hN5106, hK5106, hEc106, _⟩ := hH
      exact (.cons (((hB100.drew : Blk w95.drew wl73.heap.size 73 (#[I6 p.l, p.rv])).ext hEc106 (by simp) : Blk wc106 wl73.heap.size 73 (#[I6 p.l, p.rv])).cell 0 rfl) .nil)
    ·intro h1 h2
     replace h1 : 0 ≤ e := h1
     replace h2 : e ≤ 1 := h2
     have he : e = 0 ∨ e = 1 := by omega
     rcases he with rfl | rfl
     ·have hwe : w95.drew = w' := (hw.trans (by kernel_rfl)).symm
      subst hwe
      clear hH
      exact (.cons (ix_own (j := p.l.toNat) (hG102.lf.own) (by kernel_rfl) (by kernel_rfl) (Int.toNat_of_nonneg (by omega)).symm (by omega)) .nil)
     ·have hwe : wc106 = w' := (hw.trans (by kernel_rfl)).symm
      subst hwe
      obtain ⟨hO5106, hN5106, hK5106, hEc106, _⟩ := hH
      exact (.cons (ix_own (j := p.l.toNat) (hG102.lf.own) (by kernel_rfl) (by kernel_rfl) (Int.toNat_of_nonneg (by omega)).symm (by omega)) .nil)
    ·intro h1 h2
     replace h1 : 0 ≤ e := h1
     replace h2 : e ≤ 1 := h2
     have he : e = 0 ∨ e = 1 := by omega
     rcases he with rfl | rfl
     ·have hwe : w95.drew = w' := (hw.trans (by kernel_rfl)).symm
      subst hwe
      clear hH
      exact (.cons (OwnV.cellAt (hG102.lf.own.drew : OwnV w95.drew 51 1 (.slice T.fb S.ns.length T.fc) S.ns.length (T.fL.map Rw.v)) _ (by rw [Nat.zero_add, Nat.mul_one]; exact hvfA)) .nil)
     ·have hwe : wc106 = w' := (hw.trans (by kernel_rfl)).symm
      subst hwe
      obtain ⟨hO5106, hN5106, hK5106, hEc106, _⟩ := hH
      exact (.cons (OwnV.cellAt ((hG102.lf.own.drew : OwnV w95.drew 51 1 (.slice T.fb S.ns.length T.fc) S.ns.length (T.fL.map Rw.v)).ext hEc106 (by simp) : OwnV wc106 51 1 (.slice T.fb S.ns.length T.fc) S.ns.length (T.fL.map Rw.v)) _ (by rw [Nat.zero_add, Nat.mul_one]; exact hvfA)) .nil)
   ·refine (.cons ?eq108_4 (.cons ?eq108_11 .nil))
    ·rintro ⟨b5106, n5106, c5106, wc106, wc107⟩ hH
     clear hH
     refine eff_gh (w95.drew) (by kernel_rfl) ?_
     refine upon_call (f := 38) (vs := [.agg #[Sl T.eg S.ns.length S.ns.length, .slice T.fb S.ns.length T.fc, .slice T.wb S.ns.length T.wc, .slice T.yb T.yn T.yc, .bool T.full], .agg S.ca, p.rv, .slice none 0 0]) (cap := #[]) (d := (some 66)) (by kernel_rfl) Tryd.call38 #[.agg #[Sl T.eg S.ns.length S.ns.length, .slice T.fb S.ns.length T.fc, .slice T.wb S.ns.length T.wc, .slice T.yb T.yn T.yc, .bool T.full], .agg S.ca, p.rv, .slice none 0 0] (by kernel_rfl) (hdl_any2 hG ((hbl73.trans hE103 (fun b hbM => by simp at hbM; rw [hbM]; exact .inr (Nat.le_trans hb.size hE62.size))).trans0 ((Ext.refl [] _).drew)) (hG102.ext0 ((Ext.refl [] _).drew)) (hG.right p hpm) h16 (hI.right p hpm) (nx := []) (.inl ⟨_, _, rfl, rfl, rfl⟩) (K := 0) (Nat.le_refl _) (by omega)) ?_
     rintro _ wc106 ⟨b5106, n5106, c5106, rfl, hO5106, hN5106, hK5106, hEc106⟩
     exact ⟨_, rfl, ⟨(b5106, n5106, c5106, wc106, wc107), by kernel_rfl, by kernel_rfl, by kernel_rfl, ⟨hO5106, hN5106, hK5106, hEc106, trivial⟩⟩⟩
    ·rintro ⟨b5106, n5106, c5106, wc106, wc107⟩ hH
     obtain ⟨hO5106, hN5106, hK5106, hEc106, _⟩ := hH
     refine eff_gh (wc106) (by kernel_rfl) ?_
     refine upon_call (f := 37) (vs := [.slice b5106 n5106 c5106, vfA]) (cap := #[]) (d := (some 73)) (by kernel_rfl) Tryd.call37 #[.slice b5106 n5106 c5106, vfA] (by kernel_rfl) (within_true (hO5106 : OwnV wc106 3 1 (.slice b5106 n5106 c5106) n5106 (ivs (hdL S.nl T.fl T.es [] (row p.r)))).rd ((hG102.ext0 ((((Ext.refl [] _).drew)).trans0 hEc106)).lf.rd hfA hvfA) (by omega) (by omega) (in_first hIF hIE hgm hfA)) ?_
     rintro _ wc107 ⟨rfl, hEc107⟩
     exact ⟨_, rfl, ⟨(b5106, n5106, c5106, wc106, wc107), by kernel_rfl, by kernel_rfl, by kernel_rfl, ⟨hO5106, hN5106, hK5106, hEc106, hEc107, trivial⟩⟩⟩
   rintro ⟨b5106, n5106, c5106, wc106, wc107⟩ a w109 hS hw110 hH
   obtain ⟨hO5106, hN5106, hK5106, hEc106, hEc107, _⟩ := hH
   replace hw110 : w109 = wc107 := hw110.trans (by kernel_rfl)
   have hB111 := Blk.at' hw110 (((hB97.drew : Blk w95.drew w.heap.size 26 (S.ca)).ext hEc106 (by simp) : Blk wc106 w.heap.size 26 (S.ca)).ext hEc107 (by simp))
   have hB112 := Blk.at' hw110 (((hB98.drew : Blk w95.drew wtT.heap.size 53 (#[Sl T.eg S.ns.length S.ns.length, .slice T.fb S.ns.length T.fc, .slice T.wb S.ns.length T.wc, .slice T.yb T.yn T.yc, .bool T.full])).ext hEc106 (by simp) : Blk wc106 wtT.heap.size 53 (#[Sl T.eg S.ns.length S.ns.length, .slice T.fb S.ns.length T.fc, .slice T.wb S.ns.length T.wc, .slice T.yb T.yn T.yc, .bool T.full])).ext hEc107 (by simp))
   have hB113 := OwnR.at' hw110 (((hB99.drew : OwnR w95.drew 4 1 wc57.heap.size S.ns.length S.ns.length (bls ms)).ext hEc106 (by simp) : OwnR wc106 4 1 wc57.heap.size S.ns.length S.ns.length (bls ms)).ext hEc107 (by simp))
   have hB114 := Blk.at' hw110 (((hB100.drew : Blk w95.drew wl73.heap.size 73 (#[I6 p.l, p.rv])).ext hEc106 (by simp) : Blk wc106 wl73.heap.size 73 (#[I6 p.l, p.rv])).ext hEc107 (by simp))
   have hE117 : Ext [wc57.heap.size] wm64 w109 := by rw [hw110]; exact ((hE103.drew).trans0 hEc106).trans0 hEc107
   have hX118 : Ext [] w95 w109 := by rw [hw110]; exact (((Ext.refl _ _).drew).trans0 hEc106).trans0 hEc107
   have hG119 : TdOk S w2.heap.size w109 T := hG102.extG hX118 hTl (by simp)
   replace hS := hS.kp [(1, (Pv w.heap.size)), (3, (Pv wtT.heap.size)), (7, Sl wc57.heap.size S.ns.length S.ns.length), (8, I6 ↑i), (54, .bool (decide ((↑i : Int) < ↑S.ps.length))), (9, (Pv wl73.heap.size)), (74, .bool false)]
   refine hK105 _ _ ?_
   refine cond_f hS rfl ?_
   refine wpIn_skip <| hK104 _ _ <| sq fun K120 hK120 => sq fun K121 hK121 => rgn 1 <| sd ww [.p] [] [(10, I6 0)] [] 1 0 hS .nil fun a hS => seg_end <| hK121 _ _ <| wpIn_block ?_
   have hbl122 : Ext [] w0 w109 := (hbl73.trans hE117 (fun b hbM => by simp at hbM; rw [hbM]; exact .inr (Nat.le_trans hb.size hE62.size)))
   refine loop_ghost (fun (k : Nat) a' w' => St 260 [] [(1, (Pv w.heap.size)), (3, (Pv wtT.heap.size)), (7, Sl wc57.heap.size S.ns.length S.ns.length), (8, I6 ↑i), (9, (Pv wl73.heap.size)), (10, I6 ↑k)] a' ∧ Ext [] w109 w' ∧ k ≤ p.r.length) (fun (k : Nat) => p.r.length - k) 0 ⟨hS.keepTo [1, 3, 7, 8, 9, 10] (by kernel_rfl), Ext.refl _ _, by omega⟩ ?_
   rintro k a wl122 ⟨hS, hXl122, hk⟩
   have hB123 := hB111.ext hXl122 (by simp)
   have hB124 := hB112.ext hXl122 (by simp)
   have hB125 := hB113.ext hXl122 (by simp)
   have hB126 := hB114.ext hXl122 (by simp)
   have hG127 : TdOk S w2.heap.size wl122 T := hG119.extG hXl122 hTl (by simp)
   refine sq fun K128 hK128 => sq fun K129 hK129 => rgn 5 <| sd ww [.p, .p, .ld (p.rv), .run (I6 ↑p.r.length), .p] [wl122.cell? ⟨wl73.heap.size, 1, none⟩ = some (p.rv), Ru Tryd.prog (vS (Builtin.len_ #[71] 3 #[p.rv])) (I6 ↑p.r.length) wl122] [(79, .bool (decide ((↑k : Int) < ↑p.r.length)))] [] 5 0 hS (.cons (hB126.cell 1 rfl) (.cons (run_len_rd (e := 61) (hG.right p hpm) (by kernel_rfl)) .nil)) fun a hS => seg_end <| hK129 _ _ ?_
   refine cond_b hS rfl (fun hb130 => ?_) (fun hb130 => ?_)
   ·
    replace hb130 := of_decide_eq_true hb130
    obtain ⟨x, hxk⟩ : ∃ x, p.r[k]? = some x := ⟨_, List.getElem?_eq_getElem (by omega)⟩
    have hxm := List.mem_of_getElem? hxk
    have hrc := rcut (hG.right p hpm) (l := k + 1) (by omega)
    have hr16 : (p.r.drop (k + 1)).length ≤ 16 := by rw [List.length_drop]; omega
    have hrk : ∀ y ∈ p.r.drop (k + 1), syOk S y := fun y hy => hI.right p hpm y (List.mem_of_mem_drop hy)
    refine wpIn_skip <| hK128 _ _ <| sq fun K131 hK131 => wpIn_block <| sq fun K132 hK132 => rgn 6 <| sd ww [.p, .ld (p.rv), .p, .as (I6 ((k + 1 : Nat) : Int)), .run (rsz 2 p.rv (k + 1) p.r.length (capOf p.rv)), .p] [wl122.cell? ⟨wl73.heap.size, 1, none⟩ = some (p.rv), Value.int .i64 (IntKind.i64.wrap (↑k + 1)) = I6 ((k + 1 : Nat) : Int), Ru Tryd.prog (vS (Instr.sliceAt 71 p.rv (some (I6 ((k + 1 : Nat) : Int))) none none)) (rsz 2 p.rv (k + 1) p.r.length (capOf p.rv)) wl122] [(11, (rsz 2 p.rv (k + 1) p.r.length (capOf p.rv)))] [] 6 0 hS (.cons (hB126.cell 1 rfl) (.cons ((by rw [show (↑k + 1 : Int) = ((k + 1 : Nat) : Int) from by omega]; exact as_i64 (by omega))) (.cons (sl_z (e := 61) (l := k + 1) (k := p.r.length) (some (I6 ((k + 1 : Nat) : Int))) none (hG.right p hpm) (by kernel_rfl) (by kernel_rfl) (.inr ⟨_, rfl⟩) (.inl ⟨rfl, rfl⟩) (by omega) (by omega)) .nil))) fun a hS => seg_end <| hK132 _ _ <| sq fun K133 hK133 => ?_
    refine region_gh2 (G := (Option Addr) × Nat × Nat × World) ww [.q (.lds [Sl T.eg S.ns.length S.ns.length, .slice T.fb S.ns.length T.fc, .slice T.wb S.ns.length T.wc, .slice T.yb T.yn T.yc, .bool T.full]), .q (.lds [S.lv, S.nv, I6 S.st, S.pv]), .q .p, .q .p, .q (.ld (.slice T.wb S.ns.length T.wc)), .q .p, .q (.ld (I6 p.l)), .q (.run ((Po (bof (.slice T.wb S.ns.length T.wc)) (0 + p.l.toNat * 1)))), .q (.ld (vwA)), .e, .q .p] [0, 0, 0, 0, 0, 0, 0, 0, 0, 0, 1] [0, 0, 0, 0, 0, 0, 0, 0, 0, 0, 1] [0, 0, 0, 0, 8, 0, 32, 120, 248, 511, 1023] [9] [(9, 0)] 1 (fun ⟨b5134, n5134, c5134, wc134⟩ => ([(1, (Pv w.heap.size)), (3, (Pv wtT.heap.size)), (7, Sl wc57.heap.size S.ns.length S.ns.length), (8, I6 ↑i), (9, (Pv wl73.heap.size)), (10, I6 ↑k), (79, .bool (decide ((↑k : Int) < ↑p.r.length))), (11, (rsz 2 p.rv (k + 1) p.r.length (capOf p.rv))), (87, .agg #[Sl T.eg S.ns.length S.ns.length, .slice T.fb S.ns.length T.fc, .slice T.wb S.ns.length T.wc, .slice T.yb T.yn T.yc, .bool T.full]), (88, .agg S.ca), (89, (rsz 2 p.rv (k + 1) p.r.length (capOf p.rv))), (90, (Po wtT.heap.size 2)), (91, .slice T.wb S.ns.length T.wc), (92, (Pv wl73.heap.size)), (93, I6 p.l), (94, (Po (bof (.slice T.wb S.ns.length T.wc)) (0 + p.l.toNat * 1))), (95, vwA), (96, .slice b5134 n5134 c5134), (12, .slice b5134 n5134 c5134)] : Fm)) (fun ⟨b5134, n5134, c5134, wc134⟩ => [wl122.drew, wc134]) (wl122.drew) (fun e ⟨b5134, n5134, c5134, wc134⟩ => hAt [True, (OwnV wc134 3 1 (.slice b5134 n5134 c5134) n5134 (ivs (hdL S.nl T.fl T.es lwA (row (p.r.drop (k + 1)))))) ∧ (∀ x ∈ ob (.slice b5134 n5134 c5134), (wl122.drew).heap.size ≤ x) ∧ (n5134 ≤ 4224) ∧ (Ext [] wl122.drew wc134) ∧ True] e) (fun ⟨b5134, n5134, c5134, wc134⟩ w' => [(0, [w'.cell? ⟨wtT.heap.size, 0, none⟩ = some (Sl T.eg S.ns.length S.ns.length), w'.cell? ⟨wtT.heap.size, 1, none⟩ = some (.slice T.fb S.ns.length T.fc), w'.cell? ⟨wtT.heap.size, 2, none⟩ = some (.slice T.wb S.ns.length T.wc), w'.cell? ⟨wtT.heap.size, 3, none⟩ = some (.slice T.yb T.yn T.yc), w'.cell? ⟨wtT.heap.size, 4, none⟩ = some (.bool T.full)]), (1, [w'.cell? ⟨w.heap.size, 0, none⟩ = some (S.lv), w'.cell? ⟨w.heap.size, 1, none⟩ = some (S.nv), w'.cell? ⟨w.heap.size, 2, none⟩ = some (I6 S.st), w'.cell? ⟨w.heap.size, 3, none⟩ = some (S.pv)]), (4, [w'.cell? ⟨wtT.heap.size, 2, none⟩ = some (.slice T.wb S.ns.length T.wc)]), (6, [w'.cell? ⟨wl73.heap.size, 0, none⟩ = some (I6 p.l)]), (7, [Ru Tryd.prog (vS (Instr.indexAt 37 (.slice T.wb S.ns.length T.wc) (I6 p.l))) ((Po (bof (.slice T.wb S.ns.length T.wc)) (0 + p.l.toNat * 1))) w']), (8, [w'.cell? ⟨bof (.slice T.wb S.ns.length T.wc), 0 + p.l.toNat * 1, none⟩ = some (vwA)])]) (none, 0, 0, wl122.drew) [1, 3, 7, 8, 9, 10, 79, 11] [] hS (by kernel_rfl) (by kernel_rfl) (by kernel_rfl) (by kernel_rfl) (fun ⟨b5134, n5134, c5134, wc134⟩ _ => by kernel_rfl) (by kernel_rfl) (by kernel_rfl) (by kernel_rfl) trivial ?_ (by kernel_rfl) ?_ ?_
    ·rintro e ⟨b5134, n5134, c5134, wc134⟩ w' hw hH
     refine (.cons ?_ (.cons ?_ (.cons ?_ (.cons ?_ (.cons ?_ (.cons ?_ .nil))))))
     ·intro h1 h2
      obtain rfl : e = 0 := Nat.le_antisymm h2 h1
      have hwe : wl122.drew = w' := (hw.trans (by kernel_rfl)).symm
      subst hwe
      clear hH
      exact (.cons ((hB124.drew : Blk wl122.drew wtT.heap.size 53 (#[Sl T.eg S.ns.length S.ns.length, .slice T.fb S.ns.length T.fc, .slice T.wb S.ns.length T.wc, .slice T.yb T.yn T.yc, .bool T.full])).cell 0 rfl) (.cons ((hB124.drew : Blk wl122.drew wtT.heap.size 53 (#[Sl T.eg S.ns.length S.ns.length, .slice T.fb S.ns.length T.fc, .slice T.wb S.ns.length T.wc, .slice T.yb T.yn T.yc, .bool T.full])).cell 1 rfl) (.cons ((hB124.drew : Blk wl122.drew wtT.heap.size 53 (#[Sl T.eg S.ns.length S.ns.length, .slice T.fb S.ns.length T.fc, .slice T.wb S.ns.length T.wc, .slice T.yb T.yn T.yc, .bool T.full])).cell 2 rfl) (.cons ((hB124.drew : Blk wl122.drew wtT.heap.size 53 (#[Sl T.eg S.ns.length S.ns.length, .slice T.fb S.ns.length T.fc, .slice T.wb S.ns.length T.wc, .slice T.yb T.yn T.yc, .bool T.full])).cell 3 rfl) (.cons ((hB124.drew : Blk wl122.drew wtT.heap.size 53 (#[Sl T.eg S.ns.length S.ns.length, .slice T.fb S.ns.length T.fc, .slice T.wb S.ns.length T.wc, .slice T.yb T.yn T.yc, .bool T.full])).cell 4 rfl) .nil)))))
     ·intro h1 h2
      obtain rfl : e = 0 := Nat.le_antisymm h2 h1
      have hwe : wl122.drew = w' := (hw.trans (by kernel_rfl)).symm
      subst hwe
      clear hH
      exact (.cons ((hB123.drew : Blk wl122.drew w.heap.size 26 (S.ca)).cell 0 rfl) (.cons ((hB123.drew : Blk wl122.drew w.heap.size 26 (S.ca)).cell 1 rfl) (.cons ((hB123.drew : Blk wl122.drew w.heap.size 26 (S.ca)).cell 2 rfl) (.cons ((hB123.drew : Blk wl122.drew w.heap.size 26 (S.ca)).cell 3 rfl) .nil))))
     ·intro h1 h2
      obtain rfl : e = 0 := Nat.le_antisymm h2 h1
      have hwe : wl122.drew = w' := (hw.trans (by kernel_rfl)).symm
      subst hwe
      clear hH
      exact (.cons ((hB124.drew : Blk wl122.drew wtT.heap.size 53 (#[Sl T.eg S.ns.length S.ns.length, .slice T.fb S.ns.length T.fc, .slice T.wb S.ns.length T.wc, .slice T.yb T.yn T.yc, .bool T.full])).cell 2 rfl) .nil)
     ·intro h1 h2
      obtain rfl : e = 0 := Nat.le_antisymm h2 h1
      have hwe : wl122.drew = w' := (hw.trans (by kernel_rfl)).symm
      subst hwe
      clear hH
      exact (.cons ((hB126.drew : Blk wl122.drew wl73.heap.size 73 (#[I6 p.l, p.rv])).cell 0 rfl) .nil)
     ·intro h1 h2
      obtain rfl : e = 0 := Nat.le_antisymm h2 h1
      have hwe : wl122.drew = w' := (hw.trans (by kernel_rfl)).symm
      subst hwe
      clear hH
      exact (.cons (ix_own (j := p.l.toNat) (hG127.lw.own) (by kernel_rfl) (by kernel_rfl) (Int.toNat_of_nonneg (by omega)).symm (by omega)) .nil)
     ·intro h1 h2
      obtain rfl : e = 0 := Nat.le_antisymm h2 h1
      have hwe : wl122.drew = w' := (hw.trans (by kernel_rfl)).symm
      subst hwe
      clear hH
      exact (.cons (OwnV.cellAt (hG127.lw.own.drew : OwnV wl122.drew 51 1 (.slice T.wb S.ns.length T.wc) S.ns.length (T.wL.map Rw.v)) _ (by rw [Nat.zero_add, Nat.mul_one]; exact hvwA)) .nil)
    ·refine (.cons ?eq135_9 .nil)
     ·rintro ⟨b5134, n5134, c5134, wc134⟩ hH
      clear hH
      refine eff_gh (wl122.drew) (by kernel_rfl) ?_
      refine upon_call (f := 38) (vs := [.agg #[Sl T.eg S.ns.length S.ns.length, .slice T.fb S.ns.length T.fc, .slice T.wb S.ns.length T.wc, .slice T.yb T.yn T.yc, .bool T.full], .agg S.ca, (rsz 2 p.rv (k + 1) p.r.length (capOf p.rv)), vwA]) (cap := #[]) (d := (some 96)) (by kernel_rfl) Tryd.call38 #[.agg #[Sl T.eg S.ns.length S.ns.length, .slice T.fb S.ns.length T.fc, .slice T.wb S.ns.length T.wc, .slice T.yb T.yn T.yc, .bool T.full], .agg S.ca, (rsz 2 p.rv (k + 1) p.r.length (capOf p.rv)), vwA] (by kernel_rfl) (hdl_any2 hG ((hbl122.trans0 hXl122).trans0 ((Ext.refl [] _).drew)) (hG127.ext0 ((Ext.refl [] _).drew)) hrc hr16 hrk ((hG127.ext0 ((Ext.refl [] _).drew)).lw.rd hwA hvwA) hwm (by omega)) ?_
      rintro _ wc134 ⟨b5134, n5134, c5134, rfl, hO5134, hN5134, hK5134, hEc134⟩
      exact ⟨_, rfl, ⟨(b5134, n5134, c5134, wc134), by kernel_rfl, by kernel_rfl, by kernel_rfl, ⟨hO5134, hN5134, hK5134, hEc134, trivial⟩⟩⟩
    rintro ⟨b5134, n5134, c5134, wc134⟩ a w136 hS hw137 hH
    obtain ⟨hO5134, hN5134, hK5134, hEc134, _⟩ := hH
    replace hw137 : w136 = wc134 := hw137.trans (by kernel_rfl)
    have hB138 := Blk.at' hw137 ((hB123.drew : Blk wl122.drew w.heap.size 26 (S.ca)).ext hEc134 (by simp))
    have hB139 := Blk.at' hw137 ((hB124.drew : Blk wl122.drew wtT.heap.size 53 (#[Sl T.eg S.ns.length S.ns.length, .slice T.fb S.ns.length T.fc, .slice T.wb S.ns.length T.wc, .slice T.yb T.yn T.yc, .bool T.full])).ext hEc134 (by simp))
    have hB141 := Blk.at' hw137 ((hB126.drew : Blk wl122.drew wl73.heap.size 73 (#[I6 p.l, p.rv])).ext hEc134 (by simp))
    have hB142 := OwnV.at' hw137 ((hG127.lw.own.drew : OwnV wl122.drew 51 1 (.slice T.wb S.ns.length T.wc) S.ns.length (T.wL.map Rw.v)).ext hEc134 (by simp))
    have hB143 : OwnV w136 3 1 (.slice b5134 n5134 c5134) n5134 (ivs (hdL S.nl T.fl T.es lwA (row (p.r.drop (k + 1))))) := by rw [hw137]; exact hO5134
    have hE144 : Ext [] w109 w136 := by rw [hw137]; exact (hXl122.drew).trans0 hEc134
    have hX145 : Ext [] wl122 w136 := by rw [hw137]; exact ((Ext.refl _ _).drew).trans0 hEc134
    have hG146 : TdOk S w2.heap.size w136 T := hG127.extG hX145 hTl (by simp)
    replace hS := hS.kp [(1, (Pv w.heap.size)), (3, (Pv wtT.heap.size)), (7, Sl wc57.heap.size S.ns.length S.ns.length), (8, I6 ↑i), (9, (Pv wl73.heap.size)), (10, I6 ↑k), (79, .bool (decide ((↑k : Int) < ↑p.r.length))), (11, (rsz 2 p.rv (k + 1) p.r.length (capOf p.rv))), (12, .slice b5134 n5134 c5134)]
    refine hK133 _ _ <| sq fun K147 hK147 => sq fun K148 hK148 => ?_
    rcases (show (¬x.1 = 3) ∨ (x.1 = 3) from (Decidable.em _).symm) with h3 | h3
    ·
     refine region_fn2 ww [.q .p, .q (.ld (p.rv)), .q .p, .q (.run ((Po (bof p.rv) (oof p.rv + k * 2)))), .q .p, .q (.ld (I6 x.1)), .q (.as (.bool false)), .q .p, .q .no, .q .no, .q .no, .q .no, .q .no, .q .no, .q .no, .q .no, .q .no, .q .no, .q .no, .q .no, .q .no, .q .p] [0, 0, 0, 0, 0, 0, 0, 0, 0, 0, 0, 0, 0, 0, 0, 0, 0, 0, 0, 0, 0, 0] [0, 0, 0, 0, 0, 0, 0, 0, 0, 0, 0, 0, 0, 0, 0, 0, 0, 0, 0, 0, 0, 0] [0, 1, 0, 7, 15, 31, 63, 127, 255, 255, 767, 255, 2303, 255, 14591, 30975, 63743, 130815, 261887, 524287, 1048575, 2097151] [] 0 ([(1, (Pv w.heap.size)), (3, (Pv wtT.heap.size)), (7, Sl wc57.heap.size S.ns.length S.ns.length), (8, I6 ↑i), (9, (Pv wl73.heap.size)), (10, I6 ↑k), (79, .bool (decide ((↑k : Int) < ↑p.r.length))), (11, (rsz 2 p.rv (k + 1) p.r.length (capOf p.rv))), (12, .slice b5134 n5134 c5134), (97, (Po wl73.heap.size 1)), (98, p.rv), (99, I6 ↑k), (100, (Po (bof p.rv) (oof p.rv + k * 2))), (101, (Po (bof p.rv) (oof p.rv + k * 2))), (102, I6 x.1), (103, .bool false), (104, .bool false), (105, undef), (106, undef), (107, undef), (108, undef), (109, undef), (110, undef), (111, undef), (112, undef), (113, undef), (114, undef), (115, undef), (116, undef), (117, undef), (118, .bool false)]) [w136.drew] w136.drew (fun w' => [(1, [w'.cell? ⟨wl73.heap.size, 1, none⟩ = some (p.rv)]), (3, [Ru Tryd.prog (vS (Instr.indexAt 71 (p.rv) (I6 ↑k))) ((Po (bof p.rv) (oof p.rv + k * 2))) w']), (5, [w'.cell? ⟨bof p.rv, oof p.rv + k * 2, none⟩ = some (I6 x.1)]), (6, [Value.bool (((x.1 : Int) == 3)) = .bool false])]) [1, 3, 7, 8, 9, 10, 79, 11, 12] [] hS (by kernel_rfl) (by kernel_rfl) (by kernel_rfl) (by kernel_rfl) (fun _ => by kernel_rfl) (by kernel_rfl) (by kernel_rfl) (by kernel_rfl) ?_ ?_ ?_
     ·intro e w' hw
      refine (.cons ?_ (.cons ?_ (.cons ?_ (.cons ?_ .nil))))
      ·intro h1 h2
       obtain rfl : e = 0 := Nat.le_antisymm h2 h1
       obtain rfl : w' = w136.drew := hw.trans (by kernel_rfl)
       exact (.cons ((hB141.drew : Blk w136.drew wl73.heap.size 73 (#[I6 p.l, p.rv])).cell 1 rfl) .nil)
      ·exact fun _ _ => (.cons (ix_rd (e := 61) (j := k) (hG.right p hpm) (by kernel_rfl) (by kernel_rfl) rfl (by omega)) .nil)
      ·intro h1 h2
       obtain rfl : e = 0 := Nat.le_antisymm h2 h1
       obtain rfl : w' = w136.drew := hw.trans (by kernel_rfl)
       exact (.cons (((hG.right p hpm).ext0 ((hbl122.trans0 hE144).trans0 (by first | exact (Ext.refl [] _).drew | exact Ext.refl [] _))).cellAt (k * 2 + 0) (by omega) (ycells_at p.r k 0 x hxk (by omega))) .nil)
      ·exact fun _ _ => (.cons (as_eq_f (by omega)) .nil)
     ·refine .nil
     rintro a w150 hS hw151
     replace hw151 : w150 = w136.drew := hw151.trans (by kernel_rfl)
     have hB152 := Blk.at' hw151 (hB138.drew)
     have hB153 := Blk.at' hw151 (hB139.drew)
     have hB155 := Blk.at' hw151 (hB141.drew)
     have hB156 := OwnV.at' hw151 (hB142.drew)
     have hB157 := OwnV.at' hw151 (hB143.drew)
     have hE158 : Ext [] w109 w150 := by rw [hw151]; exact hE144.drew
     have hX159 : Ext [] w136 w150 := by rw [hw151]; exact (Ext.refl _ _).drew
     have hG160 : TdOk S w2.heap.size w150 T := hG146.extG hX159 hTl (by simp)
     replace hS := hS.kp [(1, (Pv w.heap.size)), (3, (Pv wtT.heap.size)), (7, Sl wc57.heap.size S.ns.length S.ns.length), (8, I6 ↑i), (9, (Pv wl73.heap.size)), (10, I6 ↑k), (79, .bool (decide ((↑k : Int) < ↑p.r.length))), (11, (rsz 2 p.rv (k + 1) p.r.length (capOf p.rv))), (12, .slice b5134 n5134 c5134), (118, .bool false)]
     refine hK148 _ _ ?_
     refine cond_f hS rfl ?_
     refine wpIn_skip <| hK147 _ _ <| sq fun K161 hK161 => ?_
     refine region_set (G := (Option Addr) × Nat × Nat × (List Nat) × Nat) ww [.q (.lds [S.lv, S.nv, I6 S.st, S.pv]), .q .p, .q .p, .q (.ld (.slice T.wb S.ns.length T.wc)), .q .p, .q (.ld (I6 p.l)), .q (.run ((Po (bof (.slice T.wb S.ns.length T.wc)) (0 + p.l.toNat * 1)))), .q (.ld (vwA)), .e, .q .p, .q .p, .q .p, .e, .q .p, .e] [0, 0, 0, 4, 0, 16, 60, 124, 255, 511, 1023, 1023, 0, 6143, 16383] [8, 12, 14] (fun ⟨qb, qn, qc, ql, x21_12⟩ => ([(1, (Pv w.heap.size)), (3, (Pv wtT.heap.size)), (7, Sl wc57.heap.size S.ns.length S.ns.length), (8, I6 ↑i), (9, (Pv wl73.heap.size)), (10, I6 ↑k), (79, .bool (decide ((↑k : Int) < ↑p.r.length))), (11, (rsz 2 p.rv (k + 1) p.r.length (capOf p.rv))), (12, .slice b5134 n5134 c5134), (118, .bool false), (120, .agg S.ca), (121, (rsz 2 p.rv (k + 1) p.r.length (capOf p.rv))), (122, (Po wtT.heap.size 2)), (123, .slice T.wb S.ns.length T.wc), (124, (Pv wl73.heap.size)), (125, I6 p.l), (126, (Po (bof (.slice T.wb S.ns.length T.wc)) (0 + p.l.toNat * 1))), (127, vwA), (128, .tuple #[.slice qb qn qc, .agg #[I6 0, I6 0, .string ⟨#[]⟩]]), (119, .tuple #[.slice qb qn qc, .agg #[I6 0, I6 0, .string ⟨#[]⟩]]), (129, .slice qb qn qc), (130, .agg #[I6 0, I6 0, .string ⟨#[]⟩]), (14, (Pv x21_12)), (13, .slice qb qn qc)] : Fm)) (fun D ⟨qb, qn, qc, ql, x21_12⟩ w' => Ext [] w150 w' ∧ (D 14 = false → (D 12 = true → (Blk w' x21_12 34 (#[I6 0, I6 0, .string ⟨#[]⟩]) ∧ w150.heap.size ≤ x21_12)) ∧ (D 8 = true → HdO S (p.r.drop (k + 1)) (ints lwA) w150.heap.size w' qb qn qc ql) ∧ True) ∧ (D 14 = true → (Blk w' x21_12 34 (#[I6 0, I6 0, .string ⟨#[]⟩]) ∧ w150.heap.size ≤ x21_12) ∧ HdO S (p.r.drop (k + 1)) (ints lwA) w150.heap.size w' qb qn qc ql ∧ True)) (fun ⟨qb, qn, qc, ql, x21_12⟩ w' => [(0, [w'.cell? ⟨w.heap.size, 0, none⟩ = some (S.lv), w'.cell? ⟨w.heap.size, 1, none⟩ = some (S.nv), w'.cell? ⟨w.heap.size, 2, none⟩ = some (I6 S.st), w'.cell? ⟨w.heap.size, 3, none⟩ = some (S.pv)]), (3, [w'.cell? ⟨wtT.heap.size, 2, none⟩ = some (.slice T.wb S.ns.length T.wc)]), (5, [w'.cell? ⟨wl73.heap.size, 0, none⟩ = some (I6 p.l)]), (6, [Ru Tryd.prog (vS (Instr.indexAt 37 (.slice T.wb S.ns.length T.wc) (I6 p.l))) ((Po (bof (.slice T.wb S.ns.length T.wc)) (0 + p.l.toNat * 1))) w']), (7, [w'.cell? ⟨bof (.slice T.wb S.ns.length T.wc), 0 + p.l.toNat * 1, none⟩ = some (vwA)])]) (none, 0, 0, [], 0) [1, 3, 7, 8, 9, 10, 79, 11, 12, 118] [] hS (by kernel_rfl) (by kernel_rfl) (by kernel_rfl) (by kernel_rfl) (fun ⟨qb, qn, qc, ql, x21_12⟩ _ => by kernel_rfl) (by kernel_rfl) (by kernel_rfl) ⟨(Ext.refl _ _).drew, fun _ => ⟨fun h => (by cases h), fun h => (by cases h), trivial⟩, fun h => by cases h⟩ ?_ ?_ ?_
     ·rintro D ⟨qb, qn, qc, ql, x21_12⟩ w' ⟨hE, _, _⟩ xq hxq _ _
      refine AllI.mem ?_ xq hxq
      exact (.cons (.cons (((hB152.ext hE (by simp)) : Blk w' w.heap.size 26 (S.ca)).cell 0 rfl) (.cons (((hB152.ext hE (by simp)) : Blk w' w.heap.size 26 (S.ca)).cell 1 rfl) (.cons (((hB152.ext hE (by simp)) : Blk w' w.heap.size 26 (S.ca)).cell 2 rfl) (.cons (((hB152.ext hE (by simp)) : Blk w' w.heap.size 26 (S.ca)).cell 3 rfl) .nil)))) (.cons (.cons (((hB153.ext hE (by simp)) : Blk w' wtT.heap.size 53 (#[Sl T.eg S.ns.length S.ns.length, .slice T.fb S.ns.length T.fc, .slice T.wb S.ns.length T.wc, .slice T.yb T.yn T.yc, .bool T.full])).cell 2 rfl) .nil) (.cons (.cons (((hB155.ext hE (by simp)) : Blk w' wl73.heap.size 73 (#[I6 p.l, p.rv])).cell 0 rfl) .nil) (.cons (.cons (ix_own (j := p.l.toNat) ((hB156.ext hE (by simp))) (by kernel_rfl) (by kernel_rfl) (Int.toNat_of_nonneg (by omega)).symm (by omega)) .nil) (.cons (.cons (OwnV.cellAt ((hB156.ext hE (by simp)) : OwnV w' 51 1 (.slice T.wb S.ns.length T.wc) S.ns.length (T.wL.map Rw.v)) _ (by rw [Nat.zero_add, Nat.mul_one]; exact hvwA)) .nil) .nil)))))
     ·refine (.cons ?_ (.cons ?_ (.cons ?_ .nil)))
      ·rintro D ⟨qb, qn, qc, ql, x21_12⟩ w' ⟨hE, hA, hB⟩ hDi hdp hnd
       have hDf : D 14 = false := hnd 14 (by simp) (by decide)
       obtain ⟨hA12, hR8, _⟩ := hA hDf
       refine upon_call (f := 33) (vs := [.agg S.ca, (rsz 2 p.rv (k + 1) p.r.length (capOf p.rv)), vwA]) (cap := #[]) (d := (some 128)) (by kernel_rfl) Tryd.call33 #[.agg S.ca, (rsz 2 p.rv (k + 1) p.r.length (capOf p.rv)), vwA] (by kernel_rfl) (Heads_ok (hG.ext0 ((hbl122.trans0 hE158).trans0 hE)) (Ext.refl _ _) (hT.ext0 ((hbl122.trans0 hE158).trans0 hE)) hok (hrc.ext0 ((hbl122.trans0 hE158).trans0 hE)) hr16 hrk (ts := ints lwA) (by rw [its_ints]; exact (hG160.ext0 hE).lw.rd hwA hvwA) (by omega) (fun z hz => by
        obtain ⟨t, ht, rfl⟩ := List.mem_map.1 hz
        exact Fo_tm hI ((hIW.has hwA).1 ht))) ?_
       rintro _ wn ⟨bsq, nq, cq, lq, rfl, hOq, hEn⟩
       refine ⟨_, rfl, (bsq, nq, cq, lq, x21_12), by kernel_rfl, by kernel_rfl, hE.trans0 hEn, fun _ => ⟨fun h => ⟨(hA12 h).1.ext hEn (by simp), (hA12 h).2⟩, fun _ => hOq.mono hE.size, trivial⟩, fun h => ?_⟩
       rw [show setS D 8 14 = D 14 from rfl, hDf] at h; cases h
      ·rintro D ⟨qb, qn, qc, ql, x21_12⟩ w' ⟨hE, hA, hB⟩ hDi hdp hnd
       have hDf : D 14 = false := hnd 14 (by simp) (by decide)
       obtain ⟨hA12, hR8, _⟩ := hA hDf
       have hEn : Ext [] w' (w'.alloc (.cells #[I6 0, I6 0, .string ⟨#[]⟩] 34)) := (Ext.refl _ _).alloc _
       refine upon_box (nb := w'.heap.size) (cs := #[I6 0, I6 0, .string ⟨#[]⟩]) (T := 34) (d := (some 14)) (by kernel_rfl) rfl ⟨(qb, qn, qc, ql, w'.heap.size), by kernel_rfl, by kernel_rfl, hE.trans0 hEn, fun _ => ⟨fun _ => ⟨Blk.new _ _ _, hE.size⟩, fun h => (hR8 h).ext0 hEn, trivial⟩, fun h => ?_⟩
       rw [show setS D 12 14 = D 14 from rfl, hDf] at h; cases h
      ·rintro D ⟨qb, qn, qc, ql, x21_12⟩ w' ⟨hE, hA, hB⟩ hDi hdp hnd
       obtain ⟨hA12, hR8, _⟩ := hA hDi
       obtain ⟨hf12, hs12⟩ := hA12 (hdp 12 (by simp) (by decide))
       refine upon_store (b := x21_12) (off := 0) (vs := [I6 0, I6 0, .string ⟨#[]⟩]) (by kernel_rfl) hf12 (by simp) ⟨(qb, qn, qc, ql, x21_12), by kernel_rfl, by kernel_rfl, hE.updIn (.inr hs12) _ _, fun h => ?_, fun _ => ⟨⟨hf12.upd _ _, hs12⟩, (hR8 (hdp 8 (by simp) (by decide))).updT hf12 (by decide) _, trivial⟩⟩
       rw [setS_self] at h; cases h
     rintro D ⟨qb, qn, qc, ql, x21_12⟩ a wz162 hS hall ⟨hEz162, _, hB⟩
     obtain ⟨⟨hz162_12, hy162_12⟩, hr162_8, _⟩ := hB (hall 14 (by simp))
     have hB168 := hB157.ext hEz162 (by simp)
     have hw162_12 : w109.heap.size ≤ x21_12 := Nat.le_trans hE158.size hy162_12
     have hE169 := hE158.trans0 hEz162
     have hG170 : TdOk S w2.heap.size wz162 T := hG160.extG hEz162 hTl (by simp)
     replace hS := hS.kp [(1, (Pv w.heap.size)), (3, (Pv wtT.heap.size)), (7, Sl wc57.heap.size S.ns.length S.ns.length), (8, I6 ↑i), (9, (Pv wl73.heap.size)), (10, I6 ↑k), (79, .bool (decide ((↑k : Int) < ↑p.r.length))), (11, (rsz 2 p.rv (k + 1) p.r.length (capOf p.rv))), (12, .slice b5134 n5134 c5134), (118, .bool false), (14, (Pv x21_12)), (13, .slice qb qn qc)]
     refine hK161 _ _ <| sq fun K171 hK171 => ?_
     have hqm := hr162_8.is.max
     have hqn := hr162_8.row.len
     have hqe := hd_eq hIF hIE hr162_8.is
     refine rgn 20 <| sd ww [.p, .ld (I6 0), .p, .p, .p] [wz162.cell? ⟨x21_12, 0, none⟩ = some (I6 0)] [(134, .bool false), (135, .slice qb qn qc)] [] 5 15 hS (.cons (hz162_12.cell 0 rfl) .nil) fun a hS => eff_call ww (r := 14) (f := 39) (vs := [.slice qb qn qc]) (cap := #[]) (d := (some 136)) hS (by kernel_rfl) Tryd.call39 #[.slice qb qn qc] (by kernel_rfl) (rising_true (hr162_8.row.own : OwnV wz162 3 1 (.slice qb qn qc) qn (ivs ql)).rd (by omega) hr162_8.is.rising) ?_
     rintro _ wc172 ⟨rfl, hEc172⟩
     refine ⟨_, rfl, fun a hS => ?_⟩
     have hB177 := hB168.ext hEc172 (by simp)
     have hB179 := hr162_8.row.own.ext hEc172 (by simp)
     have hG180 : TdOk S w2.heap.size wc172 T := hG170.extG hEc172 hTl (by simp)
     have hE181 := hE169.trans0 hEc172
     refine sd ww [.p, .p, .p, .p, .p] [] [(139, .bool false), (140, .slice qb qn qc), (141, .slice b5134 n5134 c5134)] [] 11 9 hS .nil fun a hS => eff_call ww (r := 8) (f := 37) (vs := [.slice qb qn qc, .slice b5134 n5134 c5134]) (cap := #[]) (d := (some 142)) hS (by kernel_rfl) Tryd.call37 #[.slice qb qn qc, .slice b5134 n5134 c5134] (by kernel_rfl) (within_true (hB179 : OwnV wc172 3 1 (.slice qb qn qc) qn (ivs ql)).rd (hB177 : OwnV wc172 3 1 (.slice b5134 n5134 c5134) n5134 (ivs (hdL S.nl T.fl T.es lwA (row (p.r.drop (k + 1)))))).rd (by omega) (by omega) (fun x hx => (hqe x).1 hx)) ?_
     rintro _ wc182 ⟨rfl, hEc182⟩
     refine ⟨_, rfl, fun a hS => ?_⟩
     have hB187 := hB177.ext hEc182 (by simp)
     have hB189 := hB179.ext hEc182 (by simp)
     have hG190 : TdOk S w2.heap.size wc182 T := hG180.extG hEc182 hTl (by simp)
     have hE191 := hE181.trans0 hEc182
     refine sd ww [.p, .p, .p, .p, .p] [] [(145, .bool false), (146, .slice b5134 n5134 c5134), (147, .slice qb qn qc)] [] 17 3 hS .nil fun a hS => eff_call ww (r := 2) (f := 37) (vs := [.slice b5134 n5134 c5134, .slice qb qn qc]) (cap := #[]) (d := (some 148)) hS (by kernel_rfl) Tryd.call37 #[.slice b5134 n5134 c5134, .slice qb qn qc] (by kernel_rfl) (within_true (hB187 : OwnV wc182 3 1 (.slice b5134 n5134 c5134) n5134 (ivs (hdL S.nl T.fl T.es lwA (row (p.r.drop (k + 1)))))).rd (hB189 : OwnV wc182 3 1 (.slice qb qn qc) qn (ivs ql)).rd (by omega) (by omega) (fun x hx => (hqe x).2 hx)) ?_
     rintro _ wc192 ⟨rfl, hEc192⟩
     refine ⟨_, rfl, fun a hS => ?_⟩
     have hG200 : TdOk S w2.heap.size wc192 T := hG190.extG hEc192 hTl (by simp)
     have hE201 := hE191.trans0 hEc192
     refine sd ww [.p, .p] [] [(150, .bool false)] [] 20 0 hS .nil fun a hS => seg_end <| hK171 _ _ ?_
     refine cond_f hS rfl ?_
     refine wpIn_skip <| inBlock_normal <| hK131 _ _ <| rgn 3 <| sg ww [.p, .as (I6 ((k + 1 : Nat) : Int)), .p] [Value.int .i64 (IntKind.i64.wrap (↑k + 1)) = I6 ((k + 1 : Nat) : Int)] [(1, (Pv w.heap.size)), (3, (Pv wtT.heap.size)), (7, Sl wc57.heap.size S.ns.length S.ns.length), (8, I6 ↑i), (9, (Pv wl73.heap.size)), (10, I6 ((k + 1 : Nat) : Int)), (79, .bool (decide ((↑k : Int) < ↑p.r.length))), (11, (rsz 2 p.rv (k + 1) p.r.length (capOf p.rv))), (12, .slice b5134 n5134 c5134), (118, .bool false), (14, (Pv x21_12)), (13, .slice qb qn qc), (150, .bool false)] 3 0 hS (.cons ((by rw [show (↑k + 1 : Int) = ((k + 1 : Nat) : Int) from by omega]; exact as_i64 (by omega))) .nil) fun a hS => seg_end ?_
     exact ⟨k + 1, ⟨hS.kp [(1, (Pv w.heap.size)), (3, (Pv wtT.heap.size)), (7, Sl wc57.heap.size S.ns.length S.ns.length), (8, I6 ↑i), (9, (Pv wl73.heap.size)), (10, I6 ((k + 1 : Nat) : Int))], hE201, by omega⟩, by omega⟩
    ·
     have hxn := hI.name hpm hxm h3
     obtain ⟨lwB, hwB⟩ : ∃ l, T.wl[x.2.toNat]? = some l := ⟨_, List.getElem?_eq_getElem (by omega)⟩
     obtain ⟨vwB, hvwB, hrwB⟩ := hG146.lw.at' hwB
     have hwm2 := hIW.max1 lwB (List.mem_of_getElem? hwB)
     have hgs : (p.l.toNat, (row p.r).take k ++ .m x.2.toNat :: row (p.r.drop (k + 1))) ∈ S.g := by rw [← sm_name h3, ← row_split hxk]; exact hgm
     refine region_gh2 (G := World) ww [.q .p, .q (.ld (p.rv)), .q .p, .q (.run ((Po (bof p.rv) (oof p.rv + k * 2)))), .q .p, .q (.ld (I6 x.1)), .q (.as (.bool true)), .q .p, .q .p, .q .p, .q (.ld (.slice T.wb S.ns.length T.wc)), .q .p, .q (.ld (p.rv)), .q .p, .q (.run ((Po (bof p.rv) (oof p.rv + k * 2)))), .q .p, .q (.ld (I6 x.2)), .q (.run ((Po (bof (.slice T.wb S.ns.length T.wc)) (0 + x.2.toNat * 1)))), .q (.ld (vwB)), .e, .q .p, .q .p] [0, 0, 0, 0, 0, 0, 0, 0, 0, 0, 0, 0, 0, 0, 0, 0, 0, 0, 0, 0, 1, 1] [0, 0, 0, 0, 0, 0, 0, 0, 0, 0, 0, 0, 0, 0, 0, 0, 0, 0, 0, 0, 1, 1] [0, 1, 0, 7, 15, 31, 63, 127, 255, 255, 767, 255, 2303, 255, 14591, 30975, 63743, 130815, 261887, 524287, 1048575, 2097151] [19] [(19, 0)] 1 (fun wc202 => ([(1, (Pv w.heap.size)), (3, (Pv wtT.heap.size)), (7, Sl wc57.heap.size S.ns.length S.ns.length), (8, I6 ↑i), (9, (Pv wl73.heap.size)), (10, I6 ↑k), (79, .bool (decide ((↑k : Int) < ↑p.r.length))), (11, (rsz 2 p.rv (k + 1) p.r.length (capOf p.rv))), (12, .slice b5134 n5134 c5134), (97, (Po wl73.heap.size 1)), (98, p.rv), (99, I6 ↑k), (100, (Po (bof p.rv) (oof p.rv + k * 2))), (101, (Po (bof p.rv) (oof p.rv + k * 2))), (102, I6 x.1), (103, .bool true), (104, .bool true), (105, .slice b5134 n5134 c5134), (106, (Po wtT.heap.size 2)), (107, .slice T.wb S.ns.length T.wc), (108, (Po wl73.heap.size 1)), (109, p.rv), (110, I6 ↑k), (111, (Po (bof p.rv) (oof p.rv + k * 2))), (112, (Po (bof p.rv) (oof p.rv + k * 2 + 1))), (113, I6 x.2), (114, (Po (bof (.slice T.wb S.ns.length T.wc)) (0 + x.2.toNat * 1))), (115, vwB), (116, .bool true), (117, .bool false), (118, .bool false)] : Fm)) (fun wc202 => [w136.drew, wc202]) (w136.drew) (fun e wc202 => hAt [True, (Ext [] w136.drew wc202) ∧ True] e) (fun wc202 w' => [(1, [w'.cell? ⟨wl73.heap.size, 1, none⟩ = some (p.rv)]), (3, [Ru Tryd.prog (vS (Instr.indexAt 71 (p.rv) (I6 ↑k))) ((Po (bof p.rv) (oof p.rv + k * 2))) w']), (5, [w'.cell? ⟨bof p.rv, oof p.rv + k * 2, none⟩ = some (I6 x.1)]), (6, [Value.bool (((x.1 : Int) == 3)) = .bool true]), (10, [w'.cell? ⟨wtT.heap.size, 2, none⟩ = some (.slice T.wb S.ns.length T.wc)]), (12, [w'.cell? ⟨wl73.heap.size, 1, none⟩ = some (p.rv)]), (14, [Ru Tryd.prog (vS (Instr.indexAt 71 (p.rv) (I6 ↑k))) ((Po (bof p.rv) (oof p.rv + k * 2))) w']), (16, [w'.cell? ⟨bof p.rv, oof p.rv + k * 2 + 1, none⟩ = some (I6 x.2)]), (17, [Ru Tryd.prog (vS (Instr.indexAt 37 (.slice T.wb S.ns.length T.wc) (I6 x.2))) ((Po (bof (.slice T.wb S.ns.length T.wc)) (0 + x.2.toNat * 1))) w']), (18, [w'.cell? ⟨bof (.slice T.wb S.ns.length T.wc), 0 + x.2.toNat * 1, none⟩ = some (vwB)])]) w136.drew [1, 3, 7, 8, 9, 10, 79, 11, 12] [] hS (by kernel_rfl) (by kernel_rfl) (by kernel_rfl) (by kernel_rfl) (fun wc202 _ => by kernel_rfl) (by kernel_rfl) (by kernel_rfl) (by kernel_rfl) trivial ?_ (by kernel_rfl) ?_ ?_
     ·rintro e wc202 w' hw hH
      refine (.cons ?_ (.cons ?_ (.cons ?_ (.cons ?_ (.cons ?_ (.cons ?_ (.cons ?_ (.cons ?_ (.cons ?_ (.cons ?_ .nil))))))))))
      ·intro h1 h2
       obtain rfl : e = 0 := Nat.le_antisymm h2 h1
       have hwe : w136.drew = w' := (hw.trans (by kernel_rfl)).symm
       subst hwe
       clear hH
       exact (.cons ((hB141.drew : Blk w136.drew wl73.heap.size 73 (#[I6 p.l, p.rv])).cell 1 rfl) .nil)
      ·intro h1 h2
       obtain rfl : e = 0 := Nat.le_antisymm h2 h1
       have hwe : w136.drew = w' := (hw.trans (by kernel_rfl)).symm
       subst hwe
       clear hH
       exact (.cons (ix_rd (e := 61) (j := k) (hG.right p hpm) (by kernel_rfl) (by kernel_rfl) rfl (by omega)) .nil)
      ·intro h1 h2
       obtain rfl : e = 0 := Nat.le_antisymm h2 h1
       have hwe : w136.drew = w' := (hw.trans (by kernel_rfl)).symm
       subst hwe
       clear hH
       exact (.cons (((hG.right p hpm).ext0 ((hbl122.trans0 hE144).trans0 (by first | exact (Ext.refl [] _).drew | exact Ext.refl [] _))).cellAt (k * 2 + 0) (by omega) (ycells_at p.r k 0 x hxk (by omega))) .nil)
      ·intro h1 h2
       obtain rfl : e = 0 := Nat.le_antisymm h2 h1
       have hwe : w136.drew = w' := (hw.trans (by kernel_rfl)).symm
       subst hwe
       clear hH
       exact (.cons (as_eq_t (by omega)) .nil)
      ·intro h1 h2
       obtain rfl : e = 0 := Nat.le_antisymm h2 h1
       have hwe : w136.drew = w' := (hw.trans (by kernel_rfl)).symm
       subst hwe
       clear hH
       exact (.cons ((hB139.drew : Blk w136.drew wtT.heap.size 53 (#[Sl T.eg S.ns.length S.ns.length, .slice T.fb S.ns.length T.fc, .slice T.wb S.ns.length T.wc, .slice T.yb T.yn T.yc, .bool T.full])).cell 2 rfl) .nil)
      ·intro h1 h2
       obtain rfl : e = 0 := Nat.le_antisymm h2 h1
       have hwe : w136.drew = w' := (hw.trans (by kernel_rfl)).symm
       subst hwe
       clear hH
       exact (.cons ((hB141.drew : Blk w136.drew wl73.heap.size 73 (#[I6 p.l, p.rv])).cell 1 rfl) .nil)
      ·intro h1 h2
       obtain rfl : e = 0 := Nat.le_antisymm h2 h1
       have hwe : w136.drew = w' := (hw.trans (by kernel_rfl)).symm
       subst hwe
       clear hH
       exact (.cons (ix_rd (e := 61) (j := k) (hG.right p hpm) (by kernel_rfl) (by kernel_rfl) rfl (by omega)) .nil)
      ·intro h1 h2
       obtain rfl : e = 0 := Nat.le_antisymm h2 h1
       have hwe : w136.drew = w' := (hw.trans (by kernel_rfl)).symm
       subst hwe
       clear hH
       exact (.cons (((hG.right p hpm).ext0 ((hbl122.trans0 hE144).trans0 (by first | exact (Ext.refl [] _).drew | exact Ext.refl [] _))).cellAt (k * 2 + 1) (by omega) (ycells_at p.r k 1 x hxk (by omega))) .nil)
      ·intro h1 h2
       obtain rfl : e = 0 := Nat.le_antisymm h2 h1
       have hwe : w136.drew = w' := (hw.trans (by kernel_rfl)).symm
       subst hwe
       clear hH
       exact (.cons (ix_own (j := x.2.toNat) (hB142) (by kernel_rfl) (by kernel_rfl) (Int.toNat_of_nonneg (by omega)).symm (by omega)) .nil)
      ·intro h1 h2
       obtain rfl : e = 0 := Nat.le_antisymm h2 h1
       have hwe : w136.drew = w' := (hw.trans (by kernel_rfl)).symm
       subst hwe
       clear hH
       exact (.cons (OwnV.cellAt (hB142.drew : OwnV w136.drew 51 1 (.slice T.wb S.ns.length T.wc) S.ns.length (T.wL.map Rw.v)) _ (by rw [Nat.zero_add, Nat.mul_one]; exact hvwB)) .nil)
     ·refine (.cons ?eq203_19 .nil)
      ·rintro wc202 hH
       clear hH
       refine eff_gh (w136.drew) (by kernel_rfl) ?_
       refine upon_call (f := 37) (vs := [.slice b5134 n5134 c5134, vwB]) (cap := #[]) (d := (some 116)) (by kernel_rfl) Tryd.call37 #[.slice b5134 n5134 c5134, vwB] (by kernel_rfl) (within_true (hB143.drew : OwnV w136.drew 3 1 (.slice b5134 n5134 c5134) n5134 (ivs (hdL S.nl T.fl T.es lwA (row (p.r.drop (k + 1)))))).rd ((hG146.ext0 ((Ext.refl [] _).drew)).lw.rd hwB hvwB) (by omega) (by omega) (in_follow hIF hIE hIW hgs hwA hwB)) ?_
       rintro _ wc202 ⟨rfl, hEc202⟩
       exact ⟨_, rfl, ⟨wc202, by kernel_rfl, by kernel_rfl, by kernel_rfl, ⟨hEc202, trivial⟩⟩⟩
     rintro wc202 a w204 hS hw205 hH
     obtain ⟨hEc202, _⟩ := hH
     replace hw205 : w204 = wc202 := hw205.trans (by kernel_rfl)
     have hB206 := Blk.at' hw205 ((hB138.drew : Blk w136.drew w.heap.size 26 (S.ca)).ext hEc202 (by simp))
     have hB207 := Blk.at' hw205 ((hB139.drew : Blk w136.drew wtT.heap.size 53 (#[Sl T.eg S.ns.length S.ns.length, .slice T.fb S.ns.length T.fc, .slice T.wb S.ns.length T.wc, .slice T.yb T.yn T.yc, .bool T.full])).ext hEc202 (by simp))
     have hB209 := Blk.at' hw205 ((hB141.drew : Blk w136.drew wl73.heap.size 73 (#[I6 p.l, p.rv])).ext hEc202 (by simp))
     have hB210 := OwnV.at' hw205 ((hB142.drew : OwnV w136.drew 51 1 (.slice T.wb S.ns.length T.wc) S.ns.length (T.wL.map Rw.v)).ext hEc202 (by simp))
     have hB211 := OwnV.at' hw205 ((hB143.drew : OwnV w136.drew 3 1 (.slice b5134 n5134 c5134) n5134 (ivs (hdL S.nl T.fl T.es lwA (row (p.r.drop (k + 1)))))).ext hEc202 (by simp))
     have hE212 : Ext [] w109 w204 := by rw [hw205]; exact (hE144.drew).trans0 hEc202
     have hX213 : Ext [] w136 w204 := by rw [hw205]; exact ((Ext.refl _ _).drew).trans0 hEc202
     have hG214 : TdOk S w2.heap.size w204 T := hG146.extG hX213 hTl (by simp)
     replace hS := hS.kp [(1, (Pv w.heap.size)), (3, (Pv wtT.heap.size)), (7, Sl wc57.heap.size S.ns.length S.ns.length), (8, I6 ↑i), (9, (Pv wl73.heap.size)), (10, I6 ↑k), (79, .bool (decide ((↑k : Int) < ↑p.r.length))), (11, (rsz 2 p.rv (k + 1) p.r.length (capOf p.rv))), (12, .slice b5134 n5134 c5134), (118, .bool false)]
     refine hK148 _ _ ?_
     refine cond_f hS rfl ?_
     refine wpIn_skip <| hK147 _ _ <| sq fun K215 hK215 => ?_
     refine region_set (G := (Option Addr) × Nat × Nat × (List Nat) × Nat) ww [.q (.lds [S.lv, S.nv, I6 S.st, S.pv]), .q .p, .q .p, .q (.ld (.slice T.wb S.ns.length T.wc)), .q .p, .q (.ld (I6 p.l)), .q (.run ((Po (bof (.slice T.wb S.ns.length T.wc)) (0 + p.l.toNat * 1)))), .q (.ld (vwA)), .e, .q .p, .q .p, .q .p, .e, .q .p, .e] [0, 0, 0, 4, 0, 16, 60, 124, 255, 511, 1023, 1023, 0, 6143, 16383] [8, 12, 14] (fun ⟨qb, qn, qc, ql, x21_12⟩ => ([(1, (Pv w.heap.size)), (3, (Pv wtT.heap.size)), (7, Sl wc57.heap.size S.ns.length S.ns.length), (8, I6 ↑i), (9, (Pv wl73.heap.size)), (10, I6 ↑k), (79, .bool (decide ((↑k : Int) < ↑p.r.length))), (11, (rsz 2 p.rv (k + 1) p.r.length (capOf p.rv))), (12, .slice b5134 n5134 c5134), (118, .bool false), (120, .agg S.ca), (121, (rsz 2 p.rv (k + 1) p.r.length (capOf p.rv))), (122, (Po wtT.heap.size 2)), (123, .slice T.wb S.ns.length T.wc), (124, (Pv wl73.heap.size)), (125, I6 p.l), (126, (Po (bof (.slice T.wb S.ns.length T.wc)) (0 + p.l.toNat * 1))), (127, vwA), (128, .tuple #[.slice qb qn qc, .agg #[I6 0, I6 0, .string ⟨#[]⟩]]), (119, .tuple #[.slice qb qn qc, .agg #[I6 0, I6 0, .string ⟨#[]⟩]]), (129, .slice qb qn qc), (130, .agg #[I6 0, I6 0, .string ⟨#[]⟩]), (14, (Pv x21_12)), (13, .slice qb qn qc)] : Fm)) (fun D ⟨qb, qn, qc, ql, x21_12⟩ w' => Ext [] w204 w' ∧ (D 14 = false → (D 12 = true → (Blk w' x21_12 34 (#[I6 0, I6 0, .string ⟨#[]⟩]) ∧ w204.heap.size ≤ x21_12)) ∧ (D 8 = true → HdO S (p.r.drop (k + 1)) (ints lwA) w204.heap.size w' qb qn qc ql) ∧ True) ∧ (D 14 = true → (Blk w' x21_12 34 (#[I6 0, I6 0, .string ⟨#[]⟩]) ∧ w204.heap.size ≤ x21_12) ∧ HdO S (p.r.drop (k + 1)) (ints lwA) w204.heap.size w' qb qn qc ql ∧ True)) (fun ⟨qb, qn, qc, ql, x21_12⟩ w' => [(0, [w'.cell? ⟨w.heap.size, 0, none⟩ = some (S.lv), w'.cell? ⟨w.heap.size, 1, none⟩ = some (S.nv), w'.cell? ⟨w.heap.size, 2, none⟩ = some (I6 S.st), w'.cell? ⟨w.heap.size, 3, none⟩ = some (S.pv)]), (3, [w'.cell? ⟨wtT.heap.size, 2, none⟩ = some (.slice T.wb S.ns.length T.wc)]), (5, [w'.cell? ⟨wl73.heap.size, 0, none⟩ = some (I6 p.l)]), (6, [Ru Tryd.prog (vS (Instr.indexAt 37 (.slice T.wb S.ns.length T.wc) (I6 p.l))) ((Po (bof (.slice T.wb S.ns.length T.wc)) (0 + p.l.toNat * 1))) w']), (7, [w'.cell? ⟨bof (.slice T.wb S.ns.length T.wc), 0 + p.l.toNat * 1, none⟩ = some (vwA)])]) (none, 0, 0, [], 0) [1, 3, 7, 8, 9, 10, 79, 11, 12, 118] [] hS (by kernel_rfl) (by kernel_rfl) (by kernel_rfl) (by kernel_rfl) (fun ⟨qb, qn, qc, ql, x21_12⟩ _ => by kernel_rfl) (by kernel_rfl) (by kernel_rfl) ⟨(Ext.refl _ _).drew, fun _ => ⟨fun h => (by cases h), fun h => (by cases h), trivial⟩, fun h => by cases h⟩ ?_ ?_ ?_
     ·rintro D ⟨qb, qn, qc, ql, x21_12⟩ w' ⟨hE, _, _⟩ xq hxq _ _
      refine AllI.mem ?_ xq hxq
      exact (.cons (.cons (((hB206.ext hE (by simp)) : Blk w' w.heap.size 26 (S.ca)).cell 0 rfl) (.cons (((hB206.ext hE (by simp)) : Blk w' w.heap.size 26 (S.ca)).cell 1 rfl) (.cons (((hB206.ext hE (by simp)) : Blk w' w.heap.size 26 (S.ca)).cell 2 rfl) (.cons (((hB206.ext hE (by simp)) : Blk w' w.heap.size 26 (S.ca)).cell 3 rfl) .nil)))) (.cons (.cons (((hB207.ext hE (by simp)) : Blk w' wtT.heap.size 53 (#[Sl T.eg S.ns.length S.ns.length, .slice T.fb S.ns.length T.fc, .slice T.wb S.ns.length T.wc, .slice T.yb T.yn T.yc, .bool T.full])).cell 2 rfl) .nil) (.cons (.cons (((hB209.ext hE (by simp)) : Blk w' wl73.heap.size 73 (#[I6 p.l, p.rv])).cell 0 rfl) .nil) (.cons (.cons (ix_own (j := p.l.toNat) ((hB210.ext hE (by simp))) (by kernel_rfl) (by kernel_rfl) (Int.toNat_of_nonneg (by omega)).symm (by omega)) .nil) (.cons (.cons (OwnV.cellAt ((hB210.ext hE (by simp)) : OwnV w' 51 1 (.slice T.wb S.ns.length T.wc) S.ns.length (T.wL.map Rw.v)) _ (by rw [Nat.zero_add, Nat.mul_one]; exact hvwA)) .nil) .nil)))))
     ·refine (.cons ?_ (.cons ?_ (.cons ?_ .nil)))
      ·rintro D ⟨qb, qn, qc, ql, x21_12⟩ w' ⟨hE, hA, hB⟩ hDi hdp hnd
       have hDf : D 14 = false := hnd 14 (by simp) (by decide)
       obtain ⟨hA12, hR8, _⟩ := hA hDf
       refine upon_call (f := 33) (vs := [.agg S.ca, (rsz 2 p.rv (k + 1) p.r.length (capOf p.rv)), vwA]) (cap := #[]) (d := (some 128)) (by kernel_rfl) Tryd.call33 #[.agg S.ca, (rsz 2 p.rv (k + 1) p.r.length (capOf p.rv)), vwA] (by kernel_rfl) (Heads_ok (hG.ext0 ((hbl122.trans0 hE212).trans0 hE)) (Ext.refl _ _) (hT.ext0 ((hbl122.trans0 hE212).trans0 hE)) hok (hrc.ext0 ((hbl122.trans0 hE212).trans0 hE)) hr16 hrk (ts := ints lwA) (by rw [its_ints]; exact (hG214.ext0 hE).lw.rd hwA hvwA) (by omega) (fun z hz => by
        obtain ⟨t, ht, rfl⟩ := List.mem_map.1 hz
        exact Fo_tm hI ((hIW.has hwA).1 ht))) ?_
       rintro _ wn ⟨bsq, nq, cq, lq, rfl, hOq, hEn⟩
       refine ⟨_, rfl, (bsq, nq, cq, lq, x21_12), by kernel_rfl, by kernel_rfl, hE.trans0 hEn, fun _ => ⟨fun h => ⟨(hA12 h).1.ext hEn (by simp), (hA12 h).2⟩, fun _ => hOq.mono hE.size, trivial⟩, fun h => ?_⟩
       rw [show setS D 8 14 = D 14 from rfl, hDf] at h; cases h
      ·rintro D ⟨qb, qn, qc, ql, x21_12⟩ w' ⟨hE, hA, hB⟩ hDi hdp hnd
       have hDf : D 14 = false := hnd 14 (by simp) (by decide)
       obtain ⟨hA12, hR8, _⟩ := hA hDf
       have hEn : Ext [] w' (w'.alloc (.cells #[I6 0, I6 0, .string ⟨#[]⟩] 34)) := (Ext.refl _ _).alloc _
       refine upon_box (nb := w'.heap.size) (cs := #[I6 0, I6 0, .string ⟨#[]⟩]) (T := 34) (d := (some 14)) (by kernel_rfl) rfl ⟨(qb, qn, qc, ql, w'.heap.size), by kernel_rfl, by kernel_rfl, hE.trans0 hEn, fun _ => ⟨fun _ => ⟨Blk.new _ _ _, hE.size⟩, fun h => (hR8 h).ext0 hEn, trivial⟩, fun h => ?_⟩
       rw [show setS D 12 14 = D 14 from rfl, hDf] at h; cases h
      ·rintro D ⟨qb, qn, qc, ql, x21_12⟩ w' ⟨hE, hA, hB⟩ hDi hdp hnd
       obtain ⟨hA12, hR8, _⟩ := hA hDi
       obtain ⟨hf12, hs12⟩ := hA12 (hdp 12 (by simp) (by decide))
       refine upon_store (b := x21_12) (off := 0) (vs := [I6 0, I6 0, .string ⟨#[]⟩]) (by kernel_rfl) hf12 (by simp) ⟨(qb, qn, qc, ql, x21_12), by kernel_rfl, by kernel_rfl, hE.updIn (.inr hs12) _ _, fun h => ?_, fun _ => ⟨⟨hf12.upd _ _, hs12⟩, (hR8 (hdp 8 (by simp) (by decide))).updT hf12 (by decide) _, trivial⟩⟩
       rw [setS_self] at h; cases h
     rintro D ⟨qb, qn, qc, ql, x21_12⟩ a wz216 hS hall ⟨hEz216, _, hB⟩
     obtain ⟨⟨hz216_12, hy216_12⟩, hr216_8, _⟩ := hB (hall 14 (by simp))
     have hB222 := hB211.ext hEz216 (by simp)
     have hw216_12 : w109.heap.size ≤ x21_12 := Nat.le_trans hE212.size hy216_12
     have hE223 := hE212.trans0 hEz216
     have hG224 : TdOk S w2.heap.size wz216 T := hG214.extG hEz216 hTl (by simp)
     replace hS := hS.kp [(1, (Pv w.heap.size)), (3, (Pv wtT.heap.size)), (7, Sl wc57.heap.size S.ns.length S.ns.length), (8, I6 ↑i), (9, (Pv wl73.heap.size)), (10, I6 ↑k), (79, .bool (decide ((↑k : Int) < ↑p.r.length))), (11, (rsz 2 p.rv (k + 1) p.r.length (capOf p.rv))), (12, .slice b5134 n5134 c5134), (118, .bool false), (14, (Pv x21_12)), (13, .slice qb qn qc)]
     refine hK215 _ _ <| sq fun K225 hK225 => ?_
     have hqm := hr216_8.is.max
     have hqn := hr216_8.row.len
     have hqe := hd_eq hIF hIE hr216_8.is
     refine rgn 20 <| sd ww [.p, .ld (I6 0), .p, .p, .p] [wz216.cell? ⟨x21_12, 0, none⟩ = some (I6 0)] [(134, .bool false), (135, .slice qb qn qc)] [] 5 15 hS (.cons (hz216_12.cell 0 rfl) .nil) fun a hS => eff_call ww (r := 14) (f := 39) (vs := [.slice qb qn qc]) (cap := #[]) (d := (some 136)) hS (by kernel_rfl) Tryd.call39 #[.slice qb qn qc] (by kernel_rfl) (rising_true (hr216_8.row.own : OwnV wz216 3 1 (.slice qb qn qc) qn (ivs ql)).rd (by omega) hr216_8.is.rising) ?_
     rintro _ wc226 ⟨rfl, hEc226⟩
     refine ⟨_, rfl, fun a hS => ?_⟩
     have hB231 := hB222.ext hEc226 (by simp)
     have hB233 := hr216_8.row.own.ext hEc226 (by simp)
     have hG234 : TdOk S w2.heap.size wc226 T := hG224.extG hEc226 hTl (by simp)
     have hE235 := hE223.trans0 hEc226
     refine sd ww [.p, .p, .p, .p, .p] [] [(139, .bool false), (140, .slice qb qn qc), (141, .slice b5134 n5134 c5134)] [] 11 9 hS .nil fun a hS => eff_call ww (r := 8) (f := 37) (vs := [.slice qb qn qc, .slice b5134 n5134 c5134]) (cap := #[]) (d := (some 142)) hS (by kernel_rfl) Tryd.call37 #[.slice qb qn qc, .slice b5134 n5134 c5134] (by kernel_rfl) (within_true (hB233 : OwnV wc226 3 1 (.slice qb qn qc) qn (ivs ql)).rd (hB231 : OwnV wc226 3 1 (.slice b5134 n5134 c5134) n5134 (ivs (hdL S.nl T.fl T.es lwA (row (p.r.drop (k + 1)))))).rd (by omega) (by omega) (fun x hx => (hqe x).1 hx)) ?_
     rintro _ wc236 ⟨rfl, hEc236⟩
     refine ⟨_, rfl, fun a hS => ?_⟩
     have hB241 := hB231.ext hEc236 (by simp)
     have hB243 := hB233.ext hEc236 (by simp)
     have hG244 : TdOk S w2.heap.size wc236 T := hG234.extG hEc236 hTl (by simp)
     have hE245 := hE235.trans0 hEc236
     refine sd ww [.p, .p, .p, .p, .p] [] [(145, .bool false), (146, .slice b5134 n5134 c5134), (147, .slice qb qn qc)] [] 17 3 hS .nil fun a hS => eff_call ww (r := 2) (f := 37) (vs := [.slice b5134 n5134 c5134, .slice qb qn qc]) (cap := #[]) (d := (some 148)) hS (by kernel_rfl) Tryd.call37 #[.slice b5134 n5134 c5134, .slice qb qn qc] (by kernel_rfl) (within_true (hB241 : OwnV wc236 3 1 (.slice b5134 n5134 c5134) n5134 (ivs (hdL S.nl T.fl T.es lwA (row (p.r.drop (k + 1)))))).rd (hB243 : OwnV wc236 3 1 (.slice qb qn qc) qn (ivs ql)).rd (by omega) (by omega) (fun x hx => (hqe x).2 hx)) ?_
     rintro _ wc246 ⟨rfl, hEc246⟩
     refine ⟨_, rfl, fun a hS => ?_⟩
     have hG254 : TdOk S w2.heap.size wc246 T := hG244.extG hEc246 hTl (by simp)
     have hE255 := hE245.trans0 hEc246
     refine sd ww [.p, .p] [] [(150, .bool false)] [] 20 0 hS .nil fun a hS => seg_end <| hK225 _ _ ?_
     refine cond_f hS rfl ?_
     refine wpIn_skip <| inBlock_normal <| hK131 _ _ <| rgn 3 <| sg ww [.p, .as (I6 ((k + 1 : Nat) : Int)), .p] [Value.int .i64 (IntKind.i64.wrap (↑k + 1)) = I6 ((k + 1 : Nat) : Int)] [(1, (Pv w.heap.size)), (3, (Pv wtT.heap.size)), (7, Sl wc57.heap.size S.ns.length S.ns.length), (8, I6 ↑i), (9, (Pv wl73.heap.size)), (10, I6 ((k + 1 : Nat) : Int)), (79, .bool (decide ((↑k : Int) < ↑p.r.length))), (11, (rsz 2 p.rv (k + 1) p.r.length (capOf p.rv))), (12, .slice b5134 n5134 c5134), (118, .bool false), (14, (Pv x21_12)), (13, .slice qb qn qc), (150, .bool false)] 3 0 hS (.cons ((by rw [show (↑k + 1 : Int) = ((k + 1 : Nat) : Int) from by omega]; exact as_i64 (by omega))) .nil) fun a hS => seg_end ?_
     exact ⟨k + 1, ⟨hS.kp [(1, (Pv w.heap.size)), (3, (Pv wtT.heap.size)), (7, Sl wc57.heap.size S.ns.length S.ns.length), (8, I6 ↑i), (9, (Pv wl73.heap.size)), (10, I6 ((k + 1 : Nat) : Int))], hE255, by omega⟩, by omega⟩
   ·
    replace hb130 := of_decide_eq_false hb130
    have hEl122 : Ext [wc57.heap.size] wm64 wl122 := hE117.trans0 hXl122
    refine wpIn_exit <| then_exit <| then_exit <| inBlock_hit <| hK120 _ _ <| sq fun K256 hK256 => ?_
    rcases (show (T.full = true) ∨ (T.full = false) from by cases T.full <;> simp) with hfu | hfu
    ·
     rw [hfu] at hB124
     refine rgn 3 <| sd ww [.p, .ld (.bool true), .p] [wl122.cell? ⟨wtT.heap.size, 4, none⟩ = some (.bool true)] [(153, .bool false)] [] 3 0 hS (.cons (hB124.cell 4 rfl) .nil) fun a hS => seg_end <| hK256 _ _ ?_
     refine cond_f hS rfl ?_
     refine wpIn_skip <| inBlock_normal <| hK80 _ _ <| rgn 3 <| sd ww [.p, .as (I6 (↑i + 1)), .p] [Value.int .i64 (IntKind.i64.wrap (↑i + 1)) = I6 (↑i + 1)] [(8, I6 (↑i + 1))] [] 3 0 hS (.cons (as_i64 (by omega)) .nil) fun a hS => seg_end ?_
     exact ⟨(i + 1, ms), ⟨hS.kp [(1, (Pv w.heap.size)), (3, (Pv wtT.heap.size)), (7, Sl wc57.heap.size S.ns.length S.ns.length), (8, I6 (↑i + 1))], hEl122, by omega, hB125, hml, fun h => by rw [hfu] at h; cases h⟩, by simp only; omega⟩
    ·
     rw [hfu] at hB124
     obtain ⟨hyn, hyl⟩ := hTT0.yld hfu
     have hyln := hyl.1
     have hMi := hM hfu
     obtain ⟨lyA, hyA⟩ : ∃ l, T.yl[p.l.toNat]? = some l := ⟨_, List.getElem?_eq_getElem (by omega)⟩
     obtain ⟨vyA, hvyA, hryA⟩ := hG127.ly.at' hyA
     have hym := hTT0.ymax lyA (List.mem_of_getElem? hyA)
     refine rgn 3 <| sd ww [.p, .ld (.bool false), .p] [wl122.cell? ⟨wtT.heap.size, 4, none⟩ = some (.bool false)] [(153, .bool true)] [] 3 0 hS (.cons (hB124.cell 4 rfl) .nil) fun a hS => seg_end <| hK256 _ _ ?_
     refine cond_t hS rfl ?_
     refine sq fun K257 hK257 => rgn 5 <| sd ww [.lds [Sl T.eg S.ns.length S.ns.length, .slice T.fb S.ns.length T.fc, .slice T.wb S.ns.length T.wc, .slice T.yb T.yn T.yc, .bool false], .lds [S.lv, S.nv, I6 S.st, S.pv], .lds [I6 p.l, p.rv]] [wl122.cell? ⟨wtT.heap.size, 0, none⟩ = some (Sl T.eg S.ns.length S.ns.length), wl122.cell? ⟨wtT.heap.size, 1, none⟩ = some (.slice T.fb S.ns.length T.fc), wl122.cell? ⟨wtT.heap.size, 2, none⟩ = some (.slice T.wb S.ns.length T.wc), wl122.cell? ⟨wtT.heap.size, 3, none⟩ = some (.slice T.yb T.yn T.yc), wl122.cell? ⟨wtT.heap.size, 4, none⟩ = some (.bool false), wl122.cell? ⟨w.heap.size, 0, none⟩ = some (S.lv), wl122.cell? ⟨w.heap.size, 1, none⟩ = some (S.nv), wl122.cell? ⟨w.heap.size, 2, none⟩ = some (I6 S.st), wl122.cell? ⟨w.heap.size, 3, none⟩ = some (S.pv), wl122.cell? ⟨wl73.heap.size, 0, none⟩ = some (I6 p.l), wl122.cell? ⟨wl73.heap.size, 1, none⟩ = some (p.rv)] [(154, .agg #[Sl T.eg S.ns.length S.ns.length, .slice T.fb S.ns.length T.fc, .slice T.wb S.ns.length T.wc, .slice T.yb T.yn T.yc, .bool false]), (155, .agg S.ca), (156, .agg #[I6 p.l, p.rv])] [] 3 2 hS (.cons (hB124.cell 0 rfl) (.cons (hB124.cell 1 rfl) (.cons (hB124.cell 2 rfl) (.cons (hB124.cell 3 rfl) (.cons (hB124.cell 4 rfl) (.cons (hB123.cell 0 rfl) (.cons (hB123.cell 1 rfl) (.cons (hB123.cell 2 rfl) (.cons (hB123.cell 3 rfl) (.cons (hB126.cell 0 rfl) (.cons (hB126.cell 1 rfl) .nil))))))))))) fun a hS => eff_call ww (r := 1) (f := 40) (vs := [.agg #[Sl T.eg S.ns.length S.ns.length, .slice T.fb S.ns.length T.fc, .slice T.wb S.ns.length T.wc, .slice T.yb T.yn T.yc, .bool false], .agg S.ca, .agg #[I6 p.l, p.rv]]) (cap := #[]) (d := (some 157)) hS (by kernel_rfl) Tryd.call40 #[.agg #[Sl T.eg S.ns.length S.ns.length, .slice T.fb S.ns.length T.fc, .slice T.wb S.ns.length T.wc, .slice T.yb T.yn T.yc, .bool false], .agg S.ca, .agg #[I6 p.l, p.rv]] (by kernel_rfl) ((by have h := yld_any2 hG (hbl73.trans hEl122 (fun b hbM => by simp at hbM; rw [hbM]; exact .inr (Nat.le_trans hb.size hE62.size))) (hG127.ext0 (Ext.refl [] _)) hok hfu hpm; unfold Td.cells at h; rw [hfu] at h; exact h)) ?_
     rintro _ wc258 ⟨b6258, n6258, c6258, rfl, hO5258, hN5258, hK5258, hEc258⟩
     refine ⟨_, rfl, fun a hS => ?_⟩
     have hB260 := hB124.ext hEc258 (by simp)
     have hB261 := hB125.ext hEc258 (by simp)
     have hB262 := hB126.ext hEc258 (by simp)
     have hG263 : TdOk S w2.heap.size wc258 T := hG127.extG hEc258 hTl (by simp)
     have hE264 := hEl122.trans0 hEc258
     refine sd ww [.p] [] [(15, .slice b6258 n6258 c6258)] [] 5 0 hS .nil fun a hS => seg_end <| hK257 _ _ <| sq fun K265 hK265 => sq fun K266 hK266 => rgn 8 <| sd ww [.p, .p, .ld (.slice T.yb T.yn T.yc), .p, .ld (I6 p.l), .run ((Po (bof (.slice T.yb T.yn T.yc)) (0 + p.l.toNat * 1))), .ld (vyA)] [wc258.cell? ⟨wtT.heap.size, 3, none⟩ = some (.slice T.yb T.yn T.yc), wc258.cell? ⟨wl73.heap.size, 0, none⟩ = some (I6 p.l), Ru Tryd.prog (vS (Instr.indexAt 37 (.slice T.yb T.yn T.yc) (I6 p.l))) ((Po (bof (.slice T.yb T.yn T.yc)) (0 + p.l.toNat * 1))) wc258, wc258.cell? ⟨bof (.slice T.yb T.yn T.yc), 0 + p.l.toNat * 1, none⟩ = some (vyA)] [(158, .slice b6258 n6258 c6258), (164, vyA)] [] 7 1 hS (.cons (hB260.cell 3 rfl) (.cons (hB262.cell 0 rfl) (.cons (ix_own (j := p.l.toNat) (hG263.ly.own) (by kernel_rfl) (by kernel_rfl) (Int.toNat_of_nonneg (by omega)).symm (by omega)) (.cons (OwnV.cellAt hG263.ly.own _ (by rw [Nat.zero_add, Nat.mul_one]; exact hvyA)) .nil)))) fun a hS => eff_call ww (r := 0) (f := 30) (vs := [.slice b6258 n6258 c6258, vyA]) (cap := #[]) (d := (some 165)) hS (by kernel_rfl) Tryd.call30 #[.slice b6258 n6258 c6258, vyA] (by kernel_rfl) (Less_false (yd_no hI hyl hgm hyA) (hO5258 : OwnV wc258 3 1 (.slice b6258 n6258 c6258) n6258 (ivs (mkR S.nl (rF T.yl) (row p.r)))).rd ((hG263.ext0 (Ext.refl [] _)).ly.rd hyA hvyA) (by omega)) ?_
     rintro _ wc267 ⟨rfl, hEc267⟩
     refine ⟨_, rfl, fun a hS => ?_⟩
     have hB269 := hB260.ext hEc267 (by simp)
     have hB270 := hB261.ext hEc267 (by simp)
     have hB271 := hB262.ext hEc267 (by simp)
     have hB272 := hO5258.ext hEc267 (by simp)
     have hG274 : TdOk S w2.heap.size wc267 T := hG263.extG hEc267 hTl (by simp)
     have hE275 := hE264.trans0 hEc267
     refine seg_end <| hK266 _ _ ?_
     refine cond_f hS rfl ?_
     refine wpIn_skip <| hK265 _ _ ?_
     obtain ⟨b, hmb⟩ : ∃ b, ms[p.l.toNat]? = some b := ⟨_, List.getElem?_eq_getElem (by omega)⟩
     rcases (show (b = true) ∨ (b = false) from by cases b <;> simp) with hbv | hbv
     ·
      rw [hbv] at hmb
      have hblm : (bls ms).length = S.ns.length := by rw [bls_len]; exact hml
      refine region_gh2 (G := World) ww [.q .p, .q .p, .q (.ld (I6 p.l)), .q .p, .q .p, .q (.ld (I6 p.l)), .q (.run ((Po wc57.heap.size (0 + p.l.toNat * 1)))), .q (.ld (.bool true)), .q .p, .q .no, .q .no, .q .no, .q .no, .q .no, .q .no, .q .no, .q .no, .q .p, .q (.run ((Po wc57.heap.size (0 + p.l.toNat * 1)))), .e] [0, 0, 0, 0, 0, 0, 0, 0, 0, 0, 0, 0, 0, 0, 0, 0, 0, 0, 0, 0] [0, 0, 0, 0, 0, 0, 0, 0, 0, 0, 0, 0, 0, 0, 0, 0, 0, 0, 0, 0] [0, 0, 2, 0, 0, 16, 56, 120, 248, 504, 504, 1528, 504, 4600, 15864, 32248, 65528, 131064, 262143, 524287] [19] [(19, 0)] 1 (fun ws276 => ([(1, (Pv w.heap.size)), (3, (Pv wtT.heap.size)), (7, Sl wc57.heap.size S.ns.length S.ns.length), (8, I6 ↑i), (9, (Pv wl73.heap.size)), (10, I6 ↑k), (153, .bool true), (15, .slice b6258 n6258 c6258), (165, .bool false), (166, Sl wc57.heap.size S.ns.length S.ns.length), (167, (Pv wl73.heap.size)), (168, I6 p.l), (169, Sl wc57.heap.size S.ns.length S.ns.length), (170, (Pv wl73.heap.size)), (171, I6 p.l), (172, (Po wc57.heap.size (0 + p.l.toNat * 1))), (173, .bool true), (174, .bool true), (175, undef), (176, undef), (177, undef), (178, undef), (179, undef), (180, undef), (181, undef), (182, undef), (183, .bool true), (184, (Po wc57.heap.size (0 + p.l.toNat * 1)))] : Fm)) (fun ws276 => [wc267.drew, ws276]) (wc267.drew) (fun e ws276 => hAt [True, (OwnR ws276 4 1 wc57.heap.size S.ns.length S.ns.length ((bls ms).set (0 + p.l.toNat * 1) (Value.bool true))) ∧ (Ext [wc57.heap.size] wc267.drew ws276) ∧ True] e) (fun ws276 w' => [(2, [w'.cell? ⟨wl73.heap.size, 0, none⟩ = some (I6 p.l)]), (5, [w'.cell? ⟨wl73.heap.size, 0, none⟩ = some (I6 p.l)]), (6, [Ru Tryd.prog (vS (Instr.indexAt 31 (Sl wc57.heap.size S.ns.length S.ns.length) (I6 p.l))) ((Po wc57.heap.size (0 + p.l.toNat * 1))) w']), (7, [w'.cell? ⟨wc57.heap.size, 0 + p.l.toNat * 1, none⟩ = some (.bool true)]), (18, [Ru Tryd.prog (vS (Instr.indexAt 31 (Sl wc57.heap.size S.ns.length S.ns.length) (I6 p.l))) ((Po wc57.heap.size (0 + p.l.toNat * 1))) w'])]) wc267.drew [1, 3, 7, 8, 9, 10, 153, 15, 165] [] hS (by kernel_rfl) (by kernel_rfl) (by kernel_rfl) (by kernel_rfl) (fun ws276 _ => by kernel_rfl) (by kernel_rfl) (by kernel_rfl) (by kernel_rfl) trivial ?_ (by kernel_rfl) ?_ ?_
      ·rintro e ws276 w' hw hH
       refine (.cons ?_ (.cons ?_ (.cons ?_ (.cons ?_ (.cons ?_ .nil)))))
       ·intro h1 h2
        obtain rfl : e = 0 := Nat.le_antisymm h2 h1
        have hwe : wc267.drew = w' := (hw.trans (by kernel_rfl)).symm
        subst hwe
        clear hH
        exact (.cons ((hB271.drew : Blk wc267.drew wl73.heap.size 73 (#[I6 p.l, p.rv])).cell 0 rfl) .nil)
       ·intro h1 h2
        obtain rfl : e = 0 := Nat.le_antisymm h2 h1
        have hwe : wc267.drew = w' := (hw.trans (by kernel_rfl)).symm
        subst hwe
        clear hH
        exact (.cons ((hB271.drew : Blk wc267.drew wl73.heap.size 73 (#[I6 p.l, p.rv])).cell 0 rfl) .nil)
       ·intro h1 h2
        obtain rfl : e = 0 := Nat.le_antisymm h2 h1
        have hwe : wc267.drew = w' := (hw.trans (by kernel_rfl)).symm
        subst hwe
        clear hH
        exact (.cons (ix_slice (E := 4) (size := 1) (j := p.l.toNat) (by kernel_rfl) (by kernel_rfl) (Int.toNat_of_nonneg (by omega)).symm (by omega)) .nil)
       ·intro h1 h2
        obtain rfl : e = 0 := Nat.le_antisymm h2 h1
        have hwe : wc267.drew = w' := (hw.trans (by kernel_rfl)).symm
        subst hwe
        clear hH
        exact (.cons ((hB270.drew : OwnR wc267.drew 4 1 wc57.heap.size S.ns.length S.ns.length (bls ms)).cellAt _ (bls_at hmb)) .nil)
       ·intro h1 h2
        obtain rfl : e = 0 := Nat.le_antisymm h2 h1
        have hwe : wc267.drew = w' := (hw.trans (by kernel_rfl)).symm
        subst hwe
        clear hH
        exact (.cons (ix_slice (E := 4) (size := 1) (j := p.l.toNat) (by kernel_rfl) (by kernel_rfl) (Int.toNat_of_nonneg (by omega)).symm (by omega)) .nil)
      ·refine (.cons ?eq277_19 .nil)
       ·rintro ws276 hH
        clear hH
        refine eff_gh (wc267.drew) (by kernel_rfl) ?_
        refine upon_store_own (b := wc57.heap.size) (off := 0 + p.l.toNat * 1) (u := Value.bool true) (xs := (bls ms)) (by kernel_rfl) (hB270.drew : OwnR wc267.drew 4 1 wc57.heap.size S.ns.length S.ns.length (bls ms)) (by omega) fun ws276 hOs276 hEs276 hsz276 => ?_
        exact ⟨ws276, by kernel_rfl, by kernel_rfl, by kernel_rfl, ⟨hOs276, hEs276, trivial⟩⟩
      rintro ws276 a w278 hS hw279 hH
      obtain ⟨hOs276, hEs276, _⟩ := hH
      replace hw279 : w278 = ws276 := hw279.trans (by kernel_rfl)
      have hB285 : OwnR w278 4 1 wc57.heap.size S.ns.length S.ns.length ((bls ms).set (0 + p.l.toNat * 1) (Value.bool true)) := by rw [hw279]; exact hOs276
      have hE286 : Ext [wc57.heap.size] wm64 w278 := by rw [hw279]; exact (hE275.drew).trans hEs276 (fun b hb => by simp at hb; subst hb; exact .inl (by simp))
      have hX287 : Ext [wc57.heap.size] wc267 w278 := by rw [hw279]; exact ((Ext.refl _ _).drew).trans hEs276 (by simp)
      have hG288 : TdOk S w2.heap.size w278 T := hG274.extG hX287 hTl (by simp)
      replace hS := hS.kp [(1, (Pv w.heap.size)), (3, (Pv wtT.heap.size)), (7, Sl wc57.heap.size S.ns.length S.ns.length), (8, I6 ↑i), (9, (Pv wl73.heap.size)), (10, I6 ↑k), (153, .bool true), (15, .slice b6258 n6258 c6258), (165, .bool false)]
      refine inBlock_normal <| hK80 _ _ <| rgn 3 <| sd ww [.p, .as (I6 (↑i + 1)), .p] [Value.int .i64 (IntKind.i64.wrap (↑i + 1)) = I6 (↑i + 1)] [(8, I6 (↑i + 1))] [] 3 0 hS (.cons (as_i64 (by omega)) .nil) fun a hS => seg_end ?_
      have hgs := hB285
      rw [bls_set] at hgs
      exact ⟨(i + 1, (ms.set p.l.toNat true)), ⟨hS.kp [(1, (Pv w.heap.size)), (3, (Pv wtT.heap.size)), (7, Sl wc57.heap.size S.ns.length S.ns.length), (8, I6 (↑i + 1))], hE286, by omega, hgs, by rw [List.length_set]; exact hml, fun _ => hMi.step hpi (by omega) (.inl rfl) (fun _ => rfl)⟩, by simp only; omega⟩
     ·
      rw [hbv] at hmb
      have hblm : (bls ms).length = S.ns.length := by rw [bls_len]; exact hml
      refine region_gh2 (G := World × World) ww [.q .p, .q .p, .q (.ld (I6 p.l)), .q .p, .q .p, .q (.ld (I6 p.l)), .q (.run ((Po wc57.heap.size (0 + p.l.toNat * 1)))), .q (.ld (.bool false)), .q .p, .q .p, .q .p, .q (.ld (.slice T.yb T.yn T.yc)), .q .p, .q (.ld (I6 p.l)), .q (.run ((Po (bof (.slice T.yb T.yn T.yc)) (0 + p.l.toNat * 1)))), .q (.ld (vyA)), .e, .q .p, .q (.run ((Po wc57.heap.size (0 + p.l.toNat * 1)))), .e] [0, 0, 0, 0, 0, 0, 0, 0, 0, 0, 0, 0, 0, 0, 0, 0, 0, 1, 1, 1] [1, 1, 1, 0, 0, 0, 0, 0, 0, 0, 0, 0, 0, 0, 0, 0, 0, 1, 1, 1] [0, 0, 2, 0, 0, 16, 56, 120, 248, 504, 504, 1528, 504, 4600, 15864, 32248, 65528, 131064, 262143, 524287] [16, 19] [(16, 0), (19, 1)] 2 (fun ⟨wc289, ws290⟩ => ([(1, (Pv w.heap.size)), (3, (Pv wtT.heap.size)), (7, Sl wc57.heap.size S.ns.length S.ns.length), (8, I6 ↑i), (9, (Pv wl73.heap.size)), (10, I6 ↑k), (153, .bool true), (15, .slice b6258 n6258 c6258), (165, .bool false), (166, Sl wc57.heap.size S.ns.length S.ns.length), (167, (Pv wl73.heap.size)), (168, I6 p.l), (169, Sl wc57.heap.size S.ns.length S.ns.length), (170, (Pv wl73.heap.size)), (171, I6 p.l), (172, (Po wc57.heap.size (0 + p.l.toNat * 1))), (173, .bool false), (174, .bool false), (175, .slice b6258 n6258 c6258), (176, (Po wtT.heap.size 3)), (177, .slice T.yb T.yn T.yc), (178, (Pv wl73.heap.size)), (179, I6 p.l), (180, (Po (bof (.slice T.yb T.yn T.yc)) (0 + p.l.toNat * 1))), (181, vyA), (182, .bool (decide (mkR S.nl (rF T.yl) (row p.r) = lyA))), (183, .bool (decide (mkR S.nl (rF T.yl) (row p.r) = lyA))), (184, (Po wc57.heap.size (0 + p.l.toNat * 1)))] : Fm)) (fun ⟨wc289, ws290⟩ => [wc267.drew, wc289, ws290]) (wc267.drew) (fun e ⟨wc289, ws290⟩ => hAt [True, (Ext [] wc267.drew wc289) ∧ True, (Ext [] wc267.drew wc289) ∧ (OwnR ws290 4 1 wc57.heap.size S.ns.length S.ns.length ((bls ms).set (0 + p.l.toNat * 1) (Value.bool (decide (mkR S.nl (rF T.yl) (row p.r) = lyA))))) ∧ (Ext [wc57.heap.size] wc289 ws290) ∧ True] e) (fun ⟨wc289, ws290⟩ w' => [(2, [w'.cell? ⟨wl73.heap.size, 0, none⟩ = some (I6 p.l)]), (5, [w'.cell? ⟨wl73.heap.size, 0, none⟩ = some (I6 p.l)]), (6, [Ru Tryd.prog (vS (Instr.indexAt 31 (Sl wc57.heap.size S.ns.length S.ns.length) (I6 p.l))) ((Po wc57.heap.size (0 + p.l.toNat * 1))) w']), (7, [w'.cell? ⟨wc57.heap.size, 0 + p.l.toNat * 1, none⟩ = some (.bool false)]), (11, [w'.cell? ⟨wtT.heap.size, 3, none⟩ = some (.slice T.yb T.yn T.yc)]), (13, [w'.cell? ⟨wl73.heap.size, 0, none⟩ = some (I6 p.l)]), (14, [Ru Tryd.prog (vS (Instr.indexAt 37 (.slice T.yb T.yn T.yc) (I6 p.l))) ((Po (bof (.slice T.yb T.yn T.yc)) (0 + p.l.toNat * 1))) w']), (15, [w'.cell? ⟨bof (.slice T.yb T.yn T.yc), 0 + p.l.toNat * 1, none⟩ = some (vyA)]), (18, [Ru Tryd.prog (vS (Instr.indexAt 31 (Sl wc57.heap.size S.ns.length S.ns.length) (I6 p.l))) ((Po wc57.heap.size (0 + p.l.toNat * 1))) w'])]) (wc267.drew, w) [1, 3, 7, 8, 9, 10, 153, 15, 165] [] hS (by kernel_rfl) (by kernel_rfl) (by kernel_rfl) (by kernel_rfl) (fun ⟨wc289, ws290⟩ _ => by kernel_rfl) (by kernel_rfl) (by kernel_rfl) (by kernel_rfl) trivial ?_ (by kernel_rfl) ?_ ?_
      ·rintro e ⟨wc289, ws290⟩ w' hw hH
       refine (.cons ?_ (.cons ?_ (.cons ?_ (.cons ?_ (.cons ?_ (.cons ?_ (.cons ?_ (.cons ?_ (.cons ?_ .nil)))))))))
       ·intro h1 h2
        replace h1 : 0 ≤ e := h1
        replace h2 : e ≤ 1 := h2
        have he : e = 0 ∨ e = 1 := by omega
        rcases he with rfl | rfl
        ·have hwe : wc267.drew = w' := (hw.trans (by kernel_rfl)).symm
         subst hwe
         clear hH
         exact (.cons ((hB271.drew : Blk wc267.drew wl73.heap.size 73 (#[I6 p.l, p.rv])).cell 0 rfl) .nil)
        ·have hwe : wc289 = w' := (hw.trans (by kernel_rfl)).symm
         subst hwe
         obtain ⟨hEc289, _⟩ := hH
         exact (.cons (((hB271.drew : Blk wc267.drew wl73.heap.size 73 (#[I6 p.l, p.rv])).ext hEc289 (by simp) : Blk wc289 wl73.heap.size 73 (#[I6 p.l, p.rv])).cell 0 rfl) .nil)
       ·intro h1 h2
        obtain rfl : e = 0 := Nat.le_antisymm h2 h1
        have hwe : wc267.drew = w' := (hw.trans (by kernel_rfl)).symm
        subst hwe
        clear hH
        exact (.cons ((hB271.drew : Blk wc267.drew wl73.heap.size 73 (#[I6 p.l, p.rv])).cell 0 rfl) .nil)
       ·intro h1 h2
        obtain rfl : e = 0 := Nat.le_antisymm h2 h1
        have hwe : wc267.drew = w' := (hw.trans (by kernel_rfl)).symm
        subst hwe
        clear hH
        exact (.cons (ix_slice (E := 4) (size := 1) (j := p.l.toNat) (by kernel_rfl) (by kernel_rfl) (Int.toNat_of_nonneg (by omega)).symm (by omega)) .nil)
       ·intro h1 h2
        obtain rfl : e = 0 := Nat.le_antisymm h2 h1
        have hwe : wc267.drew = w' := (hw.trans (by kernel_rfl)).symm
        subst hwe
        clear hH
        exact (.cons ((hB270.drew : OwnR wc267.drew 4 1 wc57.heap.size S.ns.length S.ns.length (bls ms)).cellAt _ (bls_at hmb)) .nil)
       ·intro h1 h2
        obtain rfl : e = 0 := Nat.le_antisymm h2 h1
        have hwe : wc267.drew = w' := (hw.trans (by kernel_rfl)).symm
        subst hwe
        clear hH
        exact (.cons ((hB269.drew : Blk wc267.drew wtT.heap.size 53 (#[Sl T.eg S.ns.length S.ns.length, .slice T.fb S.ns.length T.fc, .slice T.wb S.ns.length T.wc, .slice T.yb T.yn T.yc, .bool false])).cell 3 rfl) .nil)
       ·intro h1 h2
        obtain rfl : e = 0 := Nat.le_antisymm h2 h1
        have hwe : wc267.drew = w' := (hw.trans (by kernel_rfl)).symm
        subst hwe
        clear hH
        exact (.cons ((hB271.drew : Blk wc267.drew wl73.heap.size 73 (#[I6 p.l, p.rv])).cell 0 rfl) .nil)
       ·intro h1 h2
        obtain rfl : e = 0 := Nat.le_antisymm h2 h1
        have hwe : wc267.drew = w' := (hw.trans (by kernel_rfl)).symm
        subst hwe
        clear hH
        exact (.cons (ix_own (j := p.l.toNat) (hG274.ly.own) (by kernel_rfl) (by kernel_rfl) (Int.toNat_of_nonneg (by omega)).symm (by omega)) .nil)
       ·intro h1 h2
        obtain rfl : e = 0 := Nat.le_antisymm h2 h1
        have hwe : wc267.drew = w' := (hw.trans (by kernel_rfl)).symm
        subst hwe
        clear hH
        exact (.cons (OwnV.cellAt (hG274.ly.own.drew : OwnV wc267.drew 51 1 (.slice T.yb T.yn T.yc) T.yn (T.yL.map Rw.v)) _ (by rw [Nat.zero_add, Nat.mul_one]; exact hvyA)) .nil)
       ·intro h1 h2
        obtain rfl : e = 1 := Nat.le_antisymm h2 h1
        have hwe : wc289 = w' := (hw.trans (by kernel_rfl)).symm
        subst hwe
        obtain ⟨hEc289, _⟩ := hH
        exact (.cons (ix_slice (E := 4) (size := 1) (j := p.l.toNat) (by kernel_rfl) (by kernel_rfl) (Int.toNat_of_nonneg (by omega)).symm (by omega)) .nil)
      ·refine (.cons ?eq291_16 (.cons ?eq291_19 .nil))
       ·rintro ⟨wc289, ws290⟩ hH
        clear hH
        refine eff_gh (wc267.drew) (by kernel_rfl) ?_
        refine upon_call (f := 35) (vs := [.slice b6258 n6258 c6258, vyA]) (cap := #[]) (d := (some 182)) (by kernel_rfl) Tryd.call35 #[.slice b6258 n6258 c6258, vyA] (by kernel_rfl) (SameInts_any (hB272.drew : OwnV wc267.drew 3 1 (.slice b6258 n6258 c6258) n6258 (ivs (mkR S.nl (rF T.yl) (row p.r)))).rd ((hG274.ext0 ((Ext.refl [] _).drew)).ly.rd hyA hvyA) (by omega)) ?_
        rintro _ wc289 ⟨rfl, hEc289⟩
        exact ⟨_, rfl, ⟨(wc289, ws290), by kernel_rfl, by kernel_rfl, by kernel_rfl, ⟨hEc289, trivial⟩⟩⟩
       ·rintro ⟨wc289, ws290⟩ hH
        obtain ⟨hEc289, _⟩ := hH
        refine eff_gh (wc289) (by kernel_rfl) ?_
        refine upon_store_own (b := wc57.heap.size) (off := 0 + p.l.toNat * 1) (u := Value.bool (decide (mkR S.nl (rF T.yl) (row p.r) = lyA))) (xs := (bls ms)) (by kernel_rfl) ((hB270.drew : OwnR wc267.drew 4 1 wc57.heap.size S.ns.length S.ns.length (bls ms)).ext hEc289 (by simp) : OwnR wc289 4 1 wc57.heap.size S.ns.length S.ns.length (bls ms)) (by omega) fun ws290 hOs290 hEs290 hsz290 => ?_
        exact ⟨(wc289, ws290), by kernel_rfl, by kernel_rfl, by kernel_rfl, ⟨hEc289, hOs290, hEs290, trivial⟩⟩
      rintro ⟨wc289, ws290⟩ a w292 hS hw293 hH
      obtain ⟨hEc289, hOs290, hEs290, _⟩ := hH
      replace hw293 : w292 = ws290 := hw293.trans (by kernel_rfl)
      have hB299 : OwnR w292 4 1 wc57.heap.size S.ns.length S.ns.length ((bls ms).set (0 + p.l.toNat * 1) (Value.bool (decide (mkR S.nl (rF T.yl) (row p.r) = lyA)))) := by rw [hw293]; exact hOs290
      have hE300 : Ext [wc57.heap.size] wm64 w292 := by rw [hw293]; exact ((hE275.drew).trans0 hEc289).trans hEs290 (fun b hb => by simp at hb; subst hb; exact .inl (by simp))
      have hX301 : Ext [wc57.heap.size] wc267 w292 := by rw [hw293]; exact (((Ext.refl _ _).drew).trans0 hEc289).trans hEs290 (by simp)
      have hG302 : TdOk S w2.heap.size w292 T := hG274.extG hX301 hTl (by simp)
      replace hS := hS.kp [(1, (Pv w.heap.size)), (3, (Pv wtT.heap.size)), (7, Sl wc57.heap.size S.ns.length S.ns.length), (8, I6 ↑i), (9, (Pv wl73.heap.size)), (10, I6 ↑k), (153, .bool true), (15, .slice b6258 n6258 c6258), (165, .bool false)]
      refine inBlock_normal <| hK80 _ _ <| rgn 3 <| sd ww [.p, .as (I6 (↑i + 1)), .p] [Value.int .i64 (IntKind.i64.wrap (↑i + 1)) = I6 (↑i + 1)] [(8, I6 (↑i + 1))] [] 3 0 hS (.cons (as_i64 (by omega)) .nil) fun a hS => seg_end ?_
      have hgs := hB299
      rw [bls_set] at hgs
      exact ⟨(i + 1, (ms.set p.l.toNat (decide (mkR S.nl (rF T.yl) (row p.r) = lyA)))), ⟨hS.kp [(1, (Pv w.heap.size)), (3, (Pv wtT.heap.size)), (7, Sl wc57.heap.size S.ns.length S.ns.length), (8, I6 (↑i + 1))], hE300, by omega, hgs, by rw [List.length_set]; exact hml, fun _ => hMi.step hpi (by omega) (.inr fun h => by rw [rF_at hyA]; exact of_decide_eq_false h) (fun h => by rw [hmb] at h; cases h)⟩, by simp only; omega⟩
  ·
   replace hb79 := of_decide_eq_false hb79
   have hEl73 : Ext [] w wl73 := hE70.trans hXl73 (fun b hbM => by simp at hbM; rw [hbM]; exact .inr hE62.size)
   have hie : i = S.ps.length := by omega
   refine wpIn_exit <| then_exit <| then_exit <| inBlock_hit <| hK71 _ _ <| sq fun K303 hK303 => sq fun K304 hK304 => rgn 1 <| sd ww [.p] [] [(16, I6 0)] [] 1 0 hS .nil fun a hS => seg_end <| hK304 _ _ <| wpIn_block ?_
   have hbl305 : Ext [] w0 wl73 := (hb.trans0 hEl73)
   refine loop_ghost (fun (j : Nat) a' w' => St 260 [] [(1, (Pv w.heap.size)), (3, (Pv wtT.heap.size)), (7, Sl wc57.heap.size S.ns.length S.ns.length), (16, I6 ↑j)] a' ∧ Ext [] wl73 w' ∧ j ≤ S.ns.length) (fun (j : Nat) => S.ns.length - j) 0 ⟨hS.keepTo [1, 3, 7, 16] (by kernel_rfl), Ext.refl _ _, by omega⟩ ?_
   rintro j a wl305 ⟨hS, hXl305, hj⟩
   have hB306 := hB74.ext hXl305 (by simp)
   have hB307 := hB75.ext hXl305 (by simp)
   have hB308 := hg1.ext hXl305 (by simp)
   have hG309 : TdOk S w2.heap.size wl305 T := hG76.extG hXl305 hTl (by simp)
   refine sq fun K310 hK310 => sq fun K311 hK311 => rgn 5 <| sd ww [.p, .p, .ld (S.nv), .run (I6 ↑S.ns.length), .p] [wl305.cell? ⟨w.heap.size, 1, none⟩ = some (S.nv), Ru Tryd.prog (vS (Builtin.len_ #[23] 3 #[S.nv])) (I6 ↑S.ns.length) wl305] [(189, .bool (decide ((↑j : Int) < ↑S.ns.length)))] [] 5 0 hS (.cons (hB306.cell 1 rfl) (.cons (run_len_rd (e := 9) hG.names (by kernel_rfl)) .nil)) fun a hS => seg_end <| hK311 _ _ ?_
   refine cond_b hS rfl (fun hb312 => ?_) (fun hb312 => ?_)
   ·
    replace hb312 := of_decide_eq_true hb312
    obtain ⟨lfj, hfj⟩ : ∃ l, T.fl[j]? = some l := ⟨_, List.getElem?_eq_getElem (by omega)⟩
    obtain ⟨vfj, hvfj, hrfj⟩ := hG309.lf.at' hfj
    obtain ⟨lwj, hwj⟩ : ∃ l, T.wl[j]? = some l := ⟨_, List.getElem?_eq_getElem (by omega)⟩
    obtain ⟨vwj, hvwj, hrwj⟩ := hG309.lw.at' hwj
    obtain ⟨ej, hej⟩ : ∃ b, T.es[j]? = some b := ⟨_, List.getElem?_eq_getElem (by omega)⟩
    have hfm := hIF.max1 lfj (List.mem_of_getElem? hfj)
    have hwm := hIW.max1 lwj (List.mem_of_getElem? hwj)
    refine wpIn_skip <| hK310 _ _ <| sq fun K313 hK313 => wpIn_block <| sq fun K314 hK314 => ?_
    rcases (show (T.full = true) ∨ (T.full = false) from by cases T.full <;> simp) with hfu | hfu
    ·
     rw [hfu] at hB307
     refine region_gh2 (G := World × World) ww [.q .p, .q (.ld (.slice T.fb S.ns.length T.fc)), .q .p, .q (.run ((Po (bof (.slice T.fb S.ns.length T.fc)) (0 + j * 1)))), .q (.ld (vfj)), .e, .q .p, .q .p, .q .p, .q (.ld (.slice T.wb S.ns.length T.wc)), .q .p, .q (.run ((Po (bof (.slice T.wb S.ns.length T.wc)) (0 + j * 1)))), .q (.ld (vwj)), .e, .q .p, .q .p, .q .p, .q .p, .q (.ld (.bool true)), .q .p, .q .p, .q .no, .q .no, .q .no, .q .no, .q .no, .q .no, .q .no, .q .no, .q .no, .q .no, .q .no, .q .no, .q .no, .q .no, .q .no, .q .no, .q .no, .q .no, .q .no, .q .no, .q .no, .q .no, .q .no, .q .no, .q .no, .q .no, .q .no, .q .no, .q .no, .q .no, .q .no, .q .no, .q .no, .q .no, .q .no, .q .no, .q .no, .q .no, .q .no, .q .no, .q .no, .q .no, .q .no, .q .no, .q .no, .q .p, .q .p] [0, 0, 0, 0, 0, 0, 1, 1, 1, 1, 1, 1, 1, 1, 2, 2, 2, 2, 2, 2, 2, 2, 2, 2, 2, 2, 2, 2, 2, 2, 2, 2, 2, 2, 2, 2, 2, 2, 2, 2, 2, 2, 2, 2, 2, 2, 2, 2, 2, 2, 2, 2, 2, 2, 2, 2, 2, 2, 2, 2, 2, 2, 2, 2, 2, 2, 2, 2] [0, 0, 0, 0, 0, 0, 1, 1, 1, 1, 1, 1, 1, 1, 2, 2, 2, 2, 2, 2, 2, 2, 2, 2, 2, 2, 2, 2, 2, 2, 2, 2, 2, 2, 2, 2, 2, 2, 2, 2, 2, 2, 2, 2, 2, 2, 2, 2, 2, 2, 2, 2, 2, 2, 2, 2, 2, 2, 2, 2, 2, 2, 2, 2, 2, 2, 2, 2] [0, 1, 0, 7, 15, 31, 63, 127, 255, 511, 255, 2047, 4095, 8191, 16383, 32767, 65535, 131071, 262143, 524287, 1048575, 2097151, 2097151, 8388607, 16777215, 33554431, 67108863, 134217727, 268435455, 134217727, 1073741823, 2147483647, 4294967295, 8589934591, 134217727, 17314086911, 134217727, 120393302015, 257832255487, 549755813887, 1099511627775, 2199023255551, 4398046511103, 8796093022207, 4398046511103, 35184372088831, 70368744177663, 140737488355327, 281474976710655, 562949953421311, 1125899906842623, 2251799813685247, 1125899906842623, 9007199254740991, 18014398509481983, 1125899906842623, 37154696925806591, 1125899906842623, 253327479039590399, 541557855191302143, 1118018607494725631, 2270940112101572607, 4611686018427387903, 9223372036854775807, 18446744073709551615, 36893488147419103231, 73786976294838206463, 147573952589676412927] [5, 13] [(5, 0), (13, 1)] 2 (fun ⟨wc315, wc316⟩ => ([(1, (Pv w.heap.size)), (3, (Pv wtT.heap.size)), (7, Sl wc57.heap.size S.ns.length S.ns.length), (16, I6 ↑j), (189, .bool (decide ((↑j : Int) < ↑S.ns.length))), (192, (Po wtT.heap.size 1)), (193, .slice T.fb S.ns.length T.fc), (194, I6 ↑j), (195, (Po (bof (.slice T.fb S.ns.length T.fc)) (0 + j * 1))), (196, vfj), (197, .bool true), (198, .bool false), (199, .bool false), (200, (Po wtT.heap.size 2)), (201, .slice T.wb S.ns.length T.wc), (202, I6 ↑j), (203, (Po (bof (.slice T.wb S.ns.length T.wc)) (0 + j * 1))), (204, vwj), (205, .bool true), (206, .bool false), (207, .bool false), (208, .bool false), (209, (Po wtT.heap.size 4)), (210, .bool true), (211, .bool false), (212, .bool false), (213, undef), (214, undef), (215, undef), (216, undef), (217, undef), (218, undef), (219, undef), (220, undef), (221, undef), (222, undef), (223, undef), (224, undef), (225, undef), (226, undef), (227, undef), (228, undef), (229, undef), (230, undef), (231, undef), (232, undef), (233, undef), (234, undef), (235, undef), (236, undef), (237, undef), (238, undef), (239, undef), (240, undef), (241, undef), (242, undef), (243, undef), (244, undef), (245, undef), (246, undef), (247, undef), (248, undef), (249, undef), (250, undef), (251, undef), (252, undef), (253, undef), (254, undef), (255, undef), (256, undef), (257, undef), (258, .bool false), (259, .bool false)] : Fm)) (fun ⟨wc315, wc316⟩ => [wl305.drew, wc315, wc316]) (wl305.drew) (fun e ⟨wc315, wc316⟩ => hAt [True, (Ext [] wl305.drew wc315) ∧ True, (Ext [] wl305.drew wc315) ∧ (Ext [] wc315 wc316) ∧ True] e) (fun ⟨wc315, wc316⟩ w' => [(1, [w'.cell? ⟨wtT.heap.size, 1, none⟩ = some (.slice T.fb S.ns.length T.fc)]), (3, [Ru Tryd.prog (vS (Instr.indexAt 37 (.slice T.fb S.ns.length T.fc) (I6 ↑j))) ((Po (bof (.slice T.fb S.ns.length T.fc)) (0 + j * 1))) w']), (4, [w'.cell? ⟨bof (.slice T.fb S.ns.length T.fc), 0 + j * 1, none⟩ = some (vfj)]), (9, [w'.cell? ⟨wtT.heap.size, 2, none⟩ = some (.slice T.wb S.ns.length T.wc)]), (11, [Ru Tryd.prog (vS (Instr.indexAt 37 (.slice T.wb S.ns.length T.wc) (I6 ↑j))) ((Po (bof (.slice T.wb S.ns.length T.wc)) (0 + j * 1))) w']), (12, [w'.cell? ⟨bof (.slice T.wb S.ns.length T.wc), 0 + j * 1, none⟩ = some (vwj)]), (18, [w'.cell? ⟨wtT.heap.size, 4, none⟩ = some (.bool true)])]) (wl305.drew, w) [1, 3, 7, 16, 189] [] hS (by kernel_rfl) (by kernel_rfl) (by kernel_rfl) (by kernel_rfl) (fun ⟨wc315, wc316⟩ _ => by kernel_rfl) (by kernel_rfl) (by kernel_rfl) (by kernel_rfl) trivial ?_ (by kernel_rfl) ?_ ?_
     ·rintro e ⟨wc315, wc316⟩ w' hw hH
      refine (.cons ?_ (.cons ?_ (.cons ?_ (.cons ?_ (.cons ?_ (.cons ?_ (.cons ?_ .nil)))))))
      ·intro h1 h2
       obtain rfl : e = 0 := Nat.le_antisymm h2 h1
       have hwe : wl305.drew = w' := (hw.trans (by kernel_rfl)).symm
       subst hwe
       clear hH
       exact (.cons ((hB307.drew : Blk wl305.drew wtT.heap.size 53 (#[Sl T.eg S.ns.length S.ns.length, .slice T.fb S.ns.length T.fc, .slice T.wb S.ns.length T.wc, .slice T.yb T.yn T.yc, .bool true])).cell 1 rfl) .nil)
      ·intro h1 h2
       obtain rfl : e = 0 := Nat.le_antisymm h2 h1
       have hwe : wl305.drew = w' := (hw.trans (by kernel_rfl)).symm
       subst hwe
       clear hH
       exact (.cons (ix_own (j := j) (hG309.lf.own) (by kernel_rfl) (by kernel_rfl) rfl (by omega)) .nil)
      ·intro h1 h2
       obtain rfl : e = 0 := Nat.le_antisymm h2 h1
       have hwe : wl305.drew = w' := (hw.trans (by kernel_rfl)).symm
       subst hwe
       clear hH
       exact (.cons (OwnV.cellAt (hG309.lf.own.drew : OwnV wl305.drew 51 1 (.slice T.fb S.ns.length T.fc) S.ns.length (T.fL.map Rw.v)) _ (by rw [Nat.zero_add, Nat.mul_one]; exact hvfj)) .nil)
      ·intro h1 h2
       obtain rfl : e = 1 := Nat.le_antisymm h2 h1
       have hwe : wc315 = w' := (hw.trans (by kernel_rfl)).symm
       subst hwe
       obtain ⟨hEc315, _⟩ := hH
       exact (.cons (((hB307.drew : Blk wl305.drew wtT.heap.size 53 (#[Sl T.eg S.ns.length S.ns.length, .slice T.fb S.ns.length T.fc, .slice T.wb S.ns.length T.wc, .slice T.yb T.yn T.yc, .bool true])).ext hEc315 (by simp) : Blk wc315 wtT.heap.size 53 (#[Sl T.eg S.ns.length S.ns.length, .slice T.fb S.ns.length T.fc, .slice T.wb S.ns.length T.wc, .slice T.yb T.yn T.yc, .bool true])).cell 2 rfl) .nil)
      ·intro h1 h2
       obtain rfl : e = 1 := Nat.le_antisymm h2 h1
       have hwe : wc315 = w' := (hw.trans (by kernel_rfl)).symm
       subst hwe
       obtain ⟨hEc315, _⟩ := hH
       exact (.cons (ix_own (j := j) (hG309.lw.own) (by kernel_rfl) (by kernel_rfl) rfl (by omega)) .nil)
      ·intro h1 h2
       obtain rfl : e = 1 := Nat.le_antisymm h2 h1
       have hwe : wc315 = w' := (hw.trans (by kernel_rfl)).symm
       subst hwe
       obtain ⟨hEc315, _⟩ := hH
       exact (.cons (OwnV.cellAt ((hG309.lw.own.drew : OwnV wl305.drew 51 1 (.slice T.wb S.ns.length T.wc) S.ns.length (T.wL.map Rw.v)).ext hEc315 (by simp) : OwnV wc315 51 1 (.slice T.wb S.ns.length T.wc) S.ns.length (T.wL.map Rw.v)) _ (by rw [Nat.zero_add, Nat.mul_one]; exact hvwj)) .nil)
      ·intro h1 h2
       obtain rfl : e = 2 := Nat.le_antisymm h2 h1
       have hwe : wc316 = w' := (hw.trans (by kernel_rfl)).symm
       subst hwe
       obtain ⟨hEc315, hEc316, _⟩ := hH
       exact (.cons ((((hB307.drew : Blk wl305.drew wtT.heap.size 53 (#[Sl T.eg S.ns.length S.ns.length, .slice T.fb S.ns.length T.fc, .slice T.wb S.ns.length T.wc, .slice T.yb T.yn T.yc, .bool true])).ext hEc315 (by simp) : Blk wc315 wtT.heap.size 53 (#[Sl T.eg S.ns.length S.ns.length, .slice T.fb S.ns.length T.fc, .slice T.wb S.ns.length T.wc, .slice T.yb T.yn T.yc, .bool true])).ext hEc316 (by simp) : Blk wc316 wtT.heap.size 53 (#[Sl T.eg S.ns.length S.ns.length, .slice T.fb S.ns.length T.fc, .slice T.wb S.ns.length T.wc, .slice T.yb T.yn T.yc, .bool true])).cell 4 rfl) .nil)
     ·refine (.cons ?eq317_5 (.cons ?eq317_13 .nil))
      ·rintro ⟨wc315, wc316⟩ hH
       clear hH
       refine eff_gh (wl305.drew) (by kernel_rfl) ?_
       refine upon_call (f := 39) (vs := [vfj]) (cap := #[]) (d := (some 197)) (by kernel_rfl) Tryd.call39 #[vfj] (by kernel_rfl) (rising_true ((hG309.ext0 ((Ext.refl [] _).drew)).lf.rd hfj hvfj) (by omega) (hIF.rising lfj (List.mem_of_getElem? hfj))) ?_
       rintro _ wc315 ⟨rfl, hEc315⟩
       exact ⟨_, rfl, ⟨(wc315, wc316), by kernel_rfl, by kernel_rfl, by kernel_rfl, ⟨hEc315, trivial⟩⟩⟩
      ·rintro ⟨wc315, wc316⟩ hH
       obtain ⟨hEc315, _⟩ := hH
       refine eff_gh (wc315) (by kernel_rfl) ?_
       refine upon_call (f := 39) (vs := [vwj]) (cap := #[]) (d := (some 205)) (by kernel_rfl) Tryd.call39 #[vwj] (by kernel_rfl) (rising_true ((hG309.ext0 ((((Ext.refl [] _).drew)).trans0 hEc315)).lw.rd hwj hvwj) (by omega) (hIW.rising lwj (List.mem_of_getElem? hwj))) ?_
       rintro _ wc316 ⟨rfl, hEc316⟩
       exact ⟨_, rfl, ⟨(wc315, wc316), by kernel_rfl, by kernel_rfl, by kernel_rfl, ⟨hEc315, hEc316, trivial⟩⟩⟩
     rintro ⟨wc315, wc316⟩ a w318 hS hw319 hH
     obtain ⟨hEc315, hEc316, _⟩ := hH
     replace hw319 : w318 = wc316 := hw319.trans (by kernel_rfl)
     have hE325 : Ext [] wl73 w318 := by rw [hw319]; exact ((hXl305.drew).trans0 hEc315).trans0 hEc316
     have hX326 : Ext [] wl305 w318 := by rw [hw319]; exact (((Ext.refl _ _).drew).trans0 hEc315).trans0 hEc316
     have hG327 : TdOk S w2.heap.size w318 T := hG309.extG hX326 hTl (by simp)
     replace hS := hS.kp [(1, (Pv w.heap.size)), (3, (Pv wtT.heap.size)), (7, Sl wc57.heap.size S.ns.length S.ns.length), (16, I6 ↑j), (189, .bool (decide ((↑j : Int) < ↑S.ns.length))), (259, .bool false)]
     refine hK314 _ _ ?_
     refine cond_f hS rfl ?_
     refine wpIn_skip <| inBlock_normal <| hK313 _ _ <| rgn 3 <| sd ww [.p, .as (I6 (↑j + 1)), .p] [Value.int .i64 (IntKind.i64.wrap (↑j + 1)) = I6 (↑j + 1)] [(16, I6 (↑j + 1))] [] 3 0 hS (.cons (as_i64 (by omega)) .nil) fun a hS => seg_end ?_
     exact ⟨j + 1, ⟨hS.kp [(1, (Pv w.heap.size)), (3, (Pv wtT.heap.size)), (7, Sl wc57.heap.size S.ns.length S.ns.length), (16, I6 (↑j + 1))], hE325, by omega⟩, by omega⟩
    ·
     rw [hfu] at hB307
     obtain ⟨hyn, hyl⟩ := hTT0.yld hfu
     have hyln := hyl.1
     have hMi := hM hfu
     rw [hie] at hMi
     have hMa := hMi.all hI hyl (A := j) (by omega)
     obtain ⟨lyj, hyj⟩ : ∃ l, T.yl[j]? = some l := ⟨_, List.getElem?_eq_getElem (by omega)⟩
     obtain ⟨yb, yc, hvyj, hoyj⟩ := hG309.ly.at2 hyj
     have hYd := hyl.2 j lyj hyj
     have hnd := (yd_nil hYd).trans (hIE.iff j).symm
     rcases (show (lyj = []) ∨ (∃ q r, lyj = q :: r) from by
      cases lyj with
      | nil => exact .inl rfl
      | cons q r => exact .inr ⟨q, r, rfl⟩) with hu0 | ⟨q, ur, hu0⟩
     ·
      have hej2 : T.es[j]? = some true := hnd.1 hu0
      have hz : lyj.length = 0 := by rw [hu0]; rfl
      refine region_gh2 (G := World × World) ww [.q .p, .q (.ld (.slice T.fb S.ns.length T.fc)), .q .p, .q (.run ((Po (bof (.slice T.fb S.ns.length T.fc)) (0 + j * 1)))), .q (.ld (vfj)), .e, .q .p, .q .p, .q .p, .q (.ld (.slice T.wb S.ns.length T.wc)), .q .p, .q (.run ((Po (bof (.slice T.wb S.ns.length T.wc)) (0 + j * 1)))), .q (.ld (vwj)), .e, .q .p, .q .p, .q .p, .q .p, .q (.ld (.bool false)), .q .p, .q .p, .q .p, .q .p, .q (.run ((Po wc57.heap.size (0 + j * 1)))), .q (.ld (.bool true)), .q .p, .q .p, .q .p, .q (.ld (.slice T.yb T.yn T.yc)), .q .p, .q (.run ((Po (bof (.slice T.yb T.yn T.yc)) (0 + j * 1)))), .q (.ld (.slice yb lyj.length yc)), .q .p, .q (.as (.bool true)), .q .p, .q (.ld (Sl T.eg S.ns.length S.ns.length)), .q .p, .q (.run ((Po T.eg (0 + j * 1)))), .q (.ld (.bool true)), .q .p, .q .p, .q .p, .q .p, .q (.ld (.slice T.yb T.yn T.yc)), .q .p, .q (.run ((Po (bof (.slice T.yb T.yn T.yc)) (0 + j * 1)))), .q (.ld (.slice yb lyj.length yc)), .q .p, .q (.as (.bool false)), .q .p, .q .no, .q .no, .q .no, .q .no, .q .no, .q .no, .q .no, .q .no, .q .no, .q .no, .q .no, .q .no, .q .no, .q .no, .q .p, .q .p, .q .p, .q .p] [0, 0, 0, 0, 0, 0, 1, 1, 1, 1, 1, 1, 1, 1, 2, 2, 2, 2, 2, 2, 2, 2, 2, 2, 2, 2, 2, 2, 2, 2, 2, 2, 2, 2, 2, 2, 2, 2, 2, 2, 2, 2, 2, 2, 2, 2, 2, 2, 2, 2, 2, 2, 2, 2, 2, 2, 2, 2, 2, 2, 2, 2, 2, 2, 2, 2, 2, 2] [0, 0, 0, 0, 0, 0, 1, 1, 1, 1, 1, 1, 1, 1, 2, 2, 2, 2, 2, 2, 2, 2, 2, 2, 2, 2, 2, 2, 2, 2, 2, 2, 2, 2, 2, 2, 2, 2, 2, 2, 2, 2, 2, 2, 2, 2, 2, 2, 2, 2, 2, 2, 2, 2, 2, 2, 2, 2, 2, 2, 2, 2, 2, 2, 2, 2, 2, 2] [0, 1, 0, 7, 15, 31, 63, 127, 255, 511, 255, 2047, 4095, 8191, 16383, 32767, 65535, 131071, 262143, 524287, 1048575, 2097151, 2097151, 8388607, 16777215, 33554431, 67108863, 134217727, 268435455, 134217727, 1073741823, 2147483647, 4294967295, 8589934591, 134217727, 17314086911, 134217727, 120393302015, 257832255487, 549755813887, 1099511627775, 2199023255551, 4398046511103, 8796093022207, 4398046511103, 35184372088831, 70368744177663, 140737488355327, 281474976710655, 562949953421311, 1125899906842623, 2251799813685247, 1125899906842623, 9007199254740991, 18014398509481983, 1125899906842623, 37154696925806591, 1125899906842623, 253327479039590399, 541557855191302143, 1118018607494725631, 2270940112101572607, 4611686018427387903, 9223372036854775807, 18446744073709551615, 36893488147419103231, 73786976294838206463, 147573952589676412927] [5, 13] [(5, 0), (13, 1)] 2 (fun ⟨wc328, wc329⟩ => ([(1, (Pv w.heap.size)), (3, (Pv wtT.heap.size)), (7, Sl wc57.heap.size S.ns.length S.ns.length), (16, I6 ↑j), (189, .bool (decide ((↑j : Int) < ↑S.ns.length))), (192, (Po wtT.heap.size 1)), (193, .slice T.fb S.ns.length T.fc), (194, I6 ↑j), (195, (Po (bof (.slice T.fb S.ns.length T.fc)) (0 + j * 1))), (196, vfj), (197, .bool true), (198, .bool false), (199, .bool false), (200, (Po wtT.heap.size 2)), (201, .slice T.wb S.ns.length T.wc), (202, I6 ↑j), (203, (Po (bof (.slice T.wb S.ns.length T.wc)) (0 + j * 1))), (204, vwj), (205, .bool true), (206, .bool false), (207, .bool false), (208, .bool false), (209, (Po wtT.heap.size 4)), (210, .bool false), (211, .bool true), (212, .bool true), (213, Sl wc57.heap.size S.ns.length S.ns.length), (214, I6 ↑j), (215, (Po wc57.heap.size (0 + j * 1))), (216, .bool true), (217, .bool false), (218, .bool false), (219, (Po wtT.heap.size 3)), (220, .slice T.yb T.yn T.yc), (221, I6 ↑j), (222, (Po (bof (.slice T.yb T.yn T.yc)) (0 + j * 1))), (223, .slice yb lyj.length yc), (224, I6 ↑lyj.length), (225, .bool true), (226, (Pv wtT.heap.size)), (227, Sl T.eg S.ns.length S.ns.length), (228, I6 ↑j), (229, (Po T.eg (0 + j * 1))), (230, .bool true), (231, .bool false), (232, .bool false), (233, .bool false), (234, (Po wtT.heap.size 3)), (235, .slice T.yb T.yn T.yc), (236, I6 ↑j), (237, (Po (bof (.slice T.yb T.yn T.yc)) (0 + j * 1))), (238, .slice yb lyj.length yc), (239, I6 ↑lyj.length), (240, .bool false), (241, .bool false), (242, undef), (243, undef), (244, undef), (245, undef), (246, undef), (247, undef), (248, undef), (249, undef), (250, undef), (251, undef), (252, undef), (253, undef), (254, undef), (255, undef), (256, .bool false), (257, .bool false), (258, .bool false), (259, .bool false)] : Fm)) (fun ⟨wc328, wc329⟩ => [wl305.drew, wc328, wc329]) (wl305.drew) (fun e ⟨wc328, wc329⟩ => hAt [True, (Ext [] wl305.drew wc328) ∧ True, (Ext [] wl305.drew wc328) ∧ (Ext [] wc328 wc329) ∧ True] e) (fun ⟨wc328, wc329⟩ w' => [(1, [w'.cell? ⟨wtT.heap.size, 1, none⟩ = some (.slice T.fb S.ns.length T.fc)]), (3, [Ru Tryd.prog (vS (Instr.indexAt 37 (.slice T.fb S.ns.length T.fc) (I6 ↑j))) ((Po (bof (.slice T.fb S.ns.length T.fc)) (0 + j * 1))) w']), (4, [w'.cell? ⟨bof (.slice T.fb S.ns.length T.fc), 0 + j * 1, none⟩ = some (vfj)]), (9, [w'.cell? ⟨wtT.heap.size, 2, none⟩ = some (.slice T.wb S.ns.length T.wc)]), (11, [Ru Tryd.prog (vS (Instr.indexAt 37 (.slice T.wb S.ns.length T.wc) (I6 ↑j))) ((Po (bof (.slice T.wb S.ns.length T.wc)) (0 + j * 1))) w']), (12, [w'.cell? ⟨bof (.slice T.wb S.ns.length T.wc), 0 + j * 1, none⟩ = some (vwj)]), (18, [w'.cell? ⟨wtT.heap.size, 4, none⟩ = some (.bool false)]), (23, [Ru Tryd.prog (vS (Instr.indexAt 31 (Sl wc57.heap.size S.ns.length S.ns.length) (I6 ↑j))) ((Po wc57.heap.size (0 + j * 1))) w']), (24, [w'.cell? ⟨wc57.heap.size, 0 + j * 1, none⟩ = some (.bool true)]), (28, [w'.cell? ⟨wtT.heap.size, 3, none⟩ = some (.slice T.yb T.yn T.yc)]), (30, [Ru Tryd.prog (vS (Instr.indexAt 37 (.slice T.yb T.yn T.yc) (I6 ↑j))) ((Po (bof (.slice T.yb T.yn T.yc)) (0 + j * 1))) w']), (31, [w'.cell? ⟨bof (.slice T.yb T.yn T.yc), 0 + j * 1, none⟩ = some (.slice yb lyj.length yc)]), (33, [Value.bool (((↑lyj.length : Int) == 0)) = .bool true]), (35, [w'.cell? ⟨wtT.heap.size, 0, none⟩ = some (Sl T.eg S.ns.length S.ns.length)]), (37, [Ru Tryd.prog (vS (Instr.indexAt 31 (Sl T.eg S.ns.length S.ns.length) (I6 ↑j))) ((Po T.eg (0 + j * 1))) w']), (38, [w'.cell? ⟨T.eg, 0 + j * 1, none⟩ = some (.bool true)]), (43, [w'.cell? ⟨wtT.heap.size, 3, none⟩ = some (.slice T.yb T.yn T.yc)]), (45, [Ru Tryd.prog (vS (Instr.indexAt 37 (.slice T.yb T.yn T.yc) (I6 ↑j))) ((Po (bof (.slice T.yb T.yn T.yc)) (0 + j * 1))) w']), (46, [w'.cell? ⟨bof (.slice T.yb T.yn T.yc), 0 + j * 1, none⟩ = some (.slice yb lyj.length yc)]), (48, [Value.bool (decide ((↑lyj.length : Int) > 0)) = .bool false])]) (wl305.drew, w) [1, 3, 7, 16, 189] [] hS (by kernel_rfl) (by kernel_rfl) (by kernel_rfl) (by kernel_rfl) (fun ⟨wc328, wc329⟩ _ => by kernel_rfl) (by kernel_rfl) (by kernel_rfl) (by kernel_rfl) trivial ?_ (by kernel_rfl) ?_ ?_
      ·rintro e ⟨wc328, wc329⟩ w' hw hH
       refine (.cons ?_ (.cons ?_ (.cons ?_ (.cons ?_ (.cons ?_ (.cons ?_ (.cons ?_ (.cons ?_ (.cons ?_ (.cons ?_ (.cons ?_ (.cons ?_ (.cons ?_ (.cons ?_ (.cons ?_ (.cons ?_ (.cons ?_ (.cons ?_ (.cons ?_ (.cons ?_ .nil))))))))))))))))))))
       ·intro h1 h2
        obtain rfl : e = 0 := Nat.le_antisymm h2 h1
        have hwe : wl305.drew = w' := (hw.trans (by kernel_rfl)).symm
        subst hwe
        clear hH
        exact (.cons ((hB307.drew : Blk wl305.drew wtT.heap.size 53 (#[Sl T.eg S.ns.length S.ns.length, .slice T.fb S.ns.length T.fc, .slice T.wb S.ns.length T.wc, .slice T.yb T.yn T.yc, .bool false])).cell 1 rfl) .nil)
       ·intro h1 h2
        obtain rfl : e = 0 := Nat.le_antisymm h2 h1
        have hwe : wl305.drew = w' := (hw.trans (by kernel_rfl)).symm
        subst hwe
        clear hH
        exact (.cons (ix_own (j := j) (hG309.lf.own) (by kernel_rfl) (by kernel_rfl) rfl (by omega)) .nil)
       ·intro h1 h2
        obtain rfl : e = 0 := Nat.le_antisymm h2 h1
        have hwe : wl305.drew = w' := (hw.trans (by kernel_rfl)).symm
        subst hwe
        clear hH
        exact (.cons (OwnV.cellAt (hG309.lf.own.drew : OwnV wl305.drew 51 1 (.slice T.fb S.ns.length T.fc) S.ns.length (T.fL.map Rw.v)) _ (by rw [Nat.zero_add, Nat.mul_one]; exact hvfj)) .nil)
       ·intro h1 h2
        obtain rfl : e = 1 := Nat.le_antisymm h2 h1
        have hwe : wc328 = w' := (hw.trans (by kernel_rfl)).symm
        subst hwe
        obtain ⟨hEc328, _⟩ := hH
        exact (.cons (((hB307.drew : Blk wl305.drew wtT.heap.size 53 (#[Sl T.eg S.ns.length S.ns.length, .slice T.fb S.ns.length T.fc, .slice T.wb S.ns.length T.wc, .slice T.yb T.yn T.yc, .bool false])).ext hEc328 (by simp) : Blk wc328 wtT.heap.size 53 (#[Sl T.eg S.ns.length S.ns.length, .slice T.fb S.ns.length T.fc, .slice T.wb S.ns.length T.wc, .slice T.yb T.yn T.yc, .bool false])).cell 2 rfl) .nil)
       ·intro h1 h2
        obtain rfl : e = 1 := Nat.le_antisymm h2 h1
        have hwe : wc328 = w' := (hw.trans (by kernel_rfl)).symm
        subst hwe
        obtain ⟨hEc328, _⟩ := hH
        exact (.cons (ix_own (j := j) (hG309.lw.own) (by kernel_rfl) (by kernel_rfl) rfl (by omega)) .nil)
       ·intro h1 h2
        obtain rfl : e = 1 := Nat.le_antisymm h2 h1
        have hwe : wc328 = w' := (hw.trans (by kernel_rfl)).symm
        subst hwe
        obtain ⟨hEc328, _⟩ := hH
        exact (.cons (OwnV.cellAt ((hG309.lw.own.drew : OwnV wl305.drew 51 1 (.slice T.wb S.ns.length T.wc) S.ns.length (T.wL.map Rw.v)).ext hEc328 (by simp) : OwnV wc328 51 1 (.slice T.wb S.ns.length T.wc) S.ns.length (T.wL.map Rw.v)) _ (by rw [Nat.zero_add, Nat.mul_one]; exact hvwj)) .nil)
       ·intro h1 h2
        obtain rfl : e = 2 := Nat.le_antisymm h2 h1
        have hwe : wc329 = w' := (hw.trans (by kernel_rfl)).symm
        subst hwe
        obtain ⟨hEc328, hEc329, _⟩ := hH
        exact (.cons ((((hB307.drew : Blk wl305.drew wtT.heap.size 53 (#[Sl T.eg S.ns.length S.ns.length, .slice T.fb S.ns.length T.fc, .slice T.wb S.ns.length T.wc, .slice T.yb T.yn T.yc, .bool false])).ext hEc328 (by simp) : Blk wc328 wtT.heap.size 53 (#[Sl T.eg S.ns.length S.ns.length, .slice T.fb S.ns.length T.fc, .slice T.wb S.ns.length T.wc, .slice T.yb T.yn T.yc, .bool false])).ext hEc329 (by simp) : Blk wc329 wtT.heap.size 53 (#[Sl T.eg S.ns.length S.ns.length, .slice T.fb S.ns.length T.fc, .slice T.wb S.ns.length T.wc, .slice T.yb T.yn T.yc, .bool false])).cell 4 rfl) .nil)
       ·intro h1 h2
        obtain rfl : e = 2 := Nat.le_antisymm h2 h1
        have hwe : wc329 = w' := (hw.trans (by kernel_rfl)).symm
        subst hwe
        obtain ⟨hEc328, hEc329, _⟩ := hH
        exact (.cons (ix_slice (E := 4) (size := 1) (j := j) (by kernel_rfl) (by kernel_rfl) rfl (by omega)) .nil)
       ·intro h1 h2
        obtain rfl : e = 2 := Nat.le_antisymm h2 h1
        have hwe : wc329 = w' := (hw.trans (by kernel_rfl)).symm
        subst hwe
        obtain ⟨hEc328, hEc329, _⟩ := hH
        exact (.cons ((((hB308.drew : OwnR wl305.drew 4 1 wc57.heap.size S.ns.length S.ns.length (bls ms)).ext hEc328 (by simp) : OwnR wc328 4 1 wc57.heap.size S.ns.length S.ns.length (bls ms)).ext hEc329 (by simp) : OwnR wc329 4 1 wc57.heap.size S.ns.length S.ns.length (bls ms)).cellAt _ (bls_at hMa)) .nil)
       ·intro h1 h2
        obtain rfl : e = 2 := Nat.le_antisymm h2 h1
        have hwe : wc329 = w' := (hw.trans (by kernel_rfl)).symm
        subst hwe
        obtain ⟨hEc328, hEc329, _⟩ := hH
        exact (.cons ((((hB307.drew : Blk wl305.drew wtT.heap.size 53 (#[Sl T.eg S.ns.length S.ns.length, .slice T.fb S.ns.length T.fc, .slice T.wb S.ns.length T.wc, .slice T.yb T.yn T.yc, .bool false])).ext hEc328 (by simp) : Blk wc328 wtT.heap.size 53 (#[Sl T.eg S.ns.length S.ns.length, .slice T.fb S.ns.length T.fc, .slice T.wb S.ns.length T.wc, .slice T.yb T.yn T.yc, .bool false])).ext hEc329 (by simp) : Blk wc329 wtT.heap.size 53 (#[Sl T.eg S.ns.length S.ns.length, .slice T.fb S.ns.length T.fc, .slice T.wb S.ns.length T.wc, .slice T.yb T.yn T.yc, .bool false])).cell 3 rfl) .nil)
       ·intro h1 h2
        obtain rfl : e = 2 := Nat.le_antisymm h2 h1
        have hwe : wc329 = w' := (hw.trans (by kernel_rfl)).symm
        subst hwe
        obtain ⟨hEc328, hEc329, _⟩ := hH
        exact (.cons (ix_own (j := j) (hG309.ly.own) (by kernel_rfl) (by kernel_rfl) rfl (by omega)) .nil)
       ·intro h1 h2
        obtain rfl : e = 2 := Nat.le_antisymm h2 h1
        have hwe : wc329 = w' := (hw.trans (by kernel_rfl)).symm
        subst hwe
        obtain ⟨hEc328, hEc329, _⟩ := hH
        exact (.cons (OwnV.cellAt (((hG309.ly.own.drew : OwnV wl305.drew 51 1 (.slice T.yb T.yn T.yc) T.yn (T.yL.map Rw.v)).ext hEc328 (by simp) : OwnV wc328 51 1 (.slice T.yb T.yn T.yc) T.yn (T.yL.map Rw.v)).ext hEc329 (by simp) : OwnV wc329 51 1 (.slice T.yb T.yn T.yc) T.yn (T.yL.map Rw.v)) _ (by rw [Nat.zero_add, Nat.mul_one]; exact hvyj)) .nil)
       ·intro h1 h2
        obtain rfl : e = 2 := Nat.le_antisymm h2 h1
        have hwe : wc329 = w' := (hw.trans (by kernel_rfl)).symm
        subst hwe
        obtain ⟨hEc328, hEc329, _⟩ := hH
        exact (.cons (as_eq_t (by omega)) .nil)
       ·intro h1 h2
        obtain rfl : e = 2 := Nat.le_antisymm h2 h1
        have hwe : wc329 = w' := (hw.trans (by kernel_rfl)).symm
        subst hwe
        obtain ⟨hEc328, hEc329, _⟩ := hH
        exact (.cons ((((hB307.drew : Blk wl305.drew wtT.heap.size 53 (#[Sl T.eg S.ns.length S.ns.length, .slice T.fb S.ns.length T.fc, .slice T.wb S.ns.length T.wc, .slice T.yb T.yn T.yc, .bool false])).ext hEc328 (by simp) : Blk wc328 wtT.heap.size 53 (#[Sl T.eg S.ns.length S.ns.length, .slice T.fb S.ns.length T.fc, .slice T.wb S.ns.length T.wc, .slice T.yb T.yn T.yc, .bool false])).ext hEc329 (by simp) : Blk wc329 wtT.heap.size 53 (#[Sl T.eg S.ns.length S.ns.length, .slice T.fb S.ns.length T.fc, .slice T.wb S.ns.length T.wc, .slice T.yb T.yn T.yc, .bool false])).cell 0 rfl) .nil)
       ·intro h1 h2
        obtain rfl : e = 2 := Nat.le_antisymm h2 h1
        have hwe : wc329 = w' := (hw.trans (by kernel_rfl)).symm
        subst hwe
        obtain ⟨hEc328, hEc329, _⟩ := hH
        exact (.cons (ix_slice (E := 4) (size := 1) (j := j) (by kernel_rfl) (by kernel_rfl) rfl (by omega)) .nil)
       ·intro h1 h2
        obtain rfl : e = 2 := Nat.le_antisymm h2 h1
        have hwe : wc329 = w' := (hw.trans (by kernel_rfl)).symm
        subst hwe
        obtain ⟨hEc328, hEc329, _⟩ := hH
        exact (.cons ((((hG309.re.drew : OwnR wl305.drew 4 1 T.eg S.ns.length S.ns.length (bls T.es)).ext hEc328 (by simp) : OwnR wc328 4 1 T.eg S.ns.length S.ns.length (bls T.es)).ext hEc329 (by simp) : OwnR wc329 4 1 T.eg S.ns.length S.ns.length (bls T.es)).cellAt _ (bls_at hej2)) .nil)
       ·intro h1 h2
        obtain rfl : e = 2 := Nat.le_antisymm h2 h1
        have hwe : wc329 = w' := (hw.trans (by kernel_rfl)).symm
        subst hwe
        obtain ⟨hEc328, hEc329, _⟩ := hH
        exact (.cons ((((hB307.drew : Blk wl305.drew wtT.heap.size 53 (#[Sl T.eg S.ns.length S.ns.length, .slice T.fb S.ns.length T.fc, .slice T.wb S.ns.length T.wc, .slice T.yb T.yn T.yc, .bool false])).ext hEc328 (by simp) : Blk wc328 wtT.heap.size 53 (#[Sl T.eg S.ns.length S.ns.length, .slice T.fb S.ns.length T.fc, .slice T.wb S.ns.length T.wc, .slice T.yb T.yn T.yc, .bool false])).ext hEc329 (by simp) : Blk wc329 wtT.heap.size 53 (#[Sl T.eg S.ns.length S.ns.length, .slice T.fb S.ns.length T.fc, .slice T.wb S.ns.length T.wc, .slice T.yb T.yn T.yc, .bool false])).cell 3 rfl) .nil)
       ·intro h1 h2
        obtain rfl : e = 2 := Nat.le_antisymm h2 h1
        have hwe : wc329 = w' := (hw.trans (by kernel_rfl)).symm
        subst hwe
        obtain ⟨hEc328, hEc329, _⟩ := hH
        exact (.cons (ix_own (j := j) (hG309.ly.own) (by kernel_rfl) (by kernel_rfl) rfl (by omega)) .nil)
       ·intro h1 h2
        obtain rfl : e = 2 := Nat.le_antisymm h2 h1
        have hwe : wc329 = w' := (hw.trans (by kernel_rfl)).symm
        subst hwe
        obtain ⟨hEc328, hEc329, _⟩ := hH
        exact (.cons (OwnV.cellAt (((hG309.ly.own.drew : OwnV wl305.drew 51 1 (.slice T.yb T.yn T.yc) T.yn (T.yL.map Rw.v)).ext hEc328 (by simp) : OwnV wc328 51 1 (.slice T.yb T.yn T.yc) T.yn (T.yL.map Rw.v)).ext hEc329 (by simp) : OwnV wc329 51 1 (.slice T.yb T.yn T.yc) T.yn (T.yL.map Rw.v)) _ (by rw [Nat.zero_add, Nat.mul_one]; exact hvyj)) .nil)
       ·intro h1 h2
        obtain rfl : e = 2 := Nat.le_antisymm h2 h1
        have hwe : wc329 = w' := (hw.trans (by kernel_rfl)).symm
        subst hwe
        obtain ⟨hEc328, hEc329, _⟩ := hH
        exact (.cons (as_f (by omega)) .nil)
      ·refine (.cons ?eq330_5 (.cons ?eq330_13 .nil))
       ·rintro ⟨wc328, wc329⟩ hH
        clear hH
        refine eff_gh (wl305.drew) (by kernel_rfl) ?_
        refine upon_call (f := 39) (vs := [vfj]) (cap := #[]) (d := (some 197)) (by kernel_rfl) Tryd.call39 #[vfj] (by kernel_rfl) (rising_true ((hG309.ext0 ((Ext.refl [] _).drew)).lf.rd hfj hvfj) (by omega) (hIF.rising lfj (List.mem_of_getElem? hfj))) ?_
        rintro _ wc328 ⟨rfl, hEc328⟩
        exact ⟨_, rfl, ⟨(wc328, wc329), by kernel_rfl, by kernel_rfl, by kernel_rfl, ⟨hEc328, trivial⟩⟩⟩
       ·rintro ⟨wc328, wc329⟩ hH
        obtain ⟨hEc328, _⟩ := hH
        refine eff_gh (wc328) (by kernel_rfl) ?_
        refine upon_call (f := 39) (vs := [vwj]) (cap := #[]) (d := (some 205)) (by kernel_rfl) Tryd.call39 #[vwj] (by kernel_rfl) (rising_true ((hG309.ext0 ((((Ext.refl [] _).drew)).trans0 hEc328)).lw.rd hwj hvwj) (by omega) (hIW.rising lwj (List.mem_of_getElem? hwj))) ?_
        rintro _ wc329 ⟨rfl, hEc329⟩
        exact ⟨_, rfl, ⟨(wc328, wc329), by kernel_rfl, by kernel_rfl, by kernel_rfl, ⟨hEc328, hEc329, trivial⟩⟩⟩
      rintro ⟨wc328, wc329⟩ a w331 hS hw332 hH
      obtain ⟨hEc328, hEc329, _⟩ := hH
      replace hw332 : w331 = wc329 := hw332.trans (by kernel_rfl)
      have hE341 : Ext [] wl73 w331 := by rw [hw332]; exact ((hXl305.drew).trans0 hEc328).trans0 hEc329
      have hX342 : Ext [] wl305 w331 := by rw [hw332]; exact (((Ext.refl _ _).drew).trans0 hEc328).trans0 hEc329
      have hG343 : TdOk S w2.heap.size w331 T := hG309.extG hX342 hTl (by simp)
      replace hS := hS.kp [(1, (Pv w.heap.size)), (3, (Pv wtT.heap.size)), (7, Sl wc57.heap.size S.ns.length S.ns.length), (16, I6 ↑j), (189, .bool (decide ((↑j : Int) < ↑S.ns.length))), (259, .bool false)]
      refine hK314 _ _ ?_
      refine cond_f hS rfl ?_
      refine wpIn_skip <| inBlock_normal <| hK313 _ _ <| rgn 3 <| sd ww [.p, .as (I6 (↑j + 1)), .p] [Value.int .i64 (IntKind.i64.wrap (↑j + 1)) = I6 (↑j + 1)] [(16, I6 (↑j + 1))] [] 3 0 hS (.cons (as_i64 (by omega)) .nil) fun a hS => seg_end ?_
      exact ⟨j + 1, ⟨hS.kp [(1, (Pv w.heap.size)), (3, (Pv wtT.heap.size)), (7, Sl wc57.heap.size S.ns.length S.ns.length), (16, I6 (↑j + 1))], hE341, by omega⟩, by omega⟩
     ·
      have hej2 : T.es[j]? = some false := by
       cases ej with
       | false => exact hej
       | true => have := hnd.2 hej; rw [hu0] at this; cases this
      have hz : 0 < lyj.length := by rw [hu0]; exact Nat.succ_pos _
      have hqf : q ∈ lfj := (hIF.has hfj).2 (MN_head (by rw [← hu0]; exact hYd.1))
      refine region_gh2 (G := World × World × World) ww [.q .p, .q (.ld (.slice T.fb S.ns.length T.fc)), .q .p, .q (.run ((Po (bof (.slice T.fb S.ns.length T.fc)) (0 + j * 1)))), .q (.ld (vfj)), .e, .q .p, .q .p, .q .p, .q (.ld (.slice T.wb S.ns.length T.wc)), .q .p, .q (.run ((Po (bof (.slice T.wb S.ns.length T.wc)) (0 + j * 1)))), .q (.ld (vwj)), .e, .q .p, .q .p, .q .p, .q .p, .q (.ld (.bool false)), .q .p, .q .p, .q .p, .q .p, .q (.run ((Po wc57.heap.size (0 + j * 1)))), .q (.ld (.bool true)), .q .p, .q .p, .q .p, .q (.ld (.slice T.yb T.yn T.yc)), .q .p, .q (.run ((Po (bof (.slice T.yb T.yn T.yc)) (0 + j * 1)))), .q (.ld (.slice yb lyj.length yc)), .q .p, .q (.as (.bool false)), .q .p, .q (.ld (Sl T.eg S.ns.length S.ns.length)), .q .p, .q (.run ((Po T.eg (0 + j * 1)))), .q (.ld (.bool false)), .q .p, .q .p, .q .p, .q .p, .q (.ld (.slice T.yb T.yn T.yc)), .q .p, .q (.run ((Po (bof (.slice T.yb T.yn T.yc)) (0 + j * 1)))), .q (.ld (.slice yb lyj.length yc)), .q .p, .q (.as (.bool true)), .q .p, .q .p, .q (.ld (.slice T.fb S.ns.length T.fc)), .q .p, .q (.run ((Po (bof (.slice T.fb S.ns.length T.fc)) (0 + j * 1)))), .q (.ld (vfj)), .q .p, .q (.ld (.slice T.yb T.yn T.yc)), .q .p, .q (.run ((Po (bof (.slice T.yb T.yn T.yc)) (0 + j * 1)))), .q (.ld (.slice yb lyj.length yc)), .q (.run ((Po (bof (.slice yb lyj.length yc)) (0 + 0 * 1)))), .q (.ld (I6 ↑q)), .e, .q .p, .q .p, .q .p, .q .p, .q .p] [0, 0, 0, 0, 0, 0, 1, 1, 1, 1, 1, 1, 1, 1, 2, 2, 2, 2, 2, 2, 2, 2, 2, 2, 2, 2, 2, 2, 2, 2, 2, 2, 2, 2, 2, 2, 2, 2, 2, 2, 2, 2, 2, 2, 2, 2, 2, 2, 2, 2, 2, 2, 2, 2, 2, 2, 2, 2, 2, 2, 2, 2, 2, 3, 3, 3, 3, 3] [0, 0, 0, 0, 0, 0, 1, 1, 1, 1, 1, 1, 1, 1, 2, 2, 2, 2, 2, 2, 2, 2, 2, 2, 2, 2, 2, 2, 2, 2, 2, 2, 2, 2, 2, 2, 2, 2, 2, 2, 2, 2, 2, 2, 2, 2, 2, 2, 2, 2, 2, 2, 2, 2, 2, 2, 2, 2, 2, 2, 2, 2, 2, 3, 3, 3, 3, 3] [0, 1, 0, 7, 15, 31, 63, 127, 255, 511, 255, 2047, 4095, 8191, 16383, 32767, 65535, 131071, 262143, 524287, 1048575, 2097151, 2097151, 8388607, 16777215, 33554431, 67108863, 134217727, 268435455, 134217727, 1073741823, 2147483647, 4294967295, 8589934591, 134217727, 17314086911, 134217727, 120393302015, 257832255487, 549755813887, 1099511627775, 2199023255551, 4398046511103, 8796093022207, 4398046511103, 35184372088831, 70368744177663, 140737488355327, 281474976710655, 562949953421311, 1125899906842623, 2251799813685247, 1125899906842623, 9007199254740991, 18014398509481983, 1125899906842623, 37154696925806591, 1125899906842623, 253327479039590399, 541557855191302143, 1118018607494725631, 2270940112101572607, 4611686018427387903, 9223372036854775807, 18446744073709551615, 36893488147419103231, 73786976294838206463, 147573952589676412927] [5, 13, 62] [(5, 0), (13, 1), (62, 2)] 3 (fun ⟨wc344, wc345, wc346⟩ => ([(1, (Pv w.heap.size)), (3, (Pv wtT.heap.size)), (7, Sl wc57.heap.size S.ns.length S.ns.length), (16, I6 ↑j), (189, .bool (decide ((↑j : Int) < ↑S.ns.length))), (192, (Po wtT.heap.size 1)), (193, .slice T.fb S.ns.length T.fc), (194, I6 ↑j), (195, (Po (bof (.slice T.fb S.ns.length T.fc)) (0 + j * 1))), (196, vfj), (197, .bool true), (198, .bool false), (199, .bool false), (200, (Po wtT.heap.size 2)), (201, .slice T.wb S.ns.length T.wc), (202, I6 ↑j), (203, (Po (bof (.slice T.wb S.ns.length T.wc)) (0 + j * 1))), (204, vwj), (205, .bool true), (206, .bool false), (207, .bool false), (208, .bool false), (209, (Po wtT.heap.size 4)), (210, .bool false), (211, .bool true), (212, .bool true), (213, Sl wc57.heap.size S.ns.length S.ns.length), (214, I6 ↑j), (215, (Po wc57.heap.size (0 + j * 1))), (216, .bool true), (217, .bool false), (218, .bool false), (219, (Po wtT.heap.size 3)), (220, .slice T.yb T.yn T.yc), (221, I6 ↑j), (222, (Po (bof (.slice T.yb T.yn T.yc)) (0 + j * 1))), (223, .slice yb lyj.length yc), (224, I6 ↑lyj.length), (225, .bool false), (226, (Pv wtT.heap.size)), (227, Sl T.eg S.ns.length S.ns.length), (228, I6 ↑j), (229, (Po T.eg (0 + j * 1))), (230, .bool false), (231, .bool false), (232, .bool false), (233, .bool false), (234, (Po wtT.heap.size 3)), (235, .slice T.yb T.yn T.yc), (236, I6 ↑j), (237, (Po (bof (.slice T.yb T.yn T.yc)) (0 + j * 1))), (238, .slice yb lyj.length yc), (239, I6 ↑lyj.length), (240, .bool true), (241, .bool true), (242, (Po wtT.heap.size 1)), (243, .slice T.fb S.ns.length T.fc), (244, I6 ↑j), (245, (Po (bof (.slice T.fb S.ns.length T.fc)) (0 + j * 1))), (246, vfj), (247, (Po wtT.heap.size 3)), (248, .slice T.yb T.yn T.yc), (249, I6 ↑j), (250, (Po (bof (.slice T.yb T.yn T.yc)) (0 + j * 1))), (251, .slice yb lyj.length yc), (252, (Po (bof (.slice yb lyj.length yc)) (0 + 0 * 1))), (253, I6 ↑q), (254, .bool true), (255, .bool false), (256, .bool false), (257, .bool false), (258, .bool false), (259, .bool false)] : Fm)) (fun ⟨wc344, wc345, wc346⟩ => [wl305.drew, wc344, wc345, wc346]) (wl305.drew) (fun e ⟨wc344, wc345, wc346⟩ => hAt [True, (Ext [] wl305.drew wc344) ∧ True, (Ext [] wl305.drew wc344) ∧ (Ext [] wc344 wc345) ∧ True, (Ext [] wl305.drew wc344) ∧ (Ext [] wc344 wc345) ∧ (Ext [] wc345 wc346) ∧ True] e) (fun ⟨wc344, wc345, wc346⟩ w' => [(1, [w'.cell? ⟨wtT.heap.size, 1, none⟩ = some (.slice T.fb S.ns.length T.fc)]), (3, [Ru Tryd.prog (vS (Instr.indexAt 37 (.slice T.fb S.ns.length T.fc) (I6 ↑j))) ((Po (bof (.slice T.fb S.ns.length T.fc)) (0 + j * 1))) w']), (4, [w'.cell? ⟨bof (.slice T.fb S.ns.length T.fc), 0 + j * 1, none⟩ = some (vfj)]), (9, [w'.cell? ⟨wtT.heap.size, 2, none⟩ = some (.slice T.wb S.ns.length T.wc)]), (11, [Ru Tryd.prog (vS (Instr.indexAt 37 (.slice T.wb S.ns.length T.wc) (I6 ↑j))) ((Po (bof (.slice T.wb S.ns.length T.wc)) (0 + j * 1))) w']), (12, [w'.cell? ⟨bof (.slice T.wb S.ns.length T.wc), 0 + j * 1, none⟩ = some (vwj)]), (18, [w'.cell? ⟨wtT.heap.size, 4, none⟩ = some (.bool false)]), (23, [Ru Tryd.prog (vS (Instr.indexAt 31 (Sl wc57.heap.size S.ns.length S.ns.length) (I6 ↑j))) ((Po wc57.heap.size (0 + j * 1))) w']), (24, [w'.cell? ⟨wc57.heap.size, 0 + j * 1, none⟩ = some (.bool true)]), (28, [w'.cell? ⟨wtT.heap.size, 3, none⟩ = some (.slice T.yb T.yn T.yc)]), (30, [Ru Tryd.prog (vS (Instr.indexAt 37 (.slice T.yb T.yn T.yc) (I6 ↑j))) ((Po (bof (.slice T.yb T.yn T.yc)) (0 + j * 1))) w']), (31, [w'.cell? ⟨bof (.slice T.yb T.yn T.yc), 0 + j * 1, none⟩ = some (.slice yb lyj.length yc)]), (33, [Value.bool (((↑lyj.length : Int) == 0)) = .bool false]), (35, [w'.cell? ⟨wtT.heap.size, 0, none⟩ = some (Sl T.eg S.ns.length S.ns.length)]), (37, [Ru Tryd.prog (vS (Instr.indexAt 31 (Sl T.eg S.ns.length S.ns.length) (I6 ↑j))) ((Po T.eg (0 + j * 1))) w']), (38, [w'.cell? ⟨T.eg, 0 + j * 1, none⟩ = some (.bool false)]), (43, [w'.cell? ⟨wtT.heap.size, 3, none⟩ = some (.slice T.yb T.yn T.yc)]), (45, [Ru Tryd.prog (vS (Instr.indexAt 37 (.slice T.yb T.yn T.yc) (I6 ↑j))) ((Po (bof (.slice T.yb T.yn T.yc)) (0 + j * 1))) w']), (46, [w'.cell? ⟨bof (.slice T.yb T.yn T.yc), 0 + j * 1, none⟩ = some (.slice yb lyj.length yc)]), (48, [Value.bool (decide ((↑lyj.length : Int) > 0)) = .bool true]), (51, [w'.cell? ⟨wtT.heap.size, 1, none⟩ = some (.slice T.fb S.ns.length T.fc)]), (53, [Ru Tryd.prog (vS (Instr.indexAt 37 (.slice T.fb S.ns.length T.fc) (I6 ↑j))) ((Po (bof (.slice T.fb S.ns.length T.fc)) (0 + j * 1))) w']), (54, [w'.cell? ⟨bof (.slice T.fb S.ns.length T.fc), 0 + j * 1, none⟩ = some (vfj)]), (56, [w'.cell? ⟨wtT.heap.size, 3, none⟩ = some (.slice T.yb T.yn T.yc)]), (58, [Ru Tryd.prog (vS (Instr.indexAt 37 (.slice T.yb T.yn T.yc) (I6 ↑j))) ((Po (bof (.slice T.yb T.yn T.yc)) (0 + j * 1))) w']), (59, [w'.cell? ⟨bof (.slice T.yb T.yn T.yc), 0 + j * 1, none⟩ = some (.slice yb lyj.length yc)]), (60, [Ru Tryd.prog (vS (Instr.indexAt 51 (.slice yb lyj.length yc) (I6 0))) ((Po (bof (.slice yb lyj.length yc)) (0 + 0 * 1))) w']), (61, [w'.cell? ⟨bof (.slice yb lyj.length yc), 0 + 0 * 1, none⟩ = some (I6 ↑q)])]) (wl305.drew, w, w) [1, 3, 7, 16, 189] [] hS (by kernel_rfl) (by kernel_rfl) (by kernel_rfl) (by kernel_rfl) (fun ⟨wc344, wc345, wc346⟩ _ => by kernel_rfl) (by kernel_rfl) (by kernel_rfl) (by kernel_rfl) trivial ?_ (by kernel_rfl) ?_ ?_
      ·rintro e ⟨wc344, wc345, wc346⟩ w' hw hH
       refine (.cons ?_ (.cons ?_ (.cons ?_ (.cons ?_ (.cons ?_ (.cons ?_ (.cons ?_ (.cons ?_ (.cons ?_ (.cons ?_ (.cons ?_ (.cons ?_ (.cons ?_ (.cons ?_ (.cons ?_ (.cons ?_ (.cons ?_ (.cons ?_ (.cons ?_ (.cons ?_ (.cons ?_ (.cons ?_ (.cons ?_ (.cons ?_ (.cons ?_ (.cons ?_ (.cons ?_ (.cons ?_ .nil))))))))))))))))))))))))))))
       ·intro h1 h2
        obtain rfl : e = 0 := Nat.le_antisymm h2 h1
        have hwe : wl305.drew = w' := (hw.trans (by kernel_rfl)).symm
        subst hwe
        clear hH
        exact (.cons ((hB307.drew : Blk wl305.drew wtT.heap.size 53 (#[Sl T.eg S.ns.length S.ns.length, .slice T.fb S.ns.length T.fc, .slice T.wb S.ns.length T.wc, .slice T.yb T.yn T.yc, .bool false])).cell 1 rfl) .nil)
       ·intro h1 h2
        obtain rfl : e = 0 := Nat.le_antisymm h2 h1
        have hwe : wl305.drew = w' := (hw.trans (by kernel_rfl)).symm
        subst hwe
        clear hH
        exact (.cons (ix_own (j := j) (hG309.lf.own) (by kernel_rfl) (by kernel_rfl) rfl (by omega)) .nil)
       ·intro h1 h2
        obtain rfl : e = 0 := Nat.le_antisymm h2 h1
        have hwe : wl305.drew = w' := (hw.trans (by kernel_rfl)).symm
        subst hwe
        clear hH
        exact (.cons (OwnV.cellAt (hG309.lf.own.drew : OwnV wl305.drew 51 1 (.slice T.fb S.ns.length T.fc) S.ns.length (T.fL.map Rw.v)) _ (by rw [Nat.zero_add, Nat.mul_one]; exact hvfj)) .nil)
       ·intro h1 h2
        obtain rfl : e = 1 := Nat.le_antisymm h2 h1
        have hwe : wc344 = w' := (hw.trans (by kernel_rfl)).symm
        subst hwe
        obtain ⟨hEc344, _⟩ := hH
        exact (.cons (((hB307.drew : Blk wl305.drew wtT.heap.size 53 (#[Sl T.eg S.ns.length S.ns.length, .slice T.fb S.ns.length T.fc, .slice T.wb S.ns.length T.wc, .slice T.yb T.yn T.yc, .bool false])).ext hEc344 (by simp) : Blk wc344 wtT.heap.size 53 (#[Sl T.eg S.ns.length S.ns.length, .slice T.fb S.ns.length T.fc, .slice T.wb S.ns.length T.wc, .slice T.yb T.yn T.yc, .bool false])).cell 2 rfl) .nil)
       ·intro h1 h2
        obtain rfl : e = 1 := Nat.le_antisymm h2 h1
        have hwe : wc344 = w' := (hw.trans (by kernel_rfl)).symm
        subst hwe
        obtain ⟨hEc344, _⟩ := hH
        exact (.cons (ix_own (j := j) (hG309.lw.own) (by kernel_rfl) (by kernel_rfl) rfl (by omega)) .nil)
       ·intro h1 h2
        obtain rfl : e = 1 := Nat.le_antisymm h2 h1
        have hwe : wc344 = w' := (hw.trans (by kernel_rfl)).symm
        subst hwe
        obtain ⟨hEc344, _⟩ := hH
        exact (.cons (OwnV.cellAt ((hG309.lw.own.drew : OwnV wl305.drew 51 1 (.slice T.wb S.ns.length T.wc) S.ns.length (T.wL.map Rw.v)).ext hEc344 (by simp) : OwnV wc344 51 1 (.slice T.wb S.ns.length T.wc) S.ns.length (T.wL.map Rw.v)) _ (by rw [Nat.zero_add, Nat.mul_one]; exact hvwj)) .nil)
       ·intro h1 h2
        obtain rfl : e = 2 := Nat.le_antisymm h2 h1
        have hwe : wc345 = w' := (hw.trans (by kernel_rfl)).symm
        subst hwe
        obtain ⟨hEc344, hEc345, _⟩ := hH
        exact (.cons ((((hB307.drew : Blk wl305.drew wtT.heap.size 53 (#[Sl T.eg S.ns.length S.ns.length, .slice T.fb S.ns.length T.fc, .slice T.wb S.ns.length T.wc, .slice T.yb T.yn T.yc, .bool false])).ext hEc344 (by simp) : Blk wc344 wtT.heap.size 53 (#[Sl T.eg S.ns.length S.ns.length, .slice T.fb S.ns.length T.fc, .slice T.wb S.ns.length T.wc, .slice T.yb T.yn T.yc, .bool false])).ext hEc345 (by simp) : Blk wc345 wtT.heap.size 53 (#[Sl T.eg S.ns.length S.ns.length, .slice T.fb S.ns.length T.fc, .slice T.wb S.ns.length T.wc, .slice T.yb T.yn T.yc, .bool false])).cell 4 rfl) .nil)
       ·intro h1 h2
        obtain rfl : e = 2 := Nat.le_antisymm h2 h1
        have hwe : wc345 = w' := (hw.trans (by kernel_rfl)).symm
        subst hwe
        obtain ⟨hEc344, hEc345, _⟩ := hH
        exact (.cons (ix_slice (E := 4) (size := 1) (j := j) (by kernel_rfl) (by kernel_rfl) rfl (by omega)) .nil)
       ·intro h1 h2
        obtain rfl : e = 2 := Nat.le_antisymm h2 h1
        have hwe : wc345 = w' := (hw.trans (by kernel_rfl)).symm
        subst hwe
        obtain ⟨hEc344, hEc345, _⟩ := hH
        exact (.cons ((((hB308.drew : OwnR wl305.drew 4 1 wc57.heap.size S.ns.length S.ns.length (bls ms)).ext hEc344 (by simp) : OwnR wc344 4 1 wc57.heap.size S.ns.length S.ns.length (bls ms)).ext hEc345 (by simp) : OwnR wc345 4 1 wc57.heap.size S.ns.length S.ns.length (bls ms)).cellAt _ (bls_at hMa)) .nil)
       ·intro h1 h2
        obtain rfl : e = 2 := Nat.le_antisymm h2 h1
        have hwe : wc345 = w' := (hw.trans (by kernel_rfl)).symm
        subst hwe
        obtain ⟨hEc344, hEc345, _⟩ := hH
        exact (.cons ((((hB307.drew : Blk wl305.drew wtT.heap.size 53 (#[Sl T.eg S.ns.length S.ns.length, .slice T.fb S.ns.length T.fc, .slice T.wb S.ns.length T.wc, .slice T.yb T.yn T.yc, .bool false])).ext hEc344 (by simp) : Blk wc344 wtT.heap.size 53 (#[Sl T.eg S.ns.length S.ns.length, .slice T.fb S.ns.length T.fc, .slice T.wb S.ns.length T.wc, .slice T.yb T.yn T.yc, .bool false])).ext hEc345 (by simp) : Blk wc345 wtT.heap.size 53 (#[Sl T.eg S.ns.length S.ns.length, .slice T.fb S.ns.length T.fc, .slice T.wb S.ns.length T.wc, .slice T.yb T.yn T.yc, .bool false])).cell 3 rfl) .nil)
       ·intro h1 h2
        obtain rfl : e = 2 := Nat.le_antisymm h2 h1
        have hwe : wc345 = w' := (hw.trans (by kernel_rfl)).symm
        subst hwe
        obtain ⟨hEc344, hEc345, _⟩ := hH
        exact (.cons (ix_own (j := j) (hG309.ly.own) (by kernel_rfl) (by kernel_rfl) rfl (by omega)) .nil)
       ·intro h1 h2
        obtain rfl : e = 2 := Nat.le_antisymm h2 h1
        have hwe : wc345 = w' := (hw.trans (by kernel_rfl)).symm
        subst hwe
        obtain ⟨hEc344, hEc345, _⟩ := hH
        exact (.cons (OwnV.cellAt (((hG309.ly.own.drew : OwnV wl305.drew 51 1 (.slice T.yb T.yn T.yc) T.yn (T.yL.map Rw.v)).ext hEc344 (by simp) : OwnV wc344 51 1 (.slice T.yb T.yn T.yc) T.yn (T.yL.map Rw.v)).ext hEc345 (by simp) : OwnV wc345 51 1 (.slice T.yb T.yn T.yc) T.yn (T.yL.map Rw.v)) _ (by rw [Nat.zero_add, Nat.mul_one]; exact hvyj)) .nil)
       ·intro h1 h2
        obtain rfl : e = 2 := Nat.le_antisymm h2 h1
        have hwe : wc345 = w' := (hw.trans (by kernel_rfl)).symm
        subst hwe
        obtain ⟨hEc344, hEc345, _⟩ := hH
        exact (.cons (as_eq_f (by omega)) .nil)
       ·intro h1 h2
        obtain rfl : e = 2 := Nat.le_antisymm h2 h1
        have hwe : wc345 = w' := (hw.trans (by kernel_rfl)).symm
        subst hwe
        obtain ⟨hEc344, hEc345, _⟩ := hH
        exact (.cons ((((hB307.drew : Blk wl305.drew wtT.heap.size 53 (#[Sl T.eg S.ns.length S.ns.length, .slice T.fb S.ns.length T.fc, .slice T.wb S.ns.length T.wc, .slice T.yb T.yn T.yc, .bool false])).ext hEc344 (by simp) : Blk wc344 wtT.heap.size 53 (#[Sl T.eg S.ns.length S.ns.length, .slice T.fb S.ns.length T.fc, .slice T.wb S.ns.length T.wc, .slice T.yb T.yn T.yc, .bool false])).ext hEc345 (by simp) : Blk wc345 wtT.heap.size 53 (#[Sl T.eg S.ns.length S.ns.length, .slice T.fb S.ns.length T.fc, .slice T.wb S.ns.length T.wc, .slice T.yb T.yn T.yc, .bool false])).cell 0 rfl) .nil)
       ·intro h1 h2
        obtain rfl : e = 2 := Nat.le_antisymm h2 h1
        have hwe : wc345 = w' := (hw.trans (by kernel_rfl)).symm
        subst hwe
        obtain ⟨hEc344, hEc345, _⟩ := hH
        exact (.cons (ix_slice (E := 4) (size := 1) (j := j) (by kernel_rfl) (by kernel_rfl) rfl (by omega)) .nil)
       ·intro h1 h2
        obtain rfl : e = 2 := Nat.le_antisymm h2 h1
        have hwe : wc345 = w' := (hw.trans (by kernel_rfl)).symm
        subst hwe
        obtain ⟨hEc344, hEc345, _⟩ := hH
        exact (.cons ((((hG309.re.drew : OwnR wl305.drew 4 1 T.eg S.ns.length S.ns.length (bls T.es)).ext hEc344 (by simp) : OwnR wc344 4 1 T.eg S.ns.length S.ns.length (bls T.es)).ext hEc345 (by simp) : OwnR wc345 4 1 T.eg S.ns.length S.ns.length (bls T.es)).cellAt _ (bls_at hej2)) .nil)
       ·intro h1 h2
        obtain rfl : e = 2 := Nat.le_antisymm h2 h1
        have hwe : wc345 = w' := (hw.trans (by kernel_rfl)).symm
        subst hwe
        obtain ⟨hEc344, hEc345, _⟩ := hH
        exact (.cons ((((hB307.drew : Blk wl305.drew wtT.heap.size 53 (#[Sl T.eg S.ns.length S.ns.length, .slice T.fb S.ns.length T.fc, .slice T.wb S.ns.length T.wc, .slice T.yb T.yn T.yc, .bool false])).ext hEc344 (by simp) : Blk wc344 wtT.heap.size 53 (#[Sl T.eg S.ns.length S.ns.length, .slice T.fb S.ns.length T.fc, .slice T.wb S.ns.length T.wc, .slice T.yb T.yn T.yc, .bool false])).ext hEc345 (by simp) : Blk wc345 wtT.heap.size 53 (#[Sl T.eg S.ns.length S.ns.length, .slice T.fb S.ns.length T.fc, .slice T.wb S.ns.length T.wc, .slice T.yb T.yn T.yc, .bool false])).cell 3 rfl) .nil)
       ·intro h1 h2
        obtain rfl : e = 2 := Nat.le_antisymm h2 h1
        have hwe : wc345 = w' := (hw.trans (by kernel_rfl)).symm
        subst hwe
        obtain ⟨hEc344, hEc345, _⟩ := hH
        exact (.cons (ix_own (j := j) (hG309.ly.own) (by kernel_rfl) (by kernel_rfl) rfl (by omega)) .nil)
       ·intro h1 h2
        obtain rfl : e = 2 := Nat.le_antisymm h2 h1
        have hwe : wc345 = w' := (hw.trans (by kernel_rfl)).symm
        subst hwe
        obtain ⟨hEc344, hEc345, _⟩ := hH
        exact (.cons (OwnV.cellAt (((hG309.ly.own.drew : OwnV wl305.drew 51 1 (.slice T.yb T.yn T.yc) T.yn (T.yL.map Rw.v)).ext hEc344 (by simp) : OwnV wc344 51 1 (.slice T.yb T.yn T.yc) T.yn (T.yL.map Rw.v)).ext hEc345 (by simp) : OwnV wc345 51 1 (.slice T.yb T.yn T.yc) T.yn (T.yL.map Rw.v)) _ (by rw [Nat.zero_add, Nat.mul_one]; exact hvyj)) .nil)
       ·intro h1 h2
        obtain rfl : e = 2 := Nat.le_antisymm h2 h1
        have hwe : wc345 = w' := (hw.trans (by kernel_rfl)).symm
        subst hwe
        obtain ⟨hEc344, hEc345, _⟩ := hH
        exact (.cons (as_t (by omega)) .nil)
       ·intro h1 h2
        obtain rfl : e = 2 := Nat.le_antisymm h2 h1
        have hwe : wc345 = w' := (hw.trans (by kernel_rfl)).symm
        subst hwe
        obtain ⟨hEc344, hEc345, _⟩ := hH
        exact (.cons ((((hB307.drew : Blk wl305.drew wtT.heap.size 53 (#[Sl T.eg S.ns.length S.ns.length, .slice T.fb S.ns.length T.fc, .slice T.wb S.ns.length T.wc, .slice T.yb T.yn T.yc, .bool false])).ext hEc344 (by simp) : Blk wc344 wtT.heap.size 53 (#[Sl T.eg S.ns.length S.ns.length, .slice T.fb S.ns.length T.fc, .slice T.wb S.ns.length T.wc, .slice T.yb T.yn T.yc, .bool false])).ext hEc345 (by simp) : Blk wc345 wtT.heap.size 53 (#[Sl T.eg S.ns.length S.ns.length, .slice T.fb S.ns.length T.fc, .slice T.wb S.ns.length T.wc, .slice T.yb T.yn T.yc, .bool false])).cell 1 rfl) .nil)
       ·intro h1 h2
        obtain rfl : e = 2 := Nat.le_antisymm h2 h1
        have hwe : wc345 = w' := (hw.trans (by kernel_rfl)).symm
        subst hwe
        obtain ⟨hEc344, hEc345, _⟩ := hH
        exact (.cons (ix_own (j := j) (hG309.lf.own) (by kernel_rfl) (by kernel_rfl) rfl (by omega)) .nil)
       ·intro h1 h2
        obtain rfl : e = 2 := Nat.le_antisymm h2 h1
        have hwe : wc345 = w' := (hw.trans (by kernel_rfl)).symm
        subst hwe
        obtain ⟨hEc344, hEc345, _⟩ := hH
        exact (.cons (OwnV.cellAt (((hG309.lf.own.drew : OwnV wl305.drew 51 1 (.slice T.fb S.ns.length T.fc) S.ns.length (T.fL.map Rw.v)).ext hEc344 (by simp) : OwnV wc344 51 1 (.slice T.fb S.ns.length T.fc) S.ns.length (T.fL.map Rw.v)).ext hEc345 (by simp) : OwnV wc345 51 1 (.slice T.fb S.ns.length T.fc) S.ns.length (T.fL.map Rw.v)) _ (by rw [Nat.zero_add, Nat.mul_one]; exact hvfj)) .nil)
       ·intro h1 h2
        obtain rfl : e = 2 := Nat.le_antisymm h2 h1
        have hwe : wc345 = w' := (hw.trans (by kernel_rfl)).symm
        subst hwe
        obtain ⟨hEc344, hEc345, _⟩ := hH
        exact (.cons ((((hB307.drew : Blk wl305.drew wtT.heap.size 53 (#[Sl T.eg S.ns.length S.ns.length, .slice T.fb S.ns.length T.fc, .slice T.wb S.ns.length T.wc, .slice T.yb T.yn T.yc, .bool false])).ext hEc344 (by simp) : Blk wc344 wtT.heap.size 53 (#[Sl T.eg S.ns.length S.ns.length, .slice T.fb S.ns.length T.fc, .slice T.wb S.ns.length T.wc, .slice T.yb T.yn T.yc, .bool false])).ext hEc345 (by simp) : Blk wc345 wtT.heap.size 53 (#[Sl T.eg S.ns.length S.ns.length, .slice T.fb S.ns.length T.fc, .slice T.wb S.ns.length T.wc, .slice T.yb T.yn T.yc, .bool false])).cell 3 rfl) .nil)
       ·intro h1 h2
        obtain rfl : e = 2 := Nat.le_antisymm h2 h1
        have hwe : wc345 = w' := (hw.trans (by kernel_rfl)).symm
        subst hwe
        obtain ⟨hEc344, hEc345, _⟩ := hH
        exact (.cons (ix_own (j := j) (hG309.ly.own) (by kernel_rfl) (by kernel_rfl) rfl (by omega)) .nil)
       ·intro h1 h2
        obtain rfl : e = 2 := Nat.le_antisymm h2 h1
        have hwe : wc345 = w' := (hw.trans (by kernel_rfl)).symm
        subst hwe
        obtain ⟨hEc344, hEc345, _⟩ := hH
        exact (.cons (OwnV.cellAt (((hG309.ly.own.drew : OwnV wl305.drew 51 1 (.slice T.yb T.yn T.yc) T.yn (T.yL.map Rw.v)).ext hEc344 (by simp) : OwnV wc344 51 1 (.slice T.yb T.yn T.yc) T.yn (T.yL.map Rw.v)).ext hEc345 (by simp) : OwnV wc345 51 1 (.slice T.yb T.yn T.yc) T.yn (T.yL.map Rw.v)) _ (by rw [Nat.zero_add, Nat.mul_one]; exact hvyj)) .nil)
       ·intro h1 h2
        obtain rfl : e = 2 := Nat.le_antisymm h2 h1
        have hwe : wc345 = w' := (hw.trans (by kernel_rfl)).symm
        subst hwe
        obtain ⟨hEc344, hEc345, _⟩ := hH
        exact (.cons (ix_own (j := 0) (hoyj) (by kernel_rfl) (by kernel_rfl) rfl (by omega)) .nil)
       ·intro h1 h2
        obtain rfl : e = 2 := Nat.le_antisymm h2 h1
        have hwe : wc345 = w' := (hw.trans (by kernel_rfl)).symm
        subst hwe
        obtain ⟨hEc344, hEc345, _⟩ := hH
        exact (.cons (OwnV.cellAt (((hoyj.drew : OwnV wl305.drew 3 1 (.slice yb lyj.length yc) lyj.length (ivs lyj)).ext hEc344 (by simp) : OwnV wc344 3 1 (.slice yb lyj.length yc) lyj.length (ivs lyj)).ext hEc345 (by simp) : OwnV wc345 3 1 (.slice yb lyj.length yc) lyj.length (ivs lyj)) _ (by rw [hu0]; rfl)) .nil)
      ·refine (.cons ?eq347_5 (.cons ?eq347_13 (.cons ?eq347_62 .nil)))
       ·rintro ⟨wc344, wc345, wc346⟩ hH
        clear hH
        refine eff_gh (wl305.drew) (by kernel_rfl) ?_
        refine upon_call (f := 39) (vs := [vfj]) (cap := #[]) (d := (some 197)) (by kernel_rfl) Tryd.call39 #[vfj] (by kernel_rfl) (rising_true ((hG309.ext0 ((Ext.refl [] _).drew)).lf.rd hfj hvfj) (by omega) (hIF.rising lfj (List.mem_of_getElem? hfj))) ?_
        rintro _ wc344 ⟨rfl, hEc344⟩
        exact ⟨_, rfl, ⟨(wc344, wc345, wc346), by kernel_rfl, by kernel_rfl, by kernel_rfl, ⟨hEc344, trivial⟩⟩⟩
       ·rintro ⟨wc344, wc345, wc346⟩ hH
        obtain ⟨hEc344, _⟩ := hH
        refine eff_gh (wc344) (by kernel_rfl) ?_
        refine upon_call (f := 39) (vs := [vwj]) (cap := #[]) (d := (some 205)) (by kernel_rfl) Tryd.call39 #[vwj] (by kernel_rfl) (rising_true ((hG309.ext0 ((((Ext.refl [] _).drew)).trans0 hEc344)).lw.rd hwj hvwj) (by omega) (hIW.rising lwj (List.mem_of_getElem? hwj))) ?_
        rintro _ wc345 ⟨rfl, hEc345⟩
        exact ⟨_, rfl, ⟨(wc344, wc345, wc346), by kernel_rfl, by kernel_rfl, by kernel_rfl, ⟨hEc344, hEc345, trivial⟩⟩⟩
       ·rintro ⟨wc344, wc345, wc346⟩ hH
        obtain ⟨hEc344, hEc345, _⟩ := hH
        refine eff_gh (wc345) (by kernel_rfl) ?_
        refine upon_call (f := 29) (vs := [vfj, I6 ↑q]) (cap := #[]) (d := (some 254)) (by kernel_rfl) Tryd.call29 #[vfj, I6 ↑q] (by kernel_rfl) (has_true hqf ((hG309.ext0 ((((((Ext.refl [] _).drew)).trans0 hEc344)).trans0 hEc345)).lf.rd hfj hvfj) (by omega)) ?_
        rintro _ wc346 ⟨rfl, hEc346⟩
        exact ⟨_, rfl, ⟨(wc344, wc345, wc346), by kernel_rfl, by kernel_rfl, by kernel_rfl, ⟨hEc344, hEc345, hEc346, trivial⟩⟩⟩
      rintro ⟨wc344, wc345, wc346⟩ a w348 hS hw349 hH
      obtain ⟨hEc344, hEc345, hEc346, _⟩ := hH
      replace hw349 : w348 = wc346 := hw349.trans (by kernel_rfl)
      have hE358 : Ext [] wl73 w348 := by rw [hw349]; exact (((hXl305.drew).trans0 hEc344).trans0 hEc345).trans0 hEc346
      have hX359 : Ext [] wl305 w348 := by rw [hw349]; exact ((((Ext.refl _ _).drew).trans0 hEc344).trans0 hEc345).trans0 hEc346
      have hG360 : TdOk S w2.heap.size w348 T := hG309.extG hX359 hTl (by simp)
      replace hS := hS.kp [(1, (Pv w.heap.size)), (3, (Pv wtT.heap.size)), (7, Sl wc57.heap.size S.ns.length S.ns.length), (16, I6 ↑j), (189, .bool (decide ((↑j : Int) < ↑S.ns.length))), (259, .bool false)]
      refine hK314 _ _ ?_
      refine cond_f hS rfl ?_
      refine wpIn_skip <| inBlock_normal <| hK313 _ _ <| rgn 3 <| sd ww [.p, .as (I6 (↑j + 1)), .p] [Value.int .i64 (IntKind.i64.wrap (↑j + 1)) = I6 (↑j + 1)] [(16, I6 (↑j + 1))] [] 3 0 hS (.cons (as_i64 (by omega)) .nil) fun a hS => seg_end ?_
      exact ⟨j + 1, ⟨hS.kp [(1, (Pv w.heap.size)), (3, (Pv wtT.heap.size)), (7, Sl wc57.heap.size S.ns.length S.ns.length), (16, I6 (↑j + 1))], hE358, by omega⟩, by omega⟩
   ·
    replace hb312 := of_decide_eq_false hb312
    have hEl305 : Ext [] w wl305 := hEl73.trans0 hXl305
    refine wpIn_exit <| then_exit <| then_exit <| inBlock_hit <| hK303 _ _ <| sq fun K361 hK361 => rgn 1 <| sd ww [.p] [] [(2, .bool true)] [] 1 0 hS .nil fun a hS => seg_end <| hK361 _ _ <| wpIn_ret ?_
    refine ret1 hS Tryd.results9 rfl ?_
    exact ⟨rfl, hEl305⟩

end Go.Proofs.YtkkpghlcmcaoiaaDoor
