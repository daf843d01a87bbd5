import Derived.Test.YtkkpghlcmcaoiaaDoorS2
namespace Go.Proofs.YtkkpghlcmcaoiaaDoor
open Go.Vc Go.Gm
theorem Symbol_r {w0 w : World} {S : Sp} (hG : SpOk w0 S) (hb : Ext [] w0 w) (x : Sy) :
  Calls Tryd.prog 74 #[.agg S.ca, .agg #[I6 x.1, I6 x.2]] w fun e w' => e = .returned (I6 (symE S x)) ∧ Ext [] w w' := by
 have hlmax := hG.lmax
 have hnmax := hG.nmax
 have hpmax := hG.pmax
 refine cbd 45 [(0, .agg S.ca), (1, .agg #[I6 x.1, I6 x.2])] Tryd.func74 rfl fun a hS => ?_
 have hE0 : Ext [] w w := Ext.refl _ _
 refine sq fun K1 hK1 => rgn 3 <| ebx 2 S.ca 26 (some 2) hS fun a w2 hw3 hS => ?_
 have hB4 := Blk.nw hw3
 have hs5 := hE0.size
 have hE6 := hE0.al hw3
 refine ebx 1 #[I6 x.1, I6 x.2] 61 (some 3) hS fun a w7 hw8 hS => ?_
 have hB10 := Blk.at' hw8 (hB4.alloc _)
 have hB11 := Blk.nw hw8
 have hs12 := hE6.size
 have hE13 := hE6.al hw8
 refine sd ww [.p] [] [(4, I6 0)] [] 3 0 hS .nil fun a hS => sge hK1 <| sq fun K14 hK14 => sq fun K15 hK15 => ?_
 rcases (show (x.1 = 1 ∧ 0 ≤ x.2 ∧ x.2 < S.lx.length) ∨ (x.1 = 1 ∧ x.2 < 0) ∨ (x.1 = 1 ∧ 0 ≤ x.2 ∧ S.lx.length ≤ x.2) ∨ (x.1 = 2 ∧ x.2 = 0) ∨ (x.1 = 2 ∧ x.2 ≠ 0) ∨ (x.1 = 3 ∧ 0 ≤ x.2 ∧ x.2 < S.ns.length) ∨ (x.1 = 3 ∧ x.2 < 0) ∨ (x.1 = 3 ∧ 0 ≤ x.2 ∧ S.ns.length ≤ x.2) ∨ (x.1 ≠ 1 ∧ x.1 ≠ 2 ∧ x.1 ≠ 3) from by omega) with ⟨h1, h2, h3⟩ | ⟨h1, h2⟩ | ⟨h1, h2, h3⟩ | ⟨h1, h2⟩ | ⟨h1, h2⟩ | ⟨h1, h2, h3⟩ | ⟨h1, h2⟩ | ⟨h1, h2, h3⟩ | ⟨h1, h2, h3⟩
 ·
  obtain ⟨lr, hlr⟩ : ∃ lr, S.lx[x.2.toNat]? = some lr := gE
  refine rgn 2 <| sd ww [.p, .ld (I6 x.1)] [_] [(6, I6 x.1)] [] 2 0 hS (hB11.k 0 .nil) fun a hS => sge hK15 <| wpIn_block <| sdq 2 [.as (.bool true), .p] [Value.bool (((x.1 : Int) == 1)) = .bool true] [(7, .bool true)] [] hS (.c (as_eq_t (by omega)) .nil) fun a hS => ?_
  refine cond_t hS rfl ?_
  refine sq fun K17 hK17 => sdq 11 [.p, .ld (I6 x.2), .as (.bool false), .p, .p, .ld (I6 x.2), .p, .ld (S.lv), .run (I6 S.lx.length), .as (.bool false), .p] [_, Value.bool (decide ((x.2 : Int) < 0)) = .bool false, _, _, Rv (Builtin.len_ #[22] 3 #[S.lv]) (I6 S.lx.length) w7, Value.bool (decide ((x.2 : Int) ≥ ↑S.lx.length)) = .bool false] [(19, .bool false)] [] hS (hB11.k 1 (.c (as_f (by omega)) (hB11.k 1 (hB10.k 0 (.c (rlr 100 hG.lex) (.c (as_f (by omega)) .nil)))))) fun a hS => ?_
  refine cond_f hS rfl ?_
  refine wpIn_skip <| hK17 _ _ <| sq fun K19 hK19 => sdq 7 [.p, .ld (S.lv), .p, .ld (I6 x.2), .run ((Po (bof S.lv) (oof S.lv + x.2.toNat * 8))), .p, .ld (.bool lr.tr)] [_, _, Rv (Instr.indexAt 22 (S.lv) (I6 x.2)) ((Po (bof S.lv) (oof S.lv + x.2.toNat * 8))) w7, w7.cell? ⟨bof S.lv, oof S.lv + x.2.toNat * 8 + 1, none⟩ = some (.bool lr.tr)] [(26, .bool lr.tr)] [] hS (hB10.k 0 (hB11.k 1 (.c (ix_rd (e := 100) (j := x.2.toNat) hG.lex (by kernel_rfl) (by kernel_rfl) (Int.toNat_of_nonneg (by omega)).symm (by omega)) (.c ((hG.lex.ext0 (hb.trans0 hE13)).cellAt (x.2.toNat * 8 + 1) (by omega) (lcells_at S.lx x.2.toNat 1 lr hlr (by omega))) .nil)))) fun a hS => ?_
  refine cond_b hS rfl (fun hb21 => ?_) (fun hb21 => ?_)
  ·
   replace hb21 := hb21
   refine sdq 1 [.p] [] [(4, I6 71)] [] hS .nil fun a hS => wpIn_ret <| then_ret <| inBlock_ret <| then_ret ?_
   refine ret1 hS Tryd.results74 rfl ?_
   exact ⟨by rw [show symE S x = 71 from by rw [symE, if_pos h1, if_pos ⟨h2, h3⟩, hlr, Option.map_some, hb21]; rfl], hE13⟩
  ·
   replace hb21 := hb21
   refine wpIn_skip <| hK19 _ _ <| sdq 1 [.p] [] [] [] hS .nil fun a hS => wpIn_ret <| inBlock_ret <| then_ret ?_
   refine ret1 hS Tryd.results74 rfl ?_
   exact ⟨by rw [show symE S x = 0 from by rw [symE, if_pos h1, if_pos ⟨h2, h3⟩, hlr, Option.map_some, hb21]; rfl], hE13⟩
 ·
  refine rgn 2 <| sd ww [.p, .ld (I6 x.1)] [_] [(6, I6 x.1)] [] 2 0 hS (hB11.k 0 .nil) fun a hS => sge hK15 <| wpIn_block <| sdq 2 [.as (.bool true), .p] [Value.bool (((x.1 : Int) == 1)) = .bool true] [(7, .bool true)] [] hS (.c (as_eq_t (by omega)) .nil) fun a hS => ?_
  refine cond_t hS rfl ?_
  refine sq fun K25 hK25 => sdq 11 [.p, .ld (I6 x.2), .as (.bool true), .p, .no, .no, .no, .no, .no, .no, .p] [_, Value.bool (decide ((x.2 : Int) < 0)) = .bool true] [(19, .bool true)] [] hS (hB11.k 1 (.c (as_t (by omega)) .nil)) fun a hS => ?_
  refine cond_t hS rfl ?_
  refine sdq 1 [.p] [] [(4, I6 70)] [] hS .nil fun a hS => wpIn_ret <| then_ret <| inBlock_ret <| then_ret ?_
  refine ret1 hS Tryd.results74 rfl ?_
  exact ⟨by rw [show symE S x = 70 from by simp [symE, h1, show ¬(0 ≤ x.2 ∧ x.2 < S.lx.length) by omega]], hE13⟩
 ·
  refine rgn 2 <| sd ww [.p, .ld (I6 x.1)] [_] [(6, I6 x.1)] [] 2 0 hS (hB11.k 0 .nil) fun a hS => sge hK15 <| wpIn_block <| sdq 2 [.as (.bool true), .p] [Value.bool (((x.1 : Int) == 1)) = .bool true] [(7, .bool true)] [] hS (.c (as_eq_t (by omega)) .nil) fun a hS => ?_
  refine cond_t hS rfl ?_
  refine sq fun K29 hK29 => sdq 11 [.p, .ld (I6 x.2), .as (.bool false), .p, .p, .ld (I6 x.2), .p, .ld (S.lv), .run (I6 S.lx.length), .as (.bool true), .p] [_, Value.bool (decide ((x.2 : Int) < 0)) = .bool false, _, _, Rv (Builtin.len_ #[22] 3 #[S.lv]) (I6 S.lx.length) w7, Value.bool (decide ((x.2 : Int) ≥ ↑S.lx.length)) = .bool true] [(19, .bool true)] [] hS (hB11.k 1 (.c (as_f (by omega)) (hB11.k 1 (hB10.k 0 (.c (rlr 100 hG.lex) (.c (as_t (by omega)) .nil)))))) fun a hS => ?_
  refine cond_t hS rfl ?_
  refine sdq 1 [.p] [] [(4, I6 70)] [] hS .nil fun a hS => wpIn_ret <| then_ret <| inBlock_ret <| then_ret ?_
  refine ret1 hS Tryd.results74 rfl ?_
  exact ⟨by rw [show symE S x = 70 from by simp [symE, h1, show ¬(0 ≤ x.2 ∧ x.2 < S.lx.length) by omega]], hE13⟩
 ·
  refine rgn 2 <| sd ww [.p, .ld (I6 x.1)] [_] [(6, I6 x.1)] [] 2 0 hS (hB11.k 0 .nil) fun a hS => sge hK15 <| wpIn_block <| sdq 2 [.as (.bool false), .p] [Value.bool (((x.1 : Int) == 1)) = .bool false] [(7, .bool false)] [] hS (.c (as_eq_f (by omega)) .nil) fun a hS => ?_
  refine cond_f hS rfl ?_
  refine sdq 2 [.as (.bool true), .p] [Value.bool (((x.1 : Int) == 2)) = .bool true] [(27, .bool true)] [] hS (.c (as_eq_t (by omega)) .nil) fun a hS => ?_
  refine cond_t hS rfl ?_
  refine sq fun K34 hK34 => sdq 3 [.p, .ld (I6 x.2), .as (.bool false)] [_, Value.bool (((x.2 : Int) != 0)) = .bool false] [(31, .bool false)] [] hS (hB11.k 1 (.c (as_ne_f (by omega)) .nil)) fun a hS => ?_
  refine cond_f hS rfl ?_
  refine wpIn_skip <| hK34 _ _ <| sdq 1 [.p] [] [] [] hS .nil fun a hS => wpIn_ret <| inBlock_ret <| then_ret ?_
  refine ret1 hS Tryd.results74 rfl ?_
  exact ⟨by rw [show symE S x = 0 from by simp [symE, h1, h2]], hE13⟩
 ·
  refine rgn 2 <| sd ww [.p, .ld (I6 x.1)] [_] [(6, I6 x.1)] [] 2 0 hS (hB11.k 0 .nil) fun a hS => sge hK15 <| wpIn_block <| sdq 2 [.as (.bool false), .p] [Value.bool (((x.1 : Int) == 1)) = .bool false] [(7, .bool false)] [] hS (.c (as_eq_f (by omega)) .nil) fun a hS => ?_
  refine cond_f hS rfl ?_
  refine sdq 2 [.as (.bool true), .p] [Value.bool (((x.1 : Int) == 2)) = .bool true] [(27, .bool true)] [] hS (.c (as_eq_t (by omega)) .nil) fun a hS => ?_
  refine cond_t hS rfl ?_
  refine sq fun K39 hK39 => sdq 3 [.p, .ld (I6 x.2), .as (.bool true)] [_, Value.bool (((x.2 : Int) != 0)) = .bool true] [(31, .bool true)] [] hS (hB11.k 1 (.c (as_ne_t (by omega)) .nil)) fun a hS => ?_
  refine cond_t hS rfl ?_
  refine sdq 1 [.p] [] [(4, I6 70)] [] hS .nil fun a hS => wpIn_ret <| then_ret <| inBlock_ret <| then_ret ?_
  refine ret1 hS Tryd.results74 rfl ?_
  exact ⟨by rw [show symE S x = 70 from by simp [symE, h1, h2]], hE13⟩
 ·
  refine rgn 2 <| sd ww [.p, .ld (I6 x.1)] [_] [(6, I6 x.1)] [] 2 0 hS (hB11.k 0 .nil) fun a hS => sge hK15 <| wpIn_block <| sdq 2 [.as (.bool false), .p] [Value.bool (((x.1 : Int) == 1)) = .bool false] [(7, .bool false)] [] hS (.c (as_eq_f (by omega)) .nil) fun a hS => ?_
  refine cond_f hS rfl ?_
  refine sdq 2 [.as (.bool false), .p] [Value.bool (((x.1 : Int) == 2)) = .bool false] [(27, .bool false)] [] hS (.c (as_eq_f (by omega)) .nil) fun a hS => ?_
  refine cond_f hS rfl ?_
  refine sdq 2 [.as (.bool true), .p] [Value.bool (((x.1 : Int) == 3)) = .bool true] [(32, .bool true)] [] hS (.c (as_eq_t (by omega)) .nil) fun a hS => ?_
  refine cond_t hS rfl ?_
  refine sq fun K45 hK45 => sdq 11 [.p, .ld (I6 x.2), .as (.bool false), .p, .p, .ld (I6 x.2), .p, .ld (S.nv), .run (I6 S.ns.length), .as (.bool false), .p] [_, Value.bool (decide ((x.2 : Int) < 0)) = .bool false, _, _, Rv (Builtin.len_ #[23] 3 #[S.nv]) (I6 S.ns.length) w7, Value.bool (decide ((x.2 : Int) ≥ ↑S.ns.length)) = .bool false] [(44, .bool false)] [] hS (hB11.k 1 (.c (as_f (by omega)) (hB11.k 1 (hB10.k 1 (.c (rlr 9 hG.names) (.c (as_f (by omega)) .nil)))))) fun a hS => ?_
  refine cond_f hS rfl ?_
  refine wpIn_skip <| hK45 _ _ <| sq fun K47 hK47 => rgn 1 <| sg ww [.p] [] [(0, .agg S.ca), (1, .agg #[I6 x.1, I6 x.2]), (2, (Pv w.heap.size)), (3, (Pv w2.heap.size)), (4, I6 0), (6, I6 x.1), (7, .bool false), (27, .bool false), (32, .bool true), (44, .bool false)] 1 0 hS .nil fun a hS => sge hK47 <| wpIn_ret <| inBlock_ret <| then_ret ?_
  refine ret1 hS Tryd.results74 rfl ?_
  exact ⟨by rw [show symE S x = 0 from by simp [symE, h1, h2, h3]], hE13⟩
 ·
  refine rgn 2 <| sd ww [.p, .ld (I6 x.1)] [_] [(6, I6 x.1)] [] 2 0 hS (hB11.k 0 .nil) fun a hS => sge hK15 <| wpIn_block <| sdq 2 [.as (.bool false), .p] [Value.bool (((x.1 : Int) == 1)) = .bool false] [(7, .bool false)] [] hS (.c (as_eq_f (by omega)) .nil) fun a hS => ?_
  refine cond_f hS rfl ?_
  refine sdq 2 [.as (.bool false), .p] [Value.bool (((x.1 : Int) == 2)) = .bool false] [(27, .bool false)] [] hS (.c (as_eq_f (by omega)) .nil) fun a hS => ?_
  refine cond_f hS rfl ?_
  refine sdq 2 [.as (.bool true), .p] [Value.bool (((x.1 : Int) == 3)) = .bool true] [(32, .bool true)] [] hS (.c (as_eq_t (by omega)) .nil) fun a hS => ?_
  refine cond_t hS rfl ?_
  refine sq fun K51 hK51 => sdq 11 [.p, .ld (I6 x.2), .as (.bool true), .p, .no, .no, .no, .no, .no, .no, .p] [_, Value.bool (decide ((x.2 : Int) < 0)) = .bool true] [(44, .bool true)] [] hS (hB11.k 1 (.c (as_t (by omega)) .nil)) fun a hS => ?_
  refine cond_t hS rfl ?_
  refine sq fun K53 hK53 => rgn 1 <| sg ww [.p] [] [(0, .agg S.ca), (1, .agg #[I6 x.1, I6 x.2]), (2, (Pv w.heap.size)), (3, (Pv w2.heap.size)), (4, I6 70), (6, I6 x.1), (7, .bool false), (27, .bool false), (32, .bool true), (44, .bool true)] 1 0 hS .nil fun a hS => sge hK53 <| wpIn_ret <| then_ret <| inBlock_ret <| then_ret ?_
  refine ret1 hS Tryd.results74 rfl ?_
  exact ⟨by rw [show symE S x = 70 from by simp [symE, h1, show ¬(0 ≤ x.2 ∧ x.2 < S.ns.length) by omega]], hE13⟩
 ·
  refine rgn 2 <| sd ww [.p, .ld (I6 x.1)] [_] [(6, I6 x.1)] [] 2 0 hS (hB11.k 0 .nil) fun a hS => sge hK15 <| wpIn_block <| sdq 2 [.as (.bool false), .p] [Value.bool (((x.1 : Int) == 1)) = .bool false] [(7, .bool false)] [] hS (.c (as_eq_f (by omega)) .nil) fun a hS => ?_
  refine cond_f hS rfl ?_
  refine sdq 2 [.as (.bool false), .p] [Value.bool (((x.1 : Int) == 2)) = .bool false] [(27, .bool false)] [] hS (.c (as_eq_f (by omega)) .nil) fun a hS => ?_
  refine cond_f hS rfl ?_
  refine sdq 2 [.as (.bool true), .p] [Value.bool (((x.1 : Int) == 3)) = .bool true] [(32, .bool true)] [] hS (.c (as_eq_t (by omega)) .nil) fun a hS => ?_
  refine cond_t hS rfl ?_
  refine sq fun K57 hK57 => sdq 11 [.p, .ld (I6 x.2), .as (.bool false), .p, .p, .ld (I6 x.2), .p, .ld (S.nv), .run (I6 S.ns.length), .as (.bool true), .p] [_, Value.bool (decide ((x.2 : Int) < 0)) = .bool false, _, _, Rv (Builtin.len_ #[23] 3 #[S.nv]) (I6 S.ns.length) w7, Value.bool (decide ((x.2 : Int) ≥ ↑S.ns.length)) = .bool true] [(44, .bool true)] [] hS (hB11.k 1 (.c (as_f (by omega)) (hB11.k 1 (hB10.k 1 (.c (rlr 9 hG.names) (.c (as_t (by omega)) .nil)))))) fun a hS => ?_
  refine cond_t hS rfl ?_
  refine sq fun K59 hK59 => rgn 1 <| sg ww [.p] [] [(0, .agg S.ca), (1, .agg #[I6 x.1, I6 x.2]), (2, (Pv w.heap.size)), (3, (Pv w2.heap.size)), (4, I6 70), (6, I6 x.1), (7, .bool false), (27, .bool false), (32, .bool true), (44, .bool true)] 1 0 hS .nil fun a hS => sge hK59 <| wpIn_ret <| then_ret <| inBlock_ret <| then_ret ?_
  refine ret1 hS Tryd.results74 rfl ?_
  exact ⟨by rw [show symE S x = 70 from by simp [symE, h1, show ¬(0 ≤ x.2 ∧ x.2 < S.ns.length) by omega]], hE13⟩
 ·
  refine rgn 2 <| sd ww [.p, .ld (I6 x.1)] [_] [(6, I6 x.1)] [] 2 0 hS (hB11.k 0 .nil) fun a hS => sge hK15 <| wpIn_block <| sdq 2 [.as (.bool false), .p] [Value.bool (((x.1 : Int) == 1)) = .bool false] [(7, .bool false)] [] hS (.c (as_eq_f (by omega)) .nil) fun a hS => ?_
  refine cond_f hS rfl ?_
  refine sdq 2 [.as (.bool false), .p] [Value.bool (((x.1 : Int) == 2)) = .bool false] [(27, .bool false)] [] hS (.c (as_eq_f (by omega)) .nil) fun a hS => ?_
  refine cond_f hS rfl ?_
  refine sdq 2 [.as (.bool false), .p] [Value.bool (((x.1 : Int) == 3)) = .bool false] [(32, .bool false)] [] hS (.c (as_eq_f (by omega)) .nil) fun a hS => ?_
  refine cond_f hS rfl ?_
  refine wpIn_skip <| inBlock_normal <| hK14 _ _ <| sdq 1 [.p] [] [(4, I6 70)] [] hS .nil fun a hS => wpIn_ret ?_
  refine ret1 hS Tryd.results74 rfl ?_
  exact ⟨by rw [show symE S x = 70 from by simp [symE, h1, h2, h3]], hE13⟩
theorem Long_r {w0 w : World} {S : Sp} (hG : SpOk w0 S) (hb : Ext [] w0 w) :
  Calls Tryd.prog 45 #[.agg S.ca] w fun e w' => e = .returned (.bool (decide (Lng S))) ∧ Ext [] w w' := by
 have hlmax := hG.lmax
 have hnmax := hG.nmax
 have hpmax := hG.pmax
 refine cbd 35 [(0, .agg S.ca)] Tryd.func45 rfl fun a hS => ?_
 have hE0 : Ext [] w w := Ext.refl _ _
 refine sq fun K1 hK1 => rgn 2 <| ebx 1 S.ca 26 (some 1) hS fun a w2 hw3 hS => ?_
 have hB4 := Blk.nw hw3
 have hs5 := hE0.size
 have hE6 := hE0.al hw3
 refine sd ww [.p] [] [(2, .bool false)] [] 2 0 hS .nil fun a hS => sge hK1 <| sq fun K7 hK7 => sq fun K8 hK8 => ?_
 rcases (show 64 < S.lx.length ∨ (¬64 < S.lx.length ∧ 128 < S.ns.length) ∨ (¬64 < S.lx.length ∧ ¬128 < S.ns.length ∧ 512 < S.ps.length) ∨ (¬64 < S.lx.length ∧ ¬128 < S.ns.length ∧ ¬512 < S.ps.length) by omega) with h1 | ⟨h1, h2⟩ | ⟨h1, h2, h3⟩ | ⟨h1, h2, h3⟩
 ·
  refine rgn 16 <| sd ww [.p, .ld (S.lv), .run (I6 S.lx.length), .as (.bool true), .p, .no, .no, .no, .no, .p, .p, .no, .no, .no, .no, .p] [_, Rv (Builtin.len_ #[22] 3 #[S.lv]) (I6 S.lx.length) w2, Value.bool (decide ((↑S.lx.length : Int) > 64)) = .bool true] [(19, .bool true)] [] 16 0 hS (hB4.k 0 (.c (rlr 100 hG.lex) (.c (as_t (by omega)) .nil))) fun a hS => sge hK8 ?_
  refine cond_t hS rfl ?_
  refine sdq 1 [.p] [] [(2, .bool true)] [] hS .nil fun a hS => wpIn_ret <| then_ret ?_
  refine ret1 hS Tryd.results45 rfl ?_
  exact ⟨by rw [decide_eq_true (show Lng S from .inl h1)], hE6⟩
 ·
  refine rgn 16 <| sd ww [.p, .ld (S.lv), .run (I6 S.lx.length), .as (.bool false), .p, .p, .ld (S.nv), .run (I6 S.ns.length), .as (.bool true), .p, .p, .no, .no, .no, .no, .p] [_, Rv (Builtin.len_ #[22] 3 #[S.lv]) (I6 S.lx.length) w2, Value.bool (decide ((↑S.lx.length : Int) > 64)) = .bool false, _, Rv (Builtin.len_ #[23] 3 #[S.nv]) (I6 S.ns.length) w2, Value.bool (decide ((↑S.ns.length : Int) > 128)) = .bool true] [(19, .bool true)] [] 16 0 hS (hB4.k 0 (.c (rlr 100 hG.lex) (.c (as_f (by omega)) (hB4.k 1 (.c (rlr 9 hG.names) (.c (as_t (by omega)) .nil)))))) fun a hS => sge hK8 ?_
  refine cond_t hS rfl ?_
  refine sdq 1 [.p] [] [(2, .bool true)] [] hS .nil fun a hS => wpIn_ret <| then_ret ?_
  refine ret1 hS Tryd.results45 rfl ?_
  exact ⟨by rw [decide_eq_true (show Lng S from .inr (.inl h2))], hE6⟩
 ·
  refine rgn 16 <| sd ww [.p, .ld (S.lv), .run (I6 S.lx.length), .as (.bool false), .p, .p, .ld (S.nv), .run (I6 S.ns.length), .as (.bool false), .p, .p, .p, .ld (S.pv), .run (I6 S.ps.length), .as (.bool true), .p] [_, Rv (Builtin.len_ #[22] 3 #[S.lv]) (I6 S.lx.length) w2, Value.bool (decide ((↑S.lx.length : Int) > 64)) = .bool false, _, Rv (Builtin.len_ #[23] 3 #[S.nv]) (I6 S.ns.length) w2, Value.bool (decide ((↑S.ns.length : Int) > 128)) = .bool false, _, Rv (Builtin.len_ #[24] 3 #[S.pv]) (I6 S.ps.length) w2, Value.bool (decide ((↑S.ps.length : Int) > 512)) = .bool true] [(19, .bool true)] [] 16 0 hS (hB4.k 0 (.c (rlr 100 hG.lex) (.c (as_f (by omega)) (hB4.k 1 (.c (rlr 9 hG.names) (.c (as_f (by omega)) (hB4.k 3 (.c (rlr 73 hG.prods) (.c (as_t (by omega)) .nil))))))))) fun a hS => sge hK8 ?_
  refine cond_t hS rfl ?_
  refine sdq 1 [.p] [] [(2, .bool true)] [] hS .nil fun a hS => wpIn_ret <| then_ret ?_
  refine ret1 hS Tryd.results45 rfl ?_
  exact ⟨by rw [decide_eq_true (show Lng S from .inr (.inr (.inl h3)))], hE6⟩
 ·
  refine rgn 16 <| sd ww [.p, .ld (S.lv), .run (I6 S.lx.length), .as (.bool false), .p, .p, .ld (S.nv), .run (I6 S.ns.length), .as (.bool false), .p, .p, .p, .ld (S.pv), .run (I6 S.ps.length), .as (.bool false), .p] [_, Rv (Builtin.len_ #[22] 3 #[S.lv]) (I6 S.lx.length) w2, Value.bool (decide ((↑S.lx.length : Int) > 64)) = .bool false, _, Rv (Builtin.len_ #[23] 3 #[S.nv]) (I6 S.ns.length) w2, Value.bool (decide ((↑S.ns.length : Int) > 128)) = .bool false, _, Rv (Builtin.len_ #[24] 3 #[S.pv]) (I6 S.ps.length) w2, Value.bool (decide ((↑S.ps.length : Int) > 512)) = .bool false] [(19, .bool false)] [] 16 0 hS (hB4.k 0 (.c (rlr 100 hG.lex) (.c (as_f (by omega)) (hB4.k 1 (.c (rlr 9 hG.names) (.c (as_f (by omega)) (hB4.k 3 (.c (rlr 73 hG.prods) (.c (as_f (by omega)) .nil))))))))) fun a hS => sge hK8 ?_
  refine cond_f hS rfl ?_
  refine wpIn_skip <| hK7 _ _ <| sq fun K12 hK12 => sdq 1 [.p] [] [(3, I6 0)] [] hS .nil fun a hS => wpIn_block ?_
  have hbl14 := (hb.trans0 hE6)
  refine loop_ghost (fun (i : Nat) a' w' => St 35 [] [(1, (Pv w.heap.size)), (3, I6 i)] a' ∧ Ext [] w2 w' ∧ i ≤ S.ps.length ∧ (∀ j q, j < i → S.ps[j]? = some q → q.r.length ≤ 16)) (fun (i : Nat) => S.ps.length - i) 0 ⟨hS.keepTo [1, 3] (by kernel_rfl), Ext.refl _ _, by omega, fun j q h => by omega⟩ ?_
  rintro i a wl14 ⟨hS, hXl14, hi, hn⟩
  have hB15 := hB4.ext hXl14 (by simp)
  refine sq fun K16 hK16 => sdq 5 [.p, .p, .ld (S.pv), .run (I6 S.ps.length), .p] [_, Rv (Builtin.len_ #[24] 3 #[S.pv]) (I6 S.ps.length) wl14] [(24, .bool (decide ((↑i : Int) < ↑S.ps.length)))] [] hS (hB15.k 3 (.c (rlr 73 hG.prods) .nil)) fun a hS => ?_
  refine cond_b hS rfl (fun hb18 => ?_) (fun hb18 => ?_)
  ·
   replace hb18 := of_decide_eq_true hb18
   obtain ⟨p, hpi⟩ : ∃ p, S.ps[i]? = some p := gE
   have hpm := List.mem_of_getElem? hpi
   have hrm := hG.rmax p hpm
   refine wpIn_skip <| hK16 _ _ <| sq fun K19 hK19 => wpIn_block <| sdq 8 [.p, .ld (S.pv), .p, .run ((Po (bof S.pv) (oof S.pv + i * 2))), .p, .ld (p.rv), .run (I6 p.r.length), .p] [_, Rv (Instr.indexAt 24 (S.pv) (I6 i)) ((Po (bof S.pv) (oof S.pv + i * 2))) wl14, wl14.cell? ⟨bof S.pv, oof S.pv + i * 2 + 1, none⟩ = some (p.rv), Rv (Builtin.len_ #[71] 3 #[p.rv]) (I6 p.r.length) wl14] [(34, .bool (decide ((↑p.r.length : Int) > 16)))] [] hS (hB15.k 3 (.c (ixr 73 i hG.prods) (.c ((hG.prods.ext0 (hbl14.trans0 hXl14)).cellAt (i * 2 + 1) (by omega) (pcells_at S.ps i 1 p hpi (by omega))) (.c (rlr 61 (hG.right p hpm)) .nil)))) fun a hS => ?_
   refine cond_b hS rfl (fun hb21 => ?_) (fun hb21 => ?_)
   ·
    replace hb21 := of_decide_eq_true hb21
    have hEl14 : Ext [] w wl14 := hE6.trans0 hXl14
    refine sdq 1 [.p] [] [(2, .bool true)] [] hS .nil fun a hS => wpIn_ret <| inBlock_ret <| then_ret <| then_ret <| inBlock_ret <| then_ret ?_
    refine ret1 hS Tryd.results45 rfl ?_
    exact ⟨by rw [decide_eq_true (show Lng S from .inr (.inr (.inr ⟨p, hpm, by omega⟩)))], hEl14⟩
   ·
    replace hb21 := of_decide_eq_false hb21
    refine wpIn_skip <| inBlock_normal <| hK19 _ _ <| rgn 3 <| sd ww [.p, .as (I6 (↑i + 1)), .p] [_] [(3, I6 (↑i + 1))] [] 3 0 hS (as6 (↑i + 1)) fun a hS => seg_end ?_
    exact ⟨i + 1, ⟨hS.kp [(1, (Pv w.heap.size)), (3, I6 (↑i + 1))], hXl14, by omega, fun j q hj hq => by
     rcases Nat.lt_succ_iff_lt_or_eq.1 hj with h | h
     ·exact hn j q h hq
     ·rw [h, hpi] at hq; cases hq; omega⟩, by omega⟩
  ·
   replace hb18 := of_decide_eq_false hb18
   have hEl14 : Ext [] w wl14 := hE6.trans0 hXl14
   have hno : ¬LongR S := fun ⟨p, hp, h⟩ => by
    obtain ⟨j, hj⟩ := List.getElem?_of_mem hp
    have hjl : j < S.ps.length := (List.getElem?_eq_some_iff.1 hj).1
    have := hn j p (by omega) hj
    omega
   refine xt2 <| hK12 _ _ <| sdq 1 [.p] [] [(2, .bool false)] [] hS .nil fun a hS => wpIn_ret ?_
   refine ret1 hS Tryd.results45 rfl ?_
   exact ⟨by rw [decide_eq_false (show ¬Lng S from fun h => by rcases h with h | h | h | h <;> first | omega | exact hno h)], hEl14⟩
theorem indices_r {w0 w : World} {S : Sp} (hG : SpOk w0 S) (hb : Ext [] w0 w) :
  Calls Tryd.prog 46 #[.agg S.ca] w fun e w' => e = .returned (.tuple #[I6 (inE S).2, I6 (inE S).1]) ∧ Ext [] w w' := by
 have hlmax := hG.lmax
 have hnmax := hG.nmax
 have hpmax := hG.pmax
 refine cbd 61 [(0, .agg S.ca)] Tryd.func46 rfl fun a hS => ?_
 have hE0 : Ext [] w w := Ext.refl _ _
 refine sq fun K1 hK1 => rgn 3 <| ebx 2 S.ca 26 (some 1) hS fun a w2 hw3 hS => ?_
 have hB4 := Blk.nw hw3
 have hs5 := hE0.size
 have hE6 := hE0.al hw3
 refine sd ww [.p, .p] [] [(2, I6 0), (3, I6 0)] [] 3 0 hS .nil fun a hS => sge hK1 <| sq fun K7 hK7 => sq fun K8 hK8 => ?_
 rcases (show (S.st < 0) ∨ (0 ≤ S.st ∧ S.ns.length ≤ S.st) ∨ (0 ≤ S.st ∧ S.st < S.ns.length) from by omega) with h1 | ⟨h1, h2⟩ | ⟨h1, h2⟩
 ·
  refine rgn 11 <| sd ww [.p, .ld (I6 S.st), .as (.bool true), .p, .no, .no, .no, .no, .no, .no, .p] [_, Value.bool (decide ((S.st : Int) < 0)) = .bool true] [(18, .bool true)] [] 11 0 hS (hB4.k 2 (.c (as_t (by omega)) .nil)) fun a hS => sge hK8 ?_
  refine cond_t hS rfl ?_
  refine sdq 2 [.p, .p] [] [(2, I6 (-1)), (3, I6 70)] [] hS .nil fun a hS => wpIn_ret <| then_ret ?_
  refine ret2 hS Tryd.results46 rfl rfl ?_
  exact ⟨by rw [show inE S = (70, -1) from if_pos (by omega)], hE6⟩
 ·
  refine rgn 11 <| sd ww [.p, .ld (I6 S.st), .as (.bool false), .p, .p, .ld (I6 S.st), .p, .ld (S.nv), .run (I6 S.ns.length), .as (.bool true), .p] [_, Value.bool (decide ((S.st : Int) < 0)) = .bool false, _, _, Rv (Builtin.len_ #[23] 3 #[S.nv]) (I6 S.ns.length) w2, Value.bool (decide ((S.st : Int) ≥ ↑S.ns.length)) = .bool true] [(18, .bool true)] [] 11 0 hS (hB4.k 2 (.c (as_f (by omega)) (hB4.k 2 (hB4.k 1 (.c (rlr 9 hG.names) (.c (as_t (by omega)) .nil)))))) fun a hS => sge hK8 ?_
  refine cond_t hS rfl ?_
  refine sdq 2 [.p, .p] [] [(2, I6 (-1)), (3, I6 70)] [] hS .nil fun a hS => wpIn_ret <| then_ret ?_
  refine ret2 hS Tryd.results46 rfl rfl ?_
  exact ⟨by rw [show inE S = (70, -1) from if_pos (by omega)], hE6⟩
 ·
  refine rgn 11 <| sd ww [.p, .ld (I6 S.st), .as (.bool false), .p, .p, .ld (I6 S.st), .p, .ld (S.nv), .run (I6 S.ns.length), .as (.bool false), .p] [_, Value.bool (decide ((S.st : Int) < 0)) = .bool false, _, _, Rv (Builtin.len_ #[23] 3 #[S.nv]) (I6 S.ns.length) w2, Value.bool (decide ((S.st : Int) ≥ ↑S.ns.length)) = .bool false] [(18, .bool false)] [] 11 0 hS (hB4.k 2 (.c (as_f (by omega)) (hB4.k 2 (hB4.k 1 (.c (rlr 9 hG.names) (.c (as_f (by omega)) .nil)))))) fun a hS => sge hK8 ?_
  refine cond_f hS rfl ?_
  refine wpIn_skip <| hK7 _ _ <| sq fun K11 hK11 => sdq 1 [.p] [] [(4, I6 0)] [] hS .nil fun a hS => wpIn_block ?_
  have hbl13 := (hb.trans0 hE6)
  refine loop_ghost (fun (i : Nat) a' w' => St 61 [] [(1, (Pv w.heap.size)), (4, I6 i)] a' ∧ Ext [] w2 w' ∧ i ≤ S.ps.length ∧ prodsE S S.ps 0 = prodsE S (S.ps.drop i) i) (fun (i : Nat) => S.ps.length - i) 0 ⟨hS.keepTo [1, 4] (by kernel_rfl), Ext.refl _ _, by omega, rfl⟩ ?_
  rintro i a wl13 ⟨hS, hXl13, hi, hn⟩
  have hB14 := hB4.ext hXl13 (by simp)
  have hin : inE S = prodsE S (S.ps.drop i) i := by rw [← hn]; exact if_neg (by omega)
  refine sq fun K15 hK15 => sdq 5 [.p, .p, .ld (S.pv), .run (I6 S.ps.length), .p] [_, Rv (Builtin.len_ #[24] 3 #[S.pv]) (I6 S.ps.length) wl13] [(23, .bool (decide ((↑i : Int) < ↑S.ps.length)))] [] hS (hB14.k 3 (.c (rlr 73 hG.prods) .nil)) fun a hS => ?_
  refine cond_b hS rfl (fun hb17 => ?_) (fun hb17 => ?_)
  ·
   replace hb17 := of_decide_eq_true hb17
   obtain ⟨p, hpi⟩ : ∃ p, S.ps[i]? = some p := gE
   have hpm := List.mem_of_getElem? hpi
   have hrm := hG.rmax p hpm
   rw [drop_of hpi, prodsE] at hin
   refine wpIn_skip <| hK15 _ _ <| sq fun K18 hK18 => wpIn_block <| sq fun K19 hK19 => rgn 7 <| sd ww [.p, .ld (S.pv), .p, .run ((Po (bof S.pv) (oof S.pv + i * 2))), .lds [I6 p.l, p.rv]] [_, Rv (Instr.indexAt 24 (S.pv) (I6 i)) ((Po (bof S.pv) (oof S.pv + i * 2))) wl13, wl13.cell? ⟨bof S.pv, oof S.pv + i * 2, none⟩ = some (I6 p.l), wl13.cell? ⟨bof S.pv, oof S.pv + i * 2 + 1, none⟩ = some (p.rv)] [(30, .agg #[I6 p.l, p.rv])] [] 5 2 hS (hB14.k 3 (.c (ixr 73 i hG.prods) (.c ((hG.prods.ext0 (hbl13.trans0 hXl13)).cellAt (i * 2 + 0) (by omega) (pcells_at S.ps i 0 p hpi (by omega))) (.c ((hG.prods.ext0 (hbl13.trans0 hXl13)).cellAt (i * 2 + 1) (by omega) (pcells_at S.ps i 1 p hpi (by omega))) .nil)))) fun a hS => ebx 1 #[I6 0, .slice none 0 0] 73 (some 5) hS fun a w20 hw21 hS => ?_
   have hn22 := Nat.ne_of_lt hB14.lt
   have hB23 := Blk.at' hw21 (hB14.alloc _)
   have hB24 := Blk.nw hw21
   have hs25 := hXl13.size
   have hE26 := hXl13.al hw21
   refine est 0 wl13.heap.size 0 [I6 p.l, p.rv] hS hB24 fun a w27 hw28 hS => ?_
   have hB29 := Blk.at' hw28 (hB23.updNe (Ne.symm hn22) _ _)
   have hB30 : Blk w27 wl13.heap.size 73 (#[I6 p.l, p.rv]) := hB24.up hw28
   have hE31 := hE26.ui hw28 hs25
   refine sge hK19 <| sq fun K32 hK32 => sq fun K33 hK33 => ?_
   rcases (show (p.l < 0) ∨ (0 ≤ p.l ∧ S.ns.length ≤ p.l) ∨ (0 ≤ p.l ∧ p.l < S.ns.length) from by omega) with h3 | ⟨h3, h4⟩ | ⟨h3, h4⟩
   ·
    have hEl13 : Ext [] w w27 := hE6.trans0 hE31
    have hpe : prodE S p = 70 := if_pos (by omega)
    refine rgn 11 <| sd ww [.p, .ld (I6 p.l), .as (.bool true), .p, .no, .no, .no, .no, .no, .no, .p] [_, Value.bool (decide ((p.l : Int) < 0)) = .bool true] [(41, .bool true)] [] 11 0 hS (hB30.k 0 (.c (as_t (by omega)) .nil)) fun a hS => sge hK33 ?_
    refine cond_t hS rfl ?_
    refine sdq 3 [.p, .p, .p] [] [(2, I6 i), (3, I6 70)] [] hS .nil fun a hS => wpIn_ret <| then_ret <| inBlock_ret <| then_ret <| then_ret <| inBlock_ret <| then_ret ?_
    refine ret2 hS Tryd.results46 rfl rfl ?_
    exact ⟨by rw [show inE S = (70, (i : Int)) from by rw [hin, if_pos (by omega), hpe]], hEl13⟩
   ·
    have hEl13 : Ext [] w w27 := hE6.trans0 hE31
    have hpe : prodE S p = 70 := if_pos (by omega)
    refine rgn 11 <| sd ww [.p, .ld (I6 p.l), .as (.bool false), .p, .p, .ld (I6 p.l), .p, .ld (S.nv), .run (I6 S.ns.length), .as (.bool true), .p] [_, Value.bool (decide ((p.l : Int) < 0)) = .bool false, _, _, Rv (Builtin.len_ #[23] 3 #[S.nv]) (I6 S.ns.length) w27, Value.bool (decide ((p.l : Int) ≥ ↑S.ns.length)) = .bool true] [(41, .bool true)] [] 11 0 hS (hB30.k 0 (.c (as_f (by omega)) (hB30.k 0 (hB29.k 1 (.c (rlr 9 hG.names) (.c (as_t (by omega)) .nil)))))) fun a hS => sge hK33 ?_
    refine cond_t hS rfl ?_
    refine sdq 3 [.p, .p, .p] [] [(2, I6 i), (3, I6 70)] [] hS .nil fun a hS => wpIn_ret <| then_ret <| inBlock_ret <| then_ret <| then_ret <| inBlock_ret <| then_ret ?_
    refine ret2 hS Tryd.results46 rfl rfl ?_
    exact ⟨by rw [show inE S = (70, (i : Int)) from by rw [hin, if_pos (by omega), hpe]], hEl13⟩
   ·
    have hpe : prodE S p = rightE S p.r := if_neg (by omega)
    refine rgn 11 <| sd ww [.p, .ld (I6 p.l), .as (.bool false), .p, .p, .ld (I6 p.l), .p, .ld (S.nv), .run (I6 S.ns.length), .as (.bool false), .p] [_, Value.bool (decide ((p.l : Int) < 0)) = .bool false, _, _, Rv (Builtin.len_ #[23] 3 #[S.nv]) (I6 S.ns.length) w27, Value.bool (decide ((p.l : Int) ≥ ↑S.ns.length)) = .bool false] [(41, .bool false)] [] 11 0 hS (hB30.k 0 (.c (as_f (by omega)) (hB30.k 0 (hB29.k 1 (.c (rlr 9 hG.names) (.c (as_f (by omega)) .nil)))))) fun a hS => sge hK33 ?_
    refine cond_f hS rfl ?_
    refine wpIn_skip <| hK32 _ _ <| sdq 1 [.p] [] [(6, I6 0)] [] hS .nil fun a hS => wpIn_block ?_
    have hbl37 : Ext [] w0 w27 := (hbl13.trans0 hE31)
    refine loop_ghost (fun (k : Nat) a' w' => St 61 [] [(1, (Pv w.heap.size)), (4, I6 i), (5, (Pv wl13.heap.size)), (6, I6 k)] a' ∧ Ext [] w27 w' ∧ k ≤ p.r.length ∧ rightE S p.r = rightE S (p.r.drop k)) (fun (k : Nat) => p.r.length - k) 0 ⟨hS.keepTo [1, 4, 5, 6] (by kernel_rfl), Ext.refl _ _, by omega, rfl⟩ ?_
    rintro k a wl37 ⟨hS, hXl37, hk, hm⟩
    have hB38 := hB29.ext hXl37 (by simp)
    have hB39 := hB30.ext hXl37 (by simp)
    refine sq fun K40 hK40 => sdq 5 [.p, .p, .ld (p.rv), .run (I6 p.r.length), .p] [_, Rv (Builtin.len_ #[71] 3 #[p.rv]) (I6 p.r.length) wl37] [(47, .bool (decide ((↑k : Int) < ↑p.r.length)))] [] hS (hB39.k 1 (.c (rlr 61 (hG.right p hpm)) .nil)) fun a hS => ?_
    refine cond_b hS rfl (fun hb42 => ?_) (fun hb42 => ?_)
    ·
     replace hb42 := of_decide_eq_true hb42
     obtain ⟨x, hxk⟩ : ∃ x, p.r[k]? = some x := gE
     have hxm := List.mem_of_getElem? hxk
     rw [drop_of hxk, rightE] at hm
     refine wpIn_skip <| hK40 _ _ <| sq fun K43 hK43 => wpIn_block <| sq fun K44 hK44 => ?_
     refine gh3 (G := World) [.q (.lds [S.lv, S.nv, I6 S.st, S.pv]), .q .p, .q (.ld (p.rv)), .q .p, .q (.run ((Po (bof p.rv) (oof p.rv + k * 2)))), .q (.lds [I6 x.1, I6 x.2]), .e, .q .p] [0, 0, 0, 0, 0, 0, 0, 1] [0, 0, 0, 0, 0, 0, 0, 1] [0, 0, 2, 0, 14, 30, 63, 127] [6] [(6, 0)] 1 (fun wc45 => ([(1, (Pv w.heap.size)), (4, I6 i), (5, (Pv wl13.heap.size)), (6, I6 k), (47, .bool (decide ((↑k : Int) < ↑p.r.length))), (50, .agg S.ca), (51, (Po wl13.heap.size 1)), (52, p.rv), (53, I6 k), (54, (Po (bof p.rv) (oof p.rv + k * 2))), (55, .agg #[I6 x.1, I6 x.2]), (56, I6 (symE S x)), (7, I6 (symE S x))] : Fm)) (fun wc45 => [wl37.drew, wc45]) (wl37.drew) (fun e wc45 => hAt [True, (Ext [] wl37.drew wc45) ∧ True] e) (fun wc45 w' => [(0, [w'.cell? ⟨w.heap.size, 0, none⟩ = some (S.lv), w'.cell? ⟨w.heap.size, 1, none⟩ = some (S.nv), w'.cell? ⟨w.heap.size, 2, none⟩ = some (I6 S.st), w'.cell? ⟨w.heap.size, 3, none⟩ = some (S.pv)]), (2, [w'.cell? ⟨wl13.heap.size, 1, none⟩ = some (p.rv)]), (4, [Rv (Instr.indexAt 71 (p.rv) (I6 k)) ((Po (bof p.rv) (oof p.rv + k * 2))) w']), (5, [w'.cell? ⟨bof p.rv, oof p.rv + k * 2, none⟩ = some (I6 x.1), w'.cell? ⟨bof p.rv, oof p.rv + k * 2 + 1, none⟩ = some (I6 x.2)])]) wl37.drew [1, 4, 5, 6, 47] [] hS (fun wc45 _ => by kernel_rfl) trivial ?_ ?_ ?_
     ·rintro e wc45 w' hw hH
      refine (.c ?_ (.c ?_ (.c ?_ (.c ?_ .nil))))
      ·intro h1 h2
       obtain rfl := Nat.le_antisymm h2 h1
       have hwe : wl37.drew = w' := hwz hw
       subst hwe
       clear hH
       exact (.c ((hB38.drew : Blk wl37.drew w.heap.size 26 (S.ca)).cell 0 rfl) (.c ((hB38.drew : Blk wl37.drew w.heap.size 26 (S.ca)).cell 1 rfl) (.c ((hB38.drew : Blk wl37.drew w.heap.size 26 (S.ca)).cell 2 rfl) (.c ((hB38.drew : Blk wl37.drew w.heap.size 26 (S.ca)).cell 3 rfl) .nil))))
      ·intro h1 h2
       obtain rfl := Nat.le_antisymm h2 h1
       have hwe : wl37.drew = w' := hwz hw
       subst hwe
       clear hH
       exact (.c ((hB39.drew : Blk wl37.drew wl13.heap.size 73 (#[I6 p.l, p.rv])).cell 1 rfl) .nil)
      ·intro h1 h2
       obtain rfl := Nat.le_antisymm h2 h1
       have hwe : wl37.drew = w' := hwz hw
       subst hwe
       clear hH
       exact (.c (ixr 61 k (hG.right p hpm)) .nil)
      ·intro h1 h2
       obtain rfl := Nat.le_antisymm h2 h1
       have hwe : wl37.drew = w' := hwz hw
       subst hwe
       clear hH
       exact (.c (((hG.right p hpm).ext0 ((hbl37.trans0 hXl37).trans0 (by first | exact (Ext.refl [] _).drew | exact Ext.refl [] _))).cellAt (k * 2 + 0) (by omega) (ycells_at p.r k 0 x hxk (by omega))) (.c (((hG.right p hpm).ext0 ((hbl37.trans0 hXl37).trans0 (by first | exact (Ext.refl [] _).drew | exact Ext.refl [] _))).cellAt (k * 2 + 1) (by omega) (ycells_at p.r k 1 x hxk (by omega))) .nil))
     ·refine (.c ?eq46_6 .nil)
      ·rintro wc45 hH
       clear hH
       refine eff_gh (wl37.drew) (by kernel_rfl) ?_
       refine upon_call (f := 74) (vs := [.agg S.ca, .agg #[I6 x.1, I6 x.2]]) (cap := #[]) (d := (some 56)) (by kernel_rfl) Tryd.call74 #[.agg S.ca, .agg #[I6 x.1, I6 x.2]] (by kernel_rfl) (Symbol_r hG ((hbl37.trans0 hXl37).trans0 ((Ext.refl [] _).drew)) x) ?_
       rintro _ wc45 ⟨rfl, hEc45⟩
       exact ⟨_, rfl, ⟨wc45, by kernel_rfl, by kernel_rfl, by kernel_rfl, ⟨hEc45, trivial⟩⟩⟩
     rintro wc45 a w47 hS hw48 hH
     obtain ⟨hEc45, _⟩ := hH
     replace hw48 : w47 = wc45 := hw48.trans (by kernel_rfl)
     have hE51 : Ext [] w27 w47 := by rw [hw48]; exact (hXl37.drew).trans0 hEc45
     replace hS := hS.kp [(1, (Pv w.heap.size)), (4, I6 i), (5, (Pv wl13.heap.size)), (6, I6 k), (47, .bool (decide ((↑k : Int) < ↑p.r.length))), (7, I6 (symE S x))]
     refine hK44 _ _ <| sdq 2 [.p, .p] [] [(58, .bool ((symE S x : Int) != 0))] [] hS .nil fun a hS => ?_
     refine cond_b hS rfl (fun hb53 => ?_) (fun hb53 => ?_)
     ·
      replace hb53 := test_ne_t hb53
      have hEl37 : Ext [] w2 w47 := hE31.trans0 hE51
      have hEl13 : Ext [] w w47 := hE6.trans0 hEl37
      have hse : symE S x ≠ 0 := by omega
      refine sdq 4 [.p, .p, .p, .p] [] [(2, I6 i), (3, I6 (symE S x))] [] hS .nil fun a hS => wpIn_ret <| inBlock_ret <| then_ret <| then_ret <| inBlock_ret <| inBlock_ret <| then_ret <| then_ret <| inBlock_ret <| then_ret ?_
      refine ret2 hS Tryd.results46 rfl rfl ?_
      exact ⟨by rw [show inE S = (symE S x, (i : Int)) from by rw [hin, hpe, hm, if_pos (by rw [if_pos hse]; exact hse), if_pos hse]], hEl13⟩
     ·
      replace hb53 := test_ne_f hb53
      rw [if_neg (by omega)] at hm
      refine wpIn_skip <| inBlock_normal <| hK43 _ _ <| rgn 3 <| sd ww [.p, .as (I6 (↑k + 1)), .p] [_] [(6, I6 (↑k + 1))] [] 3 0 hS (as6 (↑k + 1)) fun a hS => seg_end ?_
      exact ⟨k + 1, ⟨hS.kp [(1, (Pv w.heap.size)), (4, I6 i), (5, (Pv wl13.heap.size)), (6, I6 (↑k + 1))], hE51, by omega, hm⟩, by omega⟩
    ·
     replace hb42 := of_decide_eq_false hb42
     rw [List.drop_eq_nil_of_le (by omega)] at hm
     have hEl37 : Ext [] w2 wl37 := hE31.trans0 hXl37
     rw [if_neg (by rw [hpe, hm]; simp [rightE])] at hin
     have hinb : prodsE S S.ps 0 = inE S := (if_neg (by omega)).symm
     refine xt2 <| inBlock_normal <| hK18 _ _ <| rgn 3 <| sd ww [.p, .as (I6 (↑i + 1)), .p] [_] [(4, I6 (↑i + 1))] [] 3 0 hS (as6 (↑i + 1)) fun a hS => seg_end ?_
     exact ⟨i + 1, ⟨hS.kp [(1, (Pv w.heap.size)), (4, I6 (↑i + 1))], hEl37, by omega, by rw [← hin]; exact hinb⟩, by omega⟩
  ·
   replace hb17 := of_decide_eq_false hb17
   rw [List.drop_eq_nil_of_le (by omega)] at hin
   have hEl13 : Ext [] w wl13 := hE6.trans0 hXl13
   refine xt2 <| hK11 _ _ <| sdq 2 [.p, .p] [] [(2, I6 0), (3, I6 0)] [] hS .nil fun a hS => wpIn_ret ?_
   refine ret2 hS Tryd.results46 rfl rfl ?_
   exact ⟨by rw [show inE S = (0, 0) from hin], hEl13⟩
end Go.Proofs.YtkkpghlcmcaoiaaDoor
