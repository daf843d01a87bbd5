import Derived.Test.YtkkpghlcmcaoiaaDoorS1
namespace Go.Proofs.YtkkpghlcmcaoiaaDoor
open Go.Vc Go.Gm
def symE (S : Sp) (x : Sy) : Int :=
 if x.1 = 1 then (if 0 ≤ x.2 ∧ x.2 < S.lx.length then (if S.lx[x.2.toNat]?.map Lx.tr = some true then 71 else 0) else 70)
 else if x.1 = 2 then (if x.2 = 0 then 0 else 70)
 else if x.1 = 3 then (if 0 ≤ x.2 ∧ x.2 < S.ns.length then 0 else 70) else 70
def rightE (S : Sp) : List Sy → Int
 | [] => 0
 | x :: r => if symE S x ≠ 0 then symE S x else rightE S r
def prodE (S : Sp) (p : Pd) : Int := if p.l < 0 ∨ S.ns.length ≤ p.l then 70 else rightE S p.r
def prodsE (S : Sp) : List Pd → Nat → Int × Int
 | [], _ => (0, 0)
 | p :: l, i => if prodE S p ≠ 0 then (prodE S p, i) else prodsE S l (i + 1)
def inE (S : Sp) : Int × Int := if S.st < 0 ∨ S.ns.length ≤ S.st then (70, -1) else prodsE S S.ps 0
theorem symE_ok {S : Sp} {x : Sy} : symE S x = 0 ↔ syOk S x := by
 unfold symE syOk
 by_cases h1 : x.1 = 1
 ·rw [if_pos h1]
  constructor
  ·intro h
   refine .inl ⟨h1, ?_⟩
   split at h
   ·rename_i h2
    split at h
    ·cases h
    ·rename_i h3
     refine ⟨h2.1, h2.2, fun r hr => ?_⟩
     rw [hr] at h3
     simpa using h3
   ·cases h
  ·rintro (⟨_, h2, h3, h4⟩ | ⟨h, _⟩ | ⟨h, _⟩)
   ·rw [if_pos ⟨h2, h3⟩]
    obtain ⟨r, hr⟩ : ∃ r, S.lx[x.2.toNat]? = some r := gE
    rw [hr, Option.map_some, h4 r hr]
    rfl
   ·omega
   ·omega
 ·rw [if_neg h1]
  by_cases h2 : x.1 = 2
  ·rw [if_pos h2]
   constructor
   ·intro h
    split at h
    ·rename_i h3; exact .inr (.inl ⟨h2, h3⟩)
    ·cases h
   ·rintro (⟨h, _⟩ | ⟨_, h⟩ | ⟨h, _⟩)
    ·omega
    ·rw [if_pos h]
    ·omega
  ·rw [if_neg h2]
   by_cases h3 : x.1 = 3
   ·rw [if_pos h3]
    constructor
    ·intro h
     split at h
     ·rename_i h4; exact .inr (.inr ⟨h3, h4⟩)
     ·cases h
    ·rintro (⟨h, _⟩ | ⟨h, _⟩ | ⟨_, h⟩)
     ·omega
     ·omega
     ·rw [if_pos h]
   ·rw [if_neg h3]
    constructor
    ·intro h; cases h
    ·rintro (⟨h, _⟩ | ⟨h, _⟩ | ⟨h, _⟩) <;> omega
theorem rightE_ok {S : Sp} : ∀ {r : List Sy}, rightE S r = 0 ↔ ∀ x ∈ r, syOk S x
 | [] => by simp [rightE]
 | x :: r => by
  have ih := rightE_ok (S := S) (r := r)
  rw [rightE, List.forall_mem_cons, ← ih, ← symE_ok]
  by_cases h : symE S x = 0
  ·simp [h]
  ·simp [h]
theorem prodE_ok {S : Sp} {p : Pd} : prodE S p = 0 ↔ (0 ≤ p.l ∧ p.l < S.ns.length) ∧ ∀ x ∈ p.r, syOk S x := by
 unfold prodE
 split
 ·rename_i h
  constructor
  ·intro h; cases h
  ·rintro ⟨h1, _⟩; omega
 ·rename_i h
  rw [rightE_ok]
  exact ⟨fun h1 => ⟨by omega, h1⟩, fun h1 => h1.2⟩
theorem prodsE_ok {S : Sp} : ∀ {l : List Pd} {i : Nat}, (prodsE S l i).1 = 0 ↔ ∀ p ∈ l, (0 ≤ p.l ∧ p.l < S.ns.length) ∧ ∀ x ∈ p.r, syOk S x
 | [], _ => by simp [prodsE]
 | p :: l, i => by
  have ih := prodsE_ok (S := S) (l := l) (i := i + 1)
  rw [prodsE, List.forall_mem_cons, ← ih, ← prodE_ok]
  by_cases h : prodE S p = 0
  ·simp [h]
  ·simp [h]
theorem inE_ok {S : Sp} : (inE S).1 = 0 ↔ Ix S := by
 unfold inE
 split
 ·rename_i h
  constructor
  ·intro h; cases h
  ·intro h1; have := h1.st; omega
 ·rename_i h
  rw [prodsE_ok]
  exact ⟨fun h1 => ⟨by omega, fun p hp => (h1 p hp).1, fun p hp => (h1 p hp).2⟩, fun h1 p hp => ⟨h1.left p hp, h1.right p hp⟩⟩
theorem symbol_any {w0 w : World} {S : Sp} (hG : SpOk w0 S) (hb : Ext [] w0 w) (x : Sy) :
  Calls Tryd.prog 72 #[.agg S.ca, .agg #[I6 x.1, I6 x.2]] w fun e w' => e = .returned (I6 (symE S x)) ∧ Ext [] w w' := by
 have hlmax := hG.lmax
 have hnmax := hG.nmax
 have hpmax := hG.pmax
 refine cbd 51 [(0, .agg S.ca), (1, .agg #[I6 x.1, I6 x.2])] Tryd.func72 rfl fun a hS => ?_
 have hE0 : Ext [] w w := Ext.refl _ _
 refine sq fun K1 hK1 => ?_
 rcases (show (x.1 = 1 ∧ 0 ≤ x.2 ∧ x.2 < S.lx.length) ∨ (x.1 = 1 ∧ x.2 < 0) ∨ (x.1 = 1 ∧ 0 ≤ x.2 ∧ S.lx.length ≤ x.2) ∨ (x.1 = 2 ∧ x.2 = 0) ∨ (x.1 = 2 ∧ x.2 ≠ 0) ∨ (x.1 = 3 ∧ 0 ≤ x.2 ∧ x.2 < S.ns.length) ∨ (x.1 = 3 ∧ x.2 < 0) ∨ (x.1 = 3 ∧ 0 ≤ x.2 ∧ S.ns.length ≤ x.2) ∨ (x.1 ≠ 1 ∧ x.1 ≠ 2 ∧ x.1 ≠ 3) from by omega) with ⟨h1, h2, h3⟩ | ⟨h1, h2⟩ | ⟨h1, h2, h3⟩ | ⟨h1, h2⟩ | ⟨h1, h2⟩ | ⟨h1, h2, h3⟩ | ⟨h1, h2⟩ | ⟨h1, h2, h3⟩ | ⟨h1, h2, h3⟩
 ·
  obtain ⟨lr, hlr⟩ : ∃ lr, S.lx[x.2.toNat]? = some lr := gE
  refine rgn 3 <| ebx 2 S.ca 26 (some 2) hS fun a w2 hw3 hS => ?_
  have hB4 := Blk.nw hw3
  have hs5 := hE0.size
  have hE6 := hE0.al hw3
  refine ebx 1 #[I6 x.1, I6 x.2] 61 (some 3) hS fun a w7 hw8 hS => ?_
  have hB10 := Blk.at' hw8 (hB4.alloc _)
  have hB11 := Blk.nw hw8
  have hs12 := hE6.size
  have hE13 := hE6.al hw8
  refine sd ww [.p] [] [(4, I6 0)] [] 3 0 hS .nil fun a hS => sge hK1 <| sdq 1 [.p] [] [(5, .bool false)] [] hS .nil fun a hS => sq fun K15 hK15 => sdq 2 [.p, .ld (I6 x.1)] [_] [(7, I6 x.1)] [] hS (hB11.k 0 .nil) fun a hS => wpIn_block <| sdq 2 [.as (.bool true), .p] [Value.bool (((x.1 : Int) == 1)) = .bool true] [(8, .bool true)] [] hS (.c (as_eq_t (by omega)) .nil) fun a hS => ?_
  refine cond_t hS rfl ?_
  refine sdq 12 [.p, .ld (I6 x.2), .as (.bool true), .p, .p, .ld (I6 x.2), .p, .ld (S.lv), .run (I6 S.lx.length), .as (.bool true), .p, .p] [_, Value.bool (decide ((x.2 : Int) ≥ 0)) = .bool true, _, _, Rv (Builtin.len_ #[22] 3 #[S.lv]) (I6 S.lx.length) w7, Value.bool (decide ((x.2 : Int) < ↑S.lx.length)) = .bool true] [(5, .bool true)] [] hS (hB11.k 1 (.c (as_t (by omega)) (hB11.k 1 (hB10.k 0 (.c (rlr 100 hG.lex) (.c (as_t (by omega)) .nil)))))) fun a hS => sdq 10 [.p, .p, .p, .ld (S.lv), .p, .ld (I6 x.2), .run ((Po (bof S.lv) (oof S.lv + x.2.toNat * 8))), .p, .ld (.bool lr.tr), .p] [_, _, Rv (Instr.indexAt 22 (S.lv) (I6 x.2)) ((Po (bof S.lv) (oof S.lv + x.2.toNat * 8))) w7, w7.cell? ⟨bof S.lv, oof S.lv + x.2.toNat * 8 + 1, none⟩ = some (.bool lr.tr)] [(30, .bool lr.tr)] [] hS (hB10.k 0 (hB11.k 1 (.c (ix_rd (e := 100) (j := x.2.toNat) hG.lex (by kernel_rfl) (by kernel_rfl) (Int.toNat_of_nonneg (by omega)).symm (by omega)) (.c ((hG.lex.ext0 (hb.trans0 hE13)).cellAt (x.2.toNat * 8 + 1) (by omega) (lcells_at S.lx x.2.toNat 1 lr hlr (by omega))) .nil)))) fun a hS => ?_
  refine cond_b hS rfl (fun hb20 => ?_) (fun hb20 => ?_)
  ·
   replace hb20 := hb20
   refine sq fun K21 hK21 => rgn 1 <| sg ww [.p] [] [(0, .agg S.ca), (1, .agg #[I6 x.1, I6 x.2]), (2, (Pv w.heap.size)), (3, (Pv w2.heap.size)), (4, I6 71), (5, .bool true), (7, I6 x.1), (8, .bool true), (30, .bool lr.tr)] 1 0 hS .nil fun a hS => sge hK21 <| wpIn_ret <| inBlock_ret <| then_ret ?_
   refine ret1 hS Tryd.results72 rfl ?_
   exact ⟨by rw [show symE S x = 71 from by rw [symE, if_pos h1, if_pos ⟨h2, h3⟩, hlr, Option.map_some, hb20]; rfl], hE13⟩
  ·
   replace hb20 := hb20
   refine wpIn_skip <| inBlock_normal <| hK15 _ _ <| sq fun K22 hK22 => sq fun K23 hK23 => rgn 2 <| sg ww [.p, .p] [] [(0, .agg S.ca), (1, .agg #[I6 x.1, I6 x.2]), (2, (Pv w.heap.size)), (3, (Pv w2.heap.size)), (4, I6 0), (5, .bool true), (7, I6 x.1), (8, .bool true), (30, .bool lr.tr), (50, .bool false)] 2 0 hS .nil fun a hS => sge hK23 ?_
   refine cond_f hS rfl ?_
   refine wpIn_skip <| hK22 _ _ <| sdq 1 [.p] [] [] [] hS .nil fun a hS => wpIn_ret ?_
   refine ret1 hS Tryd.results72 rfl ?_
   exact ⟨by rw [show symE S x = 0 from by rw [symE, if_pos h1, if_pos ⟨h2, h3⟩, hlr, Option.map_some, hb20]; rfl], hE13⟩
 ·
  refine rgn 3 <| ebx 2 S.ca 26 (some 2) hS fun a w25 hw26 hS => ?_
  have hs28 := hE0.size
  have hE29 := hE0.al hw26
  refine ebx 1 #[I6 x.1, I6 x.2] 61 (some 3) hS fun a w30 hw31 hS => ?_
  have hB34 := Blk.nw hw31
  have hs35 := hE29.size
  have hE36 := hE29.al hw31
  refine sd ww [.p] [] [(4, I6 0)] [] 3 0 hS .nil fun a hS => sge hK1 <| sdq 1 [.p] [] [(5, .bool false)] [] hS .nil fun a hS => sq fun K38 hK38 => sdq 2 [.p, .ld (I6 x.1)] [_] [(7, I6 x.1)] [] hS (hB34.k 0 .nil) fun a hS => wpIn_block <| sdq 2 [.as (.bool true), .p] [Value.bool (((x.1 : Int) == 1)) = .bool true] [(8, .bool true)] [] hS (.c (as_eq_t (by omega)) .nil) fun a hS => ?_
  refine cond_t hS rfl ?_
  refine sdq 12 [.p, .ld (I6 x.2), .as (.bool false), .p, .no, .no, .no, .no, .no, .no, .p, .p] [_, Value.bool (decide ((x.2 : Int) ≥ 0)) = .bool false] [] [] hS (hB34.k 1 (.c (as_f (by omega)) .nil)) fun a hS => sdq 10 [.p, .p, .no, .no, .no, .no, .no, .no, .no, .p] [] [(30, .bool false)] [] hS .nil fun a hS => ?_
  refine cond_f hS rfl ?_
  refine wpIn_skip <| inBlock_normal <| hK38 _ _ <| sq fun K43 hK43 => sq fun K44 hK44 => rgn 2 <| sg ww [.p, .p] [] [(0, .agg S.ca), (1, .agg #[I6 x.1, I6 x.2]), (2, (Pv w.heap.size)), (3, (Pv w25.heap.size)), (4, I6 0), (5, .bool false), (7, I6 x.1), (8, .bool true), (30, .bool false), (50, .bool true)] 2 0 hS .nil fun a hS => sge hK44 ?_
  refine cond_t hS rfl ?_
  refine sdq 1 [.p] [] [(4, I6 70)] [] hS .nil fun a hS => wpIn_ret <| then_ret ?_
  refine ret1 hS Tryd.results72 rfl ?_
  exact ⟨by rw [show symE S x = 70 from by simp [symE, h1, show ¬(0 ≤ x.2 ∧ x.2 < S.lx.length) by omega]], hE36⟩
 ·
  refine rgn 3 <| ebx 2 S.ca 26 (some 2) hS fun a w46 hw47 hS => ?_
  have hB48 := Blk.nw hw47
  have hs49 := hE0.size
  have hE50 := hE0.al hw47
  refine ebx 1 #[I6 x.1, I6 x.2] 61 (some 3) hS fun a w51 hw52 hS => ?_
  have hB54 := Blk.at' hw52 (hB48.alloc _)
  have hB55 := Blk.nw hw52
  have hs56 := hE50.size
  have hE57 := hE50.al hw52
  refine sd ww [.p] [] [(4, I6 0)] [] 3 0 hS .nil fun a hS => sge hK1 <| sdq 1 [.p] [] [(5, .bool false)] [] hS .nil fun a hS => sq fun K59 hK59 => sdq 2 [.p, .ld (I6 x.1)] [_] [(7, I6 x.1)] [] hS (hB55.k 0 .nil) fun a hS => wpIn_block <| sdq 2 [.as (.bool true), .p] [Value.bool (((x.1 : Int) == 1)) = .bool true] [(8, .bool true)] [] hS (.c (as_eq_t (by omega)) .nil) fun a hS => ?_
  refine cond_t hS rfl ?_
  refine sdq 12 [.p, .ld (I6 x.2), .as (.bool true), .p, .p, .ld (I6 x.2), .p, .ld (S.lv), .run (I6 S.lx.length), .as (.bool false), .p, .p] [_, Value.bool (decide ((x.2 : Int) ≥ 0)) = .bool true, _, _, Rv (Builtin.len_ #[22] 3 #[S.lv]) (I6 S.lx.length) w51, Value.bool (decide ((x.2 : Int) < ↑S.lx.length)) = .bool false] [] [] hS (hB55.k 1 (.c (as_t (by omega)) (hB55.k 1 (hB54.k 0 (.c (rlr 100 hG.lex) (.c (as_f (by omega)) .nil)))))) fun a hS => sdq 10 [.p, .p, .no, .no, .no, .no, .no, .no, .no, .p] [] [(30, .bool false)] [] hS .nil fun a hS => ?_
  refine cond_f hS rfl ?_
  refine wpIn_skip <| inBlock_normal <| hK59 _ _ <| sq fun K64 hK64 => sq fun K65 hK65 => rgn 2 <| sg ww [.p, .p] [] [(0, .agg S.ca), (1, .agg #[I6 x.1, I6 x.2]), (2, (Pv w.heap.size)), (3, (Pv w46.heap.size)), (4, I6 0), (5, .bool false), (7, I6 x.1), (8, .bool true), (30, .bool false), (50, .bool true)] 2 0 hS .nil fun a hS => sge hK65 ?_
  refine cond_t hS rfl ?_
  refine sdq 1 [.p] [] [(4, I6 70)] [] hS .nil fun a hS => wpIn_ret <| then_ret ?_
  refine ret1 hS Tryd.results72 rfl ?_
  exact ⟨by rw [show symE S x = 70 from by simp [symE, h1, show ¬(0 ≤ x.2 ∧ x.2 < S.lx.length) by omega]], hE57⟩
 ·
  refine rgn 3 <| ebx 2 S.ca 26 (some 2) hS fun a w67 hw68 hS => ?_
  have hs70 := hE0.size
  have hE71 := hE0.al hw68
  refine ebx 1 #[I6 x.1, I6 x.2] 61 (some 3) hS fun a w72 hw73 hS => ?_
  have hB76 := Blk.nw hw73
  have hs77 := hE71.size
  have hE78 := hE71.al hw73
  refine sd ww [.p] [] [(4, I6 0)] [] 3 0 hS .nil fun a hS => sge hK1 <| sdq 1 [.p] [] [(5, .bool false)] [] hS .nil fun a hS => sq fun K80 hK80 => sdq 2 [.p, .ld (I6 x.1)] [_] [(7, I6 x.1)] [] hS (hB76.k 0 .nil) fun a hS => wpIn_block <| sdq 2 [.as (.bool false), .p] [Value.bool (((x.1 : Int) == 1)) = .bool false] [(8, .bool false)] [] hS (.c (as_eq_f (by omega)) .nil) fun a hS => ?_
  refine cond_f hS rfl ?_
  refine sdq 2 [.as (.bool true), .p] [Value.bool (((x.1 : Int) == 2)) = .bool true] [(31, .bool true)] [] hS (.c (as_eq_t (by omega)) .nil) fun a hS => ?_
  refine cond_t hS rfl ?_
  refine rgn 4 <| sd ww [.p, .ld (I6 x.2), .as (.bool true), .p] [_, Value.bool (((x.2 : Int) == 0)) = .bool true] [(5, .bool true)] [] 4 0 hS (hB76.k 1 (.c (as_eq_t (by omega)) .nil)) fun a hS => seg_end <| inBlock_normal <| hK80 _ _ <| sq fun K84 hK84 => sq fun K85 hK85 => rgn 2 <| sg ww [.p, .p] [] [(0, .agg S.ca), (1, .agg #[I6 x.1, I6 x.2]), (2, (Pv w.heap.size)), (3, (Pv w67.heap.size)), (4, I6 0), (5, .bool true), (7, I6 x.1), (8, .bool false), (31, .bool true), (50, .bool false)] 2 0 hS .nil fun a hS => sge hK85 ?_
  refine cond_f hS rfl ?_
  refine wpIn_skip <| hK84 _ _ <| sdq 1 [.p] [] [] [] hS .nil fun a hS => wpIn_ret ?_
  refine ret1 hS Tryd.results72 rfl ?_
  exact ⟨by rw [show symE S x = 0 from by simp [symE, h1, h2]], hE78⟩
 ·
  refine rgn 3 <| ebx 2 S.ca 26 (some 2) hS fun a w87 hw88 hS => ?_
  have hs90 := hE0.size
  have hE91 := hE0.al hw88
  refine ebx 1 #[I6 x.1, I6 x.2] 61 (some 3) hS fun a w92 hw93 hS => ?_
  have hB96 := Blk.nw hw93
  have hs97 := hE91.size
  have hE98 := hE91.al hw93
  refine sd ww [.p] [] [(4, I6 0)] [] 3 0 hS .nil fun a hS => sge hK1 <| sdq 1 [.p] [] [(5, .bool false)] [] hS .nil fun a hS => sq fun K100 hK100 => sdq 2 [.p, .ld (I6 x.1)] [_] [(7, I6 x.1)] [] hS (hB96.k 0 .nil) fun a hS => wpIn_block <| sdq 2 [.as (.bool false), .p] [Value.bool (((x.1 : Int) == 1)) = .bool false] [(8, .bool false)] [] hS (.c (as_eq_f (by omega)) .nil) fun a hS => ?_
  refine cond_f hS rfl ?_
  refine sdq 2 [.as (.bool true), .p] [Value.bool (((x.1 : Int) == 2)) = .bool true] [(31, .bool true)] [] hS (.c (as_eq_t (by omega)) .nil) fun a hS => ?_
  refine cond_t hS rfl ?_
  refine rgn 4 <| sd ww [.p, .ld (I6 x.2), .as (.bool false), .p] [_, Value.bool (((x.2 : Int) == 0)) = .bool false] [] [] 4 0 hS (hB96.k 1 (.c (as_eq_f (by omega)) .nil)) fun a hS => seg_end <| inBlock_normal <| hK100 _ _ <| sq fun K104 hK104 => sq fun K105 hK105 => rgn 2 <| sg ww [.p, .p] [] [(0, .agg S.ca), (1, .agg #[I6 x.1, I6 x.2]), (2, (Pv w.heap.size)), (3, (Pv w87.heap.size)), (4, I6 0), (5, .bool false), (7, I6 x.1), (8, .bool false), (31, .bool true), (50, .bool true)] 2 0 hS .nil fun a hS => sge hK105 ?_
  refine cond_t hS rfl ?_
  refine sdq 1 [.p] [] [(4, I6 70)] [] hS .nil fun a hS => wpIn_ret <| then_ret ?_
  refine ret1 hS Tryd.results72 rfl ?_
  exact ⟨by rw [show symE S x = 70 from by simp [symE, h1, h2]], hE98⟩
 ·
  refine rgn 3 <| ebx 2 S.ca 26 (some 2) hS fun a w107 hw108 hS => ?_
  have hB109 := Blk.nw hw108
  have hs110 := hE0.size
  have hE111 := hE0.al hw108
  refine ebx 1 #[I6 x.1, I6 x.2] 61 (some 3) hS fun a w112 hw113 hS => ?_
  have hB115 := Blk.at' hw113 (hB109.alloc _)
  have hB116 := Blk.nw hw113
  have hs117 := hE111.size
  have hE118 := hE111.al hw113
  refine sd ww [.p] [] [(4, I6 0)] [] 3 0 hS .nil fun a hS => sge hK1 <| sdq 1 [.p] [] [(5, .bool false)] [] hS .nil fun a hS => sq fun K120 hK120 => sdq 2 [.p, .ld (I6 x.1)] [_] [(7, I6 x.1)] [] hS (hB116.k 0 .nil) fun a hS => wpIn_block <| sdq 2 [.as (.bool false), .p] [Value.bool (((x.1 : Int) == 1)) = .bool false] [(8, .bool false)] [] hS (.c (as_eq_f (by omega)) .nil) fun a hS => ?_
  refine cond_f hS rfl ?_
  refine sdq 2 [.as (.bool false), .p] [Value.bool (((x.1 : Int) == 2)) = .bool false] [(31, .bool false)] [] hS (.c (as_eq_f (by omega)) .nil) fun a hS => ?_
  refine cond_f hS rfl ?_
  refine sdq 2 [.as (.bool true), .p] [Value.bool (((x.1 : Int) == 3)) = .bool true] [(36, .bool true)] [] hS (.c (as_eq_t (by omega)) .nil) fun a hS => ?_
  refine cond_t hS rfl ?_
  refine rgn 12 <| sg ww [.p, .ld (I6 x.2), .as (.bool true), .p, .p, .ld (I6 x.2), .p, .ld (S.nv), .run (I6 S.ns.length), .as (.bool true), .p, .p] [_, Value.bool (decide ((x.2 : Int) ≥ 0)) = .bool true, _, _, Rv (Builtin.len_ #[23] 3 #[S.nv]) (I6 S.ns.length) w112, Value.bool (decide ((x.2 : Int) < ↑S.ns.length)) = .bool true] [(0, .agg S.ca), (1, .agg #[I6 x.1, I6 x.2]), (2, (Pv w.heap.size)), (3, (Pv w107.heap.size)), (4, I6 0), (5, .bool true), (7, I6 x.1), (8, .bool false), (31, .bool false), (36, .bool true)] 12 0 hS (hB116.k 1 (.c (as_t (by omega)) (hB116.k 1 (hB115.k 1 (.c (rlr 9 hG.names) (.c (as_t (by omega)) .nil)))))) fun a hS => seg_end <| inBlock_normal <| hK120 _ _ <| sq fun K125 hK125 => sdq 2 [.p, .p] [] [(50, .bool false)] [] hS .nil fun a hS => ?_
  refine cond_f hS rfl ?_
  refine wpIn_skip <| hK125 _ _ <| sdq 1 [.p] [] [] [] hS .nil fun a hS => wpIn_ret ?_
  refine ret1 hS Tryd.results72 rfl ?_
  exact ⟨by rw [show symE S x = 0 from by simp [symE, h1, h2, h3]], hE118⟩
 ·
  refine rgn 3 <| ebx 2 S.ca 26 (some 2) hS fun a w128 hw129 hS => ?_
  have hs131 := hE0.size
  have hE132 := hE0.al hw129
  refine ebx 1 #[I6 x.1, I6 x.2] 61 (some 3) hS fun a w133 hw134 hS => ?_
  have hB137 := Blk.nw hw134
  have hs138 := hE132.size
  have hE139 := hE132.al hw134
  refine sd ww [.p] [] [(4, I6 0)] [] 3 0 hS .nil fun a hS => sge hK1 <| sdq 1 [.p] [] [(5, .bool false)] [] hS .nil fun a hS => sq fun K141 hK141 => sdq 2 [.p, .ld (I6 x.1)] [_] [(7, I6 x.1)] [] hS (hB137.k 0 .nil) fun a hS => wpIn_block <| sdq 2 [.as (.bool false), .p] [Value.bool (((x.1 : Int) == 1)) = .bool false] [(8, .bool false)] [] hS (.c (as_eq_f (by omega)) .nil) fun a hS => ?_
  refine cond_f hS rfl ?_
  refine sdq 2 [.as (.bool false), .p] [Value.bool (((x.1 : Int) == 2)) = .bool false] [(31, .bool false)] [] hS (.c (as_eq_f (by omega)) .nil) fun a hS => ?_
  refine cond_f hS rfl ?_
  refine sdq 2 [.as (.bool true), .p] [Value.bool (((x.1 : Int) == 3)) = .bool true] [(36, .bool true)] [] hS (.c (as_eq_t (by omega)) .nil) fun a hS => ?_
  refine cond_t hS rfl ?_
  refine rgn 12 <| sg ww [.p, .ld (I6 x.2), .as (.bool false), .p, .no, .no, .no, .no, .no, .no, .p, .p] [_, Value.bool (decide ((x.2 : Int) ≥ 0)) = .bool false] [(0, .agg S.ca), (1, .agg #[I6 x.1, I6 x.2]), (2, (Pv w.heap.size)), (3, (Pv w128.heap.size)), (4, I6 0), (5, .bool false), (7, I6 x.1), (8, .bool false), (31, .bool false), (36, .bool true)] 12 0 hS (hB137.k 1 (.c (as_f (by omega)) .nil)) fun a hS => seg_end <| inBlock_normal <| hK141 _ _ <| sq fun K146 hK146 => sdq 2 [.p, .p] [] [(50, .bool true)] [] hS .nil fun a hS => ?_
  refine cond_t hS rfl ?_
  refine sdq 1 [.p] [] [(4, I6 70)] [] hS .nil fun a hS => wpIn_ret <| then_ret ?_
  refine ret1 hS Tryd.results72 rfl ?_
  exact ⟨by rw [show symE S x = 70 from by simp [symE, h1, show ¬(0 ≤ x.2 ∧ x.2 < S.ns.length) by omega]], hE139⟩
 ·
  refine rgn 3 <| ebx 2 S.ca 26 (some 2) hS fun a w149 hw150 hS => ?_
  have hB151 := Blk.nw hw150
  have hs152 := hE0.size
  have hE153 := hE0.al hw150
  refine ebx 1 #[I6 x.1, I6 x.2] 61 (some 3) hS fun a w154 hw155 hS => ?_
  have hB157 := Blk.at' hw155 (hB151.alloc _)
  have hB158 := Blk.nw hw155
  have hs159 := hE153.size
  have hE160 := hE153.al hw155
  refine sd ww [.p] [] [(4, I6 0)] [] 3 0 hS .nil fun a hS => sge hK1 <| sdq 1 [.p] [] [(5, .bool false)] [] hS .nil fun a hS => sq fun K162 hK162 => sdq 2 [.p, .ld (I6 x.1)] [_] [(7, I6 x.1)] [] hS (hB158.k 0 .nil) fun a hS => wpIn_block <| sdq 2 [.as (.bool false), .p] [Value.bool (((x.1 : Int) == 1)) = .bool false] [(8, .bool false)] [] hS (.c (as_eq_f (by omega)) .nil) fun a hS => ?_
  refine cond_f hS rfl ?_
  refine sdq 2 [.as (.bool false), .p] [Value.bool (((x.1 : Int) == 2)) = .bool false] [(31, .bool false)] [] hS (.c (as_eq_f (by omega)) .nil) fun a hS => ?_
  refine cond_f hS rfl ?_
  refine sdq 2 [.as (.bool true), .p] [Value.bool (((x.1 : Int) == 3)) = .bool true] [(36, .bool true)] [] hS (.c (as_eq_t (by omega)) .nil) fun a hS => ?_
  refine cond_t hS rfl ?_
  refine rgn 12 <| sg ww [.p, .ld (I6 x.2), .as (.bool true), .p, .p, .ld (I6 x.2), .p, .ld (S.nv), .run (I6 S.ns.length), .as (.bool false), .p, .p] [_, Value.bool (decide ((x.2 : Int) ≥ 0)) = .bool true, _, _, Rv (Builtin.len_ #[23] 3 #[S.nv]) (I6 S.ns.length) w154, Value.bool (decide ((x.2 : Int) < ↑S.ns.length)) = .bool false] [(0, .agg S.ca), (1, .agg #[I6 x.1, I6 x.2]), (2, (Pv w.heap.size)), (3, (Pv w149.heap.size)), (4, I6 0), (5, .bool false), (7, I6 x.1), (8, .bool false), (31, .bool false), (36, .bool true)] 12 0 hS (hB158.k 1 (.c (as_t (by omega)) (hB158.k 1 (hB157.k 1 (.c (rlr 9 hG.names) (.c (as_f (by omega)) .nil)))))) fun a hS => seg_end <| inBlock_normal <| hK162 _ _ <| sq fun K167 hK167 => sdq 2 [.p, .p] [] [(50, .bool true)] [] hS .nil fun a hS => ?_
  refine cond_t hS rfl ?_
  refine sdq 1 [.p] [] [(4, I6 70)] [] hS .nil fun a hS => wpIn_ret <| then_ret ?_
  refine ret1 hS Tryd.results72 rfl ?_
  exact ⟨by rw [show symE S x = 70 from by simp [symE, h1, show ¬(0 ≤ x.2 ∧ x.2 < S.ns.length) by omega]], hE160⟩
 ·
  refine rgn 3 <| ebx 2 S.ca 26 (some 2) hS fun a w170 hw171 hS => ?_
  have hs173 := hE0.size
  have hE174 := hE0.al hw171
  refine ebx 1 #[I6 x.1, I6 x.2] 61 (some 3) hS fun a w175 hw176 hS => ?_
  have hB179 := Blk.nw hw176
  have hs180 := hE174.size
  have hE181 := hE174.al hw176
  refine sd ww [.p] [] [(4, I6 0)] [] 3 0 hS .nil fun a hS => sge hK1 <| sdq 1 [.p] [] [(5, .bool false)] [] hS .nil fun a hS => sq fun K183 hK183 => sdq 2 [.p, .ld (I6 x.1)] [_] [(7, I6 x.1)] [] hS (hB179.k 0 .nil) fun a hS => wpIn_block <| sdq 2 [.as (.bool false), .p] [Value.bool (((x.1 : Int) == 1)) = .bool false] [(8, .bool false)] [] hS (.c (as_eq_f (by omega)) .nil) fun a hS => ?_
  refine cond_f hS rfl ?_
  refine sdq 2 [.as (.bool false), .p] [Value.bool (((x.1 : Int) == 2)) = .bool false] [(31, .bool false)] [] hS (.c (as_eq_f (by omega)) .nil) fun a hS => ?_
  refine cond_f hS rfl ?_
  refine sdq 2 [.as (.bool false), .p] [Value.bool (((x.1 : Int) == 3)) = .bool false] [(36, .bool false)] [] hS (.c (as_eq_f (by omega)) .nil) fun a hS => ?_
  refine cond_f hS rfl ?_
  refine wpIn_skip <| inBlock_normal <| hK183 _ _ <| sq fun K188 hK188 => sq fun K189 hK189 => rgn 2 <| sg ww [.p, .p] [] [(0, .agg S.ca), (1, .agg #[I6 x.1, I6 x.2]), (2, (Pv w.heap.size)), (3, (Pv w170.heap.size)), (4, I6 0), (5, .bool false), (7, I6 x.1), (8, .bool false), (31, .bool false), (36, .bool false), (50, .bool true)] 2 0 hS .nil fun a hS => sge hK189 ?_
  refine cond_t hS rfl ?_
  refine sdq 1 [.p] [] [(4, I6 70)] [] hS .nil fun a hS => wpIn_ret <| then_ret ?_
  refine ret1 hS Tryd.results72 rfl ?_
  exact ⟨by rw [show symE S x = 70 from by simp [symE, h1, h2, h3]], hE181⟩
theorem indices_any {w0 w : World} {S : Sp} (hG : SpOk w0 S) (hb : Ext [] w0 w) :
  Calls Tryd.prog 77 #[.agg S.ca] w fun e w' => e = .returned (.agg #[I6 (inE S).1, I6 (inE S).2, .string ⟨#[]⟩]) ∧ Ext [] w w' := by
 have hlmax := hG.lmax
 have hnmax := hG.nmax
 have hpmax := hG.pmax
 refine cbd 59 [(0, .agg S.ca)] Tryd.func77 rfl fun a hS => ?_
 have hE0 : Ext [] w w := Ext.refl _ _
 refine sq fun K1 hK1 => rgn 2 <| ebx 1 S.ca 26 (some 1) hS fun a w2 hw3 hS => ?_
 have hB4 := Blk.nw hw3
 have hs5 := hE0.size
 have hE6 := hE0.al hw3
 refine ebx 0 #[I6 0, I6 0, .string ⟨#[]⟩] 34 (some 2) hS fun a w7 hw8 hS => ?_
 have hB10 := Blk.at' hw8 (hB4.alloc _)
 have hB11 := Blk.nw hw8
 have hs12 := hE6.size
 have hE13 := hE6.al hw8
 refine sge hK1 <| sq fun K14 hK14 => sq fun K15 hK15 => ?_
 rcases (show (S.st < 0) ∨ (0 ≤ S.st ∧ S.ns.length ≤ S.st) ∨ (0 ≤ S.st ∧ S.st < S.ns.length) from by omega) with h1 | ⟨h1, h2⟩ | ⟨h1, h2⟩
 ·
  refine rgn 11 <| sd ww [.p, .ld (I6 S.st), .as (.bool true), .p, .no, .no, .no, .no, .no, .no, .p] [_, Value.bool (decide ((S.st : Int) < 0)) = .bool true] [(18, .bool true)] [] 11 0 hS (hB10.k 2 (.c (as_t (by omega)) .nil)) fun a hS => sge hK15 ?_
  refine cond_t hS rfl ?_
  refine sq fun K16 hK16 => rgn 2 <| sd ww [.p] [] [(19, .agg #[I6 70, I6 (-1), .string ⟨#[]⟩])] [] 1 1 hS .nil fun a hS => est 0 w2.heap.size 0 [I6 70, I6 (-1), .string ⟨#[]⟩] hS hB11 fun a w17 hw18 hS => ?_
  have hB20 : Blk w17 w2.heap.size 34 (#[I6 70, I6 (-1), .string ⟨#[]⟩]) := hB11.up hw18
  have hE21 := hE13.ui hw18 hs12
  refine sge hK16 <| wpIn_ret <| then_ret ?_
  refine retA1 hS Tryd.results77 (by kernel_rfl) (by kernel_rfl) rfl hB20 ?_
  exact ⟨by rw [show inE S = (70, -1) from if_pos (by omega)], hE21⟩
 ·
  refine rgn 11 <| sd ww [.p, .ld (I6 S.st), .as (.bool false), .p, .p, .ld (I6 S.st), .p, .ld (S.nv), .run (I6 S.ns.length), .as (.bool true), .p] [_, Value.bool (decide ((S.st : Int) < 0)) = .bool false, _, _, Rv (Builtin.len_ #[23] 3 #[S.nv]) (I6 S.ns.length) w7, Value.bool (decide ((S.st : Int) ≥ ↑S.ns.length)) = .bool true] [(18, .bool true)] [] 11 0 hS (hB10.k 2 (.c (as_f (by omega)) (hB10.k 2 (hB10.k 1 (.c (rlr 9 hG.names) (.c (as_t (by omega)) .nil)))))) fun a hS => sge hK15 ?_
  refine cond_t hS rfl ?_
  refine sq fun K22 hK22 => rgn 2 <| sd ww [.p] [] [(19, .agg #[I6 70, I6 (-1), .string ⟨#[]⟩])] [] 1 1 hS .nil fun a hS => est 0 w2.heap.size 0 [I6 70, I6 (-1), .string ⟨#[]⟩] hS hB11 fun a w23 hw24 hS => ?_
  have hB26 : Blk w23 w2.heap.size 34 (#[I6 70, I6 (-1), .string ⟨#[]⟩]) := hB11.up hw24
  have hE27 := hE13.ui hw24 hs12
  refine sge hK22 <| wpIn_ret <| then_ret ?_
  refine retA1 hS Tryd.results77 (by kernel_rfl) (by kernel_rfl) rfl hB26 ?_
  exact ⟨by rw [show inE S = (70, -1) from if_pos (by omega)], hE27⟩
 ·
  refine rgn 11 <| sd ww [.p, .ld (I6 S.st), .as (.bool false), .p, .p, .ld (I6 S.st), .p, .ld (S.nv), .run (I6 S.ns.length), .as (.bool false), .p] [_, Value.bool (decide ((S.st : Int) < 0)) = .bool false, _, _, Rv (Builtin.len_ #[23] 3 #[S.nv]) (I6 S.ns.length) w7, Value.bool (decide ((S.st : Int) ≥ ↑S.ns.length)) = .bool false] [(18, .bool false)] [] 11 0 hS (hB10.k 2 (.c (as_f (by omega)) (hB10.k 2 (hB10.k 1 (.c (rlr 9 hG.names) (.c (as_f (by omega)) .nil)))))) fun a hS => sge hK15 ?_
  refine cond_f hS rfl ?_
  refine wpIn_skip <| hK14 _ _ <| sq fun K28 hK28 => sdq 4 [.p, .ld (S.pv), .run (I6 S.ps.length), .p] [_, Rv (Builtin.len_ #[24] 3 #[S.pv]) (I6 S.ps.length) w7] [(21, S.pv), (22, I6 S.ps.length), (23, I6 0)] [] hS (hB10.k 3 (.c (rlr 73 hG.prods) .nil)) fun a hS => wpIn_block ?_
  have hbl30 := (hb.trans0 hE13)
  refine loop_ghost (fun (i : Nat) a' w' => St 59 [] [(1, (Pv w.heap.size)), (2, (Pv w2.heap.size)), (21, S.pv), (22, I6 S.ps.length), (23, I6 i)] a' ∧ Ext [] w7 w' ∧ i ≤ S.ps.length ∧ prodsE S S.ps 0 = prodsE S (S.ps.drop i) i) (fun (i : Nat) => S.ps.length - i) 0 ⟨hS.keepTo [1, 2, 21, 22, 23] (by kernel_rfl), Ext.refl _ _, by omega, rfl⟩ ?_
  rintro i a wl30 ⟨hS, hXl30, hi, hn⟩
  have hB31 := hB10.ext hXl30 (by simp)
  have hB32 := hB11.ext hXl30 (by simp)
  have hin : inE S = prodsE S (S.ps.drop i) i := by rw [← hn]; exact if_neg (by omega)
  refine sdq 1 [.p] [] [(24, .bool (decide ((↑i : Int) < ↑S.ps.length)))] [] hS .nil fun a hS => sq fun K34 hK34 => ?_
  refine cond_b hS rfl (fun hb35 => ?_) (fun hb35 => ?_)
  ·
   replace hb35 := of_decide_eq_true hb35
   obtain ⟨p, hpi⟩ : ∃ p, S.ps[i]? = some p := gE
   have hpm := List.mem_of_getElem? hpi
   have hrm := hG.rmax p hpm
   rw [drop_of hpi, prodsE] at hin
   refine wpIn_skip <| hK34 _ _ <| sq fun K36 hK36 => wpIn_block <| sq fun K37 hK37 => rgn 6 <| sd ww [.p, .run ((Po (bof S.pv) (oof S.pv + i * 2))), .lds [I6 p.l, p.rv]] [Rv (Instr.indexAt 24 (S.pv) (I6 i)) ((Po (bof S.pv) (oof S.pv + i * 2))) wl30, wl30.cell? ⟨bof S.pv, oof S.pv + i * 2, none⟩ = some (I6 p.l), wl30.cell? ⟨bof S.pv, oof S.pv + i * 2 + 1, none⟩ = some (p.rv)] [(25, I6 i), (27, .agg #[I6 p.l, p.rv])] [] 3 3 hS (.c (ixr 73 i hG.prods) (.c ((hG.prods.ext0 (hbl30.trans0 hXl30)).cellAt (i * 2 + 0) (by omega) (pcells_at S.ps i 0 p hpi (by omega))) (.c ((hG.prods.ext0 (hbl30.trans0 hXl30)).cellAt (i * 2 + 1) (by omega) (pcells_at S.ps i 1 p hpi (by omega))) .nil))) fun a hS => ebx 2 #[I6 0, .slice none 0 0] 73 (some 4) hS fun a w38 hw39 hS => ?_
   have hn40 := Nat.ne_of_lt hB31.lt
   have hn41 := Nat.ne_of_lt hB32.lt
   have hB42 := Blk.at' hw39 (hB31.alloc _)
   have hB43 := Blk.at' hw39 (hB32.alloc _)
   have hB44 := Blk.nw hw39
   have hs45 := hXl30.size
   have hE46 := hXl30.al hw39
   refine sd ww [.p] [] [(3, I6 i)] [] 5 1 hS .nil fun a hS => est 0 wl30.heap.size 0 [I6 p.l, p.rv] hS hB44 fun a w47 hw48 hS => ?_
   have hB49 := Blk.at' hw48 (hB42.updNe (Ne.symm hn40) _ _)
   have hB50 := Blk.at' hw48 (hB43.updNe (Ne.symm hn41) _ _)
   have hB51 : Blk w47 wl30.heap.size 73 (#[I6 p.l, p.rv]) := hB44.up hw48
   have hE52 := hE46.ui hw48 hs45
   refine sge hK37 <| sq fun K53 hK53 => sq fun K54 hK54 => ?_
   rcases (show (p.l < 0) ∨ (0 ≤ p.l ∧ S.ns.length ≤ p.l) ∨ (0 ≤ p.l ∧ p.l < S.ns.length) from by omega) with h3 | ⟨h3, h4⟩ | ⟨h3, h4⟩
   ·
    have hEl30 : Ext [] w w47 := hE13.trans0 hE52
    have hpe : prodE S p = 70 := if_pos (by omega)
    refine rgn 11 <| sd ww [.p, .ld (I6 p.l), .as (.bool true), .p, .no, .no, .no, .no, .no, .no, .p] [_, Value.bool (decide ((p.l : Int) < 0)) = .bool true] [(38, .bool true)] [] 11 0 hS (hB51.k 0 (.c (as_t (by omega)) .nil)) fun a hS => sge hK54 ?_
    refine cond_t hS rfl ?_
    refine sq fun K55 hK55 => rgn 3 <| sd ww [.p, .p] [] [(40, .agg #[I6 70, I6 i, .string ⟨#[]⟩])] [] 2 1 hS .nil fun a hS => est 0 w2.heap.size 0 [I6 70, I6 i, .string ⟨#[]⟩] hS hB50 fun a w56 hw57 hS => ?_
    have hB59 : Blk w56 w2.heap.size 34 (#[I6 70, I6 i, .string ⟨#[]⟩]) := hB50.up hw57
    have hE61 := hEl30.ui hw57 hs12
    refine sge hK55 <| wpIn_ret <| then_ret <| inBlock_ret <| then_ret <| then_ret <| inBlock_ret <| then_ret ?_
    refine retA1 hS Tryd.results77 (by kernel_rfl) (by kernel_rfl) rfl hB59 ?_
    exact ⟨by rw [show inE S = (70, (i : Int)) from by rw [hin, if_pos (by omega), hpe]], hE61⟩
   ·
    have hEl30 : Ext [] w w47 := hE13.trans0 hE52
    have hpe : prodE S p = 70 := if_pos (by omega)
    refine rgn 11 <| sd ww [.p, .ld (I6 p.l), .as (.bool false), .p, .p, .ld (I6 p.l), .p, .ld (S.nv), .run (I6 S.ns.length), .as (.bool true), .p] [_, Value.bool (decide ((p.l : Int) < 0)) = .bool false, _, _, Rv (Builtin.len_ #[23] 3 #[S.nv]) (I6 S.ns.length) w47, Value.bool (decide ((p.l : Int) ≥ ↑S.ns.length)) = .bool true] [(38, .bool true)] [] 11 0 hS (hB51.k 0 (.c (as_f (by omega)) (hB51.k 0 (hB49.k 1 (.c (rlr 9 hG.names) (.c (as_t (by omega)) .nil)))))) fun a hS => sge hK54 ?_
    refine cond_t hS rfl ?_
    refine sq fun K62 hK62 => rgn 3 <| sd ww [.p, .p] [] [(40, .agg #[I6 70, I6 i, .string ⟨#[]⟩])] [] 2 1 hS .nil fun a hS => est 0 w2.heap.size 0 [I6 70, I6 i, .string ⟨#[]⟩] hS hB50 fun a w63 hw64 hS => ?_
    have hB66 : Blk w63 w2.heap.size 34 (#[I6 70, I6 i, .string ⟨#[]⟩]) := hB50.up hw64
    have hE68 := hEl30.ui hw64 hs12
    refine sge hK62 <| wpIn_ret <| then_ret <| inBlock_ret <| then_ret <| then_ret <| inBlock_ret <| then_ret ?_
    refine retA1 hS Tryd.results77 (by kernel_rfl) (by kernel_rfl) rfl hB66 ?_
    exact ⟨by rw [show inE S = (70, (i : Int)) from by rw [hin, if_pos (by omega), hpe]], hE68⟩
   ·
    have hpe : prodE S p = rightE S p.r := if_neg (by omega)
    refine rgn 11 <| sd ww [.p, .ld (I6 p.l), .as (.bool false), .p, .p, .ld (I6 p.l), .p, .ld (S.nv), .run (I6 S.ns.length), .as (.bool false), .p] [_, Value.bool (decide ((p.l : Int) < 0)) = .bool false, _, _, Rv (Builtin.len_ #[23] 3 #[S.nv]) (I6 S.ns.length) w47, Value.bool (decide ((p.l : Int) ≥ ↑S.ns.length)) = .bool false] [(38, .bool false)] [] 11 0 hS (hB51.k 0 (.c (as_f (by omega)) (hB51.k 0 (hB49.k 1 (.c (rlr 9 hG.names) (.c (as_f (by omega)) .nil)))))) fun a hS => sge hK54 ?_
    refine cond_f hS rfl ?_
    refine wpIn_skip <| hK53 _ _ <| sdq 4 [.p, .ld (p.rv), .run (I6 p.r.length), .p] [_, Rv (Builtin.len_ #[71] 3 #[p.rv]) (I6 p.r.length) w47] [(42, p.rv), (43, I6 p.r.length), (44, I6 0)] [] hS (hB51.k 1 (.c (rlr 61 (hG.right p hpm)) .nil)) fun a hS => wpIn_block ?_
    have hbl70 : Ext [] w0 w47 := (hbl30.trans0 hE52)
    refine loop_ghost (fun (k : Nat) a' w' => St 59 [] [(1, (Pv w.heap.size)), (2, (Pv w2.heap.size)), (21, S.pv), (22, I6 S.ps.length), (23, I6 i), (3, I6 i), (4, (Pv wl30.heap.size)), (42, p.rv), (43, I6 p.r.length), (44, I6 k)] a' ∧ Ext [] w47 w' ∧ k ≤ p.r.length ∧ rightE S p.r = rightE S (p.r.drop k)) (fun (k : Nat) => p.r.length - k) 0 ⟨hS.keepTo [1, 2, 21, 22, 23, 3, 4, 42, 43, 44] (by kernel_rfl), Ext.refl _ _, by omega, rfl⟩ ?_
    rintro k a wl70 ⟨hS, hXl70, hk, hm⟩
    have hB71 := hB49.ext hXl70 (by simp)
    have hB72 := hB50.ext hXl70 (by simp)
    refine sdq 1 [.p] [] [(45, .bool (decide ((↑k : Int) < ↑p.r.length)))] [] hS .nil fun a hS => sq fun K75 hK75 => ?_
    refine cond_b hS rfl (fun hb76 => ?_) (fun hb76 => ?_)
    ·
     replace hb76 := of_decide_eq_true hb76
     obtain ⟨x, hxk⟩ : ∃ x, p.r[k]? = some x := gE
     have hxm := List.mem_of_getElem? hxk
     rw [drop_of hxk, rightE] at hm
     refine wpIn_skip <| hK75 _ _ <| sq fun K77 hK77 => wpIn_block <| sq fun K78 hK78 => rgn 4 <| sd ww [.run ((Po (bof p.rv) (oof p.rv + k * 2))), .lds [I6 x.1, I6 x.2]] [Rv (Instr.indexAt 71 (p.rv) (I6 k)) ((Po (bof p.rv) (oof p.rv + k * 2))) wl70, wl70.cell? ⟨bof p.rv, oof p.rv + k * 2, none⟩ = some (I6 x.1), wl70.cell? ⟨bof p.rv, oof p.rv + k * 2 + 1, none⟩ = some (I6 x.2)] [(47, .agg #[I6 x.1, I6 x.2])] [] 2 2 hS (.c (ixr 61 k (hG.right p hpm)) (.c (((hG.right p hpm).ext0 (hbl70.trans0 hXl70)).cellAt (k * 2 + 0) (by omega) (ycells_at p.r k 0 x hxk (by omega))) (.c (((hG.right p hpm).ext0 (hbl70.trans0 hXl70)).cellAt (k * 2 + 1) (by omega) (ycells_at p.r k 1 x hxk (by omega))) .nil))) fun a hS => ebx 1 #[I6 0, I6 0] 61 (some 6) hS fun a w79 hw80 hS => ?_
     have hn81 := Nat.ne_of_lt hB71.lt
     have hn82 := Nat.ne_of_lt hB72.lt
     have hB84 := Blk.at' hw80 (hB71.alloc _)
     have hB85 := Blk.at' hw80 (hB72.alloc _)
     have hB87 := Blk.nw hw80
     have hs88 := hXl70.size
     have hE89 := hXl70.al hw80
     refine est 0 wl70.heap.size 0 [I6 x.1, I6 x.2] hS hB87 fun a w90 hw91 hS => ?_
     have hB92 := Blk.at' hw91 (hB84.updNe (Ne.symm hn81) _ _)
     have hB93 := Blk.at' hw91 (hB85.updNe (Ne.symm hn82) _ _)
     have hB95 : Blk w90 wl70.heap.size 61 (#[I6 x.1, I6 x.2]) := hB87.up hw91
     have hE96 := hE89.ui hw91 hs88
     refine sge hK78 <| sq fun K97 hK97 => rgn 4 <| sd ww [.lds [S.lv, S.nv, I6 S.st, S.pv], .lds [I6 x.1, I6 x.2]] [_, _, _, _, _, _] [(48, .agg S.ca), (49, .agg #[I6 x.1, I6 x.2])] [] 2 2 hS (hB92.k 0 (hB92.k 1 (hB92.k 2 (hB92.k 3 (hB95.k 0 (hB95.k 1 .nil)))))) fun a hS => ecl 1 (some 50) hS Tryd.call72 #[.agg S.ca, .agg #[I6 x.1, I6 x.2]] (symbol_any hG (hbl70.trans0 hE96) x) ?_
     rintro _ wc98 ⟨rfl, hEc98⟩
     refine ⟨_, rfl, fun a hS => ?_⟩
     have hB100 := hB93.ext hEc98 (by simp)
     have hE103 := hE96.trans0 hEc98
     refine sd ww [.p] [] [(7, I6 (symE S x))] [] 4 0 hS .nil fun a hS => sge hK97 <| sdq 2 [.p, .p] [] [(52, .bool ((symE S x : Int) != 0))] [] hS .nil fun a hS => ?_
     refine cond_b hS rfl (fun hb105 => ?_) (fun hb105 => ?_)
     ·
      replace hb105 := test_ne_t hb105
      have hEl70 : Ext [] w7 wc98 := hE52.trans0 hE103
      have hEl30 : Ext [] w wc98 := hE13.trans0 hEl70
      refine sq fun K106 hK106 => rgn 4 <| sd ww [.p, .p, .p] [] [(55, .agg #[I6 (symE S x), I6 i, .string ⟨#[]⟩])] [] 3 1 hS .nil fun a hS => est 0 w2.heap.size 0 [I6 (symE S x), I6 i, .string ⟨#[]⟩] hS hB100 fun a w107 hw108 hS => ?_
      have hB110 : Blk w107 w2.heap.size 34 (#[I6 (symE S x), I6 i, .string ⟨#[]⟩]) := hB100.up hw108
      have hE113 := hEl30.ui hw108 hs12
      refine sge hK106 <| wpIn_ret <| inBlock_ret <| then_ret <| then_ret <| inBlock_ret <| inBlock_ret <| then_ret <| then_ret <| inBlock_ret <| then_ret ?_
      refine retA1 hS Tryd.results77 (by kernel_rfl) (by kernel_rfl) rfl hB110 ?_
      exact ⟨by rw [show inE S = (symE S x, (i : Int)) from by rw [hin, hpe, hm, if_pos (by rw [if_pos hb105]; exact hb105), if_pos hb105]], hE113⟩
     ·
      replace hb105 := test_ne_f hb105
      rw [if_neg (by omega)] at hm
      refine wpIn_skip <| inBlock_normal <| hK77 _ _ <| rgn 2 <| sd ww [.as (I6 (↑k + 1)), .p] [_] [(44, I6 (↑k + 1))] [] 2 0 hS (as6 (↑k + 1)) fun a hS => seg_end ?_
      exact ⟨k + 1, ⟨hS.kp [(1, (Pv w.heap.size)), (2, (Pv w2.heap.size)), (21, S.pv), (22, I6 S.ps.length), (23, I6 i), (3, I6 i), (4, (Pv wl30.heap.size)), (42, p.rv), (43, I6 p.r.length), (44, I6 (↑k + 1))], hE103, by omega, hm⟩, by omega⟩
    ·
     replace hb76 := of_decide_eq_false hb76
     rw [List.drop_eq_nil_of_le (by omega)] at hm
     have hEl70 : Ext [] w7 wl70 := hE52.trans0 hXl70
     rw [if_neg (by rw [hpe, hm]; simp [rightE])] at hin
     have hinb : prodsE S S.ps 0 = inE S := (if_neg (by omega)).symm
     refine xt2 <| inBlock_normal <| hK36 _ _ <| rgn 2 <| sd ww [.as (I6 (↑i + 1)), .p] [_] [(23, I6 (↑i + 1))] [] 2 0 hS (as6 (↑i + 1)) fun a hS => seg_end ?_
     exact ⟨i + 1, ⟨hS.kp [(1, (Pv w.heap.size)), (2, (Pv w2.heap.size)), (21, S.pv), (22, I6 S.ps.length), (23, I6 (↑i + 1))], hEl70, by omega, by rw [← hin]; exact hinb⟩, by omega⟩
  ·
   replace hb35 := of_decide_eq_false hb35
   rw [List.drop_eq_nil_of_le (by omega)] at hin
   have hEl30 : Ext [] w wl30 := hE13.trans0 hXl30
   refine xt2 <| hK28 _ _ <| sq fun K114 hK114 => rgn 2 <| sd ww [.p] [] [(58, .agg #[I6 0, I6 0, .string ⟨#[]⟩])] [] 1 1 hS .nil fun a hS => est 0 w2.heap.size 0 [I6 0, I6 0, .string ⟨#[]⟩] hS hB32 fun a w115 hw116 hS => ?_
   have hB118 : Blk w115 w2.heap.size 34 (#[I6 0, I6 0, .string ⟨#[]⟩]) := hB32.up hw116
   have hE119 := hEl30.ui hw116 hs12
   refine sge hK114 <| wpIn_ret ?_
   refine retA1 hS Tryd.results77 (by kernel_rfl) (by kernel_rfl) rfl hB118 ?_
   exact ⟨by rw [show inE S = (0, 0) from hin], hE119⟩
end Go.Proofs.YtkkpghlcmcaoiaaDoor
