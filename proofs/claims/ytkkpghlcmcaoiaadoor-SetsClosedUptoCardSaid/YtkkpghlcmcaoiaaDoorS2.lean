import Derived.Test.YtkkpghlcmcaoiaaDoorS1
namespace Go.Proofs.YtkkpghlcmcaoiaaDoor
open Go.Vc Go.Gm

/-- the error of a symbol -/
def symE (S : Sp) (x : Sy) : Int :=
 if x.1 = 1 then (if 0 ≤ x.2 ∧ x.2 < S.lx.length then (if S.lx[x.2.toNat]?.map Lx.tr = some true then 71 else 0) else 70)
 else if x.1 = 2 then (if x.2 = 0 then 0 else 70)
 else if x.1 = 3 then (if 0 ≤ x.2 ∧ x.2 < S.ns.length then 0 else 70) else 70
def rightE (S : Sp) : List Sy → Int
 | [] => 0
 | x :: r => if symE S x ≠ 0 then symE S x else rightE S r
def prodE (S : Sp) (p : Pd) : Int := if p.l < 0 ∨ S.ns.length ≤ p.l then 70 else rightE S p.r
def prodsE (S : Sp) : List Pd → Nat → Int × Int
 | [], _ => (0, 0)
 | p :: l, i => if prodE S p ≠ 0 then (prodE S p, i) else prodsE S l (i + 1)
/-- the first symbol that names nothing: the error and its place -/
def inE (S : Sp) : Int × Int := if S.st < 0 ∨ S.ns.length ≤ S.st then (70, -1) else prodsE S S.ps 0
theorem symE_ok {S : Sp} {x : Sy} : symE S x = 0 ↔ syOk S x := by
 unfold symE syOk
 by_cases h1 : x.1 = 1
 ·rw [if_pos h1]
  constructor
  ·intro h
   refine .inl ⟨h1, ?_⟩
   split at h
   ·rename_i h2
    split at h
    ·cases h
    ·rename_i h3
     refine ⟨h2.1, h2.2, fun r hr => ?_⟩
     rw [hr] at h3
     simpa using h3
   ·cases h
  ·rintro (⟨_, h2, h3, h4⟩ | ⟨h, _⟩ | ⟨h, _⟩)
   ·rw [if_pos ⟨h2, h3⟩]
    obtain ⟨r, hr⟩ : ∃ r, S.lx[x.2.toNat]? = some r := ⟨_, List.getElem?_eq_getElem (by omega)⟩
    rw [hr, Option.map_some, h4 r hr]
    rfl
   ·omega
   ·omega
 ·rw [if_neg h1]
  by_cases h2 : x.1 = 2
  ·rw [if_pos h2]
   constructor
   ·intro h
    split at h
    ·rename_i h3; exact .inr (.inl ⟨h2, h3⟩)
    ·cases h
   ·rintro (⟨h, _⟩ | ⟨_, h⟩ | ⟨h, _⟩)
    ·omega
    ·rw [if_pos h]
    ·omega
  ·rw [if_neg h2]
   by_cases h3 : x.1 = 3
   ·rw [if_pos h3]
    constructor
    ·intro h
     split at h
     ·rename_i h4; exact .inr (.inr ⟨h3, h4⟩)
     ·cases h
    ·rintro (⟨h, _⟩ | ⟨h, _⟩ | ⟨_, h⟩)
     ·omega
     ·omega
     ·rw [if_pos h]
   ·rw [if_neg h3]
    constructor
    ·intro h; cases h
    ·rintro (⟨h, _⟩ | ⟨h, _⟩ | ⟨h, _⟩) <;> omega
theorem rightE_ok {S : Sp} : ∀ {r : List Sy}, rightE S r = 0 ↔ ∀ x ∈ r, syOk S x
 | [] => by simp [rightE]
 | x :: r => by
  have ih := rightE_ok (S := S) (r := r)
  rw [rightE, List.forall_mem_cons, ← ih, ← symE_ok]
  by_cases h : symE S x = 0
  ·simp [h]
  ·simp [h]
theorem prodE_ok {S : Sp} {p : Pd} : prodE S p = 0 ↔ (0 ≤ p.l ∧ p.l < S.ns.length) ∧ ∀ x ∈ p.r, syOk S x := by
 unfold prodE
 split
 ·rename_i h
  constructor
  ·intro h; cases h
  ·rintro ⟨h1, _⟩; omega
 ·rename_i h
  rw [rightE_ok]
  exact ⟨fun h1 => ⟨by omega, h1⟩, fun h1 => h1.2⟩
theorem prodsE_ok {S : Sp} : ∀ {l : List Pd} {i : Nat}, (prodsE S l i).1 = 0 ↔ ∀ p ∈ l, (0 ≤ p.l ∧ p.l < S.ns.length) ∧ ∀ x ∈ p.r, syOk S x
 | [], _ => by simp [prodsE]
 | p :: l, i => by
  have ih := prodsE_ok (S := S) (l := l) (i := i + 1)
  rw [prodsE, List.forall_mem_cons, ← ih, ← prodE_ok]
  by_cases h : prodE S p = 0
  ·simp [h]
  ·simp [h]
theorem inE_ok {S : Sp} : (inE S).1 = 0 ↔ Ix S := by
 unfold inE
 split
 ·rename_i h
  constructor
  ·intro h; cases h
  ·intro h1; have := h1.st; omega
 ·rename_i h
  rw [prodsE_ok]
  exact ⟨fun h1 => ⟨by omega, fun p hp => (h1 p hp).1, fun p hp => (h1 p hp).2⟩, fun h1 p hp => ⟨h1.left p hp, h1.right p hp⟩⟩
theorem symbol_any {w0 w : World} {S : Sp} (hG : SpOk w0 S) (hb : Ext [] w0 w) (x : Sy) :
  Calls Tryd.prog 72 #[.agg S.ca, .agg #[I6 x.1, I6 x.2]] w fun e w' => e = .returned (I6 (symE S x)) ∧ Ext [] w w' := by
 have hlmax := hG.lmax
 have hnmax := hG.nmax
 have hpmax := hG.pmax
 refine calls_body 51 [(0, .agg S.ca), (1, .agg #[I6 x.1, I6 x.2])] Tryd.func72 rfl (by kernel_rfl) (by kernel_rfl) (by kernel_rfl) fun a hS => ?_
 have hE0 : Ext [] w w := Ext.refl _ _
 refine sq fun K1 hK1 => ?_
 rcases (show (x.1 = 1 ∧ 0 ≤ x.2 ∧ x.2 < S.lx.length) ∨ (x.1 = 1 ∧ x.2 < 0) ∨ (x.1 = 1 ∧ 0 ≤ x.2 ∧ S.lx.length ≤ x.2) ∨ (x.1 = 2 ∧ x.2 = 0) ∨ (x.1 = 2 ∧ x.2 ≠ 0) ∨ (x.1 = 3 ∧ 0 ≤ x.2 ∧ x.2 < S.ns.length) ∨ (x.1 = 3 ∧ x.2 < 0) ∨ (x.1 = 3 ∧ 0 ≤ x.2 ∧ S.ns.length ≤ x.2) ∨ (x.1 ≠ 1 ∧ x.1 ≠ 2 ∧ x.1 ≠ 3) from by omega) with ⟨h1, h2, h3⟩ | ⟨h1, h2⟩ | ⟨h1, h2, h3⟩ | ⟨h1, h2⟩ | ⟨h1, h2⟩ | ⟨h1, h2, h3⟩ | ⟨h1, h2⟩ | ⟨h1, h2, h3⟩ | ⟨h1, h2, h3⟩
 ·
  obtain ⟨lr, hlr⟩ : ∃ lr, S.lx[x.2.toNat]? = some lr := ⟨_, List.getElem?_eq_getElem (by omega)⟩
  refine rgn 3 <| eff_box ww (r := 2) (cs := S.ca) (T := 26) (d := (some 2)) hS (by kernel_rfl) fun a w2 hw3 hS => ?_
  have hB4 : Blk w2 (w.heap.size) 26 S.ca := by rw [hw3]; exact Blk.new _ _ _
  have hs5 : w.heap.size ≤ w.heap.size := hE0.size
  have hE6 : Ext [] w w2 := by rw [hw3]; exact hE0.alloc _
  refine eff_box ww (r := 1) (cs := #[I6 x.1, I6 x.2]) (T := 61) (d := (some 3)) hS (by kernel_rfl) fun a w7 hw8 hS => ?_
  have hB10 := Blk.at' hw8 (hB4.alloc _)
  have hB11 : Blk w7 (w2.heap.size) 61 #[I6 x.1, I6 x.2] := by rw [hw8]; exact Blk.new _ _ _
  have hs12 : w.heap.size ≤ w2.heap.size := hE6.size
  have hE13 : Ext [] w w7 := by rw [hw8]; exact hE6.alloc _
  refine sd ww [.p] [] [(4, I6 0)] [] 3 0 hS .nil fun a hS => seg_end <| hK1 _ _ <| sq fun K14 hK14 => rgn 1 <| sd ww [.p] [] [(5, .bool false)] [] 1 0 hS .nil fun a hS => seg_end <| hK14 _ _ <| sq fun K15 hK15 => sq fun K16 hK16 => rgn 2 <| sd ww [.p, .ld (I6 x.1)] [w7.cell? ⟨w2.heap.size, 0, none⟩ = some (I6 x.1)] [(7, I6 x.1)] [] 2 0 hS (.cons (hB11.cell 0 rfl) .nil) fun a hS => seg_end <| hK16 _ _ <| wpIn_block <| sq fun K17 hK17 => rgn 2 <| sd ww [.as (.bool true), .p] [Value.bool (((x.1 : Int) == 1)) = .bool true] [(8, .bool true)] [] 2 0 hS (.cons (as_eq_t (by omega)) .nil) fun a hS => seg_end <| hK17 _ _ ?_
  refine cond_t hS rfl ?_
  refine sq fun K18 hK18 => rgn 12 <| sd ww [.p, .ld (I6 x.2), .as (.bool true), .p, .p, .ld (I6 x.2), .p, .ld (S.lv), .run (I6 ↑S.lx.length), .as (.bool true), .p, .p] [w7.cell? ⟨w2.heap.size, 1, none⟩ = some (I6 x.2), Value.bool (decide ((x.2 : Int) ≥ 0)) = .bool true, w7.cell? ⟨w2.heap.size, 1, none⟩ = some (I6 x.2), w7.cell? ⟨w.heap.size, 0, none⟩ = some (S.lv), Ru Tryd.prog (vS (Builtin.len_ #[22] 3 #[S.lv])) (I6 ↑S.lx.length) w7, Value.bool (decide ((x.2 : Int) < ↑S.lx.length)) = .bool true] [(5, .bool true)] [] 12 0 hS (.cons (hB11.cell 1 rfl) (.cons (as_t (by omega)) (.cons (hB11.cell 1 rfl) (.cons (hB10.cell 0 rfl) (.cons (run_len_rd (e := 100) hG.lex (by kernel_rfl)) (.cons (as_t (by omega)) .nil)))))) fun a hS => seg_end <| hK18 _ _ <| sq fun K19 hK19 => rgn 10 <| sd ww [.p, .p, .p, .ld (S.lv), .p, .ld (I6 x.2), .run ((Po (bof S.lv) (oof S.lv + x.2.toNat * 8))), .p, .ld (.bool lr.tr), .p] [w7.cell? ⟨w.heap.size, 0, none⟩ = some (S.lv), w7.cell? ⟨w2.heap.size, 1, none⟩ = some (I6 x.2), Ru Tryd.prog (vS (Instr.indexAt 22 (S.lv) (I6 x.2))) ((Po (bof S.lv) (oof S.lv + x.2.toNat * 8))) w7, w7.cell? ⟨bof S.lv, oof S.lv + x.2.toNat * 8 + 1, none⟩ = some (.bool lr.tr)] [(30, .bool lr.tr)] [] 10 0 hS (.cons (hB10.cell 0 rfl) (.cons (hB11.cell 1 rfl) (.cons (ix_rd (e := 100) (j := x.2.toNat) hG.lex (by kernel_rfl) (by kernel_rfl) (Int.toNat_of_nonneg (by omega)).symm (by omega)) (.cons ((hG.lex.ext0 (hb.trans0 hE13)).cellAt (x.2.toNat * 8 + 1) (by omega) (lcells_at S.lx x.2.toNat 1 lr hlr (by omega))) .nil)))) fun a hS => seg_end <| hK19 _ _ ?_
  refine cond_b hS rfl (fun hb20 => ?_) (fun hb20 => ?_)
  ·
   replace hb20 := hb20
   refine sq fun K21 hK21 => rgn 1 <| sg ww [.p] [] [(0, .agg S.ca), (1, .agg #[I6 x.1, I6 x.2]), (2, (Pv w.heap.size)), (3, (Pv w2.heap.size)), (4, I6 71), (5, .bool true), (7, I6 x.1), (8, .bool true), (30, .bool lr.tr)] 1 0 hS .nil fun a hS => seg_end <| hK21 _ _ <| wpIn_ret <| inBlock_ret <| then_ret ?_
   refine ret1 hS Tryd.results72 rfl ?_
   exact ⟨by rw [show symE S x = 71 from by rw [symE, if_pos h1, if_pos ⟨h2, h3⟩, hlr, Option.map_some, hb20]; rfl], hE13⟩
  ·
   replace hb20 := hb20
   refine wpIn_skip <| inBlock_normal <| hK15 _ _ <| sq fun K22 hK22 => sq fun K23 hK23 => rgn 2 <| sg ww [.p, .p] [] [(0, .agg S.ca), (1, .agg #[I6 x.1, I6 x.2]), (2, (Pv w.heap.size)), (3, (Pv w2.heap.size)), (4, I6 0), (5, .bool true), (7, I6 x.1), (8, .bool true), (30, .bool lr.tr), (50, .bool false)] 2 0 hS .nil fun a hS => seg_end <| hK23 _ _ ?_
   refine cond_f hS rfl ?_
   refine wpIn_skip <| hK22 _ _ <| sq fun K24 hK24 => rgn 1 <| sd ww [.p] [] [] [] 1 0 hS .nil fun a hS => seg_end <| hK24 _ _ <| wpIn_ret ?_
   refine ret1 hS Tryd.results72 rfl ?_
   exact ⟨by rw [show symE S x = 0 from by rw [symE, if_pos h1, if_pos ⟨h2, h3⟩, hlr, Option.map_some, hb20]; rfl], hE13⟩
 ·
  refine rgn 3 <| eff_box ww (r := 2) (cs := S.ca) (T := 26) (d := (some 2)) hS (by kernel_rfl) fun a w25 hw26 hS => ?_
  have hs28 : w.heap.size ≤ w.heap.size := hE0.size
  have hE29 : Ext [] w w25 := by rw [hw26]; exact hE0.alloc _
  refine eff_box ww (r := 1) (cs := #[I6 x.1, I6 x.2]) (T := 61) (d := (some 3)) hS (by kernel_rfl) fun a w30 hw31 hS => ?_
  have hB34 : Blk w30 (w25.heap.size) 61 #[I6 x.1, I6 x.2] := by rw [hw31]; exact Blk.new _ _ _
  have hs35 : w.heap.size ≤ w25.heap.size := hE29.size
  have hE36 : Ext [] w w30 := by rw [hw31]; exact hE29.alloc _
  refine sd ww [.p] [] [(4, I6 0)] [] 3 0 hS .nil fun a hS => seg_end <| hK1 _ _ <| sq fun K37 hK37 => rgn 1 <| sd ww [.p] [] [(5, .bool false)] [] 1 0 hS .nil fun a hS => seg_end <| hK37 _ _ <| sq fun K38 hK38 => sq fun K39 hK39 => rgn 2 <| sd ww [.p, .ld (I6 x.1)] [w30.cell? ⟨w25.heap.size, 0, none⟩ = some (I6 x.1)] [(7, I6 x.1)] [] 2 0 hS (.cons (hB34.cell 0 rfl) .nil) fun a hS => seg_end <| hK39 _ _ <| wpIn_block <| sq fun K40 hK40 => rgn 2 <| sd ww [.as (.bool true), .p] [Value.bool (((x.1 : Int) == 1)) = .bool true] [(8, .bool true)] [] 2 0 hS (.cons (as_eq_t (by omega)) .nil) fun a hS => seg_end <| hK40 _ _ ?_
  refine cond_t hS rfl ?_
  refine sq fun K41 hK41 => rgn 12 <| sd ww [.p, .ld (I6 x.2), .as (.bool false), .p, .no, .no, .no, .no, .no, .no, .p, .p] [w30.cell? ⟨w25.heap.size, 1, none⟩ = some (I6 x.2), Value.bool (decide ((x.2 : Int) ≥ 0)) = .bool false] [] [] 12 0 hS (.cons (hB34.cell 1 rfl) (.cons (as_f (by omega)) .nil)) fun a hS => seg_end <| hK41 _ _ <| sq fun K42 hK42 => rgn 10 <| sd ww [.p, .p, .no, .no, .no, .no, .no, .no, .no, .p] [] [(30, .bool false)] [] 10 0 hS .nil fun a hS => seg_end <| hK42 _ _ ?_
  refine cond_f hS rfl ?_
  refine wpIn_skip <| inBlock_normal <| hK38 _ _ <| sq fun K43 hK43 => sq fun K44 hK44 => rgn 2 <| sg ww [.p, .p] [] [(0, .agg S.ca), (1, .agg #[I6 x.1, I6 x.2]), (2, (Pv w.heap.size)), (3, (Pv w25.heap.size)), (4, I6 0), (5, .bool false), (7, I6 x.1), (8, .bool true), (30, .bool false), (50, .bool true)] 2 0 hS .nil fun a hS => seg_end <| hK44 _ _ ?_
  refine cond_t hS rfl ?_
  refine sq fun K45 hK45 => rgn 1 <| sd ww [.p] [] [(4, I6 70)] [] 1 0 hS .nil fun a hS => seg_end <| hK45 _ _ <| wpIn_ret <| then_ret ?_
  refine ret1 hS Tryd.results72 rfl ?_
  exact ⟨by rw [show symE S x = 70 from by simp [symE, h1, show ¬(0 ≤ x.2 ∧ x.2 < S.lx.length) by omega]], hE36⟩
 ·
  refine rgn 3 <| eff_box ww (r := 2) (cs := S.ca) (T := 26) (d := (some 2)) hS (by kernel_rfl) fun a w46 hw47 hS => ?_
  have hB48 : Blk w46 (w.heap.size) 26 S.ca := by rw [hw47]; exact Blk.new _ _ _
  have hs49 : w.heap.size ≤ w.heap.size := hE0.size
  have hE50 : Ext [] w w46 := by rw [hw47]; exact hE0.alloc _
  refine eff_box ww (r := 1) (cs := #[I6 x.1, I6 x.2]) (T := 61) (d := (some 3)) hS (by kernel_rfl) fun a w51 hw52 hS => ?_
  have hB54 := Blk.at' hw52 (hB48.alloc _)
  have hB55 : Blk w51 (w46.heap.size) 61 #[I6 x.1, I6 x.2] := by rw [hw52]; exact Blk.new _ _ _
  have hs56 : w.heap.size ≤ w46.heap.size := hE50.size
  have hE57 : Ext [] w w51 := by rw [hw52]; exact hE50.alloc _
  refine sd ww [.p] [] [(4, I6 0)] [] 3 0 hS .nil fun a hS => seg_end <| hK1 _ _ <| sq fun K58 hK58 => rgn 1 <| sd ww [.p] [] [(5, .bool false)] [] 1 0 hS .nil fun a hS => seg_end <| hK58 _ _ <| sq fun K59 hK59 => sq fun K60 hK60 => rgn 2 <| sd ww [.p, .ld (I6 x.1)] [w51.cell? ⟨w46.heap.size, 0, none⟩ = some (I6 x.1)] [(7, I6 x.1)] [] 2 0 hS (.cons (hB55.cell 0 rfl) .nil) fun a hS => seg_end <| hK60 _ _ <| wpIn_block <| sq fun K61 hK61 => rgn 2 <| sd ww [.as (.bool true), .p] [Value.bool (((x.1 : Int) == 1)) = .bool true] [(8, .bool true)] [] 2 0 hS (.cons (as_eq_t (by omega)) .nil) fun a hS => seg_end <| hK61 _ _ ?_
  refine cond_t hS rfl ?_
  refine sq fun K62 hK62 => rgn 12 <| sd ww [.p, .ld (I6 x.2), .as (.bool true), .p, .p, .ld (I6 x.2), .p, .ld (S.lv), .run (I6 ↑S.lx.length), .as (.bool false), .p, .p] [w51.cell? ⟨w46.heap.size, 1, none⟩ = some (I6 x.2), Value.bool (decide ((x.2 : Int) ≥ 0)) = .bool true, w51.cell? ⟨w46.heap.size, 1, none⟩ = some (I6 x.2), w51.cell? ⟨w.heap.size, 0, none⟩ = some (S.lv), Ru Tryd.prog (vS (Builtin.len_ #[22] 3 #[S.lv])) (I6 ↑S.lx.length) w51, Value.bool (decide ((x.2 : Int) < ↑S.lx.length)) = .bool false] [] [] 12 0 hS (.cons (hB55.cell 1 rfl) (.cons (as_t (by omega)) (.cons (hB55.cell 1 rfl) (.cons (hB54.cell 0 rfl) (.cons (run_len_rd (e := 100) hG.lex (by kernel_rfl)) (.cons (as_f (by omega)) .nil)))))) fun a hS => seg_end <| hK62 _ _ <| sq fun K63 hK63 => rgn 10 <| sd ww [.p, .p, .no, .no, .no, .no, .no, .no, .no, .p] [] [(30, .bool false)] [] 10 0 hS .nil fun a hS => seg_end <| hK63 _ _ ?_
  refine cond_f hS rfl ?_
  refine wpIn_skip <| inBlock_normal <| hK59 _ _ <| sq fun K64 hK64 => sq fun K65 hK65 => rgn 2 <| sg ww [.p, .p] [] [(0, .agg S.ca), (1, .agg #[I6 x.1, I6 x.2]), (2, (Pv w.heap.size)), (3, (Pv w46.heap.size)), (4, I6 0), (5, .bool false), (7, I6 x.1), (8, .bool true), (30, .bool false), (50, .bool true)] 2 0 hS .nil fun a hS => seg_end <| hK65 _ _ ?_
  refine cond_t hS rfl ?_
  refine sq fun K66 hK66 => rgn 1 <| sd ww [.p] [] [(4, I6 70)] [] 1 0 hS .nil fun a hS => seg_end <| hK66 _ _ <| wpIn_ret <| then_ret ?_
  refine ret1 hS Tryd.results72 rfl ?_
  exact ⟨by rw [show symE S x = 70 from by simp [symE, h1, show ¬(0 ≤ x.2 ∧ x.2 < S.lx.length) by omega]], hE57⟩
 ·
  refine rgn 3 <| eff_box ww (r := 2) (cs := S.ca) (T := 26) (d := (some 2)) hS (by kernel_rfl) fun a w67 hw68 hS => ?_
  have hs70 : w.heap.size ≤ w.heap.size := hE0.size
  have hE71 : Ext [] w w67 := by rw [hw68]; exact hE0.alloc _
  refine eff_box ww (r := 1) (cs := #[I6 x.1, I6 x.2]) (T := 61) (d := (some 3)) hS (by kernel_rfl) fun a w72 hw73 hS => ?_
  have hB76 : Blk w72 (w67.heap.size) 61 #[I6 x.1, I6 x.2] := by rw [hw73]; exact Blk.new _ _ _
  have hs77 : w.heap.size ≤ w67.heap.size := hE71.size
  have hE78 : Ext [] w w72 := by rw [hw73]; exact hE71.alloc _
  refine sd ww [.p] [] [(4, I6 0)] [] 3 0 hS .nil fun a hS => seg_end <| hK1 _ _ <| sq fun K79 hK79 => rgn 1 <| sd ww [.p] [] [(5, .bool false)] [] 1 0 hS .nil fun a hS => seg_end <| hK79 _ _ <| sq fun K80 hK80 => sq fun K81 hK81 => rgn 2 <| sd ww [.p, .ld (I6 x.1)] [w72.cell? ⟨w67.heap.size, 0, none⟩ = some (I6 x.1)] [(7, I6 x.1)] [] 2 0 hS (.cons (hB76.cell 0 rfl) .nil) fun a hS => seg_end <| hK81 _ _ <| wpIn_block <| sq fun K82 hK82 => rgn 2 <| sd ww [.as (.bool false), .p] [Value.bool (((x.1 : Int) == 1)) = .bool false] [(8, .bool false)] [] 2 0 hS (.cons (as_eq_f (by omega)) .nil) fun a hS => seg_end <| hK82 _ _ ?_
  refine cond_f hS rfl ?_
  refine sq fun K83 hK83 => rgn 2 <| sd ww [.as (.bool true), .p] [Value.bool (((x.1 : Int) == 2)) = .bool true] [(31, .bool true)] [] 2 0 hS (.cons (as_eq_t (by omega)) .nil) fun a hS => seg_end <| hK83 _ _ ?_
  refine cond_t hS rfl ?_
  refine rgn 4 <| sd ww [.p, .ld (I6 x.2), .as (.bool true), .p] [w72.cell? ⟨w67.heap.size, 1, none⟩ = some (I6 x.2), Value.bool (((x.2 : Int) == 0)) = .bool true] [(5, .bool true)] [] 4 0 hS (.cons (hB76.cell 1 rfl) (.cons (as_eq_t (by omega)) .nil)) fun a hS => seg_end <| inBlock_normal <| hK80 _ _ <| sq fun K84 hK84 => sq fun K85 hK85 => rgn 2 <| sg ww [.p, .p] [] [(0, .agg S.ca), (1, .agg #[I6 x.1, I6 x.2]), (2, (Pv w.heap.size)), (3, (Pv w67.heap.size)), (4, I6 0), (5, .bool true), (7, I6 x.1), (8, .bool false), (31, .bool true), (50, .bool false)] 2 0 hS .nil fun a hS => seg_end <| hK85 _ _ ?_
  refine cond_f hS rfl ?_
  refine wpIn_skip <| hK84 _ _ <| sq fun K86 hK86 => rgn 1 <| sd ww [.p] [] [] [] 1 0 hS .nil fun a hS => seg_end <| hK86 _ _ <| wpIn_ret ?_
  refine ret1 hS Tryd.results72 rfl ?_
  exact ⟨by rw [show symE S x = 0 from by simp [symE, h1, h2]], hE78⟩
 ·
  refine rgn 3 <| eff_box ww (r := 2) (cs := S.ca) (T := 26) (d := (some 2)) hS (by kernel_rfl) fun a w87 hw88 hS => ?_
  have hs90 : w.heap.size ≤ w.heap.size := hE0.size
  have hE91 : Ext [] w w87 := by rw [hw88]; exact hE0.alloc _
  refine eff_box ww (r := 1) (cs := #[I6 x.1, I6 x.2]) (T := 61) (d := (some 3)) hS (by kernel_rfl) fun a w92 hw93 hS => ?_
  have hB96 : Blk w92 (w87.heap.size) 61 #[I6 x.1, I6 x.2] := by rw [hw93]; exact Blk.new _ _ _
  have hs97 : w.heap.size ≤ w87.heap.size := hE91.size
  have hE98 : Ext [] w w92 := by rw [hw93]; exact hE91.alloc _
  refine sd ww [.p] [] [(4, I6 0)] [] 3 0 hS .nil fun a hS => seg_end <| hK1 _ _ <| sq fun K99 hK99 => rgn 1 <| sd ww [.p] [] [(5, .bool false)] [] 1 0 hS .nil fun a hS => seg_end <| hK99 _ _ <| sq fun K100 hK100 => sq fun K101 hK101 => rgn 2 <| sd ww [.p, .ld (I6 x.1)] [w92.cell? ⟨w87.heap.size, 0, none⟩ = some (I6 x.1)] [(7, I6 x.1)] [] 2 0 hS (.cons (hB96.cell 0 rfl) .nil) fun a hS => seg_end <| hK101 _ _ <| wpIn_block <| sq fun K102 hK102 => rgn 2 <| sd ww [.as (.bool false), .p] [Value.bool (((x.1 : Int) == 1)) = .bool false] [(8, .bool false)] [] 2 0 hS (.cons (as_eq_f (by omega)) .nil) fun a hS => seg_end <| hK102 _ _ ?_
  refine cond_f hS rfl ?_
  refine sq fun K103 hK103 => rgn 2 <| sd ww [.as (.bool true), .p] [Value.bool (((x.1 : Int) == 2)) = .bool true] [(31, .bool true)] [] 2 0 hS (.cons (as_eq_t (by omega)) .nil) fun a hS => seg_end <| hK103 _ _ ?_
  refine cond_t hS rfl ?_
  refine rgn 4 <| sd ww [.p, .ld (I6 x.2), .as (.bool false), .p] [w92.cell? ⟨w87.heap.size, 1, none⟩ = some (I6 x.2), Value.bool (((x.2 : Int) == 0)) = .bool false] [] [] 4 0 hS (.cons (hB96.cell 1 rfl) (.cons (as_eq_f (by omega)) .nil)) fun a hS => seg_end <| inBlock_normal <| hK100 _ _ <| sq fun K104 hK104 => sq fun K105 hK105 => rgn 2 <| sg ww [.p, .p] [] [(0, .agg S.ca), (1, .agg #[I6 x.1, I6 x.2]), (2, (Pv w.heap.size)), (3, (Pv w87.heap.size)), (4, I6 0), (5, .bool false), (7, I6 x.1), (8, .bool false), (31, .bool true), (50, .bool true)] 2 0 hS .nil fun a hS => seg_end <| hK105 _ _ ?_
  refine cond_t hS rfl ?_
  refine sq fun K106 hK106 => rgn 1 <| sd ww [.p] [] [(4, I6 70)] [] 1 0 hS .nil fun a hS => seg_end <| hK106 _ _ <| wpIn_ret <| then_ret ?_
  refine ret1 hS Tryd.results72 rfl ?_
  exact ⟨by rw [show symE S x = 70 from by simp [symE, h1, h2]], hE98⟩
 ·
  refine rgn 3 <| eff_box ww (r := 2) (cs := S.ca) (T := 26) (d := (some 2)) hS (by kernel_rfl) fun a w107 hw108 hS => ?_
  have hB109 : Blk w107 (w.heap.size) 26 S.ca := by rw [hw108]; exact Blk.new _ _ _
  have hs110 : w.heap.size ≤ w.heap.size := hE0.size
  have hE111 : Ext [] w w107 := by rw [hw108]; exact hE0.alloc _
  refine eff_box ww (r := 1) (cs := #[I6 x.1, I6 x.2]) (T := 61) (d := (some 3)) hS (by kernel_rfl) fun a w112 hw113 hS => ?_
  have hB115 := Blk.at' hw113 (hB109.alloc _)
  have hB116 : Blk w112 (w107.heap.size) 61 #[I6 x.1, I6 x.2] := by rw [hw113]; exact Blk.new _ _ _
  have hs117 : w.heap.size ≤ w107.heap.size := hE111.size
  have hE118 : Ext [] w w112 := by rw [hw113]; exact hE111.alloc _
  refine sd ww [.p] [] [(4, I6 0)] [] 3 0 hS .nil fun a hS => seg_end <| hK1 _ _ <| sq fun K119 hK119 => rgn 1 <| sd ww [.p] [] [(5, .bool false)] [] 1 0 hS .nil fun a hS => seg_end <| hK119 _ _ <| sq fun K120 hK120 => sq fun K121 hK121 => rgn 2 <| sd ww [.p, .ld (I6 x.1)] [w112.cell? ⟨w107.heap.size, 0, none⟩ = some (I6 x.1)] [(7, I6 x.1)] [] 2 0 hS (.cons (hB116.cell 0 rfl) .nil) fun a hS => seg_end <| hK121 _ _ <| wpIn_block <| sq fun K122 hK122 => rgn 2 <| sd ww [.as (.bool false), .p] [Value.bool (((x.1 : Int) == 1)) = .bool false] [(8, .bool false)] [] 2 0 hS (.cons (as_eq_f (by omega)) .nil) fun a hS => seg_end <| hK122 _ _ ?_
  refine cond_f hS rfl ?_
  refine sq fun K123 hK123 => rgn 2 <| sd ww [.as (.bool false), .p] [Value.bool (((x.1 : Int) == 2)) = .bool false] [(31, .bool false)] [] 2 0 hS (.cons (as_eq_f (by omega)) .nil) fun a hS => seg_end <| hK123 _ _ ?_
  refine cond_f hS rfl ?_
  refine sq fun K124 hK124 => rgn 2 <| sd ww [.as (.bool true), .p] [Value.bool (((x.1 : Int) == 3)) = .bool true] [(36, .bool true)] [] 2 0 hS (.cons (as_eq_t (by omega)) .nil) fun a hS => seg_end <| hK124 _ _ ?_
  refine cond_t hS rfl ?_
  refine rgn 12 <| sg ww [.p, .ld (I6 x.2), .as (.bool true), .p, .p, .ld (I6 x.2), .p, .ld (S.nv), .run (I6 ↑S.ns.length), .as (.bool true), .p, .p] [w112.cell? ⟨w107.heap.size, 1, none⟩ = some (I6 x.2), Value.bool (decide ((x.2 : Int) ≥ 0)) = .bool true, w112.cell? ⟨w107.heap.size, 1, none⟩ = some (I6 x.2), w112.cell? ⟨w.heap.size, 1, none⟩ = some (S.nv), Ru Tryd.prog (vS (Builtin.len_ #[23] 3 #[S.nv])) (I6 ↑S.ns.length) w112, Value.bool (decide ((x.2 : Int) < ↑S.ns.length)) = .bool true] [(0, .agg S.ca), (1, .agg #[I6 x.1, I6 x.2]), (2, (Pv w.heap.size)), (3, (Pv w107.heap.size)), (4, I6 0), (5, .bool true), (7, I6 x.1), (8, .bool false), (31, .bool false), (36, .bool true)] 12 0 hS (.cons (hB116.cell 1 rfl) (.cons (as_t (by omega)) (.cons (hB116.cell 1 rfl) (.cons (hB115.cell 1 rfl) (.cons (run_len_rd (e := 9) hG.names (by kernel_rfl)) (.cons (as_t (by omega)) .nil)))))) fun a hS => seg_end <| inBlock_normal <| hK120 _ _ <| sq fun K125 hK125 => sq fun K126 hK126 => rgn 2 <| sd ww [.p, .p] [] [(50, .bool false)] [] 2 0 hS .nil fun a hS => seg_end <| hK126 _ _ ?_
  refine cond_f hS rfl ?_
  refine wpIn_skip <| hK125 _ _ <| sq fun K127 hK127 => rgn 1 <| sd ww [.p] [] [] [] 1 0 hS .nil fun a hS => seg_end <| hK127 _ _ <| wpIn_ret ?_
  refine ret1 hS Tryd.results72 rfl ?_
  exact ⟨by rw [show symE S x = 0 from by simp [symE, h1, h2, h3]], hE118⟩
 ·
  refine rgn 3 <| eff_box ww (r := 2) (cs := S.ca) (T := 26) (d := (some 2)) hS (by kernel_rfl) fun a w128 hw129 hS => ?_
  have hs131 : w.heap.size ≤ w.heap.size := hE0.size
  have hE132 : Ext [] w w128 := by rw [hw129]; exact hE0.alloc _
  refine eff_box ww (r := 1) (cs := #[I6 x.1, I6 x.2]) (T := 61) (d := (some 3)) hS (by kernel_rfl) fun a w133 hw134 hS => ?_
  have hB137 : Blk w133 (w128.heap.size) 61 #[I6 x.1, I6 x.2] := by rw [hw134]; exact Blk.new _ _ _
  have hs138 : w.heap.size ≤ w128.heap.size := hE132.size
  have hE139 : Ext [] w w133 := by rw [hw134]; exact hE132.alloc _
  refine sd ww [.p] [] [(4, I6 0)] [] 3 0 hS .nil fun a hS => seg_end <| hK1 _ _ <| sq fun K140 hK140 => rgn 1 <| sd ww [.p] [] [(5, .bool false)] [] 1 0 hS .nil fun a hS => seg_end <| hK140 _ _ <| sq fun K141 hK141 => sq fun K142 hK142 => rgn 2 <| sd ww [.p, .ld (I6 x.1)] [w133.cell? ⟨w128.heap.size, 0, none⟩ = some (I6 x.1)] [(7, I6 x.1)] [] 2 0 hS (.cons (hB137.cell 0 rfl) .nil) fun a hS => seg_end <| hK142 _ _ <| wpIn_block <| sq fun K143 hK143 => rgn 2 <| sd ww [.as (.bool false), .p] [Value.bool (((x.1 : Int) == 1)) = .bool false] [(8, .bool false)] [] 2 0 hS (.cons (as_eq_f (by omega)) .nil) fun a hS => seg_end <| hK143 _ _ ?_
  refine cond_f hS rfl ?_
  refine sq fun K144 hK144 => rgn 2 <| sd ww [.as (.bool false), .p] [Value.bool (((x.1 : Int) == 2)) = .bool false] [(31, .bool false)] [] 2 0 hS (.cons (as_eq_f (by omega)) .nil) fun a hS => seg_end <| hK144 _ _ ?_
  refine cond_f hS rfl ?_
  refine sq fun K145 hK145 => rgn 2 <| sd ww [.as (.bool true), .p] [Value.bool (((x.1 : Int) == 3)) = .bool true] [(36, .bool true)] [] 2 0 hS (.cons (as_eq_t (by omega)) .nil) fun a hS => seg_end <| hK145 _ _ ?_
  refine cond_t hS rfl ?_
  refine rgn 12 <| sg ww [.p, .ld (I6 x.2), .as (.bool false), .p, .no, .no, .no, .no, .no, .no, .p, .p] [w133.cell? ⟨w128.heap.size, 1, none⟩ = some (I6 x.2), Value.bool (decide ((x.2 : Int) ≥ 0)) = .bool false] [(0, .agg S.ca), (1, .agg #[I6 x.1, I6 x.2]), (2, (Pv w.heap.size)), (3, (Pv w128.heap.size)), (4, I6 0), (5, .bool false), (7, I6 x.1), (8, .bool false), (31, .bool false), (36, .bool true)] 12 0 hS (.cons (hB137.cell 1 rfl) (.cons (as_f (by omega)) .nil)) fun a hS => seg_end <| inBlock_normal <| hK141 _ _ <| sq fun K146 hK146 => sq fun K147 hK147 => rgn 2 <| sd ww [.p, .p] [] [(50, .bool true)] [] 2 0 hS .nil fun a hS => seg_end <| hK147 _ _ ?_
  refine cond_t hS rfl ?_
  refine sq fun K148 hK148 => rgn 1 <| sd ww [.p] [] [(4, I6 70)] [] 1 0 hS .nil fun a hS => seg_end <| hK148 _ _ <| wpIn_ret <| then_ret ?_
  refine ret1 hS Tryd.results72 rfl ?_
  exact ⟨by rw [show symE S x = 70 from by simp [symE, h1, show ¬(0 ≤ x.2 ∧ x.2 < S.ns.length) by omega]], hE139⟩
 ·
  refine rgn 3 <| eff_box ww (r := 2) (cs := S.ca) (T := 26) (d := (some 2)) hS (by kernel_rfl) fun a w149 hw150 hS => ?_
  have hB151 : Blk w149 (w.heap.size) 26 S.ca := by rw [hw150]; exact Blk.new _ _ _
  have hs152 : w.heap.size ≤ w.heap.size := hE0.size
  have hE153 : Ext [] w w149 := by rw [hw150]; exact hE0.alloc _
  refine eff_box ww (r := 1) (cs := #[I6 x.1, I6 x.2]) (T := 61) (d := (some 3)) hS (by kernel_rfl) fun a w154 hw155 hS => ?_
  have hB157 := Blk.at' hw155 (hB151.alloc _)
  have hB158 : Blk w154 (w149.heap.size) 61 #[I6 x.1, I6 x.2] := by rw [hw155]; exact Blk.new _ _ _
  have hs159 : w.heap.size ≤ w149.heap.size := hE153.size
  have hE160 : Ext [] w w154 := by rw [hw155]; exact hE153.alloc _
  refine sd ww [.p] [] [(4, I6 0)] [] 3 0 hS .nil fun a hS => seg_end <| hK1 _ _ <| sq fun K161 hK161 => rgn 1 <| sd ww [.p] [] [(5, .bool false)] [] 1 0 hS .nil fun a hS => seg_end <| hK161 _ _ <| sq fun K162 hK162 => sq fun K163 hK163 => rgn 2 <| sd ww [.p, .ld (I6 x.1)] [w154.cell? ⟨w149.heap.size, 0, none⟩ = some (I6 x.1)] [(7, I6 x.1)] [] 2 0 hS (.cons (hB158.cell 0 rfl) .nil) fun a hS => seg_end <| hK163 _ _ <| wpIn_block <| sq fun K164 hK164 => rgn 2 <| sd ww [.as (.bool false), .p] [Value.bool (((x.1 : Int) == 1)) = .bool false] [(8, .bool false)] [] 2 0 hS (.cons (as_eq_f (by omega)) .nil) fun a hS => seg_end <| hK164 _ _ ?_
  refine cond_f hS rfl ?_
  refine sq fun K165 hK165 => rgn 2 <| sd ww [.as (.bool false), .p] [Value.bool (((x.1 : Int) == 2)) = .bool false] [(31, .bool false)] [] 2 0 hS (.cons (as_eq_f (by omega)) .nil) fun a hS => seg_end <| hK165 _ _ ?_
  refine cond_f hS rfl ?_
  refine sq fun K166 hK166 => rgn 2 <| sd ww [.as (.bool true), .p] [Value.bool (((x.1 : Int) == 3)) = .bool true] [(36, .bool true)] [] 2 0 hS (.cons (as_eq_t (by omega)) .nil) fun a hS => seg_end <| hK166 _ _ ?_
  refine cond_t hS rfl ?_
  refine rgn 12 <| sg ww [.p, .ld (I6 x.2), .as (.bool true), .p, .p, .ld (I6 x.2), .p, .ld (S.nv), .run (I6 ↑S.ns.length), .as (.bool false), .p, .p] [w154.cell? ⟨w149.heap.size, 1, none⟩ = some (I6 x.2), Value.bool (decide ((x.2 : Int) ≥ 0)) = .bool true, w154.cell? ⟨w149.heap.size, 1, none⟩ = some (I6 x.2), w154.cell? ⟨w.heap.size, 1, none⟩ = some (S.nv), Ru Tryd.prog (vS (Builtin.len_ #[23] 3 #[S.nv])) (I6 ↑S.ns.length) w154, Value.bool (decide ((x.2 : Int) < ↑S.ns.length)) = .bool false] [(0, .agg S.ca), (1, .agg #[I6 x.1, I6 x.2]), (2, (Pv w.heap.size)), (3, (Pv w149.heap.size)), (4, I6 0), (5, .bool false), (7, I6 x.1), (8, .bool false), (31, .bool false), (36, .bool true)] 12 0 hS (.cons (hB158.cell 1 rfl) (.cons (as_t (by omega)) (.cons (hB158.cell 1 rfl) (.cons (hB157.cell 1 rfl) (.cons (run_len_rd (e := 9) hG.names (by kernel_rfl)) (.cons (as_f (by omega)) .nil)))))) fun a hS => seg_end <| inBlock_normal <| hK162 _ _ <| sq fun K167 hK167 => sq fun K168 hK168 => rgn 2 <| sd ww [.p, .p] [] [(50, .bool true)] [] 2 0 hS .nil fun a hS => seg_end <| hK168 _ _ ?_
  refine cond_t hS rfl ?_
  refine sq fun K169 hK169 => rgn 1 <| sd ww [.p] [] [(4, I6 70)] [] 1 0 hS .nil fun a hS => seg_end <| hK169 _ _ <| wpIn_ret <| then_ret ?_
  refine ret1 hS Tryd.results72 rfl ?_
  exact ⟨by rw [show symE S x = 70 from by simp [symE, h1, show ¬(0 ≤ x.2 ∧ x.2 < S.ns.length) by omega]], hE160⟩
 ·
  refine rgn 3 <| eff_box ww (r := 2) (cs := S.ca) (T := 26) (d := (some 2)) hS (by kernel_rfl) fun a w170 hw171 hS => ?_
  have hs173 : w.heap.size ≤ w.heap.size := hE0.size
  have hE174 : Ext [] w w170 := by rw [hw171]; exact hE0.alloc _
  refine eff_box ww (r := 1) (cs := #[I6 x.1, I6 x.2]) (T := 61) (d := (some 3)) hS (by kernel_rfl) fun a w175 hw176 hS => ?_
  have hB179 : Blk w175 (w170.heap.size) 61 #[I6 x.1, I6 x.2] := by rw [hw176]; exact Blk.new _ _ _
  have hs180 : w.heap.size ≤ w170.heap.size := hE174.size
  have hE181 : Ext [] w w175 := by rw [hw176]; exact hE174.alloc _
  refine sd ww [.p] [] [(4, I6 0)] [] 3 0 hS .nil fun a hS => seg_end <| hK1 _ _ <| sq fun K182 hK182 => rgn 1 <| sd ww [.p] [] [(5, .bool false)] [] 1 0 hS .nil fun a hS => seg_end <| hK182 _ _ <| sq fun K183 hK183 => sq fun K184 hK184 => rgn 2 <| sd ww [.p, .ld (I6 x.1)] [w175.cell? ⟨w170.heap.size, 0, none⟩ = some (I6 x.1)] [(7, I6 x.1)] [] 2 0 hS (.cons (hB179.cell 0 rfl) .nil) fun a hS => seg_end <| hK184 _ _ <| wpIn_block <| sq fun K185 hK185 => rgn 2 <| sd ww [.as (.bool false), .p] [Value.bool (((x.1 : Int) == 1)) = .bool false] [(8, .bool false)] [] 2 0 hS (.cons (as_eq_f (by omega)) .nil) fun a hS => seg_end <| hK185 _ _ ?_
  refine cond_f hS rfl ?_
  refine sq fun K186 hK186 => rgn 2 <| sd ww [.as (.bool false), .p] [Value.bool (((x.1 : Int) == 2)) = .bool false] [(31, .bool false)] [] 2 0 hS (.cons (as_eq_f (by omega)) .nil) fun a hS => seg_end <| hK186 _ _ ?_
  refine cond_f hS rfl ?_
  refine sq fun K187 hK187 => rgn 2 <| sd ww [.as (.bool false), .p] [Value.bool (((x.1 : Int) == 3)) = .bool false] [(36, .bool false)] [] 2 0 hS (.cons (as_eq_f (by omega)) .nil) fun a hS => seg_end <| hK187 _ _ ?_
  refine cond_f hS rfl ?_
  refine wpIn_skip <| inBlock_normal <| hK183 _ _ <| sq fun K188 hK188 => sq fun K189 hK189 => rgn 2 <| sg ww [.p, .p] [] [(0, .agg S.ca), (1, .agg #[I6 x.1, I6 x.2]), (2, (Pv w.heap.size)), (3, (Pv w170.heap.size)), (4, I6 0), (5, .bool false), (7, I6 x.1), (8, .bool false), (31, .bool false), (36, .bool false), (50, .bool true)] 2 0 hS .nil fun a hS => seg_end <| hK189 _ _ ?_
  refine cond_t hS rfl ?_
  refine sq fun K190 hK190 => rgn 1 <| sd ww [.p] [] [(4, I6 70)] [] 1 0 hS .nil fun a hS => seg_end <| hK190 _ _ <| wpIn_ret <| then_ret ?_
  refine ret1 hS Tryd.results72 rfl ?_
  exact ⟨by rw [show symE S x = 70 from by simp [symE, h1, h2, h3]], hE181⟩

theorem indices_any {w0 w : World} {S : Sp} (hG : SpOk w0 S) (hb : Ext [] w0 w) :
  Calls Tryd.prog 77 #[.agg S.ca] w fun e w' => e = .returned (.agg #[I6 (inE S).1, I6 (inE S).2, .string ⟨#[]⟩]) ∧ Ext [] w w' := by
 have hlmax := hG.lmax
 have hnmax := hG.nmax
 have hpmax := hG.pmax
 refine calls_body 59 [(0, .agg S.ca)] Tryd.func77 rfl (by kernel_rfl) (by kernel_rfl) (by kernel_rfl) fun a hS => ?_
 have hE0 : Ext [] w w := Ext.refl _ _
 refine sq fun K1 hK1 => rgn 2 <| eff_box ww (r := 1) (cs := S.ca) (T := 26) (d := (some 1)) hS (by kernel_rfl) fun a w2 hw3 hS => ?_
 have hB4 : Blk w2 (w.heap.size) 26 S.ca := by rw [hw3]; exact Blk.new _ _ _
 have hs5 : w.heap.size ≤ w.heap.size := hE0.size
 have hE6 : Ext [] w w2 := by rw [hw3]; exact hE0.alloc _
 refine eff_box ww (r := 0) (cs := #[I6 0, I6 0, .string ⟨#[]⟩]) (T := 34) (d := (some 2)) hS (by kernel_rfl) fun a w7 hw8 hS => ?_
 have hB10 := Blk.at' hw8 (hB4.alloc _)
 have hB11 : Blk w7 (w2.heap.size) 34 #[I6 0, I6 0, .string ⟨#[]⟩] := by rw [hw8]; exact Blk.new _ _ _
 have hs12 : w.heap.size ≤ w2.heap.size := hE6.size
 have hE13 : Ext [] w w7 := by rw [hw8]; exact hE6.alloc _
 refine seg_end <| hK1 _ _ <| sq fun K14 hK14 => sq fun K15 hK15 => ?_
 rcases (show (S.st < 0) ∨ (0 ≤ S.st ∧ S.ns.length ≤ S.st) ∨ (0 ≤ S.st ∧ S.st < S.ns.length) from by omega) with h1 | ⟨h1, h2⟩ | ⟨h1, h2⟩
 ·
  refine rgn 11 <| sd ww [.p, .ld (I6 S.st), .as (.bool true), .p, .no, .no, .no, .no, .no, .no, .p] [w7.cell? ⟨w.heap.size, 2, none⟩ = some (I6 S.st), Value.bool (decide ((S.st : Int) < 0)) = .bool true] [(18, .bool true)] [] 11 0 hS (.cons (hB10.cell 2 rfl) (.cons (as_t (by omega)) .nil)) fun a hS => seg_end <| hK15 _ _ ?_
  refine cond_t hS rfl ?_
  refine sq fun K16 hK16 => rgn 2 <| sd ww [.p] [] [(19, .agg #[I6 70, I6 (-1), .string ⟨#[]⟩])] [] 1 1 hS .nil fun a hS => eff_store ww (r := 0) (b := w2.heap.size) (off := 0) (vs := [I6 70, I6 (-1), .string ⟨#[]⟩]) hS (by kernel_rfl) hB11 (by simp) fun a w17 hw18 hS => ?_
  have hB20 : Blk w17 w2.heap.size 34 (#[I6 70, I6 (-1), .string ⟨#[]⟩]) := by rw [hw18]; exact hB11.upd _ _
  have hE21 : Ext [] w w17 := by rw [hw18]; exact hE13.updIn (.inr hs12) _ _
  refine seg_end <| hK16 _ _ <| wpIn_ret <| then_ret ?_
  refine retA1 hS Tryd.results77 (by kernel_rfl) (by kernel_rfl) rfl hB20 ?_
  exact ⟨by rw [show inE S = (70, -1) from if_pos (by omega)], hE21⟩
 ·
  refine rgn 11 <| sd ww [.p, .ld (I6 S.st), .as (.bool false), .p, .p, .ld (I6 S.st), .p, .ld (S.nv), .run (I6 ↑S.ns.length), .as (.bool true), .p] [w7.cell? ⟨w.heap.size, 2, none⟩ = some (I6 S.st), Value.bool (decide ((S.st : Int) < 0)) = .bool false, w7.cell? ⟨w.heap.size, 2, none⟩ = some (I6 S.st), w7.cell? ⟨w.heap.size, 1, none⟩ = some (S.nv), Ru Tryd.prog (vS (Builtin.len_ #[23] 3 #[S.nv])) (I6 ↑S.ns.length) w7, Value.bool (decide ((S.st : Int) ≥ ↑S.ns.length)) = .bool true] [(18, .bool true)] [] 11 0 hS (.cons (hB10.cell 2 rfl) (.cons (as_f (by omega)) (.cons (hB10.cell 2 rfl) (.cons (hB10.cell 1 rfl) (.cons (run_len_rd (e := 9) hG.names (by kernel_rfl)) (.cons (as_t (by omega)) .nil)))))) fun a hS => seg_end <| hK15 _ _ ?_
  refine cond_t hS rfl ?_
  refine sq fun K22 hK22 => rgn 2 <| sd ww [.p] [] [(19, .agg #[I6 70, I6 (-1), .string ⟨#[]⟩])] [] 1 1 hS .nil fun a hS => eff_store ww (r := 0) (b := w2.heap.size) (off := 0) (vs := [I6 70, I6 (-1), .string ⟨#[]⟩]) hS (by kernel_rfl) hB11 (by simp) fun a w23 hw24 hS => ?_
  have hB26 : Blk w23 w2.heap.size 34 (#[I6 70, I6 (-1), .string ⟨#[]⟩]) := by rw [hw24]; exact hB11.upd _ _
  have hE27 : Ext [] w w23 := by rw [hw24]; exact hE13.updIn (.inr hs12) _ _
  refine seg_end <| hK22 _ _ <| wpIn_ret <| then_ret ?_
  refine retA1 hS Tryd.results77 (by kernel_rfl) (by kernel_rfl) rfl hB26 ?_
  exact ⟨by rw [show inE S = (70, -1) from if_pos (by omega)], hE27⟩
 ·
  refine rgn 11 <| sd ww [.p, .ld (I6 S.st), .as (.bool false), .p, .p, .ld (I6 S.st), .p, .ld (S.nv), .run (I6 ↑S.ns.length), .as (.bool false), .p] [w7.cell? ⟨w.heap.size, 2, none⟩ = some (I6 S.st), Value.bool (decide ((S.st : Int) < 0)) = .bool false, w7.cell? ⟨w.heap.size, 2, none⟩ = some (I6 S.st), w7.cell? ⟨w.heap.size, 1, none⟩ = some (S.nv), Ru Tryd.prog (vS (Builtin.len_ #[23] 3 #[S.nv])) (I6 ↑S.ns.length) w7, Value.bool (decide ((S.st : Int) ≥ ↑S.ns.length)) = .bool false] [(18, .bool false)] [] 11 0 hS (.cons (hB10.cell 2 rfl) (.cons (as_f (by omega)) (.cons (hB10.cell 2 rfl) (.cons (hB10.cell 1 rfl) (.cons (run_len_rd (e := 9) hG.names (by kernel_rfl)) (.cons (as_f (by omega)) .nil)))))) fun a hS => seg_end <| hK15 _ _ ?_
  refine cond_f hS rfl ?_
  refine wpIn_skip <| hK14 _ _ <| sq fun K28 hK28 => sq fun K29 hK29 => rgn 4 <| sd ww [.p, .ld (S.pv), .run (I6 ↑S.ps.length), .p] [w7.cell? ⟨w.heap.size, 3, none⟩ = some (S.pv), Ru Tryd.prog (vS (Builtin.len_ #[24] 3 #[S.pv])) (I6 ↑S.ps.length) w7] [(21, S.pv), (22, I6 ↑S.ps.length), (23, I6 0)] [] 4 0 hS (.cons (hB10.cell 3 rfl) (.cons (run_len_rd (e := 73) hG.prods (by kernel_rfl)) .nil)) fun a hS => seg_end <| hK29 _ _ <| wpIn_block ?_
  have hbl30 : Ext [] w0 w7 := (hb.trans0 hE13)
  refine loop_ghost (fun (i : Nat) a' w' => St 59 [] [(1, (Pv w.heap.size)), (2, (Pv w2.heap.size)), (21, S.pv), (22, I6 ↑S.ps.length), (23, I6 ↑i)] a' ∧ Ext [] w7 w' ∧ i ≤ S.ps.length ∧ prodsE S S.ps 0 = prodsE S (S.ps.drop i) i) (fun (i : Nat) => S.ps.length - i) 0 ⟨hS.keepTo [1, 2, 21, 22, 23] (by kernel_rfl), Ext.refl _ _, by omega, rfl⟩ ?_
  rintro i a wl30 ⟨hS, hXl30, hi, hn⟩
  have hB31 := hB10.ext hXl30 (by simp)
  have hB32 := hB11.ext hXl30 (by simp)
  have hin : inE S = prodsE S (S.ps.drop i) i := by rw [← hn]; exact if_neg (by omega)
  refine sq fun K33 hK33 => rgn 1 <| sd ww [.p] [] [(24, .bool (decide ((↑i : Int) < ↑S.ps.length)))] [] 1 0 hS .nil fun a hS => seg_end <| hK33 _ _ <| sq fun K34 hK34 => ?_
  refine cond_b hS rfl (fun hb35 => ?_) (fun hb35 => ?_)
  ·
   replace hb35 := of_decide_eq_true hb35
   obtain ⟨p, hpi⟩ : ∃ p, S.ps[i]? = some p := ⟨_, List.getElem?_eq_getElem (by omega)⟩
   have hpm := List.mem_of_getElem? hpi
   have hrm := hG.rmax p hpm
   rw [drop_of hpi, prodsE] at hin
   refine wpIn_skip <| hK34 _ _ <| sq fun K36 hK36 => wpIn_block <| sq fun K37 hK37 => rgn 6 <| sd ww [.p, .run ((Po (bof S.pv) (oof S.pv + i * 2))), .lds [I6 p.l, p.rv]] [Ru Tryd.prog (vS (Instr.indexAt 24 (S.pv) (I6 ↑i))) ((Po (bof S.pv) (oof S.pv + i * 2))) wl30, wl30.cell? ⟨bof S.pv, oof S.pv + i * 2, none⟩ = some (I6 p.l), wl30.cell? ⟨bof S.pv, oof S.pv + i * 2 + 1, none⟩ = some (p.rv)] [(25, I6 ↑i), (27, .agg #[I6 p.l, p.rv])] [] 3 3 hS (.cons (ix_rd (e := 73) (j := i) hG.prods (by kernel_rfl) (by kernel_rfl) rfl (by omega)) (.cons ((hG.prods.ext0 (hbl30.trans0 hXl30)).cellAt (i * 2 + 0) (by omega) (pcells_at S.ps i 0 p hpi (by omega))) (.cons ((hG.prods.ext0 (hbl30.trans0 hXl30)).cellAt (i * 2 + 1) (by omega) (pcells_at S.ps i 1 p hpi (by omega))) .nil))) fun a hS => eff_box ww (r := 2) (cs := #[I6 0, .slice none 0 0]) (T := 73) (d := (some 4)) hS (by kernel_rfl) fun a w38 hw39 hS => ?_
   have hn40 : w.heap.size ≠ wl30.heap.size := Nat.ne_of_lt hB31.lt
   have hn41 : w2.heap.size ≠ wl30.heap.size := Nat.ne_of_lt hB32.lt
   have hB42 := Blk.at' hw39 (hB31.alloc _)
   have hB43 := Blk.at' hw39 (hB32.alloc _)
   have hB44 : Blk w38 (wl30.heap.size) 73 #[I6 0, .slice none 0 0] := by rw [hw39]; exact Blk.new _ _ _
   have hs45 : w7.heap.size ≤ wl30.heap.size := hXl30.size
   have hE46 : Ext [] w7 w38 := by rw [hw39]; exact hXl30.alloc _
   refine sd ww [.p] [] [(3, I6 ↑i)] [] 5 1 hS .nil fun a hS => eff_store ww (r := 0) (b := wl30.heap.size) (off := 0) (vs := [I6 p.l, p.rv]) hS (by kernel_rfl) hB44 (by simp) fun a w47 hw48 hS => ?_
   have hB49 := Blk.at' hw48 (hB42.updNe (Ne.symm hn40) _ _)
   have hB50 := Blk.at' hw48 (hB43.updNe (Ne.symm hn41) _ _)
   have hB51 : Blk w47 wl30.heap.size 73 (#[I6 p.l, p.rv]) := by rw [hw48]; exact hB44.upd _ _
   have hE52 : Ext [] w7 w47 := by rw [hw48]; exact hE46.updIn (.inr hs45) _ _
   refine seg_end <| hK37 _ _ <| sq fun K53 hK53 => sq fun K54 hK54 => ?_
   rcases (show (p.l < 0) ∨ (0 ≤ p.l ∧ S.ns.length ≤ p.l) ∨ (0 ≤ p.l ∧ p.l < S.ns.length) from by omega) with h3 | ⟨h3, h4⟩ | ⟨h3, h4⟩
   ·
    have hEl30 : Ext [] w w47 := hE13.trans0 hE52
    have hpe : prodE S p = 70 := if_pos (by omega)
    refine rgn 11 <| sd ww [.p, .ld (I6 p.l), .as (.bool true), .p, .no, .no, .no, .no, .no, .no, .p] [w47.cell? ⟨wl30.heap.size, 0, none⟩ = some (I6 p.l), Value.bool (decide ((p.l : Int) < 0)) = .bool true] [(38, .bool true)] [] 11 0 hS (.cons (hB51.cell 0 rfl) (.cons (as_t (by omega)) .nil)) fun a hS => seg_end <| hK54 _ _ ?_
    refine cond_t hS rfl ?_
    refine sq fun K55 hK55 => rgn 3 <| sd ww [.p, .p] [] [(40, .agg #[I6 70, I6 ↑i, .string ⟨#[]⟩])] [] 2 1 hS .nil fun a hS => eff_store ww (r := 0) (b := w2.heap.size) (off := 0) (vs := [I6 70, I6 ↑i, .string ⟨#[]⟩]) hS (by kernel_rfl) hB50 (by simp) fun a w56 hw57 hS => ?_
    have hB59 : Blk w56 w2.heap.size 34 (#[I6 70, I6 ↑i, .string ⟨#[]⟩]) := by rw [hw57]; exact hB50.upd _ _
    have hE61 : Ext [] w w56 := by rw [hw57]; exact hEl30.updIn (.inr hs12) _ _
    refine seg_end <| hK55 _ _ <| wpIn_ret <| then_ret <| inBlock_ret <| then_ret <| then_ret <| inBlock_ret <| then_ret ?_
    refine retA1 hS Tryd.results77 (by kernel_rfl) (by kernel_rfl) rfl hB59 ?_
    exact ⟨by rw [show inE S = (70, (i : Int)) from by rw [hin, if_pos (by omega), hpe]], hE61⟩
   ·
    have hEl30 : Ext [] w w47 := hE13.trans0 hE52
    have hpe : prodE S p = 70 := if_pos (by omega)
    refine rgn 11 <| sd ww [.p, .ld (I6 p.l), .as (.bool false), .p, .p, .ld (I6 p.l), .p, .ld (S.nv), .run (I6 ↑S.ns.length), .as (.bool true), .p] [w47.cell? ⟨wl30.heap.size, 0, none⟩ = some (I6 p.l), Value.bool (decide ((p.l : Int) < 0)) = .bool false, w47.cell? ⟨wl30.heap.size, 0, none⟩ = some (I6 p.l), w47.cell? ⟨w.heap.size, 1, none⟩ = some (S.nv), Ru Tryd.prog (vS (Builtin.len_ #[23] 3 #[S.nv])) (I6 ↑S.ns.length) w47, Value.bool (decide ((p.l : Int) ≥ ↑S.ns.length)) = .bool true] [(38, .bool true)] [] 11 0 hS (.cons (hB51.cell 0 rfl) (.cons (as_f (by omega)) (.cons (hB51.cell 0 rfl) (.cons (hB49.cell 1 rfl) (.cons (run_len_rd (e := 9) hG.names (by kernel_rfl)) (.cons (as_t (by omega)) .nil)))))) fun a hS => seg_end <| hK54 _ _ ?_
    refine cond_t hS rfl ?_
    refine sq fun K62 hK62 => rgn 3 <| sd ww [.p, .p] [] [(40, .agg #[I6 70, I6 ↑i, .string ⟨#[]⟩])] [] 2 1 hS .nil fun a hS => eff_store ww (r := 0) (b := w2.heap.size) (off := 0) (vs := [I6 70, I6 ↑i, .string ⟨#[]⟩]) hS (by kernel_rfl) hB50 (by simp) fun a w63 hw64 hS => ?_
    have hB66 : Blk w63 w2.heap.size 34 (#[I6 70, I6 ↑i, .string ⟨#[]⟩]) := by rw [hw64]; exact hB50.upd _ _
    have hE68 : Ext [] w w63 := by rw [hw64]; exact hEl30.updIn (.inr hs12) _ _
    refine seg_end <| hK62 _ _ <| wpIn_ret <| then_ret <| inBlock_ret <| then_ret <| then_ret <| inBlock_ret <| then_ret ?_
    refine retA1 hS Tryd.results77 (by kernel_rfl) (by kernel_rfl) rfl hB66 ?_
    exact ⟨by rw [show inE S = (70, (i : Int)) from by rw [hin, if_pos (by omega), hpe]], hE68⟩
   ·
    have hpe : prodE S p = rightE S p.r := if_neg (by omega)
    refine rgn 11 <| sd ww [.p, .ld (I6 p.l), .as (.bool false), .p, .p, .ld (I6 p.l), .p, .ld (S.nv), .run (I6 ↑S.ns.length), .as (.bool false), .p] [w47.cell? ⟨wl30.heap.size, 0, none⟩ = some (I6 p.l), Value.bool (decide ((p.l : Int) < 0)) = .bool false, w47.cell? ⟨wl30.heap.size, 0, none⟩ = some (I6 p.l), w47.cell? ⟨w.heap.size, 1, none⟩ = some (S.nv), Ru Tryd.prog (vS (Builtin.len_ #[23] 3 #[S.nv])) (I6 ↑S.ns.length) w47, Value.bool (decide ((p.l : Int) ≥ ↑S.ns.length)) = .bool false] [(38, .bool false)] [] 11 0 hS (.cons (hB51.cell 0 rfl) (.cons (as_f (by omega)) (.cons (hB51.cell 0 rfl) (.cons (hB49.cell 1 rfl) (.cons (run_len_rd (e := 9) hG.names (by kernel_rfl)) (.cons (as_f (by omega)) .nil)))))) fun a hS => seg_end <| hK54 _ _ ?_
    refine cond_f hS rfl ?_
    refine wpIn_skip <| hK53 _ _ <| sq fun K69 hK69 => rgn 4 <| sd ww [.p, .ld (p.rv), .run (I6 ↑p.r.length), .p] [w47.cell? ⟨wl30.heap.size, 1, none⟩ = some (p.rv), Ru Tryd.prog (vS (Builtin.len_ #[71] 3 #[p.rv])) (I6 ↑p.r.length) w47] [(42, p.rv), (43, I6 ↑p.r.length), (44, I6 0)] [] 4 0 hS (.cons (hB51.cell 1 rfl) (.cons (run_len_rd (e := 61) (hG.right p hpm) (by kernel_rfl)) .nil)) fun a hS => seg_end <| hK69 _ _ <| wpIn_block ?_
    have hbl70 : Ext [] w0 w47 := (hbl30.trans0 hE52)
    refine loop_ghost (fun (k : Nat) a' w' => St 59 [] [(1, (Pv w.heap.size)), (2, (Pv w2.heap.size)), (21, S.pv), (22, I6 ↑S.ps.length), (23, I6 ↑i), (3, I6 ↑i), (4, (Pv wl30.heap.size)), (42, p.rv), (43, I6 ↑p.r.length), (44, I6 ↑k)] a' ∧ Ext [] w47 w' ∧ k ≤ p.r.length ∧ rightE S p.r = rightE S (p.r.drop k)) (fun (k : Nat) => p.r.length - k) 0 ⟨hS.keepTo [1, 2, 21, 22, 23, 3, 4, 42, 43, 44] (by kernel_rfl), Ext.refl _ _, by omega, rfl⟩ ?_
    rintro k a wl70 ⟨hS, hXl70, hk, hm⟩
    have hB71 := hB49.ext hXl70 (by simp)
    have hB72 := hB50.ext hXl70 (by simp)
    refine sq fun K74 hK74 => rgn 1 <| sd ww [.p] [] [(45, .bool (decide ((↑k : Int) < ↑p.r.length)))] [] 1 0 hS .nil fun a hS => seg_end <| hK74 _ _ <| sq fun K75 hK75 => ?_
    refine cond_b hS rfl (fun hb76 => ?_) (fun hb76 => ?_)
    ·
     replace hb76 := of_decide_eq_true hb76
     obtain ⟨x, hxk⟩ : ∃ x, p.r[k]? = some x := ⟨_, List.getElem?_eq_getElem (by omega)⟩
     have hxm := List.mem_of_getElem? hxk
     rw [drop_of hxk, rightE] at hm
     refine wpIn_skip <| hK75 _ _ <| sq fun K77 hK77 => wpIn_block <| sq fun K78 hK78 => rgn 4 <| sd ww [.run ((Po (bof p.rv) (oof p.rv + k * 2))), .lds [I6 x.1, I6 x.2]] [Ru Tryd.prog (vS (Instr.indexAt 71 (p.rv) (I6 ↑k))) ((Po (bof p.rv) (oof p.rv + k * 2))) wl70, wl70.cell? ⟨bof p.rv, oof p.rv + k * 2, none⟩ = some (I6 x.1), wl70.cell? ⟨bof p.rv, oof p.rv + k * 2 + 1, none⟩ = some (I6 x.2)] [(47, .agg #[I6 x.1, I6 x.2])] [] 2 2 hS (.cons (ix_rd (e := 61) (j := k) (hG.right p hpm) (by kernel_rfl) (by kernel_rfl) rfl (by omega)) (.cons (((hG.right p hpm).ext0 (hbl70.trans0 hXl70)).cellAt (k * 2 + 0) (by omega) (ycells_at p.r k 0 x hxk (by omega))) (.cons (((hG.right p hpm).ext0 (hbl70.trans0 hXl70)).cellAt (k * 2 + 1) (by omega) (ycells_at p.r k 1 x hxk (by omega))) .nil))) fun a hS => eff_box ww (r := 1) (cs := #[I6 0, I6 0]) (T := 61) (d := (some 6)) hS (by kernel_rfl) fun a w79 hw80 hS => ?_
     have hn81 : w.heap.size ≠ wl70.heap.size := Nat.ne_of_lt hB71.lt
     have hn82 : w2.heap.size ≠ wl70.heap.size := Nat.ne_of_lt hB72.lt
     have hB84 := Blk.at' hw80 (hB71.alloc _)
     have hB85 := Blk.at' hw80 (hB72.alloc _)
     have hB87 : Blk w79 (wl70.heap.size) 61 #[I6 0, I6 0] := by rw [hw80]; exact Blk.new _ _ _
     have hs88 : w47.heap.size ≤ wl70.heap.size := hXl70.size
     have hE89 : Ext [] w47 w79 := by rw [hw80]; exact hXl70.alloc _
     refine eff_store ww (r := 0) (b := wl70.heap.size) (off := 0) (vs := [I6 x.1, I6 x.2]) hS (by kernel_rfl) hB87 (by simp) fun a w90 hw91 hS => ?_
     have hB92 := Blk.at' hw91 (hB84.updNe (Ne.symm hn81) _ _)
     have hB93 := Blk.at' hw91 (hB85.updNe (Ne.symm hn82) _ _)
     have hB95 : Blk w90 wl70.heap.size 61 (#[I6 x.1, I6 x.2]) := by rw [hw91]; exact hB87.upd _ _
     have hE96 : Ext [] w47 w90 := by rw [hw91]; exact hE89.updIn (.inr hs88) _ _
     refine seg_end <| hK78 _ _ <| sq fun K97 hK97 => rgn 4 <| sd ww [.lds [S.lv, S.nv, I6 S.st, S.pv], .lds [I6 x.1, I6 x.2]] [w90.cell? ⟨w.heap.size, 0, none⟩ = some (S.lv), w90.cell? ⟨w.heap.size, 1, none⟩ = some (S.nv), w90.cell? ⟨w.heap.size, 2, none⟩ = some (I6 S.st), w90.cell? ⟨w.heap.size, 3, none⟩ = some (S.pv), w90.cell? ⟨wl70.heap.size, 0, none⟩ = some (I6 x.1), w90.cell? ⟨wl70.heap.size, 1, none⟩ = some (I6 x.2)] [(48, .agg S.ca), (49, .agg #[I6 x.1, I6 x.2])] [] 2 2 hS (.cons (hB92.cell 0 rfl) (.cons (hB92.cell 1 rfl) (.cons (hB92.cell 2 rfl) (.cons (hB92.cell 3 rfl) (.cons (hB95.cell 0 rfl) (.cons (hB95.cell 1 rfl) .nil)))))) fun a hS => eff_call ww (r := 1) (f := 72) (vs := [.agg S.ca, .agg #[I6 x.1, I6 x.2]]) (cap := #[]) (d := (some 50)) hS (by kernel_rfl) Tryd.call72 #[.agg S.ca, .agg #[I6 x.1, I6 x.2]] (by kernel_rfl) (symbol_any hG (hbl70.trans0 hE96) x) ?_
     rintro _ wc98 ⟨rfl, hEc98⟩
     refine ⟨_, rfl, fun a hS => ?_⟩
     have hB100 := hB93.ext hEc98 (by simp)
     have hE103 := hE96.trans0 hEc98
     refine sd ww [.p] [] [(7, I6 (symE S x))] [] 4 0 hS .nil fun a hS => seg_end <| hK97 _ _ <| sq fun K104 hK104 => rgn 2 <| sd ww [.p, .p] [] [(52, .bool ((symE S x : Int) != 0))] [] 2 0 hS .nil fun a hS => seg_end <| hK104 _ _ ?_
     refine cond_b hS rfl (fun hb105 => ?_) (fun hb105 => ?_)
     ·
      replace hb105 := test_ne_t hb105
      have hEl70 : Ext [] w7 wc98 := hE52.trans0 hE103
      have hEl30 : Ext [] w wc98 := hE13.trans0 hEl70
      refine sq fun K106 hK106 => rgn 4 <| sd ww [.p, .p, .p] [] [(55, .agg #[I6 (symE S x), I6 ↑i, .string ⟨#[]⟩])] [] 3 1 hS .nil fun a hS => eff_store ww (r := 0) (b := w2.heap.size) (off := 0) (vs := [I6 (symE S x), I6 ↑i, .string ⟨#[]⟩]) hS (by kernel_rfl) hB100 (by simp) fun a w107 hw108 hS => ?_
      have hB110 : Blk w107 w2.heap.size 34 (#[I6 (symE S x), I6 ↑i, .string ⟨#[]⟩]) := by rw [hw108]; exact hB100.upd _ _
      have hE113 : Ext [] w w107 := by rw [hw108]; exact hEl30.updIn (.inr hs12) _ _
      refine seg_end <| hK106 _ _ <| wpIn_ret <| inBlock_ret <| then_ret <| then_ret <| inBlock_ret <| inBlock_ret <| then_ret <| then_ret <| inBlock_ret <| then_ret ?_
      refine retA1 hS Tryd.results77 (by kernel_rfl) (by kernel_rfl) rfl hB110 ?_
      exact ⟨by rw [show inE S = (symE S x, (i : Int)) from by rw [hin, hpe, hm, if_pos (by rw [if_pos hb105]; exact hb105), if_pos hb105]], hE113⟩
     ·
      replace hb105 := test_ne_f hb105
      rw [if_neg (by omega)] at hm
      refine wpIn_skip <| inBlock_normal <| hK77 _ _ <| rgn 2 <| sd ww [.as (I6 (↑k + 1)), .p] [Value.int .i64 (IntKind.i64.wrap (↑k + 1)) = I6 (↑k + 1)] [(44, I6 (↑k + 1))] [] 2 0 hS (.cons (as_i64 (by omega)) .nil) fun a hS => seg_end ?_
      exact ⟨k + 1, ⟨hS.kp [(1, (Pv w.heap.size)), (2, (Pv w2.heap.size)), (21, S.pv), (22, I6 ↑S.ps.length), (23, I6 ↑i), (3, I6 ↑i), (4, (Pv wl30.heap.size)), (42, p.rv), (43, I6 ↑p.r.length), (44, I6 (↑k + 1))], hE103, by omega, hm⟩, by omega⟩
    ·
     replace hb76 := of_decide_eq_false hb76
     rw [List.drop_eq_nil_of_le (by omega)] at hm
     have hEl70 : Ext [] w7 wl70 := hE52.trans0 hXl70
     rw [if_neg (by rw [hpe, hm]; simp [rightE])] at hin
     have hinb : prodsE S S.ps 0 = inE S := (if_neg (by omega)).symm
     refine wpIn_exit <| then_exit <| then_exit <| inBlock_hit <| inBlock_normal <| hK36 _ _ <| rgn 2 <| sd ww [.as (I6 (↑i + 1)), .p] [Value.int .i64 (IntKind.i64.wrap (↑i + 1)) = I6 (↑i + 1)] [(23, I6 (↑i + 1))] [] 2 0 hS (.cons (as_i64 (by omega)) .nil) fun a hS => seg_end ?_
     exact ⟨i + 1, ⟨hS.kp [(1, (Pv w.heap.size)), (2, (Pv w2.heap.size)), (21, S.pv), (22, I6 ↑S.ps.length), (23, I6 (↑i + 1))], hEl70, by omega, by rw [← hin]; exact hinb⟩, by omega⟩
  ·
   replace hb35 := of_decide_eq_false hb35
   rw [List.drop_eq_nil_of_le (by omega)] at hin
   have hEl30 : Ext [] w wl30 := hE13.trans0 hXl30
   refine wpIn_exit <| then_exit <| then_exit <| inBlock_hit <| hK28 _ _ <| sq fun K114 hK114 => rgn 2 <| sd ww [.p] [] [(58, .agg #[I6 0, I6 0, .string ⟨#[]⟩])] [] 1 1 hS .nil fun a hS => eff_store ww (r := 0) (b := w2.heap.size) (off := 0) (vs := [I6 0, I6 0, .string ⟨#[]⟩]) hS (by kernel_rfl) hB32 (by simp) fun a w115 hw116 hS => ?_
   have hB118 : Blk w115 w2.heap.size 34 (#[I6 0, I6 0, .string ⟨#[]⟩]) := by rw [hw116]; exact hB32.upd _ _
   have hE119 : Ext [] w w115 := by rw [hw116]; exact hEl30.updIn (.inr hs12) _ _
   refine seg_end <| hK114 _ _ <| wpIn_ret ?_
   refine retA1 hS Tryd.results77 (by kernel_rfl) (by kernel_rfl) rfl hB118 ?_
   exact ⟨by rw [show inE S = (0, 0) from hin], hE119⟩

end Go.Proofs.YtkkpghlcmcaoiaaDoor
