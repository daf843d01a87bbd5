import Derived.Test.YtkkpghlcmcaoiaaDoorSt
namespace Go.Proofs.YtkkpghlcmcaoiaaDoor
open Go.Vc Go.Gm
def LongR (S : Sp) : Prop := ∃ p ∈ S.ps, 16 < p.r.length
instance (S : Sp) : Decidable (LongR S) := inferInstanceAs (Decidable (∃ p ∈ S.ps, 16 < p.r.length))
def Lng (S : Sp) : Prop := 64 < S.lx.length ∨ 128 < S.ns.length ∨ 512 < S.ps.length ∨ LongR S
instance (S : Sp) : Decidable (Lng S) := inferInstanceAs (Decidable (_ ∨ _ ∨ _ ∨ _))
theorem long1_any {w0 w : World} {S : Sp} (hG : SpOk w0 S) (hb : Ext [] w0 w) {p : Pd} (hpm : p ∈ S.ps) :
  Calls Tryd.prog 101 #[.agg #[I6 p.l, p.rv]] w fun e w' => e = .returned (.bool (decide ((p.r.length : Int) > 16))) ∧ Ext [] w w' := by
 refine cbd 7 [(0, .agg #[I6 p.l, p.rv])] Tryd.func101 rfl fun a hS => ?_
 have hE0 : Ext [] w w := Ext.refl _ _
 refine sq fun K1 hK1 => rgn 2 <| ebx 1 #[I6 p.l, p.rv] 73 (some 1) hS fun a w2 hw3 hS => ?_
 have hB4 := Blk.nw hw3
 have hs5 := hE0.size
 have hE6 := hE0.al hw3
 refine sd ww [.p] [] [(2, .bool false)] [] 2 0 hS .nil fun a hS => sge hK1 <| sdq 5 [.p, .ld (p.rv), .run (I6 p.r.length), .p, .p] [_, Rv (Builtin.len_ #[71] 3 #[p.rv]) (I6 p.r.length) w2] [(2, .bool (decide ((↑p.r.length : Int) > 16)))] [] hS (hB4.k 1 (.c (rlr 61 (hG.right p hpm)) .nil)) fun a hS => wpIn_ret ?_
 refine ret1 hS Tryd.results101 rfl ?_
 exact ⟨rfl, hE6⟩
theorem indexP_any {w0 w : World} {S : Sp} (hG : SpOk w0 S) (hb : Ext [] w0 w) :
  Calls Tryd.prog 110 #[S.pv, .func (.func 101) #[] #[]] w fun e w' => ∃ z : Int, e = .returned (I6 z) ∧ (0 ≤ z ↔ LongR S) ∧ Ext [] w w' := by
 have hlmax := hG.lmax
 have hnmax := hG.nmax
 have hpmax := hG.pmax
 refine cbd 19 [(0, S.pv), (1, .func (.func 101) #[] #[])] Tryd.func110 rfl fun a hS => ?_
 have hE0 : Ext [] w w := Ext.refl _ _
 refine sdq 1 [.p] [] [(4, I6 0)] [] hS .nil fun a hS => sq fun K2 hK2 => sdq 3 [.p, .run (I6 S.ps.length), .p] [Rv (Builtin.len_ #[24] 3 #[S.pv]) (I6 S.ps.length) w] [(7, I6 S.ps.length), (8, I6 0)] [] hS (.c (rlr 73 hG.prods) .nil) fun a hS => wpIn_block ?_
 have hbl4 := (hb.trans0 hE0)
 refine loop_ghost (fun (i : Nat) a' w' => St 19 [] [(0, S.pv), (1, .func (.func 101) #[] #[]), (4, I6 0), (7, I6 S.ps.length), (8, I6 i)] a' ∧ Ext [] w w' ∧ i ≤ S.ps.length ∧ (∀ j q, j < i → S.ps[j]? = some q → q.r.length ≤ 16)) (fun (i : Nat) => S.ps.length - i) 0 ⟨hS.keepTo [0, 1, 4, 7, 8] (by kernel_rfl), Ext.refl _ _, by omega, fun j q h => by omega⟩ ?_
 rintro i a wl4 ⟨hS, hXl4, hi, hn⟩
 refine sdq 1 [.p] [] [(9, .bool (decide ((↑i : Int) < ↑S.ps.length)))] [] hS .nil fun a hS => sq fun K6 hK6 => ?_
 refine cond_b hS rfl (fun hb7 => ?_) (fun hb7 => ?_)
 ·
  replace hb7 := of_decide_eq_true hb7
  obtain ⟨p, hpi⟩ : ∃ p, S.ps[i]? = some p := gE
  have hpm := List.mem_of_getElem? hpi
  have hrm := hG.rmax p hpm
  refine wpIn_skip <| hK6 _ _ <| sq fun K8 hK8 => wpIn_block <| sdq 2 [.p, .p] [] [(5, I6 i)] [] hS .nil fun a hS => sq fun K10 hK10 => rgn 6 <| sd ww [.p, .p, .p, .run ((Po (bof S.pv) (oof S.pv + i * 2))), .lds [I6 p.l, p.rv]] [Rv (Instr.indexAt 24 (S.pv) (I6 i)) ((Po (bof S.pv) (oof S.pv + i * 2))) wl4, wl4.cell? ⟨bof S.pv, oof S.pv + i * 2, none⟩ = some (I6 p.l), wl4.cell? ⟨bof S.pv, oof S.pv + i * 2 + 1, none⟩ = some (p.rv)] [(11, .func (.func 101) #[] #[]), (15, .agg #[I6 p.l, p.rv])] [] 5 1 hS (.c (ixr 73 i hG.prods) (.c ((hG.prods.ext0 (hbl4.trans0 hXl4)).cellAt (i * 2 + 0) (by omega) (pcells_at S.ps i 0 p hpi (by omega))) (.c ((hG.prods.ext0 (hbl4.trans0 hXl4)).cellAt (i * 2 + 1) (by omega) (pcells_at S.ps i 1 p hpi (by omega))) .nil))) fun a hS => ecl 0 (some 16) hS Tryd.call101 #[.agg #[I6 p.l, p.rv]] (long1_any hG (hbl4.trans0 hXl4) hpm) ?_
  rintro _ wc11 ⟨rfl, hEc11⟩
  refine ⟨_, rfl, fun a hS => ?_⟩
  have hE12 := hXl4.trans0 hEc11
  refine sge hK10 ?_
  refine cond_b hS rfl (fun hb13 => ?_) (fun hb13 => ?_)
  ·
   replace hb13 := of_decide_eq_true hb13
   refine sdq 2 [.p, .p] [] [(4, I6 i)] [] hS .nil fun a hS => wpIn_ret <| inBlock_ret <| then_ret <| then_ret <| inBlock_ret <| then_ret ?_
   refine ret1 hS Tryd.results110 rfl ?_
   exact ⟨_, rfl, ⟨fun _ => ⟨p, hpm, by omega⟩, fun _ => by omega⟩, (hE0.trans0 hE12)⟩
  ·
   replace hb13 := of_decide_eq_false hb13
   refine wpIn_skip <| inBlock_normal <| hK8 _ _ <| rgn 2 <| sd ww [.as (I6 (↑i + 1)), .p] [_] [(8, I6 (↑i + 1))] [] 2 0 hS (as6 (↑i + 1)) fun a hS => seg_end ?_
   exact ⟨i + 1, ⟨hS.kp [(0, S.pv), (1, .func (.func 101) #[] #[]), (4, I6 0), (7, I6 S.ps.length), (8, I6 (↑i + 1))], hE12, by omega, fun j q hj hq => by
    rcases Nat.lt_succ_iff_lt_or_eq.1 hj with h | h
    ·exact hn j q h hq
    ·rw [h, hpi] at hq; cases hq; omega⟩, by omega⟩
 ·
  replace hb7 := of_decide_eq_false hb7
  have hEl4 : Ext [] w wl4 := hE0.trans0 hXl4
  have hno : ¬LongR S := fun ⟨p, hp, h⟩ => by
   obtain ⟨j, hj⟩ := List.getElem?_of_mem hp
   have hjl : j < S.ps.length := (List.getElem?_eq_some_iff.1 hj).1
   have := hn j p (by omega) hj
   omega
  refine xt2 <| hK2 _ _ <| sdq 1 [.p] [] [(4, I6 (-1))] [] hS .nil fun a hS => wpIn_ret ?_
  refine ret1 hS Tryd.results110 rfl ?_
  exact ⟨_, rfl, ⟨fun h => by omega, fun h => absurd h hno⟩, hEl4⟩
theorem containsP_any {w0 w : World} {S : Sp} (hG : SpOk w0 S) (hb : Ext [] w0 w) :
  Calls Tryd.prog 100 #[S.pv, .func (.func 101) #[] #[]] w fun e w' => e = .returned (.bool (decide (LongR S))) ∧ Ext [] w w' := by
 refine cbd 9 [(0, S.pv), (1, .func (.func 101) #[] #[])] Tryd.func100 rfl fun a hS => ?_
 have hE0 : Ext [] w w := Ext.refl _ _
 refine sdq 1 [.p] [] [(4, .bool false)] [] hS .nil fun a hS => sq fun K2 hK2 => rgn 5 <| sd ww [.p, .p] [] [(5, S.pv), (6, .func (.func 101) #[] #[])] [] 2 3 hS .nil fun a hS => ecl 2 (some 7) hS Tryd.call110 #[S.pv, .func (.func 101) #[] #[]] (indexP_any hG (hb.trans0 hE0)) ?_
 rintro _ wc3 ⟨z3, rfl, hz3, hEc3⟩
 refine ⟨_, rfl, fun a hS => ?_⟩
 have hE4 := hE0.trans0 hEc3
 refine sd ww [.p, .p] [] [(4, .bool (decide ((z3 : Int) ≥ 0)))] [] 5 0 hS .nil fun a hS => sge hK2 <| wpIn_ret ?_
 refine ret1 hS Tryd.results100 rfl ?_
 exact ⟨by congr 2; exact decide_eq_decide.2 hz3, hE4⟩
theorem long_any {w0 w : World} {S : Sp} (hG : SpOk w0 S) (hb : Ext [] w0 w) :
  Calls Tryd.prog 76 #[.agg S.ca] w fun e w' => e = .returned (.bool (decide (Lng S))) ∧ Ext [] w w' := by
 have hlmax := hG.lmax
 have hnmax := hG.nmax
 have hpmax := hG.pmax
 refine cbd 24 [(0, .agg S.ca)] Tryd.func76 rfl fun a hS => ?_
 have hE0 : Ext [] w w := Ext.refl _ _
 refine sq fun K1 hK1 => rgn 2 <| ebx 1 S.ca 26 (some 1) hS fun a w2 hw3 hS => ?_
 have hB4 := Blk.nw hw3
 have hs5 := hE0.size
 have hE6 := hE0.al hw3
 refine sd ww [.p] [] [(2, .bool false)] [] 2 0 hS .nil fun a hS => sge hK1 <| sq fun K7 hK7 => ?_
 rcases (show 64 < S.lx.length ∨ (¬64 < S.lx.length ∧ 128 < S.ns.length) ∨ (¬64 < S.lx.length ∧ ¬128 < S.ns.length ∧ 512 < S.ps.length) ∨ (¬64 < S.lx.length ∧ ¬128 < S.ns.length ∧ ¬512 < S.ps.length) by omega) with h1 | ⟨h1, h2⟩ | ⟨h1, h2, h3⟩ | ⟨h1, h2, h3⟩
 ·
  refine rgn 22 <| sd ww [.p, .ld (S.lv), .run (I6 S.lx.length), .as (.bool true), .p, .no, .no, .no, .no, .p, .p, .no, .no, .no, .no, .p, .p, .no, .no, .no, .p, .p] [_, Rv (Builtin.len_ #[22] 3 #[S.lv]) (I6 S.lx.length) w2, Value.bool (decide ((↑S.lx.length : Int) > 64)) = .bool true] [(2, .bool true)] [] 22 0 hS (hB4.k 0 (.c (rlr 100 hG.lex) (.c (as_t (by omega)) .nil))) fun a hS => sge hK7 <| wpIn_ret ?_
  refine ret1 hS Tryd.results76 rfl ?_
  exact ⟨by rw [decide_eq_true (show Lng S from .inl h1)], hE6⟩
 ·
  refine rgn 22 <| sd ww [.p, .ld (S.lv), .run (I6 S.lx.length), .as (.bool false), .p, .p, .ld (S.nv), .run (I6 S.ns.length), .as (.bool true), .p, .p, .no, .no, .no, .no, .p, .p, .no, .no, .no, .p, .p] [_, Rv (Builtin.len_ #[22] 3 #[S.lv]) (I6 S.lx.length) w2, Value.bool (decide ((↑S.lx.length : Int) > 64)) = .bool false, _, Rv (Builtin.len_ #[23] 3 #[S.nv]) (I6 S.ns.length) w2, Value.bool (decide ((↑S.ns.length : Int) > 128)) = .bool true] [(2, .bool true)] [] 22 0 hS (hB4.k 0 (.c (rlr 100 hG.lex) (.c (as_f (by omega)) (hB4.k 1 (.c (rlr 9 hG.names) (.c (as_t (by omega)) .nil)))))) fun a hS => sge hK7 <| wpIn_ret ?_
  refine ret1 hS Tryd.results76 rfl ?_
  exact ⟨by rw [decide_eq_true (show Lng S from .inr (.inl h2))], hE6⟩
 ·
  refine rgn 22 <| sd ww [.p, .ld (S.lv), .run (I6 S.lx.length), .as (.bool false), .p, .p, .ld (S.nv), .run (I6 S.ns.length), .as (.bool false), .p, .p, .p, .ld (S.pv), .run (I6 S.ps.length), .as (.bool true), .p, .p, .no, .no, .no, .p, .p] [_, Rv (Builtin.len_ #[22] 3 #[S.lv]) (I6 S.lx.length) w2, Value.bool (decide ((↑S.lx.length : Int) > 64)) = .bool false, _, Rv (Builtin.len_ #[23] 3 #[S.nv]) (I6 S.ns.length) w2, Value.bool (decide ((↑S.ns.length : Int) > 128)) = .bool false, _, Rv (Builtin.len_ #[24] 3 #[S.pv]) (I6 S.ps.length) w2, Value.bool (decide ((↑S.ps.length : Int) > 512)) = .bool true] [(2, .bool true)] [] 22 0 hS (hB4.k 0 (.c (rlr 100 hG.lex) (.c (as_f (by omega)) (hB4.k 1 (.c (rlr 9 hG.names) (.c (as_f (by omega)) (hB4.k 3 (.c (rlr 73 hG.prods) (.c (as_t (by omega)) .nil))))))))) fun a hS => sge hK7 <| wpIn_ret ?_
  refine ret1 hS Tryd.results76 rfl ?_
  exact ⟨by rw [decide_eq_true (show Lng S from .inr (.inr (.inl h3)))], hE6⟩
 ·
  refine rgn 22 <| sd ww [.p, .ld (S.lv), .run (I6 S.lx.length), .as (.bool false), .p, .p, .ld (S.nv), .run (I6 S.ns.length), .as (.bool false), .p, .p, .p, .ld (S.pv), .run (I6 S.ps.length), .as (.bool false), .p, .p, .p, .ld (S.pv)] [_, Rv (Builtin.len_ #[22] 3 #[S.lv]) (I6 S.lx.length) w2, Value.bool (decide ((↑S.lx.length : Int) > 64)) = .bool false, _, Rv (Builtin.len_ #[23] 3 #[S.nv]) (I6 S.ns.length) w2, Value.bool (decide ((↑S.ns.length : Int) > 128)) = .bool false, _, Rv (Builtin.len_ #[24] 3 #[S.pv]) (I6 S.ps.length) w2, Value.bool (decide ((↑S.ps.length : Int) > 512)) = .bool false, _] [(19, .bool false), (21, S.pv)] [] 19 3 hS (hB4.k 0 (.c (rlr 100 hG.lex) (.c (as_f (by omega)) (hB4.k 1 (.c (rlr 9 hG.names) (.c (as_f (by omega)) (hB4.k 3 (.c (rlr 73 hG.prods) (.c (as_f (by omega)) (hB4.k 3 .nil)))))))))) fun a hS => ecl 2 (some 22) hS Tryd.call100 #[S.pv, .func (.func 101) #[] #[]] (containsP_any hG (hb.trans0 hE6)) ?_
  rintro _ wc8 ⟨rfl, hEc8⟩
  refine ⟨_, rfl, fun a hS => ?_⟩
  have hE10 := hE6.trans0 hEc8
  refine sd ww [.p, .p] [] [(2, .bool (decide (LongR S)))] [] 22 0 hS .nil fun a hS => sge hK7 <| wpIn_ret ?_
  refine ret1 hS Tryd.results76 rfl ?_
  exact ⟨by congr 2; exact decide_eq_decide.2 ⟨fun h => .inr (.inr (.inr h)), fun h => by rcases h with h | h | h | h <;> first | omega | exact h⟩, hE10⟩
end Go.Proofs.YtkkpghlcmcaoiaaDoor
