import Derived.Test.YtkkpghlcmcaoiaaDoorEx
namespace Go.Proofs.YtkkpghlcmcaoiaaDoor
open Go.Vc Go.Gm
set_option maxHeartbeats 1000000 in
theorem Guard_any {w0 w : World} {t : Ex} (hE : t.Ok w0) (hb : Ext [] w0 w) :
  Calls Tryd.prog 108 #[.agg #[I6 t.kd, I6 t.fr, I6 t.to, I6 t.mi, I6 t.ma, t.ls]] w fun e w' => ∃ z, GdR [t] 1 1 z ∧ e = .returned (I6 z) ∧ Ext [] w w' := by
 refine cbd 41 [(0, .agg #[I6 t.kd, I6 t.fr, I6 t.to, I6 t.mi, I6 t.ma, t.ls])] Tryd.func108 rfl fun a hS => ?_
 have hE0 : Ext [] w w := Ext.refl _ _
 refine sq fun K1 hK1 => rgn 2 <| ebx 1 #[I6 t.kd, I6 t.fr, I6 t.to, I6 t.mi, I6 t.ma, t.ls] 98 (some 1) hS fun a w2 hw3 hS => ?_
 have hB4 := Blk.nw hw3
 have hs5 := hE0.size
 have hE6 := hE0.al hw3
 refine sd ww [.p] [] [(2, I6 0)] [] 2 0 hS .nil fun a hS => sge hK1 <| sq fun K7 hK7 => rgn 3 <| sd ww [.lds [I6 t.kd, I6 t.fr, I6 t.to, I6 t.mi, I6 t.ma, t.ls]] [_, _, _, _, _, _] [(8, .agg #[I6 t.kd, I6 t.fr, I6 t.to, I6 t.mi, I6 t.ma, t.ls])] [] 1 2 hS (hB4.k 0 (hB4.k 1 (hB4.k 2 (hB4.k 3 (hB4.k 4 (hB4.k 5 .nil)))))) fun a hS => eff_new ww (r := 1) (cs := #[I6 t.kd, I6 t.fr, I6 t.to, I6 t.mi, I6 t.ma, t.ls]) (T := 98) (v := Value.slice (some ⟨w2.heap.size, 0, none⟩) 1 1) (d := (some 9)) hS (by kernel_rfl) fun a w8 hw9 hS => ?_
 have hB12 := Blk.nw hw9
 have hs13 := hE6.size
 have hE14 := hE6.al hw9
 refine sd ww [.p] [] [(3, Sl w2.heap.size 1 1)] [] 3 0 hS .nil fun a hS => sge hK7 <| sdq 1 [.p] [] [(4, I6 1)] [] hS .nil fun a hS => sdq 1 [.p] [] [(5, I6 1)] [] hS .nil fun a hS => sq fun K17 hK17 => wpIn_block ?_
 have hl0 : RdV w8 6 (Sl w2.heap.size 1 1) [t].length (ecells [t]) := by have h := RdV.of_blk (n := 1) (size := 6) hB12 rfl; exact h
 have hbl18 := (hb.trans0 hE14)
 refine loop_ghost (fun ((l, lv, c, d) : (List Ex) × Value × Nat × Nat) a' w' => St 41 [] [(3, lv), (4, I6 c), (5, I6 d)] a' ∧ Ext [] w8 w' ∧ RdV w' 6 lv l.length (ecells l) ∧ (∀ x ∈ l, Ex.Ok w0 x) ∧ l.length ≤ 4096 ∧ c ≤ 4096 ∧ d ≤ c ∧ (∀ z, GdR l c d z → GdR [t] 1 1 z)) (fun ((l, lv, c, d) : (List Ex) × Value × Nat × Nat) => 4097 - c) ([t], (Sl w2.heap.size 1 1), 1, 1) ⟨hS.keepTo [3, 4, 5] (by kernel_rfl), Ext.refl _ _, hl0, fun x hx => by simp at hx; rw [hx]; exact hE, by simp, by omega, by omega, fun z h => h⟩ ?_
 rintro ⟨l, lv, c, d⟩ a wl18 ⟨hS, hXl18, hlv, hok, hll, hcm, hdc, hgd⟩
 refine wpIn_block <| sdq 1 [.p] [] [(6, .slice none 0 0)] [] hS .nil fun a hS => sq fun K20 hK20 => sdq 1 [.p] [] [(7, I6 0)] [] hS .nil fun a hS => wpIn_block ?_
 have hlvp : RdV wl18 6 lv l.length (ecells l) := hlv
 have hbl22 : Ext [] w0 wl18 := (hbl18.trans0 hXl18)
 refine loop_ghost (fun ((i, c2, bs, n, cq) : Nat × Nat × (Option Addr) × Nat × Nat) a' w' => St 41 [] [(3, lv), (5, I6 d), (4, I6 c2), (6, .slice bs n cq), (7, I6 i)] a' ∧ Ext [] wl18 w' ∧ i ≤ l.length ∧ c2 = c + (lev (l.take i)).length ∧ c2 ≤ 4096 ∧ RowE wl18.heap.size w' bs n cq (lev (l.take i))) (fun ((i, c2, bs, n, cq) : Nat × Nat × (Option Addr) × Nat × Nat) => l.length - i) (0, c, none, 0, 0) ⟨hS.keepTo [3, 5, 4, 6, 7] (by kernel_rfl), Ext.refl _ _, by omega, by simp [lev], by omega, ⟨OwnV.nil _ _ _, fun x hx => by simp [ob] at hx⟩⟩ ?_
 rintro ⟨i, c2, bs, n, cq⟩ a wl22 ⟨hS, hXl22, hi, hc2, hc3, hR⟩
 refine sq fun K23 hK23 => sdq 4 [.p, .p, .run (I6 l.length), .p] [Rv (Builtin.len_ #[96] 3 #[lv]) (I6 l.length) wl22] [(13, .bool (decide ((↑i : Int) < ↑l.length)))] [] hS (.c (rlr 98 hlv) .nil) fun a hS => ?_
 refine cond_b hS rfl (fun hb25 => ?_) (fun hb25 => ?_)
 ·
  replace hb25 := of_decide_eq_true hb25
  obtain ⟨y, hx⟩ : ∃ y, l[i]? = some y := gE
  have hxo := hok y (List.mem_of_getElem? hx)
  have hxm := hxo.max
  have hlt := lev_take hx
  have hlt2 := congrArg List.length hlt
  rw [List.length_append] at hlt2
  have hlle := lev_take_le l (i + 1)
  have hnr := hR.len
  refine wpIn_skip <| hK23 _ _ <| sq fun K26 hK26 => wpIn_block <| sdq 9 [.p, .p, .p, .run ((Po (bof lv) (oof lv + i * 6))), .p, .ld (y.ls), .run (I6 y.kids.length), .as (I6 ((c2 + y.kids.length : Nat) : Int)), .p] [Rv (Instr.indexAt 96 (lv) (I6 i)) ((Po (bof lv) (oof lv + i * 6))) wl22, wl22.cell? ⟨bof lv, oof lv + i * 6 + 5, none⟩ = some (y.ls), Rv (Builtin.len_ #[96] 3 #[y.ls]) (I6 y.kids.length) wl22, Value.int .i64 (IntKind.i64.wrap (↑c2 + ↑y.kids.length)) = I6 ((c2 + y.kids.length : Nat) : Int)] [(4, I6 ((c2 + y.kids.length : Nat) : Int))] [] hS (.c (ixr 98 i hlv) (.c ((hlvp.ext0 hXl22).cellAt (i * 6 + 5) (by omega) (ecells_at l i 5 y hx (by omega))) (.c (rlr 98 hxo.rd) (.c ((by rw [show (↑c2 + ↑y.kids.length : Int) = ((c2 + y.kids.length : Nat) : Int) from by omega]; exact as_i64 (by omega))) .nil)))) fun a hS => sq fun K28 hK28 => sdq 2 [.p, .p] [] [(25, .bool (decide ((((c2 + y.kids.length : Nat) : Int) : Int) > 4096)))] [] hS .nil fun a hS => ?_
  refine cond_b hS rfl (fun hb30 => ?_) (fun hb30 => ?_)
  ·
   replace hb30 := of_decide_eq_true hb30
   have hEl22 : Ext [] w8 wl22 := hXl18.trans0 hXl22
   have hEl18 : Ext [] w wl22 := hE14.trans0 hEl22
   refine sdq 1 [.p] [] [(2, I6 2)] [] hS .nil fun a hS => wpIn_ret <| then_ret <| inBlock_ret <| then_ret <| then_ret <| inBlock_ret <| then_ret <| inBlock_ret <| then_ret <| inBlock_ret <| then_ret ?_
   refine ret1 hS Tryd.results108 rfl ?_
   exact ⟨2, hgd 2 (.over (by omega)), rfl, hEl18⟩
  ·
   replace hb30 := of_decide_eq_false hb30
   refine wpIn_skip <| hK28 _ _ <| rgn 8 <| sd ww [.p, .p, .p, .run ((Po (bof lv) (oof lv + i * 6))), .p, .ld (y.ls)] [Rv (Instr.indexAt 96 (lv) (I6 i)) ((Po (bof lv) (oof lv + i * 6))) wl22, wl22.cell? ⟨bof lv, oof lv + i * 6 + 5, none⟩ = some (y.ls)] [(26, .slice bs n cq), (31, y.ls)] [] 6 2 hS (.c (ixr 98 i hlv) (.c ((hlvp.ext0 hXl22).cellAt (i * 6 + 5) (by omega) (ecells_at l i 5 y hx (by omega))) .nil)) fun a hS => eff_append_rd ww (r := 1) (d := (some 32)) (t := 96) (ty := 96) (e := 98) (size := 6) (bytes := 64) (len := n) (k := y.kids.length) (z := #[I6 0, I6 0, I6 0, I6 0, I6 0, .slice none 0 0]) (v := Value.slice bs n cq) (u := y.ls) (xs := (ecells (lev (l.take i)))) (news := (ecells y.kids)) hS (by kernel_rfl) (by kernel_rfl) (by kernel_rfl) (by kernel_rfl) hR.own (hxo.rd.ext0 (hbl22.trans0 hXl22)) hxo.one (by omega) (by omega) fun bs32 cp32 a wa32 hA32 hS => ?_
   have hEa32 : Ext (ob (Value.slice bs n cq)) wl22 wa32 := hA32.ext
   have hO32 := hA32.own
   have hE33 : Ext [] wl18 wa32 := hXl22.trans hEa32 (fun b hb => .inr (hR.new b hb))
   have hnw32 : ∀ x ∈ ob (.slice bs32 (n + y.kids.length) cp32), wl18.heap.size ≤ x := fun x hx => by
    rcases hA32.fresh x (by simpa using hx) with h | h
    ·exact hR.new x h
    ·exact Nat.le_trans hXl22.size h
   have hG34 : True := trivial
   refine sd ww [.p] [] [(6, .slice bs32 (n + y.kids.length) cp32)] [] 8 0 hS .nil fun a hS => seg_end <| inBlock_normal <| hK26 _ _ <| rgn 3 <| sd ww [.p, .as (I6 (↑i + 1)), .p] [_] [(7, I6 (↑i + 1))] [] 3 0 hS (as6 (↑i + 1)) fun a hS => seg_end ?_
   have hRn : RowE wl18.heap.size wa32 bs32 (n + y.kids.length) cp32 (lev (l.take (i + 1))) := ⟨by rw [hlt, ecells_app]; exact hO32, hnw32⟩
   exact ⟨(i + 1, (c2 + y.kids.length), bs32, (n + y.kids.length), cp32), ⟨hS.kp [(3, lv), (5, I6 d), (4, I6 ((c2 + y.kids.length : Nat) : Int)), (6, .slice bs32 (n + y.kids.length) cp32), (7, I6 (↑i + 1))], hE33, by omega, by omega, by omega, hRn⟩, by simp only; omega⟩
 ·
  replace hb25 := of_decide_eq_false hb25
  have hEl22 : Ext [] w8 wl22 := hXl18.trans0 hXl22
  rw [List.take_of_length_le (by omega)] at hR hc2
  have hnr := hR.len
  refine xt2 <| hK20 _ _ <| sq fun K35 hK35 => sq fun K36 hK36 => ?_
  rcases (show (n = 0) ∨ (0 < n) from by omega) with hn0 | hn0
  ·
   have hEl18 : Ext [] w wl22 := hE14.trans0 hEl22
   have hlz : lev l = [] := List.eq_nil_of_length_eq_zero (by omega)
   refine rgn 3 <| sd ww [.p, .p, .as (.bool true)] [Value.bool (((↑n : Int) == 0)) = .bool true] [(35, .bool true)] [] 3 0 hS (.c (as_eq_t (by omega)) .nil) fun a hS => sge hK36 ?_
   refine cond_t hS rfl ?_
   refine wpIn_exit <| then_exit <| inBlock_miss rfl <| then_exit <| inBlock_hit <| hK17 _ _ <| sq fun K37 hK37 => sdq 2 [.p, .p] [] [(40, .bool (decide ((↑d : Int) > 64)))] [] hS .nil fun a hS => ?_
   refine cond_b hS rfl (fun hb39 => ?_) (fun hb39 => ?_)
   ·
    replace hb39 := of_decide_eq_true hb39
    refine sdq 1 [.p] [] [(2, I6 5)] [] hS .nil fun a hS => wpIn_ret <| then_ret ?_
    refine ret1 hS Tryd.results108 rfl ?_
    exact ⟨5, hgd 5 (.deep (by omega) hlz (by omega)), rfl, hEl18⟩
   ·
    replace hb39 := of_decide_eq_false hb39
    refine wpIn_skip <| hK37 _ _ <| sdq 1 [.p] [] [(2, I6 0)] [] hS .nil fun a hS => wpIn_ret ?_
    refine ret1 hS Tryd.results108 rfl ?_
    exact ⟨0, hgd 0 (.flat (by omega) hlz (by omega)), rfl, hEl18⟩
  ·
   have hlz : lev l ≠ [] := fun h => by rw [h] at hnr; simp at hnr; omega
   have hlvn : RdV wl22 6 (.slice bs n cq) (lev l).length (ecells (lev l)) := by rw [hnr]; exact hR.own.rd
   refine rgn 3 <| sd ww [.p, .p, .as (.bool false)] [Value.bool (((↑n : Int) == 0)) = .bool false] [(35, .bool false)] [] 3 0 hS (.c (as_eq_f (by omega)) .nil) fun a hS => sge hK36 ?_
   refine cond_f hS rfl ?_
   refine wpIn_skip <| hK35 _ _ <| sdq 3 [.p, .as (I6 ((d + 1 : Nat) : Int)), .p] [Value.int .i64 (IntKind.i64.wrap (↑d + 1)) = I6 ((d + 1 : Nat) : Int)] [(5, I6 ((d + 1 : Nat) : Int))] [] hS (.c ((by rw [show (↑d + 1 : Int) = ((d + 1 : Nat) : Int) from by omega]; exact as_i64 (by omega))) .nil) fun a hS => rgn 2 <| sd ww [.p, .p] [] [(3, .slice bs n cq)] [] 2 0 hS .nil fun a hS => seg_end <| inBlock_normal ?_
   have hlvm := hlvn.ext0 (Ext.refl _ _)
   exact ⟨((lev l), (.slice bs n cq), c2, (d + 1)), ⟨hS.kp [(3, .slice bs n cq), (4, I6 c2), (5, I6 ((d + 1 : Nat) : Int))], hEl22, hlvm, lev_ok hok, by omega, by omega, by omega, fun z h => hgd z (.next (by omega) hlz (by rw [← hc2]; exact h))⟩, by simp only; omega⟩
theorem Flat_any {w0 w : World} {t : Ex} (hE : t.Ok w0) (hb : Ext [] w0 w) :
  Calls Tryd.prog 87 #[.agg #[I6 t.kd, I6 t.fr, I6 t.to, I6 t.mi, I6 t.ma, t.ls]] w fun e w' => ∃ z, GdR [t] 1 1 z ∧ e = .returned (.bool ((z : Int) == 0)) ∧ Ext [] w w' := by
 refine cbd 8 [(0, .agg #[I6 t.kd, I6 t.fr, I6 t.to, I6 t.mi, I6 t.ma, t.ls])] Tryd.func87 rfl fun a hS => ?_
 have hE0 : Ext [] w w := Ext.refl _ _
 refine sq fun K1 hK1 => rgn 2 <| ebx 1 #[I6 t.kd, I6 t.fr, I6 t.to, I6 t.mi, I6 t.ma, t.ls] 98 (some 1) hS fun a w2 hw3 hS => ?_
 have hB4 := Blk.nw hw3
 have hs5 := hE0.size
 have hE6 := hE0.al hw3
 refine sd ww [.p] [] [(2, .bool false)] [] 2 0 hS .nil fun a hS => sge hK1 <| sq fun K7 hK7 => rgn 3 <| sd ww [.lds [I6 t.kd, I6 t.fr, I6 t.to, I6 t.mi, I6 t.ma, t.ls]] [_, _, _, _, _, _] [(4, .agg #[I6 t.kd, I6 t.fr, I6 t.to, I6 t.mi, I6 t.ma, t.ls])] [] 1 2 hS (hB4.k 0 (hB4.k 1 (hB4.k 2 (hB4.k 3 (hB4.k 4 (hB4.k 5 .nil)))))) fun a hS => ecl 1 (some 5) hS Tryd.call108 #[.agg #[I6 t.kd, I6 t.fr, I6 t.to, I6 t.mi, I6 t.ma, t.ls]] (Guard_any hE (hb.trans0 hE6)) ?_
 rintro _ wg8 ⟨z8, hz8, rfl, hEg8⟩
 refine ⟨_, rfl, fun a hS => ?_⟩
 have hE10 := hE6.trans0 hEg8
 refine sd ww [.p] [] [(3, I6 z8)] [] 3 0 hS .nil fun a hS => sge hK7 <| sdq 3 [.p, .p, .p] [] [(2, .bool ((z8 : Int) == 0))] [] hS .nil fun a hS => wpIn_ret ?_
 refine ret1 hS Tryd.results87 rfl ?_
 exact ⟨z8, hz8, rfl, hE10⟩
end Go.Proofs.YtkkpghlcmcaoiaaDoor
