import Derived.Test.YtkkpghlcmcaoiaaDoorS42
namespace Go.Proofs.YtkkpghlcmcaoiaaDoor
open Go.Vc Go.Gm

theorem Check_r {w0 w : World} {S : Sp} (hG : SpOk w0 S) (hb : Ext [] w0 w) :
  Calls Tryd.prog 11 #[.agg S.ca] w fun e w' => ∃ z : Int × Int, ChkR S z ∧ e = .returned (.tuple #[I6 z.2, I6 z.1]) ∧ Ext [] w w' := by
 have hlmax := hG.lmax
 have hnmax := hG.nmax
 have hpmax := hG.pmax
 refine cbd 36 [(0, .agg S.ca)] Tryd.func11 rfl fun a hS => ?_
 have hE0 : Ext [] w w := Ext.refl _ _
 refine sq fun K1 hK1 => rgn 3 <| ebx 2 S.ca 26 (some 1) hS fun a w2 hw3 hS => ?_
 have hB4 := Blk.nw hw3
 have hs5 : w.heap.size ≤ w.heap.size := hE0.size
 have hE6 := hE0.al hw3
 refine sd ww [.p, .p] [] [(2, I6 0), (3, I6 0)] [] 3 0 hS .nil fun a hS => seg_end <| hK1 _ _ <| sq fun K7 hK7 => sq fun K8 hK8 => rgn 2 <| sd ww [.lds [S.lv, S.nv, I6 S.st, S.pv]] [_, _, _, _] [(6, .agg S.ca)] [] 1 1 hS (.cons (hB4.cell 0 rfl) (.cons (hB4.cell 1 rfl) (.cons (hB4.cell 2 rfl) (.cons (hB4.cell 3 rfl) .nil)))) fun a hS => ecl 0 (some 7) hS Tryd.call45 #[.agg S.ca] (Long_r hG (hb.trans0 hE6)) ?_
 rintro _ wc9 ⟨rfl, hEc9⟩
 refine ⟨_, rfl, fun a hS => ?_⟩
 have hB10 := hB4.ext hEc9 (by simp)
 have hE11 := hE6.trans0 hEc9
 refine seg_end <| hK8 _ _ ?_
 refine cond_b hS rfl (fun hb12 => ?_) (fun hb12 => ?_)
 ·
  replace hb12 := of_decide_eq_true hb12
  have hL : Lng S := hb12
  refine sdq 2 [.p, .p] [] [(3, I6 2)] [] hS .nil fun a hS => wpIn_ret <| then_ret ?_
  refine ret2 hS Tryd.results11 rfl rfl ?_
  exact ⟨(2, 0), .lng hL, rfl, hE11⟩
 ·
  replace hb12 := of_decide_eq_false hb12
  have hL : ¬Lng S := hb12
  have h16 : ∀ p ∈ S.ps, p.r.length ≤ 16 := fun p hp => by
   rcases Nat.lt_or_ge 16 p.r.length with h | h
   ·exact absurd (.inr (.inr (.inr ⟨p, hp, h⟩))) hL
   ·exact h
  refine wpIn_skip <| hK7 _ _ <| sq fun K14 hK14 => rgn 7 <| sd ww [.lds [S.lv, S.nv, I6 S.st, S.pv]] [_, _, _, _] [(9, .agg S.ca)] [] 1 6 hS (.cons (hB10.cell 0 rfl) (.cons (hB10.cell 1 rfl) (.cons (hB10.cell 2 rfl) (.cons (hB10.cell 3 rfl) .nil)))) fun a hS => ecl 5 (some 10) hS Tryd.call46 #[.agg S.ca] (indices_r hG (hb.trans0 hE11)) ?_
  rintro _ wc15 ⟨rfl, hEc15⟩
  refine ⟨_, rfl, fun a hS => ?_⟩
  have hB16 := hB10.ext hEc15 (by simp)
  have hE17 := hE11.trans0 hEc15
  refine sd ww [.p, .p, .p, .p, .p] [] [(4, I6 ((inE S).2)), (5, I6 ((inE S).1))] [] 7 0 hS .nil fun a hS => seg_end <| hK14 _ _ <| sq fun K18 hK18 => sq fun K19 hK19 => ?_
  rcases (show ((inE S).1 ≠ 0) ∨ ((inE S).1 = 0) from by omega) with h1 | h1
  ·
   refine rgn 2 <| sd ww [.p, .as (.bool false)] [Value.bool ((((inE S).1 : Int) == 0)) = .bool false] [(14, .bool false)] [] 2 0 hS (.cons (as_eq_f (by omega)) .nil) fun a hS => seg_end <| hK19 _ _ ?_
   refine cond_f hS rfl ?_
   refine wpIn_skip <| hK18 _ _ <| sq fun K20 hK20 => sdq 2 [.p, .as (.bool false)] [Value.bool ((((inE S).1 : Int) == 0)) = .bool false] [(21, .bool false)] [] hS (.cons (as_eq_f (by omega)) .nil) fun a hS => ?_
   refine cond_f hS rfl ?_
   refine wpIn_skip <| hK20 _ _ <| sq fun K22 hK22 => sq fun K23 hK23 => rgn 2 <| sg ww [.p, .as (.bool false)] [Value.bool ((((inE S).1 : Int) == 0)) = .bool false] [(0, .agg S.ca), (1, (Pv w.heap.size)), (2, I6 0), (3, I6 0), (7, .bool (decide (Lng S))), (4, I6 ((inE S).2)), (5, I6 ((inE S).1)), (14, .bool false), (21, .bool false), (28, .bool false)] 2 0 hS (.cons (as_eq_f (by omega)) .nil) fun a hS => seg_end <| hK23 _ _ ?_
   refine cond_f hS rfl ?_
   refine wpIn_skip <| hK22 _ _ <| sdq 4 [.p, .p, .p, .p] [] [(2, I6 ((inE S).2)), (3, I6 ((inE S).1))] [] hS .nil fun a hS => wpIn_ret ?_
   refine ret2 hS Tryd.results11 rfl rfl ?_
   exact ⟨inE S, .ix hL h1, rfl, hE17⟩
  ·
   have hI := inE_ok.1 h1
   refine rgn 2 <| sd ww [.p, .as (.bool true)] [Value.bool ((((inE S).1 : Int) == 0)) = .bool true] [(14, .bool true)] [] 2 0 hS (.cons (as_eq_t (by omega)) .nil) fun a hS => seg_end <| hK19 _ _ ?_
   refine cond_t hS rfl ?_
   refine rgn 7 <| sd ww [.lds [S.lv, S.nv, I6 S.st, S.pv]] [_, _, _, _] [(16, .agg S.ca)] [] 1 6 hS (.cons (hB16.cell 0 rfl) (.cons (hB16.cell 1 rfl) (.cons (hB16.cell 2 rfl) (.cons (hB16.cell 3 rfl) .nil)))) fun a hS => ecl 5 (some 17) hS Tryd.call47 #[.agg S.ca] (reached_r hG (hb.trans0 hE17) hI) ?_
   rintro _ wc25 ⟨x25, rfl, hR25, hEc25⟩
   refine ⟨_, rfl, fun a hS => ?_⟩
   have hB26 := hB16.ext hEc25 (by simp)
   have hE27 := hE17.trans0 hEc25
   refine sg ww [.p, .p, .p, .p, .p] [] [(0, .agg S.ca), (1, (Pv w.heap.size)), (2, I6 0), (3, I6 0), (7, .bool (decide (Lng S))), (4, I6 ((rcE S x25).2)), (5, I6 ((rcE S x25).1)), (14, .bool true)] 7 0 hS .nil fun a hS => seg_end <| hK18 _ _ <| sq fun K28 hK28 => sq fun K29 hK29 => ?_
   rcases (show ((rcE S x25).1 ≠ 0) ∨ ((rcE S x25).1 = 0) from by omega) with hr0 | hr0
   ·
    refine rgn 2 <| sd ww [.p, .as (.bool false)] [Value.bool ((((rcE S x25).1 : Int) == 0)) = .bool false] [(21, .bool false)] [] 2 0 hS (.cons (as_eq_f (by omega)) .nil) fun a hS => seg_end <| hK29 _ _ ?_
    refine cond_f hS rfl ?_
    refine wpIn_skip <| hK28 _ _ <| sq fun K30 hK30 => sdq 2 [.p, .as (.bool false)] [Value.bool ((((rcE S x25).1 : Int) == 0)) = .bool false] [(28, .bool false)] [] hS (.cons (as_eq_f (by omega)) .nil) fun a hS => ?_
    refine cond_f hS rfl ?_
    refine wpIn_skip <| hK30 _ _ <| sdq 4 [.p, .p, .p, .p] [] [(2, I6 ((rcE S x25).2)), (3, I6 ((rcE S x25).1))] [] hS .nil fun a hS => wpIn_ret ?_
    refine ret2 hS Tryd.results11 rfl rfl ?_
    exact ⟨rcE S x25, .rc hL hI hR25 hr0, rfl, hE27⟩
   ·
    refine rgn 2 <| sd ww [.p, .as (.bool true)] [Value.bool ((((rcE S x25).1 : Int) == 0)) = .bool true] [(21, .bool true)] [] 2 0 hS (.cons (as_eq_t (by omega)) .nil) fun a hS => seg_end <| hK29 _ _ ?_
    refine cond_t hS rfl ?_
    refine rgn 7 <| sd ww [.lds [S.lv, S.nv, I6 S.st, S.pv]] [_, _, _, _] [(23, .agg S.ca)] [] 1 6 hS (.cons (hB26.cell 0 rfl) (.cons (hB26.cell 1 rfl) (.cons (hB26.cell 2 rfl) (.cons (hB26.cell 3 rfl) .nil)))) fun a hS => ecl 5 (some 24) hS Tryd.call48 #[.agg S.ca] (productive_r hG (hb.trans0 hE27) hI) ?_
    rintro _ wp ⟨bsp, hDp, (⟨hfp, rfl⟩ | ⟨hfp, rfl⟩), hEp⟩
    ·
     refine ⟨_, rfl, fun a hS => ?_⟩
     have hE34 := hE27.trans0 hEp
     refine sd ww [.p, .p, .p, .p, .p] [] [(4, I6 (fF bsp 0)), (5, I6 73)] [] 7 0 hS .nil fun a hS => seg_end <| hK28 _ _ <| sq fun K35 hK35 => sdq 2 [.p, .p] [] [(28, .bool false)] [] hS .nil fun a hS => ?_
     refine cond_f hS rfl ?_
     refine wpIn_skip <| hK35 _ _ <| sdq 4 [.p, .p, .p, .p] [] [(2, I6 (fF bsp 0)), (3, I6 73)] [] hS .nil fun a hS => wpIn_ret ?_
     refine ret2 hS Tryd.results11 rfl rfl ?_
     exact ⟨(73, fF bsp 0), .up hL hI hR25 hr0 hDp hfp, rfl, hE34⟩
    ·
     refine ⟨_, rfl, fun a hS => ?_⟩
     have hB38 := hB26.ext hEp (by simp)
     have hE39 := hE27.trans0 hEp
     refine sd ww [.p, .p, .p, .p, .p] [] [(4, I6 0), (5, I6 0)] [] 7 0 hS .nil fun a hS => seg_end <| hK28 _ _ <| sq fun K40 hK40 => sdq 2 [.p, .p] [] [(28, .bool true)] [] hS .nil fun a hS => ?_
     refine cond_t hS rfl ?_
     refine rgn 7 <| sd ww [.lds [S.lv, S.nv, I6 S.st, S.pv]] [_, _, _, _] [(30, .agg S.ca)] [] 1 6 hS (.cons (hB38.cell 0 rfl) (.cons (hB38.cell 1 rfl) (.cons (hB38.cell 2 rfl) (.cons (hB38.cell 3 rfl) .nil)))) fun a hS => ecl 5 (some 31) hS Tryd.call49 #[.agg S.ca] (emptied_r hG (hb.trans0 hE39) hI h16) ?_
     rintro _ wc42 ⟨es42, vs42, rfl, hD42, hLn42, hC42, hEc42⟩
     refine ⟨_, rfl, fun a hS => ?_⟩
     have hE44 := hE39.trans0 hEc42
     refine sd ww [.p, .p, .p, .p, .p] [] [(4, I6 ((fE es42 vs42 0).2)), (5, I6 ((fE es42 vs42 0).1))] [] 7 0 hS .nil fun a hS => seg_end <| hK40 _ _ <| sq fun K45 hK45 => rgn 4 <| sg ww [.p, .p, .p, .p] [] [(0, .agg S.ca), (1, (Pv w.heap.size)), (2, I6 ((fE es42 vs42 0).2)), (3, I6 ((fE es42 vs42 0).1)), (7, .bool (decide (Lng S))), (4, I6 ((fE es42 vs42 0).2)), (5, I6 ((fE es42 vs42 0).1)), (14, .bool true), (21, .bool true), (28, .bool true)] 4 0 hS .nil fun a hS => seg_end <| hK45 _ _ <| wpIn_ret ?_
     refine ret2 hS Tryd.results11 rfl rfl ?_
     exact ⟨fE es42 vs42 0, .em hL hI hR25 hr0 hDp hfp hD42 hLn42 hC42, rfl, hE44⟩

end Go.Proofs.YtkkpghlcmcaoiaaDoor
