import Derived.Test.YtkkpghlcmcaoiaaDoorS3
import Derived.Test.YtkkpghlcmcaoiaaDoorVw
namespace Go.Proofs.YtkkpghlcmcaoiaaDoor
open Go.Vc Go.Gm
theorem indexF_any {w : World} {g n cp : Nat} {bs : List Bool} (hg : OwnR w 4 1 g cp n (bls bs)) :
  Calls Tryd.prog 79 #[Sl g n cp, .bool false] w fun e w' => e = .returned (I6 (fF bs 0)) ∧ Ext [] w w' := by
 have hbl : bs.length = n := by have := hg.len; rw [bls_len] at this; omega
 have hmx := hg.max
 have hle := hg.le
 simp only [maxLen] at hmx
 refine cbd 19 [(0, Sl g n cp), (1, .bool false)] Tryd.func79 rfl fun a hS => ?_
 have hE0 : Ext [] w w := Ext.refl _ _
 refine sdq 1 [.p] [] [(4, I6 0)] [] hS .nil fun a hS => sq fun K2 hK2 => sdq 3 [.p, .p, .p] [] [(7, I6 n), (8, I6 0)] [] hS .nil fun a hS => wpIn_block ?_
 refine loop_ghost (fun (i : Nat) a' w' => St 19 [] [(0, Sl g n cp), (1, .bool false), (4, I6 0), (7, I6 n), (8, I6 i)] a' ∧ Ext [] w w' ∧ i ≤ n ∧ fF bs 0 = fF (bs.drop i) i) (fun (i : Nat) => n - i) 0 ⟨hS.keepTo [0, 1, 4, 7, 8] (by kernel_rfl), Ext.refl _ _, by omega, rfl⟩ ?_
 rintro i a wl4 ⟨hS, hXl4, hi, ha⟩
 have hB5 := hg.ext hXl4 (by simp)
 refine sdq 1 [.p] [] [(9, .bool (decide ((↑i : Int) < ↑n)))] [] hS .nil fun a hS => sq fun K7 hK7 => ?_
 refine cond_b hS rfl (fun hb8 => ?_) (fun hb8 => ?_)
 ·
  replace hb8 := of_decide_eq_true hb8
  refine wpIn_skip <| hK7 _ _ <| sq fun K9 hK9 => wpIn_block <| sdq 2 [.p, .p] [] [(5, I6 i)] [] hS .nil fun a hS => sq fun K11 hK11 => ?_
  rcases (show (bs[i]? = some true) ∨ (bs[i]? = some false) from bool_cases (by omega)) with h1 | h1
  ·
   rw [fF_step h1] at ha
   refine rgn 6 <| sd ww [.p, .p, .p, .run ((Po g (0 + i * 1))), .ld (.bool true), .p] [Rv (Instr.indexAt 31 (Sl g n cp) (I6 i)) ((Po g (0 + i * 1))) wl4, wl4.cell? ⟨g, 0 + i * 1, none⟩ = some (.bool true)] [(16, .bool false)] [] 6 0 hS (.c (ixs 4 1 i) (.c ((hB5).cellAt _ (bls_at h1)) .nil)) fun a hS => sge hK11 ?_
   refine cond_f hS rfl ?_
   refine wpIn_skip <| inBlock_normal <| hK9 _ _ <| rgn 2 <| sd ww [.as (I6 (↑i + 1)), .p] [_] [(8, I6 (↑i + 1))] [] 2 0 hS (as6 (↑i + 1)) fun a hS => seg_end ?_
   exact ⟨i + 1, ⟨hS.kp [(0, Sl g n cp), (1, .bool false), (4, I6 0), (7, I6 n), (8, I6 (↑i + 1))], hXl4, by omega, ha⟩, by omega⟩
  ·
   rw [fF_step h1] at ha
   have hEl4 : Ext [] w wl4 := hE0.trans0 hXl4
   refine rgn 6 <| sd ww [.p, .p, .p, .run ((Po g (0 + i * 1))), .ld (.bool false), .p] [Rv (Instr.indexAt 31 (Sl g n cp) (I6 i)) ((Po g (0 + i * 1))) wl4, wl4.cell? ⟨g, 0 + i * 1, none⟩ = some (.bool false)] [(16, .bool true)] [] 6 0 hS (.c (ixs 4 1 i) (.c ((hB5).cellAt _ (bls_at h1)) .nil)) fun a hS => sge hK11 ?_
   refine cond_t hS rfl ?_
   refine sdq 2 [.p, .p] [] [(4, I6 i)] [] hS .nil fun a hS => wpIn_ret <| inBlock_ret <| then_ret <| then_ret <| inBlock_ret <| then_ret ?_
   refine ret1 hS Tryd.results79 rfl ?_
   exact ⟨by rw [ha]; rfl, hEl4⟩
 ·
  replace hb8 := of_decide_eq_false hb8
  have hEl4 : Ext [] w wl4 := hE0.trans0 hXl4
  rw [List.drop_eq_nil_of_le (by omega)] at ha
  refine xt2 <| hK2 _ _ <| sdq 1 [.p] [] [(4, I6 (-1))] [] hS .nil fun a hS => wpIn_ret ?_
  refine ret1 hS Tryd.results79 rfl ?_
  exact ⟨by rw [ha]; rfl, hEl4⟩
theorem fixedT_any {w0 w : World} {S : Sp} (hG : SpOk w0 S) (hb : Ext [] w0 w) (hI : Ix S) {cp g sb fb : Nat} {bs : List Bool} (hsb : Blk w sb 26 S.ca) (hfb : Blk w fb 59 #[.func (.func 81) #[] #[]]) (hg : OwnR w 4 1 g cp S.ns.length (bls bs)) (hgn : w0.heap.size ≤ g) (hs : MdS S true bs) :
  Calls Tryd.prog 104 #[Sl g S.ns.length cp, .func (.func 105) #[] #[(Pv sb), (Pv fb)]] w fun e w' => ∃ bs', e = .returned (Sl g S.ns.length cp) ∧ OwnR w' 4 1 g cp S.ns.length (bls bs') ∧ IsD S.g true S.ns.length bs' ∧ Ext [g] w w' := by
 refine cbd 17 [(0, Sl g S.ns.length cp), (1, .func (.func 105) #[] #[(Pv sb), (Pv fb)])] Tryd.func104 rfl fun a hS => ?_
 have hE0 : Ext [g] w w := Ext.refl _ _
 refine sdq 1 [.p] [] [(4, .slice none 0 0)] [] hS .nil fun a hS => wpIn_block ?_
 have hbl2 := (hb.t1 hE0 hgn)
 refine loop_ghost (fun (bs1 : (List Bool)) a' w' => St 17 [] [(0, Sl g S.ns.length cp), (1, .func (.func 105) #[] #[(Pv sb), (Pv fb)])] a' ∧ Ext [g] w w' ∧ OwnR w' 4 1 g cp S.ns.length (bls bs1) ∧ MdS S true bs1) (fun (bs1 : (List Bool)) => falses bs1) bs ⟨hS.keepTo [0, 1] (by kernel_rfl), Ext.refl _ _, hg, hs⟩ ?_
 rintro bs1 a wl2 ⟨hS, hXl2, hg1, hs1⟩
 have hB3 := hsb.ext hXl2 (by simpa using (OwnR.ne_type hg hsb (by decide)).symm)
 have hB4 := hfb.ext hXl2 (by simpa using (OwnR.ne_type hg hfb (by decide)).symm)
 refine wpIn_block <| sq fun K5 hK5 => rgn 8 <| sd ww [.p, .p] [] [(8, .func (.func 105) #[] #[(Pv sb), (Pv fb)]), (9, Sl g S.ns.length cp)] [] 2 6 hS .nil fun a hS => eff_call ww (r := 5) (f := 105) (vs := [Sl g S.ns.length cp]) (cap := #[(Pv sb), (Pv fb)]) (d := (some 10)) hS (by kernel_rfl) Tryd.call105 #[Sl g S.ns.length cp, (Pv sb), (Pv fb)] (by kernel_rfl) (made1T_any hG (hbl2.t1 hXl2 hgn) hI hB3 hB4 hg1 hgn hs1) ?_
 rintro _ wc6 ⟨bs6, gr6, rfl, hO6, hP6, hEc6⟩
 refine ⟨_, rfl, fun a hS => ?_⟩
 have hE9 := hXl2.trans hEc6 (fun b hbM => by simp at hbM; rw [hbM]; exact .inl (by simp))
 refine sd ww [.p, .p, .p, .p, .p] [] [(5, Sl g S.ns.length cp), (6, .bool gr6)] [] 8 0 hS .nil fun a hS => sge hK5 <| sq fun K10 hK10 => sdq 2 [.p, .p] [] [(14, .bool (!gr6))] [] hS .nil fun a hS => ?_
 refine cond_b hS rfl (fun hb12 => ?_) (fun hb12 => ?_)
 ·
  replace hb12 := hb12
  have hgr : gr6 = false := by simpa using hb12
  have hEl2 : Ext [g] w wc6 := hE0.trans hE9 (fun b hbM => by simp at hbM; rw [hbM]; exact .inl (by simp))
  refine sdq 2 [.p, .p] [] [(4, Sl g S.ns.length cp)] [] hS .nil fun a hS => wpIn_ret <| then_ret <| inBlock_ret <| then_ret <| inBlock_ret ?_
  refine ret1 hS Tryd.results104 rfl ?_
  exact ⟨_, rfl, hO6, MdP.isD hP6.snd fun j hj => (hP6.cl hgr).2 j hj, hEl2⟩
 ·
  replace hb12 := hb12
  have hgr : gr6 = true := by simpa using hb12
  refine wpIn_skip <| hK10 _ _ <| rgn 2 <| sd ww [.p, .p] [] [] [] 2 0 hS .nil fun a hS => seg_end <| inBlock_normal ?_
  exact ⟨bs6, ⟨hS.kp [(0, Sl g S.ns.length cp), (1, .func (.func 105) #[] #[(Pv sb), (Pv fb)])], hE9, hO6, hP6.snd⟩, hP6.lt hgr⟩
theorem madeT_any {w0 w : World} {S : Sp} (hG : SpOk w0 S) (hb : Ext [] w0 w) (hI : Ix S) :
  Calls Tryd.prog 80 #[.agg S.ca, .func (.func 81) #[] #[]] w fun e w' => ∃ g bs, e = .returned (Sn S g) ∧ OwnR w' 4 1 g S.ns.length S.ns.length (bls bs) ∧ IsD S.g true S.ns.length bs ∧ w.heap.size ≤ g ∧ Ext [] w w' := by
 have hlmax := hG.lmax
 have hnmax := hG.nmax
 have hpmax := hG.pmax
 refine cbd 11 [(0, .agg S.ca), (1, .func (.func 81) #[] #[])] Tryd.func80 rfl fun a hS => ?_
 have hE0 : Ext [] w w := Ext.refl _ _
 refine sq fun K1 hK1 => rgn 3 <| ebx 2 S.ca 26 (some 2) hS fun a w2 hw3 hS => ?_
 have hB4 := Blk.nw hw3
 have hs5 := hE0.size
 have hE6 := hE0.al hw3
 refine ebx 1 #[.func (.func 81) #[] #[]] 59 (some 3) hS fun a w7 hw8 hS => ?_
 have hB10 := Blk.at' hw8 (hB4.alloc _)
 have hB11 := Blk.nw hw8
 have hs12 := hE6.size
 have hE13 := hE6.al hw8
 refine sd ww [.p] [] [(4, .slice none 0 0)] [] 3 0 hS .nil fun a hS => sge hK1 <| sq fun K14 hK14 => rgn 7 <| sd ww [.p, .ld (S.nv), .run (I6 S.ns.length)] [_, Rv (Builtin.len_ #[23] 3 #[S.nv]) (I6 S.ns.length) w7] [(7, I6 S.ns.length)] [] 3 4 hS (hB10.k 1 (.c (rlr 9 hG.names) .nil)) fun a hS => ?_
 obtain ⟨wm15, hrm15, hOm15, hEm15, hsm15⟩ := make_full (P := Tryd.prog) (w := w7) (T := 31) (E := 4) (size := 1) (bytes := 1) (z := #[.bool false]) (Value.bool false) (l := S.ns.length) (by kernel_rfl) (by kernel_rfl) (by rfl) (by omega) (by omega) (by omega)
 refine eff_run ww (r := 3) (s := vS (Instr.makeSlice 31 (I6 S.ns.length) (I6 S.ns.length))) (d := (some 8)) (v := Sn S w7.heap.size) hS (by kernel_rfl) hrm15 fun a hS => ?_
 have hB18 := hB10.ext hEm15 (by simp)
 have hB19 := hB11.ext hEm15 (by simp)
 have hE20 := hE13.trans0 hEm15
 refine sd ww [.p] [] [(9, .func (.func 105) #[] #[(Pv w.heap.size), (Pv w2.heap.size)])] [] 5 2 hS .nil fun a hS => ?_
 have hg0 := hOm15
 rw [MdS.rep S true] at hg0
 have hgn : w0.heap.size ≤ w7.heap.size := Nat.le_trans hb.size hE13.size
 refine ecl 1 (some 10) hS Tryd.call104 #[Sn S w7.heap.size, .func (.func 105) #[] #[(Pv w.heap.size), (Pv w2.heap.size)]] (fixedT_any hG (hb.trans0 hE20) hI hB18 hB19 hg0 hgn (MdS.start S true)) ?_
 rintro _ wc21 ⟨bs21, rfl, hO21, hD21, hEc21⟩
 refine ⟨_, rfl, fun a hS => ?_⟩
 have hE24 := hE20.trans hEc21 (fun b hbM => by simp at hbM; rw [hbM]; exact .inr hE13.size)
 refine sd ww [.p] [] [(4, Sn S w7.heap.size)] [] 7 0 hS .nil fun a hS => sge hK14 <| wpIn_ret ?_
 refine ret1 hS Tryd.results80 rfl ?_
 exact ⟨_, _, rfl, hO21, hD21, hE13.size, hE24⟩
theorem fixedF_any {w0 w : World} {S : Sp} (hG : SpOk w0 S) (hb : Ext [] w0 w) (hI : Ix S) {cp g sb fb : Nat} {bs : List Bool} (hsb : Blk w sb 26 S.ca) (hfb : Blk w fb 59 #[.func (.func 89) #[] #[]]) (hg : OwnR w 4 1 g cp S.ns.length (bls bs)) (hgn : w0.heap.size ≤ g) (hs : MdS S false bs) :
  Calls Tryd.prog 104 #[Sl g S.ns.length cp, .func (.func 105) #[] #[(Pv sb), (Pv fb)]] w fun e w' => ∃ bs', e = .returned (Sl g S.ns.length cp) ∧ OwnR w' 4 1 g cp S.ns.length (bls bs') ∧ IsD S.g false S.ns.length bs' ∧ Ext [g] w w' := by
 refine cbd 17 [(0, Sl g S.ns.length cp), (1, .func (.func 105) #[] #[(Pv sb), (Pv fb)])] Tryd.func104 rfl fun a hS => ?_
 have hE0 : Ext [g] w w := Ext.refl _ _
 refine sdq 1 [.p] [] [(4, .slice none 0 0)] [] hS .nil fun a hS => wpIn_block ?_
 have hbl2 := (hb.t1 hE0 hgn)
 refine loop_ghost (fun (bs1 : (List Bool)) a' w' => St 17 [] [(0, Sl g S.ns.length cp), (1, .func (.func 105) #[] #[(Pv sb), (Pv fb)])] a' ∧ Ext [g] w w' ∧ OwnR w' 4 1 g cp S.ns.length (bls bs1) ∧ MdS S false bs1) (fun (bs1 : (List Bool)) => falses bs1) bs ⟨hS.keepTo [0, 1] (by kernel_rfl), Ext.refl _ _, hg, hs⟩ ?_
 rintro bs1 a wl2 ⟨hS, hXl2, hg1, hs1⟩
 have hB3 := hsb.ext hXl2 (by simpa using (OwnR.ne_type hg hsb (by decide)).symm)
 have hB4 := hfb.ext hXl2 (by simpa using (OwnR.ne_type hg hfb (by decide)).symm)
 refine wpIn_block <| sq fun K5 hK5 => rgn 8 <| sd ww [.p, .p] [] [(8, .func (.func 105) #[] #[(Pv sb), (Pv fb)]), (9, Sl g S.ns.length cp)] [] 2 6 hS .nil fun a hS => eff_call ww (r := 5) (f := 105) (vs := [Sl g S.ns.length cp]) (cap := #[(Pv sb), (Pv fb)]) (d := (some 10)) hS (by kernel_rfl) Tryd.call105 #[Sl g S.ns.length cp, (Pv sb), (Pv fb)] (by kernel_rfl) (made1F_any hG (hbl2.t1 hXl2 hgn) hI hB3 hB4 hg1 hgn hs1) ?_
 rintro _ wc6 ⟨bs6, gr6, rfl, hO6, hP6, hEc6⟩
 refine ⟨_, rfl, fun a hS => ?_⟩
 have hE9 := hXl2.trans hEc6 (fun b hbM => by simp at hbM; rw [hbM]; exact .inl (by simp))
 refine sd ww [.p, .p, .p, .p, .p] [] [(5, Sl g S.ns.length cp), (6, .bool gr6)] [] 8 0 hS .nil fun a hS => sge hK5 <| sq fun K10 hK10 => sdq 2 [.p, .p] [] [(14, .bool (!gr6))] [] hS .nil fun a hS => ?_
 refine cond_b hS rfl (fun hb12 => ?_) (fun hb12 => ?_)
 ·
  replace hb12 := hb12
  have hgr : gr6 = false := by simpa using hb12
  have hEl2 : Ext [g] w wc6 := hE0.trans hE9 (fun b hbM => by simp at hbM; rw [hbM]; exact .inl (by simp))
  refine sdq 2 [.p, .p] [] [(4, Sl g S.ns.length cp)] [] hS .nil fun a hS => wpIn_ret <| then_ret <| inBlock_ret <| then_ret <| inBlock_ret ?_
  refine ret1 hS Tryd.results104 rfl ?_
  exact ⟨_, rfl, hO6, MdP.isD hP6.snd fun j hj => (hP6.cl hgr).2 j hj, hEl2⟩
 ·
  replace hb12 := hb12
  have hgr : gr6 = true := by simpa using hb12
  refine wpIn_skip <| hK10 _ _ <| rgn 2 <| sd ww [.p, .p] [] [] [] 2 0 hS .nil fun a hS => seg_end <| inBlock_normal ?_
  exact ⟨bs6, ⟨hS.kp [(0, Sl g S.ns.length cp), (1, .func (.func 105) #[] #[(Pv sb), (Pv fb)])], hE9, hO6, hP6.snd⟩, hP6.lt hgr⟩
theorem madeF_any {w0 w : World} {S : Sp} (hG : SpOk w0 S) (hb : Ext [] w0 w) (hI : Ix S) :
  Calls Tryd.prog 80 #[.agg S.ca, .func (.func 89) #[] #[]] w fun e w' => ∃ g bs, e = .returned (Sn S g) ∧ OwnR w' 4 1 g S.ns.length S.ns.length (bls bs) ∧ IsD S.g false S.ns.length bs ∧ w.heap.size ≤ g ∧ Ext [] w w' := by
 have hlmax := hG.lmax
 have hnmax := hG.nmax
 have hpmax := hG.pmax
 refine cbd 11 [(0, .agg S.ca), (1, .func (.func 89) #[] #[])] Tryd.func80 rfl fun a hS => ?_
 have hE0 : Ext [] w w := Ext.refl _ _
 refine sq fun K1 hK1 => rgn 3 <| ebx 2 S.ca 26 (some 2) hS fun a w2 hw3 hS => ?_
 have hB4 := Blk.nw hw3
 have hs5 := hE0.size
 have hE6 := hE0.al hw3
 refine ebx 1 #[.func (.func 89) #[] #[]] 59 (some 3) hS fun a w7 hw8 hS => ?_
 have hB10 := Blk.at' hw8 (hB4.alloc _)
 have hB11 := Blk.nw hw8
 have hs12 := hE6.size
 have hE13 := hE6.al hw8
 refine sd ww [.p] [] [(4, .slice none 0 0)] [] 3 0 hS .nil fun a hS => sge hK1 <| sq fun K14 hK14 => rgn 7 <| sd ww [.p, .ld (S.nv), .run (I6 S.ns.length)] [_, Rv (Builtin.len_ #[23] 3 #[S.nv]) (I6 S.ns.length) w7] [(7, I6 S.ns.length)] [] 3 4 hS (hB10.k 1 (.c (rlr 9 hG.names) .nil)) fun a hS => ?_
 obtain ⟨wm15, hrm15, hOm15, hEm15, hsm15⟩ := make_full (P := Tryd.prog) (w := w7) (T := 31) (E := 4) (size := 1) (bytes := 1) (z := #[.bool false]) (Value.bool false) (l := S.ns.length) (by kernel_rfl) (by kernel_rfl) (by rfl) (by omega) (by omega) (by omega)
 refine eff_run ww (r := 3) (s := vS (Instr.makeSlice 31 (I6 S.ns.length) (I6 S.ns.length))) (d := (some 8)) (v := Sn S w7.heap.size) hS (by kernel_rfl) hrm15 fun a hS => ?_
 have hB18 := hB10.ext hEm15 (by simp)
 have hB19 := hB11.ext hEm15 (by simp)
 have hE20 := hE13.trans0 hEm15
 refine sd ww [.p] [] [(9, .func (.func 105) #[] #[(Pv w.heap.size), (Pv w2.heap.size)])] [] 5 2 hS .nil fun a hS => ?_
 have hg0 := hOm15
 rw [MdS.rep S false] at hg0
 have hgn : w0.heap.size ≤ w7.heap.size := Nat.le_trans hb.size hE13.size
 refine ecl 1 (some 10) hS Tryd.call104 #[Sn S w7.heap.size, .func (.func 105) #[] #[(Pv w.heap.size), (Pv w2.heap.size)]] (fixedF_any hG (hb.trans0 hE20) hI hB18 hB19 hg0 hgn (MdS.start S false)) ?_
 rintro _ wc21 ⟨bs21, rfl, hO21, hD21, hEc21⟩
 refine ⟨_, rfl, fun a hS => ?_⟩
 have hE24 := hE20.trans hEc21 (fun b hbM => by simp at hbM; rw [hbM]; exact .inr hE13.size)
 refine sd ww [.p] [] [(4, Sn S w7.heap.size)] [] 7 0 hS .nil fun a hS => sge hK14 <| wpIn_ret ?_
 refine ret1 hS Tryd.results80 rfl ?_
 exact ⟨_, _, rfl, hO21, hD21, hE13.size, hE24⟩
theorem nullable_any {w0 w : World} {S : Sp} (hG : SpOk w0 S) (hb : Ext [] w0 w) (hI : Ix S) :
  Calls Tryd.prog 52 #[.agg S.ca] w fun e w' => ∃ g bs, e = .returned (Sn S g) ∧ OwnR w' 4 1 g S.ns.length S.ns.length (bls bs) ∧ IsD S.g false S.ns.length bs ∧ w.heap.size ≤ g ∧ Ext [] w w' := by
 refine cbd 5 [(0, .agg S.ca)] Tryd.func52 rfl fun a hS => ?_
 have hE0 : Ext [] w w := Ext.refl _ _
 refine sq fun K1 hK1 => rgn 2 <| ebx 1 S.ca 26 (some 1) hS fun a w2 hw3 hS => ?_
 have hB4 := Blk.nw hw3
 have hs5 := hE0.size
 have hE6 := hE0.al hw3
 refine sd ww [.p] [] [(2, .slice none 0 0)] [] 2 0 hS .nil fun a hS => sge hK1 <| sq fun K7 hK7 => rgn 3 <| sd ww [.lds [S.lv, S.nv, I6 S.st, S.pv]] [_, _, _, _] [(3, .agg S.ca)] [] 1 2 hS (hB4.k 0 (hB4.k 1 (hB4.k 2 (hB4.k 3 .nil)))) fun a hS => ecl 1 (some 4) hS Tryd.call80 #[.agg S.ca, .func (.func 89) #[] #[]] (madeF_any hG (hb.trans0 hE6) hI) ?_
 rintro _ wc8 ⟨g8, bs8, rfl, hO8, hD8, hgn8, hEc8⟩
 refine ⟨_, rfl, fun a hS => ?_⟩
 have hE10 := hE6.trans0 hEc8
 refine sd ww [.p] [] [(2, Sn S g8)] [] 3 0 hS .nil fun a hS => sge hK7 <| wpIn_ret ?_
 refine ret1 hS Tryd.results52 rfl ?_
 exact ⟨_, _, rfl, hO8, hD8, Nat.le_trans hE6.size hgn8, hE10⟩
end Go.Proofs.YtkkpghlcmcaoiaaDoor
