import Derived.Test.YtkkpghlcmcaoiaaDoorS40
import Derived.Test.YtkkpghlcmcaoiaaDoorS3
import Derived.Test.YtkkpghlcmcaoiaaDoorS4
namespace Go.Proofs.YtkkpghlcmcaoiaaDoor
open Go.Vc Go.Gm
theorem Stp.more {X : Type} {Snd : X → Prop} {Cl : Nat → X → Prop} {mu : X → Nat} {i : Nat} {x0 x : X} {gr : Bool} (h : Stp Snd Cl mu i x0 x gr) : 2 * mu x + gr.toNat < 2 * mu x0 + true.toNat := by
 cases gr with
 | false => rw [(h.cl rfl).1]; simp
 | true => have := h.lt rfl; omega
theorem okA_false {bs : List Bool} {r : List Sm} : okA false bs r = (okA true bs r && r.all Sm.isM) := by
 unfold okA
 rw [Bool.eq_iff_iff]
 simp only [List.all_eq_true, Bool.and_eq_true]
 constructor
 ·intro h
  exact ⟨fun x hx => by have := h x hx; cases x <;> simp_all [okS], fun x hx => by have := h x hx; cases x <;> simp_all [okS, Sm.isM]⟩
 ·rintro ⟨h, h'⟩ x hx
  have h1 := h x hx
  have h2 := h' x hx
  cases x <;> simp_all [okS, Sm.isM]
theorem all_r {w0 w : World} {S : Sp} (hG : SpOk w0 S) (hb : Ext [] w0 w) (hI : Ix S) {p : Pd} (hpm : p ∈ S.ps) {g cp : Nat} {bs : List Bool} (hg : OwnR w 4 1 g cp S.ns.length (bls bs)) :
  Calls Tryd.prog 63 #[.agg #[I6 p.l, p.rv], Sl g S.ns.length cp] w fun e w' => e = .returned (.bool (okA true bs (row p.r))) ∧ Ext [] w w' := by
 have hlmax := hG.lmax
 have hnmax := hG.nmax
 have hpmax := hG.pmax
 have hrm := hG.rmax p hpm
 have hbl : bs.length = S.ns.length := by have := hg.len; rw [bls_len] at this; omega
 refine cbd 32 [(0, .agg #[I6 p.l, p.rv]), (1, Sl g S.ns.length cp)] Tryd.func63 rfl fun a hS => ?_
 have hE0 : Ext [] w w := Ext.refl _ _
 refine sq fun K1 hK1 => rgn 2 <| ebx 1 #[I6 p.l, p.rv] 73 (some 2) hS fun a w2 hw3 hS => ?_
 have hB5 := OwnR.at' hw3 (hg.alloc _)
 have hB6 := Blk.nw hw3
 have hs7 := hE0.size
 have hE8 := hE0.al hw3
 refine sd ww [.p] [] [(4, .bool false)] [] 2 0 hS .nil fun a hS => sge hK1 <| sq fun K9 hK9 => sdq 1 [.p] [] [(5, I6 0)] [] hS .nil fun a hS => wpIn_block ?_
 have hbl11 := (hb.trans0 hE8)
 refine loop_ghost (fun (k : Nat) a' w' => St 32 [] [(1, Sl g S.ns.length cp), (2, (Pv w.heap.size)), (5, I6 k)] a' ∧ Ext [] w2 w' ∧ k ≤ p.r.length ∧ okA true bs (row p.r) = okA true bs ((row p.r).drop k)) (fun (k : Nat) => p.r.length - k) 0 ⟨hS.keepTo [1, 2, 5] (by kernel_rfl), Ext.refl _ _, by omega, rfl⟩ ?_
 rintro k a wl11 ⟨hS, hXl11, hk, ha⟩
 have hB12 := hB5.ext hXl11 (by simp)
 have hB13 := hB6.ext hXl11 (by simp)
 refine sq fun K14 hK14 => sdq 5 [.p, .p, .ld (p.rv), .run (I6 p.r.length), .p] [_, Rv (Builtin.len_ #[71] 3 #[p.rv]) (I6 p.r.length) wl11] [(10, .bool (decide ((↑k : Int) < ↑p.r.length)))] [] hS (hB13.k 1 (.c (rlr 61 (hG.right p hpm)) .nil)) fun a hS => ?_
 refine cond_b hS rfl (fun hb16 => ?_) (fun hb16 => ?_)
 ·
  replace hb16 := of_decide_eq_true hb16
  obtain ⟨x, hxk⟩ : ∃ x, p.r[k]? = some x := gE
  have hxm := List.mem_of_getElem? hxk
  rw [okA_step hxk] at ha
  refine wpIn_skip <| hK14 _ _ <| sq fun K17 hK17 => wpIn_block <| sq fun K18 hK18 => ?_
  rcases (show (x.1 = 3 ∧ bs[x.2.toNat]? = some true) ∨ (x.1 = 3 ∧ bs[x.2.toNat]? = some false) ∨ (x.1 ≠ 3) from md_cases hbl (fun h => hI.name hpm hxm h)) with ⟨h1, h2⟩ | ⟨h1, h2⟩ | h1
  ·
   have hxx := hI.name hpm hxm h1
   rw [okS_m h1 h2] at ha
   rw [Bool.true_and] at ha
   refine rgn 19 <| sd ww [.p, .ld (p.rv), .p, .run ((Po (bof p.rv) (oof p.rv + k * 2))), .p, .ld (I6 x.1), .as (.bool true), .p, .p, .p, .ld (p.rv), .p, .run ((Po (bof p.rv) (oof p.rv + k * 2))), .p, .ld (I6 x.2), .run ((Po g (0 + x.2.toNat * 1))), .ld (.bool true), .p, .p] [_, Rv (Instr.indexAt 71 (p.rv) (I6 k)) ((Po (bof p.rv) (oof p.rv + k * 2))) wl11, wl11.cell? ⟨bof p.rv, oof p.rv + k * 2, none⟩ = some (I6 x.1), Value.bool (((x.1 : Int) == 3)) = .bool true, _, Rv (Instr.indexAt 71 (p.rv) (I6 k)) ((Po (bof p.rv) (oof p.rv + k * 2))) wl11, wl11.cell? ⟨bof p.rv, oof p.rv + k * 2 + 1, none⟩ = some (I6 x.2), Rv (Instr.indexAt 31 (Sl g S.ns.length cp) (I6 x.2)) ((Po g (0 + x.2.toNat * 1))) wl11, wl11.cell? ⟨g, 0 + x.2.toNat * 1, none⟩ = some (.bool true)] [(31, .bool false)] [] 19 0 hS (hB13.k 1 (.c (ixr 61 k (hG.right p hpm)) (.c (((hG.right p hpm).ext0 (hbl11.trans0 hXl11)).cellAt (k * 2 + 0) (by omega) (ycells_at p.r k 0 x hxk (by omega))) (.c (as_eq_t (by omega)) (hB13.k 1 (.c (ixr 61 k (hG.right p hpm)) (.c (((hG.right p hpm).ext0 (hbl11.trans0 hXl11)).cellAt (k * 2 + 1) (by omega) (ycells_at p.r k 1 x hxk (by omega))) (.c (ixz 4 1 x.2) (.c ((hB12).cellAt _ (bls_at h2)) .nil))))))))) fun a hS => sge hK18 ?_
   refine cond_f hS rfl ?_
   refine wpIn_skip <| inBlock_normal <| hK17 _ _ <| rgn 3 <| sd ww [.p, .as (I6 (↑k + 1)), .p] [_] [(5, I6 (↑k + 1))] [] 3 0 hS (as6 (↑k + 1)) fun a hS => seg_end ?_
   exact ⟨k + 1, ⟨hS.kp [(1, Sl g S.ns.length cp), (2, (Pv w.heap.size)), (5, I6 (↑k + 1))], hXl11, by omega, ha⟩, by omega⟩
  ·
   have hxx := hI.name hpm hxm h1
   rw [okS_m h1 h2] at ha
   have hEl11 : Ext [] w wl11 := hE8.trans0 hXl11
   refine rgn 19 <| sd ww [.p, .ld (p.rv), .p, .run ((Po (bof p.rv) (oof p.rv + k * 2))), .p, .ld (I6 x.1), .as (.bool true), .p, .p, .p, .ld (p.rv), .p, .run ((Po (bof p.rv) (oof p.rv + k * 2))), .p, .ld (I6 x.2), .run ((Po g (0 + x.2.toNat * 1))), .ld (.bool false), .p, .p] [_, Rv (Instr.indexAt 71 (p.rv) (I6 k)) ((Po (bof p.rv) (oof p.rv + k * 2))) wl11, wl11.cell? ⟨bof p.rv, oof p.rv + k * 2, none⟩ = some (I6 x.1), Value.bool (((x.1 : Int) == 3)) = .bool true, _, Rv (Instr.indexAt 71 (p.rv) (I6 k)) ((Po (bof p.rv) (oof p.rv + k * 2))) wl11, wl11.cell? ⟨bof p.rv, oof p.rv + k * 2 + 1, none⟩ = some (I6 x.2), Rv (Instr.indexAt 31 (Sl g S.ns.length cp) (I6 x.2)) ((Po g (0 + x.2.toNat * 1))) wl11, wl11.cell? ⟨g, 0 + x.2.toNat * 1, none⟩ = some (.bool false)] [(31, .bool true)] [] 19 0 hS (hB13.k 1 (.c (ixr 61 k (hG.right p hpm)) (.c (((hG.right p hpm).ext0 (hb.trans0 hEl11)).cellAt (k * 2 + 0) (by omega) (ycells_at p.r k 0 x hxk (by omega))) (.c (as_eq_t (by omega)) (hB13.k 1 (.c (ixr 61 k (hG.right p hpm)) (.c (((hG.right p hpm).ext0 (hb.trans0 hEl11)).cellAt (k * 2 + 1) (by omega) (ycells_at p.r k 1 x hxk (by omega))) (.c (ixz 4 1 x.2) (.c ((hB12).cellAt _ (bls_at h2)) .nil))))))))) fun a hS => sge hK18 ?_
   refine cond_t hS rfl ?_
   refine sdq 1 [.p] [] [(4, .bool false)] [] hS .nil fun a hS => wpIn_ret <| inBlock_ret <| then_ret <| then_ret <| inBlock_ret <| then_ret ?_
   refine ret1 hS Tryd.results63 rfl ?_
   exact ⟨by rw [ha]; rfl, hEl11⟩
  ·
   rw [okS_o h1, Bool.true_and] at ha
   refine rgn 19 <| sd ww [.p, .ld (p.rv), .p, .run ((Po (bof p.rv) (oof p.rv + k * 2))), .p, .ld (I6 x.1), .as (.bool false), .p, .no, .no, .no, .no, .no, .no, .no, .no, .no, .no, .p] [_, Rv (Instr.indexAt 71 (p.rv) (I6 k)) ((Po (bof p.rv) (oof p.rv + k * 2))) wl11, wl11.cell? ⟨bof p.rv, oof p.rv + k * 2, none⟩ = some (I6 x.1), Value.bool (((x.1 : Int) == 3)) = .bool false] [(31, .bool false)] [] 19 0 hS (hB13.k 1 (.c (ixr 61 k (hG.right p hpm)) (.c (((hG.right p hpm).ext0 (hbl11.trans0 hXl11)).cellAt (k * 2 + 0) (by omega) (ycells_at p.r k 0 x hxk (by omega))) (.c (as_eq_f (by omega)) .nil)))) fun a hS => sge hK18 ?_
   refine cond_f hS rfl ?_
   refine wpIn_skip <| inBlock_normal <| hK17 _ _ <| rgn 3 <| sd ww [.p, .as (I6 (↑k + 1)), .p] [_] [(5, I6 (↑k + 1))] [] 3 0 hS (as6 (↑k + 1)) fun a hS => seg_end ?_
   exact ⟨k + 1, ⟨hS.kp [(1, Sl g S.ns.length cp), (2, (Pv w.heap.size)), (5, I6 (↑k + 1))], hXl11, by omega, ha⟩, by omega⟩
 ·
  replace hb16 := of_decide_eq_false hb16
  have hEl11 : Ext [] w wl11 := hE8.trans0 hXl11
  rw [List.drop_eq_nil_of_le (by rw [row_len]; omega)] at ha
  refine xt2 <| hK9 _ _ <| sdq 1 [.p] [] [(4, .bool true)] [] hS .nil fun a hS => wpIn_ret ?_
  refine ret1 hS Tryd.results63 rfl ?_
  exact ⟨by rw [ha]; rfl, hEl11⟩
set_option maxHeartbeats 1000000 in
theorem Nullable_r {w0 w : World} {S : Sp} (hG : SpOk w0 S) (hb : Ext [] w0 w) (hI : Ix S) :
  Calls Tryd.prog 22 #[.agg S.ca] w fun e w' => ∃ g bs, e = .returned (Sn S g) ∧ OwnR w' 4 1 g S.ns.length S.ns.length (bls bs) ∧ IsD S.g false S.ns.length bs ∧ w.heap.size ≤ g ∧ Ext [] w w' := by
 have hlmax := hG.lmax
 have hnmax := hG.nmax
 have hpmax := hG.pmax
 refine cbd 60 [(0, .agg S.ca)] Tryd.func22 rfl fun a hS => ?_
 have hE0 : Ext [] w w := Ext.refl _ _
 refine sq fun K1 hK1 => rgn 2 <| ebx 1 S.ca 26 (some 1) hS fun a w2 hw3 hS => ?_
 have hB4 := Blk.nw hw3
 have hs5 := hE0.size
 have hE6 := hE0.al hw3
 refine sd ww [.p] [] [(2, .slice none 0 0)] [] 2 0 hS .nil fun a hS => sge hK1 <| sq fun K7 hK7 => rgn 5 <| sd ww [.p, .ld (S.nv), .run (I6 S.ns.length)] [_, Rv (Builtin.len_ #[23] 3 #[S.nv]) (I6 S.ns.length) w2] [(11, I6 S.ns.length)] [] 3 2 hS (hB4.k 1 (.c (rlr 9 hG.names) .nil)) fun a hS => ?_
 obtain ⟨wm8, hrm8, hOm8, hEm8, hsm8⟩ := make_full (P := Tryd.prog) (w := w2) (T := 31) (E := 4) (size := 1) (bytes := 1) (z := #[.bool false]) (Value.bool false) (l := S.ns.length) (by kernel_rfl) (by kernel_rfl) (by rfl) (by omega) (by omega) (by omega)
 refine eff_run ww (r := 1) (s := vS (Instr.makeSlice 31 (I6 S.ns.length) (I6 S.ns.length))) (d := (some 12)) (v := Sn S w2.heap.size) hS (by kernel_rfl) hrm8 fun a hS => ?_
 have hn8_8 := Nat.ne_of_lt hB4.lt
 have hB10 := hB4.ext hEm8 (by simp)
 have hE11 := hE6.trans0 hEm8
 have hg0 := hOm8
 rw [MdS.rep S false] at hg0
 have hgn0 : w0.heap.size ≤ w2.heap.size := Nat.le_trans hb.size hE6.size
 refine sd ww [.p] [] [(3, Sn S w2.heap.size)] [] 5 0 hS .nil fun a hS => sge hK7 <| sq fun K12 hK12 => sdq 1 [.p] [] [(4, .bool true)] [] hS .nil fun a hS => wpIn_block ?_
 have hbl14 := (hb.trans0 hE11)
 refine loop_ghost (fun ((bs, mo) : (List Bool) × Bool) a' w' => St 60 [] [(1, (Pv w.heap.size)), (3, Sn S w2.heap.size), (4, .bool mo)] a' ∧ Ext [w2.heap.size] wm8 w' ∧ OwnR w' 4 1 (w2.heap.size) S.ns.length S.ns.length (bls bs) ∧ MdS S false bs ∧ (mo = false → ∀ j, j < S.ps.length → MdC S false j bs)) (fun ((bs, mo) : (List Bool) × Bool) => 2 * falses bs + mo.toNat) ((List.replicate S.ns.length false), true) ⟨hS.keepTo [1, 3, 4] (by kernel_rfl), Ext.refl _ _, hg0, .start _ _, fun h => by cases h⟩ ?_
 rintro ⟨bs, mo⟩ a wl14 ⟨hS, hXl14, hg1, hs1, hc1⟩
 have hB15 := hB10.ext hXl14 (by simpa using hn8_8)
 refine sq fun K16 hK16 => sdq 1 [.p] [] [(13, .bool mo)] [] hS .nil fun a hS => ?_
 refine cond_b hS rfl (fun hb18 => ?_) (fun hb18 => ?_)
 ·
  replace hb18 := hb18
  have hmo : mo = true := hb18
  refine wpIn_skip <| hK16 _ _ <| wpIn_block <| sdq 1 [.p] [] [(4, .bool false)] [] hS .nil fun a hS => sdq 1 [.p] [] [(5, I6 0)] [] hS .nil fun a hS => wpIn_block ?_
  have hbl21 : Ext [] w0 wl14 := (hbl14.t1 hXl14 hgn0)
  refine loop_ghost (fun ((i, bs1, gr) : Nat × (List Bool) × Bool) a' w' => St 60 [] [(1, (Pv w.heap.size)), (3, Sn S w2.heap.size), (4, .bool gr), (5, I6 i)] a' ∧ Ext [w2.heap.size] wl14 w' ∧ i ≤ S.ps.length ∧ OwnR w' 4 1 (w2.heap.size) S.ns.length S.ns.length (bls bs1) ∧ MdP S false i bs bs1 gr) (fun ((i, bs1, gr) : Nat × (List Bool) × Bool) => S.ps.length - i) (0, bs, false) ⟨hS.keepTo [1, 3, 4, 5] (by kernel_rfl), Ext.refl _ _, by omega, hg1, .start hs1⟩ ?_
  rintro ⟨i, bs1, gr⟩ a wl21 ⟨hS, hXl21, hi, hg2, hP⟩
  have hB22 := hB15.ext hXl21 (by simpa using hn8_8)
  refine sq fun K23 hK23 => sdq 5 [.p, .p, .ld (S.pv), .run (I6 S.ps.length), .p] [_, Rv (Builtin.len_ #[24] 3 #[S.pv]) (I6 S.ps.length) wl21] [(18, .bool (decide ((↑i : Int) < ↑S.ps.length)))] [] hS (hB22.k 3 (.c (rlr 73 hG.prods) .nil)) fun a hS => ?_
  refine cond_b hS rfl (fun hb25 => ?_) (fun hb25 => ?_)
  ·
   replace hb25 := of_decide_eq_true hb25
   obtain ⟨p, hpi⟩ : ∃ p, S.ps[i]? = some p := gE
   have hpm := List.mem_of_getElem? hpi
   have hrm := hG.rmax p hpm
   have hpl := hI.pl hpm
   have hbl := hP.snd.1
   refine wpIn_skip <| hK23 _ _ <| sq fun K26 hK26 => wpIn_block <| sq fun K27 hK27 => rgn 7 <| sd ww [.p, .ld (S.pv), .p, .run ((Po (bof S.pv) (oof S.pv + i * 2))), .lds [I6 p.l, p.rv]] [_, Rv (Instr.indexAt 24 (S.pv) (I6 i)) ((Po (bof S.pv) (oof S.pv + i * 2))) wl21, wl21.cell? ⟨bof S.pv, oof S.pv + i * 2, none⟩ = some (I6 p.l), wl21.cell? ⟨bof S.pv, oof S.pv + i * 2 + 1, none⟩ = some (p.rv)] [(25, .agg #[I6 p.l, p.rv])] [] 5 2 hS (hB22.k 3 (.c (ixr 73 i hG.prods) (.c ((hG.prods.ext0 (hbl21.t1 hXl21 hgn0)).cellAt (i * 2 + 0) (by omega) (pcells_at S.ps i 0 p hpi (by omega))) (.c ((hG.prods.ext0 (hbl21.t1 hXl21 hgn0)).cellAt (i * 2 + 1) (by omega) (pcells_at S.ps i 1 p hpi (by omega))) .nil)))) fun a hS => ebx 1 #[I6 0, .slice none 0 0] 73 (some 6) hS fun a w28 hw29 hS => ?_
   have hn31 := Nat.ne_of_lt hg2.lt
   have hB33 := OwnR.at' hw29 (hg2.alloc _)
   have hB34 := Blk.nw hw29
   have hs35 := hXl21.size
   have hE36 := hXl21.al hw29
   refine est 0 wl21.heap.size 0 [I6 p.l, p.rv] hS hB34 fun a w37 hw38 hS => ?_
   have hB40 := OwnR.at' hw38 (hB33.updNe (Ne.symm hn31) _ _)
   have hB41 : Blk w37 wl21.heap.size 73 (#[I6 p.l, p.rv]) := hB34.up hw38
   have hE42 := hE36.ui hw38 hs35
   refine sge hK27 <| sq fun K43 hK43 => rgn 4 <| sd ww [.lds [I6 p.l, p.rv], .p] [_, _] [(26, .agg #[I6 p.l, p.rv]), (27, Sn S w2.heap.size)] [] 2 2 hS (hB41.k 0 (hB41.k 1 .nil)) fun a hS => ecl 1 (some 28) hS Tryd.call63 #[.agg #[I6 p.l, p.rv], Sn S w2.heap.size] (all_r hG (hbl21.t1 hE42 hgn0) hI hpm hB40) ?_
   rintro _ wc44 ⟨rfl, hEc44⟩
   refine ⟨_, rfl, fun a hS => ?_⟩
   have hB46 := hB40.ext hEc44 (by simp)
   have hB47 := hB41.ext hEc44 (by simp)
   have hE48 := hE42.trans0 hEc44
   refine sd ww [.p] [] [(7, .bool (okA true bs1 (row p.r)))] [] 4 0 hS .nil fun a hS => sge hK43 <| sq fun K49 hK49 => sdq 1 [.p] [] [(8, I6 0)] [] hS .nil fun a hS => wpIn_block ?_
   have hbl51 : Ext [] w0 wc44 := (hbl21.t1 hE48 hgn0)
   refine loop_ghost (fun ((k, em) : Nat × Bool) a' w' => St 60 [] [(1, (Pv w.heap.size)), (3, Sn S w2.heap.size), (4, .bool gr), (5, I6 i), (6, (Pv wl21.heap.size)), (7, .bool em), (8, I6 k)] a' ∧ Ext [] wc44 w' ∧ k ≤ p.r.length ∧ em = (okA true bs1 (row p.r) && (row (p.r.take k)).all Sm.isM)) (fun ((k, em) : Nat × Bool) => p.r.length - k) (0, (okA true bs1 (row p.r))) ⟨hS.keepTo [1, 3, 4, 5, 6, 7, 8] (by kernel_rfl), Ext.refl _ _, by omega, by simp [row]⟩ ?_
   rintro ⟨k, em⟩ a wl51 ⟨hS, hXl51, hk, hem⟩
   have hB53 := hB46.ext hXl51 (by simp)
   have hB54 := hB47.ext hXl51 (by simp)
   refine sq fun K55 hK55 => sdq 5 [.p, .p, .ld (p.rv), .run (I6 p.r.length), .p] [_, Rv (Builtin.len_ #[71] 3 #[p.rv]) (I6 p.r.length) wl51] [(33, .bool (decide ((↑k : Int) < ↑p.r.length)))] [] hS (hB54.k 1 (.c (rlr 61 (hG.right p hpm)) .nil)) fun a hS => ?_
   refine cond_b hS rfl (fun hb57 => ?_) (fun hb57 => ?_)
   ·
    replace hb57 := of_decide_eq_true hb57
    obtain ⟨x, hxk⟩ : ∃ x, p.r[k]? = some x := gE
    have hxm := List.mem_of_getElem? hxk
    have hrk : row (p.r.take (k + 1)) = row (p.r.take k) ++ [sm x] := by rw [List.take_add_one, hxk, row, List.map_append]; rfl
    have hsi := sm_isM (x := x)
    refine wpIn_skip <| hK55 _ _ <| sq fun K58 hK58 => wpIn_block ?_
    rcases (show (em = false) ∨ (em = true ∧ x.1 = 3) ∨ (em = true ∧ ¬x.1 = 3) from by
     cases em
     ·exact .inl rfl
     ·exact .inr ((Decidable.em (x.1 = 3)).imp (fun h => ⟨rfl, h⟩) (fun h => ⟨rfl, h⟩))) with hev | ⟨hev, h3⟩ | ⟨hev, h3⟩
    ·
     rw [hev] at hem
     rw [hev] at hS
     refine rgn 11 <| sd ww [.p, .p, .no, .no, .no, .no, .no, .no, .no, .p, .p] [] [] [] 11 0 hS .nil fun a hS => seg_end <| inBlock_normal <| hK58 _ _ <| rgn 3 <| sd ww [.p, .as (I6 (↑k + 1)), .p] [_] [(8, I6 (↑k + 1))] [] 3 0 hS (as6 (↑k + 1)) fun a hS => seg_end ?_
     exact ⟨(k + 1, false), ⟨hS.kp [(1, (Pv w.heap.size)), (3, Sn S w2.heap.size), (4, .bool gr), (5, I6 i), (6, (Pv wl21.heap.size)), (7, .bool false), (8, I6 (↑k + 1))], hXl51, by omega, by rw [hrk, List.all_append, ← Bool.and_assoc, ← hem]; rfl⟩, by simp only; omega⟩
    ·
     rw [hev] at hem
     rw [hev] at hS
     refine rgn 11 <| sd ww [.p, .p, .p, .ld (p.rv), .p, .run ((Po (bof p.rv) (oof p.rv + k * 2))), .p, .ld (I6 x.1), .as (.bool true), .p, .p] [_, Rv (Instr.indexAt 71 (p.rv) (I6 k)) ((Po (bof p.rv) (oof p.rv + k * 2))) wl51, wl51.cell? ⟨bof p.rv, oof p.rv + k * 2, none⟩ = some (I6 x.1), Value.bool (((x.1 : Int) == 3)) = .bool true] [] [] 11 0 hS (hB54.k 1 (.c (ixr 61 k (hG.right p hpm)) (.c (((hG.right p hpm).ext0 (hbl51.trans0 hXl51)).cellAt (k * 2 + 0) (by omega) (ycells_at p.r k 0 x hxk (by omega))) (.c (as_eq_t (by omega)) .nil)))) fun a hS => seg_end <| inBlock_normal <| hK58 _ _ <| rgn 3 <| sd ww [.p, .as (I6 (↑k + 1)), .p] [_] [(8, I6 (↑k + 1))] [] 3 0 hS (as6 (↑k + 1)) fun a hS => seg_end ?_
     exact ⟨(k + 1, true), ⟨hS.kp [(1, (Pv w.heap.size)), (3, Sn S w2.heap.size), (4, .bool gr), (5, I6 i), (6, (Pv wl21.heap.size)), (7, .bool true), (8, I6 (↑k + 1))], hXl51, by omega, by rw [hrk, List.all_append, ← Bool.and_assoc, ← hem]; simp [hsi, h3]⟩, by simp only; omega⟩
    ·
     rw [hev] at hem
     rw [hev] at hS
     refine rgn 11 <| sd ww [.p, .p, .p, .ld (p.rv), .p, .run ((Po (bof p.rv) (oof p.rv + k * 2))), .p, .ld (I6 x.1), .as (.bool false), .p, .p] [_, Rv (Instr.indexAt 71 (p.rv) (I6 k)) ((Po (bof p.rv) (oof p.rv + k * 2))) wl51, wl51.cell? ⟨bof p.rv, oof p.rv + k * 2, none⟩ = some (I6 x.1), Value.bool (((x.1 : Int) == 3)) = .bool false] [(7, .bool false)] [] 11 0 hS (hB54.k 1 (.c (ixr 61 k (hG.right p hpm)) (.c (((hG.right p hpm).ext0 (hbl51.trans0 hXl51)).cellAt (k * 2 + 0) (by omega) (ycells_at p.r k 0 x hxk (by omega))) (.c (as_eq_f (by omega)) .nil)))) fun a hS => seg_end <| inBlock_normal <| hK58 _ _ <| rgn 3 <| sd ww [.p, .as (I6 (↑k + 1)), .p] [_] [(8, I6 (↑k + 1))] [] 3 0 hS (as6 (↑k + 1)) fun a hS => seg_end ?_
     exact ⟨(k + 1, false), ⟨hS.kp [(1, (Pv w.heap.size)), (3, Sn S w2.heap.size), (4, .bool gr), (5, I6 i), (6, (Pv wl21.heap.size)), (7, .bool false), (8, I6 (↑k + 1))], hXl51, by omega, by rw [hrk, List.all_append, ← Bool.and_assoc, ← hem]; simp [hsi, h3]⟩, by simp only; omega⟩
   ·
    replace hb57 := of_decide_eq_false hb57
    have hEl51 : Ext [w2.heap.size] wl14 wl51 := hE48.trans0 hXl51
    rw [List.take_of_length_le (by omega), ← okA_false] at hem
    refine xt2 <| hK49 _ _ <| sq fun K59 hK59 => ?_
    rcases (show (em = false) ∨ (em = true ∧ bs1[p.l.toNat]? = some true) ∨ (em = true ∧ bs1[p.l.toNat]? = some false) from by
     cases em
     ·exact .inl rfl
     ·exact .inr ((bool_cases (by omega)).imp (fun h => ⟨rfl, h⟩) (fun h => ⟨rfl, h⟩))) with hev | ⟨hev, h1⟩ | ⟨hev, h1⟩
    ·
     rw [hev] at hem hS
     refine rgn 9 <| sd ww [.p, .p, .no, .no, .no, .no, .no, .no, .p] [] [(54, .bool false)] [] 9 0 hS .nil fun a hS => sge hK59 ?_
     refine cond_f hS rfl ?_
     refine wpIn_skip <| inBlock_normal <| hK26 _ _ <| rgn 3 <| sd ww [.p, .as (I6 (↑i + 1)), .p] [_] [(5, I6 (↑i + 1))] [] 3 0 hS (as6 (↑i + 1)) fun a hS => seg_end ?_
     exact ⟨(i + 1, bs1, gr), ⟨hS.kp [(1, (Pv w.heap.size)), (3, Sn S w2.heap.size), (4, .bool gr), (5, I6 (↑i + 1))], hEl51, by omega, hB53, hP.skip (.off hpi hem.symm)⟩, by simp only; omega⟩
    ·
     rw [hev] at hem hS
     refine rgn 9 <| sd ww [.p, .p, .p, .p, .ld (I6 p.l), .run ((Po w2.heap.size (0 + p.l.toNat * 1))), .ld (.bool true), .p, .p] [_, Rv (Instr.indexAt 31 (Sn S w2.heap.size) (I6 p.l)) ((Po w2.heap.size (0 + p.l.toNat * 1))) wl51, wl51.cell? ⟨w2.heap.size, 0 + p.l.toNat * 1, none⟩ = some (.bool true)] [(54, .bool false)] [] 9 0 hS (hB54.k 0 (.c (ixz 4 1 p.l) (.c ((hB53).cellAt _ (bls_at h1)) .nil))) fun a hS => sge hK59 ?_
     refine cond_f hS rfl ?_
     refine wpIn_skip <| inBlock_normal <| hK26 _ _ <| rgn 3 <| sd ww [.p, .as (I6 (↑i + 1)), .p] [_] [(5, I6 (↑i + 1))] [] 3 0 hS (as6 (↑i + 1)) fun a hS => seg_end ?_
     exact ⟨(i + 1, bs1, gr), ⟨hS.kp [(1, (Pv w.heap.size)), (3, Sn S w2.heap.size), (4, .bool gr), (5, I6 (↑i + 1))], hEl51, by omega, hB53, hP.skip (.on hpi h1)⟩, by simp only; omega⟩
    ·
     rw [hev] at hem hS
     have ho := hem.symm
     have hbm : (bls bs1).length = S.ns.length := by rw [bls_len]; exact hbl
     refine rgn 9 <| sd ww [.p, .p, .p, .p, .ld (I6 p.l), .run ((Po w2.heap.size (0 + p.l.toNat * 1))), .ld (.bool false), .p, .p] [_, Rv (Instr.indexAt 31 (Sn S w2.heap.size) (I6 p.l)) ((Po w2.heap.size (0 + p.l.toNat * 1))) wl51, wl51.cell? ⟨w2.heap.size, 0 + p.l.toNat * 1, none⟩ = some (.bool false)] [(54, .bool true)] [] 9 0 hS (hB54.k 0 (.c (ixz 4 1 p.l) (.c ((hB53).cellAt _ (bls_at h1)) .nil))) fun a hS => sge hK59 ?_
     refine cond_t hS rfl ?_
     refine sq fun K60 hK60 => rgn 5 <| sd ww [.p, .p, .ld (I6 p.l), .run ((Po w2.heap.size (0 + p.l.toNat * 1)))] [_, Rv (Instr.indexAt 31 (Sn S w2.heap.size) (I6 p.l)) ((Po w2.heap.size (0 + p.l.toNat * 1))) wl51] [(58, (Po w2.heap.size (0 + p.l.toNat * 1)))] [] 4 1 hS (hB54.k 0 (.c (ixz 4 1 p.l) .nil)) fun a hS => eff_store_own ww (r := 0) (b := w2.heap.size) (off := 0 + p.l.toNat * 1) (u := Value.bool true) (xs := (bls bs1)) hS (by kernel_rfl) hB53 (by omega) fun a ws61 hOs61 hEs61 hsz61 hS => ?_
     have hE64 : Ext [w2.heap.size] wl14 ws61 := hEl51.trans hEs61 (fun b hb => by simp at hb; subst hb; exact .inl (by simp))
     refine sge hK60 <| rgn 1 <| sd ww [.p] [] [(4, .bool true)] [] 1 0 hS .nil fun a hS => seg_end <| inBlock_normal <| hK26 _ _ <| rgn 3 <| sd ww [.p, .as (I6 (↑i + 1)), .p] [_] [(5, I6 (↑i + 1))] [] 3 0 hS (as6 (↑i + 1)) fun a hS => seg_end ?_
     have hgs := hOs61
     rw [bls_set] at hgs
     exact ⟨(i + 1, (bs1.set p.l.toNat true), true), ⟨hS.kp [(1, (Pv w.heap.size)), (3, Sn S w2.heap.size), (4, .bool true), (5, I6 (↑i + 1))], hE64, by omega, hgs, hP.set (hP.snd.set hpm (by omega) ho) (count_on h1)⟩, by simp only; omega⟩
  ·
   replace hb25 := of_decide_eq_false hb25
   have hEl21 : Ext [w2.heap.size] wm8 wl21 := hXl14.trans hXl21 (fun b hbM => by simp at hbM; rw [hbM]; exact .inl (by simp))
   have hie : i = S.ps.length := by omega
   rw [hie] at hP
   refine xt2 <| inBlock_normal ?_
   exact ⟨(bs1, gr), ⟨hS.kp [(1, (Pv w.heap.size)), (3, Sn S w2.heap.size), (4, .bool gr)], hEl21, hg2, hP.snd, fun h => (hP.cl h).2⟩, (show 2 * falses bs1 + gr.toNat < 2 * falses bs + mo.toNat from by rw [hmo]; exact hP.more)⟩
 ·
  replace hb18 := hb18
  have hmo : mo = false := by simpa using hb18
  have hEl14 : Ext [] w wl14 := hE11.trans hXl14 (fun b hbM => by simp at hbM; rw [hbM]; exact .inr hE6.size)
  have hD := MdP.isD hs1 (hc1 hmo)
  refine xt2 <| hK12 _ _ <| sdq 2 [.p, .p] [] [(2, Sn S w2.heap.size)] [] hS .nil fun a hS => wpIn_ret ?_
  refine ret1 hS Tryd.results22 rfl ?_
  exact ⟨_, _, rfl, hg1, hD, hE6.size, hEl14⟩
set_option maxHeartbeats 1000000 in
theorem productive_r {w0 w : World} {S : Sp} (hG : SpOk w0 S) (hb : Ext [] w0 w) (hI : Ix S) :
  Calls Tryd.prog 48 #[.agg S.ca] w fun e w' => ∃ bs, IsD S.g true S.ns.length bs ∧ ((0 ≤ fF bs 0 ∧ e = .returned (.tuple #[I6 (fF bs 0), I6 73])) ∨ (fF bs 0 < 0 ∧ e = .returned (.tuple #[I6 0, I6 0]))) ∧ Ext [] w w' := by
 have hlmax := hG.lmax
 have hnmax := hG.nmax
 have hpmax := hG.pmax
 refine cbd 53 [(0, .agg S.ca)] Tryd.func48 rfl fun a hS => ?_
 have hE0 : Ext [] w w := Ext.refl _ _
 refine sq fun K1 hK1 => rgn 3 <| ebx 2 S.ca 26 (some 1) hS fun a w2 hw3 hS => ?_
 have hB4 := Blk.nw hw3
 have hs5 := hE0.size
 have hE6 := hE0.al hw3
 refine sd ww [.p, .p] [] [(2, I6 0), (3, I6 0)] [] 3 0 hS .nil fun a hS => sge hK1 <| sq fun K7 hK7 => rgn 5 <| sd ww [.p, .ld (S.nv), .run (I6 S.ns.length)] [_, Rv (Builtin.len_ #[23] 3 #[S.nv]) (I6 S.ns.length) w2] [(11, I6 S.ns.length)] [] 3 2 hS (hB4.k 1 (.c (rlr 9 hG.names) .nil)) fun a hS => ?_
 obtain ⟨wm8, hrm8, hOm8, hEm8, hsm8⟩ := make_full (P := Tryd.prog) (w := w2) (T := 31) (E := 4) (size := 1) (bytes := 1) (z := #[.bool false]) (Value.bool false) (l := S.ns.length) (by kernel_rfl) (by kernel_rfl) (by rfl) (by omega) (by omega) (by omega)
 refine eff_run ww (r := 1) (s := vS (Instr.makeSlice 31 (I6 S.ns.length) (I6 S.ns.length))) (d := (some 12)) (v := Sn S w2.heap.size) hS (by kernel_rfl) hrm8 fun a hS => ?_
 have hn8_8 := Nat.ne_of_lt hB4.lt
 have hB10 := hB4.ext hEm8 (by simp)
 have hE11 := hE6.trans0 hEm8
 have hg0 := hOm8
 rw [MdS.rep S false] at hg0
 have hgn0 : w0.heap.size ≤ w2.heap.size := Nat.le_trans hb.size hE6.size
 refine sd ww [.p] [] [(4, Sn S w2.heap.size)] [] 5 0 hS .nil fun a hS => sge hK7 <| sq fun K12 hK12 => sdq 1 [.p] [] [(5, .bool true)] [] hS .nil fun a hS => wpIn_block ?_
 have hbl14 := (hb.trans0 hE11)
 refine loop_ghost (fun ((bs, mo) : (List Bool) × Bool) a' w' => St 53 [] [(1, (Pv w.heap.size)), (4, Sn S w2.heap.size), (5, .bool mo)] a' ∧ Ext [w2.heap.size] wm8 w' ∧ OwnR w' 4 1 (w2.heap.size) S.ns.length S.ns.length (bls bs) ∧ MdS S true bs ∧ (mo = false → ∀ j, j < S.ps.length → MdC S true j bs)) (fun ((bs, mo) : (List Bool) × Bool) => 2 * falses bs + mo.toNat) ((List.replicate S.ns.length false), true) ⟨hS.keepTo [1, 4, 5] (by kernel_rfl), Ext.refl _ _, hg0, .start _ _, fun h => by cases h⟩ ?_
 rintro ⟨bs, mo⟩ a wl14 ⟨hS, hXl14, hg1, hs1, hc1⟩
 have hB15 := hB10.ext hXl14 (by simpa using hn8_8)
 refine sq fun K16 hK16 => sdq 1 [.p] [] [(13, .bool mo)] [] hS .nil fun a hS => ?_
 refine cond_b hS rfl (fun hb18 => ?_) (fun hb18 => ?_)
 ·
  replace hb18 := hb18
  have hmo : mo = true := hb18
  refine wpIn_skip <| hK16 _ _ <| wpIn_block <| sdq 1 [.p] [] [(5, .bool false)] [] hS .nil fun a hS => sdq 1 [.p] [] [(6, I6 0)] [] hS .nil fun a hS => wpIn_block ?_
  have hbl21 : Ext [] w0 wl14 := (hbl14.t1 hXl14 hgn0)
  refine loop_ghost (fun ((i, bs1, gr) : Nat × (List Bool) × Bool) a' w' => St 53 [] [(1, (Pv w.heap.size)), (4, Sn S w2.heap.size), (5, .bool gr), (6, I6 i)] a' ∧ Ext [w2.heap.size] wl14 w' ∧ i ≤ S.ps.length ∧ OwnR w' 4 1 (w2.heap.size) S.ns.length S.ns.length (bls bs1) ∧ MdP S true i bs bs1 gr) (fun ((i, bs1, gr) : Nat × (List Bool) × Bool) => S.ps.length - i) (0, bs, false) ⟨hS.keepTo [1, 4, 5, 6] (by kernel_rfl), Ext.refl _ _, by omega, hg1, .start hs1⟩ ?_
  rintro ⟨i, bs1, gr⟩ a wl21 ⟨hS, hXl21, hi, hg2, hP⟩
  have hB22 := hB15.ext hXl21 (by simpa using hn8_8)
  refine sq fun K23 hK23 => sdq 5 [.p, .p, .ld (S.pv), .run (I6 S.ps.length), .p] [_, Rv (Builtin.len_ #[24] 3 #[S.pv]) (I6 S.ps.length) wl21] [(18, .bool (decide ((↑i : Int) < ↑S.ps.length)))] [] hS (hB22.k 3 (.c (rlr 73 hG.prods) .nil)) fun a hS => ?_
  refine cond_b hS rfl (fun hb25 => ?_) (fun hb25 => ?_)
  ·
   replace hb25 := of_decide_eq_true hb25
   obtain ⟨p, hpi⟩ : ∃ p, S.ps[i]? = some p := gE
   have hpm := List.mem_of_getElem? hpi
   have hrm := hG.rmax p hpm
   have hpl := hI.pl hpm
   have hbl := hP.snd.1
   refine wpIn_skip <| hK23 _ _ <| sq fun K26 hK26 => wpIn_block <| sq fun K27 hK27 => rgn 7 <| sd ww [.p, .ld (S.pv), .p, .run ((Po (bof S.pv) (oof S.pv + i * 2))), .lds [I6 p.l, p.rv]] [_, Rv (Instr.indexAt 24 (S.pv) (I6 i)) ((Po (bof S.pv) (oof S.pv + i * 2))) wl21, wl21.cell? ⟨bof S.pv, oof S.pv + i * 2, none⟩ = some (I6 p.l), wl21.cell? ⟨bof S.pv, oof S.pv + i * 2 + 1, none⟩ = some (p.rv)] [(25, .agg #[I6 p.l, p.rv])] [] 5 2 hS (hB22.k 3 (.c (ixr 73 i hG.prods) (.c ((hG.prods.ext0 (hbl21.t1 hXl21 hgn0)).cellAt (i * 2 + 0) (by omega) (pcells_at S.ps i 0 p hpi (by omega))) (.c ((hG.prods.ext0 (hbl21.t1 hXl21 hgn0)).cellAt (i * 2 + 1) (by omega) (pcells_at S.ps i 1 p hpi (by omega))) .nil)))) fun a hS => ebx 1 #[I6 0, .slice none 0 0] 73 (some 7) hS fun a w28 hw29 hS => ?_
   have hn31 := Nat.ne_of_lt hg2.lt
   have hB33 := OwnR.at' hw29 (hg2.alloc _)
   have hB34 := Blk.nw hw29
   have hs35 := hXl21.size
   have hE36 := hXl21.al hw29
   refine est 0 wl21.heap.size 0 [I6 p.l, p.rv] hS hB34 fun a w37 hw38 hS => ?_
   have hB40 := OwnR.at' hw38 (hB33.updNe (Ne.symm hn31) _ _)
   have hB41 : Blk w37 wl21.heap.size 73 (#[I6 p.l, p.rv]) := hB34.up hw38
   have hE42 := hE36.ui hw38 hs35
   refine sge hK27 <| sq fun K43 hK43 => ?_
   rcases (show (bs1[p.l.toNat]? = some true) ∨ (bs1[p.l.toNat]? = some false) from bool_cases (by omega)) with h1 | h1
   ·
    refine rgn 11 <| sd ww [.p, .p, .ld (I6 p.l), .run ((Po w2.heap.size (0 + p.l.toNat * 1))), .ld (.bool true), .p, .p, .no, .no, .no, .p] [_, Rv (Instr.indexAt 31 (Sn S w2.heap.size) (I6 p.l)) ((Po w2.heap.size (0 + p.l.toNat * 1))) w37, w37.cell? ⟨w2.heap.size, 0 + p.l.toNat * 1, none⟩ = some (.bool true)] [(36, .bool false)] [] 11 0 hS (hB41.k 0 (.c (ixz 4 1 p.l) (.c ((hB40).cellAt _ (bls_at h1)) .nil))) fun a hS => sge hK43 ?_
    refine cond_f hS rfl ?_
    refine wpIn_skip <| inBlock_normal <| hK26 _ _ <| rgn 3 <| sd ww [.p, .as (I6 (↑i + 1)), .p] [_] [(6, I6 (↑i + 1))] [] 3 0 hS (as6 (↑i + 1)) fun a hS => seg_end ?_
    exact ⟨(i + 1, bs1, gr), ⟨hS.kp [(1, (Pv w.heap.size)), (4, Sn S w2.heap.size), (5, .bool gr), (6, I6 (↑i + 1))], hE42, by omega, hB40, hP.skip (.on hpi h1)⟩, by simp only; omega⟩
   ·
    refine rgn 11 <| sd ww [.p, .p, .ld (I6 p.l), .run ((Po w2.heap.size (0 + p.l.toNat * 1))), .ld (.bool false), .p, .p, .lds [I6 p.l, p.rv], .p] [_, Rv (Instr.indexAt 31 (Sn S w2.heap.size) (I6 p.l)) ((Po w2.heap.size (0 + p.l.toNat * 1))) w37, w37.cell? ⟨w2.heap.size, 0 + p.l.toNat * 1, none⟩ = some (.bool false), _, _] [(32, .bool true), (33, .agg #[I6 p.l, p.rv]), (34, Sn S w2.heap.size)] [] 9 2 hS (hB41.k 0 (.c (ixz 4 1 p.l) (.c ((hB40).cellAt _ (bls_at h1)) (hB41.k 0 (hB41.k 1 .nil))))) fun a hS => ecl 1 (some 35) hS Tryd.call63 #[.agg #[I6 p.l, p.rv], Sn S w2.heap.size] (all_r hG (hbl21.t1 hE42 hgn0) hI hpm hB40) ?_
    rintro _ wc44 ⟨rfl, hEc44⟩
    refine ⟨_, rfl, fun a hS => ?_⟩
    have hB46 := hB40.ext hEc44 (by simp)
    have hB47 := hB41.ext hEc44 (by simp)
    have hE48 := hE42.trans0 hEc44
    refine sd ww [.p] [] [(36, .bool (okA true bs1 (row p.r)))] [] 11 0 hS .nil fun a hS => sge hK43 ?_
    refine cond_b hS rfl (fun hb49 => ?_) (fun hb49 => ?_)
    ·
     replace hb49 := hb49
     have ho : okA true bs1 (row p.r) = true := hb49
     have hbm : (bls bs1).length = S.ns.length := by rw [bls_len]; exact hbl
     refine sq fun K50 hK50 => rgn 5 <| sd ww [.p, .p, .ld (I6 p.l), .run ((Po w2.heap.size (0 + p.l.toNat * 1)))] [_, Rv (Instr.indexAt 31 (Sn S w2.heap.size) (I6 p.l)) ((Po w2.heap.size (0 + p.l.toNat * 1))) wc44] [(40, (Po w2.heap.size (0 + p.l.toNat * 1)))] [] 4 1 hS (hB47.k 0 (.c (ixz 4 1 p.l) .nil)) fun a hS => eff_store_own ww (r := 0) (b := w2.heap.size) (off := 0 + p.l.toNat * 1) (u := Value.bool true) (xs := (bls bs1)) hS (by kernel_rfl) hB46 (by omega) fun a ws51 hOs51 hEs51 hsz51 hS => ?_
     have hE54 : Ext [w2.heap.size] wl14 ws51 := hE48.trans hEs51 (fun b hb => by simp at hb; subst hb; exact .inl (by simp))
     refine sge hK50 <| rgn 1 <| sd ww [.p] [] [(5, .bool true)] [] 1 0 hS .nil fun a hS => seg_end <| inBlock_normal <| hK26 _ _ <| rgn 3 <| sg ww [.p, .as (I6 (↑i + 1)), .p] [_] [(1, (Pv w.heap.size)), (4, Sn S w2.heap.size), (5, .bool true), (6, I6 (↑i + 1)), (18, .bool (decide ((↑i : Int) < ↑S.ps.length))), (7, (Pv wl21.heap.size)), (36, .bool (okA true bs1 (row p.r)))] 3 0 hS (as6 (↑i + 1)) fun a hS => seg_end ?_
     have hgs := hOs51
     rw [bls_set] at hgs
     exact ⟨(i + 1, (bs1.set p.l.toNat true), true), ⟨hS.kp [(1, (Pv w.heap.size)), (4, Sn S w2.heap.size), (5, .bool true), (6, I6 (↑i + 1))], hE54, by omega, hgs, hP.set (hP.snd.set hpm (by omega) ho) (count_on h1)⟩, by simp only; omega⟩
    ·
     replace hb49 := hb49
     have ho : okA true bs1 (row p.r) = false := by simpa using hb49
     refine wpIn_skip <| inBlock_normal <| hK26 _ _ <| rgn 3 <| sd ww [.p, .as (I6 (↑i + 1)), .p] [_] [(6, I6 (↑i + 1))] [] 3 0 hS (as6 (↑i + 1)) fun a hS => seg_end ?_
     exact ⟨(i + 1, bs1, gr), ⟨hS.kp [(1, (Pv w.heap.size)), (4, Sn S w2.heap.size), (5, .bool gr), (6, I6 (↑i + 1))], hE48, by omega, hB46, hP.skip (.off hpi ho)⟩, by simp only; omega⟩
  ·
   replace hb25 := of_decide_eq_false hb25
   have hEl21 : Ext [w2.heap.size] wm8 wl21 := hXl14.trans hXl21 (fun b hbM => by simp at hbM; rw [hbM]; exact .inl (by simp))
   have hie : i = S.ps.length := by omega
   rw [hie] at hP
   refine xt2 <| inBlock_normal ?_
   exact ⟨(bs1, gr), ⟨hS.kp [(1, (Pv w.heap.size)), (4, Sn S w2.heap.size), (5, .bool gr)], hEl21, hg2, hP.snd, fun h => (hP.cl h).2⟩, (show 2 * falses bs1 + gr.toNat < 2 * falses bs + mo.toNat from by rw [hmo]; exact hP.more)⟩
 ·
  replace hb18 := hb18
  have hmo : mo = false := by simpa using hb18
  have hEl14 : Ext [] w wl14 := hE11.trans hXl14 (fun b hbM => by simp at hbM; rw [hbM]; exact .inr hE6.size)
  have hD := MdP.isD hs1 (hc1 hmo)
  refine xt2 <| hK12 _ _ <| sq fun K55 hK55 => sdq 1 [.p] [] [(8, I6 0)] [] hS .nil fun a hS => wpIn_block ?_
  have hbl := hD.len
  have hbl57 := (hb.trans0 hEl14)
  refine loop_ghost (fun (j : Nat) a' w' => St 53 [] [(1, (Pv w.heap.size)), (4, Sn S w2.heap.size), (8, I6 j)] a' ∧ Ext [] wl14 w' ∧ j ≤ S.ns.length ∧ fF bs 0 = fF (bs.drop j) j) (fun (j : Nat) => S.ns.length - j) 0 ⟨hS.keepTo [1, 4, 8] (by kernel_rfl), Ext.refl _ _, by omega, rfl⟩ ?_
  rintro j a wl57 ⟨hS, hXl57, hj, ha⟩
  have hB59 := hg1.ext hXl57 (by simp)
  refine sq fun K60 hK60 => sdq 4 [.p, .p, .p, .p] [] [(44, .bool (decide ((↑j : Int) < ↑S.ns.length)))] [] hS .nil fun a hS => ?_
  refine cond_b hS rfl (fun hb62 => ?_) (fun hb62 => ?_)
  ·
   replace hb62 := of_decide_eq_true hb62
   refine wpIn_skip <| hK60 _ _ <| sq fun K63 hK63 => wpIn_block <| sq fun K64 hK64 => ?_
   rcases (show (bs[j]? = some true) ∨ (bs[j]? = some false) from bool_cases (by omega)) with h1 | h1
   ·
    rw [fF_step h1] at ha
    refine rgn 5 <| sd ww [.p, .p, .run ((Po w2.heap.size (0 + j * 1))), .ld (.bool true), .p] [Rv (Instr.indexAt 31 (Sn S w2.heap.size) (I6 j)) ((Po w2.heap.size (0 + j * 1))) wl57, wl57.cell? ⟨w2.heap.size, 0 + j * 1, none⟩ = some (.bool true)] [(51, .bool false)] [] 5 0 hS (.c (ixs 4 1 j) (.c ((hB59).cellAt _ (bls_at h1)) .nil)) fun a hS => sge hK64 ?_
    refine cond_f hS rfl ?_
    refine wpIn_skip <| inBlock_normal <| hK63 _ _ <| rgn 3 <| sd ww [.p, .as (I6 (↑j + 1)), .p] [_] [(8, I6 (↑j + 1))] [] 3 0 hS (as6 (↑j + 1)) fun a hS => seg_end ?_
    exact ⟨j + 1, ⟨hS.kp [(1, (Pv w.heap.size)), (4, Sn S w2.heap.size), (8, I6 (↑j + 1))], hXl57, by omega, ha⟩, by omega⟩
   ·
    rw [fF_step h1] at ha
    have hEl57 : Ext [] w wl57 := hEl14.trans0 hXl57
    have hfj : fF bs 0 = j := ha
    refine rgn 5 <| sd ww [.p, .p, .run ((Po w2.heap.size (0 + j * 1))), .ld (.bool false), .p] [Rv (Instr.indexAt 31 (Sn S w2.heap.size) (I6 j)) ((Po w2.heap.size (0 + j * 1))) wl57, wl57.cell? ⟨w2.heap.size, 0 + j * 1, none⟩ = some (.bool false)] [(51, .bool true)] [] 5 0 hS (.c (ixs 4 1 j) (.c ((hB59).cellAt _ (bls_at h1)) .nil)) fun a hS => sge hK64 ?_
    refine cond_t hS rfl ?_
    refine sdq 3 [.p, .p, .p] [] [(2, I6 j), (3, I6 73)] [] hS .nil fun a hS => wpIn_ret <| inBlock_ret <| then_ret <| then_ret <| inBlock_ret <| then_ret ?_
    refine ret2 hS Tryd.results48 rfl rfl ?_
    exact ⟨bs, hD, .inl ⟨by omega, by rw [hfj]⟩, hEl57⟩
  ·
   replace hb62 := of_decide_eq_false hb62
   have hEl57 : Ext [] w wl57 := hEl14.trans0 hXl57
   rw [List.drop_eq_nil_of_le (by omega)] at ha
   have hfj : fF bs 0 = -1 := ha
   refine xt2 <| hK55 _ _ <| sdq 2 [.p, .p] [] [(2, I6 0), (3, I6 0)] [] hS .nil fun a hS => wpIn_ret ?_
   refine ret2 hS Tryd.results48 rfl rfl ?_
   exact ⟨bs, hD, .inr ⟨by omega, rfl⟩, hEl57⟩
end Go.Proofs.YtkkpghlcmcaoiaaDoor
