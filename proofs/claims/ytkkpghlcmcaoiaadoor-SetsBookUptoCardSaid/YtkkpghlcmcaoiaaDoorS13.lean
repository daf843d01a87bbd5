import Derived.Test.YtkkpghlcmcaoiaaDoorS12
import Derived.Test.YtkkpghlcmcaoiaaDoorVw
namespace Go.Proofs.YtkkpghlcmcaoiaaDoor
open Go.Vc Go.Gm
theorem fixedO_any {w0 w : World} {S : Sp} (hG : SpOk w0 S) (hb : Ext [] w0 w) (hI : Ix S) (hlx : S.lx.length ≤ 64) {cw gw gb ge gf tb sb : Nat} {es : List Bool} {ff fs : List Se} (hsb : Blk w sb 26 S.ca) (htb : Blk w tb 106 #[Pv gb]) (hK : Kn S w gb ge gf es ff) (hfs : OwnR w 110 2 gw cw S.ns.length (secs fs)) (hgw : gf ≠ gw) (hgn : w0.heap.size ≤ gw) (hs : FoS S fs) :
  Calls Tryd.prog 56 #[Sl gw S.ns.length cw, .func (.func 57) #[] #[(Pv sb), (Pv tb)]] w fun e w' => ∃ fs', e = .returned (Sl gw S.ns.length cw) ∧ OwnR w' 110 2 gw cw S.ns.length (secs fs') ∧ FoS S fs' ∧ IsO S.g S.nl S.st.toNat (hF fs') ∧ Ext [gw] w w' := by
 refine cbd 17 [(0, Sl gw S.ns.length cw), (1, .func (.func 57) #[] #[(Pv sb), (Pv tb)])] Tryd.func56 rfl fun a hS => ?_
 have hE0 : Ext [gw] w w := Ext.refl _ _
 refine sdq 1 [.p] [] [(4, .slice none 0 0)] [] hS .nil fun a hS => wpIn_block ?_
 have hbl2 := (hb.t1 hE0 hgn)
 refine loop_ghost (fun (fs1 : (List Se)) a' w' => St 17 [] [(0, Sl gw S.ns.length cw), (1, .func (.func 57) #[] #[(Pv sb), (Pv tb)])] a' ∧ Ext [gw] w w' ∧ OwnR w' 110 2 gw cw S.ns.length (secs fs1) ∧ FoS S fs1) (fun (fs1 : (List Se)) => muF fs1) fs ⟨hS.keepTo [0, 1] (by kernel_rfl), Ext.refl _ _, hfs, hs⟩ ?_
 rintro fs1 a wl2 ⟨hS, hXl2, hg1, hs1⟩
 have hB3 := hsb.ext hXl2 (by simpa using (OwnR.ne_type hfs hsb (by decide)).symm)
 have hB4 := htb.ext hXl2 (by simpa using (OwnR.ne_type hfs htb (by decide)).symm)
 have hB5 := hK.gb.ext hXl2 (by simpa using (OwnR.ne_type hfs hK.gb (by decide)).symm)
 have hB6 := hK.re.ext hXl2 (by simpa using (OwnR.neR hK.re hfs (by decide)))
 have hB7 := hK.rf.ext hXl2 (by simpa using hgw)
 refine wpIn_block <| sq fun K8 hK8 => rgn 8 <| sd ww [.p, .p] [] [(8, .func (.func 57) #[] #[(Pv sb), (Pv tb)]), (9, Sl gw S.ns.length cw)] [] 2 6 hS .nil fun a hS => eff_call ww (r := 5) (f := 57) (vs := [Sl gw S.ns.length cw]) (cap := #[(Pv sb), (Pv tb)]) (d := (some 10)) hS (by kernel_rfl) Tryd.call57 #[Sl gw S.ns.length cw, (Pv sb), (Pv tb)] (by kernel_rfl) (follow1_any hG (hbl2.t1 hXl2 hgn) hI hlx hB3 hB4 (⟨hB5, hB6, hB7, hK.hes, hK.hs, hK.hF⟩ : Kn S wl2 gb ge gf es ff) hg1 hgw hgn hs1) ?_
 rintro _ wc9 ⟨fs9, gr9, rfl, hO9, hP9, hEc9⟩
 refine ⟨_, rfl, fun a hS => ?_⟩
 have hE15 := hXl2.trans hEc9 (fun b hbM => by simp at hbM; rw [hbM]; exact .inl (by simp))
 refine sd ww [.p, .p, .p, .p, .p] [] [(5, Sl gw S.ns.length cw), (6, .bool gr9)] [] 8 0 hS .nil fun a hS => sge hK8 <| sq fun K16 hK16 => sdq 2 [.p, .p] [] [(14, .bool (!gr9))] [] hS .nil fun a hS => ?_
 refine cond_b hS rfl (fun hb18 => ?_) (fun hb18 => ?_)
 ·
  replace hb18 := hb18
  have hgr : gr9 = false := by simpa using hb18
  have hEl2 : Ext [gw] w wc9 := hE0.trans hE15 (fun b hbM => by simp at hbM; rw [hbM]; exact .inl (by simp))
  refine sdq 2 [.p, .p] [] [(4, Sl gw S.ns.length cw)] [] hS .nil fun a hS => wpIn_ret <| then_ret <| inBlock_ret <| then_ret <| inBlock_ret ?_
  refine ret1 hS Tryd.results56 rfl ?_
  exact ⟨_, rfl, hO9, hP9.snd, FoP.isO hK.hes hK.hF hP9.snd (fun j hj => (hP9.cl hgr).2 j hj), hEl2⟩
 ·
  replace hb18 := hb18
  have hgr : gr9 = true := by simpa using hb18
  refine wpIn_skip <| hK16 _ _ <| rgn 2 <| sd ww [.p, .p] [] [] [] 2 0 hS .nil fun a hS => seg_end <| inBlock_normal ?_
  exact ⟨fs9, ⟨hS.kp [(0, Sl gw S.ns.length cw), (1, .func (.func 57) #[] #[(Pv sb), (Pv tb)])], hE15, hO9, hP9.snd⟩, hP9.lt hgr⟩
set_option maxHeartbeats 1000000 in
theorem Follow_any {w0 w : World} {S : Sp} (hG : SpOk w0 S) (hb : Ext [] w0 w) (hT : Tab w0) :
  Calls Tryd.prog 16 #[.agg S.ca] w fun e w' => ∃ z : Int × Int, ChkR S z ∧ ((z.1 ≠ 0 ∧ e = .returned (.tuple #[.slice none 0 0, .agg #[I6 z.1, I6 z.2, .string ⟨#[]⟩]])) ∨ (z.1 = 0 ∧ ∃ bs m cp L ls, e = .returned (.tuple #[.slice bs m cp, .agg #[I6 0, I6 0, .string ⟨#[]⟩]]) ∧ Lsts w.heap.size w' bs m cp L ls ∧ FolR S ls)) ∧ Ext [] w w' := by
 have hlmax := hG.lmax
 have hnmax := hG.nmax
 have hpmax := hG.pmax
 refine cbd 33 [(0, .agg S.ca)] Tryd.func16 rfl fun a hS => ?_
 have hE0 : Ext [] w w := Ext.refl _ _
 refine sq fun K1 hK1 => rgn 3 <| ebx 2 S.ca 26 (some 1) hS fun a w2 hw3 hS => ?_
 have hB4 := Blk.nw hw3
 have hs5 := hE0.size
 have hE6 := hE0.al hw3
 refine sd ww [.p] [] [(2, .slice none 0 0)] [] 2 1 hS .nil fun a hS => ebx 0 #[I6 0, I6 0, .string ⟨#[]⟩] 34 (some 3) hS fun a w7 hw8 hS => ?_
 have hB10 := Blk.at' hw8 (hB4.alloc _)
 have hB11 := Blk.nw hw8
 have hs12 := hE6.size
 have hE13 := hE6.al hw8
 refine sge hK1 <| sq fun K14 hK14 => sq fun K15 hK15 => rgn 4 <| sd ww [.lds [S.lv, S.nv, I6 S.st, S.pv]] [_, _, _, _] [(7, .agg S.ca)] [] 1 3 hS (hB10.k 0 (hB10.k 1 (hB10.k 2 (hB10.k 3 .nil)))) fun a hS => ecl 2 (some 8) hS Tryd.call36 #[.agg S.ca] (check_any hG (hb.trans0 hE13)) ?_
 rintro _ wc16 ⟨z16, rfl, hZ16, hEc16⟩
 refine ⟨_, rfl, fun a hS => ?_⟩
 have hB17 := hB10.ext hEc16 (by simp)
 have hB18 := hB11.ext hEc16 (by simp)
 have hE19 := hE13.trans0 hEc16
 refine ebx 1 #[I6 0, I6 0, .string ⟨#[]⟩] 34 (some 4) hS fun a w20 hw21 hS => ?_
 have hn22 := Nat.ne_of_lt hB17.lt
 have hn23 := Nat.ne_of_lt hB18.lt
 have hB24 := Blk.at' hw21 (hB17.alloc _)
 have hB25 := Blk.at' hw21 (hB18.alloc _)
 have hB26 := Blk.nw hw21
 have hs27 := hE19.size
 have hE28 := hE19.al hw21
 refine est 0 wc16.heap.size 0 [I6 z16.1, I6 z16.2, .string ⟨#[]⟩] hS hB26 fun a w29 hw30 hS => ?_
 have hB31 := Blk.at' hw30 (hB24.updNe (Ne.symm hn22) _ _)
 have hB32 := Blk.at' hw30 (hB25.updNe (Ne.symm hn23) _ _)
 have hB33 : Blk w29 wc16.heap.size 34 (#[I6 z16.1, I6 z16.2, .string ⟨#[]⟩]) := hB26.up hw30
 have hE34 := hE28.ui hw30 hs27
 refine sge hK15 <| sdq 3 [.p, .ld (I6 z16.1), .p] [_] [(11, .bool ((z16.1 : Int) != 0))] [] hS (hB33.k 0 .nil) fun a hS => ?_
 refine cond_b hS rfl (fun hb36 => ?_) (fun hb36 => ?_)
 ·
  replace hb36 := test_ne_t hb36
  refine sq fun K37 hK37 => ?_
  refine fn3 [.q (.lds [I6 z16.1, I6 z16.2, .string ⟨#[]⟩]), .q .p, .e] [0, 0, 0] [0, 0, 0] [0, 0, 3] [2] 1 ([(0, .agg S.ca), (1, (Pv w.heap.size)), (3, (Pv w2.heap.size)), (4, (Pv wc16.heap.size)), (11, .bool ((z16.1 : Int) != 0)), (2, .slice none 0 0), (12, .agg #[I6 z16.1, I6 z16.2, .string ⟨#[]⟩])]) [w29.drew, upd (w29.drew) (w2.heap.size) 34 #[I6 z16.1, I6 z16.2, .string ⟨#[]⟩]] w29.drew (fun w' => [(0, [w'.cell? ⟨wc16.heap.size, 0, none⟩ = some (I6 z16.1), w'.cell? ⟨wc16.heap.size, 1, none⟩ = some (I6 z16.2), w'.cell? ⟨wc16.heap.size, 2, none⟩ = some (.string ⟨#[]⟩)])]) [0, 1, 3, 4, 11] [] hS (fun _ => by kernel_rfl) ?_ ?_ ?_
  ·intro e w' hw
   refine (.c ?_ .nil)
   ·intro h1 h2
    obtain rfl := Nat.le_antisymm h2 h1
    obtain rfl : w' = w29.drew := hw.trans (by kernel_rfl)
    exact (.c ((hB33.drew : Blk w29.drew wc16.heap.size 34 (#[I6 z16.1, I6 z16.2, .string ⟨#[]⟩])).cell 0 rfl) (.c ((hB33.drew : Blk w29.drew wc16.heap.size 34 (#[I6 z16.1, I6 z16.2, .string ⟨#[]⟩])).cell 1 rfl) (.c ((hB33.drew : Blk w29.drew wc16.heap.size 34 (#[I6 z16.1, I6 z16.2, .string ⟨#[]⟩])).cell 2 rfl) .nil)))
  ·refine (.c ?eq38_2 .nil)
   ·refine eff_at (w29.drew) (upd (w29.drew) (w2.heap.size) 34 #[I6 z16.1, I6 z16.2, .string ⟨#[]⟩]) (by kernel_rfl) (by kernel_rfl) ?_
    exact upon_store (b := w2.heap.size) (off := 0) (vs := [I6 z16.1, I6 z16.2, .string ⟨#[]⟩]) (by kernel_rfl) (hB32.drew : Blk w29.drew w2.heap.size 34 (#[I6 0, I6 0, .string ⟨#[]⟩])) (by simp) ⟨by kernel_rfl, by kernel_rfl⟩
  rintro a w39 hS hw40
  replace hw40 : w39 = upd (w29.drew) (w2.heap.size) 34 #[I6 z16.1, I6 z16.2, .string ⟨#[]⟩] := hw40.trans (by kernel_rfl)
  have hB42 : Blk w39 w2.heap.size 34 (#[I6 z16.1, I6 z16.2, .string ⟨#[]⟩]) := by rw [hw40]; exact (hB32.drew).upd _ _
  have hE44 : Ext [] w w39 := by rw [hw40]; exact (hE34.drew).updIn (.inr hs12) _ _
  replace hS := hS.kp [(0, .agg S.ca), (1, (Pv w.heap.size)), (3, (Pv w2.heap.size)), (4, (Pv wc16.heap.size)), (11, .bool ((z16.1 : Int) != 0)), (2, .slice none 0 0)]
  refine hK37 _ _ <| wpIn_ret <| then_ret ?_
  refine retTA hS Tryd.results16 (by kernel_rfl) (by kernel_rfl) rfl rfl hB42 ?_
  exact ⟨z16, hZ16, .inl ⟨hb36, rfl⟩, hE44⟩
 ·
  replace hb36 := test_ne_f hb36
  have hok := hZ16.zero.2.1 hb36
  have hI := hok.ix
  have hlx := hok.lx
  have hst := hI.st
  refine wpIn_skip <| hK14 _ _ <| sq fun K45 hK45 => rgn 4 <| sd ww [.lds [S.lv, S.nv, I6 S.st, S.pv]] [_, _, _, _] [(13, .agg S.ca)] [] 1 3 hS (hB31.k 0 (hB31.k 1 (hB31.k 2 (hB31.k 3 .nil)))) fun a hS => ecl 2 (some 14) hS Tryd.call54 #[.agg S.ca] (known_any hG (hb.trans0 hE34) hI hlx) ?_
  rintro _ wc46 ⟨gb46, ge46, gf46, es46, fs46, rfl, hK46, hEc46⟩
  refine ⟨_, rfl, fun a hS => ?_⟩
  have hB47 := hB31.ext hEc46 (by simp)
  have hB48 := hB32.ext hEc46 (by simp)
  have hE50 := hE34.trans0 hEc46
  refine ebx 1 #[.pointer none] 106 (some 5) hS fun a w51 hw52 hS => ?_
  have hn53 := Nat.ne_of_lt hB47.lt
  have hn54 := Nat.ne_of_lt hB48.lt
  have hn56 := Nat.ne_of_lt hK46.gb.lt
  have hn57 := Nat.ne_of_lt hK46.re.lt
  have hn58 := Nat.ne_of_lt hK46.rf.lt
  have hB59 := Blk.at' hw52 (hB47.alloc _)
  have hB60 := Blk.at' hw52 (hB48.alloc _)
  have hB62 := Blk.at' hw52 (hK46.gb.alloc _)
  have hB63 := OwnR.at' hw52 (hK46.re.alloc _)
  have hB64 := OwnR.at' hw52 (hK46.rf.alloc _)
  have hB65 := Blk.nw hw52
  have hs66 := hE50.size
  have hE67 := hE50.al hw52
  refine est 0 wc46.heap.size 0 [(Pv gb46)] hS hB65 fun a w68 hw69 hS => ?_
  have hB70 := Blk.at' hw69 (hB59.updNe (Ne.symm hn53) _ _)
  have hB71 := Blk.at' hw69 (hB60.updNe (Ne.symm hn54) _ _)
  have hB73 := Blk.at' hw69 (hB62.updNe (Ne.symm hn56) _ _)
  have hB74 := OwnR.at' hw69 (hB63.updNe (Ne.symm hn57) _ _)
  have hB75 := OwnR.at' hw69 (hB64.updNe (Ne.symm hn58) _ _)
  have hB76 : Blk w68 wc46.heap.size 106 (#[(Pv gb46)]) := hB65.up hw69
  have hE77 := hE67.ui hw69 hs66
  refine sge hK45 <| sq fun K78 hK78 => rgn 5 <| sd ww [.p, .ld (S.nv), .run (I6 S.ns.length)] [_, Rv (Builtin.len_ #[23] 3 #[S.nv]) (I6 S.ns.length) w68] [(17, I6 S.ns.length)] [] 3 2 hS (hB70.k 1 (.c (rlr 9 hG.names) .nil)) fun a hS => ?_
  obtain ⟨wm79, hrm79, hOm79, hEm79, hsm79⟩ := make_full (P := Tryd.prog) (w := w68) (T := 103) (E := 110) (size := 2) (bytes := 16) (z := #[.int .u64 0, .int .u64 0]) (Value.int .u64 0) (l := S.ns.length) (by kernel_rfl) (by kernel_rfl) (by rfl) (by omega) (by omega) (by omega)
  refine eff_run ww (r := 1) (s := vS (Instr.makeSlice 103 (I6 S.ns.length) (I6 S.ns.length))) (d := (some 18)) (v := Sn S w68.heap.size) hS (by kernel_rfl) hrm79 fun a hS => ?_
  have hn79_79 := Nat.ne_of_lt hB70.lt
  have hn79_80 := Nat.ne_of_lt hB71.lt
  have hn79_82 := Nat.ne_of_lt hB73.lt
  have hn79_83 := Nat.ne_of_lt hB74.lt
  have hn79_84 := Nat.ne_of_lt hB75.lt
  have hn79_85 := Nat.ne_of_lt hB76.lt
  have hB87 := hB70.ext hEm79 (by simp)
  have hB88 := hB71.ext hEm79 (by simp)
  have hB90 := hB73.ext hEm79 (by simp)
  have hB91 := hB74.ext hEm79 (by simp)
  have hB92 := hB75.ext hEm79 (by simp)
  have hB93 := hB76.ext hEm79 (by simp)
  have hE94 := hE77.trans0 hEm79
  refine sd ww [.p] [] [(6, Sn S w68.heap.size)] [] 5 0 hS .nil fun a hS => sge hK78 <| sq fun K95 hK95 => ?_
  refine gh3 (G := World × World) [.q .p, .q .p, .q (.ld (I6 S.st)), .q .p, .q (.ld (S.lv)), .q (.run (I6 S.lx.length)), .q (.as (I6 ((S.lx.length + 1 : Nat) : Int))), .e, .q (.run ((Po w68.heap.size (0 + S.st.toNat * 2)))), .e] [0, 0, 0, 0, 0, 0, 0, 0, 1, 1] [1, 1, 1, 0, 0, 0, 0, 0, 1, 1] [0, 0, 2, 0, 8, 24, 56, 120, 255, 511] [7, 9] [(7, 0), (9, 1)] 2 (fun ⟨wc96, ws97⟩ => ([(0, .agg S.ca), (1, (Pv w.heap.size)), (2, .slice none 0 0), (3, (Pv w2.heap.size)), (4, (Pv wc16.heap.size)), (11, .bool ((z16.1 : Int) != 0)), (5, (Pv wc46.heap.size)), (6, Sn S w68.heap.size), (19, Sn S w68.heap.size), (20, (Po w.heap.size 2)), (21, I6 S.st), (22, (Pv w.heap.size)), (23, S.lv), (24, I6 S.lx.length), (25, I6 ((S.lx.length + 1 : Nat) : Int)), (26, .agg #[.int .u64 ((sgl (S.lx.length + 1)).1 : Int), .int .u64 ((sgl (S.lx.length + 1)).2 : Int)]), (27, (Po w68.heap.size (0 + S.st.toNat * 2)))] : Fm)) (fun ⟨wc96, ws97⟩ => [wm79.drew, wc96, ws97]) (wm79.drew) (fun e ⟨wc96, ws97⟩ => hAt [True, (Ext [] wm79.drew wc96) ∧ True, (Ext [] wm79.drew wc96) ∧ (OwnR ws97 110 2 w68.heap.size S.ns.length S.ns.length (setL (List.replicate (S.ns.length * 2) (Value.int .u64 0)) (0 + S.st.toNat * 2) [.int .u64 ((sgl (S.lx.length + 1)).1 : Int), .int .u64 ((sgl (S.lx.length + 1)).2 : Int)])) ∧ (Ext [w68.heap.size] wc96 ws97) ∧ True] e) (fun ⟨wc96, ws97⟩ w' => [(2, [w'.cell? ⟨w.heap.size, 2, none⟩ = some (I6 S.st)]), (4, [w'.cell? ⟨w.heap.size, 0, none⟩ = some (S.lv)]), (5, [Rv (Builtin.len_ #[22] 3 #[S.lv]) (I6 S.lx.length) w']), (6, [Value.int .i64 (IntKind.i64.wrap (↑S.lx.length + 1)) = I6 ((S.lx.length + 1 : Nat) : Int)]), (8, [Rv (Instr.indexAt 103 (Sn S w68.heap.size) (I6 S.st)) ((Po w68.heap.size (0 + S.st.toNat * 2))) w'])]) (wm79.drew, w) [0, 1, 2, 3, 4, 11, 5, 6] [] hS (fun ⟨wc96, ws97⟩ _ => by kernel_rfl) trivial ?_ ?_ ?_
  ·rintro e ⟨wc96, ws97⟩ w' hw hH
   refine (.c ?_ (.c ?_ (.c ?_ (.c ?_ (.c ?_ .nil)))))
   ·intro h1 h2
    replace h1 : 0 ≤ e := h1
    replace h2 : e ≤ 1 := h2
    have he : e = 0 ∨ e = 1 := by omega
    rcases he with rfl | rfl
    ·have hwe : wm79.drew = w' := hwz hw
     subst hwe
     clear hH
     exact (.c ((hB87.drew : Blk wm79.drew w.heap.size 26 (S.ca)).cell 2 rfl) .nil)
    ·have hwe : wc96 = w' := hwz hw
     subst hwe
     obtain ⟨hEc96, _⟩ := hH
     exact (.c (((hB87.drew : Blk wm79.drew w.heap.size 26 (S.ca)).ext hEc96 (by simp) : Blk wc96 w.heap.size 26 (S.ca)).cell 2 rfl) .nil)
   ·intro h1 h2
    obtain rfl := Nat.le_antisymm h2 h1
    have hwe : wm79.drew = w' := hwz hw
    subst hwe
    clear hH
    exact (.c ((hB87.drew : Blk wm79.drew w.heap.size 26 (S.ca)).cell 0 rfl) .nil)
   ·intro h1 h2
    obtain rfl := Nat.le_antisymm h2 h1
    have hwe : wm79.drew = w' := hwz hw
    subst hwe
    clear hH
    exact (.c (rlr 100 hG.lex) .nil)
   ·intro h1 h2
    obtain rfl := Nat.le_antisymm h2 h1
    have hwe : wm79.drew = w' := hwz hw
    subst hwe
    clear hH
    exact (.c ((by rw [show (↑S.lx.length + 1 : Int) = ((S.lx.length + 1 : Nat) : Int) from by omega]; exact as_i64 (by omega))) .nil)
   ·intro h1 h2
    obtain rfl := Nat.le_antisymm h2 h1
    have hwe : wc96 = w' := hwz hw
    subst hwe
    obtain ⟨hEc96, _⟩ := hH
    exact (.c (ixz 110 2 S.st) .nil)
  ·refine (.c ?eq98_7 (.c ?eq98_9 .nil))
   ·rintro ⟨wc96, ws97⟩ hH
    clear hH
    refine eff_gh (wm79.drew) (by kernel_rfl) ?_
    refine upon_call (f := 55) (vs := [I6 ((S.lx.length + 1 : Nat) : Int)]) (cap := #[]) (d := (some 26)) (by kernel_rfl) Tryd.call55 #[I6 ((S.lx.length + 1 : Nat) : Int)] (by kernel_rfl) (one_nat (S.lx.length + 1) (by omega)) ?_
    rintro _ wc96 ⟨rfl, hEc96⟩
    exact ⟨_, rfl, ⟨(wc96, ws97), by kernel_rfl, by kernel_rfl, by kernel_rfl, ⟨hEc96, trivial⟩⟩⟩
   ·rintro ⟨wc96, ws97⟩ hH
    obtain ⟨hEc96, _⟩ := hH
    refine eff_gh (wc96) (by kernel_rfl) ?_
    refine upon_store_ownN (b := w68.heap.size) (off := 0 + S.st.toNat * 2) (vs := [.int .u64 ((sgl (S.lx.length + 1)).1 : Int), .int .u64 ((sgl (S.lx.length + 1)).2 : Int)]) (xs := (List.replicate (S.ns.length * 2) (Value.int .u64 0))) (by kernel_rfl) ((hOm79.drew : OwnR wm79.drew 110 2 w68.heap.size S.ns.length S.ns.length (List.replicate (S.ns.length * 2) (Value.int .u64 0))).ext hEc96 (by simp) : OwnR wc96 110 2 w68.heap.size S.ns.length S.ns.length (List.replicate (S.ns.length * 2) (Value.int .u64 0))) (by simp only [List.length_cons, List.length_nil]; omega) fun ws97 hOs97 hEs97 hsz97 => ?_
    exact ⟨(wc96, ws97), by kernel_rfl, by kernel_rfl, by kernel_rfl, ⟨hEc96, hOs97, hEs97, trivial⟩⟩
  rintro ⟨wc96, ws97⟩ a w99 hS hw100 hH
  obtain ⟨hEc96, hOs97, hEs97, _⟩ := hH
  replace hw100 : w99 = ws97 := hw100.trans (by kernel_rfl)
  have hB101 := Blk.at' hw100 (((hB87.drew : Blk wm79.drew w.heap.size 26 (S.ca)).ext hEc96 (by simp) : Blk wc96 w.heap.size 26 (S.ca)).ext hEs97 (by simpa using hn79_79))
  have hB102 := Blk.at' hw100 (((hB88.drew : Blk wm79.drew w2.heap.size 34 (#[I6 0, I6 0, .string ⟨#[]⟩])).ext hEc96 (by simp) : Blk wc96 w2.heap.size 34 (#[I6 0, I6 0, .string ⟨#[]⟩])).ext hEs97 (by simpa using hn79_80))
  have hB104 := Blk.at' hw100 (((hB90.drew : Blk wm79.drew gb46 105 (#[S.lv, S.nv, I6 S.st, S.pv, Sn S ge46, Sn S gf46])).ext hEc96 (by simp) : Blk wc96 gb46 105 (#[S.lv, S.nv, I6 S.st, S.pv, Sn S ge46, Sn S gf46])).ext hEs97 (by simpa using hn79_82))
  have hB105 := OwnR.at' hw100 (((hB91.drew : OwnR wm79.drew 4 1 ge46 S.ns.length S.ns.length (bls es46)).ext hEc96 (by simp) : OwnR wc96 4 1 ge46 S.ns.length S.ns.length (bls es46)).ext hEs97 (by simpa using hn79_83))
  have hB106 := OwnR.at' hw100 (((hB92.drew : OwnR wm79.drew 110 2 gf46 S.ns.length S.ns.length (secs fs46)).ext hEc96 (by simp) : OwnR wc96 110 2 gf46 S.ns.length S.ns.length (secs fs46)).ext hEs97 (by simpa using hn79_84))
  have hB107 := Blk.at' hw100 (((hB93.drew : Blk wm79.drew wc46.heap.size 106 (#[(Pv gb46)])).ext hEc96 (by simp) : Blk wc96 wc46.heap.size 106 (#[(Pv gb46)])).ext hEs97 (by simpa using hn79_85))
  have hB108 : OwnR w99 110 2 w68.heap.size S.ns.length S.ns.length (setL (List.replicate (S.ns.length * 2) (Value.int .u64 0)) (0 + S.st.toNat * 2) [.int .u64 ((sgl (S.lx.length + 1)).1 : Int), .int .u64 ((sgl (S.lx.length + 1)).2 : Int)]) := by rw [hw100]; exact hOs97
  have hE109 : Ext [] w w99 := by rw [hw100]; exact ((hE94.drew).trans0 hEc96).trans hEs97 (fun b hb => by simp at hb; subst hb; exact .inr hE77.size)
  replace hS := hS.kp [(0, .agg S.ca), (1, (Pv w.heap.size)), (2, .slice none 0 0), (3, (Pv w2.heap.size)), (4, (Pv wc16.heap.size)), (11, .bool ((z16.1 : Int) != 0)), (5, (Pv wc46.heap.size)), (6, Sn S w68.heap.size)]
  refine hK95 _ _ <| sq fun K110 hK110 => rgn 7 <| sg ww [.p, .p] [] [(0, .agg S.ca), (1, (Pv w.heap.size)), (2, .slice none 0 0), (3, (Pv w2.heap.size)), (4, (Pv wc16.heap.size)), (11, .bool ((z16.1 : Int) != 0)), (5, (Pv wc46.heap.size)), (6, Sn S w68.heap.size), (28, Sn S w68.heap.size), (29, .func (.func 57) #[] #[(Pv w.heap.size), (Pv wc46.heap.size)])] 2 5 hS .nil fun a hS => ?_
  have hg0 := hB108
  rw [secs_rep, secs_setL _ _ (sgl (S.lx.length + 1)) (by simp; omega)] at hg0
  refine ecl 4 (some 30) hS Tryd.call56 #[Sn S w68.heap.size, .func (.func 57) #[] #[(Pv w.heap.size), (Pv wc46.heap.size)]] (fixedO_any hG (hb.trans0 hE109) hI hlx hB101 hB107 (⟨hB104, hB105, hB106, hK46.hes, hK46.hs, hK46.hF⟩ : Kn S w99 gb46 ge46 gf46 es46 fs46) hg0 hn79_84 (Nat.le_trans hb.size hE77.size) (.start hI.st hlx)) ?_
  rintro _ wc111 ⟨fw111, rfl, hOw111, hSw111, hFw111, hEc111⟩
  refine ⟨_, rfl, fun a hS => ?_⟩
  have hB113 := hB102.ext hEc111 (by simpa using hn79_80)
  have hE119 := hE109.trans hEc111 (fun b hbM => by simp at hbM; rw [hbM]; exact .inr hE77.size)
  refine ecl 3 (some 31) hS Tryd.call53 #[Sn S w68.heap.size] (lists_any (hT.ext0 (hb.trans0 hE119)) hOw111 hSw111.ok (by omega)) ?_
  rintro _ wc120 ⟨bs120, m120, cp120, L120, rfl, hL120, hEc120⟩
  refine ⟨_, rfl, fun a hS => ?_⟩
  have hB122 := hB113.ext hEc120 (by simp)
  have hE129 := hE119.trans0 hEc120
  refine sd ww [.p, .p] [] [(2, .slice bs120 m120 cp120), (32, .agg #[I6 0, I6 0, .string ⟨#[]⟩])] [] 6 1 hS .nil fun a hS => est 0 w2.heap.size 0 [I6 0, I6 0, .string ⟨#[]⟩] hS hB122 fun a w130 hw131 hS => ?_
  have hB133 : Blk w130 w2.heap.size 34 (#[I6 0, I6 0, .string ⟨#[]⟩]) := hB122.up hw131
  have hX140 : Ext [w2.heap.size] wc120 w130 := by rw [hw131]; exact (Ext.refl _ _).updIn (.inl (by simp)) _ _
  have hG141 : Lsts wc111.heap.size w130 bs120 m120 cp120 L120 (fw111.map tls) := hL120.extT hX140 hB122 (by decide) (by decide)
  have hE142 := hE129.ui hw131 hs12
  refine sge hK110 <| wpIn_ret ?_
  refine retTA hS Tryd.results16 (by kernel_rfl) (by kernel_rfl) rfl rfl hB133 ?_
  exact ⟨z16, hZ16, .inr ⟨hb36, _, _, _, _, _, rfl, hG141.more hE119.size, _, rfl, hSw111.len, hSw111.ok, hFw111⟩, hE142⟩
end Go.Proofs.YtkkpghlcmcaoiaaDoor
