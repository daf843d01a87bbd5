import Derived.Test.YtkkpghlcmcaoiaaDoorS16
import Derived.Test.YtkkpghlcmcaoiaaDoorS7
namespace Go.Proofs.YtkkpghlcmcaoiaaDoor
open Go.Vc Go.Gm
theorem fixedY_any {w0 w : World} {S : Sp} (hG : SpOk w0 S) (hb : Ext [] w0 w) (hI : Ix S) {N g cp gv cv sb lb mb : Nat} {L : List Rw} {R : List (List Nat)} {vs : List Nat} (hsb : Blk w sb 26 S.ca) (hlb : Blk w lb 51 #[Sl gv S.ns.length cv]) (hmb : Blk w mb 144 #[.func (.func 94) #[] #[(Pv sb), (Pv lb)]]) (hY : Yr N w g cp S.ns.length L R) (hgv : OwnR w 3 1 gv cv S.ns.length (ivs vs)) (hV : IsC S.g 0 1 4097 (vf 4097 vs)) (hlg : lb ≠ g) (hgn : w0.heap.size ≤ g) (hNw : N ≤ w.heap.size) (hs : YsS S (vf 4097 vs) R) :
  Calls Tryd.prog 95 #[Sl g S.ns.length cp, .func (.func 96) #[] #[(Pv sb), (Pv mb)]] w fun e w' => ∃ L' R', e = .returned (Sl g S.ns.length cp) ∧ Yr N w' g cp S.ns.length L' R' ∧ IsY S.g S.nl (vf 4097 vs) (rF R') ∧ Ext [g] w w' := by
 refine cbd 17 [(0, Sl g S.ns.length cp), (1, .func (.func 96) #[] #[(Pv sb), (Pv mb)])] Tryd.func95 rfl fun a hS => ?_
 have hE0 : Ext [g] w w := Ext.refl _ _
 refine sdq 1 [.p] [] [(4, .slice none 0 0)] [] hS .nil fun a hS => wpIn_block ?_
 have hbl2 := (hb.t1 hE0 hgn)
 refine loop_ghost (fun ((L1, R1) : (List Rw) × (List (List Nat))) a' w' => St 17 [] [(0, Sl g S.ns.length cp), (1, .func (.func 96) #[] #[(Pv sb), (Pv mb)])] a' ∧ Ext [g] w w' ∧ Yr N w' g cp S.ns.length L1 R1 ∧ YsS S (vf 4097 vs) R1) (fun ((L1, R1) : (List Rw) × (List (List Nat))) => ysMu S (vf 4097 vs) R1) (L, R) ⟨hS.keepTo [0, 1] (by kernel_rfl), Ext.refl _ _, hY, hs⟩ ?_
 rintro ⟨L1, R1⟩ a wl2 ⟨hS, hXl2, hY1, hs1⟩
 have hB3 := hsb.ext hXl2 (by simpa using (OwnR.ne_type hY.own hsb (by decide)).symm)
 have hB4 := hlb.ext hXl2 (by simpa using hlg)
 have hB5 := hmb.ext hXl2 (by simpa using (OwnR.ne_type hY.own hmb (by decide)).symm)
 have hB6 := hgv.ext hXl2 (by simpa using (OwnR.neR hgv hY.own (by decide)))
 refine wpIn_block <| sq fun K7 hK7 => rgn 8 <| sd ww [.p, .p] [] [(8, .func (.func 96) #[] #[(Pv sb), (Pv mb)]), (9, Sl g S.ns.length cp)] [] 2 6 hS .nil fun a hS => eff_call ww (r := 5) (f := 96) (vs := [Sl g S.ns.length cp]) (cap := #[(Pv sb), (Pv mb)]) (d := (some 10)) hS (by kernel_rfl) Tryd.call96 #[Sl g S.ns.length cp, (Pv sb), (Pv mb)] (by kernel_rfl) (yields2_any hG (hbl2.t1 hXl2 hgn) hI hB3 hB4 hB5 hY1 hB6 hV hlg hgn (Nat.le_trans hNw ((hE0.trans hXl2 (fun b hbM => by simp at hbM; rw [hbM]; exact .inl (by simp)))).size) hs1) ?_
 rintro _ wc8 ⟨L8, R8, gr8, rfl, hY8, hP8, hEc8⟩
 refine ⟨_, rfl, fun a hS => ?_⟩
 have hE13 := hXl2.trans hEc8 (fun b hbM => by simp at hbM; rw [hbM]; exact .inl (by simp))
 refine sd ww [.p, .p, .p, .p, .p] [] [(5, Sl g S.ns.length cp), (6, .bool gr8)] [] 8 0 hS .nil fun a hS => sge hK7 <| sq fun K14 hK14 => sdq 2 [.p, .p] [] [(14, .bool (!gr8))] [] hS .nil fun a hS => ?_
 refine cond_b hS rfl (fun hb16 => ?_) (fun hb16 => ?_)
 ·
  replace hb16 := hb16
  have hgr : gr8 = false := by simpa using hb16
  have hEl2 : Ext [g] w wc8 := hE0.trans hE13 (fun b hbM => by simp at hbM; rw [hbM]; exact .inl (by simp))
  refine sdq 2 [.p, .p] [] [(4, Sl g S.ns.length cp)] [] hS .nil fun a hS => wpIn_ret <| then_ret <| inBlock_ret <| then_ret <| inBlock_ret ?_
  refine ret1 hS Tryd.results95 rfl ?_
  exact ⟨_, _, rfl, hY8, YsP.isY hP8.snd (fun j hj => (hP8.cl hgr).2 j hj), hEl2⟩
 ·
  replace hb16 := hb16
  have hgr : gr8 = true := by simpa using hb16
  refine wpIn_skip <| hK14 _ _ <| rgn 2 <| sd ww [.p, .p] [] [] [] 2 0 hS .nil fun a hS => seg_end <| inBlock_normal ?_
  exact ⟨(L8, R8), ⟨hS.kp [(0, Sl g S.ns.length cp), (1, .func (.func 96) #[] #[(Pv sb), (Pv mb)])], hE13, hY8, hP8.snd⟩, hP8.lt hgr⟩
theorem yields_any {w0 w : World} {S : Sp} (hG : SpOk w0 S) (hb : Ext [] w0 w) (hI : Ix S) {gv cv : Nat} {vs : List Nat} (hgv : OwnR w 3 1 gv cv S.ns.length (ivs vs)) (hV : IsC S.g 0 1 4097 (vf 4097 vs)) :
  Calls Tryd.prog 62 #[.agg S.ca, Sl gv S.ns.length cv] w fun e w' => ∃ g L R, e = .returned (Sn S g) ∧ Yr w.heap.size w' g S.ns.length S.ns.length L R ∧ IsY S.g S.nl (vf 4097 vs) (rF R) ∧ w.heap.size ≤ g ∧ Ext [] w w' := by
 have hlmax := hG.lmax
 have hnmax := hG.nmax
 have hpmax := hG.pmax
 refine cbd 13 [(0, .agg S.ca), (1, Sl gv S.ns.length cv)] Tryd.func62 rfl fun a hS => ?_
 have hE0 : Ext [] w w := Ext.refl _ _
 refine sq fun K1 hK1 => rgn 3 <| ebx 2 S.ca 26 (some 2) hS fun a w2 hw3 hS => ?_
 have hB5 := OwnR.at' hw3 (hgv.alloc _)
 have hB6 := Blk.nw hw3
 have hs7 := hE0.size
 have hE8 := hE0.al hw3
 refine ebx 1 #[Sl gv S.ns.length cv] 51 (some 3) hS fun a w9 hw10 hS => ?_
 have hB13 := OwnR.at' hw10 (hB5.alloc _)
 have hB14 := Blk.at' hw10 (hB6.alloc _)
 have hB15 := Blk.nw hw10
 have hs16 := hE8.size
 have hE17 := hE8.al hw10
 refine sd ww [.p] [] [(4, .slice none 0 0)] [] 3 0 hS .nil fun a hS => sge hK1 <| sq fun K18 hK18 => rgn 3 <| sd ww [.p] [] [(6, .func (.func 94) #[] #[(Pv w.heap.size), (Pv w2.heap.size)])] [] 1 2 hS .nil fun a hS => ebx 1 #[.nilFunc] 144 (some 5) hS fun a w19 hw20 hS => ?_
 have hn21 := Nat.ne_of_lt hB13.lt
 have hn22 := Nat.ne_of_lt hB14.lt
 have hn23 := Nat.ne_of_lt hB15.lt
 have hB24 := OwnR.at' hw20 (hB13.alloc _)
 have hB25 := Blk.at' hw20 (hB14.alloc _)
 have hB26 := Blk.at' hw20 (hB15.alloc _)
 have hB27 := Blk.nw hw20
 have hs28 := hE17.size
 have hE29 := hE17.al hw20
 refine est 0 w9.heap.size 0 [.func (.func 94) #[] #[(Pv w.heap.size), (Pv w2.heap.size)]] hS hB27 fun a w30 hw31 hS => ?_
 have hB32 := OwnR.at' hw31 (hB24.updNe (Ne.symm hn21) _ _)
 have hB33 := Blk.at' hw31 (hB25.updNe (Ne.symm hn22) _ _)
 have hB34 := Blk.at' hw31 (hB26.updNe (Ne.symm hn23) _ _)
 have hB35 : Blk w30 w9.heap.size 144 (#[.func (.func 94) #[] #[(Pv w.heap.size), (Pv w2.heap.size)]]) := hB27.up hw31
 have hE36 := hE29.ui hw31 hs28
 refine sge hK18 <| sq fun K37 hK37 => rgn 7 <| sd ww [.p, .ld (S.nv), .run (I6 S.ns.length)] [_, Rv (Builtin.len_ #[23] 3 #[S.nv]) (I6 S.ns.length) w30] [(9, I6 S.ns.length)] [] 3 4 hS (hB33.k 1 (.c (rlr 9 hG.names) .nil)) fun a hS => ?_
 obtain ⟨wm38, hrm38, hOm38, hEm38, hsm38⟩ := make_full (P := Tryd.prog) (w := w30) (T := 37) (E := 51) (size := 1) (bytes := 24) (z := #[.slice none 0 0]) (Value.slice none 0 0) (l := S.ns.length) (by kernel_rfl) (by kernel_rfl) (by rfl) (by omega) (by omega) (by omega)
 refine eff_run ww (r := 3) (s := vS (Instr.makeSlice 37 (I6 S.ns.length) (I6 S.ns.length))) (d := (some 10)) (v := Sn S w30.heap.size) hS (by kernel_rfl) hrm38 fun a hS => ?_
 have hn38_40 := Nat.ne_of_lt hB34.lt
 have hB43 := hB32.ext hEm38 (by simp)
 have hB44 := hB33.ext hEm38 (by simp)
 have hB45 := hB34.ext hEm38 (by simp)
 have hB46 := hB35.ext hEm38 (by simp)
 have hE47 := hE36.trans0 hEm38
 refine sd ww [.p] [] [(11, .func (.func 96) #[] #[(Pv w.heap.size), (Pv w9.heap.size)])] [] 5 2 hS .nil fun a hS => ecl 1 (some 12) hS Tryd.call95 #[Sn S w30.heap.size, .func (.func 96) #[] #[(Pv w.heap.size), (Pv w9.heap.size)]] (fixedY_any hG (hb.trans0 hE47) hI hB44 hB45 hB46 (Yr.start (N := w.heap.size) hOm38) hB43 hV hn38_40 (Nat.le_trans hb.size hE36.size) (hE47).size (.start S (vf 4097 vs))) ?_
 rintro _ wc48 ⟨L48, R48, rfl, hY48, hP48, hEc48⟩
 refine ⟨_, rfl, fun a hS => ?_⟩
 have hE49 := hE47.trans hEc48 (fun b hbM => by simp at hbM; rw [hbM]; exact .inr hE36.size)
 refine sd ww [.p] [] [(4, Sn S w30.heap.size)] [] 7 0 hS .nil fun a hS => sge hK37 <| wpIn_ret ?_
 refine ret1 hS Tryd.results62 rfl ?_
 exact ⟨_, _, _, rfl, hY48, hP48, hE36.size, hE49⟩
def fY : List Nat → Nat → Int × Int
 | [], _ => (0, 0)
 | v :: l, i => if 4096 < v then (6, i) else fY l (i + 1)
theorem fY_step {vs : List Nat} {i v : Nat} (h : vs[i]? = some v) : fY (vs.drop i) i = if 4096 < v then (6, (i : Int)) else fY (vs.drop (i + 1)) (i + 1) := by rw [drop_of h]; rfl
theorem fY_ok : ∀ {vs : List Nat} {i : Nat}, ((fY vs i).1 = 0 ↔ ∀ v ∈ vs, v ≤ 4096)
 | [], _ => by simp [fY]
 | v :: l, i => by
  have ih := fY_ok (vs := l) (i := i + 1)
  rw [fY]
  split
  ·rename_i h
   constructor
   ·intro h1; cases h1
   ·intro h1; have := h1 v (by simp); omega
  ·rename_i h
   rw [ih]
   constructor
   ·intro h1 u hu
    rcases List.mem_cons.1 hu with rfl | hu
    ·omega
    ·exact h1 u hu
   ·exact fun h1 u hu => h1 u (by simp [hu])
structure LenR (S : Sp) (vs : List Nat) : Prop where
 len : vs.length = S.ns.length
 c : IsC S.g 0 1 4097 (vf 4097 vs)
theorem LenR.same {S : Sp} {vs us : List Nat} (h : LenR S vs) (h' : LenR S us) : vs = us := vf_ext (h.len.trans h'.len.symm) (h.c.same h'.c fun A k => Iff.rfl)
theorem Yr.lsts {N w g n} {L : List Rw} {R : List (List Nat)} (h : Yr N w g n n L R) (hN : N ≤ g) : Lsts N w (some ⟨g, 0, none⟩) n n L R :=
 ⟨h.own.v, fun x hx => by have hx : x = g := (by simpa [ob] using hx); rw [hx]; exact hN, h.fam, h.is⟩
theorem YldR.of {S : Sp} {vs : List Nat} {R : List (List Nat)} (hl : LenR S vs) (h0 : (fY vs 0).1 = 0) (hR : R.length = S.ns.length) (h : IsY S.g S.nl (vf 4097 vs) (rF R)) : YldR S R := by
 refine ⟨hR, fun A u hu => ?_⟩
 have hA := (List.getElem?_eq_some_iff.1 hu).1
 have hlen := hl.len
 obtain ⟨v, hv⟩ : ∃ v, vs[A]? = some v := gE
 have h1 := fY_ok.1 h0 v (List.mem_of_getElem? hv)
 have := h.least hl.c (A := A) (by rw [vf_at hv]; omega)
 rw [rF_at hu] at this
 exact this
set_option maxHeartbeats 1000000 in
theorem Yields_any {w0 w : World} {S : Sp} (hG : SpOk w0 S) (hb : Ext [] w0 w) :
  Calls Tryd.prog 17 #[.agg S.ca] w fun e w' => ∃ z : Int × Int, ChkR S z ∧ ((z.1 ≠ 0 ∧ e = .returned (.tuple #[.slice none 0 0, .agg #[I6 z.1, I6 z.2, .string ⟨#[]⟩]])) ∨ (z.1 = 0 ∧ ∃ vs, LenR S vs ∧ (((fY vs 0).1 ≠ 0 ∧ e = .returned (.tuple #[.slice none 0 0, .agg #[I6 6, I6 (fY vs 0).2, .string ⟨#[]⟩]])) ∨ ((fY vs 0).1 = 0 ∧ ∃ bs m cp L ls, e = .returned (.tuple #[.slice bs m cp, .agg #[I6 0, I6 0, .string ⟨#[]⟩]]) ∧ Lsts w.heap.size w' bs m cp L ls ∧ YldR S ls)))) ∧ Ext [] w w' := by
 have hlmax := hG.lmax
 have hnmax := hG.nmax
 have hpmax := hG.pmax
 refine cbd 32 [(0, .agg S.ca)] Tryd.func17 rfl fun a hS => ?_
 have hE0 : Ext [] w w := Ext.refl _ _
 refine sq fun K1 hK1 => rgn 3 <| ebx 2 S.ca 26 (some 1) hS fun a w2 hw3 hS => ?_
 have hB4 := Blk.nw hw3
 have hs5 := hE0.size
 have hE6 := hE0.al hw3
 refine sd ww [.p] [] [(2, .slice none 0 0)] [] 2 1 hS .nil fun a hS => ebx 0 #[I6 0, I6 0, .string ⟨#[]⟩] 34 (some 3) hS fun a w7 hw8 hS => ?_
 have hB10 := Blk.at' hw8 (hB4.alloc _)
 have hB11 := Blk.nw hw8
 have hs12 := hE6.size
 have hE13 := hE6.al hw8
 refine sge hK1 <| sq fun K14 hK14 => sq fun K15 hK15 => rgn 4 <| sd ww [.lds [S.lv, S.nv, I6 S.st, S.pv]] [_, _, _, _] [(8, .agg S.ca)] [] 1 3 hS (hB10.k 0 (hB10.k 1 (hB10.k 2 (hB10.k 3 .nil)))) fun a hS => ecl 2 (some 9) hS Tryd.call36 #[.agg S.ca] (check_any hG (hb.trans0 hE13)) ?_
 rintro _ wc16 ⟨z16, rfl, hZ16, hEc16⟩
 refine ⟨_, rfl, fun a hS => ?_⟩
 have hB17 := hB10.ext hEc16 (by simp)
 have hB18 := hB11.ext hEc16 (by simp)
 have hE19 := hE13.trans0 hEc16
 refine ebx 1 #[I6 0, I6 0, .string ⟨#[]⟩] 34 (some 4) hS fun a w20 hw21 hS => ?_
 have hn22 := Nat.ne_of_lt hB17.lt
 have hn23 := Nat.ne_of_lt hB18.lt
 have hB24 := Blk.at' hw21 (hB17.alloc _)
 have hB25 := Blk.at' hw21 (hB18.alloc _)
 have hB26 := Blk.nw hw21
 have hs27 := hE19.size
 have hE28 := hE19.al hw21
 refine est 0 wc16.heap.size 0 [I6 z16.1, I6 z16.2, .string ⟨#[]⟩] hS hB26 fun a w29 hw30 hS => ?_
 have hB31 := Blk.at' hw30 (hB24.updNe (Ne.symm hn22) _ _)
 have hB32 := Blk.at' hw30 (hB25.updNe (Ne.symm hn23) _ _)
 have hB33 : Blk w29 wc16.heap.size 34 (#[I6 z16.1, I6 z16.2, .string ⟨#[]⟩]) := hB26.up hw30
 have hE34 := hE28.ui hw30 hs27
 refine sge hK15 <| sdq 3 [.p, .ld (I6 z16.1), .p] [_] [(12, .bool ((z16.1 : Int) != 0))] [] hS (hB33.k 0 .nil) fun a hS => ?_
 refine cond_b hS rfl (fun hb36 => ?_) (fun hb36 => ?_)
 ·
  replace hb36 := test_ne_t hb36
  refine sq fun K37 hK37 => ?_
  refine fn3 [.q (.lds [I6 z16.1, I6 z16.2, .string ⟨#[]⟩]), .q .p, .e] [0, 0, 0] [0, 0, 0] [0, 0, 3] [2] 1 ([(0, .agg S.ca), (1, (Pv w.heap.size)), (3, (Pv w2.heap.size)), (4, (Pv wc16.heap.size)), (12, .bool ((z16.1 : Int) != 0)), (2, .slice none 0 0), (13, .agg #[I6 z16.1, I6 z16.2, .string ⟨#[]⟩])]) [w29.drew, upd (w29.drew) (w2.heap.size) 34 #[I6 z16.1, I6 z16.2, .string ⟨#[]⟩]] w29.drew (fun w' => [(0, [w'.cell? ⟨wc16.heap.size, 0, none⟩ = some (I6 z16.1), w'.cell? ⟨wc16.heap.size, 1, none⟩ = some (I6 z16.2), w'.cell? ⟨wc16.heap.size, 2, none⟩ = some (.string ⟨#[]⟩)])]) [0, 1, 3, 4, 12] [] hS (fun _ => by kernel_rfl) ?_ ?_ ?_
  ·intro e w' hw
   refine (.c ?_ .nil)
   ·intro h1 h2
    obtain rfl := Nat.le_antisymm h2 h1
    obtain rfl : w' = w29.drew := hw.trans (by kernel_rfl)
    exact (.c ((hB33.drew : Blk w29.drew wc16.heap.size 34 (#[I6 z16.1, I6 z16.2, .string ⟨#[]⟩])).cell 0 rfl) (.c ((hB33.drew : Blk w29.drew wc16.heap.size 34 (#[I6 z16.1, I6 z16.2, .string ⟨#[]⟩])).cell 1 rfl) (.c ((hB33.drew : Blk w29.drew wc16.heap.size 34 (#[I6 z16.1, I6 z16.2, .string ⟨#[]⟩])).cell 2 rfl) .nil)))
  ·refine (.c ?eq38_2 .nil)
   ·refine eff_at (w29.drew) (upd (w29.drew) (w2.heap.size) 34 #[I6 z16.1, I6 z16.2, .string ⟨#[]⟩]) (by kernel_rfl) (by kernel_rfl) ?_
    exact upon_store (b := w2.heap.size) (off := 0) (vs := [I6 z16.1, I6 z16.2, .string ⟨#[]⟩]) (by kernel_rfl) (hB32.drew : Blk w29.drew w2.heap.size 34 (#[I6 0, I6 0, .string ⟨#[]⟩])) (by simp) ⟨by kernel_rfl, by kernel_rfl⟩
  rintro a w39 hS hw40
  replace hw40 : w39 = upd (w29.drew) (w2.heap.size) 34 #[I6 z16.1, I6 z16.2, .string ⟨#[]⟩] := hw40.trans (by kernel_rfl)
  have hB42 : Blk w39 w2.heap.size 34 (#[I6 z16.1, I6 z16.2, .string ⟨#[]⟩]) := by rw [hw40]; exact (hB32.drew).upd _ _
  have hE44 : Ext [] w w39 := by rw [hw40]; exact (hE34.drew).updIn (.inr hs12) _ _
  replace hS := hS.kp [(0, .agg S.ca), (1, (Pv w.heap.size)), (3, (Pv w2.heap.size)), (4, (Pv wc16.heap.size)), (12, .bool ((z16.1 : Int) != 0)), (2, .slice none 0 0)]
  refine hK37 _ _ <| wpIn_ret <| then_ret ?_
  refine retTA hS Tryd.results17 (by kernel_rfl) (by kernel_rfl) rfl rfl hB42 ?_
  exact ⟨z16, hZ16, .inl ⟨hb36, rfl⟩, hE44⟩
 ·
  replace hb36 := test_ne_f hb36
  have hok := hZ16.zero.2.1 hb36
  have hI := hok.ix
  refine wpIn_skip <| hK14 _ _ <| sq fun K45 hK45 => rgn 3 <| sd ww [.lds [S.lv, S.nv, I6 S.st, S.pv]] [_, _, _, _] [(14, .agg S.ca)] [] 1 2 hS (hB31.k 0 (hB31.k 1 (hB31.k 2 (hB31.k 3 .nil)))) fun a hS => ecl 1 (some 15) hS Tryd.call60 #[.agg S.ca, I6 0, I6 4096, .func (.func 61) #[] #[]] (sumsY_any hG (hb.trans0 hE34) hI) ?_
  rintro _ wc46 ⟨g46, vs46, rfl, hO46, hC46, hL46, hgn46, hEc46⟩
  refine ⟨_, rfl, fun a hS => ?_⟩
  have hB47 := hB31.ext hEc46 (by simp)
  have hB48 := hB32.ext hEc46 (by simp)
  have hE50 := hE34.trans0 hEc46
  refine sd ww [.p] [] [(5, Sn S g46)] [] 3 0 hS .nil fun a hS => sge hK45 <| sq fun K51 hK51 => sdq 3 [.p, .p, .p] [] [(16, Sn S g46), (17, I6 S.ns.length), (18, I6 0)] [] hS .nil fun a hS => wpIn_block ?_
  have hLR : LenR S vs46 := ⟨hL46, hC46⟩
  have hvl := hLR.len
  have hbl53 := (hb.trans0 hE50)
  refine loop_ghost (fun (i : Nat) a' w' => St 32 [] [(1, (Pv w.heap.size)), (3, (Pv w2.heap.size)), (5, Sn S g46), (16, Sn S g46), (17, I6 S.ns.length), (18, I6 i)] a' ∧ Ext [] wc46 w' ∧ i ≤ S.ns.length ∧ fY vs46 0 = fY (vs46.drop i) i) (fun (i : Nat) => S.ns.length - i) 0 ⟨hS.keepTo [1, 3, 5, 16, 17, 18] (by kernel_rfl), Ext.refl _ _, by omega, rfl⟩ ?_
  rintro i a wl53 ⟨hS, hXl53, hi, ha⟩
  have hB54 := hB47.ext hXl53 (by simp)
  have hB55 := hB48.ext hXl53 (by simp)
  have hB57 := hO46.ext hXl53 (by simp)
  refine sdq 1 [.p] [] [(19, .bool (decide ((↑i : Int) < ↑S.ns.length)))] [] hS .nil fun a hS => sq fun K59 hK59 => ?_
  refine cond_b hS rfl (fun hb60 => ?_) (fun hb60 => ?_)
  ·
   replace hb60 := of_decide_eq_true hb60
   obtain ⟨v, hv⟩ : ∃ v, vs46[i]? = some v := gE
   have hst := ha
   rw [fY_step hv] at hst
   refine wpIn_skip <| hK59 _ _ <| sq fun K61 hK61 => wpIn_block <| sdq 5 [.p, .run ((Po g46 (0 + i * 1))), .ld (I6 v), .p, .p] [Rv (Instr.indexAt 51 (Sn S g46) (I6 i)) ((Po g46 (0 + i * 1))) wl53, wl53.cell? ⟨g46, 0 + i * 1, none⟩ = some (I6 v)] [(6, I6 i), (7, I6 v)] [] hS (.c (ixs 3 1 i) (.c ((hB57).cellAt _ (ivs_at hv)) .nil)) fun a hS => sdq 2 [.p, .p] [] [(24, .bool (decide ((↑v : Int) > 4096)))] [] hS .nil fun a hS => ?_
   refine cond_b hS rfl (fun hb64 => ?_) (fun hb64 => ?_)
   ·
    replace hb64 := of_decide_eq_true hb64
    have hEl53 : Ext [] w wl53 := hE50.trans0 hXl53
    have hfe : fY vs46 0 = (6, (i : Int)) := by rw [hst, if_pos (by omega)]
    refine sq fun K65 hK65 => rgn 4 <| sd ww [.p, .p, .p] [] [(26, .agg #[I6 6, I6 i, .string ⟨#[]⟩]), (2, .slice none 0 0)] [] 3 1 hS .nil fun a hS => est 0 w2.heap.size 0 [I6 6, I6 i, .string ⟨#[]⟩] hS hB55 fun a w66 hw67 hS => ?_
    have hB69 : Blk w66 w2.heap.size 34 (#[I6 6, I6 i, .string ⟨#[]⟩]) := hB55.up hw67
    have hE72 := hEl53.ui hw67 hs12
    refine sge hK65 <| wpIn_ret <| inBlock_ret <| then_ret <| then_ret <| inBlock_ret <| then_ret ?_
    refine retTA hS Tryd.results17 (by kernel_rfl) (by kernel_rfl) rfl rfl hB69 ?_
    exact ⟨z16, hZ16, .inr ⟨hb36, _, hLR, .inl ⟨by rw [hfe]; simp, by rw [hfe]⟩⟩, hE72⟩
   ·
    replace hb64 := of_decide_eq_false hb64
    refine wpIn_skip <| inBlock_normal <| hK61 _ _ <| rgn 2 <| sd ww [.as (I6 (↑i + 1)), .p] [_] [(18, I6 (↑i + 1))] [] 2 0 hS (as6 (↑i + 1)) fun a hS => seg_end ?_
    exact ⟨i + 1, ⟨hS.kp [(1, (Pv w.heap.size)), (3, (Pv w2.heap.size)), (5, Sn S g46), (16, Sn S g46), (17, I6 S.ns.length), (18, I6 (↑i + 1))], hXl53, by omega, by rw [hst, if_neg (by omega)]⟩, by omega⟩
  ·
   replace hb60 := of_decide_eq_false hb60
   have hEl53 : Ext [] w wl53 := hE50.trans0 hXl53
   rw [List.drop_eq_nil_of_le (by omega)] at ha
   have hfe : (fY vs46 0).1 = 0 := by rw [ha]; rfl
   refine xt2 <| hK51 _ _ <| sq fun K73 hK73 => rgn 6 <| sd ww [.lds [S.lv, S.nv, I6 S.st, S.pv], .p] [_, _, _, _] [(28, .agg S.ca), (29, Sn S g46)] [] 2 4 hS (hB54.k 0 (hB54.k 1 (hB54.k 2 (hB54.k 3 .nil)))) fun a hS => ecl 3 (some 30) hS Tryd.call62 #[.agg S.ca, Sn S g46] (yields_any hG (hb.trans0 hEl53) hI hB57 hC46) ?_
   rintro _ wc74 ⟨gy74, L74, R74, rfl, hY74, hIY74, hgy74, hEc74⟩
   refine ⟨_, rfl, fun a hS => ?_⟩
   have hB76 := hB55.ext hEc74 (by simp)
   have hE79 := hEl53.trans0 hEc74
   refine sd ww [.p, .p] [] [(31, .agg #[I6 0, I6 0, .string ⟨#[]⟩]), (2, Sn S gy74)] [] 5 1 hS .nil fun a hS => est 0 w2.heap.size 0 [I6 0, I6 0, .string ⟨#[]⟩] hS hB76 fun a w80 hw81 hS => ?_
   have hB83 : Blk w80 w2.heap.size 34 (#[I6 0, I6 0, .string ⟨#[]⟩]) := hB76.up hw81
   have hX86 : Ext [w2.heap.size] wc74 w80 := by rw [hw81]; exact (Ext.refl _ _).updIn (.inl (by simp)) _ _
   have hG87 : Lsts wl53.heap.size w80 (some ⟨gy74, 0, none⟩) S.ns.length S.ns.length L74 R74 := (hY74.lsts hgy74).extT hX86 hB76 (by decide) (by decide)
   have hE88 := hE79.ui hw81 hs12
   refine sge hK73 <| wpIn_ret ?_
   refine retTA hS Tryd.results17 (by kernel_rfl) (by kernel_rfl) rfl rfl hB83 ?_
   exact ⟨z16, hZ16, .inr ⟨hb36, _, hLR, .inr ⟨hfe, _, _, _, _, _, rfl, hG87.more hEl53.size, .of hLR hfe hY74.len.2 hIY74⟩⟩, hE88⟩
end Go.Proofs.YtkkpghlcmcaoiaaDoor
