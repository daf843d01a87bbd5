import Derived.Test.YtkkpghlcmcaoiaaDoorRs
namespace Go.Proofs.YtkkpghlcmcaoiaaDoor
open Go.Vc Go.Gm
theorem none_r {w0 w : World} {S : Sp} (hG : SpOk w0 S) (hb : Ext [] w0 w) :
  Calls Tryd.prog 67 #[.agg S.ca] w fun e w' => ∃ g, e = .returned (Sl g (S.lx.length + 2) (S.lx.length + 2)) ∧ OwnR w' 4 1 g (S.lx.length + 2) (S.lx.length + 2) (bls (List.replicate (S.lx.length + 2) false)) ∧ w.heap.size ≤ g ∧ Ext [] w w' := by
 have hlmax := hG.lmax
 have hnmax := hG.nmax
 have hpmax := hG.pmax
 refine cbd 8 [(0, .agg S.ca)] Tryd.func67 rfl fun a hS => ?_
 have hE0 : Ext [] w w := Ext.refl _ _
 refine sq fun K1 hK1 => rgn 2 <| ebx 1 S.ca 26 (some 1) hS fun a w2 hw3 hS => ?_
 have hB4 := Blk.nw hw3
 have hs5 := hE0.size
 have hE6 := hE0.al hw3
 refine sd ww [.p] [] [(2, .slice none 0 0)] [] 2 0 hS .nil fun a hS => sge hK1 <| sq fun K7 hK7 => rgn 6 <| sd ww [.p, .ld (S.lv), .run (I6 S.lx.length), .as (I6 ((S.lx.length + 2 : Nat) : Int))] [_, Rv (Builtin.len_ #[22] 3 #[S.lv]) (I6 S.lx.length) w2, Value.int .i64 (IntKind.i64.wrap (↑S.lx.length + 2)) = I6 ((S.lx.length + 2 : Nat) : Int)] [(6, I6 ((S.lx.length + 2 : Nat) : Int))] [] 4 2 hS (hB4.k 0 (.c (rlr 100 hG.lex) (.c ((by rw [show (↑S.lx.length + 2 : Int) = ((S.lx.length + 2 : Nat) : Int) from by omega]; exact as_i64 (by omega))) .nil))) fun a hS => ?_
 obtain ⟨wm8, hrm8, hOm8, hEm8, hsm8⟩ := make_full (P := Tryd.prog) (w := w2) (T := 31) (E := 4) (size := 1) (bytes := 1) (z := #[.bool false]) (Value.bool false) (l := (S.lx.length + 2)) (by kernel_rfl) (by kernel_rfl) (by rfl) (by omega) (by omega) (by omega)
 refine eff_run ww (r := 1) (s := vS (Instr.makeSlice 31 (I6 ((S.lx.length + 2 : Nat) : Int)) (I6 ((S.lx.length + 2 : Nat) : Int)))) (d := (some 7)) (v := Sl w2.heap.size (S.lx.length + 2) (S.lx.length + 2)) hS (by kernel_rfl) hrm8 fun a hS => ?_
 have hE11 := hE6.trans0 hEm8
 have hg0 := hOm8
 rw [Nat.mul_one, bls_rep] at hg0
 refine sd ww [.p] [] [(2, Sl w2.heap.size (S.lx.length + 2) (S.lx.length + 2))] [] 6 0 hS .nil fun a hS => sge hK7 <| wpIn_ret ?_
 refine ret1 hS Tryd.results67 rfl ?_
 exact ⟨_, rfl, hg0, hE6.size, hE11⟩
theorem Add_r {w : World} {g cg n : Nat} {ba bb : List Bool} {bv : Value} (hg : OwnR w 4 1 g cg n (bls ba)) {m0 : Nat} (hb : RdV w 1 bv m0 (bls bb)) (hnb : ∀ x ∈ ob bv, x ∉ [g]) (hab : m0 ≤ n) (hnm : n ≤ 2000000) :
  Calls Tryd.prog 69 #[Sl g n cg, bv] w fun e w' => ∃ c m, e = .returned (.bool m) ∧ OwnR w' 4 1 g cg n (bls c) ∧ OrP ba bb bb.length c m ∧ Ext [g] w w' := by
 have hal : ba.length = n := by have := hg.len; rw [bls_len] at this; omega
 have hbl : m0 = bb.length := by have := hb.len; rw [bls_len] at this; omega
 subst hbl
 refine cbd 28 [(0, Sl g n cg), (1, bv)] Tryd.func69 rfl fun a hS => ?_
 have hE0 : Ext [g] w w := Ext.refl _ _
 refine sdq 1 [.p] [] [(4, .bool false)] [] hS .nil fun a hS => sdq 1 [.p] [] [(5, .bool false)] [] hS .nil fun a hS => sq fun K3 hK3 => sdq 1 [.p] [] [(6, I6 0)] [] hS .nil fun a hS => wpIn_block ?_
 refine loop_ghost (fun ((i, c, m) : Nat × (List Bool) × Bool) a' w' => St 28 [] [(0, Sl g n cg), (1, bv), (5, .bool m), (6, I6 i)] a' ∧ Ext [g] w w' ∧ i ≤ bb.length ∧ OwnR w' 4 1 g cg n (bls c) ∧ OrP ba bb i c m) (fun ((i, c, m) : Nat × (List Bool) × Bool) => bb.length - i) (0, ba, false) ⟨hS.keepTo [0, 1, 5, 6] (by kernel_rfl), Ext.refl _ _, by omega, hg, .start⟩ ?_
 rintro ⟨i, c, m⟩ a wl5 ⟨hS, hXl5, hi, hg1, hP⟩
 have hcl : c.length = n := by rw [hP.len]; exact hal
 refine sq fun K6 hK6 => sdq 4 [.p, .p, .run (I6 bb.length), .p] [Rv (Builtin.len_ #[124] 3 #[bv]) (I6 bb.length) wl5] [(10, .bool (decide ((↑i : Int) < ↑bb.length)))] [] hS (.c (rlr 4 hb) .nil) fun a hS => ?_
 refine cond_b hS rfl (fun hb8 => ?_) (fun hb8 => ?_)
 ·
  replace hb8 := of_decide_eq_true hb8
  refine wpIn_skip <| hK6 _ _ <| sq fun K9 hK9 => wpIn_block <| sq fun K10 hK10 => ?_
  rcases (show (bb[i]? = some false) ∨ (bb[i]? = some true ∧ c[i]? = some true) ∨ (bb[i]? = some true ∧ c[i]? = some false) from (bool_cases (by omega)).elim (fun h => (bool_cases (by omega)).elim (fun h' => .inr (.inl ⟨h, h'⟩)) (fun h' => .inr (.inr ⟨h, h'⟩))) .inl) with h1 | ⟨h1, h2⟩ | ⟨h1, h2⟩
  ·
   refine rgn 11 <| sd ww [.p, .p, .run ((Po (bof bv) (oof bv + i * 1))), .ld (.bool false), .p, .no, .no, .no, .no, .no, .p] [Rv (Instr.indexAt 124 (bv) (I6 i)) ((Po (bof bv) (oof bv + i * 1))) wl5, wl5.cell? ⟨bof bv, oof bv + i * 1, none⟩ = some (.bool false)] [(23, .bool false)] [] 11 0 hS (.c (ixr 4 i hb) (.c ((hb.ext hXl5 hnb).cellAt (i * 1) (by omega) (bls_at' h1)) .nil)) fun a hS => sge hK10 ?_
   refine cond_f hS rfl ?_
   refine wpIn_skip <| inBlock_normal <| hK9 _ _ <| rgn 3 <| sd ww [.p, .as (I6 (↑i + 1)), .p] [_] [(6, I6 (↑i + 1))] [] 3 0 hS (as6 (↑i + 1)) fun a hS => seg_end ?_
   exact ⟨(i + 1, c, m), ⟨hS.kp [(0, Sl g n cg), (1, bv), (5, .bool m), (6, I6 (↑i + 1))], hXl5, by omega, hg1, hP.off h1⟩, by simp only; omega⟩
  ·
   refine rgn 11 <| sd ww [.p, .p, .run ((Po (bof bv) (oof bv + i * 1))), .ld (.bool true), .p, .p, .p, .run ((Po g (0 + i * 1))), .ld (.bool true), .p, .p] [Rv (Instr.indexAt 124 (bv) (I6 i)) ((Po (bof bv) (oof bv + i * 1))) wl5, wl5.cell? ⟨bof bv, oof bv + i * 1, none⟩ = some (.bool true), Rv (Instr.indexAt 124 (Sl g n cg) (I6 i)) ((Po g (0 + i * 1))) wl5, wl5.cell? ⟨g, 0 + i * 1, none⟩ = some (.bool true)] [(23, .bool false)] [] 11 0 hS (.c (ixr 4 i hb) (.c ((hb.ext hXl5 hnb).cellAt (i * 1) (by omega) (bls_at' h1)) (.c (ixs 4 1 i) (.c ((hg1).cellAt _ (bls_at h2)) .nil)))) fun a hS => sge hK10 ?_
   refine cond_f hS rfl ?_
   refine wpIn_skip <| inBlock_normal <| hK9 _ _ <| rgn 3 <| sd ww [.p, .as (I6 (↑i + 1)), .p] [_] [(6, I6 (↑i + 1))] [] 3 0 hS (as6 (↑i + 1)) fun a hS => seg_end ?_
   exact ⟨(i + 1, c, m), ⟨hS.kp [(0, Sl g n cg), (1, bv), (5, .bool m), (6, I6 (↑i + 1))], hXl5, by omega, hg1, hP.has h2⟩, by simp only; omega⟩
  ·
   have hbm : (bls c).length = n := by rw [bls_len]; exact hcl
   refine rgn 11 <| sd ww [.p, .p, .run ((Po (bof bv) (oof bv + i * 1))), .ld (.bool true), .p, .p, .p, .run ((Po g (0 + i * 1))), .ld (.bool false), .p, .p] [Rv (Instr.indexAt 124 (bv) (I6 i)) ((Po (bof bv) (oof bv + i * 1))) wl5, wl5.cell? ⟨bof bv, oof bv + i * 1, none⟩ = some (.bool true), Rv (Instr.indexAt 124 (Sl g n cg) (I6 i)) ((Po g (0 + i * 1))) wl5, wl5.cell? ⟨g, 0 + i * 1, none⟩ = some (.bool false)] [(23, .bool true)] [] 11 0 hS (.c (ixr 4 i hb) (.c ((hb.ext hXl5 hnb).cellAt (i * 1) (by omega) (bls_at' h1)) (.c (ixs 4 1 i) (.c ((hg1).cellAt _ (bls_at h2)) .nil)))) fun a hS => sge hK10 ?_
   refine cond_t hS rfl ?_
   refine sq fun K11 hK11 => rgn 4 <| sd ww [.p, .p, .run ((Po g (0 + i * 1)))] [Rv (Instr.indexAt 124 (Sl g n cg) (I6 i)) ((Po g (0 + i * 1))) wl5] [(26, (Po g (0 + i * 1)))] [] 3 1 hS (.c (ixs 4 1 i) .nil) fun a hS => eff_store_own ww (r := 0) (b := g) (off := 0 + i * 1) (u := Value.bool true) (xs := (bls c)) hS (by kernel_rfl) hg1 (by omega) fun a ws12 hOs12 hEs12 hsz12 hS => ?_
   have hE13 : Ext [g] w ws12 := hXl5.trans hEs12 (fun b hb => by simp at hb; subst hb; exact .inl (by simp))
   refine sge hK11 <| rgn 1 <| sd ww [.p] [] [(5, .bool true)] [] 1 0 hS .nil fun a hS => seg_end <| inBlock_normal <| hK9 _ _ <| rgn 3 <| sd ww [.p, .as (I6 (↑i + 1)), .p] [_] [(6, I6 (↑i + 1))] [] 3 0 hS (as6 (↑i + 1)) fun a hS => seg_end ?_
   have hgs := hOs12
   rw [bls_set] at hgs
   exact ⟨(i + 1, (c.set i true), true), ⟨hS.kp [(0, Sl g n cg), (1, bv), (5, .bool true), (6, I6 (↑i + 1))], hE13, by omega, hgs, hP.set h1 h2⟩, by simp only; omega⟩
 ·
  replace hb8 := of_decide_eq_false hb8
  have hEl5 : Ext [g] w wl5 := hE0.trans hXl5 (fun b hbM => by simp at hbM; rw [hbM]; exact .inl (by simp))
  have hie : i = bb.length := by omega
  rw [hie] at hP
  refine xt2 <| hK3 _ _ <| sdq 2 [.p, .p] [] [(4, .bool m)] [] hS .nil fun a hS => wpIn_ret ?_
  refine ret1 hS Tryd.results69 rfl ?_
  exact ⟨_, _, rfl, hg1, hP, hEl5⟩
theorem List_r {w : World} {v : Value} {o : List Bool} {m0 : Nat} (hv : RdV w 1 v m0 (bls o)) (hom : m0 ≤ 1048576) :
  Calls Tryd.prog 66 #[v] w fun e w' => ∃ bs n cp, e = .returned (.slice bs n cp) ∧ RowN w.heap.size w' bs n cp (tru o 0) ∧ Ext [] w w' := by
 have hbl : m0 = o.length := by have := hv.len; rw [bls_len] at this; omega
 subst hbl
 refine cbd 20 [(0, v)] Tryd.func66 rfl fun a hS => ?_
 have hE0 : Ext [] w w := Ext.refl _ _
 refine sq fun K1 hK1 => rgn 1 <| sg ww [.p] [] [(0, v), (2, .slice none 0 0)] 1 0 hS .nil fun a hS => sge hK1 <| sq fun K2 hK2 => rgn 1 <| sg ww [.p] [] [(0, v), (2, .slice none 0 0), (3, .slice none 0 0)] 1 0 hS .nil fun a hS => sge hK2 <| sq fun K3 hK3 => sdq 1 [.p] [] [(4, I6 0)] [] hS .nil fun a hS => wpIn_block ?_
 refine loop_ghost (fun ((i, bs, n, cp, zs) : Nat × (Option Addr) × Nat × Nat × (List Nat)) a' w' => St 20 [] [(0, v), (4, I6 i), (3, .slice bs n cp)] a' ∧ Ext [] w w' ∧ i ≤ o.length ∧ RowN w.heap.size w' bs n cp zs ∧ zs ++ tru (o.drop i) i = tru o 0) (fun ((i, bs, n, cp, zs) : Nat × (Option Addr) × Nat × Nat × (List Nat)) => o.length - i) (0, none, 0, 0, []) ⟨hS.keepTo [0, 4, 3] (by kernel_rfl), hE0, by omega, ⟨OwnV.nil _ _ _, fun x hx => by simp [ob] at hx⟩, rfl⟩ ?_
 rintro ⟨i, bs, n, cp, zs⟩ a wl5 ⟨hS, hXl5, hi, hR, hz⟩
 refine sq fun K6 hK6 => sdq 4 [.p, .p, .run (I6 o.length), .p] [Rv (Builtin.len_ #[124] 3 #[v]) (I6 o.length) wl5] [(8, .bool (decide ((↑i : Int) < ↑o.length)))] [] hS (.c (rlr 4 hv) .nil) fun a hS => ?_
 refine cond_b hS rfl (fun hb8 => ?_) (fun hb8 => ?_)
 ·
  replace hb8 := of_decide_eq_true hb8
  refine wpIn_skip <| hK6 _ _ <| sq fun K9 hK9 => wpIn_block <| sq fun K10 hK10 => ?_
  rcases (show (o[i]? = some true) ∨ (o[i]? = some false) from bool_cases (by omega)) with h1 | h1
  ·
   have hzs := hz
   rw [tru_step h1] at hzs
   have hnz := hR.len
   have hlz := congrArg List.length hz
   rw [List.length_append] at hlz
   have htl := tru_len o 0
   refine rgn 4 <| sd ww [.p, .p, .run ((Po (bof v) (oof v + i * 1))), .ld (.bool true)] [Rv (Instr.indexAt 124 (v) (I6 i)) ((Po (bof v) (oof v + i * 1))) wl5, wl5.cell? ⟨bof v, oof v + i * 1, none⟩ = some (.bool true)] [(14, .bool true)] [] 4 0 hS (.c (ixr 4 i hv) (.c ((hv.ext0 hXl5).cellAt (i * 1) (by omega) (bls_at' h1)) .nil)) fun a hS => sge hK10 ?_
   refine cond_t hS rfl ?_
   refine rgn 5 <| sd ww [.p, .p] [] [(15, .slice bs n cp), (16, I6 i)] [] 2 3 hS .nil fun a hS => eff_new ww (r := 2) (cs := #[I6 i]) (T := 3) (v := Value.slice (some ⟨wl5.heap.size, 0, none⟩) 1 1) (d := (some 17)) hS (by kernel_rfl) fun a w11 hw12 hS => ?_
   have hB14 := OwnV.at' hw12 (hR.own.alloc _)
   have hB15 := Blk.nw hw12
   have hs16 := hXl5.size
   have hE17 := hXl5.al hw12
   refine eff_append2 ww (r := 1) (d := (some 18)) (t := 51) (ty := 51) (e := 3) (size := 1) (bytes := 8) (len := n) (b := wl5.heap.size) (off := 0) (k := 1) (c := 1) (z := #[I6 0]) (v := Value.slice bs n cp) (xs := (ivs zs)) [I6 i] hS (by kernel_rfl) (by kernel_rfl) (by kernel_rfl) (by kernel_rfl) (by kernel_rfl) hB14 (by simp) (fun j u hu => by rw [Nat.zero_add]; exact hB15.cell j (by simpa using hu)) rfl (by omega) (by omega) (by omega) fun ga18 ca18 a wa18 hOa18 hEa18 hFa18 hS => ?_
   have hE20 : Ext [] w wa18 := hE17.trans hEa18 (fun b hb => .inr (hR.new b hb))
   refine sd ww [.p] [] [(3, Sl ga18 (n + 1) ca18)] [] 5 0 hS .nil fun a hS => seg_end <| inBlock_normal <| hK9 _ _ <| rgn 3 <| sd ww [.p, .as (I6 (↑i + 1)), .p] [_] [(4, I6 (↑i + 1))] [] 3 0 hS (as6 (↑i + 1)) fun a hS => seg_end ?_
   exact ⟨(i + 1, (some ⟨ga18, 0, none⟩), (n + 1), ca18, (zs ++ [i])), ⟨hS.kp [(0, v), (4, I6 (↑i + 1)), (3, Sl ga18 (n + 1) ca18)], hE20, by omega, hR.grow hOa18 hE17.size hFa18, by rw [List.append_assoc]; exact hzs⟩, by simp only; omega⟩
  ·
   have hzs := hz
   rw [tru_step h1] at hzs
   have hnz := hR.len
   have hlz := congrArg List.length hz
   rw [List.length_append] at hlz
   have htl := tru_len o 0
   refine rgn 4 <| sd ww [.p, .p, .run ((Po (bof v) (oof v + i * 1))), .ld (.bool false)] [Rv (Instr.indexAt 124 (v) (I6 i)) ((Po (bof v) (oof v + i * 1))) wl5, wl5.cell? ⟨bof v, oof v + i * 1, none⟩ = some (.bool false)] [(14, .bool false)] [] 4 0 hS (.c (ixr 4 i hv) (.c ((hv.ext0 hXl5).cellAt (i * 1) (by omega) (bls_at' h1)) .nil)) fun a hS => sge hK10 ?_
   refine cond_f hS rfl ?_
   refine wpIn_skip <| inBlock_normal <| hK9 _ _ <| rgn 3 <| sd ww [.p, .as (I6 (↑i + 1)), .p] [_] [(4, I6 (↑i + 1))] [] 3 0 hS (as6 (↑i + 1)) fun a hS => seg_end ?_
   exact ⟨(i + 1, bs, n, cp, zs), ⟨hS.kp [(0, v), (4, I6 (↑i + 1)), (3, .slice bs n cp)], hXl5, by omega, hR, hzs⟩, by simp only; omega⟩
 ·
  replace hb8 := of_decide_eq_false hb8
  rw [List.drop_eq_nil_of_le (by omega), tru, List.append_nil] at hz
  refine xt2 <| hK3 _ _ <| sdq 2 [.p, .p] [] [(2, .slice bs n cp)] [] hS .nil fun a hS => wpIn_ret ?_
  refine ret1 hS Tryd.results66 rfl ?_
  exact ⟨_, _, _, rfl, hz ▸ hR, hXl5⟩
end Go.Proofs.YtkkpghlcmcaoiaaDoor
