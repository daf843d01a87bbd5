import Derived.Test.YtkkpghlcmcaoiaaDoorS2
import Derived.Test.YtkkpghlcmcaoiaaDoorSt5
import Derived.Test.YtkkpghlcmcaoiaaDoorVw
namespace Go.Proofs.YtkkpghlcmcaoiaaDoor
open Go.Vc Go.Gm
theorem one_nat {w : World} (t : Nat) (ht : t < 128) :
  Calls Tryd.prog 55 #[I6 t] w fun e w' => e = .returned (.agg #[.int .u64 ((sgl t).1 : Int), .int .u64 ((sgl t).2 : Int)]) ∧ Ext [] w w' := by
 refine cbd 10 [(0, I6 t)] Tryd.func55 rfl fun a hS => ?_
 have hE0 : Ext [] w w := Ext.refl _ _
 refine sq fun K1 hK1 => rgn 1 <| ebx 0 #[.int .u64 0, .int .u64 0] 110 (some 2) hS fun a w2 hw3 hS => ?_
 have hB4 := Blk.nw hw3
 have hs5 := hE0.size
 have hE6 := hE0.al hw3
 refine sge hK1 <| sq fun K7 hK7 => ?_
 rcases (show (t < 64) ∨ (64 ≤ t) from by omega) with h1 | h1
 ·
  refine rgn 7 <| sd ww [.p, .run (I6 0), .p, .run (I6 t), .run (.int .u64 (↑(2 ^ t))), .p] [Rv (do eqGuard .quo 3 (.tmp 3) (.const (I6 64)) (I6 t) (I6 64); binOp .quo 3 (I6 t) (I6 64)) (I6 0) w2, Rv (do eqGuard .rem 3 (.tmp 5) (.const (I6 64)) (I6 t) (I6 64); binOp .rem 3 (I6 t) (I6 64)) (I6 t) w2, Rv (do eqGuard .shl 108 (.const (.int .u64 1)) (.tmp 6) (.int .u64 1) (I6 t); binOp .shl 108 (.int .u64 1) (I6 t)) (.int .u64 (↑(2 ^ t))) w2] [(7, .int .u64 (↑(2 ^ t))), (8, (Pv w.heap.size))] [] 6 1 hS (.c ((by have h := bin_quoN (P := Tryd.prog) (w := w2) (T := 3) (p := .tmp 3) (q := .const (I6 64)) (x := t) (y := 64) (by omega) (by omega) (by omega); rw [show t / 64 = 0 by omega] at h; exact h)) (.c ((by have h := bin_remNN (P := Tryd.prog) (w := w2) (T := 3) (p := .tmp 5) (q := .const (I6 64)) (x := t) (y := 64) (by omega); rw [show t % 64 = t by omega] at h; exact h)) (.c ((bin_shl64 (t := t) (by omega))) .nil))) fun a hS => est 0 w.heap.size 0 [.int .u64 (↑(2 ^ t))] hS hB4 fun a w8 hw9 hS => ?_
  have hB10 : Blk w8 w.heap.size 110 (#[.int .u64 (↑(2 ^ t)), .int .u64 0]) := hB4.up hw9
  have hE11 := hE6.ui hw9 hs5
  refine sge hK7 <| sq fun K12 hK12 => rgn 2 <| sd ww [.lds [.int .u64 (↑(2 ^ t)), .int .u64 0]] [_, _] [(9, .agg #[.int .u64 (↑(2 ^ t)), .int .u64 0])] [] 1 1 hS (hB10.k 0 (hB10.k 1 .nil)) fun a hS => est 0 w.heap.size 0 [.int .u64 (↑(2 ^ t)), .int .u64 0] hS hB10 fun a w13 hw14 hS => ?_
  have hB15 : Blk w13 w.heap.size 110 (#[.int .u64 (↑(2 ^ t)), .int .u64 0]) := hB10.up hw14
  have hE16 := hE11.ui hw14 hs5
  refine sge hK12 <| wpIn_ret ?_
  refine retA1 hS Tryd.results55 (by kernel_rfl) (by kernel_rfl) rfl hB15 ?_
  exact ⟨(show sgl t = (2 ^ t, 0) from if_pos h1) ▸ rfl, hE16⟩
 ·
  refine rgn 7 <| sd ww [.p, .run (I6 1), .p, .run (I6 (↑(t - 64))), .run (.int .u64 (↑(2 ^ (t - 64)))), .p] [Rv (do eqGuard .quo 3 (.tmp 3) (.const (I6 64)) (I6 t) (I6 64); binOp .quo 3 (I6 t) (I6 64)) (I6 1) w2, Rv (do eqGuard .rem 3 (.tmp 5) (.const (I6 64)) (I6 t) (I6 64); binOp .rem 3 (I6 t) (I6 64)) (I6 (↑(t - 64))) w2, Rv (do eqGuard .shl 108 (.const (.int .u64 1)) (.tmp 6) (.int .u64 1) (I6 (↑(t - 64))); binOp .shl 108 (.int .u64 1) (I6 (↑(t - 64)))) (.int .u64 (↑(2 ^ (t - 64)))) w2] [(7, .int .u64 (↑(2 ^ (t - 64)))), (8, (Po w.heap.size 1))] [] 6 1 hS (.c ((by have h := bin_quoN (P := Tryd.prog) (w := w2) (T := 3) (p := .tmp 3) (q := .const (I6 64)) (x := t) (y := 64) (by omega) (by omega) (by omega); rw [show t / 64 = 1 by omega] at h; exact h)) (.c ((by have h := bin_remNN (P := Tryd.prog) (w := w2) (T := 3) (p := .tmp 5) (q := .const (I6 64)) (x := t) (y := 64) (by omega); rw [show t % 64 = t - 64 by omega] at h; exact h)) (.c ((bin_shl64 (t := t - 64) (by omega))) .nil))) fun a hS => est 0 w.heap.size 1 [.int .u64 (↑(2 ^ (t - 64)))] hS hB4 fun a w17 hw18 hS => ?_
  have hB19 : Blk w17 w.heap.size 110 (#[.int .u64 0, .int .u64 (↑(2 ^ (t - 64)))]) := hB4.up hw18
  have hE20 := hE6.ui hw18 hs5
  refine sge hK7 <| sq fun K21 hK21 => rgn 2 <| sd ww [.lds [.int .u64 0, .int .u64 (↑(2 ^ (t - 64)))]] [_, _] [(9, .agg #[.int .u64 0, .int .u64 (↑(2 ^ (t - 64)))])] [] 1 1 hS (hB19.k 0 (hB19.k 1 .nil)) fun a hS => est 0 w.heap.size 0 [.int .u64 0, .int .u64 (↑(2 ^ (t - 64)))] hS hB19 fun a w22 hw23 hS => ?_
  have hB24 : Blk w22 w.heap.size 110 (#[.int .u64 0, .int .u64 (↑(2 ^ (t - 64)))]) := hB19.up hw23
  have hE25 := hE20.ui hw23 hs5
  refine sge hK21 <| wpIn_ret ?_
  refine retA1 hS Tryd.results55 (by kernel_rfl) (by kernel_rfl) rfl hB24 ?_
  exact ⟨(show sgl t = (0, 2 ^ (t - 64)) from if_neg (by omega)) ▸ rfl, hE25⟩
theorem one_any {w : World} (z : Int) (h0 : 0 ≤ z) (h1 : z < 128) :
  Calls Tryd.prog 55 #[I6 z] w fun e w' => e = .returned (.agg #[.int .u64 ((sgl z.toNat).1 : Int), .int .u64 ((sgl z.toNat).2 : Int)]) ∧ Ext [] w w' := by
 obtain ⟨t, rfl⟩ := Int.eq_ofNat_of_zero_le h0
 exact one_nat t (by omega)
theorem with_any {w : World} (s o : Se) (hs : s.ok) (ho : o.ok) :
  Calls Tryd.prog 59 #[.agg #[.int .u64 ↑s.1, .int .u64 ↑s.2], .agg #[.int .u64 ↑o.1, .int .u64 ↑o.2]] w fun e w' => e = .returned (.agg #[.int .u64 ((un s o).1 : Int), .int .u64 ((un s o).2 : Int)]) ∧ Ext [] w w' := by
 refine cbd 16 [(0, .agg #[.int .u64 ↑s.1, .int .u64 ↑s.2]), (1, .agg #[.int .u64 ↑o.1, .int .u64 ↑o.2])] Tryd.func59 rfl fun a hS => ?_
 have hE0 : Ext [] w w := Ext.refl _ _
 refine sq fun K1 hK1 => rgn 3 <| ebx 2 #[.int .u64 ↑s.1, .int .u64 ↑s.2] 110 (some 2) hS fun a w2 hw3 hS => ?_
 have hB4 := Blk.nw hw3
 have hs5 := hE0.size
 have hE6 := hE0.al hw3
 refine ebx 1 #[.int .u64 ↑o.1, .int .u64 ↑o.2] 110 (some 3) hS fun a w7 hw8 hS => ?_
 have hB10 := Blk.at' hw8 (hB4.alloc _)
 have hB11 := Blk.nw hw8
 have hs12 := hE6.size
 have hE13 := hE6.al hw8
 refine ebx 0 #[.int .u64 0, .int .u64 0] 110 (some 4) hS fun a w14 hw15 hS => ?_
 have hB18 := Blk.at' hw15 (hB10.alloc _)
 have hB19 := Blk.at' hw15 (hB11.alloc _)
 have hB20 := Blk.nw hw15
 have hs21 := hE13.size
 have hE22 := hE13.al hw15
 refine sge hK1 <| sq fun K23 hK23 => rgn 12 <| sd ww [.p, .ld (.int .u64 ↑s.1), .p, .ld (.int .u64 ↑o.1), .run (.int .u64 (↑(s.1 ||| o.1))), .p, .ld (.int .u64 ↑s.2), .p, .ld (.int .u64 ↑o.2), .run (.int .u64 (↑(s.2 ||| o.2))), .p] [_, _, Rv (do eqGuard .or 108 (.tmp 6) (.tmp 8) (.int .u64 ↑s.1) (.int .u64 ↑o.1); binOp .or 108 (.int .u64 ↑s.1) (.int .u64 ↑o.1)) (.int .u64 (↑(s.1 ||| o.1))) w14, _, _, Rv (do eqGuard .or 108 (.tmp 11) (.tmp 13) (.int .u64 ↑s.2) (.int .u64 ↑o.2); binOp .or 108 (.int .u64 ↑s.2) (.int .u64 ↑o.2)) (.int .u64 (↑(s.2 ||| o.2))) w14] [(15, .agg #[.int .u64 (↑(s.1 ||| o.1)), .int .u64 (↑(s.2 ||| o.2))])] [] 11 1 hS (hB18.k 0 (hB19.k 0 (.c ((bin_or64 hs.a ho.a)) (hB18.k 1 (hB19.k 1 (.c ((bin_or64 hs.b ho.b)) .nil)))))) fun a hS => est 0 w7.heap.size 0 [.int .u64 (↑(s.1 ||| o.1)), .int .u64 (↑(s.2 ||| o.2))] hS hB20 fun a w24 hw25 hS => ?_
 have hB28 : Blk w24 w7.heap.size 110 (#[.int .u64 (↑(s.1 ||| o.1)), .int .u64 (↑(s.2 ||| o.2))]) := hB20.up hw25
 have hE29 := hE22.ui hw25 hs21
 refine sge hK23 <| wpIn_ret ?_
 refine retA1 hS Tryd.results59 (by kernel_rfl) (by kernel_rfl) rfl hB28 ?_
 exact ⟨rfl, hE29⟩
theorem begins_any {w0 w : World} {S : Sp} (hG : SpOk w0 S) (hb : Ext [] w0 w) {ce cf ge gf gb : Nat} {es : List Bool} {fs : List Se} (hgb : Blk w gb 105 #[S.lv, S.nv, I6 S.st, S.pv, Sl ge S.ns.length ce, Sl gf S.ns.length cf]) (hem : OwnR w 4 1 ge ce S.ns.length (bls es)) (hfs : OwnR w 110 2 gf cf S.ns.length (secs fs)) (hel : es.length = S.ns.length) (hfl : fs.length = S.ns.length) (hfo : ∀ s ∈ fs, Se.ok s) (hlx : S.lx.length ≤ 64) {tb : Nat} (htb : Blk w tb 106 #[Pv gb]) (x : Sy) (hx : syOk S x) :
  Calls Tryd.prog 91 #[.agg #[I6 x.1, I6 x.2], (Pv tb)] w fun e w' => e = .returned (.tuple #[.agg #[.int .u64 (((hdS S.nl fs es [sm x]).1).1 : Int), .int .u64 (((hdS S.nl fs es [sm x]).1).2 : Int)], .bool (hdS S.nl fs es [sm x]).2]) ∧ Ext [] w w' := by
 have hlmax := hG.lmax
 have hnmax := hG.nmax
 have hpmax := hG.pmax
 refine cbd 37 [(0, .agg #[I6 x.1, I6 x.2]), (1, (Pv tb))] Tryd.func91 rfl fun a hS => ?_
 have hE0 : Ext [] w w := Ext.refl _ _
 refine sq fun K1 hK1 => ?_
 rcases (show (x.1 = 1 ∧ 0 ≤ x.2 ∧ x.2 < S.lx.length ∧ sm x = .t x.2.toNat) ∨ (x.1 = 2 ∧ x.2 = 0 ∧ sm x = .e) ∨ (x.1 = 3 ∧ 0 ≤ x.2 ∧ x.2 < S.ns.length ∧ sm x = .m x.2.toNat) from sy_kinds hx) with ⟨h1, h2, h3, h4⟩ | ⟨h1, h2, h3⟩ | ⟨h1, h2, h3, h4⟩
 ·
  refine rgn 3 <| ebx 2 #[I6 x.1, I6 x.2] 61 (some 2) hS fun a w2 hw3 hS => ?_
  have hB12 := Blk.nw hw3
  have hs13 := hE0.size
  have hE14 := hE0.al hw3
  refine ebx 1 #[.int .u64 0, .int .u64 0] 110 (some 3) hS fun a w15 hw16 hS => ?_
  have hB26 := Blk.at' hw16 (hB12.alloc _)
  have hB27 := Blk.nw hw16
  have hs28 := hE14.size
  have hE29 := hE14.al hw16
  refine sd ww [.p] [] [(4, .bool false)] [] 3 0 hS .nil fun a hS => sge hK1 <| sq fun K30 hK30 => sdq 2 [.p, .ld (I6 x.1)] [_] [(6, I6 x.1)] [] hS (hB26.k 0 .nil) fun a hS => wpIn_block <| sdq 2 [.as (.bool true), .p] [Value.bool (((x.1 : Int) == 1)) = .bool true] [(7, .bool true)] [] hS (.c (as_eq_t (by omega)) .nil) fun a hS => ?_
  refine cond_t hS rfl ?_
  refine sq fun K33 hK33 => rgn 5 <| sd ww [.p, .ld (I6 x.2)] [_] [(10, I6 x.2)] [] 2 3 hS (hB26.k 1 .nil) fun a hS => ecl 2 (some 11) hS Tryd.call55 #[I6 x.2] (one_any _ (by omega) (by omega)) ?_
  rintro _ wc34 ⟨rfl, hEc34⟩
  refine ⟨_, rfl, fun a hS => ?_⟩
  have hB40 := hB27.ext hEc34 (by simp)
  have hE41 := hE29.trans0 hEc34
  refine est 1 w2.heap.size 0 [.int .u64 ((sgl (x.2 : Int).toNat).1 : Int), .int .u64 ((sgl (x.2 : Int).toNat).2 : Int)] hS hB40 fun a w42 hw43 hS => ?_
  have hB49 : Blk w42 w2.heap.size 110 (#[.int .u64 ((sgl (x.2 : Int).toNat).1 : Int), .int .u64 ((sgl (x.2 : Int).toNat).2 : Int)]) := hB40.up hw43
  have hE50 := hE41.ui hw43 hs28
  refine sd ww [.p] [] [] [] 5 0 hS .nil fun a hS => sge hK33 <| wpIn_ret <| inBlock_ret <| then_ret ?_
  refine retA2 hS Tryd.results91 (by kernel_rfl) (by kernel_rfl) rfl rfl hB49 ?_
  exact ⟨by rw [show hdS S.nl fs es [sm x] = (sgl x.2.toNat, false) from by rw [h4]; rfl], hE50⟩
 ·
  refine rgn 3 <| ebx 2 #[I6 x.1, I6 x.2] 61 (some 2) hS fun a w51 hw52 hS => ?_
  have hB57 := Blk.at' hw52 (hgb.alloc _)
  have hB60 := Blk.at' hw52 (htb.alloc _)
  have hB61 := Blk.nw hw52
  have hs62 := hE0.size
  have hE63 := hE0.al hw52
  refine ebx 1 #[.int .u64 0, .int .u64 0] 110 (some 3) hS fun a w64 hw65 hS => ?_
  have hB71 := Blk.at' hw65 (hB57.alloc _)
  have hB74 := Blk.at' hw65 (hB60.alloc _)
  have hB75 := Blk.at' hw65 (hB61.alloc _)
  have hB76 := Blk.nw hw65
  have hs77 := hE63.size
  have hE78 := hE63.al hw65
  refine sd ww [.p] [] [(4, .bool false)] [] 3 0 hS .nil fun a hS => sge hK1 <| sq fun K79 hK79 => sdq 2 [.p, .ld (I6 x.1)] [_] [(6, I6 x.1)] [] hS (hB75.k 0 .nil) fun a hS => wpIn_block <| sdq 2 [.as (.bool false), .p] [Value.bool (((x.1 : Int) == 1)) = .bool false] [(7, .bool false)] [] hS (.c (as_eq_f (by omega)) .nil) fun a hS => ?_
  refine cond_f hS rfl ?_
  refine sdq 2 [.as (.bool true), .p] [Value.bool (((x.1 : Int) == 2)) = .bool true] [(12, .bool true)] [] hS (.c (as_eq_t (by omega)) .nil) fun a hS => ?_
  refine cond_t hS rfl ?_
  refine sq fun K83 hK83 => rgn 9 <| sd ww [.ld ((Pv gb)), .p, .p, .p, .ld (S.lv), .run (I6 S.lx.length)] [_, _, Rv (Builtin.len_ #[22] 3 #[S.lv]) (I6 S.lx.length) w64] [(19, I6 S.lx.length)] [] 6 3 hS (hB74.k 0 (hB71.k 0 (.c (rlr 100 hG.lex) .nil))) fun a hS => ecl 2 (some 20) hS Tryd.call55 #[I6 S.lx.length] (one_any _ (by omega) (by omega)) ?_
  rintro _ wc84 ⟨rfl, hEc84⟩
  refine ⟨_, rfl, fun a hS => ?_⟩
  have hB90 := hB76.ext hEc84 (by simp)
  have hE91 := hE78.trans0 hEc84
  refine est 1 w51.heap.size 0 [.int .u64 ((sgl (↑S.lx.length : Int).toNat).1 : Int), .int .u64 ((sgl (↑S.lx.length : Int).toNat).2 : Int)] hS hB90 fun a w92 hw93 hS => ?_
  have hB99 : Blk w92 w51.heap.size 110 (#[.int .u64 ((sgl (↑S.lx.length : Int).toNat).1 : Int), .int .u64 ((sgl (↑S.lx.length : Int).toNat).2 : Int)]) := hB90.up hw93
  have hE100 := hE91.ui hw93 hs77
  refine sd ww [.p] [] [] [] 9 0 hS .nil fun a hS => sge hK83 <| wpIn_ret <| inBlock_ret <| then_ret ?_
  refine retA2 hS Tryd.results91 (by kernel_rfl) (by kernel_rfl) rfl rfl hB99 ?_
  exact ⟨by rw [show hdS S.nl fs es [sm x] = (sgl (S.lx.length : Int).toNat, false) from by rw [h3]; rfl], hE100⟩
 ·
  obtain ⟨fx, hfx⟩ : ∃ fx, fs[x.2.toNat]? = some fx := gE
  obtain ⟨ex, hex⟩ : ∃ ex, es[x.2.toNat]? = some ex := gE
  refine rgn 3 <| ebx 2 #[I6 x.1, I6 x.2] 61 (some 2) hS fun a w101 hw102 hS => ?_
  have hB107 := Blk.at' hw102 (hgb.alloc _)
  have hB108 := OwnR.at' hw102 (hem.alloc _)
  have hB109 := OwnR.at' hw102 (hfs.alloc _)
  have hB110 := Blk.at' hw102 (htb.alloc _)
  have hB111 := Blk.nw hw102
  have hs112 := hE0.size
  have hE113 := hE0.al hw102
  refine ebx 1 #[.int .u64 0, .int .u64 0] 110 (some 3) hS fun a w114 hw115 hS => ?_
  have hn116 := Nat.ne_of_lt hB107.lt
  have hn117 := Nat.ne_of_lt hB108.lt
  have hn119 := Nat.ne_of_lt hB110.lt
  have hn120 := Nat.ne_of_lt hB111.lt
  have hB121 := Blk.at' hw115 (hB107.alloc _)
  have hB122 := OwnR.at' hw115 (hB108.alloc _)
  have hB123 := OwnR.at' hw115 (hB109.alloc _)
  have hB124 := Blk.at' hw115 (hB110.alloc _)
  have hB125 := Blk.at' hw115 (hB111.alloc _)
  have hB126 := Blk.nw hw115
  have hs127 := hE113.size
  have hE128 := hE113.al hw115
  refine sd ww [.p] [] [(4, .bool false)] [] 3 0 hS .nil fun a hS => sge hK1 <| sq fun K129 hK129 => sdq 2 [.p, .ld (I6 x.1)] [_] [(6, I6 x.1)] [] hS (hB125.k 0 .nil) fun a hS => wpIn_block <| sdq 2 [.as (.bool false), .p] [Value.bool (((x.1 : Int) == 1)) = .bool false] [(7, .bool false)] [] hS (.c (as_eq_f (by omega)) .nil) fun a hS => ?_
  refine cond_f hS rfl ?_
  refine sdq 2 [.as (.bool false), .p] [Value.bool (((x.1 : Int) == 2)) = .bool false] [(12, .bool false)] [] hS (.c (as_eq_f (by omega)) .nil) fun a hS => ?_
  refine cond_f hS rfl ?_
  refine wpIn_skip <| inBlock_normal <| hK129 _ _ <| sq fun K133 hK133 => ?_
  refine fn3 [.q (.ld ((Pv gb))), .q .p, .q .p, .q (.ld (Sl gf S.ns.length cf)), .q .p, .q (.ld (I6 x.2)), .q (.run ((Po gf (0 + x.2.toNat * 2)))), .q (.lds [.int .u64 ↑fx.1, .int .u64 ↑fx.2]), .q (.ld ((Pv gb))), .q .p, .q .p, .q (.ld (Sl ge S.ns.length ce)), .q .p, .q (.ld (I6 x.2)), .q (.run ((Po ge (0 + x.2.toNat * 1)))), .q (.ld (.bool ex)), .e, .q .p] [0, 0, 0, 0, 0, 0, 0, 0, 0, 0, 0, 0, 0, 0, 0, 0, 0, 1] [0, 0, 0, 0, 0, 0, 0, 0, 1, 1, 1, 1, 1, 1, 1, 1, 0, 1] [0, 1, 3, 7, 0, 16, 63, 127, 0, 256, 768, 1792, 0, 4096, 16128, 32512, 255, 131071] [16] 1 ([(0, .agg #[I6 x.1, I6 x.2]), (1, (Pv tb)), (2, (Pv w.heap.size)), (3, (Pv w101.heap.size)), (6, I6 x.1), (7, .bool false), (12, .bool false), (4, .bool ex), (21, (Pv gb)), (22, (Pv gb)), (23, (Po gb 5)), (24, Sl gf S.ns.length cf), (25, (Po w.heap.size 1)), (26, I6 x.2), (27, (Po gf (0 + x.2.toNat * 2))), (28, .agg #[.int .u64 ↑fx.1, .int .u64 ↑fx.2]), (29, (Pv gb)), (30, (Pv gb)), (31, (Po gb 4)), (32, Sl ge S.ns.length ce), (33, (Po w.heap.size 1)), (34, I6 x.2), (35, (Po ge (0 + x.2.toNat * 1))), (36, .bool ex)]) [w114.drew, upd (w114.drew) (w101.heap.size) 110 #[.int .u64 ↑fx.1, .int .u64 ↑fx.2]] w114.drew (fun w' => [(0, [w'.cell? ⟨tb, 0, none⟩ = some ((Pv gb))]), (3, [w'.cell? ⟨gb, 5, none⟩ = some (Sl gf S.ns.length cf)]), (5, [w'.cell? ⟨w.heap.size, 1, none⟩ = some (I6 x.2)]), (6, [Rv (Instr.indexAt 103 (Sl gf S.ns.length cf) (I6 x.2)) ((Po gf (0 + x.2.toNat * 2))) w']), (7, [w'.cell? ⟨gf, 0 + x.2.toNat * 2, none⟩ = some (.int .u64 ↑fx.1), w'.cell? ⟨gf, 0 + x.2.toNat * 2 + 1, none⟩ = some (.int .u64 ↑fx.2)]), (8, [w'.cell? ⟨tb, 0, none⟩ = some ((Pv gb))]), (11, [w'.cell? ⟨gb, 4, none⟩ = some (Sl ge S.ns.length ce)]), (13, [w'.cell? ⟨w.heap.size, 1, none⟩ = some (I6 x.2)]), (14, [Rv (Instr.indexAt 31 (Sl ge S.ns.length ce) (I6 x.2)) ((Po ge (0 + x.2.toNat * 1))) w']), (15, [w'.cell? ⟨ge, 0 + x.2.toNat * 1, none⟩ = some (.bool ex)])]) [0, 1, 2, 3, 6, 7, 12] [] hS (fun _ => by kernel_rfl) ?_ ?_ ?_
  ·intro e w' hw
   refine (.c ?_ (.c ?_ (.c ?_ (.c ?_ (.c ?_ (.c ?_ (.c ?_ (.c ?_ (.c ?_ (.c ?_ .nil))))))))))
   ·intro h1 h2
    obtain rfl := Nat.le_antisymm h2 h1
    obtain rfl : w' = w114.drew := hw.trans (by kernel_rfl)
    exact (.c ((hB124.drew : Blk w114.drew tb 106 (#[(Pv gb)])).cell 0 rfl) .nil)
   ·intro h1 h2
    obtain rfl := Nat.le_antisymm h2 h1
    obtain rfl : w' = w114.drew := hw.trans (by kernel_rfl)
    exact (.c ((hB121.drew : Blk w114.drew gb 105 (#[S.lv, S.nv, I6 S.st, S.pv, Sl ge S.ns.length ce, Sl gf S.ns.length cf])).cell 5 rfl) .nil)
   ·intro h1 h2
    obtain rfl := Nat.le_antisymm h2 h1
    obtain rfl : w' = w114.drew := hw.trans (by kernel_rfl)
    exact (.c ((hB125.drew : Blk w114.drew w.heap.size 61 (#[I6 x.1, I6 x.2])).cell 1 rfl) .nil)
   ·exact fun _ _ => (.c (ixz 110 2 x.2) .nil)
   ·intro h1 h2
    obtain rfl := Nat.le_antisymm h2 h1
    obtain rfl : w' = w114.drew := hw.trans (by kernel_rfl)
    exact (.c ((hB123.drew : OwnR w114.drew 110 2 gf cf S.ns.length (secs fs)).cellAt _ (by rw [Nat.zero_add]; exact secs_at (i := 0) hfx (by omega))) (.c ((hB123.drew : OwnR w114.drew 110 2 gf cf S.ns.length (secs fs)).cellAt _ (by rw [Nat.zero_add]; exact secs_at (i := 1) hfx (by omega))) .nil))
   ·intro h1 h2
    replace h1 : 0 ≤ e := h1
    replace h2 : e ≤ 1 := h2
    have he : e = 0 ∨ e = 1 := by omega
    rcases he with rfl | rfl
    ·obtain rfl : w' = w114.drew := hw.trans (by kernel_rfl)
     exact (.c ((hB124.drew : Blk w114.drew tb 106 (#[(Pv gb)])).cell 0 rfl) .nil)
    ·obtain rfl : w' = upd (w114.drew) (w101.heap.size) 110 #[.int .u64 ↑fx.1, .int .u64 ↑fx.2] := hw.trans (by kernel_rfl)
     exact (.c (((hB124.drew).updNe (Ne.symm hn119) _ _ : Blk (upd (w114.drew) (w101.heap.size) 110 #[.int .u64 ↑fx.1, .int .u64 ↑fx.2]) tb 106 (#[(Pv gb)])).cell 0 rfl) .nil)
   ·intro h1 h2
    replace h1 : 0 ≤ e := h1
    replace h2 : e ≤ 1 := h2
    have he : e = 0 ∨ e = 1 := by omega
    rcases he with rfl | rfl
    ·obtain rfl : w' = w114.drew := hw.trans (by kernel_rfl)
     exact (.c ((hB121.drew : Blk w114.drew gb 105 (#[S.lv, S.nv, I6 S.st, S.pv, Sl ge S.ns.length ce, Sl gf S.ns.length cf])).cell 4 rfl) .nil)
    ·obtain rfl : w' = upd (w114.drew) (w101.heap.size) 110 #[.int .u64 ↑fx.1, .int .u64 ↑fx.2] := hw.trans (by kernel_rfl)
     exact (.c (((hB121.drew).updNe (Ne.symm hn116) _ _ : Blk (upd (w114.drew) (w101.heap.size) 110 #[.int .u64 ↑fx.1, .int .u64 ↑fx.2]) gb 105 (#[S.lv, S.nv, I6 S.st, S.pv, Sl ge S.ns.length ce, Sl gf S.ns.length cf])).cell 4 rfl) .nil)
   ·intro h1 h2
    replace h1 : 0 ≤ e := h1
    replace h2 : e ≤ 1 := h2
    have he : e = 0 ∨ e = 1 := by omega
    rcases he with rfl | rfl
    ·obtain rfl : w' = w114.drew := hw.trans (by kernel_rfl)
     exact (.c ((hB125.drew : Blk w114.drew w.heap.size 61 (#[I6 x.1, I6 x.2])).cell 1 rfl) .nil)
    ·obtain rfl : w' = upd (w114.drew) (w101.heap.size) 110 #[.int .u64 ↑fx.1, .int .u64 ↑fx.2] := hw.trans (by kernel_rfl)
     exact (.c (((hB125.drew).updNe (Ne.symm hn120) _ _ : Blk (upd (w114.drew) (w101.heap.size) 110 #[.int .u64 ↑fx.1, .int .u64 ↑fx.2]) w.heap.size 61 (#[I6 x.1, I6 x.2])).cell 1 rfl) .nil)
   ·exact fun _ _ => (.c (ixz 4 1 x.2) .nil)
   ·intro h1 h2
    replace h1 : 0 ≤ e := h1
    replace h2 : e ≤ 1 := h2
    have he : e = 0 ∨ e = 1 := by omega
    rcases he with rfl | rfl
    ·obtain rfl : w' = w114.drew := hw.trans (by kernel_rfl)
     exact (.c ((hB122.drew : OwnR w114.drew 4 1 ge ce S.ns.length (bls es)).cellAt _ (bls_at hex)) .nil)
    ·obtain rfl : w' = upd (w114.drew) (w101.heap.size) 110 #[.int .u64 ↑fx.1, .int .u64 ↑fx.2] := hw.trans (by kernel_rfl)
     exact (.c (((hB122.drew).updNe (Ne.symm hn117) _ _ : OwnR (upd (w114.drew) (w101.heap.size) 110 #[.int .u64 ↑fx.1, .int .u64 ↑fx.2]) 4 1 ge ce S.ns.length (bls es)).cellAt _ (bls_at hex)) .nil)
  ·refine (.c ?eq134_16 .nil)
   ·refine eff_at (w114.drew) (upd (w114.drew) (w101.heap.size) 110 #[.int .u64 ↑fx.1, .int .u64 ↑fx.2]) (by kernel_rfl) (by kernel_rfl) ?_
    exact upon_store (b := w101.heap.size) (off := 0) (vs := [.int .u64 ↑fx.1, .int .u64 ↑fx.2]) (by kernel_rfl) (hB126.drew : Blk w114.drew w101.heap.size 110 (#[.int .u64 0, .int .u64 0])) (by simp) ⟨by kernel_rfl, by kernel_rfl⟩
  rintro a w135 hS hw136
  replace hw136 : w135 = upd (w114.drew) (w101.heap.size) 110 #[.int .u64 ↑fx.1, .int .u64 ↑fx.2] := hw136.trans (by kernel_rfl)
  have hB142 : Blk w135 w101.heap.size 110 (#[.int .u64 ↑fx.1, .int .u64 ↑fx.2]) := by rw [hw136]; exact (hB126.drew).upd _ _
  have hE143 : Ext [] w w135 := by rw [hw136]; exact (hE128.drew).updIn (.inr hs127) _ _
  replace hS := hS.kp [(0, .agg #[I6 x.1, I6 x.2]), (1, (Pv tb)), (2, (Pv w.heap.size)), (3, (Pv w101.heap.size)), (6, I6 x.1), (7, .bool false), (12, .bool false), (4, .bool ex)]
  refine hK133 _ _ <| wpIn_ret ?_
  refine retA2 hS Tryd.results91 (by kernel_rfl) (by kernel_rfl) rfl rfl hB142 ?_
  exact ⟨by rw [show hdS S.nl fs es [sm x] = (fx, ex) from hdS_one h4 hfx hex], hE143⟩
theorem heads_any {w0 w : World} {S : Sp} (hG : SpOk w0 S) (hb : Ext [] w0 w) {ce cf ge gf gb : Nat} {es : List Bool} {fs : List Se} (hgb : Blk w gb 105 #[S.lv, S.nv, I6 S.st, S.pv, Sl ge S.ns.length ce, Sl gf S.ns.length cf]) (hem : OwnR w 4 1 ge ce S.ns.length (bls es)) (hfs : OwnR w 110 2 gf cf S.ns.length (secs fs)) (hel : es.length = S.ns.length) (hfl : fs.length = S.ns.length) (hfo : ∀ s ∈ fs, Se.ok s) (hlx : S.lx.length ≤ 64) {rv : Value} {r : List Sy} (hr : RdV w0 2 rv r.length (ycells r)) (hrm : r.length ≤ 1048576) (hrk : ∀ x ∈ r, syOk S x) :
  Calls Tryd.prog 58 #[(Pv gb), rv] w fun e w' => e = .returned (.tuple #[.agg #[.int .u64 (((hdS S.nl fs es (row r)).1).1 : Int), .int .u64 (((hdS S.nl fs es (row r)).1).2 : Int)], .bool (hdS S.nl fs es (row r)).2]) ∧ Ext [] w w' := by
 have hlmax := hG.lmax
 have hnmax := hG.nmax
 have hpmax := hG.pmax
 refine cbd 32 [(0, (Pv gb)), (1, rv)] Tryd.func58 rfl fun a hS => ?_
 have hE0 : Ext [] w w := Ext.refl _ _
 refine sq fun K1 hK1 => rgn 3 <| ebx 2 #[(Pv gb)] 106 (some 2) hS fun a w2 hw3 hS => ?_
 have hB7 := Blk.at' hw3 (hgb.alloc _)
 have hB8 := OwnR.at' hw3 (hem.alloc _)
 have hB9 := OwnR.at' hw3 (hfs.alloc _)
 have hB10 := Blk.nw hw3
 have hs11 := hE0.size
 have hE12 := hE0.al hw3
 refine ebx 1 #[.int .u64 0, .int .u64 0] 110 (some 4) hS fun a w13 hw14 hS => ?_
 have hn15 := Nat.ne_of_lt hB7.lt
 have hn16 := Nat.ne_of_lt hB8.lt
 have hn17 := Nat.ne_of_lt hB9.lt
 have hn18 := Nat.ne_of_lt hB10.lt
 have hB19 := Blk.at' hw14 (hB7.alloc _)
 have hB20 := OwnR.at' hw14 (hB8.alloc _)
 have hB21 := OwnR.at' hw14 (hB9.alloc _)
 have hB22 := Blk.at' hw14 (hB10.alloc _)
 have hB23 := Blk.nw hw14
 have hs24 := hE12.size
 have hE25 := hE12.al hw14
 refine sd ww [.p] [] [(5, .bool false)] [] 3 0 hS .nil fun a hS => sge hK1 <| sdq 2 [.p, .p] [] [(6, .func (.func 91) #[] #[(Pv w.heap.size)])] [] hS .nil fun a hS => sq fun K27 hK27 => sdq 3 [.p, .run (I6 r.length), .p] [Rv (Builtin.len_ #[71] 3 #[rv]) (I6 r.length) w13] [(12, rv), (13, I6 r.length), (14, I6 0)] [] hS (.c (rlr 61 hr) .nil) fun a hS => wpIn_block ?_
 have hbl29 := (hb.trans0 hE25)
 refine loop_ghost (fun ((k, acc) : Nat × Se) a' w' => St 32 [] [(4, (Pv w2.heap.size)), (6, .func (.func 91) #[] #[(Pv w.heap.size)]), (12, rv), (13, I6 r.length), (14, I6 k)] a' ∧ Ext [w2.heap.size] w13 w' ∧ k ≤ r.length ∧ Blk w' (w2.heap.size) 110 #[.int .u64 (acc.1 : Int), .int .u64 (acc.2 : Int)] ∧ acc.ok ∧ (un acc (hdS S.nl fs es ((row r).drop k)).1, (hdS S.nl fs es ((row r).drop k)).2) = hdS S.nl fs es (row r)) (fun ((k, acc) : Nat × Se) => r.length - k) (0, (0, 0)) ⟨hS.keepTo [4, 6, 12, 13, 14] (by kernel_rfl), Ext.refl _ _, by omega, hB23, ok_none, by rw [un_none]; rfl⟩ ?_
 rintro ⟨k, acc⟩ a wl29 ⟨hS, hXl29, hk, hout, haok, hacc⟩
 have hB30 := hB19.ext hXl29 (by simpa using hn15)
 have hB31 := hB20.ext hXl29 (by simpa using hn16)
 have hB32 := hB21.ext hXl29 (by simpa using hn17)
 have hB33 := hB22.ext hXl29 (by simpa using hn18)
 refine sdq 1 [.p] [] [(15, .bool (decide ((↑k : Int) < ↑r.length)))] [] hS .nil fun a hS => sq fun K35 hK35 => ?_
 refine cond_b hS rfl (fun hb36 => ?_) (fun hb36 => ?_)
 ·
  replace hb36 := of_decide_eq_true hb36
  obtain ⟨x, hxk⟩ : ∃ x, r[k]? = some x := gE
  have hxm := List.mem_of_getElem? hxk
  have hstp := hdS_step (nl := S.nl) (fs := fs) (es := es) hxk
  refine wpIn_skip <| hK35 _ _ <| sq fun K37 hK37 => wpIn_block <| sq fun K38 hK38 => rgn 4 <| sd ww [.run ((Po (bof rv) (oof rv + k * 2))), .lds [I6 x.1, I6 x.2]] [Rv (Instr.indexAt 71 (rv) (I6 k)) ((Po (bof rv) (oof rv + k * 2))) wl29, wl29.cell? ⟨bof rv, oof rv + k * 2, none⟩ = some (I6 x.1), wl29.cell? ⟨bof rv, oof rv + k * 2 + 1, none⟩ = some (I6 x.2)] [(17, .agg #[I6 x.1, I6 x.2])] [] 2 2 hS (.c (ixr 61 k hr) (.c ((hr.ext0 (hbl29.trans hXl29 (fun b hbM => by simp at hbM; rw [hbM]; exact .inr (Nat.le_trans hb.size hs24)))).cellAt (k * 2 + 0) (by omega) (ycells_at r k 0 x hxk (by omega))) (.c ((hr.ext0 (hbl29.trans hXl29 (fun b hbM => by simp at hbM; rw [hbM]; exact .inr (Nat.le_trans hb.size hs24)))).cellAt (k * 2 + 1) (by omega) (ycells_at r k 1 x hxk (by omega))) .nil))) fun a hS => ebx 1 #[I6 0, I6 0] 61 (some 8) hS fun a w39 hw40 hS => ?_
  have hn41 := Nat.ne_of_lt hB30.lt
  have hn42 := Nat.ne_of_lt hB31.lt
  have hn43 := Nat.ne_of_lt hB32.lt
  have hn44 := Nat.ne_of_lt hB33.lt
  have hn45 := Nat.ne_of_lt hout.lt
  have hB46 := Blk.at' hw40 (hB30.alloc _)
  have hB47 := OwnR.at' hw40 (hB31.alloc _)
  have hB48 := OwnR.at' hw40 (hB32.alloc _)
  have hB49 := Blk.at' hw40 (hB33.alloc _)
  have hB50 := Blk.at' hw40 (hout.alloc _)
  have hB51 := Blk.nw hw40
  have hs52 := hXl29.size
  have hE53 := hXl29.al hw40
  refine est 0 wl29.heap.size 0 [I6 x.1, I6 x.2] hS hB51 fun a w54 hw55 hS => ?_
  have hB56 := Blk.at' hw55 (hB46.updNe (Ne.symm hn41) _ _)
  have hB57 := OwnR.at' hw55 (hB47.updNe (Ne.symm hn42) _ _)
  have hB58 := OwnR.at' hw55 (hB48.updNe (Ne.symm hn43) _ _)
  have hB59 := Blk.at' hw55 (hB49.updNe (Ne.symm hn44) _ _)
  have hB60 := Blk.at' hw55 (hB50.updNe (Ne.symm hn45) _ _)
  have hB61 : Blk w54 wl29.heap.size 61 (#[I6 x.1, I6 x.2]) := hB51.up hw55
  have hE62 := hE53.ui hw55 hs52
  refine sge hK38 <| sq fun K63 hK63 => rgn 9 <| sd ww [.p, .lds [I6 x.1, I6 x.2]] [_, _] [(19, .func (.func 91) #[] #[(Pv w.heap.size)]), (20, .agg #[I6 x.1, I6 x.2])] [] 2 7 hS (hB61.k 0 (hB61.k 1 .nil)) fun a hS => eff_call ww (r := 6) (f := 91) (vs := [.agg #[I6 x.1, I6 x.2]]) (cap := #[(Pv w.heap.size)]) (d := (some 21)) hS (by kernel_rfl) Tryd.call91 #[.agg #[I6 x.1, I6 x.2], (Pv w.heap.size)] (by kernel_rfl) (begins_any hG (hbl29.trans hE62 (fun b hbM => by simp at hbM; rw [hbM]; exact .inr (Nat.le_trans hb.size hs24))) hB56 hB57 hB58 hel hfl hfo hlx hB59 x (hrk x hxm)) ?_
  rintro _ wc64 ⟨rfl, hEc64⟩
  refine ⟨_, rfl, fun a hS => ?_⟩
  have hB69 := hB60.ext hEc64 (by simp)
  have hE71 := hE62.trans0 hEc64
  refine sd ww [.p, .p, .p] [] [(22, .agg #[.int .u64 (((hdS S.nl fs es [sm x]).1).1 : Int), .int .u64 (((hdS S.nl fs es [sm x]).1).2 : Int)]), (23, .bool ((hdS S.nl fs es [sm x]).2))] [] 6 3 hS .nil fun a hS => ebx 2 #[.int .u64 0, .int .u64 0] 110 (some 9) hS fun a w72 hw73 hS => ?_
  have hn78 := Nat.ne_of_lt hB69.lt
  have hB84 := Blk.at' hw73 (hB69.alloc _)
  have hB86 := Blk.nw hw73
  have hs87 := hE71.size
  have hE88 := hE71.al hw73
  refine est 1 wc64.heap.size 0 [.int .u64 (((hdS S.nl fs es [sm x]).1).1 : Int), .int .u64 (((hdS S.nl fs es [sm x]).1).2 : Int)] hS hB86 fun a w89 hw90 hS => ?_
  have hB95 := Blk.at' hw90 (hB84.updNe (Ne.symm hn78) _ _)
  have hB97 : Blk w89 wc64.heap.size 110 (#[.int .u64 (((hdS S.nl fs es [sm x]).1).1 : Int), .int .u64 (((hdS S.nl fs es [sm x]).1).2 : Int)]) := hB86.up hw90
  have hE98 := hE88.ui hw90 hs87
  refine sd ww [.p] [] [(10, .bool ((hdS S.nl fs es [sm x]).2))] [] 9 0 hS .nil fun a hS => sge hK63 <| sq fun K99 hK99 => rgn 4 <| sd ww [.lds [.int .u64 ↑acc.1, .int .u64 ↑acc.2], .lds [.int .u64 (((hdS S.nl fs es [sm x]).1).1 : Int), .int .u64 (((hdS S.nl fs es [sm x]).1).2 : Int)]] [_, _, _, _] [(24, .agg #[.int .u64 ↑acc.1, .int .u64 ↑acc.2]), (25, .agg #[.int .u64 (((hdS S.nl fs es [sm x]).1).1 : Int), .int .u64 (((hdS S.nl fs es [sm x]).1).2 : Int)])] [] 2 2 hS (hB95.k 0 (hB95.k 1 (hB97.k 0 (hB97.k 1 .nil)))) fun a hS => eff_call ww (r := 1) (f := 59) (vs := [.agg #[.int .u64 ↑acc.1, .int .u64 ↑acc.2], .agg #[.int .u64 (((hdS S.nl fs es [sm x]).1).1 : Int), .int .u64 (((hdS S.nl fs es [sm x]).1).2 : Int)]]) (cap := #[]) (d := (some 26)) hS (by kernel_rfl) Tryd.call59 #[.agg #[.int .u64 ↑acc.1, .int .u64 ↑acc.2], .agg #[.int .u64 (((hdS S.nl fs es [sm x]).1).1 : Int), .int .u64 (((hdS S.nl fs es [sm x]).1).2 : Int)]] (by kernel_rfl) (with_any acc (hdS S.nl fs es [sm x]).1 haok (hd1_ok hfo hlx (hrk x hxm))) ?_
  rintro _ wc100 ⟨rfl, hEc100⟩
  refine ⟨_, rfl, fun a hS => ?_⟩
  have hB105 := hB95.ext hEc100 (by simp)
  have hE108 := hE98.trans0 hEc100
  refine est 0 w2.heap.size 0 [.int .u64 ((un acc (hdS S.nl fs es [sm x]).1).1 : Int), .int .u64 ((un acc (hdS S.nl fs es [sm x]).1).2 : Int)] hS hB105 fun a w109 hw110 hS => ?_
  have hB115 : Blk w109 w2.heap.size 110 (#[.int .u64 ((un acc (hdS S.nl fs es [sm x]).1).1 : Int), .int .u64 ((un acc (hdS S.nl fs es [sm x]).1).2 : Int)]) := hB105.up hw110
  have hE118 : Ext [w2.heap.size] w13 w109 := by rw [hw110]; exact hE108.updIn (.inl (by simp)) _ _
  refine sge hK99 <| sq fun K119 hK119 => rgn 2 <| sg ww [.p, .p] [] [(4, (Pv w2.heap.size)), (6, .func (.func 91) #[] #[(Pv w.heap.size)]), (12, rv), (13, I6 r.length), (14, I6 k), (15, .bool (decide ((↑k : Int) < ↑r.length))), (8, (Pv wl29.heap.size)), (9, (Pv wc64.heap.size)), (10, .bool ((hdS S.nl fs es [sm x]).2)), (28, .bool (!((hdS S.nl fs es [sm x]).2)))] 2 0 hS .nil fun a hS => sge hK119 ?_
  refine cond_b hS rfl (fun hb120 => ?_) (fun hb120 => ?_)
  ·
   replace hb120 := hb120
   have hbx : (hdS S.nl fs es [sm x]).2 = false := by simpa using hb120
   have hEl29 : Ext [] w w109 := hE25.t1 hE118 hs24
   refine sq fun K121 hK121 => rgn 3 <| sd ww [.lds [.int .u64 ((un acc (hdS S.nl fs es [sm x]).1).1 : Int), .int .u64 ((un acc (hdS S.nl fs es [sm x]).1).2 : Int)]] [_, _] [(29, .agg #[.int .u64 ((un acc (hdS S.nl fs es [sm x]).1).1 : Int), .int .u64 ((un acc (hdS S.nl fs es [sm x]).1).2 : Int)])] [] 1 2 hS (hB115.k 0 (hB115.k 1 .nil)) fun a hS => est 1 w2.heap.size 0 [.int .u64 ((un acc (hdS S.nl fs es [sm x]).1).1 : Int), .int .u64 ((un acc (hdS S.nl fs es [sm x]).1).2 : Int)] hS hB115 fun a w122 hw123 hS => ?_
   have hB128 : Blk w122 w2.heap.size 110 (#[.int .u64 ((un acc (hdS S.nl fs es [sm x]).1).1 : Int), .int .u64 ((un acc (hdS S.nl fs es [sm x]).1).2 : Int)]) := hB115.up hw123
   have hE131 := hEl29.ui hw123 hs24
   refine sd ww [.p] [] [(5, .bool false)] [] 3 0 hS .nil fun a hS => sge hK121 <| wpIn_ret <| inBlock_ret <| then_ret <| then_ret <| inBlock_ret <| then_ret ?_
   refine retA2 hS Tryd.results58 (by kernel_rfl) (by kernel_rfl) rfl rfl hB128 ?_
   exact ⟨by rw [← hacc, hstp.2 hbx]; simp only [hbx], hE131⟩
  ·
   replace hb120 := hb120
   have hbx : (hdS S.nl fs es [sm x]).2 = true := by simpa using hb120
   refine wpIn_skip <| inBlock_normal <| hK37 _ _ <| rgn 2 <| sd ww [.as (I6 (↑k + 1)), .p] [_] [(14, I6 (↑k + 1))] [] 2 0 hS (as6 (↑k + 1)) fun a hS => seg_end ?_
   exact ⟨(k + 1, (un acc (hdS S.nl fs es [sm x]).1)), ⟨hS.kp [(4, (Pv w2.heap.size)), (6, .func (.func 91) #[] #[(Pv w.heap.size)]), (12, rv), (13, I6 r.length), (14, I6 (↑k + 1))], hE118, by omega, hB115, ok_un haok (hd1_ok hfo hlx (hrk x hxm)), by rw [← hacc, hstp.1 hbx, un_assoc]⟩, by simp only; omega⟩
 ·
  replace hb36 := of_decide_eq_false hb36
  have hEl29 : Ext [] w wl29 := hE25.t1 hXl29 hs24
  rw [List.drop_eq_nil_of_le (by rw [row_len]; omega)] at hacc
  refine xt2 <| hK27 _ _ <| sq fun K132 hK132 => rgn 3 <| sd ww [.lds [.int .u64 ↑acc.1, .int .u64 ↑acc.2]] [_, _] [(31, .agg #[.int .u64 ↑acc.1, .int .u64 ↑acc.2])] [] 1 2 hS (hout.k 0 (hout.k 1 .nil)) fun a hS => est 1 w2.heap.size 0 [.int .u64 ↑acc.1, .int .u64 ↑acc.2] hS hout fun a w133 hw134 hS => ?_
  have hB139 : Blk w133 w2.heap.size 110 (#[.int .u64 ↑acc.1, .int .u64 ↑acc.2]) := by rw [hw134]; exact hout.upd _ _
  have hE140 := hEl29.ui hw134 hs24
  refine sd ww [.p] [] [(5, .bool true)] [] 3 0 hS .nil fun a hS => sge hK132 <| wpIn_ret ?_
  refine retA2 hS Tryd.results58 (by kernel_rfl) (by kernel_rfl) rfl rfl hB139 ?_
  exact ⟨by rw [← hacc]; show _ = _; rw [show un acc (hdS S.nl fs es []).1 = acc from un_zero _]; rfl, hE140⟩
end Go.Proofs.YtkkpghlcmcaoiaaDoor
