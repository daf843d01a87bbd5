import Derived.Test.YtkkpghlcmcaoiaaDoorProg
import Derived.WalkKit
import Derived.Laws.Bits64b
import Derived.Lib.TrailingZeros
import Derived.Test.YtkkpghlcmcaoiaaDoorVc
import Derived.Test.YtkkpghlcmcaoiaaDoorS9
import Derived.Test.YtkkpghlcmcaoiaaDoorSt5
namespace Go.Proofs.YtkkpghlcmcaoiaaDoor
open Go.RowKit Go.Vc
def Tab (w : World) : Prop := ∀ j, j < Lib.deBruijn64tab.length → w.cell? ⟨0, j, none⟩ = some (.int .u8 (Lib.deBruijn64tab.getD j 0))
set_option maxHeartbeats 1000000 in
theorem tz_core (x k idx : Nat) (w : World) (hx0 : ((x : Int) == 0) = false)
  (key : IntKind.u64.wrap (bits BinOp.and IntKind.u64 (x : Int) (IntKind.u64.wrap (-(x : Int))) * 285870213051353865) / 288230376151711744 = (idx : Int))
  (hi : idx < 64) (hk : k < 64) (hcell : w.cell? ⟨0, idx, none⟩ = some (.int .u8 k)) :
  Calls Tryd.prog 99 #[.int .u64 x] w fun e w' => e = .returned (.int .i64 k) ∧ w' = w := by
 go_enter Tryd.func99, Tryd.ntmps99
 go_wp2_with (simp only [key])
 go_ret
 exact ⟨rfl, rfl⟩
theorem tz_key (x a : Nat) (hx : x < 18446744073709551616) (hx0 : x ≠ 0) (hlow : x &&& (18446744073709551616 - x) = a) :
  IntKind.u64.wrap (bits BinOp.and IntKind.u64 (x : Int) (IntKind.u64.wrap (-(x : Int))) * 285870213051353865) / 288230376151711744 = ((a * 285870213051353865 % 18446744073709551616 / 288230376151711744 : Nat) : Int) := by
 have e1 : IntKind.u64.wrap (-(x : Int)) = ((18446744073709551616 - x : Nat) : Int) := by rw [IntKind.wrap_u64]; omega
 rw [e1, bits_and_u64_nat x _ hx (by omega), hlow, IntKind.wrap_u64]
 omega
theorem tz_any (x : Nat) (hx : x < 18446744073709551616) (hx0 : x ≠ 0) {w : World} (hT : Tab w) :
  Calls Tryd.prog 99 #[.int .u64 x] w fun e w' => e = .returned (.int .i64 (Lib.ctz 64 x)) ∧ Ext [] w w' := by
 obtain ⟨hlow, hk⟩ := Lib.lowest_bit 64 x hx0 hx
 obtain ⟨hi, htab⟩ := Lib.deBruijn64_at _ hk
 have hcell := hT _ hi
 rw [htab] at hcell
 refine (tz_core x _ _ w (by simp; omega) (tz_key x _ hx hx0 hlow) hi hk hcell).mono ?_
 rintro e w' ⟨h1, rfl⟩
 exact ⟨h1, Ext.refl _ _⟩
end Go.Proofs.YtkkpghlcmcaoiaaDoor
namespace Go.Proofs.YtkkpghlcmcaoiaaDoor
open Go.Vc Go.Gm
structure RowN (N : Nat) (w : World) (bs : Option Addr) (n cp : Nat) (zs : List Nat) : Prop where
 own : OwnV w 3 1 (.slice bs n cp) n (ivs zs)
 new : ∀ x ∈ ob (.slice bs n cp), N ≤ x
theorem RowN.len {N : Nat} {w : World} {bs : Option Addr} {n cp : Nat} {zs : List Nat} (h : RowN N w bs n cp zs) : zs.length = n := by
 have := h.own.len
 rw [ivs_len] at this; omega
theorem RowN.mono {N N' : Nat} {w : World} {bs : Option Addr} {n cp : Nat} {zs : List Nat} (h : RowN N w bs n cp zs) (hn : N' ≤ N) : RowN N' w bs n cp zs := ⟨h.own, fun x hx => Nat.le_trans hn (h.new x hx)⟩
theorem RowN.nil (N : Nat) (w : World) : RowN N w none 0 0 [] := ⟨OwnV.nil _ _ _, fun x hx => by simp [ob] at hx⟩
theorem ivs_snoc (zs : List Nat) (z : Nat) : ivs (zs ++ [z]) = ivs zs ++ [I6 (z : Int)] := by simp [ivs]
theorem RowN.grow {N : Nat} {w w1 : World} {bs : Option Addr} {n cp g ca : Nat} {zs : List Nat} {z : Nat} (h : RowN N w bs n cp zs) (hO : OwnR w1 3 1 g ca (n + 1) (ivs zs ++ [I6 (z : Int)])) {M : Nat} (hM : N ≤ M) (hF : Fresh M (ob (.slice bs n cp)) [g]) : RowN N w1 (some ⟨g, 0, none⟩) (n + 1) ca (zs ++ [z]) := by
 refine ⟨by rw [ivs_snoc]; exact hO.v, fun x hx => ?_⟩
 have hx : x = g := by simpa [ob] using hx
 rw [hx]
 rcases hF g (by simp) with h1 | h1
 ·exact h.new _ h1
 ·exact Nat.le_trans hM h1
theorem Tab.ext0 {w w' : World} (h : Tab w) (hE : Ext [] w w') : Tab w' := fun j hj => by
 have := h j hj
 exact cell_ext this hE (by simp)
theorem wd_at (s : Se) {i : Nat} (h : i < 2) : (#[Value.int .u64 (s.1 : Int), .int .u64 (s.2 : Int)] : Array Value)[i]? = some (.int .u64 (wd s i : Int)) := by
 rcases (show i = 0 ∨ i = 1 by omega) with rfl | rfl <;> rfl
theorem list_any {w : World} (hT : Tab w) (s : Se) (hs : s.ok) :
  Calls Tryd.prog 73 #[.agg #[.int .u64 ↑s.1, .int .u64 ↑s.2]] w fun e w' => ∃ bs n cp, e = .returned (.slice bs n cp) ∧ RowN w.heap.size w' bs n cp (tls s) ∧ Ext [] w w' := by
 refine cbd 27 [(0, .agg #[.int .u64 ↑s.1, .int .u64 ↑s.2])] Tryd.func73 rfl fun a hS => ?_
 have hE0 : Ext [] w w := Ext.refl _ _
 refine sq fun K1 hK1 => rgn 2 <| ebx 1 #[.int .u64 ↑s.1, .int .u64 ↑s.2] 110 (some 1) hS fun a w2 hw3 hS => ?_
 have hB4 := Blk.nw hw3
 have hs5 := hE0.size
 have hE6 := hE0.al hw3
 refine sd ww [.p] [] [(2, .slice none 0 0)] [] 2 0 hS .nil fun a hS => sge hK1 <| sdq 1 [.p] [] [(3, .slice none 0 0)] [] hS .nil fun a hS => sq fun K8 hK8 => sdq 2 [.lds [.int .u64 ↑s.1, .int .u64 ↑s.2], .p] [_, _] [(6, .agg #[.int .u64 ↑s.1, .int .u64 ↑s.2]), (7, I6 0)] [] hS (hB4.k 0 (hB4.k 1 .nil)) fun a hS => wpIn_block ?_
 refine loop_ghost (fun ((i, bs, n, cp, zs) : Nat × (Option Addr) × Nat × Nat × (List Nat)) a' w' => St 27 [] [(6, .agg #[.int .u64 ↑s.1, .int .u64 ↑s.2]), (7, I6 i), (3, .slice bs n cp)] a' ∧ Ext [] w w' ∧ i ≤ 2 ∧ RowN w.heap.size w' bs n cp zs ∧ zs ++ rst s i = tls s) (fun ((i, bs, n, cp, zs) : Nat × (Option Addr) × Nat × Nat × (List Nat)) => 2 - i) (0, none, 0, 0, []) ⟨hS.keepTo [6, 7, 3] (by kernel_rfl), hE6, by omega, ⟨OwnV.nil _ _ _, fun x hx => by simp [ob] at hx⟩, rfl⟩ ?_
 rintro ⟨i, bs, n, cp, zs⟩ a wl10 ⟨hS, hXl10, hi, hR, hz⟩
 refine sdq 1 [.p] [] [(8, .bool (decide ((↑i : Int) < 2)))] [] hS .nil fun a hS => sq fun K12 hK12 => ?_
 refine cond_b hS rfl (fun hb13 => ?_) (fun hb13 => ?_)
 ·
  replace hb13 := of_decide_eq_true hb13
  have hi2 : i < 2 := by omega
  have hwl := wd_lt hs i
  rw [rst_step hi2] at hz
  refine wpIn_skip <| hK12 _ _ <| sq fun K14 hK14 => wpIn_block <| sdq 4 [.p, .run (.int .u64 ↑(wd s i)), .p, .p] [Rv (Instr.index 110 (.agg #[.int .u64 ↑s.1, .int .u64 ↑s.2]) (I6 i)) (.int .u64 ↑(wd s i)) wl10] [(4, I6 i), (5, .int .u64 (↑(wd s i)))] [] hS (.c (ix_arr1 (e := 108) (k := i) (by kernel_rfl) (by kernel_rfl) (by kernel_rfl) rfl hi2 (wd_at s hi2)) .nil) fun a hS => wpIn_block ?_
  refine loop_ghost (fun ((x, bs2, n2, cp2, zs2) : Nat × (Option Addr) × Nat × Nat × (List Nat)) a' w' => St 27 [] [(6, .agg #[.int .u64 ↑s.1, .int .u64 ↑s.2]), (7, I6 i), (4, I6 i), (5, .int .u64 ↑x), (3, .slice bs2 n2 cp2)] a' ∧ Ext [] w w' ∧ x < 18446744073709551616 ∧ RowN w.heap.size w' bs2 n2 cp2 zs2 ∧ zs2 ++ (sh i x ++ rst s (i + 1)) = tls s) (fun ((x, bs2, n2, cp2, zs2) : Nat × (Option Addr) × Nat × Nat × (List Nat)) => x) ((wd s i), bs, n, cp, zs) ⟨hS.keepTo [6, 7, 4, 5, 3] (by kernel_rfl), hXl10, hwl, hR, hz⟩ ?_
  rintro ⟨x, bs2, n2, cp2, zs2⟩ a wl16 ⟨hS, hXl16, hxl, hR2, hz2⟩
  refine sq fun K17 hK17 => sdq 2 [.p, .p] [] [(12, .bool ((↑x : Int) != 0))] [] hS .nil fun a hS => ?_
  refine cond_b hS rfl (fun hb19 => ?_) (fun hb19 => ?_)
  ·
   replace hb19 := test_ne_t hb19
   have hx0 : x ≠ 0 := by omega
   obtain ⟨_, hk⟩ := Lib.lowest_bit 64 x hx0 hxl
   rw [sh_step hx0 hxl] at hz2
   have hlt := (bl1_step hx0 hxl).2
   have hnz := hR2.len
   have hlz := congrArg List.length hz2
   rw [List.length_append] at hlz
   have htl := tls_len s
   refine wpIn_skip <| hK17 _ _ <| sq fun K20 hK20 => wpIn_block <| rgn 9 <| sd ww [.p, .p, .as (I6 (64 * ↑i)), .p] [_] [(17, .slice bs2 n2 cp2), (19, I6 (64 * ↑i)), (20, .int .u64 ↑x)] [] 4 5 hS (as6 (64 * ↑i)) fun a hS => ecl 4 (some 21) hS Tryd.call99 #[.int .u64 ↑x] (tz_any x hxl hx0 (hT.ext0 hXl16)) ?_
   rintro _ wc21 ⟨rfl, hEc21⟩
   refine ⟨_, rfl, fun a hS => ?_⟩
   have hB22 := hR2.own.ext hEc21 (by simp)
   have hE23 := hXl16.trans0 hEc21
   refine sd ww [.as (I6 ((64 * ↑i) + (↑(Lib.ctz 64 x))))] [Value.int .i64 (IntKind.i64.wrap ((64 * ↑i) + (↑(Lib.ctz 64 x)))) = I6 ((64 * ↑i) + (↑(Lib.ctz 64 x)))] [(22, I6 ((64 * ↑i) + (↑(Lib.ctz 64 x))))] [] 6 3 hS (.c (as_i64 (by omega)) .nil) fun a hS => eff_new ww (r := 2) (cs := #[I6 ((64 * ↑i) + (↑(Lib.ctz 64 x)))]) (T := 3) (v := Value.slice (some ⟨wc21.heap.size, 0, none⟩) 1 1) (d := (some 23)) hS (by kernel_rfl) fun a w24 hw25 hS => ?_
   have hB27 := OwnV.at' hw25 (hB22.alloc _)
   have hB28 := Blk.nw hw25
   have hs29 := hE23.size
   have hE30 := hE23.al hw25
   refine eff_append2 ww (r := 1) (d := (some 24)) (t := 51) (ty := 51) (e := 3) (size := 1) (bytes := 8) (len := n2) (b := wc21.heap.size) (off := 0) (k := 1) (c := 1) (z := #[I6 0]) (v := Value.slice bs2 n2 cp2) (xs := (ivs zs2)) [I6 ((64 * ↑i) + (↑(Lib.ctz 64 x)))] hS (by kernel_rfl) (by kernel_rfl) (by kernel_rfl) (by kernel_rfl) (by kernel_rfl) hB27 (by simp) (fun j u hu => by rw [Nat.zero_add]; exact hB28.cell j (by simpa using hu)) rfl (by omega) (by omega) (by omega) fun ga31 ca31 a wa31 hOa31 hEa31 hFa31 hS => ?_
   have hE33 : Ext [] w wa31 := hE30.trans hEa31 (fun b hb => .inr (hR2.new b hb))
   refine sd ww [.p] [] [(3, Sl ga31 (n2 + 1) ca31)] [] 9 0 hS .nil fun a hS => seg_end <| inBlock_normal <| hK20 _ _ <| rgn 5 <| sd ww [.p, .p, .as (.int .u64 ((x - 1 : Nat) : Int)), .run (.int .u64 ((x &&& (x - 1) : Nat) : Int)), .p] [Value.int .u64 (IntKind.u64.wrap (↑x - 1)) = .int .u64 ((x - 1 : Nat) : Int), Rv (do eqGuard .and 108 (.tmp 13) (.tmp 15) (.int .u64 ↑x) (.int .u64 ((x - 1 : Nat) : Int)); binOp .and 108 (.int .u64 ↑x) (.int .u64 ((x - 1 : Nat) : Int))) (.int .u64 ((x &&& (x - 1) : Nat) : Int)) wa31] [(5, .int .u64 ((x &&& (x - 1) : Nat) : Int))] [] 5 0 hS (.c ((by rw [show (↑x - 1 : Int) = ((x - 1 : Nat) : Int) from by omega]; exact as_u64 (by omega))) (.c ((bin_and64 (by omega) (by omega))) .nil)) fun a hS => seg_end ?_
   exact ⟨((x &&& (x - 1)), (some ⟨ga31, 0, none⟩), (n2 + 1), ca31, (zs2 ++ [64 * i + Lib.ctz 64 x])), ⟨hS.kp [(6, .agg #[.int .u64 ↑s.1, .int .u64 ↑s.2]), (7, I6 i), (4, I6 i), (5, .int .u64 ((x &&& (x - 1) : Nat) : Int)), (3, Sl ga31 (n2 + 1) ca31)], hE33, by omega, hR2.grow hOa31 hE30.size hFa31, by rw [List.append_assoc]; exact hz2⟩, hlt⟩
  ·
   replace hb19 := test_ne_f hb19
   have hx0 : x = 0 := by omega
   rw [hx0, sh_zero, List.nil_append] at hz2
   refine xt2 <| inBlock_normal <| hK14 _ _ <| rgn 2 <| sd ww [.as (I6 (↑i + 1)), .p] [_] [(7, I6 (↑i + 1))] [] 2 0 hS (as6 (↑i + 1)) fun a hS => seg_end ?_
   exact ⟨(i + 1, bs2, n2, cp2, zs2), ⟨hS.kp [(6, .agg #[.int .u64 ↑s.1, .int .u64 ↑s.2]), (7, I6 (↑i + 1)), (3, .slice bs2 n2 cp2)], hXl16, by omega, hR2, hz2⟩, by simp only; omega⟩
 ·
  replace hb13 := of_decide_eq_false hb13
  have hi2 : i = 2 := by omega
  rw [hi2, show rst s 2 = [] from rfl, List.append_nil] at hz
  refine xt2 <| hK8 _ _ <| sdq 2 [.p, .p] [] [(2, .slice bs n cp)] [] hS .nil fun a hS => wpIn_ret ?_
  refine ret1 hS Tryd.results73 rfl ?_
  exact ⟨_, _, _, rfl, hz ▸ hR, hXl10⟩
structure Lsts (N : Nat) (w : World) (bs : Option Addr) (n cp : Nat) (L : List Rw) (ls : List (List Nat)) : Prop where
 own : OwnV w 51 1 (.slice bs n cp) n (L.map Rw.v)
 new : ∀ x ∈ ob (.slice bs n cp), N ≤ x
 fam : Fam w 3 1 (fun b => N ≤ b) L
 is : L.map (fun x => (x.n, x.xs)) = ls.map fun l => (l.length, ivs l)
theorem Lsts.len {N : Nat} {w : World} {bs : Option Addr} {n cp : Nat} {L : List Rw} {ls : List (List Nat)} (h : Lsts N w bs n cp L ls) : L.length = n ∧ ls.length = n := by
 have h1 := h.own.len
 have h2 := congrArg List.length h.is
 simp only [List.length_map] at h1 h2
 omega
theorem Lsts.ext0 {N : Nat} {w w' : World} {bs : Option Addr} {n cp : Nat} {L : List Rw} {ls : List (List Nat)} (h : Lsts N w bs n cp L ls) (hE : Ext [] w w') : Lsts N w' bs n cp L ls := ⟨h.own.ext0' hE, h.new, h.fam.ext0 hE, h.is⟩
set_option maxHeartbeats 1000000 in
theorem lists_any {w : World} (hT : Tab w) {g n cp : Nat} {fs : List Se} (hg : OwnR w 110 2 g cp n (secs fs)) (hok : ∀ s ∈ fs, Se.ok s) (hnm : n ≤ 1048576) :
  Calls Tryd.prog 53 #[Sl g n cp] w fun e w' => ∃ bs m cp' L, e = .returned (.slice bs m cp') ∧ Lsts w.heap.size w' bs m cp' L (fs.map tls) ∧ Ext [] w w' := by
 have hfl : fs.length = n := by have := hg.len; rw [secs_len] at this; omega
 have hmx := hg.max
 have hle := hg.le
 simp only [maxLen] at hmx
 refine cbd 19 [(0, Sl g n cp)] Tryd.func53 rfl fun a hS => ?_
 have hE0 : Ext [] w w := Ext.refl _ _
 refine sdq 1 [.p] [] [(2, .slice none 0 0)] [] hS .nil fun a hS => sdq 1 [.p] [] [(3, .slice none 0 0)] [] hS .nil fun a hS => sq fun K3 hK3 => sdq 3 [.p, .p, .p] [] [(6, Sl g n cp), (7, I6 n), (8, I6 0)] [] hS .nil fun a hS => wpIn_block ?_
 refine loop_ghost (fun ((i, bs, m, cq, L) : Nat × (Option Addr) × Nat × Nat × (List Rw)) a' w' => St 19 [] [(6, Sl g n cp), (7, I6 n), (8, I6 i), (3, .slice bs m cq)] a' ∧ Ext [] w w' ∧ i ≤ n ∧ Lsts w.heap.size w' bs m cq L ((fs.take i).map tls)) (fun ((i, bs, m, cq, L) : Nat × (Option Addr) × Nat × Nat × (List Rw)) => n - i) (0, none, 0, 0, []) ⟨hS.keepTo [6, 7, 8, 3] (by kernel_rfl), hE0, by omega, ⟨OwnV.nil _ _ _, fun x hx => by simp [ob] at hx, Fam.nil, rfl⟩⟩ ?_
 rintro ⟨i, bs, m, cq, L⟩ a wl5 ⟨hS, hXl5, hi, hR⟩
 refine sdq 1 [.p] [] [(9, .bool (decide ((↑i : Int) < ↑n)))] [] hS .nil fun a hS => sq fun K7 hK7 => ?_
 refine cond_b hS rfl (fun hb8 => ?_) (fun hb8 => ?_)
 ·
  replace hb8 := of_decide_eq_true hb8
  obtain ⟨fx, hfx⟩ : ∃ fx, fs[i]? = some fx := gE
  have hml := hR.len
  have hmt : m = i := by have := hml.2; simp at this; omega
  refine wpIn_skip <| hK7 _ _ <| sq fun K9 hK9 => wpIn_block <| sq fun K10 hK10 => rgn 4 <| sd ww [.run ((Po g (0 + i * 2))), .lds [.int .u64 ↑fx.1, .int .u64 ↑fx.2]] [Rv (Instr.indexAt 103 (Sl g n cp) (I6 i)) ((Po g (0 + i * 2))) wl5, wl5.cell? ⟨g, 0 + i * 2, none⟩ = some (.int .u64 ↑fx.1), wl5.cell? ⟨g, 0 + i * 2 + 1, none⟩ = some (.int .u64 ↑fx.2)] [(11, .agg #[.int .u64 ↑fx.1, .int .u64 ↑fx.2])] [] 2 2 hS (.c (ixs 110 2 i) (.c (((hg.ext hXl5 (by simp))).cellAt _ (by rw [Nat.zero_add]; exact secs_at (i := 0) hfx (by omega))) (.c (((hg.ext hXl5 (by simp))).cellAt _ (by rw [Nat.zero_add]; exact secs_at (i := 1) hfx (by omega))) .nil))) fun a hS => ebx 1 #[.int .u64 0, .int .u64 0] 110 (some 5) hS fun a w11 hw12 hS => ?_
  have hn14 : ∀ x ∈ ob (.slice bs m cq), wl5.heap.size ≠ x := fun x hx => Nat.ne_of_gt (hR.own.lie x hx)
  have hB16 := OwnV.at' hw12 (hR.own.alloc _)
  have hX17 : Ext [] wl5 w11 := by rw [hw12]; exact (Ext.refl _ _).alloc _
  have hG18 : Fam w11 3 1 (fun b => w.heap.size ≤ b) L := hR.fam.ext0 hX17
  have hB19 := Blk.nw hw12
  have hs20 := hXl5.size
  have hE21 := hXl5.al hw12
  refine est 0 wl5.heap.size 0 [.int .u64 ↑fx.1, .int .u64 ↑fx.2] hS hB19 fun a w22 hw23 hS => ?_
  have hB25 := OwnV.at' hw23 (hB16.updNe hn14 _ _)
  have hB26 : Blk w22 wl5.heap.size 110 (#[.int .u64 ↑fx.1, .int .u64 ↑fx.2]) := hB19.up hw23
  have hX27 : Ext [wl5.heap.size] w11 w22 := by rw [hw23]; exact (Ext.refl _ _).updIn (.inl (by simp)) _ _
  have hG28 : Fam w22 3 1 (fun b => w.heap.size ≤ b) L := hG18.ext hX27 (fun k x hx b hb hm => by simp at hm; rw [hm] at hb; exact hG18.notT hB19 (by decide) (bl_mem hx _ hb))
  have hE29 := hE21.ui hw23 hs20
  refine sge hK10 <| rgn 6 <| sd ww [.p, .lds [.int .u64 ↑fx.1, .int .u64 ↑fx.2]] [_, _] [(12, .slice bs m cq), (13, .agg #[.int .u64 ↑fx.1, .int .u64 ↑fx.2])] [] 2 4 hS (hB26.k 0 (hB26.k 1 .nil)) fun a hS => ecl 3 (some 14) hS Tryd.call73 #[.agg #[.int .u64 ↑fx.1, .int .u64 ↑fx.2]] (list_any (hT.ext0 hE29) fx (hok fx (List.mem_of_getElem? hfx))) ?_
  rintro _ wc30 ⟨b330, n330, c330, rfl, hRn30, hEc30⟩
  refine ⟨_, rfl, fun a hS => ?_⟩
  have hB32 := hB25.ext hEc30 (by simp)
  have hG34 : Fam wc30 3 1 (fun b => w.heap.size ≤ b) L := hG28.ext0 hEc30
  have hE35 := hE29.trans0 hEc30
  refine eff_new ww (r := 2) (cs := #[.slice b330 n330 c330]) (T := 51) (v := Value.slice (some ⟨wc30.heap.size, 0, none⟩) 1 1) (d := (some 15)) hS (by kernel_rfl) fun a w36 hw37 hS => ?_
  have hB43 := OwnV.at' hw37 (hB32.alloc _)
  have hB45 := OwnV.at' hw37 (hRn30.own.alloc _)
  have hX46 : Ext [] wc30 w36 := by rw [hw37]; exact (Ext.refl _ _).alloc _
  have hG47 : Fam w36 3 1 (fun b => w.heap.size ≤ b) L := hG34.ext0 hX46
  have hB48 := Blk.nw hw37
  have hs49 := hE35.size
  have hE50 := hE35.al hw37
  refine eff_append2 ww (r := 1) (d := (some 16)) (t := 37) (ty := 37) (e := 51) (size := 1) (bytes := 24) (len := m) (b := wc30.heap.size) (off := 0) (k := 1) (c := 1) (z := #[.slice none 0 0]) (v := Value.slice bs m cq) (xs := (L.map Rw.v)) [.slice b330 n330 c330] hS (by kernel_rfl) (by kernel_rfl) (by kernel_rfl) (by kernel_rfl) (by kernel_rfl) hB43 (by simp) (fun j u hu => by rw [Nat.zero_add]; exact hB48.cell j (by simpa using hu)) rfl (by omega) (by omega) (by omega) fun ga51 ca51 a wa51 hOa51 hEa51 hFa51 hS => ?_
  have hB54 := hB45.ext hEa51 (hB45.disj hB43 (by decide))
  have hE56 : Ext [] w wa51 := hE50.trans hEa51 (fun b hb => .inr (hR.new b hb))
  have hG57 : Fam wa51 3 1 (fun b => w.heap.size ≤ b) L := hG47.ext hEa51 (fun k x hx b hb hm => hG47.notV hB43 (by decide) b hm (bl_mem hx b hb))
  refine sd ww [.p] [] [(3, Sl ga51 (m + 1) ca51)] [] 6 0 hS .nil fun a hS => seg_end <| inBlock_normal <| hK9 _ _ <| rgn 2 <| sd ww [.as (I6 (↑i + 1)), .p] [_] [(8, I6 (↑i + 1))] [] 2 0 hS (as6 (↑i + 1)) fun a hS => seg_end ?_
  have hLn : Lsts w.heap.size wa51 (some ⟨ga51, 0, none⟩) (m + 1) ca51 (L ++ [⟨.slice b330 n330 c330, n330, ivs (tls fx)⟩]) ((fs.take (i + 1)).map tls) := by
   refine ⟨by rw [List.map_append]; exact hOa51.v, fun x hx => ?_, Fam.snoc hG57 hB54 (fun b hb => Nat.le_trans hE29.size (hRn30.new b hb)) (fun k x hx b hb hm => absurd (hG28.lie hx b hb) (Nat.not_lt.2 (hRn30.new b hm))), ?_⟩
   ·have hx : x = ga51 := by simpa [ob] using hx
    rw [hx]
    rcases hFa51 ga51 (by simp) with h | h
    ·exact hR.new _ h
    ·exact Nat.le_trans hE50.size h
   ·have hln := hRn30.len
    rw [List.map_append, hR.is, take_snoc (f := tls) hfx, List.map_append]
    simp [hln]
  exact ⟨(i + 1, (some ⟨ga51, 0, none⟩), (m + 1), ca51, _), ⟨hS.kp [(6, Sl g n cp), (7, I6 n), (8, I6 (↑i + 1)), (3, Sl ga51 (m + 1) ca51)], hE56, by omega, hLn⟩, by simp only; omega⟩
 ·
  replace hb8 := of_decide_eq_false hb8
  rw [List.take_of_length_le (by omega)] at hR
  refine xt2 <| hK3 _ _ <| sdq 2 [.p, .p] [] [(2, .slice bs m cq)] [] hS .nil fun a hS => wpIn_ret ?_
  refine ret1 hS Tryd.results53 rfl ?_
  exact ⟨_, _, _, _, rfl, hR, hXl5⟩
end Go.Proofs.YtkkpghlcmcaoiaaDoor
