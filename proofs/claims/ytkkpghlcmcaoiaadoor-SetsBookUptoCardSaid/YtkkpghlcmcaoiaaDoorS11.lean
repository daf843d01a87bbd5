import Derived.Test.YtkkpghlcmcaoiaaDoorS7
import Derived.Test.YtkkpghlcmcaoiaaDoorS10
namespace Go.Proofs.YtkkpghlcmcaoiaaDoor
open Go.Vc Go.Gm
theorem Lsts.more {N N' : Nat} {w : World} {bs : Option Addr} {n cp : Nat} {L : List Rw} {ls : List (List Nat)} (h : Lsts N w bs n cp L ls) (hN : N' ≤ N) : Lsts N' w bs n cp L ls :=
 ⟨h.own, fun x hx => Nat.le_trans hN (h.new x hx), h.fam.mono fun k x hx b hb => Nat.le_trans hN (h.fam.new k x hx b hb), h.is⟩
theorem Lsts.extT {N : Nat} {w w' : World} {bs : Option Addr} {n cp : Nat} {L : List Rw} {ls : List (List Nat)} (h : Lsts N w bs n cp L ls) {b T : Nat} {cs : Array Value} (hE : Ext [b] w w') (hB : Blk w b T cs) (h1 : 51 ≠ T) (h2 : 3 ≠ T) : Lsts N w' bs n cp L ls :=
 ⟨h.own.ext hE (fun x hx hm => by simp at hm; rw [hm] at hx; exact h.own.notin hB h1 hx), h.new, h.fam.ext hE (fun k x hx y hy hm => by simp at hm; rw [hm] at hy; exact h.fam.notT hB h2 (bl_mem hx _ hy)), h.is⟩
def FirR (S : Sp) (ls : List (List Nat)) : Prop := ∃ fs : List Se, ls = fs.map tls ∧ fs.length = S.ns.length ∧ (∀ s ∈ fs, Se.ok s) ∧ IsF S.g S.nl (hF fs)
theorem GOk.lx {S : Sp} (h : GOk S) : S.lx.length ≤ 64 := by
 have := h.lng
 unfold Lng at this
 omega
theorem First_any {w0 w : World} {S : Sp} (hG : SpOk w0 S) (hb : Ext [] w0 w) (hT : Tab w0) :
  Calls Tryd.prog 15 #[.agg S.ca] w fun e w' => ∃ z : Int × Int, ChkR S z ∧ ((z.1 ≠ 0 ∧ e = .returned (.tuple #[.slice none 0 0, .agg #[I6 z.1, I6 z.2, .string ⟨#[]⟩]])) ∨ (z.1 = 0 ∧ ∃ bs m cp L ls, e = .returned (.tuple #[.slice bs m cp, .agg #[I6 0, I6 0, .string ⟨#[]⟩]]) ∧ Lsts w.heap.size w' bs m cp L ls ∧ FirR S ls)) ∧ Ext [] w w' := by
 have hlmax := hG.lmax
 have hnmax := hG.nmax
 have hpmax := hG.pmax
 refine cbd 18 [(0, .agg S.ca)] Tryd.func15 rfl fun a hS => ?_
 have hE0 : Ext [] w w := Ext.refl _ _
 refine sq fun K1 hK1 => rgn 3 <| ebx 2 S.ca 26 (some 1) hS fun a w2 hw3 hS => ?_
 have hB4 := Blk.nw hw3
 have hs5 := hE0.size
 have hE6 := hE0.al hw3
 refine sd ww [.p] [] [(2, .slice none 0 0)] [] 2 1 hS .nil fun a hS => ebx 0 #[I6 0, I6 0, .string ⟨#[]⟩] 34 (some 3) hS fun a w7 hw8 hS => ?_
 have hB10 := Blk.at' hw8 (hB4.alloc _)
 have hB11 := Blk.nw hw8
 have hs12 := hE6.size
 have hE13 := hE6.al hw8
 refine sge hK1 <| sq fun K14 hK14 => sq fun K15 hK15 => rgn 4 <| sd ww [.lds [S.lv, S.nv, I6 S.st, S.pv]] [_, _, _, _] [(5, .agg S.ca)] [] 1 3 hS (hB10.k 0 (hB10.k 1 (hB10.k 2 (hB10.k 3 .nil)))) fun a hS => ecl 2 (some 6) hS Tryd.call36 #[.agg S.ca] (check_any hG (hb.trans0 hE13)) ?_
 rintro _ wc16 ⟨z16, rfl, hZ16, hEc16⟩
 refine ⟨_, rfl, fun a hS => ?_⟩
 have hB17 := hB10.ext hEc16 (by simp)
 have hB18 := hB11.ext hEc16 (by simp)
 have hE19 := hE13.trans0 hEc16
 refine ebx 1 #[I6 0, I6 0, .string ⟨#[]⟩] 34 (some 4) hS fun a w20 hw21 hS => ?_
 have hn22 := Nat.ne_of_lt hB17.lt
 have hn23 := Nat.ne_of_lt hB18.lt
 have hB24 := Blk.at' hw21 (hB17.alloc _)
 have hB25 := Blk.at' hw21 (hB18.alloc _)
 have hB26 := Blk.nw hw21
 have hs27 := hE19.size
 have hE28 := hE19.al hw21
 refine est 0 wc16.heap.size 0 [I6 z16.1, I6 z16.2, .string ⟨#[]⟩] hS hB26 fun a w29 hw30 hS => ?_
 have hB31 := Blk.at' hw30 (hB24.updNe (Ne.symm hn22) _ _)
 have hB32 := Blk.at' hw30 (hB25.updNe (Ne.symm hn23) _ _)
 have hB33 : Blk w29 wc16.heap.size 34 (#[I6 z16.1, I6 z16.2, .string ⟨#[]⟩]) := hB26.up hw30
 have hE34 := hE28.ui hw30 hs27
 refine sge hK15 <| sdq 3 [.p, .ld (I6 z16.1), .p] [_] [(9, .bool ((z16.1 : Int) != 0))] [] hS (hB33.k 0 .nil) fun a hS => ?_
 refine cond_b hS rfl (fun hb36 => ?_) (fun hb36 => ?_)
 ·
  replace hb36 := test_ne_t hb36
  refine sq fun K37 hK37 => ?_
  refine fn3 [.q (.lds [I6 z16.1, I6 z16.2, .string ⟨#[]⟩]), .q .p, .e] [0, 0, 0] [0, 0, 0] [0, 0, 3] [2] 1 ([(0, .agg S.ca), (1, (Pv w.heap.size)), (3, (Pv w2.heap.size)), (4, (Pv wc16.heap.size)), (9, .bool ((z16.1 : Int) != 0)), (2, .slice none 0 0), (10, .agg #[I6 z16.1, I6 z16.2, .string ⟨#[]⟩])]) [w29.drew, upd (w29.drew) (w2.heap.size) 34 #[I6 z16.1, I6 z16.2, .string ⟨#[]⟩]] w29.drew (fun w' => [(0, [w'.cell? ⟨wc16.heap.size, 0, none⟩ = some (I6 z16.1), w'.cell? ⟨wc16.heap.size, 1, none⟩ = some (I6 z16.2), w'.cell? ⟨wc16.heap.size, 2, none⟩ = some (.string ⟨#[]⟩)])]) [0, 1, 3, 4, 9] [] hS (fun _ => by kernel_rfl) ?_ ?_ ?_
  ·intro e w' hw
   refine (.c ?_ .nil)
   ·intro h1 h2
    obtain rfl := Nat.le_antisymm h2 h1
    obtain rfl : w' = w29.drew := hw.trans (by kernel_rfl)
    exact (.c ((hB33.drew : Blk w29.drew wc16.heap.size 34 (#[I6 z16.1, I6 z16.2, .string ⟨#[]⟩])).cell 0 rfl) (.c ((hB33.drew : Blk w29.drew wc16.heap.size 34 (#[I6 z16.1, I6 z16.2, .string ⟨#[]⟩])).cell 1 rfl) (.c ((hB33.drew : Blk w29.drew wc16.heap.size 34 (#[I6 z16.1, I6 z16.2, .string ⟨#[]⟩])).cell 2 rfl) .nil)))
  ·refine (.c ?eq38_2 .nil)
   ·refine eff_at (w29.drew) (upd (w29.drew) (w2.heap.size) 34 #[I6 z16.1, I6 z16.2, .string ⟨#[]⟩]) (by kernel_rfl) (by kernel_rfl) ?_
    exact upon_store (b := w2.heap.size) (off := 0) (vs := [I6 z16.1, I6 z16.2, .string ⟨#[]⟩]) (by kernel_rfl) (hB32.drew : Blk w29.drew w2.heap.size 34 (#[I6 0, I6 0, .string ⟨#[]⟩])) (by simp) ⟨by kernel_rfl, by kernel_rfl⟩
  rintro a w39 hS hw40
  replace hw40 : w39 = upd (w29.drew) (w2.heap.size) 34 #[I6 z16.1, I6 z16.2, .string ⟨#[]⟩] := hw40.trans (by kernel_rfl)
  have hB42 : Blk w39 w2.heap.size 34 (#[I6 z16.1, I6 z16.2, .string ⟨#[]⟩]) := by rw [hw40]; exact (hB32.drew).upd _ _
  have hE44 : Ext [] w w39 := by rw [hw40]; exact (hE34.drew).updIn (.inr hs12) _ _
  replace hS := hS.kp [(0, .agg S.ca), (1, (Pv w.heap.size)), (3, (Pv w2.heap.size)), (4, (Pv wc16.heap.size)), (9, .bool ((z16.1 : Int) != 0)), (2, .slice none 0 0)]
  refine hK37 _ _ <| wpIn_ret <| then_ret ?_
  refine retTA hS Tryd.results15 (by kernel_rfl) (by kernel_rfl) rfl rfl hB42 ?_
  exact ⟨z16, hZ16, .inl ⟨hb36, rfl⟩, hE44⟩
 ·
  replace hb36 := test_ne_f hb36
  have hok := hZ16.zero.2.1 hb36
  have hI := hok.ix
  have hlx := hok.lx
  refine wpIn_skip <| hK14 _ _ <| sq fun K45 hK45 => rgn 9 <| sd ww [.lds [S.lv, S.nv, I6 S.st, S.pv]] [_, _, _, _] [(11, .agg S.ca)] [] 1 8 hS (hB31.k 0 (hB31.k 1 (hB31.k 2 (hB31.k 3 .nil)))) fun a hS => ecl 7 (some 12) hS Tryd.call54 #[.agg S.ca] (known_any hG (hb.trans0 hE34) hI hlx) ?_
  rintro _ wc46 ⟨gb46, ge46, gf46, es46, fs46, rfl, hK46, hEc46⟩
  refine ⟨_, rfl, fun a hS => ?_⟩
  have hB48 := hB32.ext hEc46 (by simp)
  have hE50 := hE34.trans0 hEc46
  refine sd ww [.p, .p, .ld (Sn S gf46)] [_] [(15, Sn S gf46)] [] 5 4 hS (.c ((hK46.gb).cell 5 rfl) .nil) fun a hS => ecl 3 (some 16) hS Tryd.call53 #[Sn S gf46] (lists_any (hT.ext0 (hb.trans0 hE50)) hK46.rf hK46.hs.ok (by omega)) ?_
  rintro _ wc51 ⟨bs51, m51, cp51, L51, rfl, hL51, hEc51⟩
  refine ⟨_, rfl, fun a hS => ?_⟩
  have hB53 := hB48.ext hEc51 (by simp)
  have hE58 := hE50.trans0 hEc51
  refine sd ww [.p, .p] [] [(2, .slice bs51 m51 cp51), (17, .agg #[I6 0, I6 0, .string ⟨#[]⟩])] [] 8 1 hS .nil fun a hS => est 0 w2.heap.size 0 [I6 0, I6 0, .string ⟨#[]⟩] hS hB53 fun a w59 hw60 hS => ?_
  have hB62 : Blk w59 w2.heap.size 34 (#[I6 0, I6 0, .string ⟨#[]⟩]) := hB53.up hw60
  have hX67 : Ext [w2.heap.size] wc51 w59 := by rw [hw60]; exact (Ext.refl _ _).updIn (.inl (by simp)) _ _
  have hG68 : Lsts wc46.heap.size w59 bs51 m51 cp51 L51 (fs46.map tls) := hL51.extT hX67 hB53 (by decide) (by decide)
  have hE69 := hE58.ui hw60 hs12
  refine sge hK45 <| wpIn_ret ?_
  refine retTA hS Tryd.results15 (by kernel_rfl) (by kernel_rfl) rfl rfl hB62 ?_
  exact ⟨z16, hZ16, .inr ⟨hb36, _, _, _, _, _, rfl, hG68.more hE50.size, _, rfl, hK46.hs.len, hK46.hs.ok, hK46.hF⟩, hE69⟩
end Go.Proofs.YtkkpghlcmcaoiaaDoor
