import Derived.Test.YtpglmeeledmkoaaProg
import Derived.Test.YtpglmeeledmkoaaVc
import Derived.Test.YtpglmeeledmkoaaBk
import Derived.Test.YtpglmeeledmkoaaT43
namespace Go.Proofs.Ytpglmeeledmkoaa
open Go.Vc

set_option maxHeartbeats 4000000 in
theorem TreeBook_any {v mv : Value} {l : List Sx} {ms : List (Int × Int × Int)} {w : World} (hs : Scr w v l) (hms : RdV w 3 mv ms.length (mvc ms)) (hmb : ms.length ≤ 100000000000000) :
  Calls Try.prog 10 #[v, mv] w fun e w' => e = .returned (.bool true) ∧ Ext [] w w' := by
 have hmax := hs.max
 refine cbd 161 [(0, v), (1, mv)] Try.func10 rfl fun a hS => ?_
 refine sq fun K1 hK1 => rgn 1 <| sg ww [.p] [] [(0, v), (1, mv), (4, .bool false)] 1 0 hS .nil fun a hS => sge hK1 <| sq fun K2 hK2 => rgn 7 <| sd ww [.p] [] [(22, v)] [] 1 6 hS .nil fun a hS => ecl 5 (some 23) hS Try.call12 #[v] (Grown_any hs) ?_
 rintro _ w1 ⟨F, rfl, hF, hE1⟩
 refine ⟨_, rfl, fun a hS => ?_⟩
 have hcb := hF.cb
 have hEr3 : Ext [] w1 w1 := Ext.refl _ _
 refine sd ww [.p, .p, .p, .p, .p] [] [(5, (Pv F.fb)), (6, .bool true)] [] 7 0 hS .nil fun a hS => sge hK2 <| sq fun K4 hK4 => sdq 2 [.p, .p] [] [(27, .bool false)] [] hS .nil fun a hS => ?_
 refine cond_f hS rfl ?_
 refine wpIn_skip <| hK4 _ _ <| sq fun K6 hK6 => rgn 3 <| sd ww [.p] [] [(28, (Pv F.fb))] [] 1 2 hS .nil fun a hS => ecl 1 (some 29) hS Try.call13 #[(Pv F.fb)] (Last_any hF (by omega)) ?_
 rintro _ wL ⟨hwL, hlast⟩
 rw [hwL]
 rcases hlast with ⟨i, r, rfl, hr, hsz⟩ | rfl
 ·
  refine ⟨_, rfl, fun a hS => ?_⟩
  have hi : i < F.L.length := (List.getElem?_eq_some_iff.1 hr).1
  have hrm := List.mem_of_getElem? hr
  have hx1 : r.t.Ok w1 (sOf F.s0 F.s1 r.k) := (hF.ok.one r hrm).ok
  have hxtt := Tr.Ok.tt_pos r.t hx1
  have hrtt := hF.ok.tt hrm
  have hwl := walk_len r.t hx1 0
  obtain ⟨N, hN⟩ : ∃ N, N = (pre r.t).length := ⟨_, rfl⟩
  have hNw : (walk r.t 0).length = N := by rw [hN, walk_plen]
  have hNt : (N : Int) = r.t.tt := by rw [← hNw]; exact hwl
  refine sd ww [.p] [] [(7, I6 i)] [] 3 0 hS .nil fun a hS => sge hK6 <| sq fun K7 hK7 => sdq 2 [.p, .as (.bool false)] [Value.bool (decide ((↑i : Int) < 0)) = .bool false] [(31, .bool false)] [] hS (.c (as_f (by omega)) .nil) fun a hS => ?_
  refine cond_f hS rfl ?_
  refine wpIn_skip <| hK7 _ _ <| sq fun K9 hK9 => rgn 8 <| sg ww [.p, .p, .p, .ld (.slice F.pb F.L.length F.pc), .p, .run ((Po (bof (.slice F.pb F.L.length F.pc)) (0 + i * 1))), .ld ((Pv r.t.b)), .p] [_, Ru Try.prog (vS (Instr.indexAt 32 (.slice F.pb F.L.length F.pc) (I6 i))) ((Po (bof (.slice F.pb F.L.length F.pc)) (0 + i * 1))) w1, w1.cell? ⟨bof (.slice F.pb F.L.length F.pc), 0 + i * 1, none⟩ = some ((Pv r.t.b))] [(0, v), (1, mv), (4, .bool false), (5, (Pv F.fb)), (6, .bool true), (27, .bool false), (7, I6 i), (31, .bool false), (8, (Pv r.t.b))] 8 0 hS (.c ((hF.f).cell 2 rfl) (.c (ix_own (j := i) (hF.P) (by kernel_rfl) (by kernel_rfl) rfl hi) (.c ((hF.P).cellAt _ (by simp [hr, Tr.ptr])) .nil))) fun a hS => sge hK9 <| sq fun K10 hK10 => rgn 5 <| eff_new ww (r := 4) (cs := #[]) (T := 64) (v := Value.slice (some ⟨w1.heap.size, 0, none⟩) 0 0) (d := (some 39)) hS (by kernel_rfl) fun a w11 hw12 hS => ?_
  have hB19 := Blk.nw hw12
  have hs20 := hEr3.size
  have hE21 := hEr3.al hw12
  refine sd ww [.p] [] [(40, (Pv r.t.b))] [] 2 3 hS .nil fun a hS => ecl 2 (some 41) hS Try.call25 #[(Pv r.t.b)] (Rows_b (hx1.ext hE21 _ (by simp)) hNw) ?_
  rintro _ wc22 ⟨gr22, cgr22, rfl, hO22, hNw22, hEc22⟩
  refine ⟨_, rfl, fun a hS => ?_⟩
  have hB26 := hB19.ext hEc22 (by simp)
  have hE27 := hE21.trans0 hEc22
  refine eff_append_rd ww (r := 1) (d := (some 42)) (t := 54) (ty := 54) (e := 64) (size := 6) (bytes := 48) (len := 0) (k := N) (z := #[I6 0, I6 0, I6 0, I6 0, I6 0, I6 0]) (v := Value.slice (some ⟨w1.heap.size, 0, none⟩) 0 0) (u := (.slice gr22 N cgr22)) (xs := ([])) (news := (rowsT (pre r.t))) hS (by kernel_rfl) (by kernel_rfl) (by kernel_rfl) (by kernel_rfl) (OwnR.of_blk hB26 (by simp) (by decide)).v hO22.rd (rowsT_one _) (by omega) (by omega) fun bs28 cp28 a wa28 hA28 hS => ?_
  have hEa28 : Ext [w1.heap.size] wc22 wa28 := hA28.ext
  rw [Nat.zero_add] at hS
  have hO28 : OwnV wa28 64 6 (.slice bs28 N cp28) N (rowsT (pre r.t)) := by have h := hA28.own; simpa using h
  have hE32 : Ext [] w1 wa28 := hE27.trans hEa28 (fun b hb => by simp at hb; subst hb; exact .inr hs20)
  have hnw28 : ∀ x ∈ ob (.slice bs28 N cp28), w1.heap.size ≤ x := fun x hx => by
   rcases hA28.fresh x (by simpa using hx) with h | h
   ·have h : x = w1.heap.size := by simpa [ob] using h
    rw [h]; exact hs20
   ·exact Nat.le_trans hE27.size h
  have hG33 : True := trivial
  refine sd ww [.p] [] [(9, .slice bs28 N cp28)] [] 5 0 hS .nil fun a hS => sge hK10 <| sq fun K34 hK34 => rgn 3 <| sd ww [.p] [] [(43, (Pv r.t.b))] [] 1 2 hS .nil fun a hS => ecl 1 (some 44) hS Try.call37 #[(Pv r.t.b)] (Cursor_any r.t.b wa28) ?_
  rintro _ wcu ⟨rfl, hw35⟩
  refine ⟨_, rfl, fun a hS => ?_⟩
  have hEcu : Ext [] wa28 wcu := by rw [hw35]; exact (Ext.refl _ _).alloc _
  have hXcu := Blk.nw hw35
  have hw1cb : w1.heap.size ≤ wa28.heap.size := (hE32).size
  have hFcu := hE32.trans0 hEcu
  have hB36 := hO28.ext hEcu (by simp)
  obtain ⟨cb, hecb⟩ : ∃ x, x = wa28.heap.size := ⟨_, rfl⟩
  rw [← hecb] at hS hXcu hw1cb
  refine sd ww [.p] [] [(10, (Pv cb))] [] 3 0 hS .nil fun a hS => sge hK34 <| sq fun K37 hK37 => sdq 2 [.p, .p] [] [(46, .bool false)] [] hS .nil fun a hS => ?_
  refine cond_f hS rfl ?_
  refine wpIn_skip <| hK37 _ _ <| sdq 1 [.p] [] [(11, .slice none 0 0)] [] hS .nil fun a hS => sq fun K40 hK40 => rgn 1 <| sg ww [.p] [] [(0, v), (1, mv), (4, .bool false), (5, (Pv F.fb)), (6, .bool true), (27, .bool false), (7, I6 i), (31, .bool false), (8, (Pv r.t.b)), (9, .slice bs28 N cp28), (10, (Pv cb)), (46, .bool false), (11, .slice none 0 0), (12, .slice none 0 0)] 1 0 hS .nil fun a hS => sge hK40 <| sq fun K41 hK41 => sdq 1 [.p] [] [(13, I6 0)] [] hS .nil fun a hS => wpIn_block ?_
  have hEr43 : Ext [] wcu wcu := Ext.refl _ _
  refine loop_ghost (fun ((k, rb, rp, LR) : Nat × (Option Addr) × Nat × (List Rw)) a' w' => St 161 [] [(1, mv), (5, (Pv F.fb)), (7, I6 i), (8, (Pv r.t.b)), (9, .slice bs28 N cp28), (10, (Pv cb)), (12, .slice none 0 0), (11, .slice rb k rp), (13, I6 k)] a' ∧ Ext [] wcu w' ∧ k ≤ 4 ∧ Ra wcu.heap.size N w' k rb rp LR) (fun ((k, rb, rp, LR) : Nat × (Option Addr) × Nat × (List Rw)) => 4 - k) (0, none, 0, []) ⟨hS.keepTo [1, 5, 7, 8, 9, 10, 12, 11, 13] (by kernel_rfl), hEr43, by omega, Ra.nil⟩ ?_
  rintro ⟨k, rb, rp, LR⟩ a wl44 ⟨hS, hXl44, hk, hra⟩
  have hwt45 := hB36.ext hXl44 (by simp)
  refine sq fun K46 hK46 => sdq 2 [.p, .p] [] [(48, .bool (decide ((↑k : Int) < 4)))] [] hS .nil fun a hS => ?_
  refine cond_b hS rfl (fun hb48 => ?_) (fun hb48 => ?_)
  ·
   replace hb48 := of_decide_eq_true hb48
   refine wpIn_skip <| hK46 _ _ <| sq fun K49 hK49 => wpIn_block <| sq fun K50 hK50 => rgn 3 <| sd ww [.p] [] [(51, (Pv r.t.b))] [] 1 2 hS .nil fun a hS => ecl 1 (some 52) hS Try.call25 #[(Pv r.t.b)] (Rows_b (hx1.ext (hFcu.trans0 hXl44) _ (by simp)) hNw) ?_
   rintro _ wc51 ⟨gr51, cgr51, rfl, hO51, hNw51, hEc51⟩
   refine ⟨_, rfl, fun a hS => ?_⟩
   have hB52 := hwt45.ext hEc51 (by simp)
   have hB53 := hra.ro.ext hEc51 (by simp)
   have hG54 : Ext [] wl44 wc51 := (Ext.refl [] wl44).trans0 hEc51
   have hE55 := hXl44.trans0 hEc51
   refine sd ww [.p] [] [(14, .slice gr51 N cgr51)] [] 3 0 hS .nil fun a hS => sge hK50 <| sq fun K56 hK56 => sq fun K57 hK57 => rgn 4 <| sd ww [.p, .p] [] [(53, .slice gr51 N cgr51), (54, .slice bs28 N cp28)] [] 2 2 hS .nil fun a hS => ecl 1 (some 55) hS Try.call27 #[.slice gr51 N cgr51, .slice bs28 N cp28] (SameRows_T (hO51 : OwnV wc51 64 6 (.slice gr51 N cgr51) N (rowsT (pre r.t))) (hB52 : OwnV wc51 64 6 (.slice bs28 N cp28) N (rowsT (pre r.t))) hN (by omega)) ?_
   rintro _ wc58 ⟨rfl, hEc58⟩
   refine ⟨_, rfl, fun a hS => ?_⟩
   have hB60 := hB53.ext hEc58 (by simp)
   have hB61 := hO51.ext hEc58 (by simp)
   have hG62 : Ext [] wl44 wc58 := hG54.trans0 hEc58
   have hE63 := hE55.trans0 hEc58
   refine sd ww [.p] [] [(56, .bool false)] [] 4 0 hS .nil fun a hS => sge hK57 ?_
   refine cond_f hS rfl ?_
   refine wpIn_skip <| hK56 _ _ <| rgn 5 <| sd ww [.p, .p] [] [(57, .slice rb k rp), (58, .slice gr51 N cgr51)] [] 2 3 hS .nil fun a hS => eff_new ww (r := 2) (cs := #[.slice gr51 N cgr51]) (T := 54) (v := Value.slice (some ⟨wc58.heap.size, 0, none⟩) 1 1) (d := (some 59)) hS (by kernel_rfl) fun a w64 hw65 hS => ?_
   have hB70 := OwnV.at' hw65 (hB60.alloc _)
   have hB71 := OwnV.at' hw65 (hB61.alloc _)
   have hX72 : Ext [] wc58 w64 := by rw [hw65]; exact (Ext.refl _ _).alloc _
   have hG73 : Ext [] wl44 w64 := hG62.trans0 hX72
   have hB74 := Blk.nw hw65
   have hs75 := hE63.size
   have hE76 := hE63.al hw65
   refine eff_append2 ww (r := 1) (d := (some 60)) (t := 81) (ty := 81) (e := 54) (size := 1) (bytes := 24) (len := k) (b := wc58.heap.size) (off := 0) (k := 1) (c := 1) (z := #[.slice none 0 0]) (v := Value.slice rb k rp) (xs := (LR.map Rw.v)) [.slice gr51 N cgr51] hS (by kernel_rfl) (by kernel_rfl) (by kernel_rfl) (by kernel_rfl) (by kernel_rfl) hB70 (by simp) (fun j u hu => by rw [Nat.zero_add]; exact hB74.cell j (by simpa using hu)) rfl (by omega) (by omega) (by omega) fun ga77 ca77 a wa77 hOa77 hEa77 hFa77 hS => ?_
   have hE81 : Ext [] wcu wa77 := hE76.trans hEa77 (fun b hb => .inr (hra.rn b hb))
   refine sg ww [.p] [] [(1, mv), (5, (Pv F.fb)), (7, I6 i), (8, (Pv r.t.b)), (9, .slice bs28 N cp28), (10, (Pv cb)), (12, .slice none 0 0), (11, Sl ga77 (k + 1) ca77), (13, I6 k), (14, .slice gr51 N cgr51), (56, .bool false)] 5 0 hS .nil fun a hS => seg_end <| inBlock_normal <| hK49 _ _ <| rgn 3 <| sd ww [.p, .as (I6 (↑k + 1)), .p] [_] [(13, I6 (↑k + 1))] [] 3 0 hS (as6 (↑k + 1)) fun a hS => seg_end ?_
   have hra2 := hra.app hG73 hEa77 hOa77 hB71 hNw51 (hXl44).size hFa77
   exact ⟨(k + 1, (some ⟨ga77, 0, none⟩), ca77, _), ⟨hS.kp [(1, mv), (5, (Pv F.fb)), (7, I6 i), (8, (Pv r.t.b)), (9, .slice bs28 N cp28), (10, (Pv cb)), (12, .slice none 0 0), (11, Sl ga77 (k + 1) ca77), (13, I6 (↑k + 1))], hE81, by omega, hra2⟩, by simp only; omega⟩
  ·
   replace hb48 := of_decide_eq_false hb48
   obtain rfl : k = 4 := by omega
   have hF82 := hF.ext0 (hFcu.trans0 hXl44)
   have hcb3 := hXcu.ext hXl44 (by simp)
   refine xt2 <| hK41 _ _ <| sq fun K83 hK83 => rgn 10 <| sd ww [.p, .p, .p, .ld (.slice F.qb F.L.length F.qc), .p, .run ((Po (bof (.slice F.qb F.L.length F.qc)) (0 + i * 1))), .ld ((Pv r.rb)), .p] [_, Ru Try.prog (vS (Instr.indexAt 33 (.slice F.qb F.L.length F.qc) (I6 i))) ((Po (bof (.slice F.qb F.L.length F.qc)) (0 + i * 1))) wl44, wl44.cell? ⟨bof (.slice F.qb F.L.length F.qc), 0 + i * 1, none⟩ = some ((Pv r.rb))] [(68, .agg #[(Pv r.rb), .slice none 0 0])] [] 8 2 hS (.c ((hF82.f).cell 3 rfl) (.c (ix_own (j := i) (hF82.R) (by kernel_rfl) (by kernel_rfl) rfl hi) (.c ((hF82.R).cellAt _ (by simp [hr, Rf.ptr])) .nil))) fun a hS => ebx 1 #[(Pv r.rb), .slice none 0 0] 85 (some 69) hS fun a w84 hw85 hS => ?_
   have hB91 := OwnV.at' hw85 (hwt45.alloc _)
   have hB92 := Blk.at' hw85 (hcb3.alloc _)
   have hX96 : Ext [] wl44 w84 := by rw [hw85]; exact (Ext.refl _ _).alloc _
   have hG97 : Ext [] wl44 w84 := (Ext.refl [] wl44).trans0 hX96
   have hG98 : Ra wcu.heap.size N w84 4 rb rp LR := hra.ext0 hX96
   have hB99 := Blk.nw hw85
   have hs100 := hXl44.size
   have hE101 := hXl44.al hw85
   refine sd ww [.p] [] [(15, (Pv wl44.heap.size))] [] 10 0 hS .nil fun a hS => sge hK83 <| sq fun K102 hK102 => sdq 1 [.p] [] [(16, I6 0)] [] hS .nil fun a hS => wpIn_block ?_
   have hrc0 := hB99
   have hrn0 : w1.heap.size ≤ wl44.heap.size := Nat.le_trans (hFcu).size hs100
   obtain ⟨rc, herc⟩ : ∃ x, x = wl44.heap.size := ⟨_, rfl⟩
   rw [← herc] at hS hrc0 hrn0
   have hEB := (hFcu.trans0 hE101)
   have hBk0 : Bk w1 w84 wcu.heap.size N r cb rc ⟨none, none, [], r, 0, 0, 0⟩ bs28 cp28 4 rb rp LR 0 none 0 [] := ⟨hB91, fun x hx => hB36.lie x hx, hG98, ⟨.nil, ⟨hB92, .inl ⟨rfl, rfl, rfl⟩, .inr hw1cb, fun x hx => (by cases hx), hEB⟩, ⟨hrc0, .inl ⟨rfl, rfl, rfl⟩⟩, hrn0⟩, OwnV.nil _ _ _, Fam.nil, (fun x hx => by simp [ob] at hx), (fun b hb => by simp [bl] at hb), (fun x hx => by cases hx), hFcu.size, (hE101).size⟩
   refine loop_ghost (fun ((k, C, m, qb, qp, LP) : Nat × Cs × Nat × (Option Addr) × Nat × (List Rw)) a' w' => St 161 [] [(1, mv), (5, (Pv F.fb)), (7, I6 i), (8, (Pv r.t.b)), (9, .slice bs28 N cp28), (10, (Pv cb)), (11, .slice rb 4 rp), (15, (Pv rc)), (12, .slice qb m qp), (16, I6 k)] a' ∧ Ext [] w1 w' ∧ k ≤ 30 ∧ m = 2 * k ∧ Bk w1 w' wcu.heap.size N r cb rc C bs28 cp28 4 rb rp LR m qb qp LP) (fun ((k, C, m, qb, qp, LP) : Nat × Cs × Nat × (Option Addr) × Nat × (List Rw)) => 30 - k) (0, ⟨none, none, [], r, 0, 0, 0⟩, 0, none, 0, []) ⟨hS.keepTo [1, 5, 7, 8, 9, 10, 11, 15, 12, 16] (by kernel_rfl), hEB, by omega, rfl, hBk0⟩ ?_
   rintro ⟨k, C, m, qb, qp, LP⟩ a wl104 ⟨hS, hXl104, hk30, hm2, hBk⟩
   refine sq fun K105 hK105 => sq fun K106 hK106 => ?_
   rcases (show (k < ms.length) ∨ (¬k < ms.length) from Decidable.em _) with h23 | h23
   ·
    refine rgn 8 <| sd ww [.p, .p, .run (I6 ms.length), .as (.bool true), .p, .p, .p, .p] [Ru Try.prog (vS (Builtin.len_ #[80] 3 #[mv])) (I6 ms.length) wl104, Value.bool (decide ((↑k : Int) < ↑ms.length)) = .bool true] [(77, .bool (decide ((↑k : Int) < 30)))] [] 8 0 hS (.c (rlr 88 hms) (.c (as_t (by omega)) .nil)) fun a hS => sge hK106 ?_
    refine cond_b hS rfl (fun hb107 => ?_) (fun hb107 => ?_)
    ·
     replace hb107 := of_decide_eq_true hb107
     have hk29 : k < 30 := by omega
     obtain ⟨mo, hmo⟩ : ∃ mo, ms[k]? = some mo := ⟨_, List.getElem?_eq_getElem h23⟩
     have hrd := hms.ext0 (hE1.trans0 hXl104)
     refine wpIn_skip <| hK105 _ _ <| sq fun K108 hK108 => wpIn_block <| sq fun K109 hK109 => sq fun K110 hK110 => rgn 8 <| sd ww [.p, .p, .p, .p, .run ((Po (bof mv) (oof mv + k * 3))), .lds [I6 mo.1, I6 mo.2.1, I6 mo.2.2]] [Ru Try.prog (vS (Instr.indexAt 80 (mv) (I6 k))) ((Po (bof mv) (oof mv + k * 3))) wl104, wl104.cell? ⟨bof mv, oof mv + k * 3, none⟩ = some (I6 mo.1), wl104.cell? ⟨bof mv, oof mv + k * 3 + 1, none⟩ = some (I6 mo.2.1), wl104.cell? ⟨bof mv, oof mv + k * 3 + 2, none⟩ = some (I6 mo.2.2)] [(80, (Pv cb)), (81, (Pv rc)), (85, .agg #[I6 mo.1, I6 mo.2.1, I6 mo.2.2])] [] 6 2 hS (.c (ixr 88 k hms) (.c (hrd.cellAt (k * 3 + 0) (by omega) (mvc_at ms k 0 mo hmo (by omega))) (.c (hrd.cellAt (k * 3 + 1) (by omega) (mvc_at ms k 1 mo hmo (by omega))) (.c (hrd.cellAt (k * 3 + 2) (by omega) (mvc_at ms k 2 mo hmo (by omega))) .nil)))) fun a hS => ecl 1 (some 86) hS Try.call47 #[(Pv cb), (Pv rc), .agg #[I6 mo.1, I6 mo.2.1, I6 mo.2.2]] (hBk.moved hF.ok hrm mo.1 mo.2.1 mo.2.2) ?_
     rintro _ wm ⟨C2, rfl, hBm, hEm⟩
     refine ⟨_, rfl, fun a hS => ?_⟩
     have hbd := hBm.sp.jw.bd hF.ok hrm
     have hqm := hBm.sp.jw.mem hF.ok hrm
     have hqt := hF.ok.tt hqm
     refine sd ww [.p] [] [(87, .bool false)] [] 8 0 hS .nil fun a hS => sge hK110 ?_
     refine cond_f hS rfl ?_
     refine wpIn_skip <| hK109 _ _ <| sq fun K111 hK111 => rgn 5 <| sd ww [.p, .p, .p] [] [(90, (Pv cb))] [] 3 2 hS .nil fun a hS => ecl 1 (some 91) hS Try.call39 #[(Pv cb)] (Path_b (hBm.sp.ext0 (Ext.refl [] wm)) (by omega)) ?_
     rintro _ wc112 ⟨b2112, c2112, rfl, hO112, hNp112, hEc112⟩
     refine ⟨_, rfl, fun a hS => ?_⟩
     have hB113 := hBm.po.ext hEc112 (by simp)
     have hB115 := hBm.sp.pc.blk.ext hEc112 (by simp)
     have hG116 : Ext [] wm wc112 := (Ext.refl [] wm).trans0 hEc112
     have hE117 := hEm.trans0 hEc112
     refine sd ww [.p] [] [(17, .slice b2112 C2.st.length c2112)] [] 5 0 hS .nil fun a hS => sge hK111 <| sq fun K118 hK118 => rgn 5 <| sd ww [.p, .p, .p] [] [(94, (Pv cb))] [] 3 2 hS .nil fun a hS => ecl 1 (some 95) hS Try.call39 #[(Pv cb)] (Path_b (hBm.sp.ext0 hG116) (by omega)) ?_
     rintro _ wc119 ⟨b2119, c2119, rfl, hO119, hNp119, hEc119⟩
     refine ⟨_, rfl, fun a hS => ?_⟩
     have hB120 := hB113.ext hEc119 (by simp)
     have hB122 := hB115.ext hEc119 (by simp)
     have hB123 := hO112.ext hEc119 (by simp)
     have hG124 : Ext [] wm wc119 := hG116.trans0 hEc119
     have hE125 := hE117.trans0 hEc119
     refine sg ww [.p] [] [(1, mv), (5, (Pv F.fb)), (7, I6 i), (8, (Pv r.t.b)), (9, .slice bs28 N cp28), (10, (Pv cb)), (11, .slice rb 4 rp), (15, (Pv rc)), (12, .slice qb m qp), (16, I6 k), (87, .bool false), (17, .slice b2112 C2.st.length c2112), (18, .slice b2119 C2.st.length c2119)] 5 0 hS .nil fun a hS => sge hK118 <| sq fun K126 hK126 => sq fun K127 hK127 => rgn 16 <| sd ww [.p, .p, .p, .p, .ld (.slice C2.pb C2.st.length C2.pc)] [_] [(96, .slice b2112 C2.st.length c2112), (100, .slice C2.pb C2.st.length C2.pc)] [] 5 11 hS (hB122.k 1 .nil) fun a hS => ecl 10 (some 101) hS Try.call44 #[.slice b2112 C2.st.length c2112, .slice C2.pb C2.st.length C2.pc] (SameInts_eq (xs := idx C2.st) (hB123 : OwnV wc119 3 1 (.slice b2112 C2.st.length c2112) C2.st.length (ints (idx C2.st))).rd (hBm.sp.pc.row.ext hG124 (by simp)).rd (by omega)) ?_
     rintro _ wc128 ⟨rfl, hEc128⟩
     refine ⟨_, rfl, fun a hS => ?_⟩
     have hB129 := hB120.ext hEc128 (by simp)
     have hB131 := hB122.ext hEc128 (by simp)
     have hB132 := hB123.ext hEc128 (by simp)
     have hB133 := hO119.ext hEc128 (by simp)
     have hG134 : Ext [] wm wc128 := hG124.trans0 hEc128
     have hE135 := hE125.trans0 hEc128
     refine sd ww [.p, .p, .p, .p, .p, .p, .ld (.slice C2.pb C2.st.length C2.pc)] [_] [(103, .bool false), (104, .slice b2119 C2.st.length c2119), (108, .slice C2.pb C2.st.length C2.pc)] [] 13 3 hS (hB131.k 1 .nil) fun a hS => ecl 2 (some 109) hS Try.call44 #[.slice b2119 C2.st.length c2119, .slice C2.pb C2.st.length C2.pc] (SameInts_eq (xs := idx C2.st) (hB133 : OwnV wc128 3 1 (.slice b2119 C2.st.length c2119) C2.st.length (ints (idx C2.st))).rd (hBm.sp.pc.row.ext hG134 (by simp)).rd (by omega)) ?_
     rintro _ wc136 ⟨rfl, hEc136⟩
     refine ⟨_, rfl, fun a hS => ?_⟩
     have hB137 := hB129.ext hEc136 (by simp)
     have hB140 := hB132.ext hEc136 (by simp)
     have hB141 := hB133.ext hEc136 (by simp)
     have hG142 : Ext [] wm wc136 := hG134.trans0 hEc136
     have hE143 := hE135.trans0 hEc136
     refine sd ww [.p, .p] [] [(111, .bool false)] [] 16 0 hS .nil fun a hS => sge hK127 ?_
     refine cond_f hS rfl ?_
     refine wpIn_skip <| hK126 _ _ <| rgn 6 <| sd ww [.p, .p, .p] [] [(112, .slice qb m qp), (113, .slice b2112 C2.st.length c2112), (114, .slice b2119 C2.st.length c2119)] [] 3 3 hS .nil fun a hS => eff_new ww (r := 2) (cs := #[.slice b2112 C2.st.length c2112, .slice b2119 C2.st.length c2119]) (T := 41) (v := Value.slice (some ⟨wc136.heap.size, 0, none⟩) 2 2) (d := (some 115)) hS (by kernel_rfl) fun a w144 hw145 hS => ?_
     have hB151 := OwnV.at' hw145 (hB137.alloc _)
     have hB154 := OwnV.at' hw145 (hB140.alloc _)
     have hB155 := OwnV.at' hw145 (hB141.alloc _)
     have hX156 : Ext [] wc136 w144 := by rw [hw145]; exact (Ext.refl _ _).alloc _
     have hG157 : Ext [] wm w144 := hG142.trans0 hX156
     have hB158 := Blk.nw hw145
     have hs159 := hE143.size
     have hE160 := hE143.al hw145
     refine eff_append2 ww (r := 1) (d := (some 116)) (t := 82) (ty := 82) (e := 41) (size := 1) (bytes := 24) (len := m) (b := wc136.heap.size) (off := 0) (k := 2) (c := 2) (z := #[.slice none 0 0]) (v := Value.slice qb m qp) (xs := (LP.map Rw.v)) [.slice b2112 C2.st.length c2112, .slice b2119 C2.st.length c2119] hS (by kernel_rfl) (by kernel_rfl) (by kernel_rfl) (by kernel_rfl) (by kernel_rfl) hB151 (by simp) (fun j u hu => by rw [Nat.zero_add]; exact hB158.cell j (by simpa using hu)) rfl (by omega) (by omega) (by omega) fun ga161 ca161 a wa161 hOa161 hEa161 hFa161 hS => ?_
     have hE163 : Ext [] w1 wa161 := hE160.trans hEa161 (fun b hb => .inr (Nat.le_trans hBm.n0 (hBm.pq b hb)))
     refine sd ww [.p] [] [(12, Sl ga161 (m + 2) ca161)] [] 6 0 hS .nil fun a hS => seg_end <| inBlock_normal <| hK108 _ _ <| rgn 3 <| sd ww [.p, .as (I6 (↑k + 1)), .p] [_] [(16, I6 (↑k + 1))] [] 3 0 hS (as6 (↑k + 1)) fun a hS => seg_end ?_
     have hBn := hBm.app hG157 hEa161 hOa161 hB154 hB155 hNp112 hO112.lie hNp119 hEc112.size (by omega) (by omega) hFa161
     exact ⟨(k + 1, C2, (m + 2), (some ⟨ga161, 0, none⟩), ca161, _), ⟨hS.kp [(1, mv), (5, (Pv F.fb)), (7, I6 i), (8, (Pv r.t.b)), (9, .slice bs28 N cp28), (10, (Pv cb)), (11, .slice rb 4 rp), (15, (Pv rc)), (12, Sl ga161 (m + 2) ca161), (16, I6 (↑k + 1))], hE163, by omega, by omega, hBn⟩, by simp only; omega⟩
    ·
     replace hb107 := of_decide_eq_false hb107
     have hbd := hBk.sp.jw.bd hF.ok hrm
     have hqm := hBk.sp.jw.mem hF.ok hrm
     have hqt := hF.ok.tt hqm
     refine xt2 <| hK102 _ _ <| sq fun K164 hK164 => rgn 3 <| sd ww [.p] [] [(117, (Pv r.t.b))] [] 1 2 hS .nil fun a hS => ecl 1 (some 118) hS Try.call25 #[(Pv r.t.b)] (Rows_b (hx1.ext hXl104 _ (by simp)) hNw) ?_
     rintro _ wc165 ⟨gr165, cgr165, rfl, hO165, hNw165, hEc165⟩
     refine ⟨_, rfl, fun a hS => ?_⟩
     have hG171 : Ext [] wl104 wc165 := (Ext.refl [] wl104).trans0 hEc165
     have hE172 := hXl104.trans0 hEc165
     refine sd ww [.p] [] [(19, .slice gr165 N cgr165)] [] 3 0 hS .nil fun a hS => sge hK164 <| sq fun K173 hK173 => rgn 5 <| sd ww [.p, .p, .p] [] [(121, (Pv cb))] [] 3 2 hS .nil fun a hS => ecl 1 (some 122) hS Try.call39 #[(Pv cb)] (Path_b (hBk.sp.ext0 hG171) (by omega)) ?_
     rintro _ wc174 ⟨b2174, c2174, rfl, hO174, hNp174, hEc174⟩
     refine ⟨_, rfl, fun a hS => ?_⟩
     have hB180 := hO165.ext hEc174 (by simp)
     have hG181 : Ext [] wl104 wc174 := hG171.trans0 hEc174
     have hE182 := hE172.trans0 hEc174
     refine sd ww [.p] [] [(20, .slice b2174 C.st.length c2174)] [] 5 0 hS .nil fun a hS => sge hK173 <| sq fun K183 hK183 => sq fun K184 hK184 => rgn 23 <| sd ww [.p] [] [(123, .slice rb 4 rp)] [] 1 22 hS .nil fun a hS => ?_
     have hBz := hBk.ext0 hG181
     refine ecl 21 (some 124) hS Try.call48 #[.slice rb 4 rp] (GrownR_b hBz (by omega) (by omega)) ?_
     rintro _ wg ⟨rfl, hEg⟩
     refine ⟨_, rfl, fun a hS => ?_⟩
     obtain ⟨hwg, hsg, hpg, hfg⟩ := hBz.grewR hEg
     have hEg1 := hE182.trans hEg (fun b hb => .inr (Nat.le_trans hBz.n0 (hBz.ra.rf.bD b hb)))
     have hog := (hB180).ext hEg fun x hx hm => by
      have h1 := hBk.ra.rf.blt x hm
      have h2 := hNw165 x hx
      omega
     have htg := (hO174).ext hEg (hBz.ra.rf.notV (hO174) (by decide))
     refine sg ww [.p, .p, .p] [] [(1, mv), (5, (Pv F.fb)), (7, I6 i), (8, (Pv r.t.b)), (9, .slice bs28 N cp28), (10, (Pv cb)), (11, .slice rb 4 rp), (15, (Pv rc)), (12, .slice qb m qp), (16, I6 k), (19, .slice gr165 N cgr165), (20, .slice b2174 C.st.length c2174), (126, .bool false), (127, .slice qb m qp)] 5 18 hS .nil fun a hS => ecl 17 (some 128) hS Try.call49 #[.slice qb m qp] (GrownP_b hpg hfg (by omega) hBk.pn) ?_
     rintro _ wh ⟨rfl, hEh⟩
     refine ⟨_, rfl, fun a hS => ?_⟩
     obtain ⟨hwh, hsh⟩ := grewP hwg hsg hfg hBk.pd hBk.n0 hEh
     have hEh1 := hEg1.trans hEh (fun b hb => .inr (Nat.le_trans hBk.n0 (hfg.bD b hb)))
     have hoh := hog.ext hEh (hfg.notV hog (by decide))
     have hth := htg.ext hEh fun x hx hm => by
      have h1 := hBk.pf.blt x hm
      have h2 := hNp174 x hx
      have h3 := hEc165.size
      omega
     refine sd ww [.p, .p, .p, .p, .p] [] [(131, .bool false), (132, .slice gr165 N cgr165), (133, .slice bs28 N cp28)] [] 11 12 hS .nil fun a hS => ecl 11 (some 134) hS Try.call27 #[.slice gr165 N cgr165, .slice bs28 N cp28] (SameRows_T (hoh : OwnV wh 64 6 (.slice gr165 N cgr165) N (rowsT (pre r.t))) (hwh : OwnV wh 64 6 (.slice bs28 N cp28) N (rowsT (pre r.t))) hN (by omega)) ?_
     rintro _ wc185 ⟨rfl, hEc185⟩
     refine ⟨_, rfl, fun a hS => ?_⟩
     have hB187 := hsh.pc.blk.ext hEc185 (by simp)
     have hB188 := hwh.ext hEc185 (by simp)
     have hB190 := hth.ext hEc185 (by simp)
     have hG191 : Ext [] wh wc185 := (Ext.refl [] wh).trans0 hEc185
     have hE192 := hEh1.trans0 hEc185
     refine sd ww [.p, .p, .p, .p, .p, .p, .p, .ld (.slice C.pb C.st.length C.pc)] [_] [(137, .bool false), (138, .slice b2174 C.st.length c2174), (142, .slice C.pb C.st.length C.pc)] [] 20 3 hS (hB187.k 1 .nil) fun a hS => ecl 2 (some 143) hS Try.call44 #[.slice b2174 C.st.length c2174, .slice C.pb C.st.length C.pc] (SameInts_eq (xs := idx C.st) (hB190 : OwnV wc185 3 1 (.slice b2174 C.st.length c2174) C.st.length (ints (idx C.st))).rd (hsh.pc.row.ext hG191 (by simp)).rd (by omega)) ?_
     rintro _ wc193 ⟨rfl, hEc193⟩
     refine ⟨_, rfl, fun a hS => ?_⟩
     have hB195 := hB187.ext hEc193 (by simp)
     have hB196 := hB188.ext hEc193 (by simp)
     have hG199 : Ext [] wh wc193 := hG191.trans0 hEc193
     have hE200 := hE192.trans0 hEc193
     refine sd ww [.p, .p] [] [(145, .bool false)] [] 23 0 hS .nil fun a hS => sge hK184 ?_
     refine cond_f hS rfl ?_
     refine wpIn_skip <| hK183 _ _ <| sq fun K201 hK201 => ?_
     refine gh3 (G := (Option Addr) × Nat × World × World × (Option Addr) × Nat × World × World) [.q .p, .e, .q .p, .e, .q .p, .q .p, .q .p, .q .p, .e, .q .p, .q .p, .q .p, .q (.ld (.slice C.pb C.st.length C.pc)), .e, .q .p, .q .p] [0, 0, 0, 1, 2, 2, 2, 2, 2, 2, 2, 2, 2, 3, 4, 4] [0, 0, 1, 1, 2, 2, 2, 2, 2, 3, 3, 3, 3, 3, 4, 4] [0, 1, 0, 7, 15, 31, 63, 127, 255, 31, 543, 1567, 3615, 8191, 16383, 32767] [1, 3, 8, 13] [(1, 0), (3, 1), (8, 2), (13, 3)] 4 (fun ⟨gr202, cgr202, wc202, wc203, b2204, c2204, wc204, wc205⟩ => ([(1, mv), (5, (Pv F.fb)), (7, I6 i), (8, (Pv r.t.b)), (9, .slice bs28 N cp28), (10, (Pv cb)), (11, .slice rb 4 rp), (15, (Pv rc)), (12, .slice qb m qp), (16, I6 k), (19, .slice gr165 N cgr165), (20, .slice b2174 C.st.length c2174), (145, .bool false), (146, (Pv r.t.b)), (147, .slice gr202 N cgr202), (148, .slice bs28 N cp28), (149, .bool true), (150, .bool true), (151, (Pv cb)), (152, (Pv cb)), (153, (Pv cb)), (154, .slice b2204 C.st.length c2204), (155, (Pv rc)), (156, (Pv rc)), (157, (Po rc 1)), (158, .slice C.pb C.st.length C.pc), (159, .bool true), (160, .bool true), (4, .bool true)] : Fm)) (fun ⟨gr202, cgr202, wc202, wc203, b2204, c2204, wc204, wc205⟩ => [wc193.drew, wc202, wc203, wc204, wc205]) (wc193.drew) (fun e ⟨gr202, cgr202, wc202, wc203, b2204, c2204, wc204, wc205⟩ => hAt [True, (OwnV wc202 64 6 (.slice gr202 N cgr202) N (rowsT (pre r.t))) ∧ (∀ b ∈ ob (.slice gr202 N cgr202), wc193.drew.heap.size ≤ b) ∧ (Ext [] wc193.drew wc202) ∧ True, (OwnV wc202 64 6 (.slice gr202 N cgr202) N (rowsT (pre r.t))) ∧ (∀ b ∈ ob (.slice gr202 N cgr202), wc193.drew.heap.size ≤ b) ∧ (Ext [] wc193.drew wc202) ∧ (Ext [] wc202 wc203) ∧ True, (OwnV wc202 64 6 (.slice gr202 N cgr202) N (rowsT (pre r.t))) ∧ (∀ b ∈ ob (.slice gr202 N cgr202), wc193.drew.heap.size ≤ b) ∧ (Ext [] wc193.drew wc202) ∧ (Ext [] wc202 wc203) ∧ (OwnV wc204 3 1 (.slice b2204 C.st.length c2204) C.st.length (ints (idx C.st))) ∧ (∀ b ∈ ob (.slice b2204 C.st.length c2204), wc203.heap.size ≤ b) ∧ (Ext [] wc203 wc204) ∧ True, (OwnV wc202 64 6 (.slice gr202 N cgr202) N (rowsT (pre r.t))) ∧ (∀ b ∈ ob (.slice gr202 N cgr202), wc193.drew.heap.size ≤ b) ∧ (Ext [] wc193.drew wc202) ∧ (Ext [] wc202 wc203) ∧ (OwnV wc204 3 1 (.slice b2204 C.st.length c2204) C.st.length (ints (idx C.st))) ∧ (∀ b ∈ ob (.slice b2204 C.st.length c2204), wc203.heap.size ≤ b) ∧ (Ext [] wc203 wc204) ∧ (Ext [] wc204 wc205) ∧ True] e) (fun ⟨gr202, cgr202, wc202, wc203, b2204, c2204, wc204, wc205⟩ w' => [(12, [w'.cell? ⟨rc, 1, none⟩ = some (.slice C.pb C.st.length C.pc)])]) (none, 0, wc193.drew, w, none, 0, w, w) [1, 5, 7, 8, 9, 10, 11, 15, 12, 16, 19, 20, 145] [] hS (fun ⟨gr202, cgr202, wc202, wc203, b2204, c2204, wc204, wc205⟩ _ => by kernel_rfl) trivial ?_ ?_ ?_
     ·rintro e ⟨gr202, cgr202, wc202, wc203, b2204, c2204, wc204, wc205⟩ w' hw hH
      refine (.c ?_ .nil)
      ·intro h1 h2
       replace h1 : 2 ≤ e := h1
       replace h2 : e ≤ 3 := h2
       have he : e = 2 ∨ e = 3 := by omega
       rcases he with rfl | rfl
       ·have hwe : wc203 = w' := hwz hw
        subst hwe
        obtain ⟨hO202, hNw202, hEc202, hEc203, _⟩ := hH
        exact (.c ((((hB195.drew : Blk wc193.drew rc 85 (#[(Pv r.rb), .slice C.pb C.st.length C.pc])).ext hEc202 (by simp) : Blk wc202 rc 85 (#[(Pv r.rb), .slice C.pb C.st.length C.pc])).ext hEc203 (by simp) : Blk wc203 rc 85 (#[(Pv r.rb), .slice C.pb C.st.length C.pc])).cell 1 rfl) .nil)
       ·have hwe : wc204 = w' := hwz hw
        subst hwe
        obtain ⟨hO202, hNw202, hEc202, hEc203, hO204, hNp204, hEc204, _⟩ := hH
        exact (.c (((((hB195.drew : Blk wc193.drew rc 85 (#[(Pv r.rb), .slice C.pb C.st.length C.pc])).ext hEc202 (by simp) : Blk wc202 rc 85 (#[(Pv r.rb), .slice C.pb C.st.length C.pc])).ext hEc203 (by simp) : Blk wc203 rc 85 (#[(Pv r.rb), .slice C.pb C.st.length C.pc])).ext hEc204 (by simp) : Blk wc204 rc 85 (#[(Pv r.rb), .slice C.pb C.st.length C.pc])).cell 1 rfl) .nil)
     ·refine (.c ?eq206_1 (.c ?eq206_3 (.c ?eq206_8 (.c ?eq206_13 .nil))))
      ·rintro ⟨gr202, cgr202, wc202, wc203, b2204, c2204, wc204, wc205⟩ hH
       clear hH
       refine eff_gh (wc193.drew) (by kernel_rfl) ?_
       refine upon_call (f := 25) (vs := [(Pv r.t.b)]) (cap := #[]) (d := (some 147)) (by kernel_rfl) Try.call25 #[(Pv r.t.b)] (by kernel_rfl) (Rows_b (hx1.ext (hE200.trans0 ((Ext.refl [] _).drew)) _ (by simp)) hNw) ?_
       rintro _ wc202 ⟨gr202, cgr202, rfl, hO202, hNw202, hEc202⟩
       exact ⟨_, rfl, ⟨(gr202, cgr202, wc202, wc203, b2204, c2204, wc204, wc205), by kernel_rfl, by kernel_rfl, by kernel_rfl, ⟨hO202, hNw202, hEc202, trivial⟩⟩⟩
      ·rintro ⟨gr202, cgr202, wc202, wc203, b2204, c2204, wc204, wc205⟩ hH
       obtain ⟨hO202, hNw202, hEc202, _⟩ := hH
       refine eff_gh (wc202) (by kernel_rfl) ?_
       refine upon_call (f := 27) (vs := [.slice gr202 N cgr202, .slice bs28 N cp28]) (cap := #[]) (d := (some 149)) (by kernel_rfl) Try.call27 #[.slice gr202 N cgr202, .slice bs28 N cp28] (by kernel_rfl) (SameRows_T (hO202 : OwnV wc202 64 6 (.slice gr202 N cgr202) N (rowsT (pre r.t))) ((hB196.drew : OwnV wc193.drew 64 6 (.slice bs28 N cp28) N (rowsT (pre r.t))).ext hEc202 (by simp) : OwnV wc202 64 6 (.slice bs28 N cp28) N (rowsT (pre r.t))) hN (by omega)) ?_
       rintro _ wc203 ⟨rfl, hEc203⟩
       exact ⟨_, rfl, ⟨(gr202, cgr202, wc202, wc203, b2204, c2204, wc204, wc205), by kernel_rfl, by kernel_rfl, by kernel_rfl, ⟨hO202, hNw202, hEc202, hEc203, trivial⟩⟩⟩
      ·rintro ⟨gr202, cgr202, wc202, wc203, b2204, c2204, wc204, wc205⟩ hH
       obtain ⟨hO202, hNw202, hEc202, hEc203, _⟩ := hH
       refine eff_gh (wc203) (by kernel_rfl) ?_
       refine upon_call (f := 39) (vs := [(Pv cb)]) (cap := #[]) (d := (some 154)) (by kernel_rfl) Try.call39 #[(Pv cb)] (by kernel_rfl) (Path_b (hsh.ext0 (hG199.trans0 ((((((Ext.refl [] _).drew)).trans0 hEc202)).trans0 hEc203))) (by omega)) ?_
       rintro _ wc204 ⟨b2204, c2204, rfl, hO204, hNp204, hEc204⟩
       exact ⟨_, rfl, ⟨(gr202, cgr202, wc202, wc203, b2204, c2204, wc204, wc205), by kernel_rfl, by kernel_rfl, by kernel_rfl, ⟨hO202, hNw202, hEc202, hEc203, hO204, hNp204, hEc204, trivial⟩⟩⟩
      ·rintro ⟨gr202, cgr202, wc202, wc203, b2204, c2204, wc204, wc205⟩ hH
       obtain ⟨hO202, hNw202, hEc202, hEc203, hO204, hNp204, hEc204, _⟩ := hH
       refine eff_gh (wc204) (by kernel_rfl) ?_
       refine upon_call (f := 44) (vs := [.slice b2204 C.st.length c2204, .slice C.pb C.st.length C.pc]) (cap := #[]) (d := (some 159)) (by kernel_rfl) Try.call44 #[.slice b2204 C.st.length c2204, .slice C.pb C.st.length C.pc] (by kernel_rfl) (SameInts_eq (xs := idx C.st) (hO204 : OwnV wc204 3 1 (.slice b2204 C.st.length c2204) C.st.length (ints (idx C.st))).rd (hsh.pc.row.ext (hG199.trans0 ((((((((Ext.refl [] _).drew)).trans0 hEc202)).trans0 hEc203)).trans0 hEc204)) (by simp)).rd (by omega)) ?_
       rintro _ wc205 ⟨rfl, hEc205⟩
       exact ⟨_, rfl, ⟨(gr202, cgr202, wc202, wc203, b2204, c2204, wc204, wc205), by kernel_rfl, by kernel_rfl, by kernel_rfl, ⟨hO202, hNw202, hEc202, hEc203, hO204, hNp204, hEc204, hEc205, trivial⟩⟩⟩
     rintro ⟨gr202, cgr202, wc202, wc203, b2204, c2204, wc204, wc205⟩ a w207 hS hw208 hH
     obtain ⟨hO202, hNw202, hEc202, hEc203, hO204, hNp204, hEc204, hEc205, _⟩ := hH
     replace hw208 : w207 = wc205 := hw208.trans (by kernel_rfl)
     have hE216 : Ext [] w1 w207 := by rw [hw208]; exact ((((hE200.drew).trans0 hEc202).trans0 hEc203).trans0 hEc204).trans0 hEc205
     have hX217 : Ext [] wc193 w207 := by rw [hw208]; exact (((((Ext.refl _ _).drew).trans0 hEc202).trans0 hEc203).trans0 hEc204).trans0 hEc205
     have hG218 : Ext [] wh w207 := hG199.trans0 hX217
     replace hS := hS.kp [(1, mv), (5, (Pv F.fb)), (7, I6 i), (8, (Pv r.t.b)), (9, .slice bs28 N cp28), (10, (Pv cb)), (11, .slice rb 4 rp), (15, (Pv rc)), (12, .slice qb m qp), (16, I6 k), (19, .slice gr165 N cgr165), (20, .slice b2174 C.st.length c2174), (145, .bool false), (4, .bool true)]
     refine hK201 _ _ <| wpIn_ret ?_
     refine ret1 hS Try.results10 rfl ?_
     exact ⟨rfl, (hE1.trans0 hE216)⟩
   ·
    have hbd := hBk.sp.jw.bd hF.ok hrm
    have hqm := hBk.sp.jw.mem hF.ok hrm
    have hqt := hF.ok.tt hqm
    refine rgn 8 <| sd ww [.p, .p, .run (I6 ms.length), .as (.bool false), .p, .no, .no, .p] [Ru Try.prog (vS (Builtin.len_ #[80] 3 #[mv])) (I6 ms.length) wl104, Value.bool (decide ((↑k : Int) < ↑ms.length)) = .bool false] [(77, .bool false)] [] 8 0 hS (.c (rlr 88 hms) (.c (as_f (by omega)) .nil)) fun a hS => sge hK106 ?_
    refine cond_f hS rfl ?_
    refine xt2 <| hK102 _ _ <| sq fun K219 hK219 => rgn 3 <| sd ww [.p] [] [(117, (Pv r.t.b))] [] 1 2 hS .nil fun a hS => ecl 1 (some 118) hS Try.call25 #[(Pv r.t.b)] (Rows_b (hx1.ext hXl104 _ (by simp)) hNw) ?_
    rintro _ wc220 ⟨gr220, cgr220, rfl, hO220, hNw220, hEc220⟩
    refine ⟨_, rfl, fun a hS => ?_⟩
    have hG226 : Ext [] wl104 wc220 := (Ext.refl [] wl104).trans0 hEc220
    have hE227 := hXl104.trans0 hEc220
    refine sd ww [.p] [] [(19, .slice gr220 N cgr220)] [] 3 0 hS .nil fun a hS => sge hK219 <| sq fun K228 hK228 => rgn 5 <| sd ww [.p, .p, .p] [] [(121, (Pv cb))] [] 3 2 hS .nil fun a hS => ecl 1 (some 122) hS Try.call39 #[(Pv cb)] (Path_b (hBk.sp.ext0 hG226) (by omega)) ?_
    rintro _ wc229 ⟨b2229, c2229, rfl, hO229, hNp229, hEc229⟩
    refine ⟨_, rfl, fun a hS => ?_⟩
    have hB235 := hO220.ext hEc229 (by simp)
    have hG236 : Ext [] wl104 wc229 := hG226.trans0 hEc229
    have hE237 := hE227.trans0 hEc229
    refine sd ww [.p] [] [(20, .slice b2229 C.st.length c2229)] [] 5 0 hS .nil fun a hS => sge hK228 <| sq fun K238 hK238 => sq fun K239 hK239 => rgn 23 <| sd ww [.p] [] [(123, .slice rb 4 rp)] [] 1 22 hS .nil fun a hS => ?_
    have hBz := hBk.ext0 hG236
    refine ecl 21 (some 124) hS Try.call48 #[.slice rb 4 rp] (GrownR_b hBz (by omega) (by omega)) ?_
    rintro _ wg ⟨rfl, hEg⟩
    refine ⟨_, rfl, fun a hS => ?_⟩
    obtain ⟨hwg, hsg, hpg, hfg⟩ := hBz.grewR hEg
    have hEg1 := hE237.trans hEg (fun b hb => .inr (Nat.le_trans hBz.n0 (hBz.ra.rf.bD b hb)))
    have hog := (hB235).ext hEg fun x hx hm => by
     have h1 := hBk.ra.rf.blt x hm
     have h2 := hNw220 x hx
     omega
    have htg := (hO229).ext hEg (hBz.ra.rf.notV (hO229) (by decide))
    refine sg ww [.p, .p, .p] [] [(1, mv), (5, (Pv F.fb)), (7, I6 i), (8, (Pv r.t.b)), (9, .slice bs28 N cp28), (10, (Pv cb)), (11, .slice rb 4 rp), (15, (Pv rc)), (12, .slice qb m qp), (16, I6 k), (77, .bool false), (19, .slice gr220 N cgr220), (20, .slice b2229 C.st.length c2229), (126, .bool false), (127, .slice qb m qp)] 5 18 hS .nil fun a hS => ecl 17 (some 128) hS Try.call49 #[.slice qb m qp] (GrownP_b hpg hfg (by omega) hBk.pn) ?_
    rintro _ wh ⟨rfl, hEh⟩
    refine ⟨_, rfl, fun a hS => ?_⟩
    obtain ⟨hwh, hsh⟩ := grewP hwg hsg hfg hBk.pd hBk.n0 hEh
    have hEh1 := hEg1.trans hEh (fun b hb => .inr (Nat.le_trans hBk.n0 (hfg.bD b hb)))
    have hoh := hog.ext hEh (hfg.notV hog (by decide))
    have hth := htg.ext hEh fun x hx hm => by
     have h1 := hBk.pf.blt x hm
     have h2 := hNp229 x hx
     have h3 := hEc220.size
     omega
    refine sd ww [.p, .p, .p, .p, .p] [] [(131, .bool false), (132, .slice gr220 N cgr220), (133, .slice bs28 N cp28)] [] 11 12 hS .nil fun a hS => ecl 11 (some 134) hS Try.call27 #[.slice gr220 N cgr220, .slice bs28 N cp28] (SameRows_T (hoh : OwnV wh 64 6 (.slice gr220 N cgr220) N (rowsT (pre r.t))) (hwh : OwnV wh 64 6 (.slice bs28 N cp28) N (rowsT (pre r.t))) hN (by omega)) ?_
    rintro _ wc240 ⟨rfl, hEc240⟩
    refine ⟨_, rfl, fun a hS => ?_⟩
    have hB242 := hsh.pc.blk.ext hEc240 (by simp)
    have hB243 := hwh.ext hEc240 (by simp)
    have hB245 := hth.ext hEc240 (by simp)
    have hG246 : Ext [] wh wc240 := (Ext.refl [] wh).trans0 hEc240
    have hE247 := hEh1.trans0 hEc240
    refine sd ww [.p, .p, .p, .p, .p, .p, .p, .ld (.slice C.pb C.st.length C.pc)] [_] [(137, .bool false), (138, .slice b2229 C.st.length c2229), (142, .slice C.pb C.st.length C.pc)] [] 20 3 hS (hB242.k 1 .nil) fun a hS => ecl 2 (some 143) hS Try.call44 #[.slice b2229 C.st.length c2229, .slice C.pb C.st.length C.pc] (SameInts_eq (xs := idx C.st) (hB245 : OwnV wc240 3 1 (.slice b2229 C.st.length c2229) C.st.length (ints (idx C.st))).rd (hsh.pc.row.ext hG246 (by simp)).rd (by omega)) ?_
    rintro _ wc248 ⟨rfl, hEc248⟩
    refine ⟨_, rfl, fun a hS => ?_⟩
    have hB250 := hB242.ext hEc248 (by simp)
    have hB251 := hB243.ext hEc248 (by simp)
    have hG254 : Ext [] wh wc248 := hG246.trans0 hEc248
    have hE255 := hE247.trans0 hEc248
    refine sd ww [.p, .p] [] [(145, .bool false)] [] 23 0 hS .nil fun a hS => sge hK239 ?_
    refine cond_f hS rfl ?_
    refine wpIn_skip <| hK238 _ _ <| sq fun K256 hK256 => ?_
    refine gh3 (G := (Option Addr) × Nat × World × World × (Option Addr) × Nat × World × World) [.q .p, .e, .q .p, .e, .q .p, .q .p, .q .p, .q .p, .e, .q .p, .q .p, .q .p, .q (.ld (.slice C.pb C.st.length C.pc)), .e, .q .p, .q .p] [0, 0, 0, 1, 2, 2, 2, 2, 2, 2, 2, 2, 2, 3, 4, 4] [0, 0, 1, 1, 2, 2, 2, 2, 2, 3, 3, 3, 3, 3, 4, 4] [0, 1, 0, 7, 15, 31, 63, 127, 255, 31, 543, 1567, 3615, 8191, 16383, 32767] [1, 3, 8, 13] [(1, 0), (3, 1), (8, 2), (13, 3)] 4 (fun ⟨gr257, cgr257, wc257, wc258, b2259, c2259, wc259, wc260⟩ => ([(1, mv), (5, (Pv F.fb)), (7, I6 i), (8, (Pv r.t.b)), (9, .slice bs28 N cp28), (10, (Pv cb)), (11, .slice rb 4 rp), (15, (Pv rc)), (12, .slice qb m qp), (16, I6 k), (77, .bool false), (19, .slice gr220 N cgr220), (20, .slice b2229 C.st.length c2229), (145, .bool false), (146, (Pv r.t.b)), (147, .slice gr257 N cgr257), (148, .slice bs28 N cp28), (149, .bool true), (150, .bool true), (151, (Pv cb)), (152, (Pv cb)), (153, (Pv cb)), (154, .slice b2259 C.st.length c2259), (155, (Pv rc)), (156, (Pv rc)), (157, (Po rc 1)), (158, .slice C.pb C.st.length C.pc), (159, .bool true), (160, .bool true), (4, .bool true)] : Fm)) (fun ⟨gr257, cgr257, wc257, wc258, b2259, c2259, wc259, wc260⟩ => [wc248.drew, wc257, wc258, wc259, wc260]) (wc248.drew) (fun e ⟨gr257, cgr257, wc257, wc258, b2259, c2259, wc259, wc260⟩ => hAt [True, (OwnV wc257 64 6 (.slice gr257 N cgr257) N (rowsT (pre r.t))) ∧ (∀ b ∈ ob (.slice gr257 N cgr257), wc248.drew.heap.size ≤ b) ∧ (Ext [] wc248.drew wc257) ∧ True, (OwnV wc257 64 6 (.slice gr257 N cgr257) N (rowsT (pre r.t))) ∧ (∀ b ∈ ob (.slice gr257 N cgr257), wc248.drew.heap.size ≤ b) ∧ (Ext [] wc248.drew wc257) ∧ (Ext [] wc257 wc258) ∧ True, (OwnV wc257 64 6 (.slice gr257 N cgr257) N (rowsT (pre r.t))) ∧ (∀ b ∈ ob (.slice gr257 N cgr257), wc248.drew.heap.size ≤ b) ∧ (Ext [] wc248.drew wc257) ∧ (Ext [] wc257 wc258) ∧ (OwnV wc259 3 1 (.slice b2259 C.st.length c2259) C.st.length (ints (idx C.st))) ∧ (∀ b ∈ ob (.slice b2259 C.st.length c2259), wc258.heap.size ≤ b) ∧ (Ext [] wc258 wc259) ∧ True, (OwnV wc257 64 6 (.slice gr257 N cgr257) N (rowsT (pre r.t))) ∧ (∀ b ∈ ob (.slice gr257 N cgr257), wc248.drew.heap.size ≤ b) ∧ (Ext [] wc248.drew wc257) ∧ (Ext [] wc257 wc258) ∧ (OwnV wc259 3 1 (.slice b2259 C.st.length c2259) C.st.length (ints (idx C.st))) ∧ (∀ b ∈ ob (.slice b2259 C.st.length c2259), wc258.heap.size ≤ b) ∧ (Ext [] wc258 wc259) ∧ (Ext [] wc259 wc260) ∧ True] e) (fun ⟨gr257, cgr257, wc257, wc258, b2259, c2259, wc259, wc260⟩ w' => [(12, [w'.cell? ⟨rc, 1, none⟩ = some (.slice C.pb C.st.length C.pc)])]) (none, 0, wc248.drew, w, none, 0, w, w) [1, 5, 7, 8, 9, 10, 11, 15, 12, 16, 77, 19, 20, 145] [] hS (fun ⟨gr257, cgr257, wc257, wc258, b2259, c2259, wc259, wc260⟩ _ => by kernel_rfl) trivial ?_ ?_ ?_
    ·rintro e ⟨gr257, cgr257, wc257, wc258, b2259, c2259, wc259, wc260⟩ w' hw hH
     refine (.c ?_ .nil)
     ·intro h1 h2
      replace h1 : 2 ≤ e := h1
      replace h2 : e ≤ 3 := h2
      have he : e = 2 ∨ e = 3 := by omega
      rcases he with rfl | rfl
      ·have hwe : wc258 = w' := hwz hw
       subst hwe
       obtain ⟨hO257, hNw257, hEc257, hEc258, _⟩ := hH
       exact (.c ((((hB250.drew : Blk wc248.drew rc 85 (#[(Pv r.rb), .slice C.pb C.st.length C.pc])).ext hEc257 (by simp) : Blk wc257 rc 85 (#[(Pv r.rb), .slice C.pb C.st.length C.pc])).ext hEc258 (by simp) : Blk wc258 rc 85 (#[(Pv r.rb), .slice C.pb C.st.length C.pc])).cell 1 rfl) .nil)
      ·have hwe : wc259 = w' := hwz hw
       subst hwe
       obtain ⟨hO257, hNw257, hEc257, hEc258, hO259, hNp259, hEc259, _⟩ := hH
       exact (.c (((((hB250.drew : Blk wc248.drew rc 85 (#[(Pv r.rb), .slice C.pb C.st.length C.pc])).ext hEc257 (by simp) : Blk wc257 rc 85 (#[(Pv r.rb), .slice C.pb C.st.length C.pc])).ext hEc258 (by simp) : Blk wc258 rc 85 (#[(Pv r.rb), .slice C.pb C.st.length C.pc])).ext hEc259 (by simp) : Blk wc259 rc 85 (#[(Pv r.rb), .slice C.pb C.st.length C.pc])).cell 1 rfl) .nil)
    ·refine (.c ?eq261_1 (.c ?eq261_3 (.c ?eq261_8 (.c ?eq261_13 .nil))))
     ·rintro ⟨gr257, cgr257, wc257, wc258, b2259, c2259, wc259, wc260⟩ hH
      clear hH
      refine eff_gh (wc248.drew) (by kernel_rfl) ?_
      refine upon_call (f := 25) (vs := [(Pv r.t.b)]) (cap := #[]) (d := (some 147)) (by kernel_rfl) Try.call25 #[(Pv r.t.b)] (by kernel_rfl) (Rows_b (hx1.ext (hE255.trans0 ((Ext.refl [] _).drew)) _ (by simp)) hNw) ?_
      rintro _ wc257 ⟨gr257, cgr257, rfl, hO257, hNw257, hEc257⟩
      exact ⟨_, rfl, ⟨(gr257, cgr257, wc257, wc258, b2259, c2259, wc259, wc260), by kernel_rfl, by kernel_rfl, by kernel_rfl, ⟨hO257, hNw257, hEc257, trivial⟩⟩⟩
     ·rintro ⟨gr257, cgr257, wc257, wc258, b2259, c2259, wc259, wc260⟩ hH
      obtain ⟨hO257, hNw257, hEc257, _⟩ := hH
      refine eff_gh (wc257) (by kernel_rfl) ?_
      refine upon_call (f := 27) (vs := [.slice gr257 N cgr257, .slice bs28 N cp28]) (cap := #[]) (d := (some 149)) (by kernel_rfl) Try.call27 #[.slice gr257 N cgr257, .slice bs28 N cp28] (by kernel_rfl) (SameRows_T (hO257 : OwnV wc257 64 6 (.slice gr257 N cgr257) N (rowsT (pre r.t))) ((hB251.drew : OwnV wc248.drew 64 6 (.slice bs28 N cp28) N (rowsT (pre r.t))).ext hEc257 (by simp) : OwnV wc257 64 6 (.slice bs28 N cp28) N (rowsT (pre r.t))) hN (by omega)) ?_
      rintro _ wc258 ⟨rfl, hEc258⟩
      exact ⟨_, rfl, ⟨(gr257, cgr257, wc257, wc258, b2259, c2259, wc259, wc260), by kernel_rfl, by kernel_rfl, by kernel_rfl, ⟨hO257, hNw257, hEc257, hEc258, trivial⟩⟩⟩
     ·rintro ⟨gr257, cgr257, wc257, wc258, b2259, c2259, wc259, wc260⟩ hH
      obtain ⟨hO257, hNw257, hEc257, hEc258, _⟩ := hH
      refine eff_gh (wc258) (by kernel_rfl) ?_
      refine upon_call (f := 39) (vs := [(Pv cb)]) (cap := #[]) (d := (some 154)) (by kernel_rfl) Try.call39 #[(Pv cb)] (by kernel_rfl) (Path_b (hsh.ext0 (hG254.trans0 ((((((Ext.refl [] _).drew)).trans0 hEc257)).trans0 hEc258))) (by omega)) ?_
      rintro _ wc259 ⟨b2259, c2259, rfl, hO259, hNp259, hEc259⟩
      exact ⟨_, rfl, ⟨(gr257, cgr257, wc257, wc258, b2259, c2259, wc259, wc260), by kernel_rfl, by kernel_rfl, by kernel_rfl, ⟨hO257, hNw257, hEc257, hEc258, hO259, hNp259, hEc259, trivial⟩⟩⟩
     ·rintro ⟨gr257, cgr257, wc257, wc258, b2259, c2259, wc259, wc260⟩ hH
      obtain ⟨hO257, hNw257, hEc257, hEc258, hO259, hNp259, hEc259, _⟩ := hH
      refine eff_gh (wc259) (by kernel_rfl) ?_
      refine upon_call (f := 44) (vs := [.slice b2259 C.st.length c2259, .slice C.pb C.st.length C.pc]) (cap := #[]) (d := (some 159)) (by kernel_rfl) Try.call44 #[.slice b2259 C.st.length c2259, .slice C.pb C.st.length C.pc] (by kernel_rfl) (SameInts_eq (xs := idx C.st) (hO259 : OwnV wc259 3 1 (.slice b2259 C.st.length c2259) C.st.length (ints (idx C.st))).rd (hsh.pc.row.ext (hG254.trans0 ((((((((Ext.refl [] _).drew)).trans0 hEc257)).trans0 hEc258)).trans0 hEc259)) (by simp)).rd (by omega)) ?_
      rintro _ wc260 ⟨rfl, hEc260⟩
      exact ⟨_, rfl, ⟨(gr257, cgr257, wc257, wc258, b2259, c2259, wc259, wc260), by kernel_rfl, by kernel_rfl, by kernel_rfl, ⟨hO257, hNw257, hEc257, hEc258, hO259, hNp259, hEc259, hEc260, trivial⟩⟩⟩
    rintro ⟨gr257, cgr257, wc257, wc258, b2259, c2259, wc259, wc260⟩ a w262 hS hw263 hH
    obtain ⟨hO257, hNw257, hEc257, hEc258, hO259, hNp259, hEc259, hEc260, _⟩ := hH
    replace hw263 : w262 = wc260 := hw263.trans (by kernel_rfl)
    have hE271 : Ext [] w1 w262 := by rw [hw263]; exact ((((hE255.drew).trans0 hEc257).trans0 hEc258).trans0 hEc259).trans0 hEc260
    have hX272 : Ext [] wc248 w262 := by rw [hw263]; exact (((((Ext.refl _ _).drew).trans0 hEc257).trans0 hEc258).trans0 hEc259).trans0 hEc260
    have hG273 : Ext [] wh w262 := hG254.trans0 hX272
    replace hS := hS.kp [(1, mv), (5, (Pv F.fb)), (7, I6 i), (8, (Pv r.t.b)), (9, .slice bs28 N cp28), (10, (Pv cb)), (11, .slice rb 4 rp), (15, (Pv rc)), (12, .slice qb m qp), (16, I6 k), (77, .bool false), (19, .slice gr220 N cgr220), (20, .slice b2229 C.st.length c2229), (145, .bool false), (4, .bool true)]
    refine hK256 _ _ <| wpIn_ret ?_
    refine ret1 hS Try.results10 rfl ?_
    exact ⟨rfl, (hE1.trans0 hE271)⟩
 ·
  refine ⟨_, rfl, fun a hS => sd ww [.p] [] [(7, I6 (-1))] [] 3 0 hS .nil fun a hS => sge hK6 <| sq fun K274 hK274 => sdq 2 [.p, .p] [] [(31, .bool true)] [] hS .nil fun a hS => ?_⟩
  refine cond_t hS rfl ?_
  refine sq fun K276 hK276 => rgn 1 <| sg ww [.p] [] [(0, v), (1, mv), (4, .bool true), (5, (Pv F.fb)), (6, .bool true), (27, .bool false), (7, I6 (-1)), (31, .bool true)] 1 0 hS .nil fun a hS => sge hK276 <| wpIn_ret <| then_ret ?_
  refine ret1 hS Try.results10 rfl ?_
  exact ⟨rfl, (hE1.trans0 hEr3)⟩

end Go.Proofs.Ytpglmeeledmkoaa
