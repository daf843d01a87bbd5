import Derived.Test.YtpglmeeledmkoaaProg
import Derived.Test.YtpglmeeledmkoaaVc
import Derived.Test.YtpglmeeledmkoaaT24
namespace Go.Proofs.Ytpglmeeledmkoaa
open Go.Vc

theorem take_set_succ {l : List Value} {i : Nat} {u : Value} (h : i < l.length) : (l.set i u).take (i + 1) = l.take i ++ [u] := by
 rw [List.take_succ_eq_append_getElem (by simpa using h), List.take_set, List.set_eq_of_length_le (by rw [List.length_take]; exact Nat.min_le_left _ _)]
 simp

set_option maxHeartbeats 4000000 in
theorem Step_make0 {m n : Nat} {w0 w : World} {fb s0 s1 pc qc bn bc : Nat} {c0 c1 sx lk ls ll lr kd nn : Int} {pb qb bb : Option Addr} {L : List Rf} {ks : Value} {zs : List Int} (hF : FI w0.heap.size m w ⟨fb, s0, s1, c0, c1, pb, pc, qb, qc, bb, bn, bc, L⟩) (hE : Ext [] w0 w) (hks : RdV w0 1 ks n (ints zs)) (hm : m ≤ 4398046511000) (hn : n ≤ 17592186044000) (hk : sx % 2 = 0) (hL : 0 < L.length) (hnn : nn ≤ 9223372036854775807) :
  Calls Try.prog 34 #[(Pv fb), .agg #[I6 sx, .bool false, I6 lk, I6 ls, I6 ll, I6 lr, I6 kd, I6 nn, ks]] w fun e w' => ∃ F', e = .returned (.bool true) ∧ FI w0.heap.size (m + 1) w' F' ∧ (F'.fb = fb ∧ F'.s0 = s0 ∧ F'.s1 = s1) ∧ (F'.L = L ∨ ∃ r, F'.L = L ++ [r]) ∧ Ext [] w0 w' := by
 have hcb : 0 ≤ c0 ∧ 0 ≤ c1 ∧ c0 + c1 ≤ m ∧ L.length ≤ m := hF.cb
 have hnw := hF.nw
 have hnfb : w0.heap.size ≤ fb := hnw.1
 have hfb : Blk w fb 35 #[(Pv s0), (Pv s1), .slice pb L.length pc, .slice qb L.length qc, .slice bb bn bc] := hF.f
 have hnsk : w0.heap.size ≤ s0 := hnw.2.1
 have hzl : zs.length = n := by have := hks.len; simpa [ints] using this
 obtain ⟨r0, hr0⟩ : ∃ r0, L[0]? = some r0 := ⟨_, List.getElem?_eq_getElem hL⟩
 have hw0 := hE.size
 refine calls_body 189 [(0, (Pv fb)), (1, .agg #[I6 sx, .bool false, I6 lk, I6 ls, I6 ll, I6 lr, I6 kd, I6 nn, ks])] Try.func34 rfl (by kernel_rfl) (by kernel_rfl) (by kernel_rfl) fun a hS => ?_
 refine sq fun K1 hK1 => ?_
 refine rgn 2 ?_
 refine eff_box wide_wide (r := 1) (cs := #[I6 sx, .bool false, I6 lk, I6 ls, I6 ll, I6 lr, I6 kd, I6 nn, ks]) (T := 68) (d := (some 3)) hS (by kernel_rfl) fun a w2 hw3 hS => ?_
 have hB5 := Blk.at' hw3 (hfb.alloc _)
 have hX6 : Ext [] w w2 := by rw [hw3]; exact (Ext.refl _ _).alloc _
 have hG7 : FI w0.heap.size m w2 ⟨fb, s0, s1, c0, c1, pb, pc, qb, qc, bb, bn, bc, L⟩ := hF.ext0 hX6
 have hB8 : Blk w2 (w.heap.size) 68 #[I6 sx, .bool false, I6 lk, I6 ls, I6 ll, I6 lr, I6 kd, I6 nn, ks] := by rw [hw3]; exact Blk.new _ _ _
 have hs9 : w0.heap.size ≤ w.heap.size := hE.size
 have hE10 : Ext [] w0 w2 := by rw [hw3]; exact hE.alloc _
 refine sg wide_wide [.p] [] [(0, (Pv fb)), (1, .agg #[I6 sx, .bool false, I6 lk, I6 ls, I6 ll, I6 lr, I6 kd, I6 nn, ks]), (3, (Pv w.heap.size)), (4, .bool false)] 2 0 hS .nil fun a hS => ?_
 refine seg_end ?_
 refine hK1 _ _ ?_
 refine sq fun K11 hK11 => ?_
 refine rgn 4 ?_
 refine sg wide_wide [.p, .ld (I6 sx), .run (I6 0), .p] [_, Ru Try.prog (vS (do eqGuard .and 3 (.tmp 17) (.const (I6 1)) (I6 sx) (I6 1); binOp .and 3 (I6 sx) (I6 1))) (I6 0) w2] [(0, (Pv fb)), (1, .agg #[I6 sx, .bool false, I6 lk, I6 ls, I6 ll, I6 lr, I6 kd, I6 nn, ks]), (3, (Pv w.heap.size)), (4, .bool false), (5, I6 0)] 4 0 hS (.cons (hB8.cell 0 rfl) (.cons (and_k hk) .nil)) fun a hS => ?_
 refine seg_end ?_
 refine hK11 _ _ ?_
 refine sq fun K12 hK12 => ?_
 refine sq fun K13 hK13 => ?_
 refine rgn 10 ?_
 refine sg wide_wide [.p, .ld (.bool false), .p, .p, .p, .p, .ld (.slice pb L.length pc), .p, .as (.bool false), .p] [_, _, Value.bool (((↑L.length : Int) == 0)) = .bool false] [(0, (Pv fb)), (1, .agg #[I6 sx, .bool false, I6 lk, I6 ls, I6 ll, I6 lr, I6 kd, I6 nn, ks]), (3, (Pv w.heap.size)), (4, .bool false), (5, I6 0), (28, .bool false)] 10 0 hS (.cons (hB8.cell 1 rfl) (.cons (hB5.cell 2 rfl) (.cons (as_eq_f (by omega)) .nil))) fun a hS => ?_
 refine seg_end ?_
 refine hK13 _ _ ?_
 refine cond_f hS rfl ?_
 refine wpIn_skip ?_
 refine hK12 _ _ ?_
 refine sq fun K14 hK14 => ?_
 refine rgn 1 ?_
 refine sg wide_wide [.p] [] [(0, (Pv fb)), (1, .agg #[I6 sx, .bool false, I6 lk, I6 ls, I6 ll, I6 lr, I6 kd, I6 nn, ks]), (3, (Pv w.heap.size)), (4, .bool false), (5, I6 0), (28, .bool false), (7, .slice none 0 0)] 1 0 hS .nil fun a hS => ?_
 refine seg_end ?_
 refine hK14 _ _ ?_
 refine sq fun K15 hK15 => ?_
 refine rgn 7 ?_
 refine sg wide_wide [.p, .p, .ld (ks), .run (I6 ↑n), .as (I6 ((n + 1 : Nat) : Int))] [_, Ru Try.prog (vS (Builtin.len_ #[41] 3 #[ks])) (I6 ↑n) w2, Value.int .i64 (IntKind.i64.wrap (↑n + 1)) = I6 ((n + 1 : Nat) : Int)] [(0, (Pv fb)), (1, .agg #[I6 sx, .bool false, I6 lk, I6 ls, I6 ll, I6 lr, I6 kd, I6 nn, ks]), (3, (Pv w.heap.size)), (4, .bool false), (5, I6 0), (28, .bool false), (7, .slice none 0 0), (47, (Pv fb)), (51, I6 ((n + 1 : Nat) : Int))] 5 2 hS (.cons (hB8.cell 8 rfl) (.cons (run_len_rd (e := 3) hks (by kernel_rfl)) (.cons ((by rw [show (↑n + 1 : Int) = ((n + 1 : Nat) : Int) from by omega]; exact as_i64 (by omega))) .nil))) fun a hS => ?_
 obtain ⟨xsb, hBb⟩ := hG7.B
 refine eff_call wide_wide (r := 1) (f := 60) (vs := [(Pv fb), I6 ((n + 1 : Nat) : Int)]) (cap := #[]) (d := (some 52)) hS (by kernel_rfl) Try.call60 #[(Pv fb), I6 ((n + 1 : Nat) : Int)] (by kernel_rfl) (Mem_any (n := n + 1) hB5 hBb (by omega)) ?_
 rintro _ w1 ⟨g, mc, mn, ym, rfl, hb1, hO1, hmn, hE1, hg1⟩
 refine ⟨_, rfl, fun a hS => ?_⟩
 have hFm : FI w0.heap.size m w1 ⟨fb, s0, s1, c0, c1, pb, pc, qb, qc, some ⟨g, 0, none⟩, mn, mc, L⟩ := FI.mem hG7 hE10.size hb1 hO1 hE1 hg1 hmn
 have hng : w0.heap.size ≤ g := hFm.nw.2.2.2.2.2 g (by simp [oa])
 have hmle := hO1.le
 have hSB1 := hB8.ext hE1 (by simpa using Blk.ne_type hB8 hB5 (by decide))
 have hE01 : Ext [] w0 w1 := hE10.trans hE1 (by intro b hb; obtain rfl := (by simpa using hb : b = fb); exact .inr hnfb)
 have hw01 := hE01.size
 have hO2 : OwnR w1 47 1 g mc (n + 1) (ym.take ((n + 1) * 1)) := hO1.take hmn
 refine sg wide_wide [.p] [] [(0, (Pv fb)), (1, .agg #[I6 sx, .bool false, I6 lk, I6 ls, I6 ll, I6 lr, I6 kd, I6 nn, ks]), (3, (Pv w.heap.size)), (4, .bool false), (5, I6 0), (28, .bool false), (7, .slice none 0 0), (8, .slice (some ⟨g, 0, none⟩) (n + 1) mc)] 7 0 hS .nil fun a hS => ?_
 refine seg_end ?_
 refine hK15 _ _ ?_
 refine sq fun K16 hK16 => ?_
 refine sq fun K17 hK17 => ?_
 refine rgn 1 ?_
 refine sg wide_wide [.p] [] [(0, (Pv fb)), (1, .agg #[I6 sx, .bool false, I6 lk, I6 ls, I6 ll, I6 lr, I6 kd, I6 nn, ks]), (3, (Pv w.heap.size)), (4, .bool false), (5, I6 0), (28, .bool false), (7, .slice none 0 0), (8, .slice (some ⟨g, 0, none⟩) (n + 1) mc), (9, I6 0)] 1 0 hS .nil fun a hS => ?_
 refine seg_end ?_
 refine hK17 _ _ ?_
 refine wpIn_block ?_
 refine loop_ghost (fun ((i, rs, ys, kb, kc) : Nat × List Rf × List Value × Option Addr × Nat) a' w' => St 189 [] [(0, (Pv fb)), (3, (Pv w.heap.size)), (5, I6 0), (7, .slice kb i kc), (8, .slice (some ⟨g, 0, none⟩) (n + 1) mc), (9, I6 ↑i)] a' ∧ i ≤ n ∧ rs.length = i ∧ (∀ r ∈ rs, r ∈ L) ∧ OwnR w' 47 1 g mc (n + 1) ys ∧ ys.take i = rs.map (fun r => r.t.ptr) ∧ OwnV w' 29 1 (.slice kb i kc) i (rs.map Rf.ptr) ∧ (∀ x ∈ oa kb, w1.heap.size ≤ x) ∧ Ext [g] w1 w' ∧ Ext [] w0 w') (fun ((i, rs, ys, kb, kc) : Nat × List Rf × List Value × Option Addr × Nat) => n - i) (0, [], ym.take ((n + 1) * 1), none, 0) ⟨hS.keepTo [0, 3, 5, 7, 8, 9] (by kernel_rfl), Nat.zero_le _, rfl, by simp, hO2, by simp, .inl ⟨rfl, rfl, rfl⟩, (fun x hx => by cases hx), Ext.refl _ _, hE01⟩ ?_
 rintro ⟨i, rs, ys, kb, kc⟩ a wi ⟨hS, hil, hrl, hrL, hO, hyt, hK, hkn, hEg, hEx⟩
 have hFi : FI w0.heap.size m wi ⟨fb, s0, s1, c0, c1, pb, pc, qb, qc, some ⟨g, 0, none⟩, mn, mc, L⟩ := hFm.buf rfl hEg hO hmle
 have hSBi := hSB1.ext hEg (by simpa using (OwnR.ne_type hO2 hSB1 (by decide)).symm)
 have hfbi : Blk wi fb 35 #[(Pv s0), (Pv s1), .slice pb L.length pc, .slice qb L.length qc, .slice (some ⟨g, 0, none⟩) mn mc] := hFi.f
 have hPi : OwnV wi 47 1 (.slice pb L.length pc) L.length (L.map fun r => r.t.ptr) := hFi.P
 have hRi : OwnV wi 29 1 (.slice qb L.length qc) L.length (L.map Rf.ptr) := hFi.R
 have hgpi : ∀ x ∈ ob (.slice pb L.length pc), g ≠ x := (fun x hx e => (hFi.dP x (by rw [ob_oa] at hx; exact hx)).2 (by rw [← e]; simp [oa]))
 have hEi0 : Ext [g] wi wi := Ext.refl _ _
 refine sq fun K18 hK18 => ?_
 refine sq fun K19 hK19 => ?_
 refine rgn 5 ?_
 refine sg wide_wide [.p, .p, .ld (ks), .run (I6 ↑n), .p] [_, Ru Try.prog (vS (Builtin.len_ #[41] 3 #[ks])) (I6 ↑n) wi] [(0, (Pv fb)), (3, (Pv w.heap.size)), (5, I6 0), (7, .slice kb i kc), (8, .slice (some ⟨g, 0, none⟩) (n + 1) mc), (9, I6 ↑i), (57, .bool (decide ((↑i : Int) < ↑n)))] 5 0 hS (.cons (hSBi.cell 8 rfl) (.cons (run_len_rd (e := 3) hks (by kernel_rfl)) .nil)) fun a hS => ?_
 refine seg_end ?_
 refine hK19 _ _ ?_
 refine cond_b hS rfl (fun hb20 => ?_) (fun hb20 => ?_)
 ·
  replace hb20 := of_decide_eq_true hb20
  have hi : i < n := by omega
  obtain ⟨z, hz⟩ : ∃ z, zs[i]? = some z := ⟨_, List.getElem?_eq_getElem (by omega)⟩
  have hzc : (ints zs)[i * 1]? = some (I6 z) := by simp [ints, hz]
  obtain ⟨j, hj, hjl⟩ : ∃ j : Nat, rnd z ↑L.length = (j : Int) ∧ j < L.length := ⟨(rnd z ↑L.length).toNat, by have := rnd_bd z (n := (L.length : Int)) (by omega); omega, by have := rnd_bd z (n := (L.length : Int)) (by omega); omega⟩
  obtain ⟨r, hr⟩ : ∃ r, L[j]? = some r := ⟨_, List.getElem?_eq_getElem hjl⟩
  have hyl : ys.length = n + 1 := by have := hO.len; omega
  refine wpIn_skip ?_
  refine hK18 _ _ ?_
  refine sq fun K21 hK21 => ?_
  refine wpIn_block ?_
  refine sq fun K22 hK22 => ?_
  refine region_fn2 wide_wide [.q .p, .q (.ld (ks)), .q .p, .q (.run ((Po (bof ks) (oof ks + i * 1)))), .q (.ld (I6 z)), .q .p, .q .p, .q .p, .q (.ld (.slice pb L.length pc)), .q .p, .e, .q .p] [0, 0, 0, 0, 0, 0, 0, 0, 0, 0, 0, 1] [0, 0, 0, 0, 0, 0, 0, 0, 0, 0, 0, 1] [0, 1, 0, 7, 15, 0, 32, 96, 224, 480, 1023, 2047] [10] 1 ([(0, (Pv fb)), (3, (Pv w.heap.size)), (5, I6 0), (7, .slice kb i kc), (8, .slice (some ⟨g, 0, none⟩) (n + 1) mc), (9, I6 ↑i), (60, (Po w.heap.size 8)), (61, ks), (62, I6 ↑i), (63, (Po (bof ks) (oof ks + i * 1))), (64, I6 z), (65, (Pv fb)), (66, (Pv fb)), (67, (Po fb 2)), (68, .slice pb L.length pc), (69, I6 ↑L.length), (70, I6 (rnd z ↑L.length)), (10, I6 (rnd z ↑L.length))]) [wi.drew, wi.drew] wi.drew (fun w' => [(1, [w'.cell? ⟨w.heap.size, 8, none⟩ = some (ks)]), (3, [Ru Try.prog (vS (Instr.indexAt 41 (ks) (I6 ↑i))) ((Po (bof ks) (oof ks + i * 1))) w']), (4, [w'.cell? ⟨bof ks, oof ks + i * 1, none⟩ = some (I6 z)]), (8, [w'.cell? ⟨fb, 2, none⟩ = some (.slice pb L.length pc)])]) [0, 3, 5, 7, 8, 9] [] hS (by kernel_rfl) (by kernel_rfl) (by kernel_rfl) (by kernel_rfl) (fun _ => by kernel_rfl) (by kernel_rfl) (by kernel_rfl) (by kernel_rfl) ?_ ?_ ?_
  ·intro e w' hw
   refine (.cons ?_ (.cons ?_ (.cons ?_ (.cons ?_ .nil))))
   ·intro h1 h2
    obtain rfl : e = 0 := Nat.le_antisymm h2 h1
    obtain rfl : w' = wi.drew := hw.trans (by kernel_rfl)
    exact (.cons ((hSBi.drew : Blk wi.drew w.heap.size 68 (#[I6 sx, .bool false, I6 lk, I6 ls, I6 ll, I6 lr, I6 kd, I6 nn, ks])).cell 8 rfl) .nil)
   ·exact fun _ _ => (.cons (ix_rd (e := 3) (j := i) hks (by kernel_rfl) (by kernel_rfl) rfl (by omega)) .nil)
   ·intro h1 h2
    obtain rfl : e = 0 := Nat.le_antisymm h2 h1
    obtain rfl : w' = wi.drew := hw.trans (by kernel_rfl)
    exact (.cons ((hks.ext0 hEx.drew).cellAt (i * 1) rfl hzc) .nil)
   ·intro h1 h2
    obtain rfl : e = 0 := Nat.le_antisymm h2 h1
    obtain rfl : w' = wi.drew := hw.trans (by kernel_rfl)
    exact (.cons ((hfbi.drew : Blk wi.drew fb 35 (#[(Pv s0), (Pv s1), .slice pb L.length pc, .slice qb L.length qc, .slice (some ⟨g, 0, none⟩) mn mc])).cell 2 rfl) .nil)
  ·refine (.cons ?eq23_10 .nil)
   ·refine eff_at (wi.drew) (wi.drew) (by kernel_rfl) (by kernel_rfl) ?_
    refine upon_call (f := 24) (vs := [I6 z, I6 ↑L.length]) (cap := #[]) (d := (some 70)) (by kernel_rfl) Try.call24 #[I6 z, I6 ↑L.length] (by kernel_rfl) (Round_any (k := z) (by omega)) ?_
    rintro _ _ ⟨rfl, rfl⟩
    exact ⟨_, rfl, ⟨by kernel_rfl, by kernel_rfl⟩⟩
  rintro a w24 hS hw25
  replace hw25 : w24 = wi.drew := hw25.trans (by kernel_rfl)
  have hB27 := Blk.at' hw25 (hfbi.drew)
  have hB28 := OwnR.at' hw25 (hO.drew)
  have hB29 := OwnV.at' hw25 (hK.drew)
  have hB30 := OwnV.at' hw25 (hPi.drew)
  have hB31 := OwnV.at' hw25 (hRi.drew)
  have hE32 : Ext [] w0 w24 := by rw [hw25]; exact hEx.drew
  have hX33 : Ext [] wi w24 := by rw [hw25]; exact (Ext.refl _ _).drew
  have hG34 : Ext [g] w1 w24 := hEg.trans hX33 (by simp)
  have hG35 : Ext [g] wi w24 := hEi0.trans hX33 (by simp)
  replace hS := hS.kp [(0, (Pv fb)), (3, (Pv w.heap.size)), (5, I6 0), (7, .slice kb i kc), (8, .slice (some ⟨g, 0, none⟩) (n + 1) mc), (9, I6 ↑i), (10, I6 (rnd z ↑L.length))]
  refine hK22 _ _ ?_
  refine sq fun K36 hK36 => ?_
  refine rgn 11 ?_
  refine sg wide_wide [.p, .p, .p, .p, .p, .ld (.slice pb L.length pc), .p, .run ((Po (bof (.slice pb L.length pc)) (0 + j * 1))), .ld ((Pv r.t.b)), .run ((Po g (0 + i * 1)))] [_, Ru Try.prog (vS (Instr.indexAt 32 (.slice pb L.length pc) (I6 (rnd z ↑L.length)))) ((Po (bof (.slice pb L.length pc)) (0 + j * 1))) w24, w24.cell? ⟨bof (.slice pb L.length pc), 0 + j * 1, none⟩ = some ((Pv r.t.b)), Ru Try.prog (vS (Instr.indexAt 32 (.slice (some ⟨g, 0, none⟩) (n + 1) mc) (I6 ↑i))) ((Po g (0 + i * 1))) w24] [(0, (Pv fb)), (3, (Pv w.heap.size)), (5, I6 0), (7, .slice kb i kc), (8, .slice (some ⟨g, 0, none⟩) (n + 1) mc), (9, I6 ↑i), (10, I6 (rnd z ↑L.length)), (79, (Pv r.t.b)), (80, (Po g (0 + i * 1)))] 10 1 hS (.cons (hB27.cell 2 rfl) (.cons (ix_own (j := j) (hB30) (by kernel_rfl) (by kernel_rfl) hj hjl) (.cons ((hB30).cellAt _ (by simp [hr, Tr.ptr])) (.cons (ix_slice (E := 47) (size := 1) (j := i) (by kernel_rfl) (by kernel_rfl) rfl (by omega)) .nil)))) fun a hS => ?_
  refine eff_store_own wide_wide (r := 0) (b := g) (off := 0 + i * 1) (u := Value.pointer (some ⟨r.t.b, 0, none⟩)) (xs := ys) hS (by kernel_rfl) hB28 (by omega) fun a ws37 hOs37 hEs37 hsz37 hS => ?_
  have hB39 := hB27.ext hEs37 (by simpa using (OwnR.ne_type hB28 hB27 (by decide)).symm)
  have hB40 := hB29.ext hEs37 (fun x hx hm => by simp at hm; exact (OwnV.neR hB29 hB28 (by decide)) x hx hm.symm)
  have hB42 := hB31.ext hEs37 (fun x hx hm => by simp at hm; exact (OwnV.neR hB31 hB28 (by decide)) x hx hm.symm)
  have hE43 : Ext [] w0 ws37 := hE32.trans hEs37 (fun b hb => by simp at hb; subst hb; exact .inr hng)
  have hG44 : Ext [g] w1 ws37 := hG34.trans hEs37 (by simp)
  have hG45 : Ext [g] wi ws37 := hG35.trans hEs37 (by simp)
  refine seg_end ?_
  refine hK36 _ _ ?_
  have hpresz : wi.heap.size ≤ ws37.heap.size := hG45.size
  refine rgn 11 ?_
  refine sg wide_wide [.p, .p, .p, .p, .ld (.slice qb L.length qc), .p, .run ((Po (bof (.slice qb L.length qc)) (0 + j * 1))), .ld ((Pv r.rb))] [_, Ru Try.prog (vS (Instr.indexAt 33 (.slice qb L.length qc) (I6 (rnd z ↑L.length)))) ((Po (bof (.slice qb L.length qc)) (0 + j * 1))) ws37, ws37.cell? ⟨bof (.slice qb L.length qc), 0 + j * 1, none⟩ = some ((Pv r.rb))] [(0, (Pv fb)), (3, (Pv w.heap.size)), (5, I6 0), (7, .slice kb i kc), (8, .slice (some ⟨g, 0, none⟩) (n + 1) mc), (9, I6 ↑i), (10, I6 (rnd z ↑L.length)), (81, .slice kb i kc), (88, (Pv r.rb))] 8 3 hS (.cons (hB39.cell 3 rfl) (.cons (ix_own (j := j) (hB42) (by kernel_rfl) (by kernel_rfl) hj hjl) (.cons ((hB42).cellAt _ (by simp [hr, Rf.ptr])) .nil))) fun a hS => ?_
  refine eff_new wide_wide (r := 2) (cs := #[(Pv r.rb)]) (T := 29) (v := Value.slice (some ⟨ws37.heap.size, 0, none⟩) 1 1) (d := (some 89)) hS (by kernel_rfl) fun a w46 hw47 hS => ?_
  have hB56 := OwnV.at' hw47 (hB40.alloc _)
  have hB59 := OwnR.at' hw47 (hOs37.alloc _)
  have hX60 : Ext [] ws37 w46 := by rw [hw47]; exact (Ext.refl _ _).alloc _
  have hG61 : Ext [g] w1 w46 := hG44.trans hX60 (by simp)
  have hB62 : Blk w46 (ws37.heap.size) 29 #[(Pv r.rb)] := by rw [hw47]; exact Blk.new _ _ _
  have hs63 : w0.heap.size ≤ ws37.heap.size := hE43.size
  have hE64 : Ext [] w0 w46 := by rw [hw47]; exact hE43.alloc _
  replace hpresz : wi.heap.size ≤ w46.heap.size := Nat.le_trans hpresz (by rw [hw47]; simp)
  refine eff_append2 wide_wide (r := 1) (d := (some 90)) (t := 33) (ty := 33) (e := 29) (size := 1) (bytes := 8) (len := i) (b := ws37.heap.size) (off := 0) (k := 1) (c := 1) (z := #[.pointer none]) (v := Value.slice kb i kc) (xs := (rs.map Rf.ptr)) [(Pv r.rb)] hS (by kernel_rfl) (by kernel_rfl) (by kernel_rfl) (by kernel_rfl) (by kernel_rfl) hB56 (by simp) (fun j u hu => by rw [Nat.zero_add]; exact hB62.cell j (by simpa using hu)) rfl (by omega) (by omega) (by omega) fun ga65 ca65 a wa65 hOa65 hEa65 hFa65 hS => ?_
  have hB70 := hB59.ext hEa65 (fun hm => hB59.v.disj hB56 (by decide) _ (by simp [ob]) hm)
  have hE72 : Ext [] w0 wa65 := hE64.trans hEa65 (fun b hb => .inr (Nat.le_trans hw01 (hkn b (by rw [ob_oa] at hb; exact hb))))
  have hG73 : Ext [g] w1 wa65 := hG61.trans hEa65 (fun b hb => .inr (hkn b (by rw [ob_oa] at hb; exact hb)))
  refine sg wide_wide [.p] [] [(0, (Pv fb)), (3, (Pv w.heap.size)), (5, I6 0), (7, .slice (some ⟨ga65, 0, none⟩) (i + 1) ca65), (8, .slice (some ⟨g, 0, none⟩) (n + 1) mc), (9, I6 ↑i), (10, I6 (rnd z ↑L.length))] 11 0 hS .nil fun a hS => ?_
  refine seg_end ?_
  refine inBlock_normal ?_
  refine hK21 _ _ ?_
  refine rgn 3 ?_
  refine sg wide_wide [.p, .as (I6 (↑i + 1)), .p] [Value.int .i64 (IntKind.i64.wrap (↑i + 1)) = I6 (↑i + 1)] [(0, (Pv fb)), (3, (Pv w.heap.size)), (5, I6 0), (7, .slice (some ⟨ga65, 0, none⟩) (i + 1) ca65), (8, .slice (some ⟨g, 0, none⟩) (n + 1) mc), (9, I6 (↑i + 1)), (10, I6 (rnd z ↑L.length))] 3 0 hS (.cons (as_i64 (by omega)) .nil) fun a hS => ?_
  refine seg_end ?_
  refine ⟨(i + 1, rs ++ [r], (ys.set (0 + i * 1) (Value.pointer (some ⟨r.t.b, 0, none⟩))), some ⟨ga65, 0, none⟩, ca65), ⟨hS.keepTo [0, 3, 5, 7, 8, 9] (by kernel_rfl), by omega, by simp [hrl], ?_, hB70, ?_, by simpa [Rf.ptr] using (hOa65 : OwnR _ _ _ _ _ _ _).v, ?_, hG73, hE72⟩, by simp; omega⟩
  ·intro x hx
   rcases List.mem_append.1 hx with hx | hx
   ·exact hrL x hx
   ·obtain rfl := (by simpa using hx : x = r)
    exact List.mem_of_getElem? hr
  ·rw [show 0 + i * 1 = i by omega, take_set_succ (by omega), hyt, List.map_append]; rfl
  ·intro x hx
   obtain rfl := (by have h := hx; simp [oa] at h; exact h.symm : ga65 = x)
   rcases hFa65 ga65 (by simp) with h | h
   ·exact hkn _ (by rw [ob_oa] at h; exact h)
   ·exact Nat.le_trans hEg.size (Nat.le_trans hpresz h)
 ·
  replace hb20 := of_decide_eq_false hb20
  obtain rfl : n = i := by omega
  have hyl : ys.length = n + 1 := by have := hO.len; omega
  refine wpIn_exit ?_
  refine then_exit ?_
  refine then_exit ?_
  refine inBlock_hit ?_
  refine hK16 _ _ ?_
  refine sq fun K74 hK74 => ?_
  refine region_gh2 (G := World) wide_wide [.q .p, .q .p, .q (.ld (ks)), .q (.run (I6 ↑n)), .q .p, .q .p, .q .p, .q (.ld (.slice pb L.length pc)), .q (.run ((Po (bof (.slice pb L.length pc)) (0 + 0 * 1)))), .q (.ld ((Pv r0.t.b))), .q (.run ((Po g (0 + n * 1)))), .e] [0, 0, 0, 0, 0, 0, 0, 0, 0, 0, 0, 0] [0, 0, 0, 0, 0, 0, 0, 0, 0, 0, 0, 0] [0, 0, 2, 6, 0, 16, 48, 112, 240, 496, 1023, 2047] [11] [(11, 0)] 1 (fun ws75 => ([(0, (Pv fb)), (3, (Pv w.heap.size)), (5, I6 0), (7, .slice kb n kc), (8, .slice (some ⟨g, 0, none⟩) (n + 1) mc), (91, .slice (some ⟨g, 0, none⟩) (n + 1) mc), (92, (Po w.heap.size 8)), (93, ks), (94, I6 ↑n), (95, (Pv fb)), (96, (Pv fb)), (97, (Po fb 2)), (98, .slice pb L.length pc), (99, (Po (bof (.slice pb L.length pc)) (0 + 0 * 1))), (100, (Pv r0.t.b)), (101, (Po g (0 + n * 1)))] : Fm)) (fun ws75 => [wi.drew, ws75]) (wi.drew) (fun e ws75 => hAt [True, (OwnR ws75 47 1 g mc (n + 1) (ys.set (0 + n * 1) (Value.pointer (some ⟨r0.t.b, 0, none⟩)))) ∧ (Ext [g] wi.drew ws75) ∧ True] e) (fun ws75 w' => [(2, [w'.cell? ⟨w.heap.size, 8, none⟩ = some (ks)]), (3, [Ru Try.prog (vS (Builtin.len_ #[41] 3 #[ks])) (I6 ↑n) w']), (7, [w'.cell? ⟨fb, 2, none⟩ = some (.slice pb L.length pc)]), (8, [Ru Try.prog (vS (Instr.indexAt 32 (.slice pb L.length pc) (I6 0))) ((Po (bof (.slice pb L.length pc)) (0 + 0 * 1))) w']), (9, [w'.cell? ⟨bof (.slice pb L.length pc), 0 + 0 * 1, none⟩ = some ((Pv r0.t.b))]), (10, [Ru Try.prog (vS (Instr.indexAt 32 (.slice (some ⟨g, 0, none⟩) (n + 1) mc) (I6 ↑n))) ((Po g (0 + n * 1))) w'])]) wi.drew [0, 3, 5, 7, 8] [] hS (by kernel_rfl) (by kernel_rfl) (by kernel_rfl) (by kernel_rfl) (fun ws75 _ => by kernel_rfl) (by kernel_rfl) (by kernel_rfl) (by kernel_rfl) trivial ?_ (by kernel_rfl) ?_ ?_
  ·rintro e ws75 w' hw hH
   refine (.cons ?_ (.cons ?_ (.cons ?_ (.cons ?_ (.cons ?_ (.cons ?_ .nil))))))
   ·intro h1 h2
    obtain rfl : e = 0 := Nat.le_antisymm h2 h1
    have hwe : wi.drew = w' := (hw.trans (by kernel_rfl)).symm
    subst hwe
    clear hH
    exact (.cons ((hSBi.drew : Blk wi.drew w.heap.size 68 (#[I6 sx, .bool false, I6 lk, I6 ls, I6 ll, I6 lr, I6 kd, I6 nn, ks])).cell 8 rfl) .nil)
   ·intro h1 h2
    obtain rfl : e = 0 := Nat.le_antisymm h2 h1
    have hwe : wi.drew = w' := (hw.trans (by kernel_rfl)).symm
    subst hwe
    clear hH
    exact (.cons (run_len_rd (e := 3) hks (by kernel_rfl)) .nil)
   ·intro h1 h2
    obtain rfl : e = 0 := Nat.le_antisymm h2 h1
    have hwe : wi.drew = w' := (hw.trans (by kernel_rfl)).symm
    subst hwe
    clear hH
    exact (.cons ((hfbi.drew : Blk wi.drew fb 35 (#[(Pv s0), (Pv s1), .slice pb L.length pc, .slice qb L.length qc, .slice (some ⟨g, 0, none⟩) mn mc])).cell 2 rfl) .nil)
   ·intro h1 h2
    obtain rfl : e = 0 := Nat.le_antisymm h2 h1
    have hwe : wi.drew = w' := (hw.trans (by kernel_rfl)).symm
    subst hwe
    clear hH
    exact (.cons (ix_own (j := 0) (hPi) (by kernel_rfl) (by kernel_rfl) rfl (by omega)) .nil)
   ·intro h1 h2
    obtain rfl : e = 0 := Nat.le_antisymm h2 h1
    have hwe : wi.drew = w' := (hw.trans (by kernel_rfl)).symm
    subst hwe
    clear hH
    exact (.cons ((hPi.drew : OwnV wi.drew 47 1 (.slice pb L.length pc) L.length (L.map fun r => r.t.ptr)).cellAt _ (by simp [hr0, Tr.ptr])) .nil)
   ·intro h1 h2
    obtain rfl : e = 0 := Nat.le_antisymm h2 h1
    have hwe : wi.drew = w' := (hw.trans (by kernel_rfl)).symm
    subst hwe
    clear hH
    exact (.cons (ix_slice (E := 47) (size := 1) (j := n) (by kernel_rfl) (by kernel_rfl) rfl (by omega)) .nil)
  ·refine (.cons ?eq76_11 .nil)
   ·rintro ws75 hH
    clear hH
    refine eff_gh (wi.drew) (by kernel_rfl) ?_
    refine upon_store_own (b := g) (off := 0 + n * 1) (u := Value.pointer (some ⟨r0.t.b, 0, none⟩)) (xs := ys) (by kernel_rfl) (hO.drew : OwnR wi.drew 47 1 g mc (n + 1) ys) (by omega) fun ws75 hOs75 hEs75 hsz75 => ?_
    exact ⟨ws75, by kernel_rfl, by kernel_rfl, by kernel_rfl, ⟨hOs75, hEs75, trivial⟩⟩
  rintro ws75 a w77 hS hw78 hH
  obtain ⟨hOs75, hEs75, _⟩ := hH
  replace hw78 : w77 = ws75 := hw78.trans (by kernel_rfl)
  have hB79 := Blk.at' hw78 ((hSBi.drew : Blk wi.drew w.heap.size 68 (#[I6 sx, .bool false, I6 lk, I6 ls, I6 ll, I6 lr, I6 kd, I6 nn, ks])).ext hEs75 (by simpa using (OwnR.ne_type hO hSBi (by decide)).symm))
  have hB80 := Blk.at' hw78 ((hfbi.drew : Blk wi.drew fb 35 (#[(Pv s0), (Pv s1), .slice pb L.length pc, .slice qb L.length qc, .slice (some ⟨g, 0, none⟩) mn mc])).ext hEs75 (by simpa using (OwnR.ne_type hO hfbi (by decide)).symm))
  have hB81 := OwnV.at' hw78 ((hK.drew : OwnV wi.drew 29 1 (.slice kb n kc) n (rs.map Rf.ptr)).ext hEs75 (fun x hx hm => by simp at hm; exact (OwnV.neR hK hO (by decide)) x hx hm.symm))
  have hB84 : OwnR w77 47 1 g mc (n + 1) (ys.set (0 + n * 1) (Value.pointer (some ⟨r0.t.b, 0, none⟩))) := by rw [hw78]; exact hOs75
  have hE85 : Ext [] w0 w77 := by rw [hw78]; exact (hEx.drew).trans hEs75 (fun b hb => by simp at hb; subst hb; exact .inr hng)
  have hX86 : Ext [g] wi w77 := by rw [hw78]; exact ((Ext.refl _ _).drew).trans hEs75 (by simp)
  have hG87 : Ext [g] w1 w77 := hEg.trans hX86 (by simp)
  replace hS := hS.kp [(0, (Pv fb)), (3, (Pv w.heap.size)), (5, I6 0), (7, .slice kb n kc), (8, .slice (some ⟨g, 0, none⟩) (n + 1) mc)]
  refine hK74 _ _ ?_
  refine sq fun K88 hK88 => ?_
  have hO5 := hB84
  have hEg5 := hG87
  have hF5 : FI w0.heap.size m w77 ⟨fb, s0, s1, c0, c1, pb, pc, qb, qc, some ⟨g, 0, none⟩, mn, mc, L⟩ := hFm.buf rfl hEg5 hO5 hmle
  have hF5d : FI w0.heap.size m w77.drew ⟨fb, s0, s1, c0, c1, pb, pc, qb, qc, some ⟨g, 0, none⟩, mn, mc, L⟩ := hF5.ext0 ((Ext.refl [] _).drew)
  have hsk5 : Blk w77 s0 102 #[I6 c0] := hF5.h0
  have hyt5 : ((ys.set (0 + n * 1) (Value.pointer (some ⟨r0.t.b, 0, none⟩)))).take (n * 1) = rs.map (fun r => r.t.ptr) := by
   rw [show 0 + n * 1 = n by omega, show n * 1 = n by omega, List.take_set_of_le (Nat.le_refl _), hyt]
  refine region_gh2 (G := (Option Addr) × Int × World) wide_wide [.q .p, .q .p, .q .p, .q .p, .q .p, .q (.ld ((Pv s0))), .q .p, .q (.ld (I6 kd)), .q .p, .q (.ld (I6 nn)), .q .p, .q .p, .q (.ld (ks)), .q (.run (I6 ↑n)), .q (.run (.slice (some ⟨g, 0, none⟩) n mc)), .e, .q .p, .q .p, .q .p, .q .p, .q .p] [0, 0, 0, 0, 0, 0, 0, 0, 0, 0, 0, 0, 0, 0, 0, 0, 1, 1, 1, 1, 1] [0, 0, 0, 0, 0, 0, 0, 0, 0, 0, 0, 0, 0, 0, 0, 0, 1, 1, 1, 1, 1] [0, 0, 1, 5, 15, 31, 0, 64, 0, 256, 0, 0, 2048, 6144, 15360, 32767, 65535, 131071, 131071, 262143, 1048575] [15] [(15, 0)] 1 (fun ⟨pp, er, wm⟩ => ([(0, (Pv fb)), (3, (Pv w.heap.size)), (5, I6 0), (7, .slice kb n kc), (8, .slice (some ⟨g, 0, none⟩) (n + 1) mc), (103, (Pv fb)), (104, I6 0), (105, (Pv fb)), (106, (Pv fb)), (107, (Pv fb)), (108, (Pv s0)), (109, (Po w.heap.size 6)), (110, I6 kd), (111, (Po w.heap.size 7)), (112, I6 nn), (113, .slice (some ⟨g, 0, none⟩) (n + 1) mc), (114, (Po w.heap.size 8)), (115, ks), (116, I6 ↑n), (117, .slice (some ⟨g, 0, none⟩) n mc), (118, .tuple #[.pointer pp, I6 er]), (102, .tuple #[.pointer pp, I6 er]), (119, .pointer pp), (120, I6 er), (11, .pointer pp), (12, I6 er)] : Fm)) (fun ⟨pp, er, wm⟩ => [w77.drew, wm]) (w77.drew) (fun e ⟨pp, er, wm⟩ => hAt [True, (MkR (w77.drew) s0 c0 kd nn (rs.map fun r => (sOf s0 s1 r.k, r.t)) pp er wm) ∧ True] e) (fun ⟨pp, er, wm⟩ w' => [(5, [w'.cell? ⟨fb, 0, none⟩ = some ((Pv s0))]), (7, [w'.cell? ⟨w.heap.size, 6, none⟩ = some (I6 kd)]), (9, [w'.cell? ⟨w.heap.size, 7, none⟩ = some (I6 nn)]), (12, [w'.cell? ⟨w.heap.size, 8, none⟩ = some (ks)]), (13, [Ru Try.prog (vS (Builtin.len_ #[41] 3 #[ks])) (I6 ↑n) w']), (14, [Ru Try.prog (vS (Instr.sliceAt 32 (.slice (some ⟨g, 0, none⟩) (n + 1) mc) none (some (I6 ↑n)) none)) (.slice (some ⟨g, 0, none⟩) n mc) w'])]) (none, 0, w77.drew) [0, 3, 5, 7, 8] [] hS (by kernel_rfl) (by kernel_rfl) (by kernel_rfl) (by kernel_rfl) (fun ⟨pp, er, wm⟩ _ => by kernel_rfl) (by kernel_rfl) (by kernel_rfl) (by kernel_rfl) trivial ?_ (by kernel_rfl) ?_ ?_
  ·rintro e ⟨pp, er, wm⟩ w' hw hH
   refine (.cons ?_ (.cons ?_ (.cons ?_ (.cons ?_ (.cons ?_ (.cons ?_ .nil))))))
   ·intro h1 h2
    obtain rfl : e = 0 := Nat.le_antisymm h2 h1
    have hwe : w77.drew = w' := (hw.trans (by kernel_rfl)).symm
    subst hwe
    clear hH
    exact (.cons ((hB80.drew : Blk w77.drew fb 35 (#[(Pv s0), (Pv s1), .slice pb L.length pc, .slice qb L.length qc, .slice (some ⟨g, 0, none⟩) mn mc])).cell 0 rfl) .nil)
   ·intro h1 h2
    obtain rfl : e = 0 := Nat.le_antisymm h2 h1
    have hwe : w77.drew = w' := (hw.trans (by kernel_rfl)).symm
    subst hwe
    clear hH
    exact (.cons ((hB79.drew : Blk w77.drew w.heap.size 68 (#[I6 sx, .bool false, I6 lk, I6 ls, I6 ll, I6 lr, I6 kd, I6 nn, ks])).cell 6 rfl) .nil)
   ·intro h1 h2
    obtain rfl : e = 0 := Nat.le_antisymm h2 h1
    have hwe : w77.drew = w' := (hw.trans (by kernel_rfl)).symm
    subst hwe
    clear hH
    exact (.cons ((hB79.drew : Blk w77.drew w.heap.size 68 (#[I6 sx, .bool false, I6 lk, I6 ls, I6 ll, I6 lr, I6 kd, I6 nn, ks])).cell 7 rfl) .nil)
   ·intro h1 h2
    obtain rfl : e = 0 := Nat.le_antisymm h2 h1
    have hwe : w77.drew = w' := (hw.trans (by kernel_rfl)).symm
    subst hwe
    clear hH
    exact (.cons ((hB79.drew : Blk w77.drew w.heap.size 68 (#[I6 sx, .bool false, I6 lk, I6 ls, I6 ll, I6 lr, I6 kd, I6 nn, ks])).cell 8 rfl) .nil)
   ·intro h1 h2
    obtain rfl : e = 0 := Nat.le_antisymm h2 h1
    have hwe : w77.drew = w' := (hw.trans (by kernel_rfl)).symm
    subst hwe
    clear hH
    exact (.cons (run_len_rd (e := 3) hks (by kernel_rfl)) .nil)
   ·intro h1 h2
    obtain rfl : e = 0 := Nat.le_antisymm h2 h1
    have hwe : w77.drew = w' := (hw.trans (by kernel_rfl)).symm
    subst hwe
    clear hH
    exact (.cons (sl_h (E := 47) (size := 1) (h := n) (by kernel_rfl) (by kernel_rfl) rfl (by omega)) .nil)
  ·refine (.cons ?eq89_15 .nil)
   ·rintro ⟨pp, er, wm⟩ hH
    clear hH
    refine eff_gh (w77.drew) (by kernel_rfl) ?_
    refine upon_call (f := 20) (vs := [(Pv s0), I6 kd, I6 nn, .slice (some ⟨g, 0, none⟩) n mc]) (cap := #[]) (d := (some 118)) (by kernel_rfl) Try.call20 #[(Pv s0), I6 kd, I6 nn, .slice (some ⟨g, 0, none⟩) n mc] (by kernel_rfl) (Make_any (ks := (rs.map fun r => (sOf s0 s1 r.k, r.t))) (hsk5.drew : Blk w77.drew s0 102 (#[I6 c0])) (by omega) (by have h := ((hB84.drew : OwnR w77.drew 47 1 g mc (n + 1) (ys.set (0 + n * 1) (Value.pointer (some ⟨r0.t.b, 0, none⟩)))).take (k := n) (by omega)).v; rw [hyt5] at h; rw [List.length_map, List.map_map, hrl]; exact h) (fun q hq => by obtain ⟨r, hr, rfl⟩ := List.mem_map.1 hq; exact ⟨(hF5d.ok.one r (hrL r hr)).ok, _, hF5d.sblk r.k⟩) (by simp; omega)) ?_
    rintro _ wm ⟨pp, er, rfl, hmk⟩
    exact ⟨_, rfl, ⟨(pp, er, wm), by kernel_rfl, by kernel_rfl, by kernel_rfl, ⟨hmk, trivial⟩⟩⟩
  rintro ⟨pp, er, wm⟩ a w90 hS hw91 hH
  obtain ⟨hmk, _⟩ := hH
  replace hw91 : w90 = wm := hw91.trans (by kernel_rfl)
  have hB92 := Blk.at' hw91 ((hB79.drew : Blk w77.drew w.heap.size 68 (#[I6 sx, .bool false, I6 lk, I6 ls, I6 ll, I6 lr, I6 kd, I6 nn, ks])).ext hmk.ext (by simpa using Blk.ne_type (hB79.drew : Blk w77.drew w.heap.size 68 (#[I6 sx, .bool false, I6 lk, I6 ls, I6 ll, I6 lr, I6 kd, I6 nn, ks])) (hsk5.drew : Blk w77.drew s0 102 (#[I6 c0])) (by decide)))
  have hB94 := OwnV.at' hw91 ((hB81.drew : OwnV w77.drew 29 1 (.slice kb n kc) n (rs.map Rf.ptr)).ext hmk.ext (fun x hx hm => by simp at hm; exact OwnV.ne (hB81.drew : OwnV w77.drew 29 1 (.slice kb n kc) n (rs.map Rf.ptr)) (hsk5.drew : Blk w77.drew s0 102 (#[I6 c0])) (by decide) x hx hm.symm))
  have hB95 := OwnR.at' hw91 ((hB84.drew : OwnR w77.drew 47 1 g mc (n + 1) (ys.set (0 + n * 1) (Value.pointer (some ⟨r0.t.b, 0, none⟩)))).ext hmk.ext (by simpa using OwnR.ne_type (hB84.drew : OwnR w77.drew 47 1 g mc (n + 1) (ys.set (0 + n * 1) (Value.pointer (some ⟨r0.t.b, 0, none⟩)))) (hsk5.drew : Blk w77.drew s0 102 (#[I6 c0])) (by decide)))
  have hE96 : Ext [] w0 w90 := by rw [hw91]; exact (hE85.drew).trans hmk.ext (by intro b hb; obtain rfl := (by simpa using hb : b = s0); exact .inr hnsk)
  replace hS := hS.kp [(0, (Pv fb)), (3, (Pv w.heap.size)), (5, I6 0), (7, .slice kb n kc), (8, .slice (some ⟨g, 0, none⟩) (n + 1) mc), (11, .pointer pp), (12, I6 er)]
  refine hK88 _ _ ?_
  refine sq fun K97 hK97 => ?_
  subst hw91
  have hok6 : FOk w90 s0 s1 L := hF5d.ok.ext hmk.ext (by intro x hx; obtain rfl := (by simpa using hx : x = s0); exact hF5.ok.not_foot hsk5 (by decide))
  refine rgn 12 ?_
  refine sg wide_wide [.p, .p, .ld (I6 kd), .p, .ld (I6 nn), .p] [_, _] [(0, (Pv fb)), (3, (Pv w.heap.size)), (5, I6 0), (7, .slice kb n kc), (8, .slice (some ⟨g, 0, none⟩) (n + 1) mc), (11, .pointer pp), (12, I6 er), (122, I6 0), (124, I6 kd), (126, I6 nn), (127, .slice kb n kc)] 6 6 hS (.cons (hB92.cell 6 rfl) (.cons (hB92.cell 7 rfl) .nil)) fun a hS => ?_
  refine eff_call wide_wide (r := 5) (f := 61) (vs := [I6 0, I6 kd, I6 nn, .slice kb n kc]) (cap := #[]) (d := (some 128)) hS (by kernel_rfl) Try.call61 #[I6 0, I6 kd, I6 nn, .slice kb n kc] (by kernel_rfl) (RMake_any hnn (by rw [hrl]; exact hB94) (fun r hr => ⟨(hok6.one r (hrL r hr)).blk, (hok6.tt (hrL r hr)).1, (hok6.tt (hrL r hr)).2.1⟩) (by omega)) ?_
  rintro _ w7 ⟨rp, er2, rfl, hrm⟩
  refine ⟨_, rfl, fun a hS => ?_⟩
  have hE07 := hE96.trans0 hrm.ext
  have hB98 := hB92.ext hrm.ext (by simp)
  have hB100 := hB94.ext hrm.ext (by simp)
  have hB101 := hB95.ext hrm.ext (by simp)
  refine sg wide_wide [.p, .p, .p, .p, .p] [] [(0, (Pv fb)), (3, (Pv w.heap.size)), (5, I6 0), (7, .slice kb n kc), (8, .slice (some ⟨g, 0, none⟩) (n + 1) mc), (11, .pointer pp), (12, I6 er), (13, .pointer rp), (14, I6 er2)] 12 0 hS .nil fun a hS => ?_
  refine seg_end ?_
  refine hK97 _ _ ?_
  refine sq fun K102 hK102 => ?_
  refine sq fun K103 hK103 => ?_
  rcases mk_both (s0 := s0) (s1 := s1) (k := 0) hF.ne (by simp) (fun r hr => (hok6.one r (hrL r hr)).kk) hmk hrm with ⟨hpp, hrp, her2, her, hE56⟩ | ⟨nb, vs, rb, kv, hpp, hrp, her, her2, hnb, hvs, hrbn, hkvn, hok, hskn, hE56, hrb, hkv⟩
  ·
   subst hpp hrp her2
   have hF7 : FI w0.heap.size (m + 1) w7 ⟨fb, s0, s1, c0, c1, pb, pc, qb, qc, some ⟨g, 0, none⟩, mn, mc, L⟩ := ((hF5d.ext0 hE56).ext0 hrm.ext).mono (by omega)
   have hfbh7 : Blk w7 fb 35 #[(Pv s0), (Pv s1), .slice pb L.length pc, .slice qb L.length qc, .slice (some ⟨g, 0, none⟩) mn mc] := hF7.f
   have hPh7 : OwnV w7 47 1 (.slice pb L.length pc) L.length (L.map fun r => r.t.ptr) := hF7.P
   have hgph7 : ∀ x ∈ ob (.slice pb L.length pc), g ≠ x := (fun x hx e => (hF7.dP x (by rw [ob_oa] at hx; exact hx)).2 (by rw [← e]; simp [oa]))
   have hr0t : Blk w7 r0.t.b 106 (r0.t.cs (sOf s0 s1 r0.k)) := (hF7.ok.one r0 (List.mem_of_getElem? hr0)).ok.blk
   refine region_fn2 wide_wide [.q .p, .q .p, .q (.as (.bool false)), .q .p, .q .p, .q .p, .q .p, .q (.as (.bool true)), .q .p, .q .p, .q .p, .q .p, .q .p, .q (.ld (ks)), .q (.run (I6 ↑n)), .q (.run ((Po g (0 + n * 1)))), .q (.ld ((Pv r0.t.b))), .q .p, .q .p, .q .p, .q (.ld (.slice pb L.length pc)), .q (.run ((Po (bof (.slice pb L.length pc)) (0 + 0 * 1)))), .q (.ld ((Pv r0.t.b))), .q (.run (.bool false)), .q .p] [0, 0, 0, 0, 0, 0, 0, 0, 0, 0, 0, 0, 0, 0, 0, 0, 0, 0, 0, 0, 0, 0, 0, 0, 0] [0, 0, 0, 0, 0, 0, 0, 0, 0, 0, 0, 0, 0, 0, 0, 0, 0, 0, 0, 0, 0, 0, 0, 0, 0] [0, 0, 3, 7, 15, 31, 15, 79, 255, 511, 1023, 2047, 2047, 6143, 14335, 32767, 65535, 2047, 133119, 395263, 919551, 1968127, 4065279, 8388607, 16777215] [] 0 ([(0, (Pv fb)), (3, (Pv w.heap.size)), (5, I6 0), (7, .slice kb n kc), (8, .slice (some ⟨g, 0, none⟩) (n + 1) mc), (11, .pointer none), (12, I6 er2), (13, .pointer none), (14, I6 er2), (131, I6 er2), (132, I6 er2), (133, .bool false), (134, .bool false), (135, .pointer none), (136, .bool true), (137, I6 er2), (138, .bool true), (139, .bool false), (140, .bool false), (141, .bool false), (142, .slice (some ⟨g, 0, none⟩) (n + 1) mc), (143, (Po w.heap.size 8)), (144, ks), (145, I6 ↑n), (146, (Po g (0 + n * 1))), (147, (Pv r0.t.b)), (148, (Pv fb)), (149, (Pv fb)), (150, (Po fb 2)), (151, .slice pb L.length pc), (152, (Po (bof (.slice pb L.length pc)) (0 + 0 * 1))), (153, (Pv r0.t.b)), (154, .bool false), (155, .bool false)]) [w7.drew] w7.drew (fun w' => [(2, [Value.bool (((er2 : Int) != er2)) = .bool false]), (7, [Value.bool (((er2 : Int) != 0)) = .bool true]), (13, [w'.cell? ⟨w.heap.size, 8, none⟩ = some (ks)]), (14, [Ru Try.prog (vS (Builtin.len_ #[41] 3 #[ks])) (I6 ↑n) w']), (15, [Ru Try.prog (vS (Instr.indexAt 32 (.slice (some ⟨g, 0, none⟩) (n + 1) mc) (I6 ↑n))) ((Po g (0 + n * 1))) w']), (16, [w'.cell? ⟨g, 0 + n * 1, none⟩ = some ((Pv r0.t.b))]), (20, [w'.cell? ⟨fb, 2, none⟩ = some (.slice pb L.length pc)]), (21, [Ru Try.prog (vS (Instr.indexAt 32 (.slice pb L.length pc) (I6 0))) ((Po (bof (.slice pb L.length pc)) (0 + 0 * 1))) w']), (22, [w'.cell? ⟨bof (.slice pb L.length pc), 0 + 0 * 1, none⟩ = some ((Pv r0.t.b))]), (23, [Ru Try.prog (vS (do eqGuard .neq 47 (.tmp 147) (.tmp 153) ((Pv r0.t.b)) ((Pv r0.t.b)); binOp .neq 47 ((Pv r0.t.b)) ((Pv r0.t.b)))) (.bool false) w'])]) [0, 3, 5, 7, 8, 11, 12, 13, 14] [] hS (by kernel_rfl) (by kernel_rfl) (by kernel_rfl) (by kernel_rfl) (fun _ => by kernel_rfl) (by kernel_rfl) (by kernel_rfl) (by kernel_rfl) ?_ ?_ ?_
   ·intro e w' hw
    refine (.cons ?_ (.cons ?_ (.cons ?_ (.cons ?_ (.cons ?_ (.cons ?_ (.cons ?_ (.cons ?_ (.cons ?_ (.cons ?_ .nil))))))))))
    ·exact fun _ _ => (.cons (as_ne_f (rfl)) .nil)
    ·exact fun _ _ => (.cons (as_ne_t (her)) .nil)
    ·intro h1 h2
     obtain rfl : e = 0 := Nat.le_antisymm h2 h1
     obtain rfl : w' = w7.drew := hw.trans (by kernel_rfl)
     exact (.cons ((hB98.drew : Blk w7.drew w.heap.size 68 (#[I6 sx, .bool false, I6 lk, I6 ls, I6 ll, I6 lr, I6 kd, I6 nn, ks])).cell 8 rfl) .nil)
    ·exact fun _ _ => (.cons (run_len_rd (e := 3) hks (by kernel_rfl)) .nil)
    ·exact fun _ _ => (.cons (ix_slice (E := 47) (size := 1) (j := n) (by kernel_rfl) (by kernel_rfl) rfl (by omega)) .nil)
    ·intro h1 h2
     obtain rfl : e = 0 := Nat.le_antisymm h2 h1
     obtain rfl : w' = w7.drew := hw.trans (by kernel_rfl)
     exact (.cons ((hB101.drew : OwnR w7.drew 47 1 g mc (n + 1) (ys.set (0 + n * 1) (Value.pointer (some ⟨r0.t.b, 0, none⟩)))).cellAt _ (by simp [hyl])) .nil)
    ·intro h1 h2
     obtain rfl : e = 0 := Nat.le_antisymm h2 h1
     obtain rfl : w' = w7.drew := hw.trans (by kernel_rfl)
     exact (.cons ((hfbh7.drew : Blk w7.drew fb 35 (#[(Pv s0), (Pv s1), .slice pb L.length pc, .slice qb L.length qc, .slice (some ⟨g, 0, none⟩) mn mc])).cell 2 rfl) .nil)
    ·exact fun _ _ => (.cons (ix_own (j := 0) (hPh7) (by kernel_rfl) (by kernel_rfl) rfl (by omega)) .nil)
    ·intro h1 h2
     obtain rfl : e = 0 := Nat.le_antisymm h2 h1
     obtain rfl : w' = w7.drew := hw.trans (by kernel_rfl)
     exact (.cons ((hPh7.drew : OwnV w7.drew 47 1 (.slice pb L.length pc) L.length (L.map fun r => r.t.ptr)).cellAt _ (by simp [hr0, Tr.ptr])) .nil)
    ·intro h1 h2
     obtain rfl : e = 0 := Nat.le_antisymm h2 h1
     obtain rfl : w' = w7.drew := hw.trans (by kernel_rfl)
     exact (.cons (bin_ptr_neq (E := 106) (by kernel_rfl) ⟨12, by kernel_rfl⟩ (hr0t.drew) (hr0t.drew) (by simp)) .nil)
   ·refine .nil
   rintro a w105 hS hw106
   replace hw106 : w105 = w7.drew := hw106.trans (by kernel_rfl)
   have hB109 := OwnV.at' hw106 (hB100.drew)
   have hB110 := OwnR.at' hw106 (hB101.drew)
   have hE113 : Ext [] w0 w105 := by rw [hw106]; exact hE07.drew
   replace hS := hS.kp [(0, (Pv fb)), (3, (Pv w.heap.size)), (5, I6 0), (7, .slice kb n kc), (8, .slice (some ⟨g, 0, none⟩) (n + 1) mc), (11, .pointer none), (12, I6 er2), (13, .pointer none), (14, I6 er2), (155, .bool false)]
   refine hK103 _ _ ?_
   refine cond_f hS rfl ?_
   refine wpIn_skip ?_
   refine hK102 _ _ ?_
   refine sq fun K114 hK114 => ?_
   refine sq fun K115 hK115 => ?_
   refine rgn 1 ?_
   refine sg wide_wide [.p] [] [(0, (Pv fb)), (3, (Pv w.heap.size)), (5, I6 0), (7, .slice kb n kc), (8, .slice (some ⟨g, 0, none⟩) (n + 1) mc), (11, .pointer none), (12, I6 er2), (13, .pointer none), (14, I6 er2), (155, .bool false), (15, I6 0)] 1 0 hS .nil fun a hS => ?_
   refine seg_end ?_
   refine hK115 _ _ ?_
   refine wpIn_block ?_
   have hO7 := hB110
   have hK7 := hB109
   have hE07' := hE113
   have hE78 : Ext [] w7 w105 := by rw [hw106]; exact (Ext.refl [] w7).drew
   have hF7' : FI w0.heap.size (m + 1) w105 ⟨fb, s0, s1, c0, c1, pb, pc, qb, qc, some ⟨g, 0, none⟩, mn, mc, L⟩ := hF7.ext0 hE78
   refine loop_ghost (fun ((i, ys2) : Nat × List Value) a' w' => St 189 [] [(0, (Pv fb)), (7, .slice kb n kc), (8, .slice (some ⟨g, 0, none⟩) (n + 1) mc), (11, .pointer none), (13, .pointer none), (15, I6 ↑i)] a' ∧ i ≤ n ∧ OwnR w' 47 1 g mc (n + 1) ys2 ∧ (∀ j, i ≤ j → j < n → ys2[j]? = (rs.map fun r => r.t.ptr)[j]?) ∧ Ext [g] w105 w' ∧ Ext [] w0 w') (fun ((i, ys2) : Nat × List Value) => n - i) (0, (ys.set (0 + n * 1) (Value.pointer (some ⟨r0.t.b, 0, none⟩)))) ⟨hS.keepTo [0, 7, 8, 11, 13, 15] (by kernel_rfl), Nat.zero_le _, hO7, (fun j _ hj => by rw [← hyt, List.getElem?_take, if_pos (by omega), List.getElem?_set_ne (by omega)]), Ext.refl _ _, hE07'⟩ ?_
   rintro ⟨i, ys2⟩ a wi ⟨hS, hil, hO, hsame, hEg, hEx⟩
   have hF8 : FI w0.heap.size (m + 1) wi ⟨fb, s0, s1, c0, c1, pb, pc, qb, qc, some ⟨g, 0, none⟩, mn, mc, L⟩ := hF7'.buf rfl hEg hO hmle
   have hK8 := hK7.ext hEg (fun x hx hm => by simp at hm; exact OwnV.neR hK7 hO7 (by decide) x hx hm.symm)
   have hfbh8 : Blk wi fb 35 #[(Pv s0), (Pv s1), .slice pb L.length pc, .slice qb L.length qc, .slice (some ⟨g, 0, none⟩) mn mc] := hF8.f
   have hPh8 : OwnV wi 47 1 (.slice pb L.length pc) L.length (L.map fun r => r.t.ptr) := hF8.P
   have hgph8 : ∀ x ∈ ob (.slice pb L.length pc), g ≠ x := (fun x hx e => (hF8.dP x (by rw [ob_oa] at hx; exact hx)).2 (by rw [← e]; simp [oa]))
   refine sq fun K116 hK116 => ?_
   refine sq fun K117 hK117 => ?_
   refine rgn 4 ?_
   refine sg wide_wide [.p, .p, .p, .p] [] [(0, (Pv fb)), (7, .slice kb n kc), (8, .slice (some ⟨g, 0, none⟩) (n + 1) mc), (11, .pointer none), (13, .pointer none), (15, I6 ↑i), (159, .bool (decide ((↑i : Int) < ↑n)))] 4 0 hS .nil fun a hS => ?_
   refine seg_end ?_
   refine hK117 _ _ ?_
   refine cond_b hS rfl (fun hb118 => ?_) (fun hb118 => ?_)
   ·
    replace hb118 := of_decide_eq_true hb118
    have hi : i < n := by omega
    obtain ⟨q, hq⟩ : ∃ q, rs[i]? = some q := ⟨_, List.getElem?_eq_getElem (by omega)⟩
    have hqm : q ∈ L := hrL q (List.mem_of_getElem? hq)
    have hq1 := hF8.ok.one q hqm
    have hqi := hq1.ki
    have hqL := hF8.ok.at hqm
    have hyl2 : ys2.length = n + 1 := by have := hO.len; omega
    have hmine : ys2[0 + i * 1]? = some ((Pv q.t.b)) := by
     rw [show 0 + i * 1 = i by omega, hsame i (Nat.le_refl _) hi]; simp [hq, Tr.ptr]
    have hqrow := hq1.row
    have hqB : Blk wi q.rb 40 #[I6 q.k, I6 ↑q.i, I6 q.t.kd, I6 q.t.nn, I6 q.t.lk, I6 q.t.ls, I6 q.t.ll, I6 q.t.lr, q.kv, I6 q.t.tt] := hq1.blk
    have hqT : Blk wi q.t.b 106 (q.t.cs (sOf s0 s1 q.k)) := hq1.ok.blk
    refine wpIn_skip ?_
    refine hK116 _ _ ?_
    refine sq fun K119 hK119 => ?_
    refine wpIn_block ?_
    refine sq fun K120 hK120 => ?_
    refine sq fun K121 hK121 => ?_
    refine region_fn2 wide_wide [.q .p, .q .p, .q (.run ((Po g (0 + i * 1)))), .q (.ld ((Pv q.t.b))), .q .p, .q .p, .q .p, .q (.ld (.slice pb L.length pc)), .q .p, .q .p, .q (.run ((Po (bof (.slice kb n kc)) (0 + i * 1)))), .q (.ld ((Pv q.rb))), .q .p, .q .p, .q (.ld (I6 ↑q.i)), .q (.run ((Po (bof (.slice pb L.length pc)) (0 + q.i * 1)))), .q (.ld ((Pv q.t.b))), .q (.run (.bool false))] [0, 0, 0, 0, 0, 0, 0, 0, 0, 0, 0, 0, 0, 0, 0, 0, 0, 0] [0, 0, 0, 0, 0, 0, 0, 0, 0, 0, 0, 0, 0, 0, 0, 0, 0, 0] [0, 0, 3, 7, 0, 16, 48, 112, 0, 0, 768, 1792, 3840, 7936, 16128, 32752, 65520, 131071] [] 0 ([(0, (Pv fb)), (7, .slice kb n kc), (8, .slice (some ⟨g, 0, none⟩) (n + 1) mc), (11, .pointer none), (13, .pointer none), (15, I6 ↑i), (162, .slice (some ⟨g, 0, none⟩) (n + 1) mc), (163, I6 ↑i), (164, (Po g (0 + i * 1))), (165, (Pv q.t.b)), (166, (Pv fb)), (167, (Pv fb)), (168, (Po fb 2)), (169, .slice pb L.length pc), (170, .slice kb n kc), (171, I6 ↑i), (172, (Po (bof (.slice kb n kc)) (0 + i * 1))), (173, (Pv q.rb)), (174, (Pv q.rb)), (175, (Po q.rb 1)), (176, I6 ↑q.i), (177, (Po (bof (.slice pb L.length pc)) (0 + q.i * 1))), (178, (Pv q.t.b)), (179, .bool false)]) [wi.drew] wi.drew (fun w' => [(2, [Ru Try.prog (vS (Instr.indexAt 32 (.slice (some ⟨g, 0, none⟩) (n + 1) mc) (I6 ↑i))) ((Po g (0 + i * 1))) w']), (3, [w'.cell? ⟨g, 0 + i * 1, none⟩ = some ((Pv q.t.b))]), (7, [w'.cell? ⟨fb, 2, none⟩ = some (.slice pb L.length pc)]), (10, [Ru Try.prog (vS (Instr.indexAt 33 (.slice kb n kc) (I6 ↑i))) ((Po (bof (.slice kb n kc)) (0 + i * 1))) w']), (11, [w'.cell? ⟨bof (.slice kb n kc), 0 + i * 1, none⟩ = some ((Pv q.rb))]), (14, [w'.cell? ⟨q.rb, 1, none⟩ = some (I6 ↑q.i)]), (15, [Ru Try.prog (vS (Instr.indexAt 32 (.slice pb L.length pc) (I6 ↑q.i))) ((Po (bof (.slice pb L.length pc)) (0 + q.i * 1))) w']), (16, [w'.cell? ⟨bof (.slice pb L.length pc), 0 + q.i * 1, none⟩ = some ((Pv q.t.b))]), (17, [Ru Try.prog (vS (do eqGuard .neq 47 (.tmp 165) (.tmp 178) ((Pv q.t.b)) ((Pv q.t.b)); binOp .neq 47 ((Pv q.t.b)) ((Pv q.t.b)))) (.bool false) w'])]) [0, 7, 8, 11, 13, 15] [] hS (by kernel_rfl) (by kernel_rfl) (by kernel_rfl) (by kernel_rfl) (fun _ => by kernel_rfl) (by kernel_rfl) (by kernel_rfl) (by kernel_rfl) ?_ ?_ ?_
    ·intro e w' hw
     refine (.cons ?_ (.cons ?_ (.cons ?_ (.cons ?_ (.cons ?_ (.cons ?_ (.cons ?_ (.cons ?_ (.cons ?_ .nil)))))))))
     ·exact fun _ _ => (.cons (ix_slice (E := 47) (size := 1) (j := i) (by kernel_rfl) (by kernel_rfl) rfl (by omega)) .nil)
     ·intro h1 h2
      obtain rfl : e = 0 := Nat.le_antisymm h2 h1
      obtain rfl : w' = wi.drew := hw.trans (by kernel_rfl)
      exact (.cons ((hO.drew : OwnR wi.drew 47 1 g mc (n + 1) ys2).cellAt _ hmine) .nil)
     ·intro h1 h2
      obtain rfl : e = 0 := Nat.le_antisymm h2 h1
      obtain rfl : w' = wi.drew := hw.trans (by kernel_rfl)
      exact (.cons ((hfbh8.drew : Blk wi.drew fb 35 (#[(Pv s0), (Pv s1), .slice pb L.length pc, .slice qb L.length qc, .slice (some ⟨g, 0, none⟩) mn mc])).cell 2 rfl) .nil)
     ·exact fun _ _ => (.cons (ix_own (j := i) (hK8) (by kernel_rfl) (by kernel_rfl) rfl (by omega)) .nil)
     ·intro h1 h2
      obtain rfl : e = 0 := Nat.le_antisymm h2 h1
      obtain rfl : w' = wi.drew := hw.trans (by kernel_rfl)
      exact (.cons ((hK8.drew : OwnV wi.drew 29 1 (.slice kb n kc) n (rs.map Rf.ptr)).cellAt _ (by simp [hq, Rf.ptr])) .nil)
     ·intro h1 h2
      obtain rfl : e = 0 := Nat.le_antisymm h2 h1
      obtain rfl : w' = wi.drew := hw.trans (by kernel_rfl)
      exact (.cons ((hqB.drew : Blk wi.drew q.rb 40 (#[I6 q.k, I6 ↑q.i, I6 q.t.kd, I6 q.t.nn, I6 q.t.lk, I6 q.t.ls, I6 q.t.ll, I6 q.t.lr, q.kv, I6 q.t.tt])).cell 1 rfl) .nil)
     ·exact fun _ _ => (.cons (ix_own (j := q.i) (hPh8) (by kernel_rfl) (by kernel_rfl) rfl hqi) .nil)
     ·intro h1 h2
      obtain rfl : e = 0 := Nat.le_antisymm h2 h1
      obtain rfl : w' = wi.drew := hw.trans (by kernel_rfl)
      exact (.cons ((hPh8.drew : OwnV wi.drew 47 1 (.slice pb L.length pc) L.length (L.map fun r => r.t.ptr)).cellAt _ (by simp [hqL, Tr.ptr])) .nil)
     ·intro h1 h2
      obtain rfl : e = 0 := Nat.le_antisymm h2 h1
      obtain rfl : w' = wi.drew := hw.trans (by kernel_rfl)
      exact (.cons (bin_ptr_neq (E := 106) (by kernel_rfl) ⟨12, by kernel_rfl⟩ (hqT.drew) (hqT.drew) (by simp)) .nil)
    ·refine .nil
    rintro a w123 hS hw124
    replace hw124 : w123 = wi.drew := hw124.trans (by kernel_rfl)
    have hB125 := OwnR.at' hw124 (hO.drew)
    have hE131 : Ext [] w0 w123 := by rw [hw124]; exact hEx.drew
    have hX132 : Ext [] wi w123 := by rw [hw124]; exact (Ext.refl _ _).drew
    have hG133 : Ext [g] w105 w123 := hEg.trans hX132 (by simp)
    replace hS := hS.kp [(0, (Pv fb)), (7, .slice kb n kc), (8, .slice (some ⟨g, 0, none⟩) (n + 1) mc), (11, .pointer none), (13, .pointer none), (15, I6 ↑i), (179, .bool false)]
    refine hK121 _ _ ?_
    refine cond_f hS rfl ?_
    refine wpIn_skip ?_
    refine hK120 _ _ ?_
    refine rgn 4 ?_
    refine sg wide_wide [.p, .p, .run ((Po g (0 + i * 1)))] [Ru Try.prog (vS (Instr.indexAt 32 (.slice (some ⟨g, 0, none⟩) (n + 1) mc) (I6 ↑i))) ((Po g (0 + i * 1))) w123] [(0, (Pv fb)), (7, .slice kb n kc), (8, .slice (some ⟨g, 0, none⟩) (n + 1) mc), (11, .pointer none), (13, .pointer none), (15, I6 ↑i), (179, .bool false), (182, (Po g (0 + i * 1)))] 3 1 hS (.cons (ix_slice (E := 47) (size := 1) (j := i) (by kernel_rfl) (by kernel_rfl) rfl (by omega)) .nil) fun a hS => ?_
    refine eff_store_own wide_wide (r := 0) (b := g) (off := 0 + i * 1) (u := Value.pointer none) (xs := ys2) hS (by kernel_rfl) hB125 (by omega) fun a ws134 hOs134 hEs134 hsz134 hS => ?_
    have hE140 : Ext [] w0 ws134 := hE131.trans hEs134 (fun b hb => by simp at hb; subst hb; exact .inr hng)
    have hG141 : Ext [g] w105 ws134 := hG133.trans hEs134 (by simp)
    refine seg_end ?_
    refine inBlock_normal ?_
    refine hK119 _ _ ?_
    refine rgn 3 ?_
    refine sg wide_wide [.p, .as (I6 (↑i + 1)), .p] [Value.int .i64 (IntKind.i64.wrap (↑i + 1)) = I6 (↑i + 1)] [(0, (Pv fb)), (7, .slice kb n kc), (8, .slice (some ⟨g, 0, none⟩) (n + 1) mc), (11, .pointer none), (13, .pointer none), (15, I6 (↑i + 1)), (179, .bool false)] 3 0 hS (.cons (as_i64 (by omega)) .nil) fun a hS => ?_
    refine seg_end ?_
    refine ⟨(i + 1, (ys2.set (0 + i * 1) (Value.pointer none))), ⟨hS.keepTo [0, 7, 8, 11, 13, 15] (by kernel_rfl), by omega, hOs134, ?_, hG141, hE140⟩, by simp; omega⟩
    intro j hj1 hj2
    rw [show 0 + i * 1 = i by omega, List.getElem?_set_ne (by omega)]
    exact hsame j (by omega) hj2
   ·
    replace hb118 := of_decide_eq_false hb118
    refine wpIn_exit ?_
    refine then_exit ?_
    refine then_exit ?_
    refine inBlock_hit ?_
    refine hK114 _ _ ?_
    refine sq fun K142 hK142 => ?_
    refine sq fun K143 hK143 => ?_
    refine rgn 2 ?_
    refine sg wide_wide [.p, .p] [] [(0, (Pv fb)), (7, .slice kb n kc), (8, .slice (some ⟨g, 0, none⟩) (n + 1) mc), (11, .pointer none), (13, .pointer none), (184, .bool false)] 2 0 hS .nil fun a hS => ?_
    refine seg_end ?_
    refine hK143 _ _ ?_
    refine cond_f hS rfl ?_
    refine wpIn_skip ?_
    refine hK142 _ _ ?_
    refine sq fun K144 hK144 => ?_
    refine rgn 1 ?_
    refine sg wide_wide [.p] [] [(0, (Pv fb)), (7, .slice kb n kc), (8, .slice (some ⟨g, 0, none⟩) (n + 1) mc), (11, .pointer none), (13, .pointer none), (184, .bool false), (4, .bool true)] 1 0 hS .nil fun a hS => ?_
    refine seg_end ?_
    refine hK144 _ _ ?_
    refine wpIn_ret ?_
    refine ret1 hS Try.results34 rfl ?_
    exact ⟨_, rfl, hF8, ⟨rfl, rfl, rfl⟩, .inl rfl, hEx⟩
  ·
   subst hpp hrp her her2
   have hF7 : FI w0.heap.size (m + 1) w7 ⟨fb, s0, s1, c0 + 1, c1, pb, pc, qb, qc, some ⟨g, 0, none⟩, mn, mc, L⟩ := (FI.bump hF5d (k := 0) hskn hE56).ext0 hrm.ext
   have hfbh7 : Blk w7 fb 35 #[(Pv s0), (Pv s1), .slice pb L.length pc, .slice qb L.length qc, .slice (some ⟨g, 0, none⟩) mn mc] := hF7.f
   have hPh7 : OwnV w7 47 1 (.slice pb L.length pc) L.length (L.map fun r => r.t.ptr) := hF7.P
   have hgph7 : ∀ x ∈ ob (.slice pb L.length pc), g ≠ x := (fun x hx e => (hF7.dP x (by rw [ob_oa] at hx; exact hx)).2 (by rw [← e]; simp [oa]))
   have hr0t : Blk w7 r0.t.b 106 (r0.t.cs (sOf s0 s1 r0.k)) := (hF7.ok.one r0 (List.mem_of_getElem? hr0)).ok.blk
   refine region_fn2 wide_wide [.q .p, .q .p, .q .p, .q .p, .q .p, .q .p, .q .p, .q .p, .q .p, .q .p, .q .p, .q .p, .q .p, .q (.ld (ks)), .q (.run (I6 ↑n)), .q (.run ((Po g (0 + n * 1)))), .q (.ld ((Pv r0.t.b))), .q .p, .q .p, .q .p, .q (.ld (.slice pb L.length pc)), .q (.run ((Po (bof (.slice pb L.length pc)) (0 + 0 * 1)))), .q (.ld ((Pv r0.t.b))), .q (.run (.bool false)), .q .p] [0, 0, 0, 0, 0, 0, 0, 0, 0, 0, 0, 0, 0, 0, 0, 0, 0, 0, 0, 0, 0, 0, 0, 0, 0] [0, 0, 0, 0, 0, 0, 0, 0, 0, 0, 0, 0, 0, 0, 0, 0, 0, 0, 0, 0, 0, 0, 0, 0, 0] [0, 0, 3, 7, 15, 31, 15, 79, 255, 511, 1023, 2047, 2047, 6143, 14335, 32767, 65535, 2047, 133119, 395263, 919551, 1968127, 4065279, 8388607, 16777215] [] 0 ([(0, (Pv fb)), (3, (Pv w.heap.size)), (5, I6 0), (7, .slice kb n kc), (8, .slice (some ⟨g, 0, none⟩) (n + 1) mc), (11, (Pv nb)), (12, I6 0), (13, (Pv rb)), (14, I6 0), (131, I6 0), (132, I6 0), (133, .bool false), (134, .bool false), (135, (Pv nb)), (136, .bool false), (137, I6 0), (138, .bool false), (139, .bool false), (140, .bool false), (141, .bool false), (142, .slice (some ⟨g, 0, none⟩) (n + 1) mc), (143, (Po w.heap.size 8)), (144, ks), (145, I6 ↑n), (146, (Po g (0 + n * 1))), (147, (Pv r0.t.b)), (148, (Pv fb)), (149, (Pv fb)), (150, (Po fb 2)), (151, .slice pb L.length pc), (152, (Po (bof (.slice pb L.length pc)) (0 + 0 * 1))), (153, (Pv r0.t.b)), (154, .bool false), (155, .bool false)]) [w7.drew] w7.drew (fun w' => [(13, [w'.cell? ⟨w.heap.size, 8, none⟩ = some (ks)]), (14, [Ru Try.prog (vS (Builtin.len_ #[41] 3 #[ks])) (I6 ↑n) w']), (15, [Ru Try.prog (vS (Instr.indexAt 32 (.slice (some ⟨g, 0, none⟩) (n + 1) mc) (I6 ↑n))) ((Po g (0 + n * 1))) w']), (16, [w'.cell? ⟨g, 0 + n * 1, none⟩ = some ((Pv r0.t.b))]), (20, [w'.cell? ⟨fb, 2, none⟩ = some (.slice pb L.length pc)]), (21, [Ru Try.prog (vS (Instr.indexAt 32 (.slice pb L.length pc) (I6 0))) ((Po (bof (.slice pb L.length pc)) (0 + 0 * 1))) w']), (22, [w'.cell? ⟨bof (.slice pb L.length pc), 0 + 0 * 1, none⟩ = some ((Pv r0.t.b))]), (23, [Ru Try.prog (vS (do eqGuard .neq 47 (.tmp 147) (.tmp 153) ((Pv r0.t.b)) ((Pv r0.t.b)); binOp .neq 47 ((Pv r0.t.b)) ((Pv r0.t.b)))) (.bool false) w'])]) [0, 3, 5, 7, 8, 11, 12, 13, 14] [] hS (by kernel_rfl) (by kernel_rfl) (by kernel_rfl) (by kernel_rfl) (fun _ => by kernel_rfl) (by kernel_rfl) (by kernel_rfl) (by kernel_rfl) ?_ ?_ ?_
   ·intro e w' hw
    refine (.cons ?_ (.cons ?_ (.cons ?_ (.cons ?_ (.cons ?_ (.cons ?_ (.cons ?_ (.cons ?_ .nil))))))))
    ·intro h1 h2
     obtain rfl : e = 0 := Nat.le_antisymm h2 h1
     obtain rfl : w' = w7.drew := hw.trans (by kernel_rfl)
     exact (.cons ((hB98.drew : Blk w7.drew w.heap.size 68 (#[I6 sx, .bool false, I6 lk, I6 ls, I6 ll, I6 lr, I6 kd, I6 nn, ks])).cell 8 rfl) .nil)
    ·exact fun _ _ => (.cons (run_len_rd (e := 3) hks (by kernel_rfl)) .nil)
    ·exact fun _ _ => (.cons (ix_slice (E := 47) (size := 1) (j := n) (by kernel_rfl) (by kernel_rfl) rfl (by omega)) .nil)
    ·intro h1 h2
     obtain rfl : e = 0 := Nat.le_antisymm h2 h1
     obtain rfl : w' = w7.drew := hw.trans (by kernel_rfl)
     exact (.cons ((hB101.drew : OwnR w7.drew 47 1 g mc (n + 1) (ys.set (0 + n * 1) (Value.pointer (some ⟨r0.t.b, 0, none⟩)))).cellAt _ (by simp [hyl])) .nil)
    ·intro h1 h2
     obtain rfl : e = 0 := Nat.le_antisymm h2 h1
     obtain rfl : w' = w7.drew := hw.trans (by kernel_rfl)
     exact (.cons ((hfbh7.drew : Blk w7.drew fb 35 (#[(Pv s0), (Pv s1), .slice pb L.length pc, .slice qb L.length qc, .slice (some ⟨g, 0, none⟩) mn mc])).cell 2 rfl) .nil)
    ·exact fun _ _ => (.cons (ix_own (j := 0) (hPh7) (by kernel_rfl) (by kernel_rfl) rfl (by omega)) .nil)
    ·intro h1 h2
     obtain rfl : e = 0 := Nat.le_antisymm h2 h1
     obtain rfl : w' = w7.drew := hw.trans (by kernel_rfl)
     exact (.cons ((hPh7.drew : OwnV w7.drew 47 1 (.slice pb L.length pc) L.length (L.map fun r => r.t.ptr)).cellAt _ (by simp [hr0, Tr.ptr])) .nil)
    ·intro h1 h2
     obtain rfl : e = 0 := Nat.le_antisymm h2 h1
     obtain rfl : w' = w7.drew := hw.trans (by kernel_rfl)
     exact (.cons (bin_ptr_neq (E := 106) (by kernel_rfl) ⟨12, by kernel_rfl⟩ (hr0t.drew) (hr0t.drew) (by simp)) .nil)
   ·refine .nil
   rintro a w146 hS hw147
   replace hw147 : w146 = w7.drew := hw147.trans (by kernel_rfl)
   have hB150 := OwnV.at' hw147 (hB100.drew)
   have hB151 := OwnR.at' hw147 (hB101.drew)
   have hE154 : Ext [] w0 w146 := by rw [hw147]; exact hE07.drew
   replace hS := hS.kp [(0, (Pv fb)), (3, (Pv w.heap.size)), (5, I6 0), (7, .slice kb n kc), (8, .slice (some ⟨g, 0, none⟩) (n + 1) mc), (11, (Pv nb)), (12, I6 0), (13, (Pv rb)), (14, I6 0), (155, .bool false)]
   refine hK103 _ _ ?_
   refine cond_f hS rfl ?_
   refine wpIn_skip ?_
   refine hK102 _ _ ?_
   refine sq fun K155 hK155 => ?_
   refine sq fun K156 hK156 => ?_
   refine rgn 1 ?_
   refine sg wide_wide [.p] [] [(0, (Pv fb)), (3, (Pv w.heap.size)), (5, I6 0), (7, .slice kb n kc), (8, .slice (some ⟨g, 0, none⟩) (n + 1) mc), (11, (Pv nb)), (12, I6 0), (13, (Pv rb)), (14, I6 0), (155, .bool false), (15, I6 0)] 1 0 hS .nil fun a hS => ?_
   refine seg_end ?_
   refine hK156 _ _ ?_
   refine wpIn_block ?_
   have hO7 := hB151
   have hK7 := hB150
   have hE07' := hE154
   have hE78 : Ext [] w7 w146 := by rw [hw147]; exact (Ext.refl [] w7).drew
   have hF7' : FI w0.heap.size (m + 1) w146 ⟨fb, s0, s1, c0 + 1, c1, pb, pc, qb, qc, some ⟨g, 0, none⟩, mn, mc, L⟩ := hF7.ext0 hE78
   refine loop_ghost (fun ((i, ys2) : Nat × List Value) a' w' => St 189 [] [(0, (Pv fb)), (7, .slice kb n kc), (8, .slice (some ⟨g, 0, none⟩) (n + 1) mc), (11, (Pv nb)), (13, (Pv rb)), (15, I6 ↑i)] a' ∧ i ≤ n ∧ OwnR w' 47 1 g mc (n + 1) ys2 ∧ (∀ j, i ≤ j → j < n → ys2[j]? = (rs.map fun r => r.t.ptr)[j]?) ∧ Ext [g] w146 w' ∧ Ext [] w0 w') (fun ((i, ys2) : Nat × List Value) => n - i) (0, (ys.set (0 + n * 1) (Value.pointer (some ⟨r0.t.b, 0, none⟩)))) ⟨hS.keepTo [0, 7, 8, 11, 13, 15] (by kernel_rfl), Nat.zero_le _, hO7, (fun j _ hj => by rw [← hyt, List.getElem?_take, if_pos (by omega), List.getElem?_set_ne (by omega)]), Ext.refl _ _, hE07'⟩ ?_
   rintro ⟨i, ys2⟩ a wi ⟨hS, hil, hO, hsame, hEg, hEx⟩
   have hF8 : FI w0.heap.size (m + 1) wi ⟨fb, s0, s1, c0 + 1, c1, pb, pc, qb, qc, some ⟨g, 0, none⟩, mn, mc, L⟩ := hF7'.buf rfl hEg hO hmle
   have hK8 := hK7.ext hEg (fun x hx hm => by simp at hm; exact OwnV.neR hK7 hO7 (by decide) x hx hm.symm)
   have hfbh8 : Blk wi fb 35 #[(Pv s0), (Pv s1), .slice pb L.length pc, .slice qb L.length qc, .slice (some ⟨g, 0, none⟩) mn mc] := hF8.f
   have hPh8 : OwnV wi 47 1 (.slice pb L.length pc) L.length (L.map fun r => r.t.ptr) := hF8.P
   have hgph8 : ∀ x ∈ ob (.slice pb L.length pc), g ≠ x := (fun x hx e => (hF8.dP x (by rw [ob_oa] at hx; exact hx)).2 (by rw [← e]; simp [oa]))
   refine sq fun K157 hK157 => ?_
   refine sq fun K158 hK158 => ?_
   refine rgn 4 ?_
   refine sg wide_wide [.p, .p, .p, .p] [] [(0, (Pv fb)), (7, .slice kb n kc), (8, .slice (some ⟨g, 0, none⟩) (n + 1) mc), (11, (Pv nb)), (13, (Pv rb)), (15, I6 ↑i), (159, .bool (decide ((↑i : Int) < ↑n)))] 4 0 hS .nil fun a hS => ?_
   refine seg_end ?_
   refine hK158 _ _ ?_
   refine cond_b hS rfl (fun hb159 => ?_) (fun hb159 => ?_)
   ·
    replace hb159 := of_decide_eq_true hb159
    have hi : i < n := by omega
    obtain ⟨q, hq⟩ : ∃ q, rs[i]? = some q := ⟨_, List.getElem?_eq_getElem (by omega)⟩
    have hqm : q ∈ L := hrL q (List.mem_of_getElem? hq)
    have hq1 := hF8.ok.one q hqm
    have hqi := hq1.ki
    have hqL := hF8.ok.at hqm
    have hyl2 : ys2.length = n + 1 := by have := hO.len; omega
    have hmine : ys2[0 + i * 1]? = some ((Pv q.t.b)) := by
     rw [show 0 + i * 1 = i by omega, hsame i (Nat.le_refl _) hi]; simp [hq, Tr.ptr]
    have hqrow := hq1.row
    have hqB : Blk wi q.rb 40 #[I6 q.k, I6 ↑q.i, I6 q.t.kd, I6 q.t.nn, I6 q.t.lk, I6 q.t.ls, I6 q.t.ll, I6 q.t.lr, q.kv, I6 q.t.tt] := hq1.blk
    have hqT : Blk wi q.t.b 106 (q.t.cs (sOf s0 s1 q.k)) := hq1.ok.blk
    refine wpIn_skip ?_
    refine hK157 _ _ ?_
    refine sq fun K160 hK160 => ?_
    refine wpIn_block ?_
    refine sq fun K161 hK161 => ?_
    refine sq fun K162 hK162 => ?_
    refine region_fn2 wide_wide [.q .p, .q .p, .q (.run ((Po g (0 + i * 1)))), .q (.ld ((Pv q.t.b))), .q .p, .q .p, .q .p, .q (.ld (.slice pb L.length pc)), .q .p, .q .p, .q (.run ((Po (bof (.slice kb n kc)) (0 + i * 1)))), .q (.ld ((Pv q.rb))), .q .p, .q .p, .q (.ld (I6 ↑q.i)), .q (.run ((Po (bof (.slice pb L.length pc)) (0 + q.i * 1)))), .q (.ld ((Pv q.t.b))), .q (.run (.bool false))] [0, 0, 0, 0, 0, 0, 0, 0, 0, 0, 0, 0, 0, 0, 0, 0, 0, 0] [0, 0, 0, 0, 0, 0, 0, 0, 0, 0, 0, 0, 0, 0, 0, 0, 0, 0] [0, 0, 3, 7, 0, 16, 48, 112, 0, 0, 768, 1792, 3840, 7936, 16128, 32752, 65520, 131071] [] 0 ([(0, (Pv fb)), (7, .slice kb n kc), (8, .slice (some ⟨g, 0, none⟩) (n + 1) mc), (11, (Pv nb)), (13, (Pv rb)), (15, I6 ↑i), (162, .slice (some ⟨g, 0, none⟩) (n + 1) mc), (163, I6 ↑i), (164, (Po g (0 + i * 1))), (165, (Pv q.t.b)), (166, (Pv fb)), (167, (Pv fb)), (168, (Po fb 2)), (169, .slice pb L.length pc), (170, .slice kb n kc), (171, I6 ↑i), (172, (Po (bof (.slice kb n kc)) (0 + i * 1))), (173, (Pv q.rb)), (174, (Pv q.rb)), (175, (Po q.rb 1)), (176, I6 ↑q.i), (177, (Po (bof (.slice pb L.length pc)) (0 + q.i * 1))), (178, (Pv q.t.b)), (179, .bool false)]) [wi.drew] wi.drew (fun w' => [(2, [Ru Try.prog (vS (Instr.indexAt 32 (.slice (some ⟨g, 0, none⟩) (n + 1) mc) (I6 ↑i))) ((Po g (0 + i * 1))) w']), (3, [w'.cell? ⟨g, 0 + i * 1, none⟩ = some ((Pv q.t.b))]), (7, [w'.cell? ⟨fb, 2, none⟩ = some (.slice pb L.length pc)]), (10, [Ru Try.prog (vS (Instr.indexAt 33 (.slice kb n kc) (I6 ↑i))) ((Po (bof (.slice kb n kc)) (0 + i * 1))) w']), (11, [w'.cell? ⟨bof (.slice kb n kc), 0 + i * 1, none⟩ = some ((Pv q.rb))]), (14, [w'.cell? ⟨q.rb, 1, none⟩ = some (I6 ↑q.i)]), (15, [Ru Try.prog (vS (Instr.indexAt 32 (.slice pb L.length pc) (I6 ↑q.i))) ((Po (bof (.slice pb L.length pc)) (0 + q.i * 1))) w']), (16, [w'.cell? ⟨bof (.slice pb L.length pc), 0 + q.i * 1, none⟩ = some ((Pv q.t.b))]), (17, [Ru Try.prog (vS (do eqGuard .neq 47 (.tmp 165) (.tmp 178) ((Pv q.t.b)) ((Pv q.t.b)); binOp .neq 47 ((Pv q.t.b)) ((Pv q.t.b)))) (.bool false) w'])]) [0, 7, 8, 11, 13, 15] [] hS (by kernel_rfl) (by kernel_rfl) (by kernel_rfl) (by kernel_rfl) (fun _ => by kernel_rfl) (by kernel_rfl) (by kernel_rfl) (by kernel_rfl) ?_ ?_ ?_
    ·intro e w' hw
     refine (.cons ?_ (.cons ?_ (.cons ?_ (.cons ?_ (.cons ?_ (.cons ?_ (.cons ?_ (.cons ?_ (.cons ?_ .nil)))))))))
     ·exact fun _ _ => (.cons (ix_slice (E := 47) (size := 1) (j := i) (by kernel_rfl) (by kernel_rfl) rfl (by omega)) .nil)
     ·intro h1 h2
      obtain rfl : e = 0 := Nat.le_antisymm h2 h1
      obtain rfl : w' = wi.drew := hw.trans (by kernel_rfl)
      exact (.cons ((hO.drew : OwnR wi.drew 47 1 g mc (n + 1) ys2).cellAt _ hmine) .nil)
     ·intro h1 h2
      obtain rfl : e = 0 := Nat.le_antisymm h2 h1
      obtain rfl : w' = wi.drew := hw.trans (by kernel_rfl)
      exact (.cons ((hfbh8.drew : Blk wi.drew fb 35 (#[(Pv s0), (Pv s1), .slice pb L.length pc, .slice qb L.length qc, .slice (some ⟨g, 0, none⟩) mn mc])).cell 2 rfl) .nil)
     ·exact fun _ _ => (.cons (ix_own (j := i) (hK8) (by kernel_rfl) (by kernel_rfl) rfl (by omega)) .nil)
     ·intro h1 h2
      obtain rfl : e = 0 := Nat.le_antisymm h2 h1
      obtain rfl : w' = wi.drew := hw.trans (by kernel_rfl)
      exact (.cons ((hK8.drew : OwnV wi.drew 29 1 (.slice kb n kc) n (rs.map Rf.ptr)).cellAt _ (by simp [hq, Rf.ptr])) .nil)
     ·intro h1 h2
      obtain rfl : e = 0 := Nat.le_antisymm h2 h1
      obtain rfl : w' = wi.drew := hw.trans (by kernel_rfl)
      exact (.cons ((hqB.drew : Blk wi.drew q.rb 40 (#[I6 q.k, I6 ↑q.i, I6 q.t.kd, I6 q.t.nn, I6 q.t.lk, I6 q.t.ls, I6 q.t.ll, I6 q.t.lr, q.kv, I6 q.t.tt])).cell 1 rfl) .nil)
     ·exact fun _ _ => (.cons (ix_own (j := q.i) (hPh8) (by kernel_rfl) (by kernel_rfl) rfl hqi) .nil)
     ·intro h1 h2
      obtain rfl : e = 0 := Nat.le_antisymm h2 h1
      obtain rfl : w' = wi.drew := hw.trans (by kernel_rfl)
      exact (.cons ((hPh8.drew : OwnV wi.drew 47 1 (.slice pb L.length pc) L.length (L.map fun r => r.t.ptr)).cellAt _ (by simp [hqL, Tr.ptr])) .nil)
     ·intro h1 h2
      obtain rfl : e = 0 := Nat.le_antisymm h2 h1
      obtain rfl : w' = wi.drew := hw.trans (by kernel_rfl)
      exact (.cons (bin_ptr_neq (E := 106) (by kernel_rfl) ⟨12, by kernel_rfl⟩ (hqT.drew) (hqT.drew) (by simp)) .nil)
    ·refine .nil
    rintro a w164 hS hw165
    replace hw165 : w164 = wi.drew := hw165.trans (by kernel_rfl)
    have hB166 := OwnR.at' hw165 (hO.drew)
    have hE172 : Ext [] w0 w164 := by rw [hw165]; exact hEx.drew
    have hX173 : Ext [] wi w164 := by rw [hw165]; exact (Ext.refl _ _).drew
    have hG174 : Ext [g] w146 w164 := hEg.trans hX173 (by simp)
    replace hS := hS.kp [(0, (Pv fb)), (7, .slice kb n kc), (8, .slice (some ⟨g, 0, none⟩) (n + 1) mc), (11, (Pv nb)), (13, (Pv rb)), (15, I6 ↑i), (179, .bool false)]
    refine hK162 _ _ ?_
    refine cond_f hS rfl ?_
    refine wpIn_skip ?_
    refine hK161 _ _ ?_
    refine rgn 4 ?_
    refine sg wide_wide [.p, .p, .run ((Po g (0 + i * 1)))] [Ru Try.prog (vS (Instr.indexAt 32 (.slice (some ⟨g, 0, none⟩) (n + 1) mc) (I6 ↑i))) ((Po g (0 + i * 1))) w164] [(0, (Pv fb)), (7, .slice kb n kc), (8, .slice (some ⟨g, 0, none⟩) (n + 1) mc), (11, (Pv nb)), (13, (Pv rb)), (15, I6 ↑i), (179, .bool false), (182, (Po g (0 + i * 1)))] 3 1 hS (.cons (ix_slice (E := 47) (size := 1) (j := i) (by kernel_rfl) (by kernel_rfl) rfl (by omega)) .nil) fun a hS => ?_
    refine eff_store_own wide_wide (r := 0) (b := g) (off := 0 + i * 1) (u := Value.pointer none) (xs := ys2) hS (by kernel_rfl) hB166 (by omega) fun a ws175 hOs175 hEs175 hsz175 hS => ?_
    have hE181 : Ext [] w0 ws175 := hE172.trans hEs175 (fun b hb => by simp at hb; subst hb; exact .inr hng)
    have hG182 : Ext [g] w146 ws175 := hG174.trans hEs175 (by simp)
    refine seg_end ?_
    refine inBlock_normal ?_
    refine hK160 _ _ ?_
    refine rgn 3 ?_
    refine sg wide_wide [.p, .as (I6 (↑i + 1)), .p] [Value.int .i64 (IntKind.i64.wrap (↑i + 1)) = I6 (↑i + 1)] [(0, (Pv fb)), (7, .slice kb n kc), (8, .slice (some ⟨g, 0, none⟩) (n + 1) mc), (11, (Pv nb)), (13, (Pv rb)), (15, I6 (↑i + 1)), (179, .bool false)] 3 0 hS (.cons (as_i64 (by omega)) .nil) fun a hS => ?_
    refine seg_end ?_
    refine ⟨(i + 1, (ys2.set (0 + i * 1) (Value.pointer none))), ⟨hS.keepTo [0, 7, 8, 11, 13, 15] (by kernel_rfl), by omega, hOs175, ?_, hG182, hE181⟩, by simp; omega⟩
    intro j hj1 hj2
    rw [show 0 + i * 1 = i by omega, List.getElem?_set_ne (by omega)]
    exact hsame j (by omega) hj2
   ·
    replace hb159 := of_decide_eq_false hb159
    refine wpIn_exit ?_
    refine then_exit ?_
    refine then_exit ?_
    refine inBlock_hit ?_
    refine hK155 _ _ ?_
    refine sq fun K183 hK183 => ?_
    refine sq fun K184 hK184 => ?_
    refine rgn 2 ?_
    refine sg wide_wide [.p, .p] [] [(0, (Pv fb)), (7, .slice kb n kc), (8, .slice (some ⟨g, 0, none⟩) (n + 1) mc), (11, (Pv nb)), (13, (Pv rb)), (184, .bool true)] 2 0 hS .nil fun a hS => ?_
    refine seg_end ?_
    refine hK184 _ _ ?_
    refine cond_t hS rfl ?_
    have hg5 : g < w77.heap.size := OwnR.lt hO5
    have hok8 := (((hok.ext hrm.ext _ (by simp)).ext hE78 _ (by simp)).ext hEg _ (by
     intro x hx hf
     obtain rfl := (by simpa using hx : x = g)
     rcases Tr.foot_new hf with h | h | ⟨t, ht, h⟩
     ·subst h; simp at hnb; omega
     ·have := hvs _ h; simp at this; omega
     ·obtain ⟨q, hq, rfl⟩ := List.mem_map.1 ht
      exact hF5.dB x (by simp [oa]) ⟨q, hrL q hq, .inl h⟩))
    have hrb7 := hrb.ext hE78 (by simp)
    have hkv7 := hkv.ext hE78 (by simp)
    have hrb8 := hrb7.ext hEg (by simpa using (OwnR.ne_type hO7 hrb7 (by decide)).symm)
    have hkv8 := hkv7.ext hEg (fun x hx hm => by simp at hm; exact OwnV.neR hkv7 hO7 (by decide) x hx hm.symm)
    refine rgn 4 ?_
    refine sg wide_wide [.p, .p, .p] [] [(0, (Pv fb)), (7, .slice kb n kc), (8, .slice (some ⟨g, 0, none⟩) (n + 1) mc), (11, (Pv nb)), (13, (Pv rb)), (184, .bool true), (185, (Pv fb)), (186, (Pv nb)), (187, (Pv rb))] 3 1 hS .nil fun a hS => ?_
    refine eff_call wide_wide (r := 0) (f := 58) (vs := [(Pv fb), (Pv nb), (Pv rb)]) (cap := #[]) (d := (some 188)) hS (by kernel_rfl) Try.call58 #[(Pv fb), (Pv nb), (Pv rb)] (by kernel_rfl) (Add_node hfbh8 hF8.P hF8.R hrb8 (by omega)) ?_
    rintro _ w3 ⟨ga, ca, gb, cb, rfl, b1, b2, b3, b4, hE3, fa, fb_⟩
    refine ⟨_, rfl, fun a hS => ?_⟩
    have hw5 := hEg.size
    have h56 := hmk.ext.size
    have hnrb : w0.heap.size ≤ rb := Nat.le_trans (Nat.le_trans (Nat.le_trans hw01 hEg5.size) (by simpa using h56)) hrbn
    have hRes := FI.add hF8 (k := 0) (rs := rs) (W0 := w77.heap.size) (Nat.le_trans hw01 hEg5.size) (by simp) hok8 ⟨0, hrb8⟩ hkv8 (fun r hr => hF8.ok.at (hrL r hr)) ⟨by omega, by simp [Fo.cOf], fun r hr hrk => by have := hF5.num r hr; simp [hrk] at this; omega⟩ (by show L.length + 1 ≤ m + 1; omega)
     ⟨hnb, hvs, Nat.le_trans (by simpa using h56) hrbn, fun b hb => Nat.le_trans (by simpa using h56) (hkvn b hb)⟩
     ⟨fun x hx => (hF5.P.oaBlk hx).elim fun _ h => h.lt, fun x hx => (hF5.R.oaBlk hx).elim fun _ h => h.lt, fun x hx => hF5.B.elim fun _ hB => (hB.oaBlk hx).elim fun _ h => h.lt, fun x hx => hF5.ok.foot_lt hx⟩ b1 b2 b3 b4 hE3 fa fb_
    have hE4 : Ext [] w0 w3 := hEx.trans hE3 (by
     intro b hb
     simp only [List.mem_cons, List.mem_append] at hb
     rcases hb with rfl | rfl | hb | hb
     ·exact .inr hnfb
     ·exact .inr hnrb
     ·exact .inr (hnw.2.2.2.1 b hb)
     ·exact .inr (hnw.2.2.2.2.1 b hb))
    refine seg_end ?_
    refine hK183 _ _ ?_
    refine sq fun K185 hK185 => ?_
    refine rgn 1 ?_
    refine sg wide_wide [.p] [] [(0, (Pv fb)), (7, .slice kb n kc), (8, .slice (some ⟨g, 0, none⟩) (n + 1) mc), (11, (Pv nb)), (13, (Pv rb)), (184, .bool true), (4, .bool true)] 1 0 hS .nil fun a hS => ?_
    refine seg_end ?_
    refine hK185 _ _ ?_
    refine wpIn_ret ?_
    refine ret1 hS Try.results34 rfl ?_
    exact ⟨_, rfl, hRes, ⟨rfl, rfl, rfl⟩, .inr ⟨_, rfl⟩, hE4⟩

set_option maxHeartbeats 4000000 in
theorem Step_make1 {m n : Nat} {w0 w : World} {fb s0 s1 pc qc bn bc : Nat} {c0 c1 sx lk ls ll lr kd nn : Int} {pb qb bb : Option Addr} {L : List Rf} {ks : Value} {zs : List Int} (hF : FI w0.heap.size m w ⟨fb, s0, s1, c0, c1, pb, pc, qb, qc, bb, bn, bc, L⟩) (hE : Ext [] w0 w) (hks : RdV w0 1 ks n (ints zs)) (hm : m ≤ 4398046511000) (hn : n ≤ 17592186044000) (hk : sx % 2 = 1) (hL : 0 < L.length) (hnn : nn ≤ 9223372036854775807) :
  Calls Try.prog 34 #[(Pv fb), .agg #[I6 sx, .bool false, I6 lk, I6 ls, I6 ll, I6 lr, I6 kd, I6 nn, ks]] w fun e w' => ∃ F', e = .returned (.bool true) ∧ FI w0.heap.size (m + 1) w' F' ∧ (F'.fb = fb ∧ F'.s0 = s0 ∧ F'.s1 = s1) ∧ (F'.L = L ∨ ∃ r, F'.L = L ++ [r]) ∧ Ext [] w0 w' := by
 have hcb : 0 ≤ c0 ∧ 0 ≤ c1 ∧ c0 + c1 ≤ m ∧ L.length ≤ m := hF.cb
 have hnw := hF.nw
 have hnfb : w0.heap.size ≤ fb := hnw.1
 have hfb : Blk w fb 35 #[(Pv s0), (Pv s1), .slice pb L.length pc, .slice qb L.length qc, .slice bb bn bc] := hF.f
 have hnsk : w0.heap.size ≤ s1 := hnw.2.2.1
 have hzl : zs.length = n := by have := hks.len; simpa [ints] using this
 obtain ⟨r0, hr0⟩ : ∃ r0, L[0]? = some r0 := ⟨_, List.getElem?_eq_getElem hL⟩
 have hw0 := hE.size
 refine calls_body 189 [(0, (Pv fb)), (1, .agg #[I6 sx, .bool false, I6 lk, I6 ls, I6 ll, I6 lr, I6 kd, I6 nn, ks])] Try.func34 rfl (by kernel_rfl) (by kernel_rfl) (by kernel_rfl) fun a hS => ?_
 refine sq fun K1 hK1 => ?_
 refine rgn 2 ?_
 refine eff_box wide_wide (r := 1) (cs := #[I6 sx, .bool false, I6 lk, I6 ls, I6 ll, I6 lr, I6 kd, I6 nn, ks]) (T := 68) (d := (some 3)) hS (by kernel_rfl) fun a w2 hw3 hS => ?_
 have hB5 := Blk.at' hw3 (hfb.alloc _)
 have hX6 : Ext [] w w2 := by rw [hw3]; exact (Ext.refl _ _).alloc _
 have hG7 : FI w0.heap.size m w2 ⟨fb, s0, s1, c0, c1, pb, pc, qb, qc, bb, bn, bc, L⟩ := hF.ext0 hX6
 have hB8 : Blk w2 (w.heap.size) 68 #[I6 sx, .bool false, I6 lk, I6 ls, I6 ll, I6 lr, I6 kd, I6 nn, ks] := by rw [hw3]; exact Blk.new _ _ _
 have hs9 : w0.heap.size ≤ w.heap.size := hE.size
 have hE10 : Ext [] w0 w2 := by rw [hw3]; exact hE.alloc _
 refine sg wide_wide [.p] [] [(0, (Pv fb)), (1, .agg #[I6 sx, .bool false, I6 lk, I6 ls, I6 ll, I6 lr, I6 kd, I6 nn, ks]), (3, (Pv w.heap.size)), (4, .bool false)] 2 0 hS .nil fun a hS => ?_
 refine seg_end ?_
 refine hK1 _ _ ?_
 refine sq fun K11 hK11 => ?_
 refine rgn 4 ?_
 refine sg wide_wide [.p, .ld (I6 sx), .run (I6 1), .p] [_, Ru Try.prog (vS (do eqGuard .and 3 (.tmp 17) (.const (I6 1)) (I6 sx) (I6 1); binOp .and 3 (I6 sx) (I6 1))) (I6 1) w2] [(0, (Pv fb)), (1, .agg #[I6 sx, .bool false, I6 lk, I6 ls, I6 ll, I6 lr, I6 kd, I6 nn, ks]), (3, (Pv w.heap.size)), (4, .bool false), (5, I6 1)] 4 0 hS (.cons (hB8.cell 0 rfl) (.cons (and_k hk) .nil)) fun a hS => ?_
 refine seg_end ?_
 refine hK11 _ _ ?_
 refine sq fun K12 hK12 => ?_
 refine sq fun K13 hK13 => ?_
 refine rgn 10 ?_
 refine sg wide_wide [.p, .ld (.bool false), .p, .p, .p, .p, .ld (.slice pb L.length pc), .p, .as (.bool false), .p] [_, _, Value.bool (((↑L.length : Int) == 0)) = .bool false] [(0, (Pv fb)), (1, .agg #[I6 sx, .bool false, I6 lk, I6 ls, I6 ll, I6 lr, I6 kd, I6 nn, ks]), (3, (Pv w.heap.size)), (4, .bool false), (5, I6 1), (28, .bool false)] 10 0 hS (.cons (hB8.cell 1 rfl) (.cons (hB5.cell 2 rfl) (.cons (as_eq_f (by omega)) .nil))) fun a hS => ?_
 refine seg_end ?_
 refine hK13 _ _ ?_
 refine cond_f hS rfl ?_
 refine wpIn_skip ?_
 refine hK12 _ _ ?_
 refine sq fun K14 hK14 => ?_
 refine rgn 1 ?_
 refine sg wide_wide [.p] [] [(0, (Pv fb)), (1, .agg #[I6 sx, .bool false, I6 lk, I6 ls, I6 ll, I6 lr, I6 kd, I6 nn, ks]), (3, (Pv w.heap.size)), (4, .bool false), (5, I6 1), (28, .bool false), (7, .slice none 0 0)] 1 0 hS .nil fun a hS => ?_
 refine seg_end ?_
 refine hK14 _ _ ?_
 refine sq fun K15 hK15 => ?_
 refine rgn 7 ?_
 refine sg wide_wide [.p, .p, .ld (ks), .run (I6 ↑n), .as (I6 ((n + 1 : Nat) : Int))] [_, Ru Try.prog (vS (Builtin.len_ #[41] 3 #[ks])) (I6 ↑n) w2, Value.int .i64 (IntKind.i64.wrap (↑n + 1)) = I6 ((n + 1 : Nat) : Int)] [(0, (Pv fb)), (1, .agg #[I6 sx, .bool false, I6 lk, I6 ls, I6 ll, I6 lr, I6 kd, I6 nn, ks]), (3, (Pv w.heap.size)), (4, .bool false), (5, I6 1), (28, .bool false), (7, .slice none 0 0), (47, (Pv fb)), (51, I6 ((n + 1 : Nat) : Int))] 5 2 hS (.cons (hB8.cell 8 rfl) (.cons (run_len_rd (e := 3) hks (by kernel_rfl)) (.cons ((by rw [show (↑n + 1 : Int) = ((n + 1 : Nat) : Int) from by omega]; exact as_i64 (by omega))) .nil))) fun a hS => ?_
 obtain ⟨xsb, hBb⟩ := hG7.B
 refine eff_call wide_wide (r := 1) (f := 60) (vs := [(Pv fb), I6 ((n + 1 : Nat) : Int)]) (cap := #[]) (d := (some 52)) hS (by kernel_rfl) Try.call60 #[(Pv fb), I6 ((n + 1 : Nat) : Int)] (by kernel_rfl) (Mem_any (n := n + 1) hB5 hBb (by omega)) ?_
 rintro _ w1 ⟨g, mc, mn, ym, rfl, hb1, hO1, hmn, hE1, hg1⟩
 refine ⟨_, rfl, fun a hS => ?_⟩
 have hFm : FI w0.heap.size m w1 ⟨fb, s0, s1, c0, c1, pb, pc, qb, qc, some ⟨g, 0, none⟩, mn, mc, L⟩ := FI.mem hG7 hE10.size hb1 hO1 hE1 hg1 hmn
 have hng : w0.heap.size ≤ g := hFm.nw.2.2.2.2.2 g (by simp [oa])
 have hmle := hO1.le
 have hSB1 := hB8.ext hE1 (by simpa using Blk.ne_type hB8 hB5 (by decide))
 have hE01 : Ext [] w0 w1 := hE10.trans hE1 (by intro b hb; obtain rfl := (by simpa using hb : b = fb); exact .inr hnfb)
 have hw01 := hE01.size
 have hO2 : OwnR w1 47 1 g mc (n + 1) (ym.take ((n + 1) * 1)) := hO1.take hmn
 refine sg wide_wide [.p] [] [(0, (Pv fb)), (1, .agg #[I6 sx, .bool false, I6 lk, I6 ls, I6 ll, I6 lr, I6 kd, I6 nn, ks]), (3, (Pv w.heap.size)), (4, .bool false), (5, I6 1), (28, .bool false), (7, .slice none 0 0), (8, .slice (some ⟨g, 0, none⟩) (n + 1) mc)] 7 0 hS .nil fun a hS => ?_
 refine seg_end ?_
 refine hK15 _ _ ?_
 refine sq fun K16 hK16 => ?_
 refine sq fun K17 hK17 => ?_
 refine rgn 1 ?_
 refine sg wide_wide [.p] [] [(0, (Pv fb)), (1, .agg #[I6 sx, .bool false, I6 lk, I6 ls, I6 ll, I6 lr, I6 kd, I6 nn, ks]), (3, (Pv w.heap.size)), (4, .bool false), (5, I6 1), (28, .bool false), (7, .slice none 0 0), (8, .slice (some ⟨g, 0, none⟩) (n + 1) mc), (9, I6 0)] 1 0 hS .nil fun a hS => ?_
 refine seg_end ?_
 refine hK17 _ _ ?_
 refine wpIn_block ?_
 refine loop_ghost (fun ((i, rs, ys, kb, kc) : Nat × List Rf × List Value × Option Addr × Nat) a' w' => St 189 [] [(0, (Pv fb)), (3, (Pv w.heap.size)), (5, I6 1), (7, .slice kb i kc), (8, .slice (some ⟨g, 0, none⟩) (n + 1) mc), (9, I6 ↑i)] a' ∧ i ≤ n ∧ rs.length = i ∧ (∀ r ∈ rs, r ∈ L) ∧ OwnR w' 47 1 g mc (n + 1) ys ∧ ys.take i = rs.map (fun r => r.t.ptr) ∧ OwnV w' 29 1 (.slice kb i kc) i (rs.map Rf.ptr) ∧ (∀ x ∈ oa kb, w1.heap.size ≤ x) ∧ Ext [g] w1 w' ∧ Ext [] w0 w') (fun ((i, rs, ys, kb, kc) : Nat × List Rf × List Value × Option Addr × Nat) => n - i) (0, [], ym.take ((n + 1) * 1), none, 0) ⟨hS.keepTo [0, 3, 5, 7, 8, 9] (by kernel_rfl), Nat.zero_le _, rfl, by simp, hO2, by simp, .inl ⟨rfl, rfl, rfl⟩, (fun x hx => by cases hx), Ext.refl _ _, hE01⟩ ?_
 rintro ⟨i, rs, ys, kb, kc⟩ a wi ⟨hS, hil, hrl, hrL, hO, hyt, hK, hkn, hEg, hEx⟩
 have hFi : FI w0.heap.size m wi ⟨fb, s0, s1, c0, c1, pb, pc, qb, qc, some ⟨g, 0, none⟩, mn, mc, L⟩ := hFm.buf rfl hEg hO hmle
 have hSBi := hSB1.ext hEg (by simpa using (OwnR.ne_type hO2 hSB1 (by decide)).symm)
 have hfbi : Blk wi fb 35 #[(Pv s0), (Pv s1), .slice pb L.length pc, .slice qb L.length qc, .slice (some ⟨g, 0, none⟩) mn mc] := hFi.f
 have hPi : OwnV wi 47 1 (.slice pb L.length pc) L.length (L.map fun r => r.t.ptr) := hFi.P
 have hRi : OwnV wi 29 1 (.slice qb L.length qc) L.length (L.map Rf.ptr) := hFi.R
 have hgpi : ∀ x ∈ ob (.slice pb L.length pc), g ≠ x := (fun x hx e => (hFi.dP x (by rw [ob_oa] at hx; exact hx)).2 (by rw [← e]; simp [oa]))
 have hEi0 : Ext [g] wi wi := Ext.refl _ _
 refine sq fun K18 hK18 => ?_
 refine sq fun K19 hK19 => ?_
 refine rgn 5 ?_
 refine sg wide_wide [.p, .p, .ld (ks), .run (I6 ↑n), .p] [_, Ru Try.prog (vS (Builtin.len_ #[41] 3 #[ks])) (I6 ↑n) wi] [(0, (Pv fb)), (3, (Pv w.heap.size)), (5, I6 1), (7, .slice kb i kc), (8, .slice (some ⟨g, 0, none⟩) (n + 1) mc), (9, I6 ↑i), (57, .bool (decide ((↑i : Int) < ↑n)))] 5 0 hS (.cons (hSBi.cell 8 rfl) (.cons (run_len_rd (e := 3) hks (by kernel_rfl)) .nil)) fun a hS => ?_
 refine seg_end ?_
 refine hK19 _ _ ?_
 refine cond_b hS rfl (fun hb20 => ?_) (fun hb20 => ?_)
 ·
  replace hb20 := of_decide_eq_true hb20
  have hi : i < n := by omega
  obtain ⟨z, hz⟩ : ∃ z, zs[i]? = some z := ⟨_, List.getElem?_eq_getElem (by omega)⟩
  have hzc : (ints zs)[i * 1]? = some (I6 z) := by simp [ints, hz]
  obtain ⟨j, hj, hjl⟩ : ∃ j : Nat, rnd z ↑L.length = (j : Int) ∧ j < L.length := ⟨(rnd z ↑L.length).toNat, by have := rnd_bd z (n := (L.length : Int)) (by omega); omega, by have := rnd_bd z (n := (L.length : Int)) (by omega); omega⟩
  obtain ⟨r, hr⟩ : ∃ r, L[j]? = some r := ⟨_, List.getElem?_eq_getElem hjl⟩
  have hyl : ys.length = n + 1 := by have := hO.len; omega
  refine wpIn_skip ?_
  refine hK18 _ _ ?_
  refine sq fun K21 hK21 => ?_
  refine wpIn_block ?_
  refine sq fun K22 hK22 => ?_
  refine region_fn2 wide_wide [.q .p, .q (.ld (ks)), .q .p, .q (.run ((Po (bof ks) (oof ks + i * 1)))), .q (.ld (I6 z)), .q .p, .q .p, .q .p, .q (.ld (.slice pb L.length pc)), .q .p, .e, .q .p] [0, 0, 0, 0, 0, 0, 0, 0, 0, 0, 0, 1] [0, 0, 0, 0, 0, 0, 0, 0, 0, 0, 0, 1] [0, 1, 0, 7, 15, 0, 32, 96, 224, 480, 1023, 2047] [10] 1 ([(0, (Pv fb)), (3, (Pv w.heap.size)), (5, I6 1), (7, .slice kb i kc), (8, .slice (some ⟨g, 0, none⟩) (n + 1) mc), (9, I6 ↑i), (60, (Po w.heap.size 8)), (61, ks), (62, I6 ↑i), (63, (Po (bof ks) (oof ks + i * 1))), (64, I6 z), (65, (Pv fb)), (66, (Pv fb)), (67, (Po fb 2)), (68, .slice pb L.length pc), (69, I6 ↑L.length), (70, I6 (rnd z ↑L.length)), (10, I6 (rnd z ↑L.length))]) [wi.drew, wi.drew] wi.drew (fun w' => [(1, [w'.cell? ⟨w.heap.size, 8, none⟩ = some (ks)]), (3, [Ru Try.prog (vS (Instr.indexAt 41 (ks) (I6 ↑i))) ((Po (bof ks) (oof ks + i * 1))) w']), (4, [w'.cell? ⟨bof ks, oof ks + i * 1, none⟩ = some (I6 z)]), (8, [w'.cell? ⟨fb, 2, none⟩ = some (.slice pb L.length pc)])]) [0, 3, 5, 7, 8, 9] [] hS (by kernel_rfl) (by kernel_rfl) (by kernel_rfl) (by kernel_rfl) (fun _ => by kernel_rfl) (by kernel_rfl) (by kernel_rfl) (by kernel_rfl) ?_ ?_ ?_
  ·intro e w' hw
   refine (.cons ?_ (.cons ?_ (.cons ?_ (.cons ?_ .nil))))
   ·intro h1 h2
    obtain rfl : e = 0 := Nat.le_antisymm h2 h1
    obtain rfl : w' = wi.drew := hw.trans (by kernel_rfl)
    exact (.cons ((hSBi.drew : Blk wi.drew w.heap.size 68 (#[I6 sx, .bool false, I6 lk, I6 ls, I6 ll, I6 lr, I6 kd, I6 nn, ks])).cell 8 rfl) .nil)
   ·exact fun _ _ => (.cons (ix_rd (e := 3) (j := i) hks (by kernel_rfl) (by kernel_rfl) rfl (by omega)) .nil)
   ·intro h1 h2
    obtain rfl : e = 0 := Nat.le_antisymm h2 h1
    obtain rfl : w' = wi.drew := hw.trans (by kernel_rfl)
    exact (.cons ((hks.ext0 hEx.drew).cellAt (i * 1) rfl hzc) .nil)
   ·intro h1 h2
    obtain rfl : e = 0 := Nat.le_antisymm h2 h1
    obtain rfl : w' = wi.drew := hw.trans (by kernel_rfl)
    exact (.cons ((hfbi.drew : Blk wi.drew fb 35 (#[(Pv s0), (Pv s1), .slice pb L.length pc, .slice qb L.length qc, .slice (some ⟨g, 0, none⟩) mn mc])).cell 2 rfl) .nil)
  ·refine (.cons ?eq23_10 .nil)
   ·refine eff_at (wi.drew) (wi.drew) (by kernel_rfl) (by kernel_rfl) ?_
    refine upon_call (f := 24) (vs := [I6 z, I6 ↑L.length]) (cap := #[]) (d := (some 70)) (by kernel_rfl) Try.call24 #[I6 z, I6 ↑L.length] (by kernel_rfl) (Round_any (k := z) (by omega)) ?_
    rintro _ _ ⟨rfl, rfl⟩
    exact ⟨_, rfl, ⟨by kernel_rfl, by kernel_rfl⟩⟩
  rintro a w24 hS hw25
  replace hw25 : w24 = wi.drew := hw25.trans (by kernel_rfl)
  have hB27 := Blk.at' hw25 (hfbi.drew)
  have hB28 := OwnR.at' hw25 (hO.drew)
  have hB29 := OwnV.at' hw25 (hK.drew)
  have hB30 := OwnV.at' hw25 (hPi.drew)
  have hB31 := OwnV.at' hw25 (hRi.drew)
  have hE32 : Ext [] w0 w24 := by rw [hw25]; exact hEx.drew
  have hX33 : Ext [] wi w24 := by rw [hw25]; exact (Ext.refl _ _).drew
  have hG34 : Ext [g] w1 w24 := hEg.trans hX33 (by simp)
  have hG35 : Ext [g] wi w24 := hEi0.trans hX33 (by simp)
  replace hS := hS.kp [(0, (Pv fb)), (3, (Pv w.heap.size)), (5, I6 1), (7, .slice kb i kc), (8, .slice (some ⟨g, 0, none⟩) (n + 1) mc), (9, I6 ↑i), (10, I6 (rnd z ↑L.length))]
  refine hK22 _ _ ?_
  refine sq fun K36 hK36 => ?_
  refine rgn 11 ?_
  refine sg wide_wide [.p, .p, .p, .p, .p, .ld (.slice pb L.length pc), .p, .run ((Po (bof (.slice pb L.length pc)) (0 + j * 1))), .ld ((Pv r.t.b)), .run ((Po g (0 + i * 1)))] [_, Ru Try.prog (vS (Instr.indexAt 32 (.slice pb L.length pc) (I6 (rnd z ↑L.length)))) ((Po (bof (.slice pb L.length pc)) (0 + j * 1))) w24, w24.cell? ⟨bof (.slice pb L.length pc), 0 + j * 1, none⟩ = some ((Pv r.t.b)), Ru Try.prog (vS (Instr.indexAt 32 (.slice (some ⟨g, 0, none⟩) (n + 1) mc) (I6 ↑i))) ((Po g (0 + i * 1))) w24] [(0, (Pv fb)), (3, (Pv w.heap.size)), (5, I6 1), (7, .slice kb i kc), (8, .slice (some ⟨g, 0, none⟩) (n + 1) mc), (9, I6 ↑i), (10, I6 (rnd z ↑L.length)), (79, (Pv r.t.b)), (80, (Po g (0 + i * 1)))] 10 1 hS (.cons (hB27.cell 2 rfl) (.cons (ix_own (j := j) (hB30) (by kernel_rfl) (by kernel_rfl) hj hjl) (.cons ((hB30).cellAt _ (by simp [hr, Tr.ptr])) (.cons (ix_slice (E := 47) (size := 1) (j := i) (by kernel_rfl) (by kernel_rfl) rfl (by omega)) .nil)))) fun a hS => ?_
  refine eff_store_own wide_wide (r := 0) (b := g) (off := 0 + i * 1) (u := Value.pointer (some ⟨r.t.b, 0, none⟩)) (xs := ys) hS (by kernel_rfl) hB28 (by omega) fun a ws37 hOs37 hEs37 hsz37 hS => ?_
  have hB39 := hB27.ext hEs37 (by simpa using (OwnR.ne_type hB28 hB27 (by decide)).symm)
  have hB40 := hB29.ext hEs37 (fun x hx hm => by simp at hm; exact (OwnV.neR hB29 hB28 (by decide)) x hx hm.symm)
  have hB42 := hB31.ext hEs37 (fun x hx hm => by simp at hm; exact (OwnV.neR hB31 hB28 (by decide)) x hx hm.symm)
  have hE43 : Ext [] w0 ws37 := hE32.trans hEs37 (fun b hb => by simp at hb; subst hb; exact .inr hng)
  have hG44 : Ext [g] w1 ws37 := hG34.trans hEs37 (by simp)
  have hG45 : Ext [g] wi ws37 := hG35.trans hEs37 (by simp)
  refine seg_end ?_
  refine hK36 _ _ ?_
  have hpresz : wi.heap.size ≤ ws37.heap.size := hG45.size
  refine rgn 11 ?_
  refine sg wide_wide [.p, .p, .p, .p, .ld (.slice qb L.length qc), .p, .run ((Po (bof (.slice qb L.length qc)) (0 + j * 1))), .ld ((Pv r.rb))] [_, Ru Try.prog (vS (Instr.indexAt 33 (.slice qb L.length qc) (I6 (rnd z ↑L.length)))) ((Po (bof (.slice qb L.length qc)) (0 + j * 1))) ws37, ws37.cell? ⟨bof (.slice qb L.length qc), 0 + j * 1, none⟩ = some ((Pv r.rb))] [(0, (Pv fb)), (3, (Pv w.heap.size)), (5, I6 1), (7, .slice kb i kc), (8, .slice (some ⟨g, 0, none⟩) (n + 1) mc), (9, I6 ↑i), (10, I6 (rnd z ↑L.length)), (81, .slice kb i kc), (88, (Pv r.rb))] 8 3 hS (.cons (hB39.cell 3 rfl) (.cons (ix_own (j := j) (hB42) (by kernel_rfl) (by kernel_rfl) hj hjl) (.cons ((hB42).cellAt _ (by simp [hr, Rf.ptr])) .nil))) fun a hS => ?_
  refine eff_new wide_wide (r := 2) (cs := #[(Pv r.rb)]) (T := 29) (v := Value.slice (some ⟨ws37.heap.size, 0, none⟩) 1 1) (d := (some 89)) hS (by kernel_rfl) fun a w46 hw47 hS => ?_
  have hB56 := OwnV.at' hw47 (hB40.alloc _)
  have hB59 := OwnR.at' hw47 (hOs37.alloc _)
  have hX60 : Ext [] ws37 w46 := by rw [hw47]; exact (Ext.refl _ _).alloc _
  have hG61 : Ext [g] w1 w46 := hG44.trans hX60 (by simp)
  have hB62 : Blk w46 (ws37.heap.size) 29 #[(Pv r.rb)] := by rw [hw47]; exact Blk.new _ _ _
  have hs63 : w0.heap.size ≤ ws37.heap.size := hE43.size
  have hE64 : Ext [] w0 w46 := by rw [hw47]; exact hE43.alloc _
  replace hpresz : wi.heap.size ≤ w46.heap.size := Nat.le_trans hpresz (by rw [hw47]; simp)
  refine eff_append2 wide_wide (r := 1) (d := (some 90)) (t := 33) (ty := 33) (e := 29) (size := 1) (bytes := 8) (len := i) (b := ws37.heap.size) (off := 0) (k := 1) (c := 1) (z := #[.pointer none]) (v := Value.slice kb i kc) (xs := (rs.map Rf.ptr)) [(Pv r.rb)] hS (by kernel_rfl) (by kernel_rfl) (by kernel_rfl) (by kernel_rfl) (by kernel_rfl) hB56 (by simp) (fun j u hu => by rw [Nat.zero_add]; exact hB62.cell j (by simpa using hu)) rfl (by omega) (by omega) (by omega) fun ga65 ca65 a wa65 hOa65 hEa65 hFa65 hS => ?_
  have hB70 := hB59.ext hEa65 (fun hm => hB59.v.disj hB56 (by decide) _ (by simp [ob]) hm)
  have hE72 : Ext [] w0 wa65 := hE64.trans hEa65 (fun b hb => .inr (Nat.le_trans hw01 (hkn b (by rw [ob_oa] at hb; exact hb))))
  have hG73 : Ext [g] w1 wa65 := hG61.trans hEa65 (fun b hb => .inr (hkn b (by rw [ob_oa] at hb; exact hb)))
  refine sg wide_wide [.p] [] [(0, (Pv fb)), (3, (Pv w.heap.size)), (5, I6 1), (7, .slice (some ⟨ga65, 0, none⟩) (i + 1) ca65), (8, .slice (some ⟨g, 0, none⟩) (n + 1) mc), (9, I6 ↑i), (10, I6 (rnd z ↑L.length))] 11 0 hS .nil fun a hS => ?_
  refine seg_end ?_
  refine inBlock_normal ?_
  refine hK21 _ _ ?_
  refine rgn 3 ?_
  refine sg wide_wide [.p, .as (I6 (↑i + 1)), .p] [Value.int .i64 (IntKind.i64.wrap (↑i + 1)) = I6 (↑i + 1)] [(0, (Pv fb)), (3, (Pv w.heap.size)), (5, I6 1), (7, .slice (some ⟨ga65, 0, none⟩) (i + 1) ca65), (8, .slice (some ⟨g, 0, none⟩) (n + 1) mc), (9, I6 (↑i + 1)), (10, I6 (rnd z ↑L.length))] 3 0 hS (.cons (as_i64 (by omega)) .nil) fun a hS => ?_
  refine seg_end ?_
  refine ⟨(i + 1, rs ++ [r], (ys.set (0 + i * 1) (Value.pointer (some ⟨r.t.b, 0, none⟩))), some ⟨ga65, 0, none⟩, ca65), ⟨hS.keepTo [0, 3, 5, 7, 8, 9] (by kernel_rfl), by omega, by simp [hrl], ?_, hB70, ?_, by simpa [Rf.ptr] using (hOa65 : OwnR _ _ _ _ _ _ _).v, ?_, hG73, hE72⟩, by simp; omega⟩
  ·intro x hx
   rcases List.mem_append.1 hx with hx | hx
   ·exact hrL x hx
   ·obtain rfl := (by simpa using hx : x = r)
    exact List.mem_of_getElem? hr
  ·rw [show 0 + i * 1 = i by omega, take_set_succ (by omega), hyt, List.map_append]; rfl
  ·intro x hx
   obtain rfl := (by have h := hx; simp [oa] at h; exact h.symm : ga65 = x)
   rcases hFa65 ga65 (by simp) with h | h
   ·exact hkn _ (by rw [ob_oa] at h; exact h)
   ·exact Nat.le_trans hEg.size (Nat.le_trans hpresz h)
 ·
  replace hb20 := of_decide_eq_false hb20
  obtain rfl : n = i := by omega
  have hyl : ys.length = n + 1 := by have := hO.len; omega
  refine wpIn_exit ?_
  refine then_exit ?_
  refine then_exit ?_
  refine inBlock_hit ?_
  refine hK16 _ _ ?_
  refine sq fun K74 hK74 => ?_
  refine region_gh2 (G := World) wide_wide [.q .p, .q .p, .q (.ld (ks)), .q (.run (I6 ↑n)), .q .p, .q .p, .q .p, .q (.ld (.slice pb L.length pc)), .q (.run ((Po (bof (.slice pb L.length pc)) (0 + 0 * 1)))), .q (.ld ((Pv r0.t.b))), .q (.run ((Po g (0 + n * 1)))), .e] [0, 0, 0, 0, 0, 0, 0, 0, 0, 0, 0, 0] [0, 0, 0, 0, 0, 0, 0, 0, 0, 0, 0, 0] [0, 0, 2, 6, 0, 16, 48, 112, 240, 496, 1023, 2047] [11] [(11, 0)] 1 (fun ws75 => ([(0, (Pv fb)), (3, (Pv w.heap.size)), (5, I6 1), (7, .slice kb n kc), (8, .slice (some ⟨g, 0, none⟩) (n + 1) mc), (91, .slice (some ⟨g, 0, none⟩) (n + 1) mc), (92, (Po w.heap.size 8)), (93, ks), (94, I6 ↑n), (95, (Pv fb)), (96, (Pv fb)), (97, (Po fb 2)), (98, .slice pb L.length pc), (99, (Po (bof (.slice pb L.length pc)) (0 + 0 * 1))), (100, (Pv r0.t.b)), (101, (Po g (0 + n * 1)))] : Fm)) (fun ws75 => [wi.drew, ws75]) (wi.drew) (fun e ws75 => hAt [True, (OwnR ws75 47 1 g mc (n + 1) (ys.set (0 + n * 1) (Value.pointer (some ⟨r0.t.b, 0, none⟩)))) ∧ (Ext [g] wi.drew ws75) ∧ True] e) (fun ws75 w' => [(2, [w'.cell? ⟨w.heap.size, 8, none⟩ = some (ks)]), (3, [Ru Try.prog (vS (Builtin.len_ #[41] 3 #[ks])) (I6 ↑n) w']), (7, [w'.cell? ⟨fb, 2, none⟩ = some (.slice pb L.length pc)]), (8, [Ru Try.prog (vS (Instr.indexAt 32 (.slice pb L.length pc) (I6 0))) ((Po (bof (.slice pb L.length pc)) (0 + 0 * 1))) w']), (9, [w'.cell? ⟨bof (.slice pb L.length pc), 0 + 0 * 1, none⟩ = some ((Pv r0.t.b))]), (10, [Ru Try.prog (vS (Instr.indexAt 32 (.slice (some ⟨g, 0, none⟩) (n + 1) mc) (I6 ↑n))) ((Po g (0 + n * 1))) w'])]) wi.drew [0, 3, 5, 7, 8] [] hS (by kernel_rfl) (by kernel_rfl) (by kernel_rfl) (by kernel_rfl) (fun ws75 _ => by kernel_rfl) (by kernel_rfl) (by kernel_rfl) (by kernel_rfl) trivial ?_ (by kernel_rfl) ?_ ?_
  ·rintro e ws75 w' hw hH
   refine (.cons ?_ (.cons ?_ (.cons ?_ (.cons ?_ (.cons ?_ (.cons ?_ .nil))))))
   ·intro h1 h2
    obtain rfl : e = 0 := Nat.le_antisymm h2 h1
    have hwe : wi.drew = w' := (hw.trans (by kernel_rfl)).symm
    subst hwe
    clear hH
    exact (.cons ((hSBi.drew : Blk wi.drew w.heap.size 68 (#[I6 sx, .bool false, I6 lk, I6 ls, I6 ll, I6 lr, I6 kd, I6 nn, ks])).cell 8 rfl) .nil)
   ·intro h1 h2
    obtain rfl : e = 0 := Nat.le_antisymm h2 h1
    have hwe : wi.drew = w' := (hw.trans (by kernel_rfl)).symm
    subst hwe
    clear hH
    exact (.cons (run_len_rd (e := 3) hks (by kernel_rfl)) .nil)
   ·intro h1 h2
    obtain rfl : e = 0 := Nat.le_antisymm h2 h1
    have hwe : wi.drew = w' := (hw.trans (by kernel_rfl)).symm
    subst hwe
    clear hH
    exact (.cons ((hfbi.drew : Blk wi.drew fb 35 (#[(Pv s0), (Pv s1), .slice pb L.length pc, .slice qb L.length qc, .slice (some ⟨g, 0, none⟩) mn mc])).cell 2 rfl) .nil)
   ·intro h1 h2
    obtain rfl : e = 0 := Nat.le_antisymm h2 h1
    have hwe : wi.drew = w' := (hw.trans (by kernel_rfl)).symm
    subst hwe
    clear hH
    exact (.cons (ix_own (j := 0) (hPi) (by kernel_rfl) (by kernel_rfl) rfl (by omega)) .nil)
   ·intro h1 h2
    obtain rfl : e = 0 := Nat.le_antisymm h2 h1
    have hwe : wi.drew = w' := (hw.trans (by kernel_rfl)).symm
    subst hwe
    clear hH
    exact (.cons ((hPi.drew : OwnV wi.drew 47 1 (.slice pb L.length pc) L.length (L.map fun r => r.t.ptr)).cellAt _ (by simp [hr0, Tr.ptr])) .nil)
   ·intro h1 h2
    obtain rfl : e = 0 := Nat.le_antisymm h2 h1
    have hwe : wi.drew = w' := (hw.trans (by kernel_rfl)).symm
    subst hwe
    clear hH
    exact (.cons (ix_slice (E := 47) (size := 1) (j := n) (by kernel_rfl) (by kernel_rfl) rfl (by omega)) .nil)
  ·refine (.cons ?eq76_11 .nil)
   ·rintro ws75 hH
    clear hH
    refine eff_gh (wi.drew) (by kernel_rfl) ?_
    refine upon_store_own (b := g) (off := 0 + n * 1) (u := Value.pointer (some ⟨r0.t.b, 0, none⟩)) (xs := ys) (by kernel_rfl) (hO.drew : OwnR wi.drew 47 1 g mc (n + 1) ys) (by omega) fun ws75 hOs75 hEs75 hsz75 => ?_
    exact ⟨ws75, by kernel_rfl, by kernel_rfl, by kernel_rfl, ⟨hOs75, hEs75, trivial⟩⟩
  rintro ws75 a w77 hS hw78 hH
  obtain ⟨hOs75, hEs75, _⟩ := hH
  replace hw78 : w77 = ws75 := hw78.trans (by kernel_rfl)
  have hB79 := Blk.at' hw78 ((hSBi.drew : Blk wi.drew w.heap.size 68 (#[I6 sx, .bool false, I6 lk, I6 ls, I6 ll, I6 lr, I6 kd, I6 nn, ks])).ext hEs75 (by simpa using (OwnR.ne_type hO hSBi (by decide)).symm))
  have hB80 := Blk.at' hw78 ((hfbi.drew : Blk wi.drew fb 35 (#[(Pv s0), (Pv s1), .slice pb L.length pc, .slice qb L.length qc, .slice (some ⟨g, 0, none⟩) mn mc])).ext hEs75 (by simpa using (OwnR.ne_type hO hfbi (by decide)).symm))
  have hB81 := OwnV.at' hw78 ((hK.drew : OwnV wi.drew 29 1 (.slice kb n kc) n (rs.map Rf.ptr)).ext hEs75 (fun x hx hm => by simp at hm; exact (OwnV.neR hK hO (by decide)) x hx hm.symm))
  have hB84 : OwnR w77 47 1 g mc (n + 1) (ys.set (0 + n * 1) (Value.pointer (some ⟨r0.t.b, 0, none⟩))) := by rw [hw78]; exact hOs75
  have hE85 : Ext [] w0 w77 := by rw [hw78]; exact (hEx.drew).trans hEs75 (fun b hb => by simp at hb; subst hb; exact .inr hng)
  have hX86 : Ext [g] wi w77 := by rw [hw78]; exact ((Ext.refl _ _).drew).trans hEs75 (by simp)
  have hG87 : Ext [g] w1 w77 := hEg.trans hX86 (by simp)
  replace hS := hS.kp [(0, (Pv fb)), (3, (Pv w.heap.size)), (5, I6 1), (7, .slice kb n kc), (8, .slice (some ⟨g, 0, none⟩) (n + 1) mc)]
  refine hK74 _ _ ?_
  refine sq fun K88 hK88 => ?_
  have hO5 := hB84
  have hEg5 := hG87
  have hF5 : FI w0.heap.size m w77 ⟨fb, s0, s1, c0, c1, pb, pc, qb, qc, some ⟨g, 0, none⟩, mn, mc, L⟩ := hFm.buf rfl hEg5 hO5 hmle
  have hF5d : FI w0.heap.size m w77.drew ⟨fb, s0, s1, c0, c1, pb, pc, qb, qc, some ⟨g, 0, none⟩, mn, mc, L⟩ := hF5.ext0 ((Ext.refl [] _).drew)
  have hsk5 : Blk w77 s1 102 #[I6 c1] := hF5.h1
  have hyt5 : ((ys.set (0 + n * 1) (Value.pointer (some ⟨r0.t.b, 0, none⟩)))).take (n * 1) = rs.map (fun r => r.t.ptr) := by
   rw [show 0 + n * 1 = n by omega, show n * 1 = n by omega, List.take_set_of_le (Nat.le_refl _), hyt]
  refine region_gh2 (G := (Option Addr) × Int × World) wide_wide [.q .p, .q .p, .q .p, .q .p, .q .p, .q (.ld ((Pv s1))), .q .p, .q (.ld (I6 kd)), .q .p, .q (.ld (I6 nn)), .q .p, .q .p, .q (.ld (ks)), .q (.run (I6 ↑n)), .q (.run (.slice (some ⟨g, 0, none⟩) n mc)), .e, .q .p, .q .p, .q .p, .q .p, .q .p] [0, 0, 0, 0, 0, 0, 0, 0, 0, 0, 0, 0, 0, 0, 0, 0, 1, 1, 1, 1, 1] [0, 0, 0, 0, 0, 0, 0, 0, 0, 0, 0, 0, 0, 0, 0, 0, 1, 1, 1, 1, 1] [0, 0, 1, 5, 15, 31, 0, 64, 0, 256, 0, 0, 2048, 6144, 15360, 32767, 65535, 131071, 131071, 262143, 1048575] [15] [(15, 0)] 1 (fun ⟨pp, er, wm⟩ => ([(0, (Pv fb)), (3, (Pv w.heap.size)), (5, I6 1), (7, .slice kb n kc), (8, .slice (some ⟨g, 0, none⟩) (n + 1) mc), (103, (Pv fb)), (104, I6 1), (105, (Pv fb)), (106, (Pv fb)), (107, (Po fb 1)), (108, (Pv s1)), (109, (Po w.heap.size 6)), (110, I6 kd), (111, (Po w.heap.size 7)), (112, I6 nn), (113, .slice (some ⟨g, 0, none⟩) (n + 1) mc), (114, (Po w.heap.size 8)), (115, ks), (116, I6 ↑n), (117, .slice (some ⟨g, 0, none⟩) n mc), (118, .tuple #[.pointer pp, I6 er]), (102, .tuple #[.pointer pp, I6 er]), (119, .pointer pp), (120, I6 er), (11, .pointer pp), (12, I6 er)] : Fm)) (fun ⟨pp, er, wm⟩ => [w77.drew, wm]) (w77.drew) (fun e ⟨pp, er, wm⟩ => hAt [True, (MkR (w77.drew) s1 c1 kd nn (rs.map fun r => (sOf s0 s1 r.k, r.t)) pp er wm) ∧ True] e) (fun ⟨pp, er, wm⟩ w' => [(5, [w'.cell? ⟨fb, 1, none⟩ = some ((Pv s1))]), (7, [w'.cell? ⟨w.heap.size, 6, none⟩ = some (I6 kd)]), (9, [w'.cell? ⟨w.heap.size, 7, none⟩ = some (I6 nn)]), (12, [w'.cell? ⟨w.heap.size, 8, none⟩ = some (ks)]), (13, [Ru Try.prog (vS (Builtin.len_ #[41] 3 #[ks])) (I6 ↑n) w']), (14, [Ru Try.prog (vS (Instr.sliceAt 32 (.slice (some ⟨g, 0, none⟩) (n + 1) mc) none (some (I6 ↑n)) none)) (.slice (some ⟨g, 0, none⟩) n mc) w'])]) (none, 0, w77.drew) [0, 3, 5, 7, 8] [] hS (by kernel_rfl) (by kernel_rfl) (by kernel_rfl) (by kernel_rfl) (fun ⟨pp, er, wm⟩ _ => by kernel_rfl) (by kernel_rfl) (by kernel_rfl) (by kernel_rfl) trivial ?_ (by kernel_rfl) ?_ ?_
  ·rintro e ⟨pp, er, wm⟩ w' hw hH
   refine (.cons ?_ (.cons ?_ (.cons ?_ (.cons ?_ (.cons ?_ (.cons ?_ .nil))))))
   ·intro h1 h2
    obtain rfl : e = 0 := Nat.le_antisymm h2 h1
    have hwe : w77.drew = w' := (hw.trans (by kernel_rfl)).symm
    subst hwe
    clear hH
    exact (.cons ((hB80.drew : Blk w77.drew fb 35 (#[(Pv s0), (Pv s1), .slice pb L.length pc, .slice qb L.length qc, .slice (some ⟨g, 0, none⟩) mn mc])).cell 1 rfl) .nil)
   ·intro h1 h2
    obtain rfl : e = 0 := Nat.le_antisymm h2 h1
    have hwe : w77.drew = w' := (hw.trans (by kernel_rfl)).symm
    subst hwe
    clear hH
    exact (.cons ((hB79.drew : Blk w77.drew w.heap.size 68 (#[I6 sx, .bool false, I6 lk, I6 ls, I6 ll, I6 lr, I6 kd, I6 nn, ks])).cell 6 rfl) .nil)
   ·intro h1 h2
    obtain rfl : e = 0 := Nat.le_antisymm h2 h1
    have hwe : w77.drew = w' := (hw.trans (by kernel_rfl)).symm
    subst hwe
    clear hH
    exact (.cons ((hB79.drew : Blk w77.drew w.heap.size 68 (#[I6 sx, .bool false, I6 lk, I6 ls, I6 ll, I6 lr, I6 kd, I6 nn, ks])).cell 7 rfl) .nil)
   ·intro h1 h2
    obtain rfl : e = 0 := Nat.le_antisymm h2 h1
    have hwe : w77.drew = w' := (hw.trans (by kernel_rfl)).symm
    subst hwe
    clear hH
    exact (.cons ((hB79.drew : Blk w77.drew w.heap.size 68 (#[I6 sx, .bool false, I6 lk, I6 ls, I6 ll, I6 lr, I6 kd, I6 nn, ks])).cell 8 rfl) .nil)
   ·intro h1 h2
    obtain rfl : e = 0 := Nat.le_antisymm h2 h1
    have hwe : w77.drew = w' := (hw.trans (by kernel_rfl)).symm
    subst hwe
    clear hH
    exact (.cons (run_len_rd (e := 3) hks (by kernel_rfl)) .nil)
   ·intro h1 h2
    obtain rfl : e = 0 := Nat.le_antisymm h2 h1
    have hwe : w77.drew = w' := (hw.trans (by kernel_rfl)).symm
    subst hwe
    clear hH
    exact (.cons (sl_h (E := 47) (size := 1) (h := n) (by kernel_rfl) (by kernel_rfl) rfl (by omega)) .nil)
  ·refine (.cons ?eq89_15 .nil)
   ·rintro ⟨pp, er, wm⟩ hH
    clear hH
    refine eff_gh (w77.drew) (by kernel_rfl) ?_
    refine upon_call (f := 20) (vs := [(Pv s1), I6 kd, I6 nn, .slice (some ⟨g, 0, none⟩) n mc]) (cap := #[]) (d := (some 118)) (by kernel_rfl) Try.call20 #[(Pv s1), I6 kd, I6 nn, .slice (some ⟨g, 0, none⟩) n mc] (by kernel_rfl) (Make_any (ks := (rs.map fun r => (sOf s0 s1 r.k, r.t))) (hsk5.drew : Blk w77.drew s1 102 (#[I6 c1])) (by omega) (by have h := ((hB84.drew : OwnR w77.drew 47 1 g mc (n + 1) (ys.set (0 + n * 1) (Value.pointer (some ⟨r0.t.b, 0, none⟩)))).take (k := n) (by omega)).v; rw [hyt5] at h; rw [List.length_map, List.map_map, hrl]; exact h) (fun q hq => by obtain ⟨r, hr, rfl⟩ := List.mem_map.1 hq; exact ⟨(hF5d.ok.one r (hrL r hr)).ok, _, hF5d.sblk r.k⟩) (by simp; omega)) ?_
    rintro _ wm ⟨pp, er, rfl, hmk⟩
    exact ⟨_, rfl, ⟨(pp, er, wm), by kernel_rfl, by kernel_rfl, by kernel_rfl, ⟨hmk, trivial⟩⟩⟩
  rintro ⟨pp, er, wm⟩ a w90 hS hw91 hH
  obtain ⟨hmk, _⟩ := hH
  replace hw91 : w90 = wm := hw91.trans (by kernel_rfl)
  have hB92 := Blk.at' hw91 ((hB79.drew : Blk w77.drew w.heap.size 68 (#[I6 sx, .bool false, I6 lk, I6 ls, I6 ll, I6 lr, I6 kd, I6 nn, ks])).ext hmk.ext (by simpa using Blk.ne_type (hB79.drew : Blk w77.drew w.heap.size 68 (#[I6 sx, .bool false, I6 lk, I6 ls, I6 ll, I6 lr, I6 kd, I6 nn, ks])) (hsk5.drew : Blk w77.drew s1 102 (#[I6 c1])) (by decide)))
  have hB94 := OwnV.at' hw91 ((hB81.drew : OwnV w77.drew 29 1 (.slice kb n kc) n (rs.map Rf.ptr)).ext hmk.ext (fun x hx hm => by simp at hm; exact OwnV.ne (hB81.drew : OwnV w77.drew 29 1 (.slice kb n kc) n (rs.map Rf.ptr)) (hsk5.drew : Blk w77.drew s1 102 (#[I6 c1])) (by decide) x hx hm.symm))
  have hB95 := OwnR.at' hw91 ((hB84.drew : OwnR w77.drew 47 1 g mc (n + 1) (ys.set (0 + n * 1) (Value.pointer (some ⟨r0.t.b, 0, none⟩)))).ext hmk.ext (by simpa using OwnR.ne_type (hB84.drew : OwnR w77.drew 47 1 g mc (n + 1) (ys.set (0 + n * 1) (Value.pointer (some ⟨r0.t.b, 0, none⟩)))) (hsk5.drew : Blk w77.drew s1 102 (#[I6 c1])) (by decide)))
  have hE96 : Ext [] w0 w90 := by rw [hw91]; exact (hE85.drew).trans hmk.ext (by intro b hb; obtain rfl := (by simpa using hb : b = s1); exact .inr hnsk)
  replace hS := hS.kp [(0, (Pv fb)), (3, (Pv w.heap.size)), (5, I6 1), (7, .slice kb n kc), (8, .slice (some ⟨g, 0, none⟩) (n + 1) mc), (11, .pointer pp), (12, I6 er)]
  refine hK88 _ _ ?_
  refine sq fun K97 hK97 => ?_
  subst hw91
  have hok6 : FOk w90 s0 s1 L := hF5d.ok.ext hmk.ext (by intro x hx; obtain rfl := (by simpa using hx : x = s1); exact hF5.ok.not_foot hsk5 (by decide))
  refine rgn 12 ?_
  refine sg wide_wide [.p, .p, .ld (I6 kd), .p, .ld (I6 nn), .p] [_, _] [(0, (Pv fb)), (3, (Pv w.heap.size)), (5, I6 1), (7, .slice kb n kc), (8, .slice (some ⟨g, 0, none⟩) (n + 1) mc), (11, .pointer pp), (12, I6 er), (122, I6 1), (124, I6 kd), (126, I6 nn), (127, .slice kb n kc)] 6 6 hS (.cons (hB92.cell 6 rfl) (.cons (hB92.cell 7 rfl) .nil)) fun a hS => ?_
  refine eff_call wide_wide (r := 5) (f := 61) (vs := [I6 1, I6 kd, I6 nn, .slice kb n kc]) (cap := #[]) (d := (some 128)) hS (by kernel_rfl) Try.call61 #[I6 1, I6 kd, I6 nn, .slice kb n kc] (by kernel_rfl) (RMake_any hnn (by rw [hrl]; exact hB94) (fun r hr => ⟨(hok6.one r (hrL r hr)).blk, (hok6.tt (hrL r hr)).1, (hok6.tt (hrL r hr)).2.1⟩) (by omega)) ?_
  rintro _ w7 ⟨rp, er2, rfl, hrm⟩
  refine ⟨_, rfl, fun a hS => ?_⟩
  have hE07 := hE96.trans0 hrm.ext
  have hB98 := hB92.ext hrm.ext (by simp)
  have hB100 := hB94.ext hrm.ext (by simp)
  have hB101 := hB95.ext hrm.ext (by simp)
  refine sg wide_wide [.p, .p, .p, .p, .p] [] [(0, (Pv fb)), (3, (Pv w.heap.size)), (5, I6 1), (7, .slice kb n kc), (8, .slice (some ⟨g, 0, none⟩) (n + 1) mc), (11, .pointer pp), (12, I6 er), (13, .pointer rp), (14, I6 er2)] 12 0 hS .nil fun a hS => ?_
  refine seg_end ?_
  refine hK97 _ _ ?_
  refine sq fun K102 hK102 => ?_
  refine sq fun K103 hK103 => ?_
  rcases mk_both (s0 := s0) (s1 := s1) (k := 1) hF.ne (by simp) (fun r hr => (hok6.one r (hrL r hr)).kk) hmk hrm with ⟨hpp, hrp, her2, her, hE56⟩ | ⟨nb, vs, rb, kv, hpp, hrp, her, her2, hnb, hvs, hrbn, hkvn, hok, hskn, hE56, hrb, hkv⟩
  ·
   subst hpp hrp her2
   have hF7 : FI w0.heap.size (m + 1) w7 ⟨fb, s0, s1, c0, c1, pb, pc, qb, qc, some ⟨g, 0, none⟩, mn, mc, L⟩ := ((hF5d.ext0 hE56).ext0 hrm.ext).mono (by omega)
   have hfbh7 : Blk w7 fb 35 #[(Pv s0), (Pv s1), .slice pb L.length pc, .slice qb L.length qc, .slice (some ⟨g, 0, none⟩) mn mc] := hF7.f
   have hPh7 : OwnV w7 47 1 (.slice pb L.length pc) L.length (L.map fun r => r.t.ptr) := hF7.P
   have hgph7 : ∀ x ∈ ob (.slice pb L.length pc), g ≠ x := (fun x hx e => (hF7.dP x (by rw [ob_oa] at hx; exact hx)).2 (by rw [← e]; simp [oa]))
   have hr0t : Blk w7 r0.t.b 106 (r0.t.cs (sOf s0 s1 r0.k)) := (hF7.ok.one r0 (List.mem_of_getElem? hr0)).ok.blk
   refine region_fn2 wide_wide [.q .p, .q .p, .q (.as (.bool false)), .q .p, .q .p, .q .p, .q .p, .q (.as (.bool true)), .q .p, .q .p, .q .p, .q .p, .q .p, .q (.ld (ks)), .q (.run (I6 ↑n)), .q (.run ((Po g (0 + n * 1)))), .q (.ld ((Pv r0.t.b))), .q .p, .q .p, .q .p, .q (.ld (.slice pb L.length pc)), .q (.run ((Po (bof (.slice pb L.length pc)) (0 + 0 * 1)))), .q (.ld ((Pv r0.t.b))), .q (.run (.bool false)), .q .p] [0, 0, 0, 0, 0, 0, 0, 0, 0, 0, 0, 0, 0, 0, 0, 0, 0, 0, 0, 0, 0, 0, 0, 0, 0] [0, 0, 0, 0, 0, 0, 0, 0, 0, 0, 0, 0, 0, 0, 0, 0, 0, 0, 0, 0, 0, 0, 0, 0, 0] [0, 0, 3, 7, 15, 31, 15, 79, 255, 511, 1023, 2047, 2047, 6143, 14335, 32767, 65535, 2047, 133119, 395263, 919551, 1968127, 4065279, 8388607, 16777215] [] 0 ([(0, (Pv fb)), (3, (Pv w.heap.size)), (5, I6 1), (7, .slice kb n kc), (8, .slice (some ⟨g, 0, none⟩) (n + 1) mc), (11, .pointer none), (12, I6 er2), (13, .pointer none), (14, I6 er2), (131, I6 er2), (132, I6 er2), (133, .bool false), (134, .bool false), (135, .pointer none), (136, .bool true), (137, I6 er2), (138, .bool true), (139, .bool false), (140, .bool false), (141, .bool false), (142, .slice (some ⟨g, 0, none⟩) (n + 1) mc), (143, (Po w.heap.size 8)), (144, ks), (145, I6 ↑n), (146, (Po g (0 + n * 1))), (147, (Pv r0.t.b)), (148, (Pv fb)), (149, (Pv fb)), (150, (Po fb 2)), (151, .slice pb L.length pc), (152, (Po (bof (.slice pb L.length pc)) (0 + 0 * 1))), (153, (Pv r0.t.b)), (154, .bool false), (155, .bool false)]) [w7.drew] w7.drew (fun w' => [(2, [Value.bool (((er2 : Int) != er2)) = .bool false]), (7, [Value.bool (((er2 : Int) != 0)) = .bool true]), (13, [w'.cell? ⟨w.heap.size, 8, none⟩ = some (ks)]), (14, [Ru Try.prog (vS (Builtin.len_ #[41] 3 #[ks])) (I6 ↑n) w']), (15, [Ru Try.prog (vS (Instr.indexAt 32 (.slice (some ⟨g, 0, none⟩) (n + 1) mc) (I6 ↑n))) ((Po g (0 + n * 1))) w']), (16, [w'.cell? ⟨g, 0 + n * 1, none⟩ = some ((Pv r0.t.b))]), (20, [w'.cell? ⟨fb, 2, none⟩ = some (.slice pb L.length pc)]), (21, [Ru Try.prog (vS (Instr.indexAt 32 (.slice pb L.length pc) (I6 0))) ((Po (bof (.slice pb L.length pc)) (0 + 0 * 1))) w']), (22, [w'.cell? ⟨bof (.slice pb L.length pc), 0 + 0 * 1, none⟩ = some ((Pv r0.t.b))]), (23, [Ru Try.prog (vS (do eqGuard .neq 47 (.tmp 147) (.tmp 153) ((Pv r0.t.b)) ((Pv r0.t.b)); binOp .neq 47 ((Pv r0.t.b)) ((Pv r0.t.b)))) (.bool false) w'])]) [0, 3, 5, 7, 8, 11, 12, 13, 14] [] hS (by kernel_rfl) (by kernel_rfl) (by kernel_rfl) (by kernel_rfl) (fun _ => by kernel_rfl) (by kernel_rfl) (by kernel_rfl) (by kernel_rfl) ?_ ?_ ?_
   ·intro e w' hw
    refine (.cons ?_ (.cons ?_ (.cons ?_ (.cons ?_ (.cons ?_ (.cons ?_ (.cons ?_ (.cons ?_ (.cons ?_ (.cons ?_ .nil))))))))))
    ·exact fun _ _ => (.cons (as_ne_f (rfl)) .nil)
    ·exact fun _ _ => (.cons (as_ne_t (her)) .nil)
    ·intro h1 h2
     obtain rfl : e = 0 := Nat.le_antisymm h2 h1
     obtain rfl : w' = w7.drew := hw.trans (by kernel_rfl)
     exact (.cons ((hB98.drew : Blk w7.drew w.heap.size 68 (#[I6 sx, .bool false, I6 lk, I6 ls, I6 ll, I6 lr, I6 kd, I6 nn, ks])).cell 8 rfl) .nil)
    ·exact fun _ _ => (.cons (run_len_rd (e := 3) hks (by kernel_rfl)) .nil)
    ·exact fun _ _ => (.cons (ix_slice (E := 47) (size := 1) (j := n) (by kernel_rfl) (by kernel_rfl) rfl (by omega)) .nil)
    ·intro h1 h2
     obtain rfl : e = 0 := Nat.le_antisymm h2 h1
     obtain rfl : w' = w7.drew := hw.trans (by kernel_rfl)
     exact (.cons ((hB101.drew : OwnR w7.drew 47 1 g mc (n + 1) (ys.set (0 + n * 1) (Value.pointer (some ⟨r0.t.b, 0, none⟩)))).cellAt _ (by simp [hyl])) .nil)
    ·intro h1 h2
     obtain rfl : e = 0 := Nat.le_antisymm h2 h1
     obtain rfl : w' = w7.drew := hw.trans (by kernel_rfl)
     exact (.cons ((hfbh7.drew : Blk w7.drew fb 35 (#[(Pv s0), (Pv s1), .slice pb L.length pc, .slice qb L.length qc, .slice (some ⟨g, 0, none⟩) mn mc])).cell 2 rfl) .nil)
    ·exact fun _ _ => (.cons (ix_own (j := 0) (hPh7) (by kernel_rfl) (by kernel_rfl) rfl (by omega)) .nil)
    ·intro h1 h2
     obtain rfl : e = 0 := Nat.le_antisymm h2 h1
     obtain rfl : w' = w7.drew := hw.trans (by kernel_rfl)
     exact (.cons ((hPh7.drew : OwnV w7.drew 47 1 (.slice pb L.length pc) L.length (L.map fun r => r.t.ptr)).cellAt _ (by simp [hr0, Tr.ptr])) .nil)
    ·intro h1 h2
     obtain rfl : e = 0 := Nat.le_antisymm h2 h1
     obtain rfl : w' = w7.drew := hw.trans (by kernel_rfl)
     exact (.cons (bin_ptr_neq (E := 106) (by kernel_rfl) ⟨12, by kernel_rfl⟩ (hr0t.drew) (hr0t.drew) (by simp)) .nil)
   ·refine .nil
   rintro a w105 hS hw106
   replace hw106 : w105 = w7.drew := hw106.trans (by kernel_rfl)
   have hB109 := OwnV.at' hw106 (hB100.drew)
   have hB110 := OwnR.at' hw106 (hB101.drew)
   have hE113 : Ext [] w0 w105 := by rw [hw106]; exact hE07.drew
   replace hS := hS.kp [(0, (Pv fb)), (3, (Pv w.heap.size)), (5, I6 1), (7, .slice kb n kc), (8, .slice (some ⟨g, 0, none⟩) (n + 1) mc), (11, .pointer none), (12, I6 er2), (13, .pointer none), (14, I6 er2), (155, .bool false)]
   refine hK103 _ _ ?_
   refine cond_f hS rfl ?_
   refine wpIn_skip ?_
   refine hK102 _ _ ?_
   refine sq fun K114 hK114 => ?_
   refine sq fun K115 hK115 => ?_
   refine rgn 1 ?_
   refine sg wide_wide [.p] [] [(0, (Pv fb)), (3, (Pv w.heap.size)), (5, I6 1), (7, .slice kb n kc), (8, .slice (some ⟨g, 0, none⟩) (n + 1) mc), (11, .pointer none), (12, I6 er2), (13, .pointer none), (14, I6 er2), (155, .bool false), (15, I6 0)] 1 0 hS .nil fun a hS => ?_
   refine seg_end ?_
   refine hK115 _ _ ?_
   refine wpIn_block ?_
   have hO7 := hB110
   have hK7 := hB109
   have hE07' := hE113
   have hE78 : Ext [] w7 w105 := by rw [hw106]; exact (Ext.refl [] w7).drew
   have hF7' : FI w0.heap.size (m + 1) w105 ⟨fb, s0, s1, c0, c1, pb, pc, qb, qc, some ⟨g, 0, none⟩, mn, mc, L⟩ := hF7.ext0 hE78
   refine loop_ghost (fun ((i, ys2) : Nat × List Value) a' w' => St 189 [] [(0, (Pv fb)), (7, .slice kb n kc), (8, .slice (some ⟨g, 0, none⟩) (n + 1) mc), (11, .pointer none), (13, .pointer none), (15, I6 ↑i)] a' ∧ i ≤ n ∧ OwnR w' 47 1 g mc (n + 1) ys2 ∧ (∀ j, i ≤ j → j < n → ys2[j]? = (rs.map fun r => r.t.ptr)[j]?) ∧ Ext [g] w105 w' ∧ Ext [] w0 w') (fun ((i, ys2) : Nat × List Value) => n - i) (0, (ys.set (0 + n * 1) (Value.pointer (some ⟨r0.t.b, 0, none⟩)))) ⟨hS.keepTo [0, 7, 8, 11, 13, 15] (by kernel_rfl), Nat.zero_le _, hO7, (fun j _ hj => by rw [← hyt, List.getElem?_take, if_pos (by omega), List.getElem?_set_ne (by omega)]), Ext.refl _ _, hE07'⟩ ?_
   rintro ⟨i, ys2⟩ a wi ⟨hS, hil, hO, hsame, hEg, hEx⟩
   have hF8 : FI w0.heap.size (m + 1) wi ⟨fb, s0, s1, c0, c1, pb, pc, qb, qc, some ⟨g, 0, none⟩, mn, mc, L⟩ := hF7'.buf rfl hEg hO hmle
   have hK8 := hK7.ext hEg (fun x hx hm => by simp at hm; exact OwnV.neR hK7 hO7 (by decide) x hx hm.symm)
   have hfbh8 : Blk wi fb 35 #[(Pv s0), (Pv s1), .slice pb L.length pc, .slice qb L.length qc, .slice (some ⟨g, 0, none⟩) mn mc] := hF8.f
   have hPh8 : OwnV wi 47 1 (.slice pb L.length pc) L.length (L.map fun r => r.t.ptr) := hF8.P
   have hgph8 : ∀ x ∈ ob (.slice pb L.length pc), g ≠ x := (fun x hx e => (hF8.dP x (by rw [ob_oa] at hx; exact hx)).2 (by rw [← e]; simp [oa]))
   refine sq fun K116 hK116 => ?_
   refine sq fun K117 hK117 => ?_
   refine rgn 4 ?_
   refine sg wide_wide [.p, .p, .p, .p] [] [(0, (Pv fb)), (7, .slice kb n kc), (8, .slice (some ⟨g, 0, none⟩) (n + 1) mc), (11, .pointer none), (13, .pointer none), (15, I6 ↑i), (159, .bool (decide ((↑i : Int) < ↑n)))] 4 0 hS .nil fun a hS => ?_
   refine seg_end ?_
   refine hK117 _ _ ?_
   refine cond_b hS rfl (fun hb118 => ?_) (fun hb118 => ?_)
   ·
    replace hb118 := of_decide_eq_true hb118
    have hi : i < n := by omega
    obtain ⟨q, hq⟩ : ∃ q, rs[i]? = some q := ⟨_, List.getElem?_eq_getElem (by omega)⟩
    have hqm : q ∈ L := hrL q (List.mem_of_getElem? hq)
    have hq1 := hF8.ok.one q hqm
    have hqi := hq1.ki
    have hqL := hF8.ok.at hqm
    have hyl2 : ys2.length = n + 1 := by have := hO.len; omega
    have hmine : ys2[0 + i * 1]? = some ((Pv q.t.b)) := by
     rw [show 0 + i * 1 = i by omega, hsame i (Nat.le_refl _) hi]; simp [hq, Tr.ptr]
    have hqrow := hq1.row
    have hqB : Blk wi q.rb 40 #[I6 q.k, I6 ↑q.i, I6 q.t.kd, I6 q.t.nn, I6 q.t.lk, I6 q.t.ls, I6 q.t.ll, I6 q.t.lr, q.kv, I6 q.t.tt] := hq1.blk
    have hqT : Blk wi q.t.b 106 (q.t.cs (sOf s0 s1 q.k)) := hq1.ok.blk
    refine wpIn_skip ?_
    refine hK116 _ _ ?_
    refine sq fun K119 hK119 => ?_
    refine wpIn_block ?_
    refine sq fun K120 hK120 => ?_
    refine sq fun K121 hK121 => ?_
    refine region_fn2 wide_wide [.q .p, .q .p, .q (.run ((Po g (0 + i * 1)))), .q (.ld ((Pv q.t.b))), .q .p, .q .p, .q .p, .q (.ld (.slice pb L.length pc)), .q .p, .q .p, .q (.run ((Po (bof (.slice kb n kc)) (0 + i * 1)))), .q (.ld ((Pv q.rb))), .q .p, .q .p, .q (.ld (I6 ↑q.i)), .q (.run ((Po (bof (.slice pb L.length pc)) (0 + q.i * 1)))), .q (.ld ((Pv q.t.b))), .q (.run (.bool false))] [0, 0, 0, 0, 0, 0, 0, 0, 0, 0, 0, 0, 0, 0, 0, 0, 0, 0] [0, 0, 0, 0, 0, 0, 0, 0, 0, 0, 0, 0, 0, 0, 0, 0, 0, 0] [0, 0, 3, 7, 0, 16, 48, 112, 0, 0, 768, 1792, 3840, 7936, 16128, 32752, 65520, 131071] [] 0 ([(0, (Pv fb)), (7, .slice kb n kc), (8, .slice (some ⟨g, 0, none⟩) (n + 1) mc), (11, .pointer none), (13, .pointer none), (15, I6 ↑i), (162, .slice (some ⟨g, 0, none⟩) (n + 1) mc), (163, I6 ↑i), (164, (Po g (0 + i * 1))), (165, (Pv q.t.b)), (166, (Pv fb)), (167, (Pv fb)), (168, (Po fb 2)), (169, .slice pb L.length pc), (170, .slice kb n kc), (171, I6 ↑i), (172, (Po (bof (.slice kb n kc)) (0 + i * 1))), (173, (Pv q.rb)), (174, (Pv q.rb)), (175, (Po q.rb 1)), (176, I6 ↑q.i), (177, (Po (bof (.slice pb L.length pc)) (0 + q.i * 1))), (178, (Pv q.t.b)), (179, .bool false)]) [wi.drew] wi.drew (fun w' => [(2, [Ru Try.prog (vS (Instr.indexAt 32 (.slice (some ⟨g, 0, none⟩) (n + 1) mc) (I6 ↑i))) ((Po g (0 + i * 1))) w']), (3, [w'.cell? ⟨g, 0 + i * 1, none⟩ = some ((Pv q.t.b))]), (7, [w'.cell? ⟨fb, 2, none⟩ = some (.slice pb L.length pc)]), (10, [Ru Try.prog (vS (Instr.indexAt 33 (.slice kb n kc) (I6 ↑i))) ((Po (bof (.slice kb n kc)) (0 + i * 1))) w']), (11, [w'.cell? ⟨bof (.slice kb n kc), 0 + i * 1, none⟩ = some ((Pv q.rb))]), (14, [w'.cell? ⟨q.rb, 1, none⟩ = some (I6 ↑q.i)]), (15, [Ru Try.prog (vS (Instr.indexAt 32 (.slice pb L.length pc) (I6 ↑q.i))) ((Po (bof (.slice pb L.length pc)) (0 + q.i * 1))) w']), (16, [w'.cell? ⟨bof (.slice pb L.length pc), 0 + q.i * 1, none⟩ = some ((Pv q.t.b))]), (17, [Ru Try.prog (vS (do eqGuard .neq 47 (.tmp 165) (.tmp 178) ((Pv q.t.b)) ((Pv q.t.b)); binOp .neq 47 ((Pv q.t.b)) ((Pv q.t.b)))) (.bool false) w'])]) [0, 7, 8, 11, 13, 15] [] hS (by kernel_rfl) (by kernel_rfl) (by kernel_rfl) (by kernel_rfl) (fun _ => by kernel_rfl) (by kernel_rfl) (by kernel_rfl) (by kernel_rfl) ?_ ?_ ?_
    ·intro e w' hw
     refine (.cons ?_ (.cons ?_ (.cons ?_ (.cons ?_ (.cons ?_ (.cons ?_ (.cons ?_ (.cons ?_ (.cons ?_ .nil)))))))))
     ·exact fun _ _ => (.cons (ix_slice (E := 47) (size := 1) (j := i) (by kernel_rfl) (by kernel_rfl) rfl (by omega)) .nil)
     ·intro h1 h2
      obtain rfl : e = 0 := Nat.le_antisymm h2 h1
      obtain rfl : w' = wi.drew := hw.trans (by kernel_rfl)
      exact (.cons ((hO.drew : OwnR wi.drew 47 1 g mc (n + 1) ys2).cellAt _ hmine) .nil)
     ·intro h1 h2
      obtain rfl : e = 0 := Nat.le_antisymm h2 h1
      obtain rfl : w' = wi.drew := hw.trans (by kernel_rfl)
      exact (.cons ((hfbh8.drew : Blk wi.drew fb 35 (#[(Pv s0), (Pv s1), .slice pb L.length pc, .slice qb L.length qc, .slice (some ⟨g, 0, none⟩) mn mc])).cell 2 rfl) .nil)
     ·exact fun _ _ => (.cons (ix_own (j := i) (hK8) (by kernel_rfl) (by kernel_rfl) rfl (by omega)) .nil)
     ·intro h1 h2
      obtain rfl : e = 0 := Nat.le_antisymm h2 h1
      obtain rfl : w' = wi.drew := hw.trans (by kernel_rfl)
      exact (.cons ((hK8.drew : OwnV wi.drew 29 1 (.slice kb n kc) n (rs.map Rf.ptr)).cellAt _ (by simp [hq, Rf.ptr])) .nil)
     ·intro h1 h2
      obtain rfl : e = 0 := Nat.le_antisymm h2 h1
      obtain rfl : w' = wi.drew := hw.trans (by kernel_rfl)
      exact (.cons ((hqB.drew : Blk wi.drew q.rb 40 (#[I6 q.k, I6 ↑q.i, I6 q.t.kd, I6 q.t.nn, I6 q.t.lk, I6 q.t.ls, I6 q.t.ll, I6 q.t.lr, q.kv, I6 q.t.tt])).cell 1 rfl) .nil)
     ·exact fun _ _ => (.cons (ix_own (j := q.i) (hPh8) (by kernel_rfl) (by kernel_rfl) rfl hqi) .nil)
     ·intro h1 h2
      obtain rfl : e = 0 := Nat.le_antisymm h2 h1
      obtain rfl : w' = wi.drew := hw.trans (by kernel_rfl)
      exact (.cons ((hPh8.drew : OwnV wi.drew 47 1 (.slice pb L.length pc) L.length (L.map fun r => r.t.ptr)).cellAt _ (by simp [hqL, Tr.ptr])) .nil)
     ·intro h1 h2
      obtain rfl : e = 0 := Nat.le_antisymm h2 h1
      obtain rfl : w' = wi.drew := hw.trans (by kernel_rfl)
      exact (.cons (bin_ptr_neq (E := 106) (by kernel_rfl) ⟨12, by kernel_rfl⟩ (hqT.drew) (hqT.drew) (by simp)) .nil)
    ·refine .nil
    rintro a w123 hS hw124
    replace hw124 : w123 = wi.drew := hw124.trans (by kernel_rfl)
    have hB125 := OwnR.at' hw124 (hO.drew)
    have hE131 : Ext [] w0 w123 := by rw [hw124]; exact hEx.drew
    have hX132 : Ext [] wi w123 := by rw [hw124]; exact (Ext.refl _ _).drew
    have hG133 : Ext [g] w105 w123 := hEg.trans hX132 (by simp)
    replace hS := hS.kp [(0, (Pv fb)), (7, .slice kb n kc), (8, .slice (some ⟨g, 0, none⟩) (n + 1) mc), (11, .pointer none), (13, .pointer none), (15, I6 ↑i), (179, .bool false)]
    refine hK121 _ _ ?_
    refine cond_f hS rfl ?_
    refine wpIn_skip ?_
    refine hK120 _ _ ?_
    refine rgn 4 ?_
    refine sg wide_wide [.p, .p, .run ((Po g (0 + i * 1)))] [Ru Try.prog (vS (Instr.indexAt 32 (.slice (some ⟨g, 0, none⟩) (n + 1) mc) (I6 ↑i))) ((Po g (0 + i * 1))) w123] [(0, (Pv fb)), (7, .slice kb n kc), (8, .slice (some ⟨g, 0, none⟩) (n + 1) mc), (11, .pointer none), (13, .pointer none), (15, I6 ↑i), (179, .bool false), (182, (Po g (0 + i * 1)))] 3 1 hS (.cons (ix_slice (E := 47) (size := 1) (j := i) (by kernel_rfl) (by kernel_rfl) rfl (by omega)) .nil) fun a hS => ?_
    refine eff_store_own wide_wide (r := 0) (b := g) (off := 0 + i * 1) (u := Value.pointer none) (xs := ys2) hS (by kernel_rfl) hB125 (by omega) fun a ws134 hOs134 hEs134 hsz134 hS => ?_
    have hE140 : Ext [] w0 ws134 := hE131.trans hEs134 (fun b hb => by simp at hb; subst hb; exact .inr hng)
    have hG141 : Ext [g] w105 ws134 := hG133.trans hEs134 (by simp)
    refine seg_end ?_
    refine inBlock_normal ?_
    refine hK119 _ _ ?_
    refine rgn 3 ?_
    refine sg wide_wide [.p, .as (I6 (↑i + 1)), .p] [Value.int .i64 (IntKind.i64.wrap (↑i + 1)) = I6 (↑i + 1)] [(0, (Pv fb)), (7, .slice kb n kc), (8, .slice (some ⟨g, 0, none⟩) (n + 1) mc), (11, .pointer none), (13, .pointer none), (15, I6 (↑i + 1)), (179, .bool false)] 3 0 hS (.cons (as_i64 (by omega)) .nil) fun a hS => ?_
    refine seg_end ?_
    refine ⟨(i + 1, (ys2.set (0 + i * 1) (Value.pointer none))), ⟨hS.keepTo [0, 7, 8, 11, 13, 15] (by kernel_rfl), by omega, hOs134, ?_, hG141, hE140⟩, by simp; omega⟩
    intro j hj1 hj2
    rw [show 0 + i * 1 = i by omega, List.getElem?_set_ne (by omega)]
    exact hsame j (by omega) hj2
   ·
    replace hb118 := of_decide_eq_false hb118
    refine wpIn_exit ?_
    refine then_exit ?_
    refine then_exit ?_
    refine inBlock_hit ?_
    refine hK114 _ _ ?_
    refine sq fun K142 hK142 => ?_
    refine sq fun K143 hK143 => ?_
    refine rgn 2 ?_
    refine sg wide_wide [.p, .p] [] [(0, (Pv fb)), (7, .slice kb n kc), (8, .slice (some ⟨g, 0, none⟩) (n + 1) mc), (11, .pointer none), (13, .pointer none), (184, .bool false)] 2 0 hS .nil fun a hS => ?_
    refine seg_end ?_
    refine hK143 _ _ ?_
    refine cond_f hS rfl ?_
    refine wpIn_skip ?_
    refine hK142 _ _ ?_
    refine sq fun K144 hK144 => ?_
    refine rgn 1 ?_
    refine sg wide_wide [.p] [] [(0, (Pv fb)), (7, .slice kb n kc), (8, .slice (some ⟨g, 0, none⟩) (n + 1) mc), (11, .pointer none), (13, .pointer none), (184, .bool false), (4, .bool true)] 1 0 hS .nil fun a hS => ?_
    refine seg_end ?_
    refine hK144 _ _ ?_
    refine wpIn_ret ?_
    refine ret1 hS Try.results34 rfl ?_
    exact ⟨_, rfl, hF8, ⟨rfl, rfl, rfl⟩, .inl rfl, hEx⟩
  ·
   subst hpp hrp her her2
   have hF7 : FI w0.heap.size (m + 1) w7 ⟨fb, s0, s1, c0, c1 + 1, pb, pc, qb, qc, some ⟨g, 0, none⟩, mn, mc, L⟩ := (FI.bump hF5d (k := 1) hskn hE56).ext0 hrm.ext
   have hfbh7 : Blk w7 fb 35 #[(Pv s0), (Pv s1), .slice pb L.length pc, .slice qb L.length qc, .slice (some ⟨g, 0, none⟩) mn mc] := hF7.f
   have hPh7 : OwnV w7 47 1 (.slice pb L.length pc) L.length (L.map fun r => r.t.ptr) := hF7.P
   have hgph7 : ∀ x ∈ ob (.slice pb L.length pc), g ≠ x := (fun x hx e => (hF7.dP x (by rw [ob_oa] at hx; exact hx)).2 (by rw [← e]; simp [oa]))
   have hr0t : Blk w7 r0.t.b 106 (r0.t.cs (sOf s0 s1 r0.k)) := (hF7.ok.one r0 (List.mem_of_getElem? hr0)).ok.blk
   refine region_fn2 wide_wide [.q .p, .q .p, .q .p, .q .p, .q .p, .q .p, .q .p, .q .p, .q .p, .q .p, .q .p, .q .p, .q .p, .q (.ld (ks)), .q (.run (I6 ↑n)), .q (.run ((Po g (0 + n * 1)))), .q (.ld ((Pv r0.t.b))), .q .p, .q .p, .q .p, .q (.ld (.slice pb L.length pc)), .q (.run ((Po (bof (.slice pb L.length pc)) (0 + 0 * 1)))), .q (.ld ((Pv r0.t.b))), .q (.run (.bool false)), .q .p] [0, 0, 0, 0, 0, 0, 0, 0, 0, 0, 0, 0, 0, 0, 0, 0, 0, 0, 0, 0, 0, 0, 0, 0, 0] [0, 0, 0, 0, 0, 0, 0, 0, 0, 0, 0, 0, 0, 0, 0, 0, 0, 0, 0, 0, 0, 0, 0, 0, 0] [0, 0, 3, 7, 15, 31, 15, 79, 255, 511, 1023, 2047, 2047, 6143, 14335, 32767, 65535, 2047, 133119, 395263, 919551, 1968127, 4065279, 8388607, 16777215] [] 0 ([(0, (Pv fb)), (3, (Pv w.heap.size)), (5, I6 1), (7, .slice kb n kc), (8, .slice (some ⟨g, 0, none⟩) (n + 1) mc), (11, (Pv nb)), (12, I6 0), (13, (Pv rb)), (14, I6 0), (131, I6 0), (132, I6 0), (133, .bool false), (134, .bool false), (135, (Pv nb)), (136, .bool false), (137, I6 0), (138, .bool false), (139, .bool false), (140, .bool false), (141, .bool false), (142, .slice (some ⟨g, 0, none⟩) (n + 1) mc), (143, (Po w.heap.size 8)), (144, ks), (145, I6 ↑n), (146, (Po g (0 + n * 1))), (147, (Pv r0.t.b)), (148, (Pv fb)), (149, (Pv fb)), (150, (Po fb 2)), (151, .slice pb L.length pc), (152, (Po (bof (.slice pb L.length pc)) (0 + 0 * 1))), (153, (Pv r0.t.b)), (154, .bool false), (155, .bool false)]) [w7.drew] w7.drew (fun w' => [(13, [w'.cell? ⟨w.heap.size, 8, none⟩ = some (ks)]), (14, [Ru Try.prog (vS (Builtin.len_ #[41] 3 #[ks])) (I6 ↑n) w']), (15, [Ru Try.prog (vS (Instr.indexAt 32 (.slice (some ⟨g, 0, none⟩) (n + 1) mc) (I6 ↑n))) ((Po g (0 + n * 1))) w']), (16, [w'.cell? ⟨g, 0 + n * 1, none⟩ = some ((Pv r0.t.b))]), (20, [w'.cell? ⟨fb, 2, none⟩ = some (.slice pb L.length pc)]), (21, [Ru Try.prog (vS (Instr.indexAt 32 (.slice pb L.length pc) (I6 0))) ((Po (bof (.slice pb L.length pc)) (0 + 0 * 1))) w']), (22, [w'.cell? ⟨bof (.slice pb L.length pc), 0 + 0 * 1, none⟩ = some ((Pv r0.t.b))]), (23, [Ru Try.prog (vS (do eqGuard .neq 47 (.tmp 147) (.tmp 153) ((Pv r0.t.b)) ((Pv r0.t.b)); binOp .neq 47 ((Pv r0.t.b)) ((Pv r0.t.b)))) (.bool false) w'])]) [0, 3, 5, 7, 8, 11, 12, 13, 14] [] hS (by kernel_rfl) (by kernel_rfl) (by kernel_rfl) (by kernel_rfl) (fun _ => by kernel_rfl) (by kernel_rfl) (by kernel_rfl) (by kernel_rfl) ?_ ?_ ?_
   ·intro e w' hw
    refine (.cons ?_ (.cons ?_ (.cons ?_ (.cons ?_ (.cons ?_ (.cons ?_ (.cons ?_ (.cons ?_ .nil))))))))
    ·intro h1 h2
     obtain rfl : e = 0 := Nat.le_antisymm h2 h1
     obtain rfl : w' = w7.drew := hw.trans (by kernel_rfl)
     exact (.cons ((hB98.drew : Blk w7.drew w.heap.size 68 (#[I6 sx, .bool false, I6 lk, I6 ls, I6 ll, I6 lr, I6 kd, I6 nn, ks])).cell 8 rfl) .nil)
    ·exact fun _ _ => (.cons (run_len_rd (e := 3) hks (by kernel_rfl)) .nil)
    ·exact fun _ _ => (.cons (ix_slice (E := 47) (size := 1) (j := n) (by kernel_rfl) (by kernel_rfl) rfl (by omega)) .nil)
    ·intro h1 h2
     obtain rfl : e = 0 := Nat.le_antisymm h2 h1
     obtain rfl : w' = w7.drew := hw.trans (by kernel_rfl)
     exact (.cons ((hB101.drew : OwnR w7.drew 47 1 g mc (n + 1) (ys.set (0 + n * 1) (Value.pointer (some ⟨r0.t.b, 0, none⟩)))).cellAt _ (by simp [hyl])) .nil)
    ·intro h1 h2
     obtain rfl : e = 0 := Nat.le_antisymm h2 h1
     obtain rfl : w' = w7.drew := hw.trans (by kernel_rfl)
     exact (.cons ((hfbh7.drew : Blk w7.drew fb 35 (#[(Pv s0), (Pv s1), .slice pb L.length pc, .slice qb L.length qc, .slice (some ⟨g, 0, none⟩) mn mc])).cell 2 rfl) .nil)
    ·exact fun _ _ => (.cons (ix_own (j := 0) (hPh7) (by kernel_rfl) (by kernel_rfl) rfl (by omega)) .nil)
    ·intro h1 h2
     obtain rfl : e = 0 := Nat.le_antisymm h2 h1
     obtain rfl : w' = w7.drew := hw.trans (by kernel_rfl)
     exact (.cons ((hPh7.drew : OwnV w7.drew 47 1 (.slice pb L.length pc) L.length (L.map fun r => r.t.ptr)).cellAt _ (by simp [hr0, Tr.ptr])) .nil)
    ·intro h1 h2
     obtain rfl : e = 0 := Nat.le_antisymm h2 h1
     obtain rfl : w' = w7.drew := hw.trans (by kernel_rfl)
     exact (.cons (bin_ptr_neq (E := 106) (by kernel_rfl) ⟨12, by kernel_rfl⟩ (hr0t.drew) (hr0t.drew) (by simp)) .nil)
   ·refine .nil
   rintro a w146 hS hw147
   replace hw147 : w146 = w7.drew := hw147.trans (by kernel_rfl)
   have hB150 := OwnV.at' hw147 (hB100.drew)
   have hB151 := OwnR.at' hw147 (hB101.drew)
   have hE154 : Ext [] w0 w146 := by rw [hw147]; exact hE07.drew
   replace hS := hS.kp [(0, (Pv fb)), (3, (Pv w.heap.size)), (5, I6 1), (7, .slice kb n kc), (8, .slice (some ⟨g, 0, none⟩) (n + 1) mc), (11, (Pv nb)), (12, I6 0), (13, (Pv rb)), (14, I6 0), (155, .bool false)]
   refine hK103 _ _ ?_
   refine cond_f hS rfl ?_
   refine wpIn_skip ?_
   refine hK102 _ _ ?_
   refine sq fun K155 hK155 => ?_
   refine sq fun K156 hK156 => ?_
   refine rgn 1 ?_
   refine sg wide_wide [.p] [] [(0, (Pv fb)), (3, (Pv w.heap.size)), (5, I6 1), (7, .slice kb n kc), (8, .slice (some ⟨g, 0, none⟩) (n + 1) mc), (11, (Pv nb)), (12, I6 0), (13, (Pv rb)), (14, I6 0), (155, .bool false), (15, I6 0)] 1 0 hS .nil fun a hS => ?_
   refine seg_end ?_
   refine hK156 _ _ ?_
   refine wpIn_block ?_
   have hO7 := hB151
   have hK7 := hB150
   have hE07' := hE154
   have hE78 : Ext [] w7 w146 := by rw [hw147]; exact (Ext.refl [] w7).drew
   have hF7' : FI w0.heap.size (m + 1) w146 ⟨fb, s0, s1, c0, c1 + 1, pb, pc, qb, qc, some ⟨g, 0, none⟩, mn, mc, L⟩ := hF7.ext0 hE78
   refine loop_ghost (fun ((i, ys2) : Nat × List Value) a' w' => St 189 [] [(0, (Pv fb)), (7, .slice kb n kc), (8, .slice (some ⟨g, 0, none⟩) (n + 1) mc), (11, (Pv nb)), (13, (Pv rb)), (15, I6 ↑i)] a' ∧ i ≤ n ∧ OwnR w' 47 1 g mc (n + 1) ys2 ∧ (∀ j, i ≤ j → j < n → ys2[j]? = (rs.map fun r => r.t.ptr)[j]?) ∧ Ext [g] w146 w' ∧ Ext [] w0 w') (fun ((i, ys2) : Nat × List Value) => n - i) (0, (ys.set (0 + n * 1) (Value.pointer (some ⟨r0.t.b, 0, none⟩)))) ⟨hS.keepTo [0, 7, 8, 11, 13, 15] (by kernel_rfl), Nat.zero_le _, hO7, (fun j _ hj => by rw [← hyt, List.getElem?_take, if_pos (by omega), List.getElem?_set_ne (by omega)]), Ext.refl _ _, hE07'⟩ ?_
   rintro ⟨i, ys2⟩ a wi ⟨hS, hil, hO, hsame, hEg, hEx⟩
   have hF8 : FI w0.heap.size (m + 1) wi ⟨fb, s0, s1, c0, c1 + 1, pb, pc, qb, qc, some ⟨g, 0, none⟩, mn, mc, L⟩ := hF7'.buf rfl hEg hO hmle
   have hK8 := hK7.ext hEg (fun x hx hm => by simp at hm; exact OwnV.neR hK7 hO7 (by decide) x hx hm.symm)
   have hfbh8 : Blk wi fb 35 #[(Pv s0), (Pv s1), .slice pb L.length pc, .slice qb L.length qc, .slice (some ⟨g, 0, none⟩) mn mc] := hF8.f
   have hPh8 : OwnV wi 47 1 (.slice pb L.length pc) L.length (L.map fun r => r.t.ptr) := hF8.P
   have hgph8 : ∀ x ∈ ob (.slice pb L.length pc), g ≠ x := (fun x hx e => (hF8.dP x (by rw [ob_oa] at hx; exact hx)).2 (by rw [← e]; simp [oa]))
   refine sq fun K157 hK157 => ?_
   refine sq fun K158 hK158 => ?_
   refine rgn 4 ?_
   refine sg wide_wide [.p, .p, .p, .p] [] [(0, (Pv fb)), (7, .slice kb n kc), (8, .slice (some ⟨g, 0, none⟩) (n + 1) mc), (11, (Pv nb)), (13, (Pv rb)), (15, I6 ↑i), (159, .bool (decide ((↑i : Int) < ↑n)))] 4 0 hS .nil fun a hS => ?_
   refine seg_end ?_
   refine hK158 _ _ ?_
   refine cond_b hS rfl (fun hb159 => ?_) (fun hb159 => ?_)
   ·
    replace hb159 := of_decide_eq_true hb159
    have hi : i < n := by omega
    obtain ⟨q, hq⟩ : ∃ q, rs[i]? = some q := ⟨_, List.getElem?_eq_getElem (by omega)⟩
    have hqm : q ∈ L := hrL q (List.mem_of_getElem? hq)
    have hq1 := hF8.ok.one q hqm
    have hqi := hq1.ki
    have hqL := hF8.ok.at hqm
    have hyl2 : ys2.length = n + 1 := by have := hO.len; omega
    have hmine : ys2[0 + i * 1]? = some ((Pv q.t.b)) := by
     rw [show 0 + i * 1 = i by omega, hsame i (Nat.le_refl _) hi]; simp [hq, Tr.ptr]
    have hqrow := hq1.row
    have hqB : Blk wi q.rb 40 #[I6 q.k, I6 ↑q.i, I6 q.t.kd, I6 q.t.nn, I6 q.t.lk, I6 q.t.ls, I6 q.t.ll, I6 q.t.lr, q.kv, I6 q.t.tt] := hq1.blk
    have hqT : Blk wi q.t.b 106 (q.t.cs (sOf s0 s1 q.k)) := hq1.ok.blk
    refine wpIn_skip ?_
    refine hK157 _ _ ?_
    refine sq fun K160 hK160 => ?_
    refine wpIn_block ?_
    refine sq fun K161 hK161 => ?_
    refine sq fun K162 hK162 => ?_
    refine region_fn2 wide_wide [.q .p, .q .p, .q (.run ((Po g (0 + i * 1)))), .q (.ld ((Pv q.t.b))), .q .p, .q .p, .q .p, .q (.ld (.slice pb L.length pc)), .q .p, .q .p, .q (.run ((Po (bof (.slice kb n kc)) (0 + i * 1)))), .q (.ld ((Pv q.rb))), .q .p, .q .p, .q (.ld (I6 ↑q.i)), .q (.run ((Po (bof (.slice pb L.length pc)) (0 + q.i * 1)))), .q (.ld ((Pv q.t.b))), .q (.run (.bool false))] [0, 0, 0, 0, 0, 0, 0, 0, 0, 0, 0, 0, 0, 0, 0, 0, 0, 0] [0, 0, 0, 0, 0, 0, 0, 0, 0, 0, 0, 0, 0, 0, 0, 0, 0, 0] [0, 0, 3, 7, 0, 16, 48, 112, 0, 0, 768, 1792, 3840, 7936, 16128, 32752, 65520, 131071] [] 0 ([(0, (Pv fb)), (7, .slice kb n kc), (8, .slice (some ⟨g, 0, none⟩) (n + 1) mc), (11, (Pv nb)), (13, (Pv rb)), (15, I6 ↑i), (162, .slice (some ⟨g, 0, none⟩) (n + 1) mc), (163, I6 ↑i), (164, (Po g (0 + i * 1))), (165, (Pv q.t.b)), (166, (Pv fb)), (167, (Pv fb)), (168, (Po fb 2)), (169, .slice pb L.length pc), (170, .slice kb n kc), (171, I6 ↑i), (172, (Po (bof (.slice kb n kc)) (0 + i * 1))), (173, (Pv q.rb)), (174, (Pv q.rb)), (175, (Po q.rb 1)), (176, I6 ↑q.i), (177, (Po (bof (.slice pb L.length pc)) (0 + q.i * 1))), (178, (Pv q.t.b)), (179, .bool false)]) [wi.drew] wi.drew (fun w' => [(2, [Ru Try.prog (vS (Instr.indexAt 32 (.slice (some ⟨g, 0, none⟩) (n + 1) mc) (I6 ↑i))) ((Po g (0 + i * 1))) w']), (3, [w'.cell? ⟨g, 0 + i * 1, none⟩ = some ((Pv q.t.b))]), (7, [w'.cell? ⟨fb, 2, none⟩ = some (.slice pb L.length pc)]), (10, [Ru Try.prog (vS (Instr.indexAt 33 (.slice kb n kc) (I6 ↑i))) ((Po (bof (.slice kb n kc)) (0 + i * 1))) w']), (11, [w'.cell? ⟨bof (.slice kb n kc), 0 + i * 1, none⟩ = some ((Pv q.rb))]), (14, [w'.cell? ⟨q.rb, 1, none⟩ = some (I6 ↑q.i)]), (15, [Ru Try.prog (vS (Instr.indexAt 32 (.slice pb L.length pc) (I6 ↑q.i))) ((Po (bof (.slice pb L.length pc)) (0 + q.i * 1))) w']), (16, [w'.cell? ⟨bof (.slice pb L.length pc), 0 + q.i * 1, none⟩ = some ((Pv q.t.b))]), (17, [Ru Try.prog (vS (do eqGuard .neq 47 (.tmp 165) (.tmp 178) ((Pv q.t.b)) ((Pv q.t.b)); binOp .neq 47 ((Pv q.t.b)) ((Pv q.t.b)))) (.bool false) w'])]) [0, 7, 8, 11, 13, 15] [] hS (by kernel_rfl) (by kernel_rfl) (by kernel_rfl) (by kernel_rfl) (fun _ => by kernel_rfl) (by kernel_rfl) (by kernel_rfl) (by kernel_rfl) ?_ ?_ ?_
    ·intro e w' hw
     refine (.cons ?_ (.cons ?_ (.cons ?_ (.cons ?_ (.cons ?_ (.cons ?_ (.cons ?_ (.cons ?_ (.cons ?_ .nil)))))))))
     ·exact fun _ _ => (.cons (ix_slice (E := 47) (size := 1) (j := i) (by kernel_rfl) (by kernel_rfl) rfl (by omega)) .nil)
     ·intro h1 h2
      obtain rfl : e = 0 := Nat.le_antisymm h2 h1
      obtain rfl : w' = wi.drew := hw.trans (by kernel_rfl)
      exact (.cons ((hO.drew : OwnR wi.drew 47 1 g mc (n + 1) ys2).cellAt _ hmine) .nil)
     ·intro h1 h2
      obtain rfl : e = 0 := Nat.le_antisymm h2 h1
      obtain rfl : w' = wi.drew := hw.trans (by kernel_rfl)
      exact (.cons ((hfbh8.drew : Blk wi.drew fb 35 (#[(Pv s0), (Pv s1), .slice pb L.length pc, .slice qb L.length qc, .slice (some ⟨g, 0, none⟩) mn mc])).cell 2 rfl) .nil)
     ·exact fun _ _ => (.cons (ix_own (j := i) (hK8) (by kernel_rfl) (by kernel_rfl) rfl (by omega)) .nil)
     ·intro h1 h2
      obtain rfl : e = 0 := Nat.le_antisymm h2 h1
      obtain rfl : w' = wi.drew := hw.trans (by kernel_rfl)
      exact (.cons ((hK8.drew : OwnV wi.drew 29 1 (.slice kb n kc) n (rs.map Rf.ptr)).cellAt _ (by simp [hq, Rf.ptr])) .nil)
     ·intro h1 h2
      obtain rfl : e = 0 := Nat.le_antisymm h2 h1
      obtain rfl : w' = wi.drew := hw.trans (by kernel_rfl)
      exact (.cons ((hqB.drew : Blk wi.drew q.rb 40 (#[I6 q.k, I6 ↑q.i, I6 q.t.kd, I6 q.t.nn, I6 q.t.lk, I6 q.t.ls, I6 q.t.ll, I6 q.t.lr, q.kv, I6 q.t.tt])).cell 1 rfl) .nil)
     ·exact fun _ _ => (.cons (ix_own (j := q.i) (hPh8) (by kernel_rfl) (by kernel_rfl) rfl hqi) .nil)
     ·intro h1 h2
      obtain rfl : e = 0 := Nat.le_antisymm h2 h1
      obtain rfl : w' = wi.drew := hw.trans (by kernel_rfl)
      exact (.cons ((hPh8.drew : OwnV wi.drew 47 1 (.slice pb L.length pc) L.length (L.map fun r => r.t.ptr)).cellAt _ (by simp [hqL, Tr.ptr])) .nil)
     ·intro h1 h2
      obtain rfl : e = 0 := Nat.le_antisymm h2 h1
      obtain rfl : w' = wi.drew := hw.trans (by kernel_rfl)
      exact (.cons (bin_ptr_neq (E := 106) (by kernel_rfl) ⟨12, by kernel_rfl⟩ (hqT.drew) (hqT.drew) (by simp)) .nil)
    ·refine .nil
    rintro a w164 hS hw165
    replace hw165 : w164 = wi.drew := hw165.trans (by kernel_rfl)
    have hB166 := OwnR.at' hw165 (hO.drew)
    have hE172 : Ext [] w0 w164 := by rw [hw165]; exact hEx.drew
    have hX173 : Ext [] wi w164 := by rw [hw165]; exact (Ext.refl _ _).drew
    have hG174 : Ext [g] w146 w164 := hEg.trans hX173 (by simp)
    replace hS := hS.kp [(0, (Pv fb)), (7, .slice kb n kc), (8, .slice (some ⟨g, 0, none⟩) (n + 1) mc), (11, (Pv nb)), (13, (Pv rb)), (15, I6 ↑i), (179, .bool false)]
    refine hK162 _ _ ?_
    refine cond_f hS rfl ?_
    refine wpIn_skip ?_
    refine hK161 _ _ ?_
    refine rgn 4 ?_
    refine sg wide_wide [.p, .p, .run ((Po g (0 + i * 1)))] [Ru Try.prog (vS (Instr.indexAt 32 (.slice (some ⟨g, 0, none⟩) (n + 1) mc) (I6 ↑i))) ((Po g (0 + i * 1))) w164] [(0, (Pv fb)), (7, .slice kb n kc), (8, .slice (some ⟨g, 0, none⟩) (n + 1) mc), (11, (Pv nb)), (13, (Pv rb)), (15, I6 ↑i), (179, .bool false), (182, (Po g (0 + i * 1)))] 3 1 hS (.cons (ix_slice (E := 47) (size := 1) (j := i) (by kernel_rfl) (by kernel_rfl) rfl (by omega)) .nil) fun a hS => ?_
    refine eff_store_own wide_wide (r := 0) (b := g) (off := 0 + i * 1) (u := Value.pointer none) (xs := ys2) hS (by kernel_rfl) hB166 (by omega) fun a ws175 hOs175 hEs175 hsz175 hS => ?_
    have hE181 : Ext [] w0 ws175 := hE172.trans hEs175 (fun b hb => by simp at hb; subst hb; exact .inr hng)
    have hG182 : Ext [g] w146 ws175 := hG174.trans hEs175 (by simp)
    refine seg_end ?_
    refine inBlock_normal ?_
    refine hK160 _ _ ?_
    refine rgn 3 ?_
    refine sg wide_wide [.p, .as (I6 (↑i + 1)), .p] [Value.int .i64 (IntKind.i64.wrap (↑i + 1)) = I6 (↑i + 1)] [(0, (Pv fb)), (7, .slice kb n kc), (8, .slice (some ⟨g, 0, none⟩) (n + 1) mc), (11, (Pv nb)), (13, (Pv rb)), (15, I6 (↑i + 1)), (179, .bool false)] 3 0 hS (.cons (as_i64 (by omega)) .nil) fun a hS => ?_
    refine seg_end ?_
    refine ⟨(i + 1, (ys2.set (0 + i * 1) (Value.pointer none))), ⟨hS.keepTo [0, 7, 8, 11, 13, 15] (by kernel_rfl), by omega, hOs175, ?_, hG182, hE181⟩, by simp; omega⟩
    intro j hj1 hj2
    rw [show 0 + i * 1 = i by omega, List.getElem?_set_ne (by omega)]
    exact hsame j (by omega) hj2
   ·
    replace hb159 := of_decide_eq_false hb159
    refine wpIn_exit ?_
    refine then_exit ?_
    refine then_exit ?_
    refine inBlock_hit ?_
    refine hK155 _ _ ?_
    refine sq fun K183 hK183 => ?_
    refine sq fun K184 hK184 => ?_
    refine rgn 2 ?_
    refine sg wide_wide [.p, .p] [] [(0, (Pv fb)), (7, .slice kb n kc), (8, .slice (some ⟨g, 0, none⟩) (n + 1) mc), (11, (Pv nb)), (13, (Pv rb)), (184, .bool true)] 2 0 hS .nil fun a hS => ?_
    refine seg_end ?_
    refine hK184 _ _ ?_
    refine cond_t hS rfl ?_
    have hg5 : g < w77.heap.size := OwnR.lt hO5
    have hok8 := (((hok.ext hrm.ext _ (by simp)).ext hE78 _ (by simp)).ext hEg _ (by
     intro x hx hf
     obtain rfl := (by simpa using hx : x = g)
     rcases Tr.foot_new hf with h | h | ⟨t, ht, h⟩
     ·subst h; simp at hnb; omega
     ·have := hvs _ h; simp at this; omega
     ·obtain ⟨q, hq, rfl⟩ := List.mem_map.1 ht
      exact hF5.dB x (by simp [oa]) ⟨q, hrL q hq, .inl h⟩))
    have hrb7 := hrb.ext hE78 (by simp)
    have hkv7 := hkv.ext hE78 (by simp)
    have hrb8 := hrb7.ext hEg (by simpa using (OwnR.ne_type hO7 hrb7 (by decide)).symm)
    have hkv8 := hkv7.ext hEg (fun x hx hm => by simp at hm; exact OwnV.neR hkv7 hO7 (by decide) x hx hm.symm)
    refine rgn 4 ?_
    refine sg wide_wide [.p, .p, .p] [] [(0, (Pv fb)), (7, .slice kb n kc), (8, .slice (some ⟨g, 0, none⟩) (n + 1) mc), (11, (Pv nb)), (13, (Pv rb)), (184, .bool true), (185, (Pv fb)), (186, (Pv nb)), (187, (Pv rb))] 3 1 hS .nil fun a hS => ?_
    refine eff_call wide_wide (r := 0) (f := 58) (vs := [(Pv fb), (Pv nb), (Pv rb)]) (cap := #[]) (d := (some 188)) hS (by kernel_rfl) Try.call58 #[(Pv fb), (Pv nb), (Pv rb)] (by kernel_rfl) (Add_node hfbh8 hF8.P hF8.R hrb8 (by omega)) ?_
    rintro _ w3 ⟨ga, ca, gb, cb, rfl, b1, b2, b3, b4, hE3, fa, fb_⟩
    refine ⟨_, rfl, fun a hS => ?_⟩
    have hw5 := hEg.size
    have h56 := hmk.ext.size
    have hnrb : w0.heap.size ≤ rb := Nat.le_trans (Nat.le_trans (Nat.le_trans hw01 hEg5.size) (by simpa using h56)) hrbn
    have hRes := FI.add hF8 (k := 1) (rs := rs) (W0 := w77.heap.size) (Nat.le_trans hw01 hEg5.size) (by simp) hok8 ⟨0, hrb8⟩ hkv8 (fun r hr => hF8.ok.at (hrL r hr)) ⟨by omega, by simp [Fo.cOf], fun r hr hrk => by have := hF5.num r hr; simp [hrk] at this; omega⟩ (by show L.length + 1 ≤ m + 1; omega)
     ⟨hnb, hvs, Nat.le_trans (by simpa using h56) hrbn, fun b hb => Nat.le_trans (by simpa using h56) (hkvn b hb)⟩
     ⟨fun x hx => (hF5.P.oaBlk hx).elim fun _ h => h.lt, fun x hx => (hF5.R.oaBlk hx).elim fun _ h => h.lt, fun x hx => hF5.B.elim fun _ hB => (hB.oaBlk hx).elim fun _ h => h.lt, fun x hx => hF5.ok.foot_lt hx⟩ b1 b2 b3 b4 hE3 fa fb_
    have hE4 : Ext [] w0 w3 := hEx.trans hE3 (by
     intro b hb
     simp only [List.mem_cons, List.mem_append] at hb
     rcases hb with rfl | rfl | hb | hb
     ·exact .inr hnfb
     ·exact .inr hnrb
     ·exact .inr (hnw.2.2.2.1 b hb)
     ·exact .inr (hnw.2.2.2.2.1 b hb))
    refine seg_end ?_
    refine hK183 _ _ ?_
    refine sq fun K185 hK185 => ?_
    refine rgn 1 ?_
    refine sg wide_wide [.p] [] [(0, (Pv fb)), (7, .slice kb n kc), (8, .slice (some ⟨g, 0, none⟩) (n + 1) mc), (11, (Pv nb)), (13, (Pv rb)), (184, .bool true), (4, .bool true)] 1 0 hS .nil fun a hS => ?_
    refine seg_end ?_
    refine hK185 _ _ ?_
    refine wpIn_ret ?_
    refine ret1 hS Try.results34 rfl ?_
    exact ⟨_, rfl, hRes, ⟨rfl, rfl, rfl⟩, .inr ⟨_, rfl⟩, hE4⟩

end Go.Proofs.Ytpglmeeledmkoaa
