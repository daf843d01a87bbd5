import Derived.Test.YtpglmeeledmkoaaProg
import Derived.Test.YtpglmeeledmkoaaVc
import Derived.Test.YtpglmeeledmkoaaT21
namespace Go.Proofs.Ytpglmeeledmkoaa
open Go.Vc

theorem Mem_0 {fb n bn bc : Nat} {p0 p1 bb : Option Addr} {pv rv : Value} {w : World} (hB : Blk w fb 35 #[.pointer p0, .pointer p1, pv, rv, .slice bb bn bc]) (hn : bn < n ∧ n ≤ 17592186044400) :
  Calls Try.prog 60 #[(Pv fb), I6 ↑n] w fun e w' => ∃ g c m ys, e = .returned (.slice (some ⟨g, 0, none⟩) n c) ∧ Blk w' fb 35 #[.pointer p0, .pointer p1, pv, rv, .slice (some ⟨g, 0, none⟩) m c] ∧ OwnR w' 47 1 g c m ys ∧ n ≤ m ∧ Ext [fb] w w' ∧ (bb = some ⟨g, 0, none⟩ ∨ w.heap.size ≤ g) := by
 obtain ⟨m, hm⟩ : ∃ m : Nat, (m : Int) = 2 * (n : Int) + 8 := ⟨2 * n + 8, by omega⟩
 refine calls_body 25 [(0, (Pv fb)), (1, I6 ↑n)] Try.func60 rfl (by kernel_rfl) (by kernel_rfl) (by kernel_rfl) fun a hS => ?_
 have hE0 : Ext [fb] w w := Ext.refl _ _
 refine sq fun K1 hK1 => ?_
 refine rgn 1 ?_
 refine sg wide_wide [.p] [] [(0, (Pv fb)), (1, I6 ↑n), (4, .slice none 0 0)] 1 0 hS .nil fun a hS => ?_
 refine seg_end ?_
 refine hK1 _ _ ?_
 refine sq fun K2 hK2 => ?_
 refine sq fun K3 hK3 => ?_
 refine rgn 7 ?_
 refine sg wide_wide [.p, .p, .p, .ld (.slice bb bn bc), .p, .p, .as (.bool true)] [_, Value.bool (decide ((↑bn : Int) < ↑n)) = .bool true] [(0, (Pv fb)), (1, I6 ↑n), (4, .slice none 0 0), (11, .bool true)] 7 0 hS (.cons (hB.cell 4 rfl) (.cons (as_t (by omega)) .nil)) fun a hS => ?_
 refine seg_end ?_
 refine hK3 _ _ ?_
 refine cond_t hS rfl ?_
 refine rgn 8 ?_
 refine sg wide_wide [.p, .p, .as (I6 (2 * ↑n)), .as (I6 ↑m)] [Value.int .i64 (IntKind.i64.wrap (2 * ↑n)) = I6 (2 * ↑n), Value.int .i64 (IntKind.i64.wrap ((2 * ↑n) + 8)) = I6 ↑m] [(0, (Pv fb)), (1, I6 ↑n), (4, .slice none 0 0), (11, .bool true), (12, (Pv fb)), (15, I6 ↑m)] 4 4 hS (.cons (as_i64 (by omega)) (.cons ((by rw [show ((2 * ↑n) + 8 : Int) = ↑m from by omega]; exact as_i64 (by omega))) .nil)) fun a hS => ?_
 obtain ⟨wm, ym, hrm, hOm, hEm, hsm⟩ := make_len (P := Try.prog) (w := w) (T := 32) (E := 47) (size := 1) (bytes := 8) (z := #[.pointer none]) (l := (m : Int)) (by kernel_rfl) (by kernel_rfl) (by omega) (by omega) (by omega)
 rw [Int.toNat_natCast] at hrm hOm
 refine eff_run wide_wide (r := 3) (s := vS (Instr.makeSlice 32 (I6 ↑m) (I6 ↑m))) (d := (some 16)) (v := .slice (some ⟨w.heap.size, 0, none⟩) m m) hS (by kernel_rfl) hrm fun a hS => ?_
 have hE1 := hE0.trans0 hEm
 have hB4 := hB.ext hEm (by simp)
 refine sg wide_wide [.p, .p] [] [(0, (Pv fb)), (1, I6 ↑n), (4, .slice none 0 0), (11, .bool true), (16, .slice (some ⟨w.heap.size, 0, none⟩) m m), (18, (Po fb 4))] 7 1 hS .nil fun a hS => ?_
 refine eff_store wide_wide (r := 0) (b := fb) (off := 4) (vs := [.slice (some ⟨w.heap.size, 0, none⟩) m m]) hS (by kernel_rfl) hB4 (by simp) fun a w5 hw6 hS => ?_
 have hB7 : Blk w5 fb 35 (#[.pointer p0, .pointer p1, pv, rv, .slice (some ⟨w.heap.size, 0, none⟩) m m]) := by rw [hw6]; exact hB4.upd _ _
 have hB8 := OwnR.at' hw6 (hOm.updNe ((OwnR.ne_type hOm hB4 (by decide)).symm) _ _)
 have hE9 : Ext [fb] w w5 := by rw [hw6]; exact hE1.updIn (.inl (by simp)) _ _
 refine seg_end ?_
 refine hK2 _ _ ?_
 refine sq fun K10 hK10 => ?_
 refine rgn 7 ?_
 refine sg wide_wide [.p, .p, .p, .ld (.slice (some ⟨w.heap.size, 0, none⟩) m m), .p, .run (.slice (some ⟨w.heap.size, 0, none⟩) n m), .p] [_, Ru Try.prog (vS (Instr.sliceAt 32 (.slice (some ⟨w.heap.size, 0, none⟩) m m) none (some (I6 ↑n)) none)) (.slice (some ⟨w.heap.size, 0, none⟩) n m) w5] [(0, (Pv fb)), (1, I6 ↑n), (4, .slice (some ⟨w.heap.size, 0, none⟩) n m), (11, .bool true)] 7 0 hS (.cons (hB7.cell 4 rfl) (.cons (sl_h (E := 47) (size := 1) (h := n) (by kernel_rfl) (by kernel_rfl) rfl (by omega)) .nil)) fun a hS => ?_
 refine seg_end ?_
 refine hK10 _ _ ?_
 refine wpIn_ret ?_
 refine ret1 hS Try.results60 rfl ?_
 exact ⟨w.heap.size, m, m, ym, rfl, hB7, hB8, by omega, hE9, .inr (Nat.le_refl _)⟩

theorem Mem_1 {fb g n bn bc : Nat} {p0 p1 : Option Addr} {pv rv : Value} {xs : List Value} {w : World} (hB : Blk w fb 35 #[.pointer p0, .pointer p1, pv, rv, .slice (some ⟨g, 0, none⟩) bn bc]) (hO : OwnR w 47 1 g bc bn xs) (hn : n ≤ bn) :
  Calls Try.prog 60 #[(Pv fb), I6 ↑n] w fun e w' => e = .returned (.slice (some ⟨g, 0, none⟩) n bc) ∧ w' = w := by
 have hle := hO.le
 refine calls_body 25 [(0, (Pv fb)), (1, I6 ↑n)] Try.func60 rfl (by kernel_rfl) (by kernel_rfl) (by kernel_rfl) fun a hS => ?_
 refine sq fun K1 hK1 => ?_
 refine rgn 1 ?_
 refine sg wide_wide [.p] [] [(0, (Pv fb)), (1, I6 ↑n), (4, .slice none 0 0)] 1 0 hS .nil fun a hS => ?_
 refine seg_end ?_
 refine hK1 _ _ ?_
 refine sq fun K2 hK2 => ?_
 refine sq fun K3 hK3 => ?_
 refine rgn 7 ?_
 refine sg wide_wide [.p, .p, .p, .ld (.slice (some ⟨g, 0, none⟩) bn bc), .p, .p, .as (.bool false)] [_, Value.bool (decide ((↑bn : Int) < ↑n)) = .bool false] [(0, (Pv fb)), (1, I6 ↑n), (4, .slice none 0 0), (11, .bool false)] 7 0 hS (.cons (hB.cell 4 rfl) (.cons (as_f (by omega)) .nil)) fun a hS => ?_
 refine seg_end ?_
 refine hK3 _ _ ?_
 refine cond_f hS rfl ?_
 refine wpIn_skip ?_
 refine hK2 _ _ ?_
 refine sq fun K4 hK4 => ?_
 refine rgn 7 ?_
 refine sg wide_wide [.p, .p, .p, .ld (.slice (some ⟨g, 0, none⟩) bn bc), .p, .run (.slice (some ⟨g, 0, none⟩) n bc), .p] [_, Ru Try.prog (vS (Instr.sliceAt 32 (.slice (some ⟨g, 0, none⟩) bn bc) none (some (I6 ↑n)) none)) (.slice (some ⟨g, 0, none⟩) n bc) w] [(0, (Pv fb)), (1, I6 ↑n), (4, .slice (some ⟨g, 0, none⟩) n bc), (11, .bool false)] 7 0 hS (.cons (hB.cell 4 rfl) (.cons (sl_h (E := 47) (size := 1) (h := n) (by kernel_rfl) (by kernel_rfl) rfl (by omega)) .nil)) fun a hS => ?_
 refine seg_end ?_
 refine hK4 _ _ ?_
 refine wpIn_ret ?_
 refine ret1 hS Try.results60 rfl ?_
 exact ⟨rfl, rfl⟩

theorem Mem_any {fb n bn bc : Nat} {p0 p1 bb : Option Addr} {pv rv : Value} {xs : List Value} {w : World} (hB : Blk w fb 35 #[.pointer p0, .pointer p1, pv, rv, .slice bb bn bc]) (hO : OwnV w 47 1 (.slice bb bn bc) bn xs) (hn : 0 < n ∧ n ≤ 17592186044400) :
  Calls Try.prog 60 #[(Pv fb), I6 ↑n] w fun e w' => ∃ g c m ys, e = .returned (.slice (some ⟨g, 0, none⟩) n c) ∧ Blk w' fb 35 #[.pointer p0, .pointer p1, pv, rv, .slice (some ⟨g, 0, none⟩) m c] ∧ OwnR w' 47 1 g c m ys ∧ n ≤ m ∧ Ext [fb] w w' ∧ (bb = some ⟨g, 0, none⟩ ∨ w.heap.size ≤ g) := by
 by_cases h : bn < n
 ·exact Mem_0 hB ⟨h, hn.2⟩
 ·obtain ⟨g, cap, h1, h2⟩ := hO.some_of_pos (by omega)
  simp only [Value.slice.injEq, true_and] at h1
  obtain ⟨rfl, rfl⟩ := h1
  refine (Mem_1 hB h2 (by omega)).mono fun e w' ⟨h3, h4⟩ => ?_
  subst h4
  exact ⟨g, bc, bn, xs, h3, hB, h2, by omega, Ext.refl _ _, .inl rfl⟩

theorem Add_node {fb n pc qc t r : Nat} {p0 p1 pb qb : Option Addr} {bv kv : Value} {k z kd nn lk ls ll lr tt : Int} {xs ys : List Value} {w : World} (hB : Blk w fb 35 #[.pointer p0, .pointer p1, .slice pb n pc, .slice qb n qc, bv]) (hP : OwnV w 47 1 (.slice pb n pc) n xs) (hR : OwnV w 29 1 (.slice qb n qc) n ys) (hr : Blk w r 40 #[I6 k, I6 z, I6 kd, I6 nn, I6 lk, I6 ls, I6 ll, I6 lr, kv, I6 tt]) (hn : n ≤ 4398046511104) :
  Calls Try.prog 58 #[(Pv fb), (Pv t), (Pv r)] w fun e w' => ∃ ga ca gb cb, e = .returned (.tuple #[]) ∧ Blk w' fb 35 #[.pointer p0, .pointer p1, .slice (some ⟨ga, 0, none⟩) (n + 1) ca, .slice (some ⟨gb, 0, none⟩) (n + 1) cb, bv] ∧ OwnR w' 47 1 ga ca (n + 1) (xs ++ [(Pv t)]) ∧ OwnR w' 29 1 gb cb (n + 1) (ys ++ [(Pv r)]) ∧ Blk w' r 40 #[I6 k, I6 ↑n, I6 kd, I6 nn, I6 lk, I6 ls, I6 ll, I6 lr, kv, I6 tt] ∧ Ext (fb :: r :: (oa pb ++ oa qb)) w w' ∧ (ga ∈ oa pb ∨ w.heap.size ≤ ga) ∧ (gb ∈ oa qb ∨ w.heap.size ≤ gb) := by
 refine calls_body 34 [(0, (Pv fb)), (1, (Pv t)), (2, (Pv r))] Try.func58 rfl (by kernel_rfl) (by kernel_rfl) (by kernel_rfl) fun a hS => ?_
 have hE0 : Ext (fb :: r :: (oa pb ++ oa qb)) w w := Ext.refl _ _
 refine sq fun K1 hK1 => ?_
 refine rgn 9 ?_
 refine sg wide_wide [.p, .p, .p, .p, .ld (.slice qb n qc), .p, .p, .p] [_] [(0, (Pv fb)), (1, (Pv t)), (2, (Pv r)), (11, I6 ↑n), (13, (Po r 1))] 8 1 hS (.cons (hB.cell 3 rfl) .nil) fun a hS => ?_
 refine eff_store wide_wide (r := 0) (b := r) (off := 1) (vs := [I6 ↑n]) hS (by kernel_rfl) hr (by simp) fun a w2 hw3 hS => ?_
 have hB4 := Blk.at' hw3 (hB.updNe (Blk.ne_type hr hB (by decide)) _ _)
 have hB5 : Blk w2 r 40 (#[I6 k, I6 ↑n, I6 kd, I6 nn, I6 lk, I6 ls, I6 ll, I6 lr, kv, I6 tt]) := by rw [hw3]; exact hr.upd _ _
 have hB6 := OwnV.at' hw3 (hP.updNe (OwnV.ne hP hr (by decide)) _ _)
 have hB7 := OwnV.at' hw3 (hR.updNe (OwnV.ne hR hr (by decide)) _ _)
 have hE8 : Ext (fb :: r :: (oa pb ++ oa qb)) w w2 := by rw [hw3]; exact hE0.updIn (.inl (by simp)) _ _
 refine seg_end ?_
 refine hK1 _ _ ?_
 refine sq fun K9 hK9 => ?_
 refine rgn 11 ?_
 refine sg wide_wide [.p, .p, .p, .p, .ld (.slice pb n pc), .p] [_] [(0, (Pv fb)), (1, (Pv t)), (2, (Pv r)), (14, (Pv fb)), (18, .slice pb n pc), (19, (Pv t))] 6 5 hS (.cons (hB4.cell 2 rfl) .nil) fun a hS => ?_
 refine eff_new wide_wide (r := 4) (cs := #[(Pv t)]) (T := 47) (v := Value.slice (some ⟨w2.heap.size, 0, none⟩) 1 1) (d := (some 20)) hS (by kernel_rfl) fun a w10 hw11 hS => ?_
 have hB16 := Blk.at' hw11 (hB4.alloc _)
 have hB17 := Blk.at' hw11 (hB5.alloc _)
 have hB18 := OwnV.at' hw11 (hB6.alloc _)
 have hB19 := OwnV.at' hw11 (hB7.alloc _)
 have hB20 : Blk w10 (w2.heap.size) 47 #[(Pv t)] := by rw [hw11]; exact Blk.new _ _ _
 have hs21 : w.heap.size ≤ w2.heap.size := hE8.size
 have hE22 : Ext (fb :: r :: (oa pb ++ oa qb)) w w10 := by rw [hw11]; exact hE8.alloc _
 refine eff_append2 wide_wide (r := 3) (d := (some 21)) (t := 32) (ty := 32) (e := 47) (size := 1) (bytes := 8) (len := n) (b := w2.heap.size) (off := 0) (k := 1) (c := 1) (z := #[.pointer none]) (v := Value.slice pb n pc) (xs := xs) [(Pv t)] hS (by kernel_rfl) (by kernel_rfl) (by kernel_rfl) (by kernel_rfl) (by kernel_rfl) hB18 (by simp) (fun j u hu => by rw [Nat.zero_add]; exact hB20.cell j (by simpa using hu)) rfl (by omega) (by omega) (by omega) fun ga23 ca23 a wa23 hOa23 hEa23 hFa23 hS => ?_
 have hB24 := hB16.ext hEa23 (hB18.notin hB16 (by decide))
 have hB25 := hB17.ext hEa23 (hB18.notin hB17 (by decide))
 have hB26 := hB19.ext hEa23 (hB19.disj hB18 (by decide))
 have hE28 : Ext (fb :: r :: (oa pb ++ oa qb)) w wa23 := hE22.trans hEa23 (fun b hb => .inl (by rw [ob_oa] at hb; simp [hb]))
 refine sg wide_wide [.p, .p] [] [(0, (Pv fb)), (1, (Pv t)), (2, (Pv r)), (21, .slice (some ⟨ga23, 0, none⟩) (n + 1) ca23), (23, (Po fb 2))] 10 1 hS .nil fun a hS => ?_
 refine eff_store wide_wide (r := 0) (b := fb) (off := 2) (vs := [.slice (some ⟨ga23, 0, none⟩) (n + 1) ca23]) hS (by kernel_rfl) hB24 (by simp) fun a w29 hw30 hS => ?_
 have hB31 : Blk w29 fb 35 (#[.pointer p0, .pointer p1, .slice (some ⟨ga23, 0, none⟩) (n + 1) ca23, .slice qb n qc, bv]) := by rw [hw30]; exact hB24.upd _ _
 have hB32 := Blk.at' hw30 (hB25.updNe (Blk.ne_type hB24 hB25 (by decide)) _ _)
 have hB33 := OwnV.at' hw30 (hB26.updNe (OwnV.ne hB26 hB24 (by decide)) _ _)
 have hB35 := OwnR.at' hw30 (hOa23.updNe ((OwnR.ne_type hOa23 hB24 (by decide)).symm) _ _)
 have hE36 : Ext (fb :: r :: (oa pb ++ oa qb)) w w29 := by rw [hw30]; exact hE28.updIn (.inl (by simp)) _ _
 refine seg_end ?_
 refine hK9 _ _ ?_
 refine rgn 11 ?_
 refine sg wide_wide [.p, .p, .p, .p, .ld (.slice qb n qc), .p] [_] [(0, (Pv fb)), (1, (Pv t)), (2, (Pv r)), (24, (Pv fb)), (28, .slice qb n qc), (29, (Pv r))] 6 5 hS (.cons (hB31.cell 3 rfl) .nil) fun a hS => ?_
 refine eff_new wide_wide (r := 4) (cs := #[(Pv r)]) (T := 29) (v := Value.slice (some ⟨w29.heap.size, 0, none⟩) 1 1) (d := (some 30)) hS (by kernel_rfl) fun a w37 hw38 hS => ?_
 have hB44 := Blk.at' hw38 (hB31.alloc _)
 have hB45 := Blk.at' hw38 (hB32.alloc _)
 have hB46 := OwnV.at' hw38 (hB33.alloc _)
 have hB48 := OwnR.at' hw38 (hB35.alloc _)
 have hB49 : Blk w37 (w29.heap.size) 29 #[(Pv r)] := by rw [hw38]; exact Blk.new _ _ _
 have hs50 : w.heap.size ≤ w29.heap.size := hE36.size
 have hE51 : Ext (fb :: r :: (oa pb ++ oa qb)) w w37 := by rw [hw38]; exact hE36.alloc _
 refine eff_append2 wide_wide (r := 3) (d := (some 31)) (t := 33) (ty := 33) (e := 29) (size := 1) (bytes := 8) (len := n) (b := w29.heap.size) (off := 0) (k := 1) (c := 1) (z := #[.pointer none]) (v := Value.slice qb n qc) (xs := ys) [(Pv r)] hS (by kernel_rfl) (by kernel_rfl) (by kernel_rfl) (by kernel_rfl) (by kernel_rfl) hB46 (by simp) (fun j u hu => by rw [Nat.zero_add]; exact hB49.cell j (by simpa using hu)) rfl (by omega) (by omega) (by omega) fun ga52 ca52 a wa52 hOa52 hEa52 hFa52 hS => ?_
 have hB53 := hB44.ext hEa52 (hB46.notin hB44 (by decide))
 have hB54 := hB45.ext hEa52 (hB46.notin hB45 (by decide))
 have hB56 := hB48.ext hEa52 (fun hm => hB48.v.disj hB46 (by decide) _ (by simp [ob]) hm)
 have hE58 : Ext (fb :: r :: (oa pb ++ oa qb)) w wa52 := hE51.trans hEa52 (fun b hb => .inl (by rw [ob_oa] at hb; simp [hb]))
 refine sg wide_wide [.p, .p] [] [(0, (Pv fb)), (1, (Pv t)), (2, (Pv r)), (31, .slice (some ⟨ga52, 0, none⟩) (n + 1) ca52), (33, (Po fb 3))] 10 1 hS .nil fun a hS => ?_
 refine eff_store wide_wide (r := 0) (b := fb) (off := 3) (vs := [.slice (some ⟨ga52, 0, none⟩) (n + 1) ca52]) hS (by kernel_rfl) hB53 (by simp) fun a w59 hw60 hS => ?_
 have hB61 : Blk w59 fb 35 (#[.pointer p0, .pointer p1, .slice (some ⟨ga23, 0, none⟩) (n + 1) ca23, .slice (some ⟨ga52, 0, none⟩) (n + 1) ca52, bv]) := by rw [hw60]; exact hB53.upd _ _
 have hB62 := Blk.at' hw60 (hB54.updNe (Blk.ne_type hB53 hB54 (by decide)) _ _)
 have hB64 := OwnR.at' hw60 (hB56.updNe ((OwnR.ne_type hOa23 hB24 (by decide)).symm) _ _)
 have hB66 := OwnR.at' hw60 (hOa52.updNe ((OwnR.ne_type hOa52 hB53 (by decide)).symm) _ _)
 have hE67 : Ext (fb :: r :: (oa pb ++ oa qb)) w w59 := by rw [hw60]; exact hE58.updIn (.inl (by simp)) _ _
 refine seg_end ?_
 refine end0 hS Try.results58 ?_
 exact ⟨ga23, ca23, ga52, ca52, rfl, hB61, hB64, hB66, hB62, hE67, (hFa23 ga23 (by simp)).imp (fun h => by simpa [ob_oa] using h) (Nat.le_trans hE22.size), (hFa52 ga52 (by simp)).imp (fun h => by simpa [ob_oa] using h) (Nat.le_trans hE51.size)⟩

end Go.Proofs.Ytpglmeeledmkoaa
