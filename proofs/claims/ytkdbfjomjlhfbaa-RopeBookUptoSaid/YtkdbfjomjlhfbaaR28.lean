import Derived.Test.YtkdbfjomjlhfbaaProg
import Derived.Test.YtkdbfjomjlhfbaaR27
import Derived.Test.YtkdbfjomjlhfbaaOp
namespace Go.Proofs.Ytkdbfjomjlhfbaa
open Go.Vc
set_option linter.unusedSectionVars false
variable [Inhabited Zt]

/-- what a script ends with: a rope, and the reference's, of the same bytes -/
def BuR (w : World) (e : Ending) (w' : World) : Prop := ∃ F b c q xs, e = .returned (.tuple #[Pv b, Pv c, .bool true]) ∧ Rp2 F w' b xs ∧ RfT F w' c q xs ∧ Ext [] w w'

set_option maxHeartbeats 1000000 in
theorem built_any {v : Value} {l : List Sx} {w : World} (hs : Scr w v l) :
  Calls Try.prog 26 #[v] w fun e w' => BuR w e w' := by
 have hmax := hs.max
 refine calls_body 63 [(0, v)] Try.func26 rfl (by kernel_rfl) (by kernel_rfl) (by kernel_rfl) fun a hS => ?_
 have hE0 : Ext [] w w := Ext.refl _ _
 refine sq fun K1 hK1 => ?_
 refine rgn 3 ?_
 refine sg wide_wide [.p, .p, .p] [] [(0, v), (2, .pointer none), (3, .pointer none), (4, .bool false)] 3 0 hS .nil fun a hS => ?_
 refine seg_end ?_
 refine hK1 _ _ ?_
 refine sq fun K2 hK2 => ?_
 refine rgn 3 ?_
 refine sg wide_wide [.p] [] [(0, v), (2, .pointer none), (3, .pointer none), (4, .bool false), (8, .agg #[.slice none 0 0, .slice none 0 0, .slice none 0 0])] 1 2 hS .nil fun a hS => ?_
 refine eff_box wide_wide (r := 1) (cs := #[.slice none 0 0, .slice none 0 0, .slice none 0 0]) (T := 46) (d := (some 9)) hS (by kernel_rfl) fun a w3 hw4 hS => ?_
 have hB5 : Blk w3 (w.heap.size) 46 #[.slice none 0 0, .slice none 0 0, .slice none 0 0] := by rw [hw4]; exact Blk.new _ _ _
 have hs6 : w.heap.size ≤ w.heap.size := hE0.size
 have hE7 : Ext [] w w3 := by rw [hw4]; exact hE0.alloc _
 refine sg wide_wide [.p] [] [(0, v), (2, .pointer none), (3, .pointer none), (4, .bool false), (5, (Pv w.heap.size))] 3 0 hS .nil fun a hS => ?_
 refine seg_end ?_
 refine hK2 _ _ ?_
 refine sq fun K8 hK8 => ?_
 refine sq fun K9 hK9 => ?_
 refine rgn 12 ?_
 refine sg wide_wide [.p, .p] [] [(0, v), (2, .pointer none), (3, .pointer none), (4, .bool false), (5, (Pv w.heap.size)), (10, (Pv w.heap.size)), (11, .agg #[I6 1, I6 0, I6 0, I6 0, .slice none 0 0])] 2 10 hS .nil fun a hS => ?_
 have hT0 := TB.new hE7 hB5 hs6
 refine eff_call wide_wide (r := 9) (f := 45) (vs := [(Pv w.heap.size), .agg #[I6 1, I6 0, I6 0, I6 0, .slice none 0 0]]) (cap := #[]) (d := (some 12)) hS (by kernel_rfl) Try.call45 #[(Pv w.heap.size), .agg #[I6 1, I6 0, I6 0, I6 0, .slice none 0 0]] (by kernel_rfl) (make1_new (sk := 1) (sr := 0) (sa := 0) (sb := 0) (v := .slice none 0 0) (n := 0) (xs := []) hT0 (.inl ⟨none, 0, rfl, rfl, rfl⟩) BR.nil (by omega) (by simp [Ta.new]) rfl) ?_
 rintro _ wa ⟨rfl, F, hSa, hlen⟩
 refine ⟨_, rfl, fun a hS => ?_⟩
 have hTa := hT0.ts hSa
 have hFt : F.t = w.heap.size := hSa.t
 have hl1 : F.L.length = 1 := by rw [hlen]; rfl
 refine sg wide_wide [.p, .p, .p, .p, .p, .ld (.slice F.pb F.L.length F.pc), .p, .as (.bool false), .p] [wa.cell? ⟨w.heap.size, 0, none⟩ = some (.slice F.pb F.L.length F.pc), Value.bool (((↑F.L.length : Int) != 1)) = .bool false] [(0, v), (2, .pointer none), (3, .pointer none), (4, .bool false), (5, (Pv w.heap.size)), (21, .bool false)] 12 0 hS (.cons (((show Blk wa w.heap.size 46 #[.slice F.pb F.L.length F.pc, .slice F.qb F.L.length F.qc, .slice F.bb F.bn F.bn] by rw [← hFt]; exact hTa.i.f)).cell 0 rfl) (.cons (as_ne_f (by omega)) .nil)) fun a hS => ?_
 refine seg_end ?_
 refine hK9 _ _ ?_
 refine cond_f hS rfl ?_
 refine wpIn_skip ?_
 refine hK8 _ _ ?_
 refine sq fun K10 hK10 => ?_
 refine sq fun K11 hK11 => ?_
 refine rgn 1 ?_
 refine sg wide_wide [.p] [] [(0, v), (2, .pointer none), (3, .pointer none), (4, .bool false), (5, (Pv w.heap.size)), (21, .bool false), (6, I6 0)] 1 0 hS .nil fun a hS => ?_
 refine seg_end ?_
 refine hK11 _ _ ?_
 refine wpIn_block ?_
 rw [← hFt] at hS
 refine loop_ghost (fun ((i, F) : Nat × Ta) a' w' => St 63 [] [(0, v), (5, (Pv F.t)), (6, I6 ↑i)] a' ∧ i ≤ l.length ∧ TB w w' F ∧ 1 ≤ F.L.length) (fun ((i, F) : Nat × Ta) => l.length - i) (0, F) ⟨hS.keepTo [0, 5, 6] (by kernel_rfl), Nat.zero_le _, hTa, by omega⟩ ?_
 rintro ⟨i, F⟩ a wi ⟨hS, hil, hTi, hl1⟩
 refine sq fun K12 hK12 => ?_
 refine sq fun K13 hK13 => ?_
 refine rgn 4 ?_
 refine sg wide_wide [.p, .p, .run (I6 ↑l.length), .p] [Ru Try.prog (vS (Builtin.len_ #[41] 3 #[v])) (I6 ↑l.length) wi] [(0, v), (5, (Pv F.t)), (6, I6 ↑i), (25, .bool (decide ((↑i : Int) < ↑l.length)))] 4 0 hS (.cons (run_len_rd (e := 49) hs.rd (by kernel_rfl)) .nil) fun a hS => ?_
 refine seg_end ?_
 refine hK13 _ _ ?_
 refine cond_b hS rfl (fun hb14 => ?_) (fun hb14 => ?_)
 ·
  replace hb14 := of_decide_eq_true hb14
  have hi : i < l.length := by omega
  obtain ⟨s, hsi⟩ : ∃ s, l[i]? = some s := ⟨_, List.getElem?_eq_getElem hi⟩
  have hss := hs.ok s (List.mem_of_getElem? hsi)
  have hrd := hs.rd.ext0 hTi.e
  have hsn := hss.n
  refine wpIn_skip ?_
  refine hK12 _ _ ?_
  refine sq fun K15 hK15 => ?_
  refine wpIn_block ?_
  refine sq fun K16 hK16 => ?_
  by_cases hk4 : s.kd ≤ 4
  ·
   refine rgn 15 ?_
   refine sg wide_wide [.p, .p, .run ((Po (bof v) (oof v + i * 5))), .p, .ld (I6 s.kd), .as (.bool true), .p, .p, .p, .p, .run ((Po (bof v) (oof v + i * 5))), .lds [I6 s.kd, I6 s.rr, I6 s.aa, I6 s.bb, s.dv]] [Ru Try.prog (vS (Instr.indexAt 41 (v) (I6 ↑i))) ((Po (bof v) (oof v + i * 5))) wi, wi.cell? ⟨bof v, oof v + i * 5, none⟩ = some (I6 s.kd), Value.bool (decide ((s.kd : Int) ≤ 4)) = .bool true, Ru Try.prog (vS (Instr.indexAt 41 (v) (I6 ↑i))) ((Po (bof v) (oof v + i * 5))) wi, wi.cell? ⟨bof v, oof v + i * 5, none⟩ = some (I6 s.kd), wi.cell? ⟨bof v, oof v + i * 5 + 1, none⟩ = some (I6 s.rr), wi.cell? ⟨bof v, oof v + i * 5 + 2, none⟩ = some (I6 s.aa), wi.cell? ⟨bof v, oof v + i * 5 + 3, none⟩ = some (I6 s.bb), wi.cell? ⟨bof v, oof v + i * 5 + 4, none⟩ = some (s.dv)] [(0, v), (5, (Pv F.t)), (6, I6 ↑i), (34, .bool true), (35, (Pv F.t)), (39, .agg #[I6 s.kd, I6 s.rr, I6 s.aa, I6 s.bb, s.dv])] 12 3 hS (.cons (ix_rd (e := 49) (j := i) hs.rd (by kernel_rfl) (by kernel_rfl) rfl hi) (.cons (hrd.cellAt (i * 5 + 0) (by omega) (scells_at l i 0 s hsi (by omega))) (.cons (as_t (by omega)) (.cons (ix_rd (e := 49) (j := i) hs.rd (by kernel_rfl) (by kernel_rfl) rfl hi) (.cons (hrd.cellAt (i * 5 + 0) (by omega) (scells_at l i 0 s hsi (by omega))) (.cons (hrd.cellAt (i * 5 + 1) (by omega) (scells_at l i 1 s hsi (by omega))) (.cons (hrd.cellAt (i * 5 + 2) (by omega) (scells_at l i 2 s hsi (by omega))) (.cons (hrd.cellAt (i * 5 + 3) (by omega) (scells_at l i 3 s hsi (by omega))) (.cons (hrd.cellAt (i * 5 + 4) (by omega) (scells_at l i 4 s hsi (by omega))) .nil))))))))) fun a hS => ?_
   refine eff_call wide_wide (r := 2) (f := 24) (vs := [(Pv F.t), .agg #[I6 s.kd, I6 s.rr, I6 s.aa, I6 s.bb, s.dv]]) (cap := #[]) (d := (some 40)) hS (by kernel_rfl) Try.call24 #[(Pv F.t), .agg #[I6 s.kd, I6 s.rr, I6 s.aa, I6 s.bb, s.dv]] (by kernel_rfl) (step_any hTi hss.rd hss.br (by omega) hss.b) ?_
   rintro _ wj ⟨rfl, F9, hSj⟩
   refine ⟨_, rfl, fun a hS => ?_⟩
   have hTj := hTi.ts hSj
   refine sg wide_wide [.p, .p] [] [(0, v), (5, (Pv F.t)), (6, I6 ↑i), (42, .bool false)] 15 0 hS .nil fun a hS => ?_
   refine seg_end ?_
   refine hK16 _ _ ?_
   refine cond_f hS rfl ?_
   refine wpIn_skip ?_
   refine inBlock_normal ?_
   refine hK15 _ _ ?_
   refine rgn 3 ?_
   refine sg wide_wide [.p, .as (I6 (↑i + 1)), .p] [Value.int .i64 (IntKind.i64.wrap (↑i + 1)) = I6 (↑i + 1)] [(0, v), (5, (Pv F.t)), (6, I6 (↑i + 1)), (42, .bool false)] 3 0 hS (.cons (as_i64 (by omega)) .nil) fun a hS => ?_
   refine seg_end ?_
   exact ⟨(i + 1, F9), ⟨by rw [hSj.t]; exact hS.keepTo [0, 5, 6] (by kernel_rfl), by omega, hTj, Nat.le_trans hl1 hSj.l⟩, by simp only; omega⟩
  ·
   refine rgn 15 ?_
   refine sg wide_wide [.p, .p, .run ((Po (bof v) (oof v + i * 5))), .p, .ld (I6 s.kd), .as (.bool false), .p, .no, .no, .no, .no, .no, .no, .no, .p] [Ru Try.prog (vS (Instr.indexAt 41 (v) (I6 ↑i))) ((Po (bof v) (oof v + i * 5))) wi, wi.cell? ⟨bof v, oof v + i * 5, none⟩ = some (I6 s.kd), Value.bool (decide ((s.kd : Int) ≤ 4)) = .bool false] [(0, v), (5, (Pv F.t)), (6, I6 ↑i), (42, .bool false)] 15 0 hS (.cons (ix_rd (e := 49) (j := i) hs.rd (by kernel_rfl) (by kernel_rfl) rfl hi) (.cons (hrd.cellAt (i * 5 + 0) (by omega) (scells_at l i 0 s hsi (by omega))) (.cons (as_f (by omega)) .nil))) fun a hS => ?_
   refine seg_end ?_
   refine hK16 _ _ ?_
   refine cond_f hS rfl ?_
   refine wpIn_skip ?_
   refine inBlock_normal ?_
   refine hK15 _ _ ?_
   refine rgn 3 ?_
   refine sg wide_wide [.p, .as (I6 (↑i + 1)), .p] [Value.int .i64 (IntKind.i64.wrap (↑i + 1)) = I6 (↑i + 1)] [(0, v), (5, (Pv F.t)), (6, I6 (↑i + 1)), (42, .bool false)] 3 0 hS (.cons (as_i64 (by omega)) .nil) fun a hS => ?_
   refine seg_end ?_
   exact ⟨(i + 1, F), ⟨hS.keepTo [0, 5, 6] (by kernel_rfl), by omega, hTi.ext0 (Ext.refl _ _), hl1⟩, by simp only; omega⟩
 ·
  replace hb14 := of_decide_eq_false hb14
  obtain ⟨ee, hee⟩ : ∃ ee, F.L[F.L.length - 1]? = some ee := ⟨_, List.getElem?_eq_getElem (by omega)⟩
  have heem : ee ∈ F.L := List.mem_of_getElem? hee
  have hln := hTi.i.ln
  refine wpIn_exit ?_
  refine then_exit ?_
  refine then_exit ?_
  refine inBlock_hit ?_
  refine hK10 _ _ ?_
  refine sq fun K17 hK17 => ?_
  refine rgn 7 ?_
  refine sg wide_wide [.p, .p, .p, .ld (.slice F.pb F.L.length F.pc), .p, .as (I6 ((F.L.length - 1 : Nat) : Int)), .p] [wi.cell? ⟨F.t, 0, none⟩ = some (.slice F.pb F.L.length F.pc), Value.int .i64 (IntKind.i64.wrap (↑F.L.length - 1)) = I6 ((F.L.length - 1 : Nat) : Int)] [(0, v), (5, (Pv F.t)), (6, I6 ↑i), (7, I6 ((F.L.length - 1 : Nat) : Int))] 7 0 hS (.cons ((hTi.i.f).cell 0 rfl) (.cons ((by rw [show (↑F.L.length - 1 : Int) = ((F.L.length - 1 : Nat) : Int) from by omega]; exact as_i64 (by omega))) .nil)) fun a hS => ?_
  refine seg_end ?_
  refine hK17 _ _ ?_
  refine sq fun K18 hK18 => ?_
  have hXi : Ext [] wi wi := Ext.refl _ _
  refine region_fn2 wide_wide [.q .p, .q .p, .q .p, .q (.ld (.slice F.pb F.L.length F.pc)), .q .p, .q (.run ((Po (bof (.slice F.pb F.L.length F.pc)) (0 + (F.L.length - 1) * 1)))), .q (.ld ((Pv ee.b))), .q .p, .q .p, .q .p, .q (.ld (.slice F.qb F.L.length F.qc)), .q .p, .q (.run ((Po (bof (.slice F.qb F.L.length F.qc)) (0 + (F.L.length - 1) * 1)))), .q (.ld ((Pv ee.c))), .q .p, .q .p, .q .p] [0, 0, 0, 0, 0, 0, 0, 0, 0, 0, 0, 0, 0, 0, 0, 0, 0] [0, 0, 0, 0, 0, 0, 0, 0, 0, 0, 0, 0, 0, 0, 0, 0, 0] [0, 1, 3, 7, 0, 31, 63, 0, 128, 384, 896, 0, 3968, 8064, 127, 32767, 65535] [] 0 ([(0, v), (5, (Pv F.t)), (6, I6 ↑i), (7, I6 ((F.L.length - 1 : Nat) : Int)), (49, (Pv F.t)), (50, (Pv F.t)), (51, (Pv F.t)), (52, .slice F.pb F.L.length F.pc), (53, I6 ((F.L.length - 1 : Nat) : Int)), (54, (Po (bof (.slice F.pb F.L.length F.pc)) (0 + (F.L.length - 1) * 1))), (55, (Pv ee.b)), (56, (Pv F.t)), (57, (Pv F.t)), (58, (Po F.t 1)), (59, .slice F.qb F.L.length F.qc), (60, I6 ((F.L.length - 1 : Nat) : Int)), (61, (Po (bof (.slice F.qb F.L.length F.qc)) (0 + (F.L.length - 1) * 1))), (62, (Pv ee.c)), (2, (Pv ee.b)), (3, (Pv ee.c)), (4, .bool true)]) [wi.drew] wi.drew (fun w' => [(3, [w'.cell? ⟨F.t, 0, none⟩ = some (.slice F.pb F.L.length F.pc)]), (5, [Ru Try.prog (vS (Instr.indexAt 43 (.slice F.pb F.L.length F.pc) (I6 ((F.L.length - 1 : Nat) : Int)))) ((Po (bof (.slice F.pb F.L.length F.pc)) (0 + (F.L.length - 1) * 1))) w']), (6, [w'.cell? ⟨bof (.slice F.pb F.L.length F.pc), 0 + (F.L.length - 1) * 1, none⟩ = some ((Pv ee.b))]), (10, [w'.cell? ⟨F.t, 1, none⟩ = some (.slice F.qb F.L.length F.qc)]), (12, [Ru Try.prog (vS (Instr.indexAt 44 (.slice F.qb F.L.length F.qc) (I6 ((F.L.length - 1 : Nat) : Int)))) ((Po (bof (.slice F.qb F.L.length F.qc)) (0 + (F.L.length - 1) * 1))) w']), (13, [w'.cell? ⟨bof (.slice F.qb F.L.length F.qc), 0 + (F.L.length - 1) * 1, none⟩ = some ((Pv ee.c))])]) [0, 5, 6, 7] [] hS (by kernel_rfl) (by kernel_rfl) (by kernel_rfl) (by kernel_rfl) (fun _ => by kernel_rfl) (by kernel_rfl) (by kernel_rfl) (by kernel_rfl) ?_ ?_ ?_
  ·intro e w' hw
   refine (.cons ?_ (.cons ?_ (.cons ?_ (.cons ?_ (.cons ?_ (.cons ?_ .nil))))))
   ·intro h1 h2
    obtain rfl : e = 0 := Nat.le_antisymm h2 h1
    obtain rfl : w' = wi.drew := hw.trans (by kernel_rfl)
    exact (.cons ((hTi.i.f.drew : Blk wi.drew F.t 46 (#[.slice F.pb F.L.length F.pc, .slice F.qb F.L.length F.qc, .slice F.bb F.bn F.bn])).cell 0 rfl) .nil)
   ·exact fun _ _ => (.cons (ix_own (j := (F.L.length - 1)) (hTi.i.P) (by kernel_rfl) (by kernel_rfl) rfl (by omega)) .nil)
   ·intro h1 h2
    obtain rfl : e = 0 := Nat.le_antisymm h2 h1
    obtain rfl : w' = wi.drew := hw.trans (by kernel_rfl)
    exact (.cons ((hTi.i.P.drew : OwnV wi.drew 24 1 (.slice F.pb F.L.length F.pc) F.L.length (F.L.map En.bp)).cellAt _ (by simp [hee, En.bp])) .nil)
   ·intro h1 h2
    obtain rfl : e = 0 := Nat.le_antisymm h2 h1
    obtain rfl : w' = wi.drew := hw.trans (by kernel_rfl)
    exact (.cons ((hTi.i.f.drew : Blk wi.drew F.t 46 (#[.slice F.pb F.L.length F.pc, .slice F.qb F.L.length F.qc, .slice F.bb F.bn F.bn])).cell 1 rfl) .nil)
   ·exact fun _ _ => (.cons (ix_own (j := (F.L.length - 1)) (hTi.i.R) (by kernel_rfl) (by kernel_rfl) rfl (by omega)) .nil)
   ·intro h1 h2
    obtain rfl : e = 0 := Nat.le_antisymm h2 h1
    obtain rfl : w' = wi.drew := hw.trans (by kernel_rfl)
    exact (.cons ((hTi.i.R.drew : OwnV wi.drew 52 1 (.slice F.qb F.L.length F.qc) F.L.length (F.L.map En.cp)).cellAt _ (by simp [hee, En.cp])) .nil)
  ·refine .nil
  rintro a w20 hS hw21
  replace hw21 : w20 = wi.drew := hw21.trans (by kernel_rfl)
  have hE25 : Ext [] w w20 := by rw [hw21]; exact hTi.e.drew
  have hX26 : Ext [] wi w20 := by rw [hw21]; exact (Ext.refl _ _).drew
  have hG27 : Ext [] wi w20 := hXi.trans0 hX26
  replace hS := hS.kp [(0, v), (5, (Pv F.t)), (6, I6 ↑i), (7, I6 ((F.L.length - 1 : Nat) : Int)), (2, (Pv ee.b)), (3, (Pv ee.c)), (4, .bool true)]
  refine hK18 _ _ ?_
  refine wpIn_ret ?_
  refine ret3 hS Try.results26 rfl rfl rfl ?_
  exact ⟨F, ee.b, ee.c, ee.v, obs ee.o, rfl, (hTi.i.p ee heem).two.ext0 hG27, (hTi.i.q ee heem).ext0 hG27, hE25⟩

theorem iv_one : ∀ xs : List Int, oneAll (iv xs) = true
 | [] => rfl
 | _ :: xs => by simp [iv, oneAll, Value.oneCell']; exact iv_one xs
theorem iv_app (xs ys : List Int) : iv (xs ++ ys) = iv xs ++ iv ys := by simp [iv]
/-- a row of numbers, none too great -/
structure Nums (N : Nat) (w : World) (bs : Option Addr) (n cp : Nat) (zs : List Int) : Prop where
 own : OwnV w 3 1 (.slice bs n cp) n (iv zs)
 len : zs.length = n
 max : ∀ z ∈ zs, z ≤ 9223372036854775807
 new : ∀ x ∈ ob (.slice bs n cp), N ≤ x
 le : n ≤ 17592186046416

theorem Scr.ext0 {w w' : World} {v : Value} {l : List Sx} (h : Scr w v l) (hE : Ext [] w w') : Scr w' v l :=
 ⟨h.rd.ext0 hE, fun s hs => ⟨(h.ok s hs).rd.ext0 hE, (h.ok s hs).br, (h.ok s hs).n, (h.ok s hs).b⟩, h.max⟩

set_option maxHeartbeats 1000000 in
theorem RopeRows_any {v vp : Value} {l : List Sx} {m : Nat} {ps : List Int} {w : World} (hs : Scr w v l) (hp : RdV w 1 vp m (iv ps)) (hm : m * 8 ≤ 140737488355328) (hpm : ∀ z ∈ ps, z ≤ 9223372036854775807) :
  Calls Try.prog 7 #[v, vp] w fun e w' => e = .returned (.bool true) ∧ Ext [] w w' := by
 have hmax := hs.max
 have hpl : ps.length = m := by have := hp.len; simpa [iv] using this
 refine calls_body 109 [(0, v), (1, vp)] Try.func7 rfl (by kernel_rfl) (by kernel_rfl) (by kernel_rfl) fun a hS => ?_
 have hE0 : Ext [] w w := Ext.refl _ _
 refine sq fun K1 hK1 => ?_
 refine rgn 1 ?_
 refine sg wide_wide [.p] [] [(0, v), (1, vp), (4, .bool false)] 1 0 hS .nil fun a hS => ?_
 refine seg_end ?_
 refine hK1 _ _ ?_
 refine sq fun K2 hK2 => ?_
 refine sq fun K3 hK3 => ?_
 refine rgn 2 ?_
 refine eff_call wide_wide (r := 1) (f := 12) (vs := []) (cap := #[]) (d := (some 16)) hS (by kernel_rfl) Try.call12 #[] (by kernel_rfl) (Head_Y) ?_
 rintro _ wc4 ⟨rfl, hEc4⟩
 refine ⟨_, rfl, fun a hS => ?_⟩
 have hG5 : RdV wc4 1 vp m (iv ps) := hp.ext0 hEc4
 have hE6 := hE0.trans0 hEc4
 refine sg wide_wide [.p] [] [(0, v), (1, vp), (4, .bool false), (17, .bool false)] 2 0 hS .nil fun a hS => ?_
 refine seg_end ?_
 refine hK3 _ _ ?_
 refine cond_f hS rfl ?_
 refine wpIn_skip ?_
 refine hK2 _ _ ?_
 refine sq fun K7 hK7 => ?_
 refine rgn 9 ?_
 refine sg wide_wide [.p] [] [(0, v), (1, vp), (4, .bool false), (17, .bool false), (19, v)] 1 8 hS .nil fun a hS => ?_
 refine eff_call wide_wide (r := 7) (f := 26) (vs := [v]) (cap := #[]) (d := (some 20)) hS (by kernel_rfl) Try.call26 #[v] (by kernel_rfl) (built_any (hs.ext0 hE6)) ?_
 rintro _ wb ⟨F, b, c, q, xs, rfl, hb, hq, hEb⟩
 refine ⟨_, rfl, fun a hS => ?_⟩
 have hps := hp.ext0 (hE6.trans0 hEb)
 have hEw := hE6.trans0 hEb
 have hxl := hq.2.2.2
 have hEr0 : Ext [] wb wb := Ext.refl _ _
 refine sg wide_wide [.p, .p, .p, .p, .p, .p, .p] [] [(0, v), (1, vp), (4, .bool false), (17, .bool false), (5, (Pv b)), (6, (Pv c)), (7, .bool true)] 9 0 hS .nil fun a hS => ?_
 refine seg_end ?_
 refine hK7 _ _ ?_
 refine sq fun K8 hK8 => ?_
 refine sq fun K9 hK9 => ?_
 refine rgn 2 ?_
 refine sg wide_wide [.p, .p] [] [(0, v), (1, vp), (4, .bool false), (17, .bool false), (5, (Pv b)), (6, (Pv c)), (7, .bool true), (25, .bool false)] 2 0 hS .nil fun a hS => ?_
 refine seg_end ?_
 refine hK9 _ _ ?_
 refine cond_f hS rfl ?_
 refine wpIn_skip ?_
 refine hK8 _ _ ?_
 refine sq fun K10 hK10 => ?_
 refine rgn 4 ?_
 refine eff_new wide_wide (r := 3) (cs := #[]) (T := 3) (v := Value.slice (some ⟨wb.heap.size, 0, none⟩) 0 0) (d := (some 26)) hS (by kernel_rfl) fun a w11 hw12 hS => ?_
 have hX13 : Ext [] wb w11 := by rw [hw12]; exact (Ext.refl _ _).alloc _
 have hG14 : RdV w11 1 vp m (iv ps) := hps.ext0 hX13
 have hB15 : Blk w11 (wb.heap.size) 3 #[] := by rw [hw12]; exact Blk.new _ _ _
 have hs16 : wb.heap.size ≤ wb.heap.size := hEr0.size
 have hE17 : Ext [] wb w11 := by rw [hw12]; exact hEr0.alloc _
 refine sg wide_wide [.p] [] [(0, v), (1, vp), (4, .bool false), (17, .bool false), (5, (Pv b)), (6, (Pv c)), (7, .bool true), (25, .bool false), (26, .slice (some ⟨wb.heap.size, 0, none⟩) 0 0), (27, vp)] 2 2 hS .nil fun a hS => ?_
 refine eff_append_rd wide_wide (r := 1) (d := (some 28)) (t := 51) (ty := 51) (e := 3) (size := 1) (bytes := 8) (len := 0) (k := m) (z := #[I6 0]) (v := Value.slice (some ⟨wb.heap.size, 0, none⟩) 0 0) (u := vp) (xs := ([])) (news := (iv ps)) hS (by kernel_rfl) (by kernel_rfl) (by kernel_rfl) (by kernel_rfl) (OwnR.of_blk hB15 (by simp) (by decide)).v hG14 (iv_one _) (by omega) (by omega) fun bs18 cp18 a wa18 hA18 hS => ?_
 have hEa18 : Ext [wb.heap.size] w11 wa18 := hA18.ext
 rw [Nat.zero_add] at hS
 have hO18 : OwnV wa18 3 1 (.slice bs18 m cp18) m (iv ps) := by have h := hA18.own; simpa using h
 have hE19 : Ext [] wb wa18 := hE17.trans hEa18 (fun b hb => by simp at hb; subst hb; exact .inr hs16)
 have hnw18 : ∀ x ∈ ob (.slice bs18 m cp18), wb.heap.size ≤ x := fun x hx => by
  rcases hA18.fresh x (by simpa using hx) with h | h
  ·have h : x = wb.heap.size := by simpa [ob] using h
   rw [h]; exact hs16
  ·exact Nat.le_trans hE17.size h
 have hG20 : RdV wa18 1 vp m (iv ps) := RdV.extL (by decide) hG14 hps hEa18 (fun x hx => by simp at hx; subst hx; exact hs16)
 refine sg wide_wide [.p] [] [(0, v), (1, vp), (4, .bool false), (17, .bool false), (5, (Pv b)), (6, (Pv c)), (7, .bool true), (25, .bool false), (8, .slice bs18 m cp18)] 4 0 hS .nil fun a hS => ?_
 refine seg_end ?_
 refine hK10 _ _ ?_
 refine sq fun K21 hK21 => ?_
 refine sq fun K22 hK22 => ?_
 refine rgn 1 ?_
 refine sg wide_wide [.p] [] [(0, v), (1, vp), (4, .bool false), (17, .bool false), (5, (Pv b)), (6, (Pv c)), (7, .bool true), (25, .bool false), (8, .slice bs18 m cp18), (9, I6 0)] 1 0 hS .nil fun a hS => ?_
 refine seg_end ?_
 refine hK22 _ _ ?_
 refine wpIn_block ?_
 have hN0 : Nums wb.heap.size wa18 bs18 m cp18 ps := ⟨hO18, by omega, hpm, hnw18, by omega⟩
 refine loop_ghost (fun ((i, bs, n, cp, zs) : Nat × Option Addr × Nat × Nat × List Int) a' w' => St 109 [] [(0, v), (5, (Pv b)), (6, (Pv c)), (8, .slice bs n cp), (9, I6 ↑i)] a' ∧ i ≤ xs.length ∧ Nums wb.heap.size w' bs n cp zs ∧ Ext [] wb w') (fun ((i, bs, n, cp, zs) : Nat × Option Addr × Nat × Nat × List Int) => xs.length - i) (0, bs18, m, cp18, ps) ⟨hS.keepTo [0, 5, 6, 8, 9] (by kernel_rfl), Nat.zero_le _, hN0, hE19⟩ ?_
 rintro ⟨i, bs, n, cp, zs⟩ a w1 ⟨hS, hil, hN, hEx⟩
 have hzl := hN.len
 refine sq fun K23 hK23 => ?_
 refine sq fun K24 hK24 => ?_
 by_cases hil2 : i < xs.length
 ·
  refine rgn 12 ?_
  refine sg wide_wide [.p, .p, .p, .p, .ld (q), .run (I6 ↑xs.length), .as (.bool true), .p, .p, .p, .p, .p] [w1.cell? ⟨c, 0, none⟩ = some (q), Ru Try.prog (vS (Builtin.len_ #[23] 3 #[q])) (I6 ↑xs.length) w1, Value.bool (decide ((↑i : Int) < ↑xs.length)) = .bool true] [(0, v), (5, (Pv b)), (6, (Pv c)), (8, .slice bs n cp), (9, I6 ↑i), (40, .bool (decide ((↑n : Int) < 2000)))] 12 0 hS (.cons (((hq.1.ext hEx (by simp))).cell 0 rfl) (.cons (run_len_rd (e := 5) (hq.2.1.ext0 hEx) (by kernel_rfl)) (.cons (as_t (by omega)) .nil))) fun a hS => ?_
  refine seg_end ?_
  refine hK24 _ _ ?_
  refine cond_b hS rfl (fun hb25 => ?_) (fun hb25 => ?_)
  ·
   replace hb25 := of_decide_eq_true hb25
   obtain ⟨y, hy⟩ : ∃ y, xs[i]? = some y := ⟨_, List.getElem?_eq_getElem hil2⟩
   refine wpIn_skip ?_
   refine hK23 _ _ ?_
   refine sq fun K26 hK26 => ?_
   refine wpIn_block ?_
   refine sq fun K27 hK27 => ?_
   refine rgn 8 ?_
   refine sg wide_wide [.p, .p, .p, .ld (q), .p, .run ((Po (bof q) (oof q + i * 1))), .ld (.int .u8 y), .p] [w1.cell? ⟨c, 0, none⟩ = some (q), Ru Try.prog (vS (Instr.indexAt 23 (q) (I6 ↑i))) ((Po (bof q) (oof q + i * 1))) w1, w1.cell? ⟨bof q, oof q + i * 1, none⟩ = some (.int .u8 y)] [(0, v), (5, (Pv b)), (6, (Pv c)), (8, .slice bs n cp), (9, I6 ↑i), (50, .bool ((y : Int) == 10))] 8 0 hS (.cons (((hq.1.ext hEx (by simp))).cell 0 rfl) (.cons (ix_rd (e := 5) (j := i) (hq.2.1.ext0 hEx) (by kernel_rfl) (by kernel_rfl) rfl (by omega)) (.cons ((hq.2.1.ext0 hEx).cellAt (i * 1) (by omega) (by rw [Nat.mul_one]; exact bv_at hy)) .nil))) fun a hS => ?_
   refine seg_end ?_
   refine hK27 _ _ ?_
   refine cond_b hS rfl (fun hb28 => ?_) (fun hb28 => ?_)
   ·
    replace hb28 := test_eq_t hb28
    refine rgn 7 ?_
    refine sg wide_wide [.p, .p, .p, .as (I6 (↑i + 1))] [Value.int .i64 (IntKind.i64.wrap (↑i + 1)) = I6 (↑i + 1)] [(0, v), (5, (Pv b)), (6, (Pv c)), (8, .slice bs n cp), (9, I6 ↑i), (51, .slice bs n cp), (52, I6 ↑i), (54, I6 (↑i + 1))] 4 3 hS (.cons (as_i64 (by omega)) .nil) fun a hS => ?_
    refine eff_new wide_wide (r := 2) (cs := #[I6 ↑i, I6 (↑i + 1)]) (T := 3) (v := Value.slice (some ⟨w1.heap.size, 0, none⟩) 2 2) (d := (some 55)) hS (by kernel_rfl) fun a w29 hw30 hS => ?_
    have hB33 := OwnV.at' hw30 (hN.own.alloc _)
    have hG36 : True := trivial
    have hB37 : Blk w29 (w1.heap.size) 3 #[I6 ↑i, I6 (↑i + 1)] := by rw [hw30]; exact Blk.new _ _ _
    have hs38 : wb.heap.size ≤ w1.heap.size := hEx.size
    have hE39 : Ext [] wb w29 := by rw [hw30]; exact hEx.alloc _
    refine eff_append2 wide_wide (r := 1) (d := (some 56)) (t := 51) (ty := 51) (e := 3) (size := 1) (bytes := 8) (len := n) (b := w1.heap.size) (off := 0) (k := 2) (c := 2) (z := #[I6 0]) (v := Value.slice bs n cp) (xs := (iv zs)) [I6 ↑i, I6 (↑i + 1)] hS (by kernel_rfl) (by kernel_rfl) (by kernel_rfl) (by kernel_rfl) (by kernel_rfl) hB33 (by simp) (fun j u hu => by rw [Nat.zero_add]; exact hB37.cell j (by simpa using hu)) rfl (by omega) (by omega) (by omega) fun ga40 ca40 a wa40 hOa40 hEa40 hFa40 hS => ?_
    have hE43 : Ext [] wb wa40 := hE39.trans hEa40 (fun b hb => .inr (hN.new b hb))
    have hG44 : True := trivial
    refine sg wide_wide [.p] [] [(0, v), (5, (Pv b)), (6, (Pv c)), (8, .slice (some ⟨ga40, 0, none⟩) (n + 2) ca40), (9, I6 ↑i)] 7 0 hS .nil fun a hS => ?_
    refine seg_end ?_
    refine inBlock_normal ?_
    refine hK26 _ _ ?_
    refine rgn 3 ?_
    refine sg wide_wide [.p, .as (I6 (↑i + 1)), .p] [Value.int .i64 (IntKind.i64.wrap (↑i + 1)) = I6 (↑i + 1)] [(0, v), (5, (Pv b)), (6, (Pv c)), (8, .slice (some ⟨ga40, 0, none⟩) (n + 2) ca40), (9, I6 (↑i + 1))] 3 0 hS (.cons (as_i64 (by omega)) .nil) fun a hS => ?_
    refine seg_end ?_
    have hNn : Nums wb.heap.size wa40 (some ⟨ga40, 0, none⟩) (n + 2) ca40 (zs ++ [(i : Int), (i : Int) + 1]) := ⟨by rw [iv_app]; exact hOa40.v, by simp [hzl], fun z hz => ?_, fun x hx => ?_, by omega⟩
    ·exact ⟨(i + 1, (some ⟨ga40, 0, none⟩), n + 2, ca40, _), ⟨hS.kp [(0, v), (5, (Pv b)), (6, (Pv c)), (8, .slice (some ⟨ga40, 0, none⟩) (n + 2) ca40), (9, I6 (↑i + 1))], by omega, hNn, hE43⟩, by simp only; omega⟩
    ·rcases List.mem_append.1 hz with hz | hz
     ·exact hN.max z hz
     ·simp at hz; omega
    ·have hx : x = ga40 := by simpa [ob] using hx
     rw [hx]
     rcases hFa40 ga40 (by simp) with h | h
     ·exact hN.new _ h
     ·exact Nat.le_trans hE39.size h
   ·
    replace hb28 := test_eq_f hb28
    refine wpIn_skip ?_
    refine inBlock_normal ?_
    refine hK26 _ _ ?_
    refine rgn 3 ?_
    refine sg wide_wide [.p, .as (I6 (↑i + 1)), .p] [Value.int .i64 (IntKind.i64.wrap (↑i + 1)) = I6 (↑i + 1)] [(0, v), (5, (Pv b)), (6, (Pv c)), (8, .slice bs n cp), (9, I6 (↑i + 1))] 3 0 hS (.cons (as_i64 (by omega)) .nil) fun a hS => ?_
    refine seg_end ?_
    exact ⟨(i + 1, bs, n, cp, zs), ⟨hS.kp [(0, v), (5, (Pv b)), (6, (Pv c)), (8, .slice bs n cp), (9, I6 (↑i + 1))], by omega, hN, hEx⟩, by simp only; omega⟩
  ·
   replace hb25 := of_decide_eq_false hb25
   refine wpIn_exit ?_
   refine then_exit ?_
   refine then_exit ?_
   refine inBlock_hit ?_
   refine hK21 _ _ ?_
   refine sq fun K45 hK45 => ?_
   refine sq fun K46 hK46 => ?_
   refine rgn 1 ?_
   refine sg wide_wide [.p] [] [(0, v), (5, (Pv b)), (6, (Pv c)), (8, .slice bs n cp), (9, I6 ↑i), (10, I6 0)] 1 0 hS .nil fun a hS => ?_
   refine seg_end ?_
   refine hK46 _ _ ?_
   refine wpIn_block ?_
   refine loop_ghost (fun (k : Nat) a' w' => St 109 [] [(0, v), (5, (Pv b)), (6, (Pv c)), (8, .slice bs n cp), (10, I6 ↑k)] a' ∧ k ≤ n ∧ Nums wb.heap.size w' bs n cp zs ∧ Ext [] wb w') (fun (k : Nat) => n - k) 0 ⟨hS.keepTo [0, 5, 6, 8, 10] (by kernel_rfl), Nat.zero_le _, hN, hEx⟩ ?_
   rintro k a w2 ⟨hS, hkn, hN2, hEy⟩
   have hzl2 := hN2.len
   have hnle := hN2.le
   refine sq fun K47 hK47 => ?_
   refine sq fun K48 hK48 => ?_
   refine rgn 4 ?_
   refine sg wide_wide [.p, .p, .p, .p] [] [(0, v), (5, (Pv b)), (6, (Pv c)), (8, .slice bs n cp), (10, I6 ↑k), (60, .bool (decide ((↑k : Int) < ↑n)))] 4 0 hS .nil fun a hS => ?_
   refine seg_end ?_
   refine hK48 _ _ ?_
   refine cond_b hS rfl (fun hb49 => ?_) (fun hb49 => ?_)
   ·
    replace hb49 := of_decide_eq_true hb49
    obtain ⟨x, hx⟩ : ∃ x, zs[k]? = some x := ⟨_, List.getElem?_eq_getElem (by omega)⟩
    obtain ⟨y, hy⟩ : ∃ y, zs[n - 1 - k]? = some y := ⟨_, List.getElem?_eq_getElem (by omega)⟩
    have hym := hN2.max y (List.mem_of_getElem? hy)
    refine wpIn_skip ?_
    refine hK47 _ _ ?_
    refine sq fun K50 hK50 => ?_
    refine wpIn_block ?_
    refine sq fun K51 hK51 => ?_
    refine region_gh2 (G := World) wide_wide [.q .p, .q .p, .q .p, .q .p, .q (.run ((Po (bof (.slice bs n cp)) (0 + k * 1)))), .q (.ld (I6 x)), .q .p, .q .p, .q .p, .q (.as (I6 ((n - 1 : Nat) : Int))), .q .p, .q (.as (I6 ((n - 1 - k : Nat) : Int))), .q (.run ((Po (bof (.slice bs n cp)) (0 + (n - 1 - k) * 1)))), .q (.ld (I6 y)), .e, .q .p] [0, 0, 0, 0, 0, 0, 0, 0, 0, 0, 0, 0, 0, 0, 0, 1] [0, 0, 0, 0, 0, 0, 0, 0, 0, 0, 0, 0, 0, 0, 0, 1] [0, 0, 0, 0, 12, 28, 0, 0, 128, 384, 0, 1920, 4032, 8128, 16383, 32767] [14] [(14, 0)] 1 (fun wc52 => ([(0, v), (5, (Pv b)), (6, (Pv c)), (8, .slice bs n cp), (10, I6 ↑k), (63, (Pv b)), (64, (Pv c)), (65, .slice bs n cp), (66, I6 ↑k), (67, (Po (bof (.slice bs n cp)) (0 + k * 1))), (68, I6 x), (69, .slice bs n cp), (70, .slice bs n cp), (71, I6 ↑n), (72, I6 ((n - 1 : Nat) : Int)), (73, I6 ↑k), (74, I6 ((n - 1 - k : Nat) : Int)), (75, (Po (bof (.slice bs n cp)) (0 + (n - 1 - k) * 1))), (76, I6 y), (77, .bool true), (78, .bool false)] : Fm)) (fun wc52 => [w2.drew, wc52]) (w2.drew) (fun e wc52 => hAt [True, (Ext [] w2.drew wc52) ∧ True] e) (fun wc52 w' => [(4, [Ru Try.prog (vS (Instr.indexAt 51 (.slice bs n cp) (I6 ↑k))) ((Po (bof (.slice bs n cp)) (0 + k * 1))) w']), (5, [w'.cell? ⟨bof (.slice bs n cp), 0 + k * 1, none⟩ = some (I6 x)]), (9, [Value.int .i64 (IntKind.i64.wrap (↑n - 1)) = I6 ((n - 1 : Nat) : Int)]), (11, [Value.int .i64 (IntKind.i64.wrap (((n - 1 : Nat) : Int) - ↑k)) = I6 ((n - 1 - k : Nat) : Int)]), (12, [Ru Try.prog (vS (Instr.indexAt 51 (.slice bs n cp) (I6 ((n - 1 - k : Nat) : Int)))) ((Po (bof (.slice bs n cp)) (0 + (n - 1 - k) * 1))) w']), (13, [w'.cell? ⟨bof (.slice bs n cp), 0 + (n - 1 - k) * 1, none⟩ = some (I6 y)])]) w2.drew [0, 5, 6, 8, 10] [] hS (by kernel_rfl) (by kernel_rfl) (by kernel_rfl) (by kernel_rfl) (fun wc52 _ => by kernel_rfl) (by kernel_rfl) (by kernel_rfl) (by kernel_rfl) trivial ?_ (by kernel_rfl) ?_ ?_
    ·rintro e wc52 w' hw hH
     refine (.cons ?_ (.cons ?_ (.cons ?_ (.cons ?_ (.cons ?_ (.cons ?_ .nil))))))
     ·intro h1 h2
      obtain rfl : e = 0 := Nat.le_antisymm h2 h1
      have hwe : w2.drew = w' := (hw.trans (by kernel_rfl)).symm
      subst hwe
      clear hH
      exact (.cons (ix_own (j := k) (hN2.own) (by kernel_rfl) (by kernel_rfl) rfl (by omega)) .nil)
     ·intro h1 h2
      obtain rfl : e = 0 := Nat.le_antisymm h2 h1
      have hwe : w2.drew = w' := (hw.trans (by kernel_rfl)).symm
      subst hwe
      clear hH
      exact (.cons ((hN2.own.drew : OwnV w2.drew 3 1 (.slice bs n cp) n (iv zs)).cellAt _ (by rw [Nat.zero_add, Nat.mul_one]; exact iv_at hx)) .nil)
     ·intro h1 h2
      obtain rfl : e = 0 := Nat.le_antisymm h2 h1
      have hwe : w2.drew = w' := (hw.trans (by kernel_rfl)).symm
      subst hwe
      clear hH
      exact (.cons ((by rw [show (↑n - 1 : Int) = ((n - 1 : Nat) : Int) from by omega]; exact as_i64 (by omega))) .nil)
     ·intro h1 h2
      obtain rfl : e = 0 := Nat.le_antisymm h2 h1
      have hwe : w2.drew = w' := (hw.trans (by kernel_rfl)).symm
      subst hwe
      clear hH
      exact (.cons ((by rw [show (((n - 1 : Nat) : Int) - ↑k : Int) = ((n - 1 - k : Nat) : Int) from by omega]; exact as_i64 (by omega))) .nil)
     ·intro h1 h2
      obtain rfl : e = 0 := Nat.le_antisymm h2 h1
      have hwe : w2.drew = w' := (hw.trans (by kernel_rfl)).symm
      subst hwe
      clear hH
      exact (.cons (ix_own (j := (n - 1 - k)) (hN2.own) (by kernel_rfl) (by kernel_rfl) rfl (by omega)) .nil)
     ·intro h1 h2
      obtain rfl : e = 0 := Nat.le_antisymm h2 h1
      have hwe : w2.drew = w' := (hw.trans (by kernel_rfl)).symm
      subst hwe
      clear hH
      exact (.cons ((hN2.own.drew : OwnV w2.drew 3 1 (.slice bs n cp) n (iv zs)).cellAt _ (by rw [Nat.zero_add, Nat.mul_one]; exact iv_at hy)) .nil)
    ·refine (.cons ?eq53_14 .nil)
     ·rintro wc52 hH
      clear hH
      refine eff_gh (w2.drew) (by kernel_rfl) ?_
      refine upon_call (f := 27) (vs := [(Pv b), (Pv c), I6 x, I6 y]) (cap := #[]) (d := (some 77)) (by kernel_rfl) Try.call27 #[(Pv b), (Pv c), I6 x, I6 y] (by kernel_rfl) (look_any (hb.ext0 (hEy.trans0 ((Ext.refl [] _).drew))) (hq.ext0 (hEy.trans0 ((Ext.refl [] _).drew))) hym) ?_
      rintro _ wc52 ⟨rfl, hEc52⟩
      exact ⟨_, rfl, ⟨wc52, by kernel_rfl, by kernel_rfl, by kernel_rfl, ⟨hEc52, trivial⟩⟩⟩
    rintro wc52 a w54 hS hw55 hH
    obtain ⟨hEc52, _⟩ := hH
    replace hw55 : w54 = wc52 := hw55.trans (by kernel_rfl)
    have hB56 := OwnV.at' hw55 ((hN2.own.drew : OwnV w2.drew 3 1 (.slice bs n cp) n (iv zs)).ext hEc52 (by simp))
    have hE57 : Ext [] wb w54 := by rw [hw55]; exact (hEy.drew).trans0 hEc52
    replace hS := hS.kp [(0, v), (5, (Pv b)), (6, (Pv c)), (8, .slice bs n cp), (10, I6 ↑k), (78, .bool false)]
    refine hK51 _ _ ?_
    refine cond_f hS rfl ?_
    refine wpIn_skip ?_
    refine inBlock_normal ?_
    refine hK50 _ _ ?_
    refine rgn 3 ?_
    refine sg wide_wide [.p, .as (I6 (↑k + 1)), .p] [Value.int .i64 (IntKind.i64.wrap (↑k + 1)) = I6 (↑k + 1)] [(0, v), (5, (Pv b)), (6, (Pv c)), (8, .slice bs n cp), (10, I6 (↑k + 1)), (78, .bool false)] 3 0 hS (.cons (as_i64 (by omega)) .nil) fun a hS => ?_
    refine seg_end ?_
    exact ⟨k + 1, ⟨hS.kp [(0, v), (5, (Pv b)), (6, (Pv c)), (8, .slice bs n cp), (10, I6 (↑k + 1))], by omega, ⟨hB56, hN2.len, hN2.max, hN2.new, hN2.le⟩, hE57⟩, by omega⟩
   ·
    replace hb49 := of_decide_eq_false hb49
    refine wpIn_exit ?_
    refine then_exit ?_
    refine then_exit ?_
    refine inBlock_hit ?_
    refine hK45 _ _ ?_
    refine sq fun K58 hK58 => ?_
    refine sq fun K59 hK59 => ?_
    refine rgn 1 ?_
    refine sg wide_wide [.p] [] [(0, v), (5, (Pv b)), (6, (Pv c)), (8, .slice bs n cp), (10, I6 ↑k), (11, I6 (-1))] 1 0 hS .nil fun a hS => ?_
    refine seg_end ?_
    refine hK59 _ _ ?_
    refine wpIn_block ?_
    refine loop_ghost (fun (y : Int) a' w' => St 109 [] [(5, (Pv b)), (6, (Pv c)), (11, I6 y)] a' ∧ -1 ≤ y ∧ y ≤ 2000 ∧ Ext [] wb w') (fun (y : Int) => (2001 - y).toNat) (-1) ⟨hS.keepTo [5, 6, 11] (by kernel_rfl), by omega, by omega, hEy⟩ ?_
    rintro y a w3 ⟨hS, hy1, hy2, hEz⟩
    have hrw := rws_le xs
    refine sq fun K60 hK60 => ?_
    refine sq fun K61 hK61 => ?_
    by_cases hyr : y ≤ (rws xs : Nat) + 1
    ·
     refine rgn 8 ?_
     refine sg wide_wide [.p, .p] [] [(5, (Pv b)), (6, (Pv c)), (11, I6 y), (79, I6 y), (80, (Pv c))] 2 6 hS .nil fun a hS => ?_
     refine eff_call wide_wide (r := 5) (f := 28) (vs := [(Pv c)]) (cap := #[]) (d := (some 81)) hS (by kernel_rfl) Try.call28 #[(Pv c)] (by kernel_rfl) (rRows_X (hq.ext0 hEz)) ?_
     rintro _ wc62 ⟨rfl, hEc62⟩
     refine ⟨_, rfl, fun a hS => ?_⟩
     have hE63 := hEz.trans0 hEc62
     refine sg wide_wide [.as (.bool true), .p, .p, .p, .p] [Value.bool (decide ((y : Int) ≤ ↑(rws xs) + 1)) = .bool true] [(5, (Pv b)), (6, (Pv c)), (11, I6 y), (86, .bool (decide ((y : Int) < 2000)))] 8 0 hS (.cons (as_t (by omega)) .nil) fun a hS => ?_
     refine seg_end ?_
     refine hK61 _ _ ?_
     refine cond_b hS rfl (fun hb64 => ?_) (fun hb64 => ?_)
     ·
      replace hb64 := of_decide_eq_true hb64
      refine wpIn_skip ?_
      refine hK60 _ _ ?_
      refine sq fun K65 hK65 => ?_
      refine wpIn_block ?_
      refine sq fun K66 hK66 => ?_
      refine rgn 8 ?_
      refine sg wide_wide [.p, .p] [] [(5, (Pv b)), (6, (Pv c)), (11, I6 y), (90, (Pv b)), (91, I6 y)] 2 6 hS .nil fun a hS => ?_
      refine eff_call wide_wide (r := 5) (f := 16) (vs := [(Pv b), I6 y]) (cap := #[]) (d := (some 92)) hS (by kernel_rfl) Try.call16 #[(Pv b), I6 y] (by kernel_rfl) (Start_Y (hb.ext0 hE63) y) ?_
      rintro _ wc67 ⟨rfl, hEc67⟩
      refine ⟨_, rfl, fun a hS => ?_⟩
      have hE68 := hE63.trans0 hEc67
      refine sg wide_wide [.p, .p, .p, .p, .p] [] [(5, (Pv b)), (6, (Pv c)), (11, I6 y), (12, I6 ((staK xs y).1)), (13, I6 ((staK xs y).2))] 8 0 hS .nil fun a hS => ?_
      refine seg_end ?_
      refine hK66 _ _ ?_
      refine sq fun K69 hK69 => ?_
      refine rgn 8 ?_
      refine sg wide_wide [.p, .p] [] [(5, (Pv b)), (6, (Pv c)), (11, I6 y), (12, I6 ((staK xs y).1)), (13, I6 ((staK xs y).2)), (96, (Pv c)), (97, I6 y)] 2 6 hS .nil fun a hS => ?_
      refine eff_call wide_wide (r := 5) (f := 29) (vs := [(Pv c), I6 y]) (cap := #[]) (d := (some 98)) hS (by kernel_rfl) Try.call29 #[(Pv c), I6 y] (by kernel_rfl) (rStart_X (hq.ext0 hE68) y (by omega)) ?_
      rintro _ wc70 ⟨rfl, hEc70⟩
      refine ⟨_, rfl, fun a hS => ?_⟩
      have hE71 := hE68.trans0 hEc70
      refine sg wide_wide [.p, .p, .p, .p, .p] [] [(5, (Pv b)), (6, (Pv c)), (11, I6 y), (12, I6 ((staK xs y).1)), (13, I6 ((staK xs y).2)), (14, I6 ((staK xs y).1)), (15, I6 ((staK xs y).2))] 8 0 hS .nil fun a hS => ?_
      refine seg_end ?_
      refine hK69 _ _ ?_
      refine sq fun K72 hK72 => ?_
      refine rgn 8 ?_
      refine sg wide_wide [.p, .p, .as (.bool false), .p, .p, .p, .as (.bool false), .p] [Value.bool ((((staK xs y).1 : Int) != ((staK xs y).1))) = .bool false, Value.bool ((((staK xs y).2 : Int) != ((staK xs y).2))) = .bool false] [(5, (Pv b)), (6, (Pv c)), (11, I6 y), (12, I6 ((staK xs y).1)), (13, I6 ((staK xs y).2)), (14, I6 ((staK xs y).1)), (15, I6 ((staK xs y).2)), (108, .bool false)] 8 0 hS (.cons (as_ne_f (rfl)) (.cons (as_ne_f (rfl)) .nil)) fun a hS => ?_
      refine seg_end ?_
      refine hK72 _ _ ?_
      refine cond_f hS rfl ?_
      refine wpIn_skip ?_
      refine inBlock_normal ?_
      refine hK65 _ _ ?_
      refine rgn 3 ?_
      refine sg wide_wide [.p, .as (I6 (y + 1)), .p] [Value.int .i64 (IntKind.i64.wrap (y + 1)) = I6 (y + 1)] [(5, (Pv b)), (6, (Pv c)), (11, I6 (y + 1)), (12, I6 ((staK xs y).1)), (13, I6 ((staK xs y).2)), (14, I6 ((staK xs y).1)), (15, I6 ((staK xs y).2)), (108, .bool false)] 3 0 hS (.cons (as_i64 (by omega)) .nil) fun a hS => ?_
      refine seg_end ?_
      exact ⟨y + 1, ⟨hS.kp [(5, (Pv b)), (6, (Pv c)), (11, I6 (y + 1))], by omega, by omega, hE71⟩, by omega⟩
     ·
      replace hb64 := of_decide_eq_false hb64
      refine wpIn_exit ?_
      refine then_exit ?_
      refine then_exit ?_
      refine inBlock_hit ?_
      refine hK58 _ _ ?_
      refine sq fun K73 hK73 => ?_
      refine rgn 1 ?_
      refine sg wide_wide [.p] [] [(5, (Pv b)), (6, (Pv c)), (11, I6 y), (4, .bool true)] 1 0 hS .nil fun a hS => ?_
      refine seg_end ?_
      refine hK73 _ _ ?_
      refine wpIn_ret ?_
      refine ret1 hS Try.results7 rfl ?_
      exact ⟨rfl, hEw.trans0 hE63⟩
    ·
     refine rgn 8 ?_
     refine sg wide_wide [.p, .p] [] [(5, (Pv b)), (6, (Pv c)), (11, I6 y), (79, I6 y), (80, (Pv c))] 2 6 hS .nil fun a hS => ?_
     refine eff_call wide_wide (r := 5) (f := 28) (vs := [(Pv c)]) (cap := #[]) (d := (some 81)) hS (by kernel_rfl) Try.call28 #[(Pv c)] (by kernel_rfl) (rRows_X (hq.ext0 hEz)) ?_
     rintro _ wc74 ⟨rfl, hEc74⟩
     refine ⟨_, rfl, fun a hS => ?_⟩
     have hE75 := hEz.trans0 hEc74
     refine sg wide_wide [.as (.bool false), .p, .no, .no, .p] [Value.bool (decide ((y : Int) ≤ ↑(rws xs) + 1)) = .bool false] [(5, (Pv b)), (6, (Pv c)), (11, I6 y), (86, .bool false)] 8 0 hS (.cons (as_f (by omega)) .nil) fun a hS => ?_
     refine seg_end ?_
     refine hK61 _ _ ?_
     refine cond_f hS rfl ?_
     refine wpIn_exit ?_
     refine then_exit ?_
     refine then_exit ?_
     refine inBlock_hit ?_
     refine hK58 _ _ ?_
     refine sq fun K76 hK76 => ?_
     refine rgn 1 ?_
     refine sg wide_wide [.p] [] [(5, (Pv b)), (6, (Pv c)), (11, I6 y), (86, .bool false), (4, .bool true)] 1 0 hS .nil fun a hS => ?_
     refine seg_end ?_
     refine hK76 _ _ ?_
     refine wpIn_ret ?_
     refine ret1 hS Try.results7 rfl ?_
     exact ⟨rfl, hEw.trans0 hE75⟩
 ·
  refine rgn 12 ?_
  refine sg wide_wide [.p, .p, .p, .p, .ld (q), .run (I6 ↑xs.length), .as (.bool false), .p, .no, .no, .no, .p] [w1.cell? ⟨c, 0, none⟩ = some (q), Ru Try.prog (vS (Builtin.len_ #[23] 3 #[q])) (I6 ↑xs.length) w1, Value.bool (decide ((↑i : Int) < ↑xs.length)) = .bool false] [(0, v), (5, (Pv b)), (6, (Pv c)), (8, .slice bs n cp), (9, I6 ↑i), (40, .bool false)] 12 0 hS (.cons (((hq.1.ext hEx (by simp))).cell 0 rfl) (.cons (run_len_rd (e := 5) (hq.2.1.ext0 hEx) (by kernel_rfl)) (.cons (as_f (by omega)) .nil))) fun a hS => ?_
  refine seg_end ?_
  refine hK24 _ _ ?_
  refine cond_f hS rfl ?_
  refine wpIn_exit ?_
  refine then_exit ?_
  refine then_exit ?_
  refine inBlock_hit ?_
  refine hK21 _ _ ?_
  refine sq fun K77 hK77 => ?_
  refine sq fun K78 hK78 => ?_
  refine rgn 1 ?_
  refine sg wide_wide [.p] [] [(0, v), (5, (Pv b)), (6, (Pv c)), (8, .slice bs n cp), (9, I6 ↑i), (40, .bool false), (10, I6 0)] 1 0 hS .nil fun a hS => ?_
  refine seg_end ?_
  refine hK78 _ _ ?_
  refine wpIn_block ?_
  refine loop_ghost (fun (k : Nat) a' w' => St 109 [] [(0, v), (5, (Pv b)), (6, (Pv c)), (8, .slice bs n cp), (10, I6 ↑k)] a' ∧ k ≤ n ∧ Nums wb.heap.size w' bs n cp zs ∧ Ext [] wb w') (fun (k : Nat) => n - k) 0 ⟨hS.keepTo [0, 5, 6, 8, 10] (by kernel_rfl), Nat.zero_le _, hN, hEx⟩ ?_
  rintro k a w2 ⟨hS, hkn, hN2, hEy⟩
  have hzl2 := hN2.len
  have hnle := hN2.le
  refine sq fun K79 hK79 => ?_
  refine sq fun K80 hK80 => ?_
  refine rgn 4 ?_
  refine sg wide_wide [.p, .p, .p, .p] [] [(0, v), (5, (Pv b)), (6, (Pv c)), (8, .slice bs n cp), (10, I6 ↑k), (60, .bool (decide ((↑k : Int) < ↑n)))] 4 0 hS .nil fun a hS => ?_
  refine seg_end ?_
  refine hK80 _ _ ?_
  refine cond_b hS rfl (fun hb81 => ?_) (fun hb81 => ?_)
  ·
   replace hb81 := of_decide_eq_true hb81
   obtain ⟨x, hx⟩ : ∃ x, zs[k]? = some x := ⟨_, List.getElem?_eq_getElem (by omega)⟩
   obtain ⟨y, hy⟩ : ∃ y, zs[n - 1 - k]? = some y := ⟨_, List.getElem?_eq_getElem (by omega)⟩
   have hym := hN2.max y (List.mem_of_getElem? hy)
   refine wpIn_skip ?_
   refine hK79 _ _ ?_
   refine sq fun K82 hK82 => ?_
   refine wpIn_block ?_
   refine sq fun K83 hK83 => ?_
   refine region_gh2 (G := World) wide_wide [.q .p, .q .p, .q .p, .q .p, .q (.run ((Po (bof (.slice bs n cp)) (0 + k * 1)))), .q (.ld (I6 x)), .q .p, .q .p, .q .p, .q (.as (I6 ((n - 1 : Nat) : Int))), .q .p, .q (.as (I6 ((n - 1 - k : Nat) : Int))), .q (.run ((Po (bof (.slice bs n cp)) (0 + (n - 1 - k) * 1)))), .q (.ld (I6 y)), .e, .q .p] [0, 0, 0, 0, 0, 0, 0, 0, 0, 0, 0, 0, 0, 0, 0, 1] [0, 0, 0, 0, 0, 0, 0, 0, 0, 0, 0, 0, 0, 0, 0, 1] [0, 0, 0, 0, 12, 28, 0, 0, 128, 384, 0, 1920, 4032, 8128, 16383, 32767] [14] [(14, 0)] 1 (fun wc84 => ([(0, v), (5, (Pv b)), (6, (Pv c)), (8, .slice bs n cp), (10, I6 ↑k), (63, (Pv b)), (64, (Pv c)), (65, .slice bs n cp), (66, I6 ↑k), (67, (Po (bof (.slice bs n cp)) (0 + k * 1))), (68, I6 x), (69, .slice bs n cp), (70, .slice bs n cp), (71, I6 ↑n), (72, I6 ((n - 1 : Nat) : Int)), (73, I6 ↑k), (74, I6 ((n - 1 - k : Nat) : Int)), (75, (Po (bof (.slice bs n cp)) (0 + (n - 1 - k) * 1))), (76, I6 y), (77, .bool true), (78, .bool false)] : Fm)) (fun wc84 => [w2.drew, wc84]) (w2.drew) (fun e wc84 => hAt [True, (Ext [] w2.drew wc84) ∧ True] e) (fun wc84 w' => [(4, [Ru Try.prog (vS (Instr.indexAt 51 (.slice bs n cp) (I6 ↑k))) ((Po (bof (.slice bs n cp)) (0 + k * 1))) w']), (5, [w'.cell? ⟨bof (.slice bs n cp), 0 + k * 1, none⟩ = some (I6 x)]), (9, [Value.int .i64 (IntKind.i64.wrap (↑n - 1)) = I6 ((n - 1 : Nat) : Int)]), (11, [Value.int .i64 (IntKind.i64.wrap (((n - 1 : Nat) : Int) - ↑k)) = I6 ((n - 1 - k : Nat) : Int)]), (12, [Ru Try.prog (vS (Instr.indexAt 51 (.slice bs n cp) (I6 ((n - 1 - k : Nat) : Int)))) ((Po (bof (.slice bs n cp)) (0 + (n - 1 - k) * 1))) w']), (13, [w'.cell? ⟨bof (.slice bs n cp), 0 + (n - 1 - k) * 1, none⟩ = some (I6 y)])]) w2.drew [0, 5, 6, 8, 10] [] hS (by kernel_rfl) (by kernel_rfl) (by kernel_rfl) (by kernel_rfl) (fun wc84 _ => by kernel_rfl) (by kernel_rfl) (by kernel_rfl) (by kernel_rfl) trivial ?_ (by kernel_rfl) ?_ ?_
   ·rintro e wc84 w' hw hH
    refine (.cons ?_ (.cons ?_ (.cons ?_ (.cons ?_ (.cons ?_ (.cons ?_ .nil))))))
    ·intro h1 h2
     obtain rfl : e = 0 := Nat.le_antisymm h2 h1
     have hwe : w2.drew = w' := (hw.trans (by kernel_rfl)).symm
     subst hwe
     clear hH
     exact (.cons (ix_own (j := k) (hN2.own) (by kernel_rfl) (by kernel_rfl) rfl (by omega)) .nil)
    ·intro h1 h2
     obtain rfl : e = 0 := Nat.le_antisymm h2 h1
     have hwe : w2.drew = w' := (hw.trans (by kernel_rfl)).symm
     subst hwe
     clear hH
     exact (.cons ((hN2.own.drew : OwnV w2.drew 3 1 (.slice bs n cp) n (iv zs)).cellAt _ (by rw [Nat.zero_add, Nat.mul_one]; exact iv_at hx)) .nil)
    ·intro h1 h2
     obtain rfl : e = 0 := Nat.le_antisymm h2 h1
     have hwe : w2.drew = w' := (hw.trans (by kernel_rfl)).symm
     subst hwe
     clear hH
     exact (.cons ((by rw [show (↑n - 1 : Int) = ((n - 1 : Nat) : Int) from by omega]; exact as_i64 (by omega))) .nil)
    ·intro h1 h2
     obtain rfl : e = 0 := Nat.le_antisymm h2 h1
     have hwe : w2.drew = w' := (hw.trans (by kernel_rfl)).symm
     subst hwe
     clear hH
     exact (.cons ((by rw [show (((n - 1 : Nat) : Int) - ↑k : Int) = ((n - 1 - k : Nat) : Int) from by omega]; exact as_i64 (by omega))) .nil)
    ·intro h1 h2
     obtain rfl : e = 0 := Nat.le_antisymm h2 h1
     have hwe : w2.drew = w' := (hw.trans (by kernel_rfl)).symm
     subst hwe
     clear hH
     exact (.cons (ix_own (j := (n - 1 - k)) (hN2.own) (by kernel_rfl) (by kernel_rfl) rfl (by omega)) .nil)
    ·intro h1 h2
     obtain rfl : e = 0 := Nat.le_antisymm h2 h1
     have hwe : w2.drew = w' := (hw.trans (by kernel_rfl)).symm
     subst hwe
     clear hH
     exact (.cons ((hN2.own.drew : OwnV w2.drew 3 1 (.slice bs n cp) n (iv zs)).cellAt _ (by rw [Nat.zero_add, Nat.mul_one]; exact iv_at hy)) .nil)
   ·refine (.cons ?eq85_14 .nil)
    ·rintro wc84 hH
     clear hH
     refine eff_gh (w2.drew) (by kernel_rfl) ?_
     refine upon_call (f := 27) (vs := [(Pv b), (Pv c), I6 x, I6 y]) (cap := #[]) (d := (some 77)) (by kernel_rfl) Try.call27 #[(Pv b), (Pv c), I6 x, I6 y] (by kernel_rfl) (look_any (hb.ext0 (hEy.trans0 ((Ext.refl [] _).drew))) (hq.ext0 (hEy.trans0 ((Ext.refl [] _).drew))) hym) ?_
     rintro _ wc84 ⟨rfl, hEc84⟩
     exact ⟨_, rfl, ⟨wc84, by kernel_rfl, by kernel_rfl, by kernel_rfl, ⟨hEc84, trivial⟩⟩⟩
   rintro wc84 a w86 hS hw87 hH
   obtain ⟨hEc84, _⟩ := hH
   replace hw87 : w86 = wc84 := hw87.trans (by kernel_rfl)
   have hB88 := OwnV.at' hw87 ((hN2.own.drew : OwnV w2.drew 3 1 (.slice bs n cp) n (iv zs)).ext hEc84 (by simp))
   have hE89 : Ext [] wb w86 := by rw [hw87]; exact (hEy.drew).trans0 hEc84
   replace hS := hS.kp [(0, v), (5, (Pv b)), (6, (Pv c)), (8, .slice bs n cp), (10, I6 ↑k), (78, .bool false)]
   refine hK83 _ _ ?_
   refine cond_f hS rfl ?_
   refine wpIn_skip ?_
   refine inBlock_normal ?_
   refine hK82 _ _ ?_
   refine rgn 3 ?_
   refine sg wide_wide [.p, .as (I6 (↑k + 1)), .p] [Value.int .i64 (IntKind.i64.wrap (↑k + 1)) = I6 (↑k + 1)] [(0, v), (5, (Pv b)), (6, (Pv c)), (8, .slice bs n cp), (10, I6 (↑k + 1)), (78, .bool false)] 3 0 hS (.cons (as_i64 (by omega)) .nil) fun a hS => ?_
   refine seg_end ?_
   exact ⟨k + 1, ⟨hS.kp [(0, v), (5, (Pv b)), (6, (Pv c)), (8, .slice bs n cp), (10, I6 (↑k + 1))], by omega, ⟨hB88, hN2.len, hN2.max, hN2.new, hN2.le⟩, hE89⟩, by omega⟩
  ·
   replace hb81 := of_decide_eq_false hb81
   refine wpIn_exit ?_
   refine then_exit ?_
   refine then_exit ?_
   refine inBlock_hit ?_
   refine hK77 _ _ ?_
   refine sq fun K90 hK90 => ?_
   refine sq fun K91 hK91 => ?_
   refine rgn 1 ?_
   refine sg wide_wide [.p] [] [(0, v), (5, (Pv b)), (6, (Pv c)), (8, .slice bs n cp), (10, I6 ↑k), (11, I6 (-1))] 1 0 hS .nil fun a hS => ?_
   refine seg_end ?_
   refine hK91 _ _ ?_
   refine wpIn_block ?_
   refine loop_ghost (fun (y : Int) a' w' => St 109 [] [(5, (Pv b)), (6, (Pv c)), (11, I6 y)] a' ∧ -1 ≤ y ∧ y ≤ 2000 ∧ Ext [] wb w') (fun (y : Int) => (2001 - y).toNat) (-1) ⟨hS.keepTo [5, 6, 11] (by kernel_rfl), by omega, by omega, hEy⟩ ?_
   rintro y a w3 ⟨hS, hy1, hy2, hEz⟩
   have hrw := rws_le xs
   refine sq fun K92 hK92 => ?_
   refine sq fun K93 hK93 => ?_
   by_cases hyr : y ≤ (rws xs : Nat) + 1
   ·
    refine rgn 8 ?_
    refine sg wide_wide [.p, .p] [] [(5, (Pv b)), (6, (Pv c)), (11, I6 y), (79, I6 y), (80, (Pv c))] 2 6 hS .nil fun a hS => ?_
    refine eff_call wide_wide (r := 5) (f := 28) (vs := [(Pv c)]) (cap := #[]) (d := (some 81)) hS (by kernel_rfl) Try.call28 #[(Pv c)] (by kernel_rfl) (rRows_X (hq.ext0 hEz)) ?_
    rintro _ wc94 ⟨rfl, hEc94⟩
    refine ⟨_, rfl, fun a hS => ?_⟩
    have hE95 := hEz.trans0 hEc94
    refine sg wide_wide [.as (.bool true), .p, .p, .p, .p] [Value.bool (decide ((y : Int) ≤ ↑(rws xs) + 1)) = .bool true] [(5, (Pv b)), (6, (Pv c)), (11, I6 y), (86, .bool (decide ((y : Int) < 2000)))] 8 0 hS (.cons (as_t (by omega)) .nil) fun a hS => ?_
    refine seg_end ?_
    refine hK93 _ _ ?_
    refine cond_b hS rfl (fun hb96 => ?_) (fun hb96 => ?_)
    ·
     replace hb96 := of_decide_eq_true hb96
     refine wpIn_skip ?_
     refine hK92 _ _ ?_
     refine sq fun K97 hK97 => ?_
     refine wpIn_block ?_
     refine sq fun K98 hK98 => ?_
     refine rgn 8 ?_
     refine sg wide_wide [.p, .p] [] [(5, (Pv b)), (6, (Pv c)), (11, I6 y), (90, (Pv b)), (91, I6 y)] 2 6 hS .nil fun a hS => ?_
     refine eff_call wide_wide (r := 5) (f := 16) (vs := [(Pv b), I6 y]) (cap := #[]) (d := (some 92)) hS (by kernel_rfl) Try.call16 #[(Pv b), I6 y] (by kernel_rfl) (Start_Y (hb.ext0 hE95) y) ?_
     rintro _ wc99 ⟨rfl, hEc99⟩
     refine ⟨_, rfl, fun a hS => ?_⟩
     have hE100 := hE95.trans0 hEc99
     refine sg wide_wide [.p, .p, .p, .p, .p] [] [(5, (Pv b)), (6, (Pv c)), (11, I6 y), (12, I6 ((staK xs y).1)), (13, I6 ((staK xs y).2))] 8 0 hS .nil fun a hS => ?_
     refine seg_end ?_
     refine hK98 _ _ ?_
     refine sq fun K101 hK101 => ?_
     refine rgn 8 ?_
     refine sg wide_wide [.p, .p] [] [(5, (Pv b)), (6, (Pv c)), (11, I6 y), (12, I6 ((staK xs y).1)), (13, I6 ((staK xs y).2)), (96, (Pv c)), (97, I6 y)] 2 6 hS .nil fun a hS => ?_
     refine eff_call wide_wide (r := 5) (f := 29) (vs := [(Pv c), I6 y]) (cap := #[]) (d := (some 98)) hS (by kernel_rfl) Try.call29 #[(Pv c), I6 y] (by kernel_rfl) (rStart_X (hq.ext0 hE100) y (by omega)) ?_
     rintro _ wc102 ⟨rfl, hEc102⟩
     refine ⟨_, rfl, fun a hS => ?_⟩
     have hE103 := hE100.trans0 hEc102
     refine sg wide_wide [.p, .p, .p, .p, .p] [] [(5, (Pv b)), (6, (Pv c)), (11, I6 y), (12, I6 ((staK xs y).1)), (13, I6 ((staK xs y).2)), (14, I6 ((staK xs y).1)), (15, I6 ((staK xs y).2))] 8 0 hS .nil fun a hS => ?_
     refine seg_end ?_
     refine hK101 _ _ ?_
     refine sq fun K104 hK104 => ?_
     refine rgn 8 ?_
     refine sg wide_wide [.p, .p, .as (.bool false), .p, .p, .p, .as (.bool false), .p] [Value.bool ((((staK xs y).1 : Int) != ((staK xs y).1))) = .bool false, Value.bool ((((staK xs y).2 : Int) != ((staK xs y).2))) = .bool false] [(5, (Pv b)), (6, (Pv c)), (11, I6 y), (12, I6 ((staK xs y).1)), (13, I6 ((staK xs y).2)), (14, I6 ((staK xs y).1)), (15, I6 ((staK xs y).2)), (108, .bool false)] 8 0 hS (.cons (as_ne_f (rfl)) (.cons (as_ne_f (rfl)) .nil)) fun a hS => ?_
     refine seg_end ?_
     refine hK104 _ _ ?_
     refine cond_f hS rfl ?_
     refine wpIn_skip ?_
     refine inBlock_normal ?_
     refine hK97 _ _ ?_
     refine rgn 3 ?_
     refine sg wide_wide [.p, .as (I6 (y + 1)), .p] [Value.int .i64 (IntKind.i64.wrap (y + 1)) = I6 (y + 1)] [(5, (Pv b)), (6, (Pv c)), (11, I6 (y + 1)), (12, I6 ((staK xs y).1)), (13, I6 ((staK xs y).2)), (14, I6 ((staK xs y).1)), (15, I6 ((staK xs y).2)), (108, .bool false)] 3 0 hS (.cons (as_i64 (by omega)) .nil) fun a hS => ?_
     refine seg_end ?_
     exact ⟨y + 1, ⟨hS.kp [(5, (Pv b)), (6, (Pv c)), (11, I6 (y + 1))], by omega, by omega, hE103⟩, by omega⟩
    ·
     replace hb96 := of_decide_eq_false hb96
     refine wpIn_exit ?_
     refine then_exit ?_
     refine then_exit ?_
     refine inBlock_hit ?_
     refine hK90 _ _ ?_
     refine sq fun K105 hK105 => ?_
     refine rgn 1 ?_
     refine sg wide_wide [.p] [] [(5, (Pv b)), (6, (Pv c)), (11, I6 y), (4, .bool true)] 1 0 hS .nil fun a hS => ?_
     refine seg_end ?_
     refine hK105 _ _ ?_
     refine wpIn_ret ?_
     refine ret1 hS Try.results7 rfl ?_
     exact ⟨rfl, hEw.trans0 hE95⟩
   ·
    refine rgn 8 ?_
    refine sg wide_wide [.p, .p] [] [(5, (Pv b)), (6, (Pv c)), (11, I6 y), (79, I6 y), (80, (Pv c))] 2 6 hS .nil fun a hS => ?_
    refine eff_call wide_wide (r := 5) (f := 28) (vs := [(Pv c)]) (cap := #[]) (d := (some 81)) hS (by kernel_rfl) Try.call28 #[(Pv c)] (by kernel_rfl) (rRows_X (hq.ext0 hEz)) ?_
    rintro _ wc106 ⟨rfl, hEc106⟩
    refine ⟨_, rfl, fun a hS => ?_⟩
    have hE107 := hEz.trans0 hEc106
    refine sg wide_wide [.as (.bool false), .p, .no, .no, .p] [Value.bool (decide ((y : Int) ≤ ↑(rws xs) + 1)) = .bool false] [(5, (Pv b)), (6, (Pv c)), (11, I6 y), (86, .bool false)] 8 0 hS (.cons (as_f (by omega)) .nil) fun a hS => ?_
    refine seg_end ?_
    refine hK93 _ _ ?_
    refine cond_f hS rfl ?_
    refine wpIn_exit ?_
    refine then_exit ?_
    refine then_exit ?_
    refine inBlock_hit ?_
    refine hK90 _ _ ?_
    refine sq fun K108 hK108 => ?_
    refine rgn 1 ?_
    refine sg wide_wide [.p] [] [(5, (Pv b)), (6, (Pv c)), (11, I6 y), (86, .bool false), (4, .bool true)] 1 0 hS .nil fun a hS => ?_
    refine seg_end ?_
    refine hK108 _ _ ?_
    refine wpIn_ret ?_
    refine ret1 hS Try.results7 rfl ?_
    exact ⟨rfl, hEw.trans0 hE107⟩

end Go.Proofs.Ytkdbfjomjlhfbaa
