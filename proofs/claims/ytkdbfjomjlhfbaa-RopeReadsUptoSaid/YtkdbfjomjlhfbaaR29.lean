import Derived.Test.YtkdbfjomjlhfbaaProg
import Derived.Test.YtkdbfjomjlhfbaaR28
namespace Go.Proofs.Ytkdbfjomjlhfbaa
open Go.Vc
set_option linter.unusedSectionVars false
variable [Inhabited Zt]

theorem Wy.adv {F : Nat → Prop} {N : Nat} {w w' : World} {wb r : Nat} {pv lv : Value} {ys : List Int} {st : List Nd} (h : Wy F N w wb pv lv ys st) (hE : Ext [r, wb] w w') (hr : N ≤ r) (hrl : r ∉ ob lv) (hp : 0 < ys.length)
  (hB : Blk w' wb 105 #[rsub pv 1 ys.length (capOf pv), lv]) : Wy F N w' wb (rsub pv 1 ys.length (capOf pv)) lv (ys.drop 1) st := by
 have hM : ∀ x ∈ [r, wb], ¬F x := fun x hx hf => by
  have h1 := h.FN x hf
  have hx : x = r ∨ x = wb := by simpa using hx
  rcases hx with rfl | rfl
  ·omega
  ·have := h.wN; omega
 have hwl : wb ∉ ob lv := fun hm => h.own.ne h.blk (by decide) wb hm rfl
 refine ⟨hB, (RdV.tail h.rd (i := 1) (by omega)).ext hE (fun b hb hm => ?_), h.own.ext hE (fun b hb hm => ?_), fun t ht => (h.ok t ht).ext hE fun x hx hf => hM x hx (h.fN t ht x hf), fun x hx => h.br x (List.mem_of_mem_drop hx), h.fN, ?_, h.wN, h.lN, h.FN⟩
 ·rw [ob_rsub] at hb; exact hM b hm (h.pN b hb)
 ·have hm : b = r ∨ b = wb := by simpa using hm
  rcases hm with rfl | rfl
  ·exact hrl hb
  ·exact hwl hb
 ·rw [ob_rsub]; exact h.pN
/-- within a reader's step -/
structure Rn (F : Nat → Prop) (N : Nat) (w : World) (r wb i : Nat) (lv0 : Value) (G : List Int) (pv lv : Value) (ys : List Int) (st : List Nd) (k : Nat) (w' : World) : Prop where
 hb : Blk w' r 102 #[Pv wb, I6 i]
 wy : Wy F N w' wb pv lv ys st
 all : ys ++ rst st = G
 bd : ys.length + (rst st).length ≤ 100000000
 ext : Ext (r :: wb :: ob lv0) w w'
 fr : Fresh w.heap.size (ob lv0) (ob lv)
 nz : k = 0 → ys ≠ []
 rl : r ∉ ob lv
def NxP (F : Nat → Prop) (N : Nat) (w : World) (r wb i : Nat) (lv0 : Value) (G : List Int) (e : Ending) (w' : World) : Prop :=
 ∃ pv lv ys st k, Blk w' r 102 #[Pv wb, I6 (i + k : Nat)] ∧ Wy F N w' wb pv lv ys st ∧ ys.length + (rst st).length ≤ 100000000 ∧ Ext (r :: wb :: ob lv0) w w' ∧ Fresh w.heap.size (ob lv0) (ob lv) ∧
  ((k = 0 ∧ G = [] ∧ ys ++ rst st = [] ∧ e = .returned (.tuple #[.int .u8 0, .bool false])) ∨ ∃ y, k = 1 ∧ G = y :: (ys ++ rst st) ∧ e = .returned (.tuple #[.int .u8 y, .bool true]))

set_option maxHeartbeats 1000000 in
theorem Next_w {F : Nat → Prop} {N : Nat} {w : World} {r wb i : Nat} {pv0 lv0 : Value} {G : List Int} {ys0 : List Int} {st0 : List Nd} (h0 : Rn F N w r wb i lv0 G pv0 lv0 ys0 st0 1 w) (hrN : N ≤ r) (hi : i ≤ 1000000000) :
  Calls Try.prog 38 #[(Pv r)] w fun e w' => NxP F N w r wb i lv0 G e w' := by
 refine calls_body 50 [(0, (Pv r))] Try.func38 rfl (by kernel_rfl) (by kernel_rfl) (by kernel_rfl) fun a hS => ?_
 refine sq fun K1 hK1 => ?_
 refine rgn 2 ?_
 refine sg wide_wide [.p, .p] [] [(0, (Pv r)), (2, .int .u8 0), (3, .bool false)] 2 0 hS .nil fun a hS => ?_
 refine seg_end ?_
 refine hK1 _ _ ?_
 refine scope_ghost 0 (fun (q : Value × Value × List Int × List Nd × Nat) a' w' => St 50 [] [(0, (Pv r))] a' ∧ Rn F N w r wb i lv0 G q.1 q.2.1 q.2.2.1 q.2.2.2.1 q.2.2.2.2 w') (fun q => q.2.2.2.2) rfl rfl ?_ ?_
 ·rintro ⟨pv, lv, ys, st, k⟩ a w1 ⟨hS, hI⟩
  simp only at hS hI
  have hW := hI.wy
  obtain ⟨vq, vc, hpv⟩ := hW.rd.form
  have hrd : RdV w1 1 (.slice vq ys.length vc) ys.length (bv ys) := by rw [← hpv]; exact hW.rd
  have hB : Blk w1 wb 105 #[.slice vq ys.length vc, lv] := by rw [← hpv]; exact hW.blk
  have hbr := hI.hb
  have hEx := hI.ext
  have hEr : Ext [r, wb] w1 w1 := Ext.refl _ _
  have hrw : r ≠ wb := hbr.ne_type hB (by decide)
  refine sq fun K2 hK2 => ?_
  refine sq fun K3 hK3 => ?_
  refine rgn 9 ?_
  refine sg wide_wide [.p, .p, .p, .ld ((Pv wb)), .p, .p, .ld ((.slice vq ys.length vc)), .run (I6 ↑ys.length), .p] [w1.cell? ⟨r, 0, none⟩ = some ((Pv wb)), w1.cell? ⟨wb, 0, none⟩ = some ((.slice vq ys.length vc)), Ru Try.prog (vS (Builtin.len_ #[23] 3 #[(.slice vq ys.length vc)])) (I6 ↑ys.length) w1] [(0, (Pv r)), (13, .bool (decide ((↑ys.length : Int) > 0)))] 9 0 hS (.cons (hbr.cell 0 rfl) (.cons (hB.cell 0 rfl) (.cons (run_len_rd (e := 5) hrd (by kernel_rfl)) .nil))) fun a hS => ?_
  refine seg_end ?_
  refine hK3 _ _ ?_
  refine cond_b hS rfl (fun hb4 => ?_) (fun hb4 => ?_)
  ·
   replace hb4 := of_decide_eq_true hb4
   have hpos : 0 < ys.length := by omega
   obtain ⟨y, hy⟩ : ∃ y, ys[0]? = some y := ⟨_, List.getElem?_eq_getElem hpos⟩
   refine sq fun K5 hK5 => ?_
   refine rgn 10 ?_
   refine sg wide_wide [.p, .p, .p, .ld ((Pv wb)), .p, .p, .ld ((.slice vq ys.length vc)), .run ((Po (bof (.slice vq ys.length vc)) (oof (.slice vq ys.length vc) + 0 * 1))), .ld (.int .u8 y), .p] [w1.cell? ⟨r, 0, none⟩ = some ((Pv wb)), w1.cell? ⟨wb, 0, none⟩ = some ((.slice vq ys.length vc)), Ru Try.prog (vS (Instr.indexAt 23 ((.slice vq ys.length vc)) (I6 0))) ((Po (bof (.slice vq ys.length vc)) (oof (.slice vq ys.length vc) + 0 * 1))) w1, w1.cell? ⟨bof (.slice vq ys.length vc), oof (.slice vq ys.length vc) + 0 * 1, none⟩ = some (.int .u8 y)] [(0, (Pv r)), (4, .int .u8 y)] 10 0 hS (.cons (hbr.cell 0 rfl) (.cons (hB.cell 0 rfl) (.cons (ix_rd (e := 5) (j := 0) hrd (by kernel_rfl) (by kernel_rfl) rfl (by omega)) (.cons (hrd.cellAt (0 * 1) (by omega) (by rw [Nat.mul_one]; exact bv_at hy)) .nil)))) fun a hS => ?_
   refine seg_end ?_
   refine hK5 _ _ ?_
   refine sq fun K6 hK6 => ?_
   refine region_fn2 wide_wide [.q .p, .q .p, .q .p, .q (.ld ((Pv wb))), .q .p, .q .p, .q .p, .q (.ld ((Pv wb))), .q .p, .q .p, .q (.ld ((.slice vq ys.length vc))), .q (.run (rsub (.slice vq ys.length vc) 1 ys.length (capOf (.slice vq ys.length vc)))), .q .p, .q .p, .e] [0, 0, 0, 0, 0, 0, 0, 0, 0, 0, 0, 0, 0, 0, 0] [0, 0, 0, 0, 0, 0, 0, 0, 0, 0, 0, 0, 0, 0, 0] [0, 1, 3, 7, 0, 16, 48, 112, 240, 496, 1008, 2032, 4095, 8191, 16383] [14] 1 ([(0, (Pv r)), (4, .int .u8 y), (23, (Pv r)), (24, (Pv r)), (25, (Pv r)), (26, (Pv wb)), (27, (Pv r)), (28, (Pv r)), (29, (Pv r)), (30, (Pv wb)), (31, (Pv wb)), (32, (Pv wb)), (33, (.slice vq ys.length vc)), (34, (rsub (.slice vq ys.length vc) 1 ys.length (capOf (.slice vq ys.length vc)))), (35, (Pv wb)), (36, (Pv wb))]) [w1.drew, upd (w1.drew) (wb) 105 #[(rsub (.slice vq ys.length vc) 1 ys.length (capOf (.slice vq ys.length vc))), lv]] w1.drew (fun w' => [(3, [w'.cell? ⟨r, 0, none⟩ = some ((Pv wb))]), (7, [w'.cell? ⟨r, 0, none⟩ = some ((Pv wb))]), (10, [w'.cell? ⟨wb, 0, none⟩ = some ((.slice vq ys.length vc))]), (11, [Ru Try.prog (vS (Instr.sliceAt 23 (.slice vq ys.length vc) (some (I6 1)) none none)) (rsub (.slice vq ys.length vc) 1 ys.length (capOf (.slice vq ys.length vc))) w'])]) [0, 4] [] hS (by kernel_rfl) (by kernel_rfl) (by kernel_rfl) (by kernel_rfl) (fun _ => by kernel_rfl) (by kernel_rfl) (by kernel_rfl) (by kernel_rfl) ?_ ?_ ?_
   ·intro e w' hw
    refine (.cons ?_ (.cons ?_ (.cons ?_ (.cons ?_ .nil))))
    ·intro h1 h2
     obtain rfl : e = 0 := Nat.le_antisymm h2 h1
     obtain rfl : w' = w1.drew := hw.trans (by kernel_rfl)
     exact (.cons ((hbr.drew : Blk w1.drew r 102 (#[(Pv wb), I6 ↑i])).cell 0 rfl) .nil)
    ·intro h1 h2
     obtain rfl : e = 0 := Nat.le_antisymm h2 h1
     obtain rfl : w' = w1.drew := hw.trans (by kernel_rfl)
     exact (.cons ((hbr.drew : Blk w1.drew r 102 (#[(Pv wb), I6 ↑i])).cell 0 rfl) .nil)
    ·intro h1 h2
     obtain rfl : e = 0 := Nat.le_antisymm h2 h1
     obtain rfl : w' = w1.drew := hw.trans (by kernel_rfl)
     exact (.cons ((hB.drew : Blk w1.drew wb 105 (#[(.slice vq ys.length vc), lv])).cell 0 rfl) .nil)
    ·exact fun _ _ => (.cons (sl_rd (e := 5) (some (I6 1)) none (l := 1) (k := ys.length) hrd (by kernel_rfl) (by kernel_rfl) (.inr ⟨_, rfl⟩) (.inl ⟨rfl, rfl⟩) (by omega) (by omega)) .nil)
   ·refine (.cons ?eq7_14 .nil)
    ·refine eff_at (w1.drew) (upd (w1.drew) (wb) 105 #[(rsub (.slice vq ys.length vc) 1 ys.length (capOf (.slice vq ys.length vc))), lv]) (by kernel_rfl) (by kernel_rfl) ?_
     exact upon_store (b := wb) (off := 0) (vs := [(rsub (.slice vq ys.length vc) 1 ys.length (capOf (.slice vq ys.length vc)))]) (by kernel_rfl) (hB.drew : Blk w1.drew wb 105 (#[(.slice vq ys.length vc), lv])) (by simp) ⟨by kernel_rfl, by kernel_rfl⟩
   rintro a w8 hS hw9
   replace hw9 : w8 = upd (w1.drew) (wb) 105 #[(rsub (.slice vq ys.length vc) 1 ys.length (capOf (.slice vq ys.length vc))), lv] := hw9.trans (by kernel_rfl)
   have hB10 : Blk w8 wb 105 (#[(rsub (.slice vq ys.length vc) 1 ys.length (capOf (.slice vq ys.length vc))), lv]) := by rw [hw9]; exact (hB.drew).upd _ _
   have hB11 := Blk.at' hw9 ((hbr.drew).updNe (Ne.symm hrw) _ _)
   have hE12 : Ext (r :: wb :: ob lv0) w w8 := by rw [hw9]; exact (hEx.drew).updIn (.inl (by simp)) _ _
   have hX13 : Ext [wb] w1 w8 := by rw [hw9]; exact ((Ext.refl _ _).drew).updIn (.inl (by simp)) _ _
   have hG14 : True := trivial
   have hG15 : Ext [r, wb] w1 w8 := hEr.trans hX13 (fun b hb => .inl (by simp at hb ⊢; simp [hb]))
   replace hS := hS.kp [(0, (Pv r)), (4, .int .u8 y)]
   refine hK6 _ _ ?_
   refine sq fun K16 hK16 => ?_
   refine rgn 8 ?_
   refine sg wide_wide [.p, .p, .p, .ld (I6 ↑i), .as (I6 ((i + 1 : Nat) : Int)), .p, .p] [w8.cell? ⟨r, 1, none⟩ = some (I6 ↑i), Value.int .i64 (IntKind.i64.wrap (↑i + 1)) = I6 ((i + 1 : Nat) : Int)] [(0, (Pv r)), (4, .int .u8 y), (41, I6 ((i + 1 : Nat) : Int)), (43, (Po r 1))] 7 1 hS (.cons (hB11.cell 1 rfl) (.cons ((by rw [show (↑i + 1 : Int) = ((i + 1 : Nat) : Int) from by omega]; exact as_i64 (by omega))) .nil)) fun a hS => ?_
   refine eff_store wide_wide (r := 0) (b := r) (off := 1) (vs := [I6 ((i + 1 : Nat) : Int)]) hS (by kernel_rfl) hB11 (by simp) fun a w17 hw18 hS => ?_
   have hB19 := Blk.at' hw18 (hB10.updNe hrw _ _)
   have hB20 : Blk w17 r 102 (#[(Pv wb), I6 ((i + 1 : Nat) : Int)]) := by rw [hw18]; exact hB11.upd _ _
   have hX21 : Ext [r] w8 w17 := by rw [hw18]; exact (Ext.refl _ _).updIn (.inl (by simp)) _ _
   have hG22 : True := trivial
   have hG23 : Ext [r, wb] w1 w17 := hG15.trans hX21 (fun b hb => .inl (by simp at hb ⊢; simp [hb]))
   have hE24 : Ext (r :: wb :: ob lv0) w w17 := by rw [hw18]; exact hE12.updIn (.inl (by simp)) _ _
   refine seg_end ?_
   refine hK16 _ _ ?_
   refine sq fun K25 hK25 => ?_
   refine rgn 3 ?_
   refine sg wide_wide [.p, .p, .p] [] [(0, (Pv r)), (4, .int .u8 y), (2, .int .u8 y), (3, .bool true)] 3 0 hS .nil fun a hS => ?_
   refine seg_end ?_
   refine hK25 _ _ ?_
   refine wpIn_ret ?_
   refine then_ret ?_
   refine jumpX_ret ?_
   have hW9 := hI.wy.adv hG23 hrN hI.rl hpos (by rw [hpv]; exact hB19)
   refine ret2 hS Try.results38 rfl rfl ?_
   exact (by
    refine ⟨_, lv, ys.drop 1, st, 1, hB20, hW9, ?_, hE24, hI.fr, .inr ⟨y, rfl, ?_, rfl⟩⟩
    ·have := hI.bd; rw [List.length_drop]; omega
    ·rw [← hI.all]
     cases ys with
     | nil => simp at hpos
     | cons z zs => simp at hy; subst hy; rfl)
  ·
   replace hb4 := of_decide_eq_false hb4
   obtain rfl : ys = [] := List.eq_nil_of_length_eq_zero (by omega)
   have hk0 : k ≠ 0 := fun h => hI.nz h rfl
   have hall := hI.all
   have hbd := hI.bd
   rw [List.nil_append] at hall
   refine wpIn_skip ?_
   refine hK2 _ _ ?_
   refine sq fun K26 hK26 => ?_
   refine sq fun K27 hK27 => ?_
   by_cases hst : st = []
   ·
    refine rgn 5 ?_
    refine sg wide_wide [.p, .p, .p, .ld ((Pv wb))] [w1.cell? ⟨r, 0, none⟩ = some ((Pv wb))] [(0, (Pv r)), (48, (Pv wb))] 4 1 hS (.cons (hbr.cell 0 rfl) .nil) fun a hS => ?_
    refine eff_call wide_wide (r := 0) (f := 53) (vs := [(Pv wb)]) (cap := #[]) (d := (some 49)) hS (by kernel_rfl) Try.call53 #[(Pv wb)] (by kernel_rfl) (next_f hW hst) ?_
    rintro _ w9 ⟨rfl, hW9, hE9⟩
    refine ⟨_, rfl, fun a hS => ?_⟩
    have hb9 : Blk w9 r 102 #[Pv wb, I6 i] := hbr.ext hE9 (by simp [hrw, hI.rl])
    have hE99 : Ext (r :: wb :: ob lv0) w w9 := hI.ext.trans hE9 (fun b hb => by
     rcases List.mem_cons.1 hb with rfl | hb
     ·exact .inl (by simp)
     ·exact (hI.fr b hb).imp (fun h => by simp [h]) id)
    refine seg_end ?_
    refine hK27 _ _ ?_
    refine cond_f hS rfl ?_
    refine wpIn_skip ?_
    refine hK26 _ _ ?_
    refine sq fun K28 hK28 => ?_
    refine rgn 2 ?_
    refine sg wide_wide [.p, .p] [] [(0, (Pv r)), (49, .bool false), (2, .int .u8 0), (3, .bool false)] 2 0 hS .nil fun a hS => ?_
    refine seg_end ?_
    refine hK28 _ _ ?_
    refine wpIn_ret ?_
    refine jumpX_ret ?_
    refine ret2 hS Try.results38 rfl rfl ?_
    exact ⟨_, lv, [], [], 0, hb9, hW9, by simp [rst], hE99, hI.fr, .inl ⟨rfl, by rw [← hall, hst]; rfl, rfl, rfl⟩⟩
   ·
    refine rgn 5 ?_
    refine sg wide_wide [.p, .p, .p, .ld ((Pv wb))] [w1.cell? ⟨r, 0, none⟩ = some ((Pv wb))] [(0, (Pv r)), (48, (Pv wb))] 4 1 hS (.cons (hbr.cell 0 rfl) .nil) fun a hS => ?_
    refine eff_call wide_wide (r := 0) (f := 53) (vs := [(Pv wb)]) (cap := #[]) (d := (some 49)) hS (by kernel_rfl) Try.call53 #[(Pv wb)] (by kernel_rfl) (next_t hW hst (by simp only [List.length_nil] at hbd; omega)) ?_
    rintro _ w9 ⟨rfl, pv9, lv9, ys9, st9, hW9, ha9, hb9d, hE9, hF9, hz9⟩
    refine ⟨_, rfl, fun a hS => ?_⟩
    have hb9 : Blk w9 r 102 #[Pv wb, I6 i] := hbr.ext hE9 (by simp [hrw, hI.rl])
    have hE99 : Ext (r :: wb :: ob lv0) w w9 := hI.ext.trans hE9 (fun b hb => by
     rcases List.mem_cons.1 hb with rfl | hb
     ·exact .inl (by simp)
     ·exact (hI.fr b hb).imp (fun h => by simp [h]) id)
    have hr9 : r ∉ ob lv9 := fresh_not hF9 hI.rl hbr.lt
    refine seg_end ?_
    refine hK27 _ _ ?_
    refine cond_t hS rfl ?_
    refine wpIn_goto ?_
    refine then_goto ?_
    refine jumpX_goto ?_
    exact ⟨(pv9, lv9, ys9, st9, 0), ⟨hS.keepTo [0] (by kernel_rfl), ⟨hb9, hW9, ha9.trans hall, hb9d, hE99, hI.fr.trans hF9 hI.ext.size, fun _ => hz9 trivial, hr9⟩⟩, by simp only; omega⟩
 ·intro hp
  skip
  refine sq fun K29 hK29 => ?_
  refine wpIn_label ?_
  refine hK29 _ _ ?_
  exact wpIn_mono (hp _ _ ⟨(pv0, lv0, ys0, st0, 1), hS.keepTo [0] (by kernel_rfl), h0⟩) (fun _ _ _ h => h)

/-- a reader: B its own blocks; what is still to come is G -/
def Rdr (N : Nat) (w : World) (r : Nat) (B : List Nat) (i : Nat) (G : List Int) : Prop :=
 ∃ (Z : Inhabited Zt) (F : Nat → Prop) (wb : Nat) (pv lv : Value) (ys : List Int) (st : List Nd), Blk w r 102 #[Pv wb, I6 i] ∧ @Wy Z F N w wb pv lv ys st ∧ B = r :: wb :: ob lv ∧ ys ++ rst st = G ∧ ys.length + (rst st).length ≤ 100000000 ∧ N ≤ r ∧ r ∉ ob lv
theorem Rdr.ext {N : Nat} {w w' : World} {r : Nat} {B M : List Nat} {i : Nat} {G : List Int} (h : Rdr N w r B i G) (hE : Ext M w w') (hM : ∀ x ∈ M, N ≤ x ∧ x ∉ B) : Rdr N w' r B i G := by
 obtain ⟨Z, F, wb, pv, lv, ys, st, h1, h2, rfl, h4, h5, h6, h7⟩ := h
 refine ⟨Z, F, wb, pv, lv, ys, st, h1.ext hE (fun hm => (hM _ hm).2 (by simp)), h2.ext hE (fun x hx => ⟨fun hf => ?_, fun he => ?_, fun ho => ?_⟩), rfl, h4, h5, h6, h7⟩
 ·have := h2.FN x hf; have := (hM x hx).1; omega
 ·exact (hM x hx).2 (by simp [he])
 ·exact (hM x hx).2 (by simp [ho])
theorem Rdr.lie {N : Nat} {w : World} {r : Nat} {B : List Nat} {i : Nat} {G : List Int} (h : Rdr N w r B i G) : Lie w B := by
 obtain ⟨Z, F, wb, pv, lv, ys, st, h1, h2, rfl, h4, h5, h6, h7⟩ := h
 intro x hx
 rcases List.mem_cons.1 hx with rfl | hx
 ·exact h1.lt
 ·exact h2.lie x hx
theorem Rdr.low {N : Nat} {w : World} {r : Nat} {B : List Nat} {i : Nat} {G : List Int} (h : Rdr N w r B i G) : ∀ x ∈ B, N ≤ x := by
 obtain ⟨Z, F, wb, pv, lv, ys, st, h1, h2, rfl, h4, h5, h6, h7⟩ := h
 intro x hx
 simp only [List.mem_cons] at hx
 rcases hx with rfl | rfl | hx
 ·exact h6
 ·exact h2.wN
 ·exact h2.lN x hx
theorem Next_Y {N : Nat} {w : World} {r : Nat} {B : List Nat} {i : Nat} {G : List Int} (h : Rdr N w r B i G) (hi : i ≤ 1000000000) : Calls Try.prog 38 #[Pv r] w fun e w' => ∃ B', Ext B w w' ∧ Fresh w.heap.size B B' ∧
  ((G = [] ∧ Rdr N w' r B' i [] ∧ e = .returned (.tuple #[.int .u8 0, .bool false])) ∨ ∃ y G', G = y :: G' ∧ Rdr N w' r B' (i + 1) G' ∧ e = .returned (.tuple #[.int .u8 y, .bool true])) := by
 obtain ⟨Z, F, wb, pv, lv, ys, st, h1, h2, rfl, h4, h5, h6, h7⟩ := h
 refine (@Next_w Z F N w r wb i pv lv G ys st ⟨h1, h2, h4, h5, Ext.refl _ _, Fresh.refl _ _, (fun h => by cases h), h7⟩ h6 hi).mono fun e w' hP => ?_
 obtain ⟨pv', lv', ys', st', k, hb, hW, hbd, hE, hF, hc⟩ := hP
 have hr' : r ∉ ob lv' := fresh_not hF h7 h1.lt
 have hF' : Fresh w.heap.size (r :: wb :: ob lv) (r :: wb :: ob lv') := fun x hx => by
  simp only [List.mem_cons] at hx ⊢
  rcases hx with hx | hx | hx
  ·exact .inl (.inl hx)
  ·exact .inl (.inr (.inl hx))
  ·exact (hF x hx).imp (fun h => .inr (.inr h)) id
 refine ⟨r :: wb :: ob lv', hE, hF', ?_⟩
 rcases hc with ⟨rfl, hG, hA, he⟩ | ⟨y, rfl, hG, he⟩
 ·exact .inl ⟨hG, ⟨Z, F, wb, pv', lv', ys', st', hb, hW, rfl, hA, hbd, h6, hr'⟩, he⟩
 ·exact .inr ⟨y, ys' ++ rst st', hG, ⟨Z, F, wb, pv', lv', ys', st', hb, hW, rfl, rfl, hbd, h6, hr'⟩, he⟩

theorem At_w {w : World} {r wb i : Nat} (h : Blk w r 102 #[Pv wb, I6 i]) :
  Calls Try.prog 39 #[(Pv r)] w fun e w' => e = .returned (I6 i) ∧ Ext [] w w' := by
 refine calls_body 7 [(0, (Pv r))] Try.func39 rfl (by kernel_rfl) (by kernel_rfl) (by kernel_rfl) fun a hS => ?_
 have hE0 : Ext [] w w := Ext.refl _ _
 refine sq fun K1 hK1 => ?_
 refine rgn 1 ?_
 refine sg wide_wide [.p] [] [(0, (Pv r)), (2, I6 0)] 1 0 hS .nil fun a hS => ?_
 refine seg_end ?_
 refine hK1 _ _ ?_
 refine sq fun K2 hK2 => ?_
 refine rgn 5 ?_
 refine sg wide_wide [.p, .p, .p, .ld (I6 ↑i), .p] [w.cell? ⟨r, 1, none⟩ = some (I6 ↑i)] [(0, (Pv r)), (2, I6 ↑i)] 5 0 hS (.cons (h.cell 1 rfl) .nil) fun a hS => ?_
 refine seg_end ?_
 refine hK2 _ _ ?_
 refine wpIn_ret ?_
 refine ret1 hS Try.results39 rfl ?_
 exact ⟨rfl, hE0⟩

theorem At_Q {N : Nat} {w : World} {r : Nat} {B : List Nat} {i : Nat} {G : List Int} (h : Rdr N w r B i G) : Calls Try.prog 39 #[Pv r] w fun e w' => e = .returned (I6 i) ∧ Ext [] w w' := by
 obtain ⟨Z, F, wb, pv, lv, ys, st, h1, _⟩ := h
 exact At_w h1

theorem Read_0 {b : Nat} {o : Option Nd} {w : World} (hR : RpOk w b o) {x : Int} (h : x < 0) :
  Calls Try.prog 37 #[(Pv b), I6 x] w fun e w' => e = .returned (.tuple #[.pointer none, I6 3]) ∧ Ext [] w w' := by
 refine calls_body 20 [(0, (Pv b)), (1, I6 x)] Try.func37 rfl (by kernel_rfl) (by kernel_rfl) (by kernel_rfl) fun a hS => ?_
 have hE0 : Ext [] w w := Ext.refl _ _
 refine sq fun K1 hK1 => ?_
 refine rgn 2 ?_
 refine sg wide_wide [.p, .p] [] [(0, (Pv b)), (1, I6 x), (4, .pointer none), (5, I6 0)] 2 0 hS .nil fun a hS => ?_
 refine seg_end ?_
 refine hK1 _ _ ?_
 refine sq fun K2 hK2 => ?_
 refine sq fun K3 hK3 => ?_
 refine rgn 8 ?_
 refine sg wide_wide [.p, .as (.bool true), .p, .no, .no, .no, .no, .p] [Value.bool (decide ((x : Int) < 0)) = .bool true] [(0, (Pv b)), (1, I6 x), (4, .pointer none), (5, I6 0), (13, .bool true)] 8 0 hS (.cons (as_t (by omega)) .nil) fun a hS => ?_
 refine seg_end ?_
 refine hK3 _ _ ?_
 refine cond_t hS rfl ?_
 refine sq fun K4 hK4 => ?_
 refine rgn 2 ?_
 refine sg wide_wide [.p, .p] [] [(0, (Pv b)), (1, I6 x), (4, .pointer none), (5, I6 3), (13, .bool true)] 2 0 hS .nil fun a hS => ?_
 refine seg_end ?_
 refine hK4 _ _ ?_
 refine wpIn_ret ?_
 refine then_ret ?_
 refine ret2 hS Try.results37 rfl rfl ?_
 exact ⟨rfl, hE0⟩

theorem Read_1 {b : Nat} {o : Option Nd} {w : World} (hR : RpOk w b o) {x : Int} (h : 0 ≤ x ∧ x > (on o : Int)) :
  Calls Try.prog 37 #[(Pv b), I6 x] w fun e w' => e = .returned (.tuple #[.pointer none, I6 3]) ∧ Ext [] w w' := by
 refine calls_body 20 [(0, (Pv b)), (1, I6 x)] Try.func37 rfl (by kernel_rfl) (by kernel_rfl) (by kernel_rfl) fun a hS => ?_
 have hE0 : Ext [] w w := Ext.refl _ _
 refine sq fun K1 hK1 => ?_
 refine rgn 2 ?_
 refine sg wide_wide [.p, .p] [] [(0, (Pv b)), (1, I6 x), (4, .pointer none), (5, I6 0)] 2 0 hS .nil fun a hS => ?_
 refine seg_end ?_
 refine hK1 _ _ ?_
 refine sq fun K2 hK2 => ?_
 refine sq fun K3 hK3 => ?_
 refine rgn 8 ?_
 refine sg wide_wide [.p, .as (.bool false), .p, .p, .p] [Value.bool (decide ((x : Int) < 0)) = .bool false] [(0, (Pv b)), (1, I6 x), (4, .pointer none), (5, I6 0), (8, .bool false), (9, I6 x), (10, (Pv b))] 5 3 hS (.cons (as_f (by omega)) .nil) fun a hS => ?_
 refine eff_call wide_wide (r := 2) (f := 19) (vs := [(Pv b)]) (cap := #[]) (d := (some 11)) hS (by kernel_rfl) Try.call19 #[(Pv b)] (by kernel_rfl) (Len_any hR) ?_
 rintro _ wc4 ⟨rfl, hEc4⟩
 refine ⟨_, rfl, fun a hS => ?_⟩
 have hG6 : RpOk wc4 b o := hR.ext0 hEc4
 have hE7 := hE0.trans0 hEc4
 refine sg wide_wide [.as (.bool true), .p] [Value.bool (decide ((x : Int) > ↑(on o))) = .bool true] [(0, (Pv b)), (1, I6 x), (4, .pointer none), (5, I6 0), (13, .bool true)] 8 0 hS (.cons (as_t (by omega)) .nil) fun a hS => ?_
 refine seg_end ?_
 refine hK3 _ _ ?_
 refine cond_t hS rfl ?_
 refine sq fun K8 hK8 => ?_
 refine rgn 2 ?_
 refine sg wide_wide [.p, .p] [] [(0, (Pv b)), (1, I6 x), (4, .pointer none), (5, I6 3), (13, .bool true)] 2 0 hS .nil fun a hS => ?_
 refine seg_end ?_
 refine hK8 _ _ ?_
 refine wpIn_ret ?_
 refine then_ret ?_
 refine ret2 hS Try.results37 rfl rfl ?_
 exact ⟨rfl, hE7⟩

theorem Read_2 {b : Nat} {o : Option Nd} {w : World} (hR : RpOk w b o) {i : Nat} (h : i ≤ on o) :
  Calls Try.prog 37 #[(Pv b), I6 ↑i] w fun e w' => ∃ r, e = .returned (.tuple #[Pv r, I6 0]) ∧ w.heap.size ≤ r ∧ Ext [] w w' ∧ ∃ wb pv lv ys st, Blk w' r 102 #[Pv wb, I6 i] ∧ Wy (footO o) w.heap.size w' wb pv lv ys st ∧ ys ++ rst st = (obs o).drop i ∧ ys.length + (rst st).length ≤ 100000000 := by
 refine calls_body 20 [(0, (Pv b)), (1, I6 ↑i)] Try.func37 rfl (by kernel_rfl) (by kernel_rfl) (by kernel_rfl) fun a hS => ?_
 have hE0 : Ext [] w w := Ext.refl _ _
 refine sq fun K1 hK1 => ?_
 refine rgn 2 ?_
 refine sg wide_wide [.p, .p] [] [(0, (Pv b)), (1, I6 ↑i), (4, .pointer none), (5, I6 0)] 2 0 hS .nil fun a hS => ?_
 refine seg_end ?_
 refine hK1 _ _ ?_
 refine sq fun K2 hK2 => ?_
 refine sq fun K3 hK3 => ?_
 refine rgn 8 ?_
 refine sg wide_wide [.p, .as (.bool false), .p, .p, .p] [Value.bool (decide ((↑i : Int) < 0)) = .bool false] [(0, (Pv b)), (1, I6 ↑i), (4, .pointer none), (5, I6 0), (8, .bool false), (9, I6 ↑i), (10, (Pv b))] 5 3 hS (.cons (as_f (by omega)) .nil) fun a hS => ?_
 refine eff_call wide_wide (r := 2) (f := 19) (vs := [(Pv b)]) (cap := #[]) (d := (some 11)) hS (by kernel_rfl) Try.call19 #[(Pv b)] (by kernel_rfl) (Len_any hR) ?_
 rintro _ wc4 ⟨rfl, hEc4⟩
 refine ⟨_, rfl, fun a hS => ?_⟩
 have hG6 : RpOk wc4 b o := hR.ext0 hEc4
 have hE7 := hE0.trans0 hEc4
 refine sg wide_wide [.as (.bool false), .p] [Value.bool (decide ((↑i : Int) > ↑(on o))) = .bool false] [(0, (Pv b)), (1, I6 ↑i), (4, .pointer none), (5, I6 0), (13, .bool false)] 8 0 hS (.cons (as_f (by omega)) .nil) fun a hS => ?_
 refine seg_end ?_
 refine hK3 _ _ ?_
 refine cond_f hS rfl ?_
 refine wpIn_skip ?_
 refine hK2 _ _ ?_
 refine sq fun K8 hK8 => ?_
 refine rgn 8 ?_
 refine sg wide_wide [.p, .p] [] [(0, (Pv b)), (1, I6 ↑i), (4, .pointer none), (5, I6 0), (13, .bool false), (14, (Pv b)), (15, I6 ↑i)] 2 6 hS .nil fun a hS => ?_
 refine eff_call wide_wide (r := 5) (f := 52) (vs := [(Pv b), I6 ↑i]) (cap := #[]) (d := (some 16)) hS (by kernel_rfl) Try.call52 #[(Pv b), I6 ↑i] (by kernel_rfl) (way_any hG6 h) ?_
 rintro _ w1 ⟨wb, pv, lv, ys, st, rfl, hW, hall, hbd, hEw, _⟩
 refine ⟨_, rfl, fun a hS => ?_⟩
 have hsz9 := hE7.size
 have hW9 : Wy (footO o) w.heap.size w1 wb pv lv ys st := ⟨hW.blk, hW.rd, hW.own, hW.ok, hW.br, hW.fN, hW.pN, Nat.le_trans hsz9 hW.wN, fun b hb => Nat.le_trans hsz9 (hW.lN b hb), fun x hx => okO.foot hR.2.1 x hx⟩
 have hE1 := hE7.trans0 hEw
 refine sg wide_wide [.p, .p] [] [(0, (Pv b)), (1, I6 ↑i), (4, .pointer none), (5, I6 0), (13, .bool false), (18, .agg #[(Pv wb), I6 ↑i])] 5 3 hS .nil fun a hS => ?_
 refine eff_box wide_wide (r := 2) (cs := #[(Pv wb), I6 ↑i]) (T := 102) (d := (some 19)) hS (by kernel_rfl) fun a w9 hw10 hS => ?_
 have hX11 : Ext [] w1 w9 := by rw [hw10]; exact (Ext.refl _ _).alloc _
 have hG12 : Wy (footO o) w.heap.size w9 wb pv lv ys st := hW9.ext0 hX11
 have hB13 : Blk w9 (w1.heap.size) 102 #[(Pv wb), I6 ↑i] := by rw [hw10]; exact Blk.new _ _ _
 have hs14 : w.heap.size ≤ w1.heap.size := hE1.size
 have hE15 : Ext [] w w9 := by rw [hw10]; exact hE1.alloc _
 refine sg wide_wide [.p, .p] [] [(0, (Pv b)), (1, I6 ↑i), (4, (Pv w1.heap.size)), (5, I6 0), (13, .bool false)] 8 0 hS .nil fun a hS => ?_
 refine seg_end ?_
 refine hK8 _ _ ?_
 refine wpIn_ret ?_
 refine ret2 hS Try.results37 rfl rfl ?_
 exact ⟨_, rfl, hs14, hE15, wb, pv, lv, ys, st, hB13, hG12, hall, hbd⟩

theorem Read_no {F : Ta} {w : World} {b : Nat} {xs : List Int} (h : Rp2 F w b xs) {x : Int} (hx : x < 0 ∨ x > (xs.length : Int)) : Calls Try.prog 37 #[Pv b, I6 x] w fun e w' => e = .returned (.tuple #[.pointer none, I6 3]) ∧ Ext [] w w' := by
 obtain ⟨o, h, rfl⟩ := h
 by_cases h1 : x < 0
 ·exact @Read_0 F.Z _ _ _ h _ h1
 ·exact @Read_1 F.Z _ _ _ h _ ⟨by omega, by simp only [on]; omega⟩
theorem Read_ok {F : Ta} {w0 w : World} {b : Nat} {xs : List Int} (h : Rp2 F w0 b xs) (hE : Ext [] w0 w) {i : Nat} (hi : i ≤ xs.length) : Calls Try.prog 37 #[Pv b, I6 i] w fun e w' => ∃ r B, e = .returned (.tuple #[Pv r, I6 0]) ∧ Rdr w0.heap.size w' r B i (xs.drop i) ∧ (∀ x ∈ B, w.heap.size ≤ x) ∧ Ext [] w w' := by
 obtain ⟨o, h, rfl⟩ := h
 refine (@Read_2 F.Z _ _ _ (h.ext0 hE) i (by simp only [on]; omega)).mono fun e w' ⟨r, h1, h2, h3, wb, pv, lv, ys, st, h4, h5, h6, h7⟩ => ?_
 have hsz := hE.size
 obtain ⟨k1, k2, k3, k4, k5, k6, k7, k8, k9, k10⟩ := h5
 have h8 : r ∉ ob lv := fun hm => k3.ne h4 (by decide) r hm rfl
 refine ⟨r, _, h1, ⟨F.Z, footO o, wb, pv, lv, ys, st, h4, @Wy.mk F.Z _ _ _ _ _ _ _ _ k1 k2 k3 k4 k5 k6 k7 (Nat.le_trans hsz k8) (fun b hb => Nat.le_trans hsz (k9 b hb)) (fun x hx => @okO.foot F.Z _ _ h.2.1 x hx), rfl, h6, h7, Nat.le_trans hsz h2, h8⟩, ?_, h3⟩
 intro x hx
 simp only [List.mem_cons] at hx
 rcases hx with rfl | rfl | hx
 ·exact h2
 ·exact k8
 ·exact k9 x hx

end Go.Proofs.Ytkdbfjomjlhfbaa
