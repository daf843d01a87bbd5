import Derived.Test.YtkdbfjomjlhfbaaProg
import Derived.Test.YtkdbfjomjlhfbaaCh
import Derived.Test.YtkdbfjomjlhfbaaR32
namespace Go.Proofs.Ytkdbfjomjlhfbaa
open Go.Vc
set_option linter.unusedSectionVars false
variable [Inhabited Zt]

theorem Part_O {F : Ta} {w : World} {b : Nat} {xs : List Int} (h : Rp2 F w b xs) {i : Nat} (hi : i ≤ xs.length) : Calls Try.prog 35 #[Pv b, I6 i, I6 xs.length] w fun e w' => ∃ bs cap, e = .returned (.tuple #[.slice bs (xs.length - i) cap, I6 0]) ∧ OwnV w' 5 1 (.slice bs (xs.length - i) cap) (xs.length - i) (bv (xs.drop i)) ∧ (∀ x ∈ ob (.slice bs (xs.length - i) cap), w.heap.size ≤ x) ∧ Ext [] w w' := by
 obtain ⟨o, h, rfl⟩ := h
 have h2 := @Part_any F.Z _ _ _ h i (on o) ⟨hi, Nat.le_refl _⟩
 have he : ((obs o).drop i).take (on o - i) = (obs o).drop i := List.take_of_length_le (by simp only [List.length_drop, on]; omega)
 rw [he] at h2
 refine h2.mono fun e w' ⟨bs, cap, h1, h2, h3, h4⟩ => ?_
 rw [List.length_drop] at h1 h2 h3
 exact ⟨bs, cap, h1, h2, h3, h4⟩
/-- as SqC; what it reads is elder than N0 or of the call itself -/
def SqD (N0 Nc Nq : Nat) (w0 : World) (fb rb i : Nat) (xs : List Int) : Prop := ∃ T : Nat → Prop, (∀ b, T b → b < w0.heap.size ∧ (b < N0 ∨ (Nc ≤ b ∧ b < Nq))) ∧ ∀ W, Ext [] w0 W → SeqOk (α := Cp) (β := Cv) Try.prog 65 [Pv fb, Pv rb] (·.1) ckE ckB ckOk (CkNx i (xs.drop i)) (CkFin (xs.drop i)) T W
theorem Chunks_D {F : Ta} {w0 w : World} {b : Nat} {xs : List Int} (h0 : Rp2 F w0 b xs) (hE0 : Ext [] w0 w) {i : Nat} (hi : i ≤ xs.length) : Calls Try.prog 30 #[Pv b, I6 i] w fun e w' => ∃ fb rb, e = .returned (.tuple #[.func (.func 65) #[] #[Pv fb, Pv rb], I6 0]) ∧
  (Blk w' fb 3 #[I6 i] ∧ Blk w' rb 24 #[Pv b] ∧ w.heap.size ≤ fb ∧ w.heap.size ≤ rb) ∧ Ext [] w w' := by
 obtain ⟨o, hR, rfl⟩ := h0
 exact (@Chunks_any F.Z _ _ _ (hR.ext0 hE0) i (by simp only [on]; omega)).mono fun e w' ⟨fb, rb, h1, h2, h3, h4, h5, hE⟩ => ⟨fb, rb, h1, ⟨h2, h3, h4, h5⟩, hE⟩
theorem seqD {F : Ta} {w0 w : World} {b fb rb i : Nat} {xs : List Int} (h0 : Rp2 F w0 b xs) (hE0 : Ext [] w0 w) {Nc Nq : Nat} (hf : Blk w fb 3 #[I6 i]) (hr : Blk w rb 24 #[Pv b]) (hc : Nc ≤ fb ∧ Nc ≤ rb) (hq : fb < Nq ∧ rb < Nq) (hi : i ≤ xs.length) : SqD w0.heap.size Nc Nq w fb rb i xs := by
 obtain ⟨o, hR, rfl⟩ := h0
 refine ⟨fun x => x = fb ∨ x = rb ∨ x = b ∨ footO o x, ?_, fun W hW => ?_⟩
 ·have hsz := hE0.size
  rintro x (rfl | rfl | rfl | hx)
  ·exact ⟨hf.lt, .inr ⟨hc.1, hq.1⟩⟩
  ·exact ⟨hr.lt, .inr ⟨hc.2, hq.2⟩⟩
  ·have := hR.1.lt; exact ⟨by omega, .inl this⟩
  ·have := @okO.foot F.Z _ _ hR.2.1 x hx; exact ⟨by omega, .inl this⟩
 ·exact @chunks1_any F.Z _ _ _ _ _ _ (hf.ext hW (by simp)) (hr.ext hW (by simp)) ((hR.ext0 hE0).ext0 hW) (by simp only [on]; omega)
/-- what is kept: box kx, the row of rows, the rows -/
structure Kp (N : Nat) (w : World) (kx : Nat) (bs : Option Addr) (cap : Nat) (L : List Rw) : Prop where
 blk : Blk w kx 71 #[.slice bs L.length cap]
 own : OwnV w 23 1 (.slice bs L.length cap) L.length (L.map Rw.v)
 fam : Fam w 5 1 (fun b => N ≤ b) L
 le : ∀ x ∈ L, x.n ≤ 16777216
 new : ∀ b ∈ ob (.slice bs L.length cap), N ≤ b
theorem Kp.ext {N : Nat} {w w' : World} {kx : Nat} {bs : Option Addr} {cap : Nat} {L : List Rw} {M : List Nat} (h : Kp N w kx bs cap L) (hE : Ext M w w') (hM : ∀ b ∈ M, b ≠ kx ∧ b ∉ ob (.slice bs L.length cap) ∧ b ∉ bl L) : Kp N w' kx bs cap L :=
 ⟨h.blk.ext hE fun hm => (hM _ hm).1 rfl, h.own.ext hE fun b hb hm => (hM b hm).2.1 hb, h.fam.ext hE fun k x hx b hb hm => (hM b hm).2.2 (bl_mem hx b hb), h.le, h.new⟩
def Lq (L : List Rw) (pre : List Cv) : List Rw := L ++ pre.map fun x => ⟨x.2, x.1.2.length, bv x.1.2⟩
theorem Lq_snoc (L : List Rw) (pre : List Cv) (x : Cv) : Lq L (pre ++ [x]) = Lq L pre ++ [⟨x.2, x.1.2.length, bv x.1.2⟩] := by simp [Lq]
theorem Lq_nil (L : List Rw) : Lq L [] = L := by simp [Lq]

set_option maxHeartbeats 4000000 in
theorem RopeBook_any {v vp : Value} {l : List Sx} {m : Nat} {ps : List Int} {w : World} (hs : Scr w v l) (hp : RdV w 1 vp m (iv ps)) (hm : m ≤ 17592186044416) :
  Calls Try.prog 10 #[v, vp] w fun e w' => e = .returned (.bool true) ∧ Ext [] w w' := by
 have hpl : ps.length = m := by have := hp.len; simpa [iv] using this
 refine calls_bodyM 196 [(0, v), (1, vp)] Try.func10 rfl (by kernel_rfl) (by kernel_rfl) (by kernel_rfl) fun a hS => ?_
 have hE0 : Ext [] w w := Ext.refl _ _
 refine sq fun K1 hK1 => ?_
 refine rgn 1 ?_
 refine eff_box wide_wide (r := 0) (cs := #[.bool false]) (T := 4) (d := (some 4)) hS (by kernel_rfl) fun a w2 hw3 hS => ?_
 have hB4 : Blk w2 (w.heap.size) 4 #[.bool false] := by rw [hw3]; exact Blk.new _ _ _
 have hs5 : w.heap.size ≤ w.heap.size := hE0.size
 have hE6 : Ext [] w w2 := by rw [hw3]; exact hE0.alloc _
 refine seg_end ?_
 refine hK1 _ _ ?_
 refine sq fun K7 hK7 => ?_
 refine sq fun K8 hK8 => ?_
 refine rgn 2 ?_
 refine eff_call wide_wide (r := 1) (f := 12) (vs := []) (cap := #[]) (d := (some 23)) hS (by kernel_rfl) Try.call12 #[] (by kernel_rfl) (Head_Y) ?_
 rintro _ wc9 ⟨rfl, hEc9⟩
 refine ⟨_, rfl, fun a hS => ?_⟩
 have hB10 := hB4.ext hEc9 (by simp)
 have hE11 := hE6.trans0 hEc9
 refine sg wide_wide [.p] [] [(0, v), (1, vp), (4, (Pv w.heap.size)), (24, .bool false)] 2 0 hS .nil fun a hS => ?_
 refine seg_end ?_
 refine hK8 _ _ ?_
 refine cond_f hS rfl ?_
 refine wpIn_skip ?_
 refine hK7 _ _ ?_
 refine sq fun K12 hK12 => ?_
 refine rgn 10 ?_
 refine sg wide_wide [.p] [] [(0, v), (1, vp), (4, (Pv w.heap.size)), (24, .bool false), (26, v)] 1 9 hS .nil fun a hS => ?_
 refine eff_call wide_wide (r := 8) (f := 26) (vs := [v]) (cap := #[]) (d := (some 27)) hS (by kernel_rfl) Try.call26 #[v] (by kernel_rfl) (built_any (hs.ext0 hE11)) ?_
 rintro _ wb ⟨F, b, c, q, xs, rfl, hb, hq, hEb⟩
 refine ⟨_, rfl, fun a hS => ?_⟩
 have hE1 := hE11.trans0 hEb
 have hxl := hq.2.2.2
 have hEbb : Ext [] wb wb := Ext.refl _ _
 have hB13 := hB10.ext hEb (by simp)
 refine sg wide_wide [.p, .p, .p, .p] [] [(0, v), (1, vp), (4, (Pv w.heap.size)), (24, .bool false), (28, (Pv b)), (29, (Pv c)), (30, .bool true)] 6 4 hS .nil fun a hS => ?_
 refine eff_box wide_wide (r := 3) (cs := #[.pointer none]) (T := 52) (d := (some 6)) hS (by kernel_rfl) fun a w14 hw15 hS => ?_
 have hn16 : w.heap.size ≠ wb.heap.size := Nat.ne_of_lt hB13.lt
 have hB17 := Blk.at' hw15 (hB13.alloc _)
 have hX18 : Ext [] wb w14 := by rw [hw15]; exact (Ext.refl _ _).alloc _
 have hG19 : Ext [] wb w14 := hEbb.trans0 hX18
 have hB20 : Blk w14 (wb.heap.size) 52 #[.pointer none] := by rw [hw15]; exact Blk.new _ _ _
 have hs21 : w.heap.size ≤ wb.heap.size := hE1.size
 have hE22 : Ext [] w w14 := by rw [hw15]; exact hE1.alloc _
 refine sg wide_wide [.p] [] [(0, v), (1, vp), (4, (Pv w.heap.size)), (24, .bool false), (29, (Pv c)), (30, .bool true), (6, (Pv wb.heap.size)), (5, (Pv b))] 8 2 hS .nil fun a hS => ?_
 refine eff_store wide_wide (r := 1) (b := wb.heap.size) (off := 0) (vs := [(Pv c)]) hS (by kernel_rfl) hB20 (by simp) fun a w23 hw24 hS => ?_
 have hB25 := Blk.at' hw24 (hB17.updNe (Ne.symm hn16) _ _)
 have hB26 : Blk w23 wb.heap.size 52 (#[(Pv c)]) := by rw [hw24]; exact hB20.upd _ _
 have hX27 : Ext [wb.heap.size] w14 w23 := by rw [hw24]; exact (Ext.refl _ _).updIn (.inl (by simp)) _ _
 have hG28 : Ext [] wb w23 := hG19.trans hX27 (fun b hb => by simp at hb; subst hb; exact .inr hEbb.size)
 have hE29 : Ext [] w w23 := by rw [hw24]; exact hE22.updIn (.inr hs21) _ _
 refine sg wide_wide [.p] [] [(0, v), (1, vp), (4, (Pv w.heap.size)), (24, .bool false), (6, (Pv wb.heap.size)), (5, (Pv b)), (7, .bool true)] 10 0 hS .nil fun a hS => ?_
 refine seg_end ?_
 refine hK12 _ _ ?_
 refine sq fun K30 hK30 => ?_
 refine sq fun K31 hK31 => ?_
 refine rgn 2 ?_
 refine sg wide_wide [.p, .p] [] [(0, v), (1, vp), (4, (Pv w.heap.size)), (24, .bool false), (6, (Pv wb.heap.size)), (5, (Pv b)), (7, .bool true), (32, .bool false)] 2 0 hS .nil fun a hS => ?_
 refine seg_end ?_
 refine hK31 _ _ ?_
 refine cond_f hS rfl ?_
 refine wpIn_skip ?_
 refine hK30 _ _ ?_
 refine sq fun K32 hK32 => ?_
 refine rgn 1 ?_
 refine eff_box wide_wide (r := 0) (cs := #[.slice none 0 0]) (T := 71) (d := (some 8)) hS (by kernel_rfl) fun a w33 hw34 hS => ?_
 have hB37 := Blk.at' hw34 (hB25.alloc _)
 have hB38 := Blk.at' hw34 (hB26.alloc _)
 have hX39 : Ext [] w23 w33 := by rw [hw34]; exact (Ext.refl _ _).alloc _
 have hG40 : Ext [] wb w33 := hG28.trans0 hX39
 have hB41 : Blk w33 (w23.heap.size) 71 #[.slice none 0 0] := by rw [hw34]; exact Blk.new _ _ _
 have hs42 : w.heap.size ≤ w23.heap.size := hE29.size
 have hE43 : Ext [] w w33 := by rw [hw34]; exact hE29.alloc _
 refine seg_end ?_
 refine hK32 _ _ ?_
 refine sq fun K44 hK44 => ?_
 replace hS := hS.keepTo [1, 4, 5, 6, 8] (m' := [(1, vp), (4, (Pv w.heap.size)), (5, (Pv b)), (6, (Pv wb.heap.size)), (8, (Pv w23.heap.size))]) (by kernel_rfl)
 have hkxb : wb.heap.size ≤ w23.heap.size := hG28.size
 have hrx6 := hB37
 have hn0rx : w.heap.size ≤ w.heap.size := hs5
 obtain ⟨rx, herx⟩ : ∃ b, b = w.heap.size := ⟨_, rfl⟩
 rw [← herx] at hS hrx6
 have hnrx : w.heap.size ≤ rx := by rw [herx]; exact hn0rx
 have hcx6 := hB38
 have hn0cx : w.heap.size ≤ wb.heap.size := hs21
 obtain ⟨cx, hecx⟩ : ∃ b, b = wb.heap.size := ⟨_, rfl⟩
 rw [← hecx] at hS hcx6
 have hncx : w.heap.size ≤ cx := by rw [hecx]; exact hn0cx
 have hkx6 := hB41
 have hn0kx : w.heap.size ≤ w23.heap.size := hs42
 obtain ⟨kx, hekx⟩ : ∃ b, b = w23.heap.size := ⟨_, rfl⟩
 rw [← hekx] at hS hkx6 hkxb
 have hnkx : w.heap.size ≤ kx := by rw [hekx]; exact hn0kx
 have hEw6 := hE43
 have hE66 : Ext [kx] w33 w33 := Ext.refl _ _
 have hEb6 := hG40
 have hkM : ∀ b ∈ [kx], b ∈ ([] : List Nat) ∨ wb.heap.size ≤ b := fun b hb => by simp at hb; subst hb; exact .inr hkxb
 have hkW : ∀ b ∈ [kx], b ∈ ([] : List Nat) ∨ w.heap.size ≤ b := fun b hb => by simp at hb; subst hb; exact .inr hnkx
 have hnrxk : rx ∉ [kx] := by simpa using hrx6.ne_type hkx6 (by decide)
 have hncxk : cx ∉ [kx] := by simpa using hcx6.ne_type hkx6 (by decide)
 have hkx6l := hkx6.lt
 refine rgn 1 ?_
 refine sg wide_wide [.p] [] [(1, vp), (4, (Pv rx)), (5, (Pv b)), (6, (Pv cx)), (8, (Pv kx)), (9, I6 0)] 1 0 hS .nil fun a hS => ?_
 refine seg_end ?_
 refine hK44 _ _ ?_
 refine sq fun K45 hK45 => ?_
 refine sq fun K46 hK46 => ?_
 refine rgn 1 ?_
 refine sg wide_wide [.p] [] [(1, vp), (4, (Pv rx)), (5, (Pv b)), (6, (Pv cx)), (8, (Pv kx)), (9, I6 0), (10, I6 0)] 1 0 hS .nil fun a hS => ?_
 refine seg_end ?_
 refine hK46 _ _ ?_
 refine wpIn_block ?_
 have hK0 : Kp w33.heap.size w33 kx none 0 [] := ⟨hkx6, OwnV.nil _ _ _, Fam.nil, (by simp), (by simp [ob])⟩
 have hE67 := hE66
 refine loop_ghost (fun ((i, fr, bs, cap, L, Ds) : Nat × Nat × Option Addr × Nat × List Rw × List Nat) a' w' => St 196 (Ds.map dmark) [(1, vp), (4, (Pv rx)), (5, (Pv b)), (6, (Pv cx)), (8, (Pv kx)), (9, I6 ↑fr), (10, I6 ↑i)] a' ∧ i ≤ 40 ∧ fr ≤ xs.length ∧ Kp w33.heap.size w' kx bs cap L ∧ L.length ≤ i * 40000000 ∧ Ext [kx] w33 w' ∧ (∀ D ∈ Ds, Dfr w' D) ∧ Ds.Nodup ∧ (∀ D ∈ Ds, w.heap.size ≤ D)) (fun ((i, fr, bs, cap, L, Ds) : Nat × Nat × Option Addr × Nat × List Rw × List Nat) => 40 - i) (0, 0, none, 0, [], []) ⟨hS.keepTo [1, 4, 5, 6, 8, 9, 10] (by kernel_rfl), Nat.zero_le _, Nat.zero_le _, hK0, by simp, hE67, by simp, by simp, by simp⟩ ?_
 rintro ⟨i, fr, bs, cap, L, Ds⟩ a w1 ⟨hS, hi4, hfl, hK, hLl, hEl, hDs, hnd, hDn⟩
 refine sq fun K47 hK47 => ?_
 refine sq fun K48 hK48 => ?_
 by_cases him : i < m
 ·
  refine rgn 8 ?_
  refine sg wide_wide [.p, .p, .run (I6 ↑m), .as (.bool true), .p, .p, .p, .p] [Ru Try.prog (vS (Builtin.len_ #[51] 3 #[vp])) (I6 ↑m) w1, Value.bool (decide ((↑i : Int) < ↑m)) = .bool true] [(1, vp), (4, (Pv rx)), (5, (Pv b)), (6, (Pv cx)), (8, (Pv kx)), (9, I6 ↑fr), (10, I6 ↑i), (40, .bool (decide ((↑i : Int) < 40)))] 8 0 hS (.cons (run_len_rd (e := 3) hp (by kernel_rfl)) (.cons (as_t (by omega)) .nil)) fun a hS => ?_
  refine seg_end ?_
  refine hK48 _ _ ?_
  refine cond_b hS rfl (fun hb49 => ?_) (fun hb49 => ?_)
  ·
   replace hb49 := of_decide_eq_true hb49
   have hi40 : i < 40 := by omega
   obtain ⟨pz, hpz⟩ : ∃ pz, ps[i]? = some pz := ⟨_, List.getElem?_eq_getElem (by omega)⟩
   obtain ⟨fr, hfr, hfrl⟩ : ∃ k : Nat, rnd pz ((xs.length + 1 : Nat) : Int) = (k : Int) ∧ k ≤ xs.length := ⟨(rnd pz ((xs.length + 1 : Nat) : Int)).toNat, by have := rnd_bd pz (n := ((xs.length + 1 : Nat) : Int)) (by omega); omega, by have := rnd_bd pz (n := ((xs.length + 1 : Nat) : Int)) (by omega); omega⟩
   refine wpIn_skip ?_
   refine hK47 _ _ ?_
   refine sq fun K50 hK50 => ?_
   refine wpIn_block ?_
   refine sq fun K51 hK51 => ?_
   refine region_fn2 wide_wide [.q .p, .q .p, .q (.run ((Po (bof vp) (oof vp + i * 1)))), .q (.ld (I6 pz)), .q (.ld ((Pv c))), .q .p, .q .p, .q (.ld (q)), .q (.run (I6 ↑xs.length)), .q (.as (I6 ((xs.length + 1 : Nat) : Int))), .e, .q .p] [0, 0, 0, 0, 0, 0, 0, 0, 0, 0, 0, 1] [0, 0, 0, 0, 0, 0, 0, 0, 0, 0, 0, 1] [0, 0, 3, 7, 0, 16, 48, 112, 240, 496, 1023, 2047] [10] 1 ([(1, vp), (4, (Pv rx)), (5, (Pv b)), (6, (Pv cx)), (8, (Pv kx)), (10, I6 ↑i), (9, I6 ↑fr), (43, vp), (44, I6 ↑i), (45, (Po (bof vp) (oof vp + i * 1))), (46, I6 pz), (47, (Pv c)), (48, (Pv c)), (49, (Pv c)), (50, q), (51, I6 ↑xs.length), (52, I6 ((xs.length + 1 : Nat) : Int)), (53, I6 ↑fr)]) [w1.drew, w1.drew] w1.drew (fun w' => [(2, [Ru Try.prog (vS (Instr.indexAt 51 (vp) (I6 ↑i))) ((Po (bof vp) (oof vp + i * 1))) w']), (3, [w'.cell? ⟨bof vp, oof vp + i * 1, none⟩ = some (I6 pz)]), (4, [w'.cell? ⟨cx, 0, none⟩ = some ((Pv c))]), (7, [w'.cell? ⟨c, 0, none⟩ = some (q)]), (8, [Ru Try.prog (vS (Builtin.len_ #[23] 3 #[q])) (I6 ↑xs.length) w']), (9, [Value.int .i64 (IntKind.i64.wrap (↑xs.length + 1)) = I6 ((xs.length + 1 : Nat) : Int)])]) [1, 4, 5, 6, 8, 10] [] hS (by kernel_rfl) (by kernel_rfl) (by kernel_rfl) (by kernel_rfl) (fun _ => by kernel_rfl) (by kernel_rfl) (by kernel_rfl) (by kernel_rfl) ?_ ?_ ?_
   ·intro e w' hw
    refine (.cons ?_ (.cons ?_ (.cons ?_ (.cons ?_ (.cons ?_ (.cons ?_ .nil))))))
    ·exact fun _ _ => (.cons (ix_rd (e := 3) (j := i) hp (by kernel_rfl) (by kernel_rfl) rfl (by omega)) .nil)
    ·intro h1 h2
     obtain rfl : e = 0 := Nat.le_antisymm h2 h1
     obtain rfl : w' = w1.drew := hw.trans (by kernel_rfl)
     exact (.cons ((hp.ext0 ((hEw6.trans (hEl.trans0 (by first | exact (Ext.refl [] _).drew | exact Ext.refl [] _)) hkW))).cellAt (i * 1) (by omega) (by rw [Nat.mul_one]; exact iv_at hpz)) .nil)
    ·intro h1 h2
     obtain rfl : e = 0 := Nat.le_antisymm h2 h1
     obtain rfl : w' = w1.drew := hw.trans (by kernel_rfl)
     exact (.cons (((hcx6.ext hEl hncxk).drew : Blk w1.drew cx 52 (#[(Pv c)])).cell 0 rfl) .nil)
    ·intro h1 h2
     obtain rfl : e = 0 := Nat.le_antisymm h2 h1
     obtain rfl : w' = w1.drew := hw.trans (by kernel_rfl)
     exact (.cons (((hq.1.ext (hEb6.trans hEl hkM) (by simp)).drew : Blk w1.drew c 56 (#[q])).cell 0 rfl) .nil)
    ·exact fun _ _ => (.cons (run_len_rd (e := 5) hq.2.1 (by kernel_rfl)) .nil)
    ·exact fun _ _ => (.cons ((by rw [show (↑xs.length + 1 : Int) = ((xs.length + 1 : Nat) : Int) from by omega]; exact as_i64 (by omega))) .nil)
   ·refine (.cons ?eq52_10 .nil)
    ·refine eff_at (w1.drew) (w1.drew) (by kernel_rfl) (by kernel_rfl) ?_
     refine upon_call (f := 21) (vs := [I6 pz, I6 ((xs.length + 1 : Nat) : Int)]) (cap := #[]) (d := (some 53)) (by kernel_rfl) Try.call21 #[I6 pz, I6 ((xs.length + 1 : Nat) : Int)] (by kernel_rfl) ((by have h := Round_any (k := pz) (n := ((xs.length + 1 : Nat) : Int)) (w := w1.drew) (by omega); rw [hfr] at h; exact h)) ?_
     rintro _ _ ⟨rfl, rfl⟩
     exact ⟨_, rfl, ⟨by kernel_rfl, by kernel_rfl⟩⟩
   rintro a w53 hS hw54
   replace hw54 : w53 = w1.drew := hw54.trans (by kernel_rfl)
   have hB58 := Blk.at' hw54 (hK.blk.drew)
   have hB59 := OwnV.at' hw54 (hK.own.drew)
   have hE60 : Ext [kx] w33 w53 := by rw [hw54]; exact hEl.drew
   have hX61 : Ext [] w1 w53 := by rw [hw54]; exact (Ext.refl _ _).drew
   have hG62 : True := trivial
   have hG63 : Fam w53 5 1 (fun b => w33.heap.size ≤ b) L := hK.fam.ext0 hX61
   have hG64 : ∀ D ∈ Ds, Dfr w53 D := fun D hD => (hDs D hD).ext hX61 (by simp)
   replace hS := hS.kp [(1, vp), (4, (Pv rx)), (5, (Pv b)), (6, (Pv cx)), (8, (Pv kx)), (10, I6 ↑i), (9, I6 ↑fr)]
   refine hK51 _ _ ?_
   refine sq fun K65 hK65 => ?_
   refine rgn 1 ?_
   refine sg wide_wide [.p] [] [(1, vp), (4, (Pv rx)), (5, (Pv b)), (6, (Pv cx)), (8, (Pv kx)), (10, I6 ↑i), (9, I6 ↑fr), (11, I6 0)] 1 0 hS .nil fun a hS => ?_
   refine seg_end ?_
   refine hK65 _ _ ?_
   refine wpIn_block ?_
   have hK1 : Kp w33.heap.size w53 kx bs cap L := ⟨hB58, hB59, hG63, hK.le, hK.new⟩
   refine loop_ghost (fun ((tn, bs, cap, L, Ds) : Nat × Option Addr × Nat × List Rw × List Nat) a' w' => St 196 (Ds.map dmark) [(1, vp), (4, (Pv rx)), (5, (Pv b)), (6, (Pv cx)), (8, (Pv kx)), (9, I6 ↑fr), (10, I6 ↑i), (11, I6 ↑tn)] a' ∧ tn ≤ 2 ∧ Kp w33.heap.size w' kx bs cap L ∧ L.length ≤ i * 40000000 + tn * 20000000 ∧ Ext [kx] w33 w' ∧ (∀ D ∈ Ds, Dfr w' D) ∧ Ds.Nodup ∧ (∀ D ∈ Ds, w.heap.size ≤ D)) (fun ((tn, bs, cap, L, Ds) : Nat × Option Addr × Nat × List Rw × List Nat) => 2 - tn) (0, bs, cap, L, Ds) ⟨hS.keepTo [1, 4, 5, 6, 8, 9, 10, 11] (by kernel_rfl), Nat.zero_le _, hK1, Nat.le_trans hLl (Nat.le_add_right _ _), hE60, hG64, hnd, hDn⟩ ?_
   rintro ⟨tn, bs, cap, L, Ds⟩ a w2 ⟨hS, ht2, hK2, hL2, hEm, hDs2, hnd2, hDn2⟩
   refine sq fun K66 hK66 => ?_
   refine sq fun K67 hK67 => ?_
   refine rgn 2 ?_
   refine sg wide_wide [.p, .p] [] [(1, vp), (4, (Pv rx)), (5, (Pv b)), (6, (Pv cx)), (8, (Pv kx)), (9, I6 ↑fr), (10, I6 ↑i), (11, I6 ↑tn), (55, .bool (decide ((↑tn : Int) < 2)))] 2 0 hS .nil fun a hS => ?_
   refine seg_end ?_
   refine hK67 _ _ ?_
   refine cond_b hS rfl (fun hb68 => ?_) (fun hb68 => ?_)
   ·
    replace hb68 := of_decide_eq_true hb68
    refine wpIn_skip ?_
    refine hK66 _ _ ?_
    refine sq fun K69 hK69 => ?_
    refine wpIn_block ?_
    refine sq fun K70 hK70 => ?_
    refine rgn 3 ?_
    refine sg wide_wide [.p] [] [(1, vp), (4, (Pv rx)), (5, (Pv b)), (6, (Pv cx)), (8, (Pv kx)), (9, I6 ↑fr), (10, I6 ↑i), (11, I6 ↑tn), (58, (Pv b))] 1 2 hS .nil fun a hS => ?_
    refine eff_call wide_wide (r := 1) (f := 32) (vs := [(Pv b)]) (cap := #[]) (d := (some 59)) hS (by kernel_rfl) Try.call32 #[(Pv b)] (by kernel_rfl) (Bytes_Y (hb.ext0 (hEb6.trans hEm hkM))) ?_
    rintro _ wc71 ⟨za71, ya71, rfl, hO71, hN71, hEc71⟩
    refine ⟨_, rfl, fun a hS => ?_⟩
    have hB73 := (hcx6.ext hEm hncxk).ext hEc71 (by simp)
    have hB74 := (hq.1.ext (hEb6.trans hEm hkM) (by simp)).ext hEc71 (by simp)
    have hB75 := hK2.blk.ext hEc71 (by simp)
    have hB76 := hK2.own.ext hEc71 (by simp)
    have hG77 : True := trivial
    have hG78 : Fam wc71 5 1 (fun b => w33.heap.size ≤ b) L := hK2.fam.ext0 hEc71
    have hG79 : ∀ D ∈ Ds, Dfr wc71 D := fun D hD => (hDs2 D hD).ext hEc71 (by simp)
    have hE80 := hEm.trans0 hEc71
    have hM71 : Fam wc71 5 1 (fun b => w33.heap.size ≤ b) (L ++ [(⟨.slice za71 xs.length ya71, xs.length, (bv xs)⟩ : Rw)]) := (hK2.fam).more hEc71 hO71 hN71 (fun b hb => Nat.le_trans hEm.size hb)
    refine sg wide_wide [.p] [] [(1, vp), (4, (Pv rx)), (5, (Pv b)), (6, (Pv cx)), (8, (Pv kx)), (9, I6 ↑fr), (10, I6 ↑i), (11, I6 ↑tn), (12, .slice za71 xs.length ya71)] 3 0 hS .nil fun a hS => ?_
    refine seg_end ?_
    refine hK70 _ _ ?_
    refine sq fun K81 hK81 => ?_
    refine rgn 13 ?_
    refine sg wide_wide [.p, .p, .ld ((Pv c)), .p, .p, .ld (q), .run (I6 ↑xs.length)] [wc71.cell? ⟨cx, 0, none⟩ = some ((Pv c)), wc71.cell? ⟨c, 0, none⟩ = some (q), Ru Try.prog (vS (Builtin.len_ #[23] 3 #[q])) (I6 ↑xs.length) wc71] [(1, vp), (4, (Pv rx)), (5, (Pv b)), (6, (Pv cx)), (8, (Pv kx)), (9, I6 ↑fr), (10, I6 ↑i), (11, I6 ↑tn), (12, .slice za71 xs.length ya71), (61, (Pv b)), (62, I6 ↑fr), (67, I6 ↑xs.length)] 7 6 hS (.cons (hB73.cell 0 rfl) (.cons (hB74.cell 0 rfl) (.cons (run_len_rd (e := 5) hq.2.1 (by kernel_rfl)) .nil))) fun a hS => ?_
    refine eff_call wide_wide (r := 5) (f := 35) (vs := [(Pv b), I6 ↑fr, I6 ↑xs.length]) (cap := #[]) (d := (some 68)) hS (by kernel_rfl) Try.call35 #[(Pv b), I6 ↑fr, I6 ↑xs.length] (by kernel_rfl) (Part_O (hb.ext0 (hEb6.trans hE80 hkM)) hfrl) ?_
    rintro _ wc82 ⟨zb82, yb82, rfl, hO82, hN82, hEc82⟩
    refine ⟨_, rfl, fun a hS => ?_⟩
    have hB84 := hB73.ext hEc82 (by simp)
    have hB85 := hB74.ext hEc82 (by simp)
    have hB86 := hB75.ext hEc82 (by simp)
    have hB87 := hB76.ext hEc82 (by simp)
    have hB88 := hO71.ext hEc82 (by simp)
    have hG89 : True := trivial
    have hG90 : Fam wc82 5 1 (fun b => w33.heap.size ≤ b) (L ++ [(⟨.slice za71 xs.length ya71, xs.length, (bv xs)⟩ : Rw)]) := hM71.ext0 hEc82
    have hG91 : ∀ D ∈ Ds, Dfr wc82 D := fun D hD => (hG79 D hD).ext hEc82 (by simp)
    have hE92 := hE80.trans0 hEc82
    have hM82 : Fam wc82 5 1 (fun b => w33.heap.size ≤ b) ((L ++ [(⟨.slice za71 xs.length ya71, xs.length, (bv xs)⟩ : Rw)]) ++ [(⟨.slice zb82 (xs.length - fr) yb82, (xs.length - fr), (bv (xs.drop fr))⟩ : Rw)]) := (hM71).more hEc82 hO82 hN82 (fun b hb => Nat.le_trans hE80.size hb)
    refine sg wide_wide [.p, .p, .p, .p, .p] [] [(1, vp), (4, (Pv rx)), (5, (Pv b)), (6, (Pv cx)), (8, (Pv kx)), (9, I6 ↑fr), (10, I6 ↑i), (11, I6 ↑tn), (12, .slice za71 xs.length ya71), (13, .slice zb82 (xs.length - fr) yb82), (14, I6 0)] 13 0 hS .nil fun a hS => ?_
    refine seg_end ?_
    refine hK81 _ _ ?_
    refine sq fun K93 hK93 => ?_
    refine rgn 8 ?_
    refine sg wide_wide [.p, .p] [] [(1, vp), (4, (Pv rx)), (5, (Pv b)), (6, (Pv cx)), (8, (Pv kx)), (9, I6 ↑fr), (10, I6 ↑i), (11, I6 ↑tn), (12, .slice za71 xs.length ya71), (13, .slice zb82 (xs.length - fr) yb82), (14, I6 0), (72, (Pv b)), (73, I6 ↑fr)] 2 6 hS .nil fun a hS => ?_
    refine eff_call wide_wide (r := 5) (f := 30) (vs := [(Pv b), I6 ↑fr]) (cap := #[]) (d := (some 74)) hS (by kernel_rfl) Try.call30 #[(Pv b), I6 ↑fr] (by kernel_rfl) (Chunks_D hb (hEb6.trans hE92 hkM) hfrl) ?_
    rintro _ wc94 ⟨fb94, rb94, rfl, hSq94, hEc94⟩
    refine ⟨_, rfl, fun a hS => ?_⟩
    have hB96 := hB84.ext hEc94 (by simp)
    have hB97 := hB85.ext hEc94 (by simp)
    have hB98 := hB86.ext hEc94 (by simp)
    have hB99 := hB87.ext hEc94 (by simp)
    have hB100 := hB88.ext hEc94 (by simp)
    have hB101 := hO82.ext hEc94 (by simp)
    have hG102 : True := trivial
    have hG103 : Fam wc94 5 1 (fun b => w33.heap.size ≤ b) ((L ++ [(⟨.slice za71 xs.length ya71, xs.length, (bv xs)⟩ : Rw)]) ++ [(⟨.slice zb82 (xs.length - fr) yb82, (xs.length - fr), (bv (xs.drop fr))⟩ : Rw)]) := hM82.ext0 hEc94
    have hG104 : ∀ D ∈ Ds, Dfr wc94 D := fun D hD => (hG91 D hD).ext hEc94 (by simp)
    have hE105 := hE92.trans0 hEc94
    obtain ⟨hq1, hq2, hq3, hq4⟩ := hSq94
    have hq5 := hq1.lt
    have hq6 := hq2.lt
    have hFc := hM82
    have hkxlt := (hB86).lt
    have hbslt := (hB87).lie
    have hqE : wc94.heap.size ≤ wc94.heap.size := Nat.le_refl _
    refine sg wide_wide [.p, .p, .p, .p, .p] [] [(1, vp), (4, (Pv rx)), (5, (Pv b)), (6, (Pv cx)), (8, (Pv kx)), (9, I6 ↑fr), (10, I6 ↑i), (11, I6 ↑tn), (12, .slice za71 xs.length ya71), (13, .slice zb82 (xs.length - fr) yb82), (14, I6 0), (15, .func (.func 65) #[] #[(Pv fb94), (Pv rb94)]), (16, I6 0)] 8 0 hS .nil fun a hS => ?_
    refine seg_end ?_
    refine hK93 _ _ ?_
    refine sq fun K106 hK106 => ?_
    refine sq fun K107 hK107 => ?_
    refine rgn 30 ?_
    refine sg wide_wide [.p, .p, .p, .p, .p, .p, .p, .p, .p, .p, .p, .p, .ld ((Pv c)), .p, .p, .ld (q)] [wc94.cell? ⟨cx, 0, none⟩ = some ((Pv c)), wc94.cell? ⟨c, 0, none⟩ = some (q)] [(1, vp), (4, (Pv rx)), (5, (Pv b)), (6, (Pv cx)), (8, (Pv kx)), (9, I6 ↑fr), (10, I6 ↑i), (11, I6 ↑tn), (12, .slice za71 xs.length ya71), (13, .slice zb82 (xs.length - fr) yb82), (14, I6 0), (15, .func (.func 65) #[] #[(Pv fb94), (Pv rb94)]), (16, I6 0), (87, .bool false), (88, .slice za71 xs.length ya71), (92, q)] 16 14 hS (.cons (hB96.cell 0 rfl) (.cons (hB97.cell 0 rfl) .nil)) fun a hS => ?_
    refine eff_call wide_wide (r := 13) (f := 31) (vs := [.slice za71 xs.length ya71, q]) (cap := #[]) (d := (some 93)) hS (by kernel_rfl) Try.call31 #[.slice za71 xs.length ya71, q] (by kernel_rfl) (SameB_cut (hB100).rd (hq.2.1.ext0 (hEb6.trans hE105 hkM)) rfl (by omega)) ?_
    rintro _ wc108 ⟨rfl, hEc108⟩
    refine ⟨_, rfl, fun a hS => ?_⟩
    have hB110 := hB96.ext hEc108 (by simp)
    have hB111 := hB97.ext hEc108 (by simp)
    have hB112 := hB98.ext hEc108 (by simp)
    have hB113 := hB99.ext hEc108 (by simp)
    have hB115 := hB101.ext hEc108 (by simp)
    have hB116 := hq1.ext hEc108 (by simp)
    have hB117 := hq2.ext hEc108 (by simp)
    have hG118 : True := trivial
    have hG119 : Fam wc108 5 1 (fun b => w33.heap.size ≤ b) ((L ++ [(⟨.slice za71 xs.length ya71, xs.length, (bv xs)⟩ : Rw)]) ++ [(⟨.slice zb82 (xs.length - fr) yb82, (xs.length - fr), (bv (xs.drop fr))⟩ : Rw)]) := hG103.ext0 hEc108
    have hG120 : ∀ D ∈ Ds, Dfr wc108 D := fun D hD => (hG104 D hD).ext hEc108 (by simp)
    have hG121 : wc94.heap.size ≤ wc108.heap.size := Nat.le_trans hqE (hEc108).size
    have hE122 := hE105.trans0 hEc108
    refine sg wide_wide [.p, .p, .p, .p, .ld ((Pv c)), .p, .p, .ld (q), .p, .run (rsub q fr xs.length (capOf q))] [wc108.cell? ⟨cx, 0, none⟩ = some ((Pv c)), wc108.cell? ⟨c, 0, none⟩ = some (q), Ru Try.prog (vS (Instr.sliceAt 23 q (some (I6 ↑fr)) none none)) (rsub q fr xs.length (capOf q)) wc108] [(1, vp), (4, (Pv rx)), (5, (Pv b)), (6, (Pv cx)), (8, (Pv kx)), (9, I6 ↑fr), (10, I6 ↑i), (11, I6 ↑tn), (12, .slice za71 xs.length ya71), (13, .slice zb82 (xs.length - fr) yb82), (14, I6 0), (15, .func (.func 65) #[] #[(Pv fb94), (Pv rb94)]), (16, I6 0), (96, .bool false), (97, .slice zb82 (xs.length - fr) yb82), (103, (rsub q fr xs.length (capOf q)))] 27 3 hS (.cons (hB110.cell 0 rfl) (.cons (hB111.cell 0 rfl) (.cons (sl_rd (e := 5) (some (I6 ↑fr)) none (l := fr) (k := xs.length) hq.2.1 (by kernel_rfl) (by kernel_rfl) (.inr ⟨_, rfl⟩) (.inl ⟨rfl, rfl⟩) (by omega) (by omega)) .nil))) fun a hS => ?_
    refine eff_call wide_wide (r := 2) (f := 31) (vs := [.slice zb82 (xs.length - fr) yb82, (rsub q fr xs.length (capOf q))]) (cap := #[]) (d := (some 104)) hS (by kernel_rfl) Try.call31 #[.slice zb82 (xs.length - fr) yb82, (rsub q fr xs.length (capOf q))] (by kernel_rfl) (SameB_cut (hB115).rd ((RdV.subb hq.2.1 (l := fr) (k := xs.length) (m := (capOf q)) (by omega) (by omega) (by have := hq.2.1.le_cap; omega)).ext0 (hEb6.trans hE122 hkM)) (List.take_of_length_le (by rw [List.length_drop]; exact Nat.le_refl _)) (by omega)) ?_
    rintro _ wc123 ⟨rfl, hEc123⟩
    refine ⟨_, rfl, fun a hS => ?_⟩
    have hB127 := hB112.ext hEc123 (by simp)
    have hB128 := hB113.ext hEc123 (by simp)
    have hB131 := hB116.ext hEc123 (by simp)
    have hB132 := hB117.ext hEc123 (by simp)
    have hG133 : True := trivial
    have hG134 : Fam wc123 5 1 (fun b => w33.heap.size ≤ b) ((L ++ [(⟨.slice za71 xs.length ya71, xs.length, (bv xs)⟩ : Rw)]) ++ [(⟨.slice zb82 (xs.length - fr) yb82, (xs.length - fr), (bv (xs.drop fr))⟩ : Rw)]) := hG119.ext0 hEc123
    have hG135 : ∀ D ∈ Ds, Dfr wc123 D := fun D hD => (hG120 D hD).ext hEc123 (by simp)
    have hG136 : wc94.heap.size ≤ wc123.heap.size := Nat.le_trans hG121 (hEc123).size
    have hG137 : True := trivial
    have hE138 := hE122.trans0 hEc123
    refine sg wide_wide [.p, .p] [] [(1, vp), (4, (Pv rx)), (5, (Pv b)), (6, (Pv cx)), (8, (Pv kx)), (9, I6 ↑fr), (10, I6 ↑i), (11, I6 ↑tn), (12, .slice za71 xs.length ya71), (13, .slice zb82 (xs.length - fr) yb82), (14, I6 0), (15, .func (.func 65) #[] #[(Pv fb94), (Pv rb94)]), (16, I6 0), (106, .bool false)] 30 0 hS .nil fun a hS => ?_
    refine seg_end ?_
    refine hK107 _ _ ?_
    refine cond_f hS rfl ?_
    refine wpIn_skip ?_
    refine hK106 _ _ ?_
    refine sq fun K139 hK139 => ?_
    refine rgn 6 ?_
    refine sg wide_wide [.ld (.slice bs L.length cap), .p, .p] [wc123.cell? ⟨kx, 0, none⟩ = some (.slice bs L.length cap)] [(1, vp), (4, (Pv rx)), (5, (Pv b)), (6, (Pv cx)), (8, (Pv kx)), (9, I6 ↑fr), (10, I6 ↑i), (11, I6 ↑tn), (12, .slice za71 xs.length ya71), (13, .slice zb82 (xs.length - fr) yb82), (14, I6 0), (15, .func (.func 65) #[] #[(Pv fb94), (Pv rb94)]), (16, I6 0), (106, .bool false), (107, .slice bs L.length cap), (108, .slice za71 xs.length ya71), (109, .slice zb82 (xs.length - fr) yb82)] 3 3 hS (.cons (hB127.cell 0 rfl) .nil) fun a hS => ?_
    refine eff_new wide_wide (r := 2) (cs := #[.slice za71 xs.length ya71, .slice zb82 (xs.length - fr) yb82]) (T := 23) (v := Value.slice (some ⟨wc123.heap.size, 0, none⟩) 2 2) (d := (some 110)) hS (by kernel_rfl) fun a w140 hw141 hS => ?_
    have hB154 := Blk.at' hw141 (hB127.alloc _)
    have hB155 := OwnV.at' hw141 (hB128.alloc _)
    have hB158 := Blk.at' hw141 (hB131.alloc _)
    have hB159 := Blk.at' hw141 (hB132.alloc _)
    have hX160 : Ext [] wc123 w140 := by rw [hw141]; exact (Ext.refl _ _).alloc _
    have hG161 : True := trivial
    have hG162 : Fam w140 5 1 (fun b => w33.heap.size ≤ b) ((L ++ [(⟨.slice za71 xs.length ya71, xs.length, (bv xs)⟩ : Rw)]) ++ [(⟨.slice zb82 (xs.length - fr) yb82, (xs.length - fr), (bv (xs.drop fr))⟩ : Rw)]) := hG134.ext0 hX160
    have hG163 : ∀ D ∈ Ds, Dfr w140 D := fun D hD => (hG135 D hD).ext hX160 (by simp)
    have hG164 : wc94.heap.size ≤ w140.heap.size := Nat.le_trans hG136 (hX160).size
    have hG165 : True := trivial
    have hB166 : Blk w140 (wc123.heap.size) 23 #[.slice za71 xs.length ya71, .slice zb82 (xs.length - fr) yb82] := by rw [hw141]; exact Blk.new _ _ _
    have hs167 : w33.heap.size ≤ wc123.heap.size := hE138.size
    have hE168 : Ext [kx] w33 w140 := by rw [hw141]; exact hE138.alloc _
    refine eff_append2 wide_wide (r := 1) (d := (some 111)) (t := 71) (ty := 71) (e := 23) (size := 1) (bytes := 24) (len := L.length) (b := wc123.heap.size) (off := 0) (k := 2) (c := 2) (z := #[.slice none 0 0]) (v := Value.slice bs L.length cap) (xs := (L.map Rw.v)) [.slice za71 xs.length ya71, .slice zb82 (xs.length - fr) yb82] hS (by kernel_rfl) (by kernel_rfl) (by kernel_rfl) (by kernel_rfl) (by kernel_rfl) hB155 (by simp) (fun j u hu => by rw [Nat.zero_add]; exact hB166.cell j (by simpa using hu)) rfl (by omega) (by omega) (by omega) fun ga169 ca169 a wa169 hOa169 hEa169 hFa169 hS => ?_
    have hB173 := hB154.ext hEa169 (hB155.notin hB154 (by decide))
    have hB176 := hB158.ext hEa169 (hB155.notin hB158 (by decide))
    have hB177 := hB159.ext hEa169 (hB155.notin hB159 (by decide))
    have hE179 : Ext [kx] w33 wa169 := hE168.trans hEa169 (fun b hb => .inr (hK2.new b hb))
    have hG180 : True := trivial
    have hG181 : Fam wa169 5 1 (fun b => w33.heap.size ≤ b) ((L ++ [(⟨.slice za71 xs.length ya71, xs.length, (bv xs)⟩ : Rw)]) ++ [(⟨.slice zb82 (xs.length - fr) yb82, (xs.length - fr), (bv (xs.drop fr))⟩ : Rw)]) := hG162.ext hEa169 (fun k x hx b hb => (hG162.own k x hx).disj hB155 (by decide) b hb)
    have hG182 : ∀ D ∈ Ds, Dfr wa169 D := fun D hD => (hG163 D hD).ext hEa169 (Dfr.notin (hG163 D hD) hB155)
    have hG183 : wc94.heap.size ≤ wa169.heap.size := Nat.le_trans hG164 (hEa169).size
    have hG184 : True := trivial
    refine eff_store wide_wide (r := 0) (b := kx) (off := 0) (vs := [.slice (some ⟨ga169, 0, none⟩) (L.length + 2) ca169]) hS (by kernel_rfl) hB173 (by simp) fun a w185 hw186 hS => ?_
    have hB190 : Blk w185 kx 71 (#[.slice (some ⟨ga169, 0, none⟩) (L.length + 2) ca169]) := by rw [hw186]; exact hB173.upd _ _
    have hB193 := Blk.at' hw186 (hB176.updNe (Blk.ne_type hB173 hB176 (by decide)) _ _)
    have hB194 := Blk.at' hw186 (hB177.updNe (Blk.ne_type hB173 hB177 (by decide)) _ _)
    have hB196 := OwnR.at' hw186 (hOa169.updNe ((OwnR.ne_type hOa169 hB173 (by decide)).symm) _ _)
    have hX197 : Ext [kx] wa169 w185 := by rw [hw186]; exact (Ext.refl _ _).updIn (.inl (by simp)) _ _
    have hG198 : True := trivial
    have hG199 : Fam w185 5 1 (fun b => w33.heap.size ≤ b) ((L ++ [(⟨.slice za71 xs.length ya71, xs.length, (bv xs)⟩ : Rw)]) ++ [(⟨.slice zb82 (xs.length - fr) yb82, (xs.length - fr), (bv (xs.drop fr))⟩ : Rw)]) := hG181.ext hX197 (fun k x hx b hb hm => by simp at hm; subst hm; exact (hG181.own k x hx).notin hB173 (by decide) hb)
    have hG200 : ∀ D ∈ Ds, Dfr w185 D := fun D hD => (hG182 D hD).ext hX197 (by simpa using (hG182 D hD).ne_blk hB173)
    have hG201 : wc94.heap.size ≤ w185.heap.size := Nat.le_trans hG183 (hX197).size
    have hG202 : True := trivial
    have hE203 : Ext [kx] w33 w185 := by rw [hw186]; exact hE179.updIn (.inl (by simp)) _ _
    refine seg_end ?_
    refine hK139 _ _ ?_
    refine sq fun K204 hK204 => ?_
    refine rgn 3 ?_
    refine sg wide_wide [.p] [] [(1, vp), (4, (Pv rx)), (5, (Pv b)), (6, (Pv cx)), (8, (Pv kx)), (9, I6 ↑fr), (10, I6 ↑i), (11, I6 ↑tn), (12, .slice za71 xs.length ya71), (13, .slice zb82 (xs.length - fr) yb82), (14, I6 0), (15, .func (.func 65) #[] #[(Pv fb94), (Pv rb94)]), (16, I6 0), (106, .bool false), (112, I6 ↑fr)] 1 2 hS .nil fun a hS => ?_
    refine eff_box wide_wide (r := 1) (cs := #[I6 0]) (T := 3) (d := (some 17)) hS (by kernel_rfl) fun a w205 hw206 hS => ?_
    have hn210 : kx ≠ w185.heap.size := Nat.ne_of_lt hB190.lt
    have hn213 : fb94 ≠ w185.heap.size := Nat.ne_of_lt hB193.lt
    have hn214 : rb94 ≠ w185.heap.size := Nat.ne_of_lt hB194.lt
    have hn216 : ga169 ≠ w185.heap.size := Nat.ne_of_lt hB196.lt
    have hB220 := Blk.at' hw206 (hB190.alloc _)
    have hB223 := Blk.at' hw206 (hB193.alloc _)
    have hB224 := Blk.at' hw206 (hB194.alloc _)
    have hB226 := OwnR.at' hw206 (hB196.alloc _)
    have hX227 : Ext [] w185 w205 := by rw [hw206]; exact (Ext.refl _ _).alloc _
    have hG228 : True := trivial
    have hG229 : Fam w205 5 1 (fun b => w33.heap.size ≤ b) ((L ++ [(⟨.slice za71 xs.length ya71, xs.length, (bv xs)⟩ : Rw)]) ++ [(⟨.slice zb82 (xs.length - fr) yb82, (xs.length - fr), (bv (xs.drop fr))⟩ : Rw)]) := hG199.ext0 hX227
    have hG230 : ∀ D ∈ Ds, Dfr w205 D := fun D hD => (hG200 D hD).ext hX227 (by simp)
    have hG231 : wc94.heap.size ≤ w205.heap.size := Nat.le_trans hG201 (hX227).size
    have hG232 : True := trivial
    have hB233 : Blk w205 (w185.heap.size) 3 #[I6 0] := by rw [hw206]; exact Blk.new _ _ _
    have hs234 : w33.heap.size ≤ w185.heap.size := hE203.size
    have hE235 : Ext [kx] w33 w205 := by rw [hw206]; exact hE203.alloc _
    refine eff_store wide_wide (r := 0) (b := w185.heap.size) (off := 0) (vs := [I6 ↑fr]) hS (by kernel_rfl) hB233 (by simp) fun a w236 hw237 hS => ?_
    have hB241 := Blk.at' hw237 (hB220.updNe (Ne.symm hn210) _ _)
    have hB244 := Blk.at' hw237 (hB223.updNe (Ne.symm hn213) _ _)
    have hB245 := Blk.at' hw237 (hB224.updNe (Ne.symm hn214) _ _)
    have hB247 := OwnR.at' hw237 (hB226.updNe (Ne.symm hn216) _ _)
    have hB248 : Blk w236 w185.heap.size 3 (#[I6 ↑fr]) := by rw [hw237]; exact hB233.upd _ _
    have hX249 : Ext [w185.heap.size] w205 w236 := by rw [hw237]; exact (Ext.refl _ _).updIn (.inl (by simp)) _ _
    have hG250 : True := trivial
    have hG251 : Fam w236 5 1 (fun b => w33.heap.size ≤ b) ((L ++ [(⟨.slice za71 xs.length ya71, xs.length, (bv xs)⟩ : Rw)]) ++ [(⟨.slice zb82 (xs.length - fr) yb82, (xs.length - fr), (bv (xs.drop fr))⟩ : Rw)]) := hG229.ext hX249 (fun k x hx b hb hm => by simp at hm; subst hm; exact (hG229.own k x hx).notin hB233 (by decide) hb)
    have hG252 : ∀ D ∈ Ds, Dfr w236 D := fun D hD => (hG230 D hD).ext hX249 (by simpa using (hG230 D hD).ne_blk hB233)
    have hG253 : wc94.heap.size ≤ w236.heap.size := Nat.le_trans hG231 (hX249).size
    have hG254 : True := trivial
    have hE255 : Ext [kx] w33 w236 := by rw [hw237]; exact hE235.updIn (.inr hs234) _ _
    refine seg_end ?_
    refine hK204 _ _ ?_
    refine sq fun K256 hK256 => ?_
    refine rgn 1 ?_
    refine sg wide_wide [.p] [] [(1, vp), (4, (Pv rx)), (5, (Pv b)), (6, (Pv cx)), (8, (Pv kx)), (9, I6 ↑fr), (10, I6 ↑i), (11, I6 ↑tn), (12, .slice za71 xs.length ya71), (13, .slice zb82 (xs.length - fr) yb82), (14, I6 0), (15, .func (.func 65) #[] #[(Pv fb94), (Pv rb94)]), (16, I6 0), (106, .bool false), (17, (Pv w185.heap.size)), (113, .func (.func 65) #[] #[(Pv fb94), (Pv rb94)])] 1 0 hS .nil fun a hS => ?_
    refine seg_end ?_
    refine hK256 _ _ ?_
    refine wpIn_block ?_
    replace hS := hS.keepTo [1, 4, 5, 6, 8, 9, 10, 11, 17, 113] (m' := [(1, vp), (4, (Pv rx)), (5, (Pv b)), (6, (Pv cx)), (8, (Pv kx)), (9, I6 ↑fr), (10, I6 ↑i), (11, I6 ↑tn), (17, (Pv w185.heap.size)), (113, .func (.func 65) #[] #[(Pv fb94), (Pv rb94)])]) (by kernel_rfl)
    obtain ⟨L1, hL1⟩ : ∃ l, l = ((L ++ [(⟨.slice za71 xs.length ya71, xs.length, (bv xs)⟩ : Rw)]) ++ [(⟨.slice zb82 (xs.length - fr) yb82, (xs.length - fr), (bv (xs.drop fr))⟩ : Rw)]) := ⟨_, rfl⟩
    have hL1l : L1.length = L.length + 2 := by rw [hL1]; simp
    have hFa9 : Fam w236 5 1 (fun b => w33.heap.size ≤ b) L1 := by rw [hL1]; exact hG251
    have hK9 : Kp w33.heap.size w236 kx (some ⟨ga169, 0, none⟩) ca169 L1 := by
     refine ⟨by rw [hL1l]; exact hB241, ?_, hFa9, ?_, ?_⟩
     ·rw [hL1l, hL1]; simpa using (hB247).v
     ·intro x hx
      rw [hL1] at hx
      simp only [List.mem_append, List.mem_singleton] at hx
      rcases hx with (hx | rfl) | rfl
      ·exact hK2.le x hx
      ·exact hxl
      ·simp only; omega
     ·intro b hb
      have hb : b = ga169 := by simpa [ob] using hb
      rw [hb]
      rcases hFa169 ga169 (by simp) with h | h
      ·exact hK2.new _ h
      ·exact Nat.le_trans hE168.size h
    have hbT : ga169 < wc82.heap.size ∨ wc94.heap.size ≤ ga169 := by
     rcases hFa169 ga169 (by simp) with h | h
     ·exact .inl (hbslt _ h)
     ·exact .inr (Nat.le_trans hG164 h)
    have hrT : ∀ b ∈ bl L1, b < wc82.heap.size := fun b hb => by rw [hL1] at hb; exact Fam.blt hFc b hb
    have haxq : wc94.heap.size ≤ w185.heap.size := hG201
    have hax9 := hB248
    have haxn : w33.heap.size ≤ w185.heap.size := hs234
    have hE9 := hE255
    have hD9 := hG252
    have hSq9 := seqD hb (hEb6.trans hE255 hkM) (hB244) (hB245) ⟨hq3, hq4⟩ ⟨hq5, hq6⟩ hfrl
    obtain ⟨T, hTlt, hTs⟩ := hSq9
    obtain ⟨ax, hexx⟩ : ∃ x, x = w185.heap.size := ⟨_, rfl⟩
    rw [← hexx] at hS haxq hax9 haxn
    have haxlt := hax9.lt
    have hl9 := hE9.size
    obtain ⟨C0, hC0⟩ : ∃ l, l = ax :: kx :: (ob (.slice (some ⟨ga169, 0, none⟩) L1.length ca169) ++ bl L1) := ⟨_, rfl⟩
    have hC0m : ∀ b ∈ C0, b = ax ∨ b = kx ∨ b = ga169 ∨ b ∈ bl L1 := fun b hb => by rw [hC0] at hb; simpa [ob] using hb
    have hC06 : ∀ b ∈ C0, b ∈ [kx] ∨ w33.heap.size ≤ b := fun b hb => by
     rcases hC0m b hb with rfl | rfl | rfl | h
     ·exact .inr haxn
     ·exact .inl (by simp)
     ·exact .inr (hK9.new _ (by simp [ob]))
     ·exact .inr (hK9.fam.bD b h)
    refine range_out (α := Cp) (β := Cv) (gf := 65) (lb := #[Pv fb94, Pv rb94]) (π := (·.1)) (enc := ckE) (nb := ckB) (Ok := ckOk) (Nx := CkNx fr (xs.drop fr)) (Fin := CkFin (xs.drop fr)) (T := T)
     (fun pre Cx W => ∃ bs cap, Cx = ax :: kx :: (ob (.slice bs (Lq L1 pre).length cap) ++ bl (Lq L1 pre)) ∧ Blk W ax 3 #[I6 ((fr + (told (pre.map (·.1))).length : Nat) : Int)] ∧ Kp w33.heap.size W kx bs cap (Lq L1 pre) ∧ pre.length ≤ (told (pre.map (·.1))).length)
     (fun _ _ _ _ => False) C0 (fun q => [(1, vp), (4, (Pv rx)), (5, (Pv b)), (6, (Pv cx)), (8, (Pv kx)), (9, I6 ↑fr), (10, I6 ↑i), (11, I6 ↑tn), (17, (Pv ax)), (19, q.2)]) hS rfl Try.call65 ?_ ckOk_ext ?_ ?_ ?_ (fun _ => rfl) rfl ?_ ?_ ?_ ?_ ?_ ?_ ?_
    ·intro W hEW _
     exact hTs W hEW
    ·intro b hb
     exact (hTlt b hb).1
    ·intro b hb hT
     have h1 := (hTlt b hT).2
     have h6 := hEb6.size
     rcases hC0m b hb with rfl | rfl | h | h
     ·omega
     ·omega
     ·have h2 := hK9.new b (by simp [ob, h])
      have h3 : b < wc82.heap.size ∨ wc94.heap.size ≤ b := by rw [h]; exact hbT
      omega
     ·have h2 := hrT b h
      have h3 := hK9.fam.bD b h
      omega
    ·intro b hb
     rcases hC0m b hb with rfl | rfl | rfl | h
     ·exact haxlt
     ·exact hK9.blk.lt
     ·exact hK9.own.lie _ (by simp [ob])
     ·exact Fam.blt hK9.fam b h
    ·rintro pre Cx M W W' ⟨bs, cap, rfl, h1, h2, h3⟩ hE hM
     refine ⟨bs, cap, rfl, h1.ext hE (fun hm => (hM _ hm).2 (by simp)), h2.ext hE (fun b hb => ⟨fun h => (hM b hb).2 (by simp [h]), fun h => (hM b hb).2 (by simp [h]), fun h => (hM b hb).2 (by simp [h])⟩), h3⟩
    ·intro c pre Cx M W W' h; exact h.elim
    ·exact ⟨some ⟨ga169, 0, none⟩, ca169, by rw [Lq_nil]; exact hC0, hax9, by rw [Lq_nil]; exact hK9, Nat.le_refl _⟩
    ·intro l2 x a' W K hS hK
     refine rgn 1 ?_
     refine sg (wide_wide.inRound l2) [.p] [] [(1, vp), (4, (Pv rx)), (5, (Pv b)), (6, (Pv cx)), (8, (Pv kx)), (9, I6 ↑fr), (10, I6 ↑i), (11, I6 ↑tn), (17, (Pv ax)), (115, x.2), (19, x.2)] 1 0 hS .nil fun a hS => ?_
     refine seg_end ?_
     exact hK _ (hS.keepTo [1, 4, 5, 6, 8, 9, 10, 11, 17, 19] (by kernel_rfl))
    ·rintro l2 pre xv Cx W a ⟨hx1, hx2, rest, hx3⟩ ⟨bs, cap, rfl, haxW, hKW, hpreW⟩ hlieW hfrW hnl hrec hEW hok hnbx hS
     replace hS : St 196 [] [(1, vp), (4, (Pv rx)), (5, (Pv b)), (6, (Pv cx)), (8, (Pv kx)), (9, I6 ↑fr), (10, I6 ↑i), (11, I6 ↑tn), (17, (Pv ax)), (19, xv.2)] a := hS
     obtain ⟨⟨xp, ys⟩, xw⟩ := xv
     simp only at hx1 hx2 hx3 hS
     obtain ⟨tl, htl⟩ : ∃ tl : Nat, (told (pre.map (·.1))).length = tl := ⟨_, rfl⟩
     rw [htl] at haxW hpreW
     have hxll := congrArg List.length hx3
     rw [List.length_append, List.length_append, List.length_drop, htl] at hxll
     have hys : 0 < ys.length := List.length_pos_iff.2 hx2
     have hcut : (xs.drop (fr + tl)).take (fr + tl + ys.length - (fr + tl)) = ys := cut_told hx3 htl
     obtain ⟨g, gcap, hxw, hg⟩ := OwnV.some_of_pos (show OwnV W 5 1 xw ys.length (bv ys) from hok) hys
     subst hxw
     obtain ⟨Lp, hLp⟩ : ∃ l, Lq L1 pre = l := ⟨_, rfl⟩
     rw [hLp] at hKW hlieW hfrW hnl hnbx ⊢
     have hLpl : Lp.length = L.length + 2 + pre.length := by rw [← hLp, Lq, List.length_append, List.length_map, hL1l]
     obtain ⟨hgn, hglt, hgC, hgl⟩ := hnbx g (by simp [ckB, ob])
     have hE6W : Ext [kx] w33 W := hE9.trans hEW hC06
     have hrd0 : RdV W 1 (Value.slice (some ⟨g, 0, none⟩) ys.length gcap) ys.length (bv ys) := hg.v.rd
     have hgLp : g ∉ bl Lp := fun h => hgC (by simp [h])
     have hgn6 : w33.heap.size ≤ g := by omega
     obtain ⟨MM, hMM⟩ : ∃ l, l = g :: ax :: kx :: (ob (.slice bs Lp.length cap) ++ bl Lp) := ⟨_, rfl⟩
     have hWW : Ext MM W W := Ext.refl _ _
     have hMg : MM = ckB ((xp, ys), Value.slice (some ⟨g, 0, none⟩) ys.length gcap) ++ ax :: kx :: (ob (.slice bs Lp.length cap) ++ bl Lp) := hMM
     have hMax : ax ∈ MM := by rw [hMM]; simp
     have hMkx : kx ∈ MM := by rw [hMM]; simp
     have hMbs : ∀ b ∈ ob (.slice bs Lp.length cap), b ∈ MM := fun b hb => by rw [hMM]; simp [hb]
     have hM6 : ∀ b ∈ MM, b ∈ [kx] ∨ w33.heap.size ≤ b := fun b hb => by
      rw [hMM] at hb
      simp only [List.mem_cons, List.mem_append] at hb
      rcases hb with rfl | rfl | rfl | hb | hb
      ·exact .inr hgn6
      ·exact .inr haxn
      ·exact .inl (by simp)
      ·exact .inr (hKW.new b hb)
      ·exact .inr (hKW.fam.bD b hb)
     replace hS : St 196 [] [(1, vp), (4, (Pv rx)), (5, (Pv b)), (6, (Pv cx)), (8, (Pv kx)), (9, I6 ↑fr), (10, I6 ↑i), (11, I6 ↑tn), (17, (Pv ax)), (19, .slice (some ⟨g, 0, none⟩) ys.length gcap)] a := hS
     refine wpIn_block ?_
     refine sq fun K257 hK257 => ?_
     refine sq fun K258 hK258 => ?_
     refine region_gh2 (G := World) (wide_wide.inRound l2) [.q .p, .q .p, .q (.ld ((Pv c))), .q .p, .q .p, .q (.ld (q)), .q (.run (I6 ↑xs.length)), .q (.ld (I6 ((fr + tl : Nat) : Int))), .q (.as (I6 (↑xs.length - ((fr + tl : Nat) : Int)))), .q (.as (.bool false)), .q .p, .q .p, .q (.ld ((Pv c))), .q .p, .q .p, .q (.ld (q)), .q (.ld (I6 ((fr + tl : Nat) : Int))), .q (.ld (I6 ((fr + tl : Nat) : Int))), .q .p, .q .p, .q (.as (I6 ((fr + tl + ys.length : Nat) : Int))), .q (.run (rsub q (fr + tl) (fr + tl + ys.length) (capOf q))), .e, .q .p, .q .p] [0, 0, 0, 0, 0, 0, 0, 0, 0, 0, 0, 0, 0, 0, 0, 0, 0, 0, 0, 0, 0, 0, 0, 1, 1] [0, 0, 0, 0, 0, 0, 0, 0, 0, 0, 0, 0, 0, 0, 0, 0, 0, 0, 0, 0, 0, 0, 0, 1, 1] [0, 1, 0, 4, 12, 28, 60, 0, 252, 511, 1023, 2047, 2047, 6143, 14335, 30719, 2047, 2047, 2047, 264191, 919551, 2095103, 4194303, 8388607, 16777215] [22] [(22, 0)] 1 (fun wc259 => ([(1, vp), (4, (Pv rx)), (5, (Pv b)), (6, (Pv cx)), (8, (Pv kx)), (9, I6 ↑fr), (10, I6 ↑i), (11, I6 ↑tn), (17, (Pv ax)), (19, .slice (some ⟨g, 0, none⟩) ys.length gcap), (116, .slice (some ⟨g, 0, none⟩) ys.length gcap), (117, I6 ↑ys.length), (118, (Pv c)), (119, (Pv c)), (120, (Pv c)), (121, q), (122, I6 ↑xs.length), (123, I6 ((fr + tl : Nat) : Int)), (124, I6 (↑xs.length - ((fr + tl : Nat) : Int))), (125, .bool false), (126, .bool false), (127, .slice (some ⟨g, 0, none⟩) ys.length gcap), (128, (Pv c)), (129, (Pv c)), (130, (Pv c)), (131, q), (132, I6 ((fr + tl : Nat) : Int)), (133, I6 ((fr + tl : Nat) : Int)), (134, .slice (some ⟨g, 0, none⟩) ys.length gcap), (135, I6 ↑ys.length), (136, I6 ((fr + tl + ys.length : Nat) : Int)), (137, (rsub q (fr + tl) (fr + tl + ys.length) (capOf q))), (138, .bool true), (139, .bool false), (140, .bool false)] : Fm)) (fun wc259 => [W.drew, wc259]) (W.drew) (fun e wc259 => hAt [True, (Ext [] W.drew wc259) ∧ True] e) (fun wc259 w' => [(2, [w'.cell? ⟨cx, 0, none⟩ = some ((Pv c))]), (5, [w'.cell? ⟨c, 0, none⟩ = some (q)]), (6, [Ru Try.prog (vS (Builtin.len_ #[23] 3 #[q])) (I6 ↑xs.length) w']), (7, [w'.cell? ⟨ax, 0, none⟩ = some (I6 ((fr + tl : Nat) : Int))]), (8, [Value.int .i64 (IntKind.i64.wrap (↑xs.length - ((fr + tl : Nat) : Int))) = I6 (↑xs.length - ((fr + tl : Nat) : Int))]), (9, [Value.bool (decide ((↑ys.length : Int) > ↑xs.length - ((fr + tl : Nat) : Int))) = .bool false]), (12, [w'.cell? ⟨cx, 0, none⟩ = some ((Pv c))]), (15, [w'.cell? ⟨c, 0, none⟩ = some (q)]), (16, [w'.cell? ⟨ax, 0, none⟩ = some (I6 ((fr + tl : Nat) : Int))]), (17, [w'.cell? ⟨ax, 0, none⟩ = some (I6 ((fr + tl : Nat) : Int))]), (20, [Value.int .i64 (IntKind.i64.wrap (((fr + tl : Nat) : Int) + ↑ys.length)) = I6 ((fr + tl + ys.length : Nat) : Int)]), (21, [Ru Try.prog (vS (Instr.sliceAt 23 q (some (I6 ((fr + tl : Nat) : Int))) (some (I6 ((fr + tl + ys.length : Nat) : Int))) none)) (rsub q (fr + tl) (fr + tl + ys.length) (capOf q)) w'])]) W.drew [1, 4, 5, 6, 8, 9, 10, 11, 17, 19] [] hS (by kernel_rfl) (by kernel_rfl) (by kernel_rfl) (by kernel_rfl) (fun wc259 _ => by kernel_rfl) (by kernel_rfl) (by kernel_rfl) (by kernel_rfl) trivial ?_ (by kernel_rfl) ?_ ?_
     ·rintro e wc259 w' hw hH
      refine (.cons ?_ (.cons ?_ (.cons ?_ (.cons ?_ (.cons ?_ (.cons ?_ (.cons ?_ (.cons ?_ (.cons ?_ (.cons ?_ (.cons ?_ (.cons ?_ .nil))))))))))))
      ·intro h1 h2
       obtain rfl : e = 0 := Nat.le_antisymm h2 h1
       have hwe : W.drew = w' := (hw.trans (by kernel_rfl)).symm
       subst hwe
       clear hH
       exact (.cons (((hcx6.ext hE6W hncxk).drew : Blk W.drew cx 52 (#[(Pv c)])).cell 0 rfl) .nil)
      ·intro h1 h2
       obtain rfl : e = 0 := Nat.le_antisymm h2 h1
       have hwe : W.drew = w' := (hw.trans (by kernel_rfl)).symm
       subst hwe
       clear hH
       exact (.cons (((hq.1.ext (hEb6.trans hE6W hkM) (by simp)).drew : Blk W.drew c 56 (#[q])).cell 0 rfl) .nil)
      ·intro h1 h2
       obtain rfl : e = 0 := Nat.le_antisymm h2 h1
       have hwe : W.drew = w' := (hw.trans (by kernel_rfl)).symm
       subst hwe
       clear hH
       exact (.cons (run_len_rd (e := 5) hq.2.1 (by kernel_rfl)) .nil)
      ·intro h1 h2
       obtain rfl : e = 0 := Nat.le_antisymm h2 h1
       have hwe : W.drew = w' := (hw.trans (by kernel_rfl)).symm
       subst hwe
       clear hH
       exact (.cons ((haxW.drew : Blk W.drew ax 3 (#[I6 ((fr + tl : Nat) : Int)])).cell 0 rfl) .nil)
      ·intro h1 h2
       obtain rfl : e = 0 := Nat.le_antisymm h2 h1
       have hwe : W.drew = w' := (hw.trans (by kernel_rfl)).symm
       subst hwe
       clear hH
       exact (.cons (as_i64 (by omega)) .nil)
      ·intro h1 h2
       obtain rfl : e = 0 := Nat.le_antisymm h2 h1
       have hwe : W.drew = w' := (hw.trans (by kernel_rfl)).symm
       subst hwe
       clear hH
       exact (.cons (as_f (by omega)) .nil)
      ·intro h1 h2
       obtain rfl : e = 0 := Nat.le_antisymm h2 h1
       have hwe : W.drew = w' := (hw.trans (by kernel_rfl)).symm
       subst hwe
       clear hH
       exact (.cons (((hcx6.ext hE6W hncxk).drew : Blk W.drew cx 52 (#[(Pv c)])).cell 0 rfl) .nil)
      ·intro h1 h2
       obtain rfl : e = 0 := Nat.le_antisymm h2 h1
       have hwe : W.drew = w' := (hw.trans (by kernel_rfl)).symm
       subst hwe
       clear hH
       exact (.cons (((hq.1.ext (hEb6.trans hE6W hkM) (by simp)).drew : Blk W.drew c 56 (#[q])).cell 0 rfl) .nil)
      ·intro h1 h2
       obtain rfl : e = 0 := Nat.le_antisymm h2 h1
       have hwe : W.drew = w' := (hw.trans (by kernel_rfl)).symm
       subst hwe
       clear hH
       exact (.cons ((haxW.drew : Blk W.drew ax 3 (#[I6 ((fr + tl : Nat) : Int)])).cell 0 rfl) .nil)
      ·intro h1 h2
       obtain rfl : e = 0 := Nat.le_antisymm h2 h1
       have hwe : W.drew = w' := (hw.trans (by kernel_rfl)).symm
       subst hwe
       clear hH
       exact (.cons ((haxW.drew : Blk W.drew ax 3 (#[I6 ((fr + tl : Nat) : Int)])).cell 0 rfl) .nil)
      ·intro h1 h2
       obtain rfl : e = 0 := Nat.le_antisymm h2 h1
       have hwe : W.drew = w' := (hw.trans (by kernel_rfl)).symm
       subst hwe
       clear hH
       exact (.cons ((by rw [show (((fr + tl : Nat) : Int) + ↑ys.length : Int) = ((fr + tl + ys.length : Nat) : Int) from by omega]; exact as_i64 (by omega))) .nil)
      ·intro h1 h2
       obtain rfl : e = 0 := Nat.le_antisymm h2 h1
       have hwe : W.drew = w' := (hw.trans (by kernel_rfl)).symm
       subst hwe
       clear hH
       exact (.cons (sl_rd (e := 5) (some (I6 ((fr + tl : Nat) : Int))) (some (I6 ((fr + tl + ys.length : Nat) : Int))) (l := (fr + tl)) (k := (fr + tl + ys.length)) hq.2.1 (by kernel_rfl) (by kernel_rfl) (.inr ⟨_, rfl⟩) (.inr ⟨_, rfl⟩) (by omega) (by omega)) .nil)
     ·refine (.cons ?eq260_22 .nil)
      ·rintro wc259 hH
       clear hH
       refine eff_gh (W.drew) (by kernel_rfl) ?_
       refine upon_call (f := 31) (vs := [.slice (some ⟨g, 0, none⟩) ys.length gcap, (rsub q (fr + tl) (fr + tl + ys.length) (capOf q))]) (cap := #[]) (d := (some 138)) (by kernel_rfl) Try.call31 #[.slice (some ⟨g, 0, none⟩) ys.length gcap, (rsub q (fr + tl) (fr + tl + ys.length) (capOf q))] (by kernel_rfl) (SameB_cut (hrd0.ext0 ((Ext.refl [] _).drew)) ((RdV.subb hq.2.1 (l := (fr + tl)) (k := (fr + tl + ys.length)) (m := (capOf q)) (by omega) (by omega) (by have := hq.2.1.le_cap; omega)).ext0 ((hEb6.trans hE6W hkM).trans0 ((Ext.refl [] _).drew))) hcut (by omega)) ?_
       rintro _ wc259 ⟨rfl, hEc259⟩
       exact ⟨_, rfl, ⟨wc259, by kernel_rfl, by kernel_rfl, by kernel_rfl, ⟨hEc259, trivial⟩⟩⟩
     rintro wc259 a w261 hS hw262 hH
     obtain ⟨hEc259, _⟩ := hH
     replace hw262 : w261 = wc259 := hw262.trans (by kernel_rfl)
     have hB266 := Blk.at' hw262 ((haxW.drew : Blk W.drew ax 3 (#[I6 ((fr + tl : Nat) : Int)])).ext hEc259 (by simp))
     have hB267 := Blk.at' hw262 ((hKW.blk.drew : Blk W.drew kx 71 (#[.slice bs Lp.length cap])).ext hEc259 (by simp))
     have hB268 := OwnV.at' hw262 ((hKW.own.drew : OwnV W.drew 23 1 (.slice bs Lp.length cap) Lp.length (Lp.map Rw.v)).ext hEc259 (by simp))
     have hB269 := OwnR.at' hw262 ((hg.drew : OwnR W.drew 5 1 g gcap ys.length (bv ys)).ext hEc259 (by simp))
     have hE270 : Ext MM W w261 := by rw [hw262]; exact (hWW.drew).trans0 hEc259
     have hX271 : Ext [] W w261 := by rw [hw262]; exact ((Ext.refl _ _).drew).trans0 hEc259
     have hG272 : True := trivial
     have hG273 : Fam w261 5 1 (fun b => w33.heap.size ≤ b) Lp := hKW.fam.ext0 hX271
     replace hS := hS.kp [(1, vp), (4, (Pv rx)), (5, (Pv b)), (6, (Pv cx)), (8, (Pv kx)), (9, I6 ↑fr), (10, I6 ↑i), (11, I6 ↑tn), (17, (Pv ax)), (19, .slice (some ⟨g, 0, none⟩) ys.length gcap), (140, .bool false)]
     refine hK258 _ _ ?_
     refine cond_f hS rfl ?_
     refine wpIn_skip ?_
     refine hK257 _ _ ?_
     refine sq fun K274 hK274 => ?_
     refine rgn 5 ?_
     refine sg (wide_wide.inRound l2) [.ld (I6 ((fr + tl : Nat) : Int)), .p, .p, .as (I6 ((fr + tl + ys.length : Nat) : Int))] [w261.cell? ⟨ax, 0, none⟩ = some (I6 ((fr + tl : Nat) : Int)), Value.int .i64 (IntKind.i64.wrap (((fr + tl : Nat) : Int) + ↑ys.length)) = I6 ((fr + tl + ys.length : Nat) : Int)] [(1, vp), (4, (Pv rx)), (5, (Pv b)), (6, (Pv cx)), (8, (Pv kx)), (9, I6 ↑fr), (10, I6 ↑i), (11, I6 ↑tn), (17, (Pv ax)), (19, .slice (some ⟨g, 0, none⟩) ys.length gcap), (140, .bool false), (144, I6 ((fr + tl + ys.length : Nat) : Int))] 4 1 hS (.cons (hB266.cell 0 rfl) (.cons ((by rw [show (((fr + tl : Nat) : Int) + ↑ys.length : Int) = ((fr + tl + ys.length : Nat) : Int) from by omega]; exact as_i64 (by omega))) .nil)) fun a hS => ?_
     refine eff_store (wide_wide.inRound l2) (r := 0) (b := ax) (off := 0) (vs := [I6 ((fr + tl + ys.length : Nat) : Int)]) hS (by kernel_rfl) hB266 (by simp) fun a w275 hw276 hS => ?_
     have hB280 : Blk w275 ax 3 (#[I6 ((fr + tl + ys.length : Nat) : Int)]) := by rw [hw276]; exact hB266.upd _ _
     have hB281 := Blk.at' hw276 (hB267.updNe (Blk.ne_type hB266 hB267 (by decide)) _ _)
     have hB282 := OwnV.at' hw276 (hB268.updNe (OwnV.ne hB268 hB266 (by decide)) _ _)
     have hB283 := OwnR.at' hw276 (hB269.updNe ((OwnR.ne_type hB269 hB266 (by decide)).symm) _ _)
     have hX284 : Ext [ax] w261 w275 := by rw [hw276]; exact (Ext.refl _ _).updIn (.inl (by simp)) _ _
     have hG285 : True := trivial
     have hG286 : Fam w275 5 1 (fun b => w33.heap.size ≤ b) Lp := hG273.ext hX284 (fun k x hx b hb hm => by simp at hm; subst hm; exact (hG273.own k x hx).notin hB266 (by decide) hb)
     have hE287 : Ext MM W w275 := by rw [hw276]; exact hE270.updIn (.inl hMax) _ _
     refine seg_end ?_
     refine hK274 _ _ ?_
     refine rgn 5 ?_
     refine sg (wide_wide.inRound l2) [.ld (.slice bs Lp.length cap), .p] [w275.cell? ⟨kx, 0, none⟩ = some (.slice bs Lp.length cap)] [(1, vp), (4, (Pv rx)), (5, (Pv b)), (6, (Pv cx)), (8, (Pv kx)), (9, I6 ↑fr), (10, I6 ↑i), (11, I6 ↑tn), (17, (Pv ax)), (19, .slice (some ⟨g, 0, none⟩) ys.length gcap), (140, .bool false), (145, .slice bs Lp.length cap), (146, .slice (some ⟨g, 0, none⟩) ys.length gcap)] 2 3 hS (.cons (hB281.cell 0 rfl) .nil) fun a hS => ?_
     refine eff_new (wide_wide.inRound l2) (r := 2) (cs := #[.slice (some ⟨g, 0, none⟩) ys.length gcap]) (T := 23) (v := Value.slice (some ⟨w275.heap.size, 0, none⟩) 1 1) (d := (some 147)) hS (by kernel_rfl) fun a w288 hw289 hS => ?_
     have hB300 := Blk.at' hw289 (hB280.alloc _)
     have hB301 := Blk.at' hw289 (hB281.alloc _)
     have hB302 := OwnV.at' hw289 (hB282.alloc _)
     have hB303 := OwnR.at' hw289 (hB283.alloc _)
     have hX304 : Ext [] w275 w288 := by rw [hw289]; exact (Ext.refl _ _).alloc _
     have hG305 : True := trivial
     have hG306 : Fam w288 5 1 (fun b => w33.heap.size ≤ b) Lp := hG286.ext0 hX304
     have hB307 : Blk w288 (w275.heap.size) 23 #[.slice (some ⟨g, 0, none⟩) ys.length gcap] := by rw [hw289]; exact Blk.new _ _ _
     have hs308 : W.heap.size ≤ w275.heap.size := hE287.size
     have hE309 : Ext MM W w288 := by rw [hw289]; exact hE287.alloc _
     refine eff_append2 (wide_wide.inRound l2) (r := 1) (d := (some 148)) (t := 71) (ty := 71) (e := 23) (size := 1) (bytes := 24) (len := Lp.length) (b := w275.heap.size) (off := 0) (k := 1) (c := 1) (z := #[.slice none 0 0]) (v := Value.slice bs Lp.length cap) (xs := (Lp.map Rw.v)) [.slice (some ⟨g, 0, none⟩) ys.length gcap] hS (by kernel_rfl) (by kernel_rfl) (by kernel_rfl) (by kernel_rfl) (by kernel_rfl) hB302 (by simp) (fun j u hu => by rw [Nat.zero_add]; exact hB307.cell j (by simpa using hu)) rfl (by omega) (by omega) (by omega) fun ga310 ca310 a wa310 hOa310 hEa310 hFa310 hS => ?_
     have hB314 := hB300.ext hEa310 (hB302.notin hB300 (by decide))
     have hB315 := hB301.ext hEa310 (hB302.notin hB301 (by decide))
     have hB316 := hB303.ext hEa310 (fun hm => hB303.v.disj hB302 (by decide) _ (by simp [ob]) hm)
     have hE318 : Ext MM W wa310 := hE309.trans hEa310 (fun b hb => .inl (hMbs b hb))
     have hG319 : True := trivial
     have hG320 : Fam wa310 5 1 (fun b => w33.heap.size ≤ b) Lp := hG306.ext hEa310 (fun k x hx b hb => (hG306.own k x hx).disj hB302 (by decide) b hb)
     refine eff_store (wide_wide.inRound l2) (r := 0) (b := kx) (off := 0) (vs := [.slice (some ⟨ga310, 0, none⟩) (Lp.length + 1) ca310]) hS (by kernel_rfl) hB315 (by simp) fun a w321 hw322 hS => ?_
     have hB326 := Blk.at' hw322 (hB314.updNe (Blk.ne_type hB315 hB314 (by decide)) _ _)
     have hB327 : Blk w321 kx 71 (#[.slice (some ⟨ga310, 0, none⟩) (Lp.length + 1) ca310]) := by rw [hw322]; exact hB315.upd _ _
     have hB328 := OwnR.at' hw322 (hB316.updNe ((OwnR.ne_type hB316 hB315 (by decide)).symm) _ _)
     have hB330 := OwnR.at' hw322 (hOa310.updNe ((OwnR.ne_type hOa310 hB315 (by decide)).symm) _ _)
     have hX331 : Ext [kx] wa310 w321 := by rw [hw322]; exact (Ext.refl _ _).updIn (.inl (by simp)) _ _
     have hG332 : True := trivial
     have hG333 : Fam w321 5 1 (fun b => w33.heap.size ≤ b) Lp := hG320.ext hX331 (fun k x hx b hb hm => by simp at hm; subst hm; exact (hG320.own k x hx).notin hB315 (by decide) hb)
     have hE334 : Ext MM W w321 := by rw [hw322]; exact hE318.updIn (.inl hMkx) _ _
     refine seg_end ?_
     refine inBlock_normal ?_
     have hLs : Lq L1 (pre ++ [((xp, ys), Value.slice (some ⟨g, 0, none⟩) ys.length gcap)]) = Lp ++ [⟨.slice (some ⟨g, 0, none⟩) ys.length gcap, ys.length, bv ys⟩] := by rw [Lq_snoc, hLp]
     have hLsl : (Lp ++ [(⟨.slice (some ⟨g, 0, none⟩) ys.length gcap, ys.length, bv ys⟩ : Rw)]).length = Lp.length + 1 := by simp
     have hFf : Fam w321 5 1 (fun b => w33.heap.size ≤ b) (Lp ++ [⟨.slice (some ⟨g, 0, none⟩) ys.length gcap, ys.length, bv ys⟩]) :=
      Fam.snoc hG333 (hB328).v (fun b hb => (show b = g by simpa [ob] using hb) ▸ hgn6) (fun k x hx b hb hm => by
       have hm : b = g := by simpa [ob] using hm
       subst hm; exact hgLp (bl_mem hx b hb))
     have hg2 : ∀ b ∈ ob (.slice (some ⟨ga310, 0, none⟩) (Lp.length + 1) ca310), b ∈ ob (.slice bs Lp.length cap) ∨ W.heap.size ≤ b := fun b hb => by
      have hb : b = ga310 := by simpa [ob] using hb
      rw [hb]
      exact (hFa310 ga310 (by simp)).imp id (Nat.le_trans hE309.size)
     have hKf : Kp w33.heap.size w321 kx (some ⟨ga310, 0, none⟩) ca310 (Lp ++ [⟨.slice (some ⟨g, 0, none⟩) ys.length gcap, ys.length, bv ys⟩]) := by
      refine ⟨by rw [hLsl]; exact hB327, by rw [hLsl, List.map_append]; exact (hB330).v, hFf, ?_, ?_⟩
      ·intro x hx
       rcases List.mem_append.1 hx with hx | hx
       ·exact hKW.le x hx
       ·simp only [List.mem_singleton] at hx; subst hx; simp only; omega
      ·intro b hb
       rw [hLsl] at hb
       rcases hg2 b hb with h | h
       ·exact hKW.new b h
       ·have := hE6W.size; omega
     have hsn : (told ((pre ++ [((xp, ys), Value.slice (some ⟨g, 0, none⟩) ys.length gcap)]).map (·.1))).length = tl + ys.length := by rw [List.map_append, List.map_cons, List.map_nil, told_snoc, List.length_append, htl]
     refine left_normal (C' := ax :: kx :: (ob (.slice (some ⟨ga310, 0, none⟩) (Lp.length + 1) ca310) ++ bl (Lp ++ [⟨.slice (some ⟨g, 0, none⟩) ys.length gcap, ys.length, bv ys⟩]))) (by rw [← hMg]; exact hE334) ?_ ?_ ⟨some ⟨ga310, 0, none⟩, ca310, by rw [hLs, hLsl], by rw [hsn, ← Nat.add_assoc]; exact hB326, by rw [hLs]; exact hKf, by rw [hsn, List.length_append, List.length_singleton]; omega⟩
     ·intro b hb
      rw [bl_snoc] at hb
      simp only [List.mem_cons, List.mem_append] at hb
      rcases hb with rfl | rfl | hb | hb | hb
      ·exact .inl (by simp)
      ·exact .inl (by simp)
      ·rcases hg2 b hb with h | h
       ·exact .inl (by simp [h])
       ·exact .inr h
      ·exact .inl (by simp [hb])
      ·exact .inl (by simp [ckB, hb])
     ·intro b hb
      rw [bl_snoc] at hb
      simp only [List.mem_cons, List.mem_append] at hb
      rcases hb with rfl | rfl | hb | hb | hb
      ·exact hB326.lt
      ·exact hB327.lt
      ·exact (hB330).v.lie b hb
      ·exact Fam.blt hG333 b hb
      ·exact (hB328).v.lie b hb
    ·rintro Cx w10 a hE910 hfr10 hlie10 hD10 ⟨all, hall, bs, cap, rfl, hax10, hK10, hall3⟩ hS
     have hall2 : told (all.map (·.1)) = xs.drop fr := hall
     rw [hall2, List.length_drop] at hall3
     have hEl10 : Ext [kx] w33 w10 := hE9.trans hE910 hC06
     obtain ⟨D0, hD0e⟩ : ∃ D, D = w236.heap.size := ⟨_, rfl⟩
     rw [← hD0e] at hD10 hS
     have hD0n : w.heap.size ≤ D0 := by rw [hD0e]; exact Nat.le_trans hEw6.size hl9
     have hDC : ∀ D, Dfr w236 D → D ∉ C0 := fun D hD hm => by
      rcases hC0m D hm with rfl | rfl | rfl | h
      ·exact hD.ne_blk hax9 rfl
      ·exact hD.ne_blk hK9.blk rfl
      ·exact Dfr.notin hD hK9.own (by simp [ob])
      ·exact Fam.notD hK9.fam hD h
     have hDs10 : ∀ D ∈ D0 :: Ds, Dfr w10 D := fun D hD => by
      rcases List.mem_cons.1 hD with rfl | hD
      ·exact hD10
      ·exact (hD9 D hD).ext hE910 (hDC D (hD9 D hD))
     have hnd3 : (D0 :: Ds).Nodup := List.nodup_cons.2 ⟨fun h => by have := (hD9 D0 h).lt; omega, hnd2⟩
     have hDn3 : ∀ D ∈ D0 :: Ds, w.heap.size ≤ D := fun D hD => by
      rcases List.mem_cons.1 hD with rfl | hD
      ·exact hD0n
      ·exact hDn2 D hD
     have hLal : (Lq L1 all).length = L.length + 2 + all.length := by rw [Lq, List.length_append, List.length_map, hL1l]
     replace hS : St 196 ((D0 :: Ds).map dmark) [(1, vp), (4, (Pv rx)), (5, (Pv b)), (6, (Pv cx)), (8, (Pv kx)), (9, I6 ↑fr), (10, I6 ↑i), (11, I6 ↑tn)] a := hS.keepTo [1, 4, 5, 6, 8, 9, 10, 11] (by kernel_rfl)
     refine inBlock_normal ?_
     refine inBlock_normal ?_
     refine hK69 _ _ ?_
     refine rgn 3 ?_
     refine sg wide_wide [.p, .as (I6 (↑tn + 1)), .p] [Value.int .i64 (IntKind.i64.wrap (↑tn + 1)) = I6 (↑tn + 1)] [(1, vp), (4, (Pv rx)), (5, (Pv b)), (6, (Pv cx)), (8, (Pv kx)), (9, I6 ↑fr), (10, I6 ↑i), (11, I6 (↑tn + 1))] 3 0 hS (.cons (as_i64 (by omega)) .nil) fun a hS => ?_
     refine seg_end ?_
     exact ⟨(tn + 1, bs, cap, Lq L1 all, D0 :: Ds), ⟨hS.kp [(1, vp), (4, (Pv rx)), (5, (Pv b)), (6, (Pv cx)), (8, (Pv kx)), (9, I6 ↑fr), (10, I6 ↑i), (11, I6 (↑tn + 1))], by omega, ⟨hK10.blk, hK10.own, hK10.fam, hK10.le, hK10.new⟩, by omega, hEl10, hDs10, hnd3, hDn3⟩, by simp only; omega⟩
    ·intro c pre Cx W a _ _ _ _ h; exact h.elim
   ·
    replace hb68 := of_decide_eq_false hb68
    refine wpIn_exit ?_
    refine then_exit ?_
    refine then_exit ?_
    refine inBlock_hit ?_
    refine inBlock_normal ?_
    refine hK50 _ _ ?_
    refine rgn 3 ?_
    refine sg wide_wide [.p, .as (I6 (↑i + 1)), .p] [Value.int .i64 (IntKind.i64.wrap (↑i + 1)) = I6 (↑i + 1)] [(1, vp), (4, (Pv rx)), (5, (Pv b)), (6, (Pv cx)), (8, (Pv kx)), (9, I6 ↑fr), (10, I6 (↑i + 1))] 3 0 hS (.cons (as_i64 (by omega)) .nil) fun a hS => ?_
    refine seg_end ?_
    exact ⟨(i + 1, fr, bs, cap, L, Ds), ⟨hS.kp [(1, vp), (4, (Pv rx)), (5, (Pv b)), (6, (Pv cx)), (8, (Pv kx)), (9, I6 ↑fr), (10, I6 (↑i + 1))], by omega, hfrl, ⟨hK2.blk, hK2.own, hK2.fam, hK2.le, hK2.new⟩, by omega, hEm, hDs2, hnd2, hDn2⟩, by simp only; omega⟩
  ·
   replace hb49 := of_decide_eq_false hb49
   refine wpIn_exit ?_
   refine then_exit ?_
   refine then_exit ?_
   refine inBlock_hit ?_
   refine hK45 _ _ ?_
   refine sq fun K335 hK335 => ?_
   refine rgn 13 ?_
   refine sg wide_wide [.p, .p, .ld ((Pv c)), .p, .p, .ld (q), .run (I6 ↑xs.length)] [w1.cell? ⟨cx, 0, none⟩ = some ((Pv c)), w1.cell? ⟨c, 0, none⟩ = some (q), Ru Try.prog (vS (Builtin.len_ #[23] 3 #[q])) (I6 ↑xs.length) w1] [(1, vp), (4, (Pv rx)), (5, (Pv b)), (6, (Pv cx)), (8, (Pv kx)), (9, I6 ↑fr), (10, I6 ↑i), (150, (Pv b)), (151, I6 ↑fr), (156, I6 ↑xs.length)] 7 6 hS (.cons (((hcx6.ext hEl hncxk)).cell 0 rfl) (.cons (((hq.1.ext (hEb6.trans hEl hkM) (by simp))).cell 0 rfl) (.cons (run_len_rd (e := 5) hq.2.1 (by kernel_rfl)) .nil))) fun a hS => ?_
   refine eff_call wide_wide (r := 5) (f := 35) (vs := [(Pv b), I6 ↑fr, I6 ↑xs.length]) (cap := #[]) (d := (some 157)) hS (by kernel_rfl) Try.call35 #[(Pv b), I6 ↑fr, I6 ↑xs.length] (by kernel_rfl) (Part_O (hb.ext0 (hEb6.trans hEl hkM)) hfl) ?_
   rintro _ wc336 ⟨zb336, yb336, rfl, hO336, hN336, hEc336⟩
   refine ⟨_, rfl, fun a hS => ?_⟩
   have hB340 := hK.blk.ext hEc336 (by simp)
   have hB341 := hK.own.ext hEc336 (by simp)
   have hG342 : True := trivial
   have hG343 : Fam wc336 5 1 (fun b => w33.heap.size ≤ b) L := hK.fam.ext0 hEc336
   have hG344 : ∀ D ∈ Ds, Dfr wc336 D := fun D hD => (hDs D hD).ext hEc336 (by simp)
   have hE345 := hEl.trans0 hEc336
   have hM336 : Fam wc336 5 1 (fun b => w33.heap.size ≤ b) (L ++ [(⟨.slice zb336 (xs.length - fr) yb336, (xs.length - fr), (bv (xs.drop fr))⟩ : Rw)]) := (hK.fam).more hEc336 hO336 hN336 (fun b hb => Nat.le_trans hEl.size hb)
   have hnbb : ∀ x ∈ ob (.slice zb336 (xs.length - fr) yb336), x ∉ bl L := fun x hx hm => by have h1 := hN336 x hx; have h2 := Fam.blt hK.fam x hm; omega
   refine sg wide_wide [.p, .p, .p, .p, .p] [] [(1, vp), (4, (Pv rx)), (5, (Pv b)), (6, (Pv cx)), (8, (Pv kx)), (9, I6 ↑fr), (10, I6 ↑i), (20, .slice zb336 (xs.length - fr) yb336), (21, I6 0)] 13 0 hS .nil fun a hS => ?_
   refine seg_end ?_
   refine hK335 _ _ ?_
   refine sq fun K346 hK346 => ?_
   refine rgn 3 ?_
   refine sg wide_wide [.p] [] [(1, vp), (4, (Pv rx)), (5, (Pv b)), (6, (Pv cx)), (8, (Pv kx)), (9, I6 ↑fr), (10, I6 ↑i), (20, .slice zb336 (xs.length - fr) yb336), (21, I6 0), (160, (Pv b))] 1 2 hS .nil fun a hS => ?_
   refine eff_call wide_wide (r := 1) (f := 32) (vs := [(Pv b)]) (cap := #[]) (d := (some 161)) hS (by kernel_rfl) Try.call32 #[(Pv b)] (by kernel_rfl) (Bytes_Y (hb.ext0 (hEb6.trans hE345 hkM))) ?_
   rintro _ wc347 ⟨za347, ya347, rfl, hO347, hN347, hEc347⟩
   refine ⟨_, rfl, fun a hS => ?_⟩
   have hB351 := hB340.ext hEc347 (by simp)
   have hB352 := hB341.ext hEc347 (by simp)
   have hB353 := hO336.ext hEc347 (by simp)
   have hG354 : True := trivial
   have hG355 : Fam wc347 5 1 (fun b => w33.heap.size ≤ b) L := (hK.fam.ext0 hEc336).ext0 hEc347
   have hG356 : ∀ D ∈ Ds, Dfr wc347 D := fun D hD => (hG344 D hD).ext hEc347 (by simp)
   have hE357 := hE345.trans0 hEc347
   have hM347 : Fam wc347 5 1 (fun b => w33.heap.size ≤ b) (L ++ [(⟨.slice za347 xs.length ya347, xs.length, (bv xs)⟩ : Rw)]) := ((hK.fam.ext0 hEc336)).more hEc347 hO347 hN347 (fun b hb => Nat.le_trans hE345.size hb)
   have hnba : ∀ x ∈ ob (.slice za347 xs.length ya347), x ∉ bl L := fun x hx hm => by have h1 := hN347 x hx; have h2 := Fam.blt (hK.fam.ext0 hEc336) x hm; omega
   refine sg wide_wide [.p] [] [(1, vp), (4, (Pv rx)), (5, (Pv b)), (6, (Pv cx)), (8, (Pv kx)), (9, I6 ↑fr), (10, I6 ↑i), (20, .slice zb336 (xs.length - fr) yb336), (21, I6 0), (22, .slice za347 xs.length ya347)] 3 0 hS .nil fun a hS => ?_
   refine seg_end ?_
   refine hK346 _ _ ?_
   refine sq fun K358 hK358 => ?_
   refine sq fun K359 hK359 => ?_
   refine rgn 27 ?_
   refine sg wide_wide [.p, .p, .p, .ld (.slice bs L.length cap)] [wc347.cell? ⟨kx, 0, none⟩ = some (.slice bs L.length cap)] [(1, vp), (4, (Pv rx)), (5, (Pv b)), (6, (Pv cx)), (8, (Pv kx)), (9, I6 ↑fr), (10, I6 ↑i), (20, .slice zb336 (xs.length - fr) yb336), (21, I6 0), (22, .slice za347 xs.length ya347), (164, .bool false), (165, .slice bs L.length cap)] 4 23 hS (.cons (hB351.cell 0 rfl) .nil) fun a hS => ?_
   refine eff_call wide_wide (r := 22) (f := 36) (vs := [.slice bs L.length cap]) (cap := #[]) (d := (some 166)) hS (by kernel_rfl) Try.call36 #[.slice bs L.length cap] (by kernel_rfl) (GrownBytes_any ((((hK.fam.ext0 hEc336).ext0 hEc347)).mono (fun k x hx b hb => .inl (bl_mem hx b hb))) hB352 (by omega) (fun x hx => Nat.le_trans (hK.le x hx) (by decide))) ?_
   rintro _ wg ⟨rfl, hEg⟩
   refine ⟨_, rfl, fun a hS => ?_⟩
   have hEg6 := hE357.trans hEg (fun b hb => .inr (Fam.bD ((hK.fam.ext0 hEc336).ext0 hEc347) b hb))
   have hag := (hO347).ext hEg hnba
   have hbg := (hB353).ext hEg hnbb
   have hdg : ∀ D ∈ Ds, Dfr wg D := fun D hD => (hG356 D hD).ext hEg (Fam.notD ((hK.fam.ext0 hEc336).ext0 hEc347) (hG356 D hD))
   refine sg wide_wide [.p, .p, .p, .p, .ld ((Pv c)), .p, .p, .ld (q)] [wg.cell? ⟨cx, 0, none⟩ = some ((Pv c)), wg.cell? ⟨c, 0, none⟩ = some (q)] [(1, vp), (4, (Pv rx)), (5, (Pv b)), (6, (Pv cx)), (9, I6 ↑fr), (10, I6 ↑i), (20, .slice zb336 (xs.length - fr) yb336), (21, I6 0), (22, .slice za347 xs.length ya347), (169, .bool false), (170, .slice za347 xs.length ya347), (174, q)] 13 14 hS (.cons (((hcx6.ext hEg6 hncxk)).cell 0 rfl) (.cons (((hq.1.ext (hEb6.trans hEg6 hkM) (by simp))).cell 0 rfl) .nil)) fun a hS => ?_
   refine eff_call wide_wide (r := 13) (f := 31) (vs := [.slice za347 xs.length ya347, q]) (cap := #[]) (d := (some 175)) hS (by kernel_rfl) Try.call31 #[.slice za347 xs.length ya347, q] (by kernel_rfl) (SameB_cut (hag).rd (hq.2.1.ext0 (hEb6.trans hEg6 hkM)) rfl (by omega)) ?_
   rintro _ wc360 ⟨rfl, hEc360⟩
   refine ⟨_, rfl, fun a hS => ?_⟩
   have hB361 := (hrx6.ext hEg6 hnrxk).ext hEc360 (by simp)
   have hB362 := (hcx6.ext hEg6 hncxk).ext hEc360 (by simp)
   have hB363 := (hq.1.ext (hEb6.trans hEg6 hkM) (by simp)).ext hEc360 (by simp)
   have hB365 := hbg.ext hEc360 (by simp)
   have hG366 : True := trivial
   have hG367 : ∀ D ∈ Ds, Dfr wc360 D := fun D hD => (hdg D hD).ext hEc360 (by simp)
   have hE368 := hEg6.trans0 hEc360
   refine sg wide_wide [.p, .p, .p, .p, .ld ((Pv c)), .p, .p, .ld (q), .p, .run (rsub q fr xs.length (capOf q))] [wc360.cell? ⟨cx, 0, none⟩ = some ((Pv c)), wc360.cell? ⟨c, 0, none⟩ = some (q), Ru Try.prog (vS (Instr.sliceAt 23 q (some (I6 ↑fr)) none none)) (rsub q fr xs.length (capOf q)) wc360] [(1, vp), (4, (Pv rx)), (5, (Pv b)), (6, (Pv cx)), (9, I6 ↑fr), (10, I6 ↑i), (20, .slice zb336 (xs.length - fr) yb336), (21, I6 0), (22, .slice za347 xs.length ya347), (178, .bool false), (179, .slice zb336 (xs.length - fr) yb336), (185, (rsub q fr xs.length (capOf q)))] 24 3 hS (.cons (hB362.cell 0 rfl) (.cons (hB363.cell 0 rfl) (.cons (sl_rd (e := 5) (some (I6 ↑fr)) none (l := fr) (k := xs.length) hq.2.1 (by kernel_rfl) (by kernel_rfl) (.inr ⟨_, rfl⟩) (.inl ⟨rfl, rfl⟩) (by omega) (by omega)) .nil))) fun a hS => ?_
   refine eff_call wide_wide (r := 2) (f := 31) (vs := [.slice zb336 (xs.length - fr) yb336, (rsub q fr xs.length (capOf q))]) (cap := #[]) (d := (some 186)) hS (by kernel_rfl) Try.call31 #[.slice zb336 (xs.length - fr) yb336, (rsub q fr xs.length (capOf q))] (by kernel_rfl) (SameB_cut (hB365).rd ((RdV.subb hq.2.1 (l := fr) (k := xs.length) (m := (capOf q)) (by omega) (by omega) (by have := hq.2.1.le_cap; omega)).ext0 (hEb6.trans hE368 hkM)) (List.take_of_length_le (by rw [List.length_drop]; exact Nat.le_refl _)) (by omega)) ?_
   rintro _ wc369 ⟨rfl, hEc369⟩
   refine ⟨_, rfl, fun a hS => ?_⟩
   have hB370 := hB361.ext hEc369 (by simp)
   have hB371 := hB362.ext hEc369 (by simp)
   have hB372 := hB363.ext hEc369 (by simp)
   have hG375 : True := trivial
   have hG376 : ∀ D ∈ Ds, Dfr wc369 D := fun D hD => (hG367 D hD).ext hEc369 (by simp)
   have hG377 : True := trivial
   have hE378 := hE368.trans0 hEc369
   refine sg wide_wide [.p, .p] [] [(1, vp), (4, (Pv rx)), (5, (Pv b)), (6, (Pv cx)), (9, I6 ↑fr), (10, I6 ↑i), (20, .slice zb336 (xs.length - fr) yb336), (21, I6 0), (22, .slice za347 xs.length ya347), (188, .bool false)] 27 0 hS .nil fun a hS => ?_
   refine seg_end ?_
   refine hK359 _ _ ?_
   refine cond_f hS rfl ?_
   refine wpIn_skip ?_
   refine hK358 _ _ ?_
   refine sq fun K379 hK379 => ?_
   have hEf := hEw6.trans hE378 hkW
   have hE6f := hE378
   refine region_gh2 (G := Value × World × World) wide_wide [.q .p, .e, .q (.ld ((Pv c))), .q .p, .q .p, .q (.ld (q)), .e, .e] [0, 0, 0, 0, 0, 0, 1, 2] [0, 0, 1, 1, 1, 1, 1, 2] [0, 1, 0, 4, 12, 28, 63, 127] [1, 6, 7] [(1, 0), (6, 1), (7, 2)] 3 (fun ⟨q380, wc380, wc381⟩ => ([(1, vp), (4, (Pv rx)), (5, (Pv b)), (6, (Pv cx)), (9, I6 ↑fr), (10, I6 ↑i), (20, .slice zb336 (xs.length - fr) yb336), (21, I6 0), (22, .slice za347 xs.length ya347), (188, .bool false), (189, (Pv b)), (190, q380), (191, (Pv c)), (192, (Pv c)), (193, (Pv c)), (194, q), (195, .bool true)] : Fm)) (fun ⟨q380, wc380, wc381⟩ => [wc369.drew, wc380, wc381, upd (wc381) (rx) 4 #[.bool true]]) (wc369.drew) (fun e ⟨q380, wc380, wc381⟩ => hAt [True, (RdV wc380 1 q380 xs.length (bv xs)) ∧ (Ext [] wc369.drew wc380) ∧ True, (RdV wc380 1 q380 xs.length (bv xs)) ∧ (Ext [] wc369.drew wc380) ∧ (Ext [] wc380 wc381) ∧ True, (RdV wc380 1 q380 xs.length (bv xs)) ∧ (Ext [] wc369.drew wc380) ∧ (Ext [] wc380 wc381) ∧ True] e) (fun ⟨q380, wc380, wc381⟩ w' => [(2, [w'.cell? ⟨cx, 0, none⟩ = some ((Pv c))]), (5, [w'.cell? ⟨c, 0, none⟩ = some (q)])]) (undef, wc369.drew, w) [1, 4, 5, 6, 9, 10, 20, 21, 22, 188] [] hS (by kernel_rfl) (by kernel_rfl) (by kernel_rfl) (by kernel_rfl) (fun ⟨q380, wc380, wc381⟩ _ => by kernel_rfl) (by kernel_rfl) (by kernel_rfl) (by kernel_rfl) trivial ?_ (by kernel_rfl) ?_ ?_
   ·rintro e ⟨q380, wc380, wc381⟩ w' hw hH
    refine (.cons ?_ (.cons ?_ .nil))
    ·intro h1 h2
     replace h1 : 0 ≤ e := h1
     replace h2 : e ≤ 1 := h2
     have he : e = 0 ∨ e = 1 := by omega
     rcases he with rfl | rfl
     ·have hwe : wc369.drew = w' := (hw.trans (by kernel_rfl)).symm
      subst hwe
      clear hH
      exact (.cons ((hB371.drew : Blk wc369.drew cx 52 (#[(Pv c)])).cell 0 rfl) .nil)
     ·have hwe : wc380 = w' := (hw.trans (by kernel_rfl)).symm
      subst hwe
      obtain ⟨hO380, hEc380, _⟩ := hH
      exact (.cons (((hB371.drew : Blk wc369.drew cx 52 (#[(Pv c)])).ext hEc380 (by simp) : Blk wc380 cx 52 (#[(Pv c)])).cell 0 rfl) .nil)
    ·intro h1 h2
     replace h1 : 0 ≤ e := h1
     replace h2 : e ≤ 1 := h2
     have he : e = 0 ∨ e = 1 := by omega
     rcases he with rfl | rfl
     ·have hwe : wc369.drew = w' := (hw.trans (by kernel_rfl)).symm
      subst hwe
      clear hH
      exact (.cons ((hB372.drew : Blk wc369.drew c 56 (#[q])).cell 0 rfl) .nil)
     ·have hwe : wc380 = w' := (hw.trans (by kernel_rfl)).symm
      subst hwe
      obtain ⟨hO380, hEc380, _⟩ := hH
      exact (.cons (((hB372.drew : Blk wc369.drew c 56 (#[q])).ext hEc380 (by simp) : Blk wc380 c 56 (#[q])).cell 0 rfl) .nil)
   ·refine (.cons ?eq382_1 (.cons ?eq382_6 (.cons ?eq382_7 .nil)))
    ·rintro ⟨q380, wc380, wc381⟩ hH
     clear hH
     refine eff_gh (wc369.drew) (by kernel_rfl) ?_
     refine upon_call (f := 32) (vs := [(Pv b)]) (cap := #[]) (d := (some 190)) (by kernel_rfl) Try.call32 #[(Pv b)] (by kernel_rfl) (Bytes_Z (hb.ext0 ((hEb6.trans hE6f hkM).trans0 ((Ext.refl [] _).drew)))) ?_
     rintro _ wc380 ⟨q380, rfl, hO380, hEc380⟩
     exact ⟨_, rfl, ⟨(q380, wc380, wc381), by kernel_rfl, by kernel_rfl, by kernel_rfl, ⟨hO380, hEc380, trivial⟩⟩⟩
    ·rintro ⟨q380, wc380, wc381⟩ hH
     obtain ⟨hO380, hEc380, _⟩ := hH
     refine eff_gh (wc380) (by kernel_rfl) ?_
     refine upon_call (f := 31) (vs := [q380, q]) (cap := #[]) (d := (some 195)) (by kernel_rfl) Try.call31 #[q380, q] (by kernel_rfl) (SameB_true (F := F) hO380 (hq.2.1.ext0 ((hEb6.trans hE6f hkM).trans0 ((((Ext.refl [] _).drew)).trans0 hEc380))) (by omega)) ?_
     rintro _ wc381 ⟨rfl, hEc381⟩
     exact ⟨_, rfl, ⟨(q380, wc380, wc381), by kernel_rfl, by kernel_rfl, by kernel_rfl, ⟨hO380, hEc380, hEc381, trivial⟩⟩⟩
    ·rintro ⟨q380, wc380, wc381⟩ hH
     obtain ⟨hO380, hEc380, hEc381, _⟩ := hH
     refine eff_gh (wc381) (by kernel_rfl) ?_
     exact upon_store (b := rx) (off := 0) (vs := [.bool true]) (by kernel_rfl) (((hB370.drew : Blk wc369.drew rx 4 (#[.bool false])).ext hEc380 (by simp) : Blk wc380 rx 4 (#[.bool false])).ext hEc381 (by simp) : Blk wc381 rx 4 (#[.bool false])) (by simp) ⟨(q380, wc380, wc381), by kernel_rfl, by kernel_rfl, by kernel_rfl, ⟨hO380, hEc380, hEc381, trivial⟩⟩
   rintro ⟨q380, wc380, wc381⟩ a w383 hS hw384 hH
   obtain ⟨hO380, hEc380, hEc381, _⟩ := hH
   replace hw384 : w383 = upd (wc381) (rx) 4 #[.bool true] := hw384.trans (by kernel_rfl)
   have hB385 : Blk w383 rx 4 (#[.bool true]) := by rw [hw384]; exact (((hB370.drew : Blk wc369.drew rx 4 (#[.bool false])).ext hEc380 (by simp) : Blk wc380 rx 4 (#[.bool false])).ext hEc381 (by simp)).upd _ _
   have hE388 : Ext [] w w383 := by rw [hw384]; exact (((hEf.drew).trans0 hEc380).trans0 hEc381).updIn (.inr hnrx) _ _
   have hX389 : Ext [rx] wc369 w383 := by rw [hw384]; exact ((((Ext.refl _ _).drew).trans0 hEc380).trans0 hEc381).updIn (.inl (by simp)) _ _
   have hG390 : True := trivial
   have hG391 : ∀ D ∈ Ds, Dfr w383 D := fun D hD => (hG376 D hD).ext hX389 (by first | (simp; done) | simpa using (hG376 D hD).ne_blk (hrx6.ext hE6f hnrxk))
   have hG392 : True := trivial
   replace hS := hS.kp [(1, vp), (4, (Pv rx)), (5, (Pv b)), (6, (Pv cx)), (9, I6 ↑fr), (10, I6 ↑i), (20, .slice zb336 (xs.length - fr) yb336), (21, I6 0), (22, .slice za347 xs.length ya347), (188, .bool false)]
   refine hK379 _ _ ?_
   refine wpIn_ret ?_
   refine retMc Ds (T' := 4) hS Try.results10 (by kernel_rfl) rfl hB385 hG391 hnd fun w99 hE99 => ?_
   exact ⟨rfl, (hE388).trans hE99 (fun D hD => .inr (hDn D hD))⟩
 ·
  refine rgn 8 ?_
  refine sg wide_wide [.p, .p, .run (I6 ↑m), .as (.bool false), .p, .no, .no, .p] [Ru Try.prog (vS (Builtin.len_ #[51] 3 #[vp])) (I6 ↑m) w1, Value.bool (decide ((↑i : Int) < ↑m)) = .bool false] [(1, vp), (4, (Pv rx)), (5, (Pv b)), (6, (Pv cx)), (8, (Pv kx)), (9, I6 ↑fr), (10, I6 ↑i), (40, .bool false)] 8 0 hS (.cons (run_len_rd (e := 3) hp (by kernel_rfl)) (.cons (as_f (by omega)) .nil)) fun a hS => ?_
  refine seg_end ?_
  refine hK48 _ _ ?_
  refine cond_f hS rfl ?_
  refine wpIn_exit ?_
  refine then_exit ?_
  refine then_exit ?_
  refine inBlock_hit ?_
  refine hK45 _ _ ?_
  refine sq fun K393 hK393 => ?_
  refine rgn 13 ?_
  refine sg wide_wide [.p, .p, .ld ((Pv c)), .p, .p, .ld (q), .run (I6 ↑xs.length)] [w1.cell? ⟨cx, 0, none⟩ = some ((Pv c)), w1.cell? ⟨c, 0, none⟩ = some (q), Ru Try.prog (vS (Builtin.len_ #[23] 3 #[q])) (I6 ↑xs.length) w1] [(1, vp), (4, (Pv rx)), (5, (Pv b)), (6, (Pv cx)), (8, (Pv kx)), (9, I6 ↑fr), (10, I6 ↑i), (40, .bool false), (150, (Pv b)), (151, I6 ↑fr), (156, I6 ↑xs.length)] 7 6 hS (.cons (((hcx6.ext hEl hncxk)).cell 0 rfl) (.cons (((hq.1.ext (hEb6.trans hEl hkM) (by simp))).cell 0 rfl) (.cons (run_len_rd (e := 5) hq.2.1 (by kernel_rfl)) .nil))) fun a hS => ?_
  refine eff_call wide_wide (r := 5) (f := 35) (vs := [(Pv b), I6 ↑fr, I6 ↑xs.length]) (cap := #[]) (d := (some 157)) hS (by kernel_rfl) Try.call35 #[(Pv b), I6 ↑fr, I6 ↑xs.length] (by kernel_rfl) (Part_O (hb.ext0 (hEb6.trans hEl hkM)) hfl) ?_
  rintro _ wc394 ⟨zb394, yb394, rfl, hO394, hN394, hEc394⟩
  refine ⟨_, rfl, fun a hS => ?_⟩
  have hB398 := hK.blk.ext hEc394 (by simp)
  have hB399 := hK.own.ext hEc394 (by simp)
  have hG400 : True := trivial
  have hG401 : Fam wc394 5 1 (fun b => w33.heap.size ≤ b) L := hK.fam.ext0 hEc394
  have hG402 : ∀ D ∈ Ds, Dfr wc394 D := fun D hD => (hDs D hD).ext hEc394 (by simp)
  have hE403 := hEl.trans0 hEc394
  have hM394 : Fam wc394 5 1 (fun b => w33.heap.size ≤ b) (L ++ [(⟨.slice zb394 (xs.length - fr) yb394, (xs.length - fr), (bv (xs.drop fr))⟩ : Rw)]) := (hK.fam).more hEc394 hO394 hN394 (fun b hb => Nat.le_trans hEl.size hb)
  have hnbb : ∀ x ∈ ob (.slice zb394 (xs.length - fr) yb394), x ∉ bl L := fun x hx hm => by have h1 := hN394 x hx; have h2 := Fam.blt hK.fam x hm; omega
  refine sg wide_wide [.p, .p, .p, .p, .p] [] [(1, vp), (4, (Pv rx)), (5, (Pv b)), (6, (Pv cx)), (8, (Pv kx)), (9, I6 ↑fr), (10, I6 ↑i), (40, .bool false), (20, .slice zb394 (xs.length - fr) yb394), (21, I6 0)] 13 0 hS .nil fun a hS => ?_
  refine seg_end ?_
  refine hK393 _ _ ?_
  refine sq fun K404 hK404 => ?_
  refine rgn 3 ?_
  refine sg wide_wide [.p] [] [(1, vp), (4, (Pv rx)), (5, (Pv b)), (6, (Pv cx)), (8, (Pv kx)), (9, I6 ↑fr), (10, I6 ↑i), (40, .bool false), (20, .slice zb394 (xs.length - fr) yb394), (21, I6 0), (160, (Pv b))] 1 2 hS .nil fun a hS => ?_
  refine eff_call wide_wide (r := 1) (f := 32) (vs := [(Pv b)]) (cap := #[]) (d := (some 161)) hS (by kernel_rfl) Try.call32 #[(Pv b)] (by kernel_rfl) (Bytes_Y (hb.ext0 (hEb6.trans hE403 hkM))) ?_
  rintro _ wc405 ⟨za405, ya405, rfl, hO405, hN405, hEc405⟩
  refine ⟨_, rfl, fun a hS => ?_⟩
  have hB409 := hB398.ext hEc405 (by simp)
  have hB410 := hB399.ext hEc405 (by simp)
  have hB411 := hO394.ext hEc405 (by simp)
  have hG412 : True := trivial
  have hG413 : Fam wc405 5 1 (fun b => w33.heap.size ≤ b) L := (hK.fam.ext0 hEc394).ext0 hEc405
  have hG414 : ∀ D ∈ Ds, Dfr wc405 D := fun D hD => (hG402 D hD).ext hEc405 (by simp)
  have hE415 := hE403.trans0 hEc405
  have hM405 : Fam wc405 5 1 (fun b => w33.heap.size ≤ b) (L ++ [(⟨.slice za405 xs.length ya405, xs.length, (bv xs)⟩ : Rw)]) := ((hK.fam.ext0 hEc394)).more hEc405 hO405 hN405 (fun b hb => Nat.le_trans hE403.size hb)
  have hnba : ∀ x ∈ ob (.slice za405 xs.length ya405), x ∉ bl L := fun x hx hm => by have h1 := hN405 x hx; have h2 := Fam.blt (hK.fam.ext0 hEc394) x hm; omega
  refine sg wide_wide [.p] [] [(1, vp), (4, (Pv rx)), (5, (Pv b)), (6, (Pv cx)), (8, (Pv kx)), (9, I6 ↑fr), (10, I6 ↑i), (40, .bool false), (20, .slice zb394 (xs.length - fr) yb394), (21, I6 0), (22, .slice za405 xs.length ya405)] 3 0 hS .nil fun a hS => ?_
  refine seg_end ?_
  refine hK404 _ _ ?_
  refine sq fun K416 hK416 => ?_
  refine sq fun K417 hK417 => ?_
  refine rgn 27 ?_
  refine sg wide_wide [.p, .p, .p, .ld (.slice bs L.length cap)] [wc405.cell? ⟨kx, 0, none⟩ = some (.slice bs L.length cap)] [(1, vp), (4, (Pv rx)), (5, (Pv b)), (6, (Pv cx)), (8, (Pv kx)), (9, I6 ↑fr), (10, I6 ↑i), (40, .bool false), (20, .slice zb394 (xs.length - fr) yb394), (21, I6 0), (22, .slice za405 xs.length ya405), (164, .bool false), (165, .slice bs L.length cap)] 4 23 hS (.cons (hB409.cell 0 rfl) .nil) fun a hS => ?_
  refine eff_call wide_wide (r := 22) (f := 36) (vs := [.slice bs L.length cap]) (cap := #[]) (d := (some 166)) hS (by kernel_rfl) Try.call36 #[.slice bs L.length cap] (by kernel_rfl) (GrownBytes_any ((((hK.fam.ext0 hEc394).ext0 hEc405)).mono (fun k x hx b hb => .inl (bl_mem hx b hb))) hB410 (by omega) (fun x hx => Nat.le_trans (hK.le x hx) (by decide))) ?_
  rintro _ wg ⟨rfl, hEg⟩
  refine ⟨_, rfl, fun a hS => ?_⟩
  have hEg6 := hE415.trans hEg (fun b hb => .inr (Fam.bD ((hK.fam.ext0 hEc394).ext0 hEc405) b hb))
  have hag := (hO405).ext hEg hnba
  have hbg := (hB411).ext hEg hnbb
  have hdg : ∀ D ∈ Ds, Dfr wg D := fun D hD => (hG414 D hD).ext hEg (Fam.notD ((hK.fam.ext0 hEc394).ext0 hEc405) (hG414 D hD))
  refine sg wide_wide [.p, .p, .p, .p, .ld ((Pv c)), .p, .p, .ld (q)] [wg.cell? ⟨cx, 0, none⟩ = some ((Pv c)), wg.cell? ⟨c, 0, none⟩ = some (q)] [(1, vp), (4, (Pv rx)), (5, (Pv b)), (6, (Pv cx)), (9, I6 ↑fr), (10, I6 ↑i), (40, .bool false), (20, .slice zb394 (xs.length - fr) yb394), (21, I6 0), (22, .slice za405 xs.length ya405), (169, .bool false), (170, .slice za405 xs.length ya405), (174, q)] 13 14 hS (.cons (((hcx6.ext hEg6 hncxk)).cell 0 rfl) (.cons (((hq.1.ext (hEb6.trans hEg6 hkM) (by simp))).cell 0 rfl) .nil)) fun a hS => ?_
  refine eff_call wide_wide (r := 13) (f := 31) (vs := [.slice za405 xs.length ya405, q]) (cap := #[]) (d := (some 175)) hS (by kernel_rfl) Try.call31 #[.slice za405 xs.length ya405, q] (by kernel_rfl) (SameB_cut (hag).rd (hq.2.1.ext0 (hEb6.trans hEg6 hkM)) rfl (by omega)) ?_
  rintro _ wc418 ⟨rfl, hEc418⟩
  refine ⟨_, rfl, fun a hS => ?_⟩
  have hB419 := (hrx6.ext hEg6 hnrxk).ext hEc418 (by simp)
  have hB420 := (hcx6.ext hEg6 hncxk).ext hEc418 (by simp)
  have hB421 := (hq.1.ext (hEb6.trans hEg6 hkM) (by simp)).ext hEc418 (by simp)
  have hB423 := hbg.ext hEc418 (by simp)
  have hG424 : True := trivial
  have hG425 : ∀ D ∈ Ds, Dfr wc418 D := fun D hD => (hdg D hD).ext hEc418 (by simp)
  have hE426 := hEg6.trans0 hEc418
  refine sg wide_wide [.p, .p, .p, .p, .ld ((Pv c)), .p, .p, .ld (q), .p, .run (rsub q fr xs.length (capOf q))] [wc418.cell? ⟨cx, 0, none⟩ = some ((Pv c)), wc418.cell? ⟨c, 0, none⟩ = some (q), Ru Try.prog (vS (Instr.sliceAt 23 q (some (I6 ↑fr)) none none)) (rsub q fr xs.length (capOf q)) wc418] [(1, vp), (4, (Pv rx)), (5, (Pv b)), (6, (Pv cx)), (9, I6 ↑fr), (10, I6 ↑i), (40, .bool false), (20, .slice zb394 (xs.length - fr) yb394), (21, I6 0), (22, .slice za405 xs.length ya405), (178, .bool false), (179, .slice zb394 (xs.length - fr) yb394), (185, (rsub q fr xs.length (capOf q)))] 24 3 hS (.cons (hB420.cell 0 rfl) (.cons (hB421.cell 0 rfl) (.cons (sl_rd (e := 5) (some (I6 ↑fr)) none (l := fr) (k := xs.length) hq.2.1 (by kernel_rfl) (by kernel_rfl) (.inr ⟨_, rfl⟩) (.inl ⟨rfl, rfl⟩) (by omega) (by omega)) .nil))) fun a hS => ?_
  refine eff_call wide_wide (r := 2) (f := 31) (vs := [.slice zb394 (xs.length - fr) yb394, (rsub q fr xs.length (capOf q))]) (cap := #[]) (d := (some 186)) hS (by kernel_rfl) Try.call31 #[.slice zb394 (xs.length - fr) yb394, (rsub q fr xs.length (capOf q))] (by kernel_rfl) (SameB_cut (hB423).rd ((RdV.subb hq.2.1 (l := fr) (k := xs.length) (m := (capOf q)) (by omega) (by omega) (by have := hq.2.1.le_cap; omega)).ext0 (hEb6.trans hE426 hkM)) (List.take_of_length_le (by rw [List.length_drop]; exact Nat.le_refl _)) (by omega)) ?_
  rintro _ wc427 ⟨rfl, hEc427⟩
  refine ⟨_, rfl, fun a hS => ?_⟩
  have hB428 := hB419.ext hEc427 (by simp)
  have hB429 := hB420.ext hEc427 (by simp)
  have hB430 := hB421.ext hEc427 (by simp)
  have hG433 : True := trivial
  have hG434 : ∀ D ∈ Ds, Dfr wc427 D := fun D hD => (hG425 D hD).ext hEc427 (by simp)
  have hG435 : True := trivial
  have hE436 := hE426.trans0 hEc427
  refine sg wide_wide [.p, .p] [] [(1, vp), (4, (Pv rx)), (5, (Pv b)), (6, (Pv cx)), (9, I6 ↑fr), (10, I6 ↑i), (40, .bool false), (20, .slice zb394 (xs.length - fr) yb394), (21, I6 0), (22, .slice za405 xs.length ya405), (188, .bool false)] 27 0 hS .nil fun a hS => ?_
  refine seg_end ?_
  refine hK417 _ _ ?_
  refine cond_f hS rfl ?_
  refine wpIn_skip ?_
  refine hK416 _ _ ?_
  refine sq fun K437 hK437 => ?_
  have hEf := hEw6.trans hE436 hkW
  have hE6f := hE436
  refine region_gh2 (G := Value × World × World) wide_wide [.q .p, .e, .q (.ld ((Pv c))), .q .p, .q .p, .q (.ld (q)), .e, .e] [0, 0, 0, 0, 0, 0, 1, 2] [0, 0, 1, 1, 1, 1, 1, 2] [0, 1, 0, 4, 12, 28, 63, 127] [1, 6, 7] [(1, 0), (6, 1), (7, 2)] 3 (fun ⟨q438, wc438, wc439⟩ => ([(1, vp), (4, (Pv rx)), (5, (Pv b)), (6, (Pv cx)), (9, I6 ↑fr), (10, I6 ↑i), (40, .bool false), (20, .slice zb394 (xs.length - fr) yb394), (21, I6 0), (22, .slice za405 xs.length ya405), (188, .bool false), (189, (Pv b)), (190, q438), (191, (Pv c)), (192, (Pv c)), (193, (Pv c)), (194, q), (195, .bool true)] : Fm)) (fun ⟨q438, wc438, wc439⟩ => [wc427.drew, wc438, wc439, upd (wc439) (rx) 4 #[.bool true]]) (wc427.drew) (fun e ⟨q438, wc438, wc439⟩ => hAt [True, (RdV wc438 1 q438 xs.length (bv xs)) ∧ (Ext [] wc427.drew wc438) ∧ True, (RdV wc438 1 q438 xs.length (bv xs)) ∧ (Ext [] wc427.drew wc438) ∧ (Ext [] wc438 wc439) ∧ True, (RdV wc438 1 q438 xs.length (bv xs)) ∧ (Ext [] wc427.drew wc438) ∧ (Ext [] wc438 wc439) ∧ True] e) (fun ⟨q438, wc438, wc439⟩ w' => [(2, [w'.cell? ⟨cx, 0, none⟩ = some ((Pv c))]), (5, [w'.cell? ⟨c, 0, none⟩ = some (q)])]) (undef, wc427.drew, w) [1, 4, 5, 6, 9, 10, 40, 20, 21, 22, 188] [] hS (by kernel_rfl) (by kernel_rfl) (by kernel_rfl) (by kernel_rfl) (fun ⟨q438, wc438, wc439⟩ _ => by kernel_rfl) (by kernel_rfl) (by kernel_rfl) (by kernel_rfl) trivial ?_ (by kernel_rfl) ?_ ?_
  ·rintro e ⟨q438, wc438, wc439⟩ w' hw hH
   refine (.cons ?_ (.cons ?_ .nil))
   ·intro h1 h2
    replace h1 : 0 ≤ e := h1
    replace h2 : e ≤ 1 := h2
    have he : e = 0 ∨ e = 1 := by omega
    rcases he with rfl | rfl
    ·have hwe : wc427.drew = w' := (hw.trans (by kernel_rfl)).symm
     subst hwe
     clear hH
     exact (.cons ((hB429.drew : Blk wc427.drew cx 52 (#[(Pv c)])).cell 0 rfl) .nil)
    ·have hwe : wc438 = w' := (hw.trans (by kernel_rfl)).symm
     subst hwe
     obtain ⟨hO438, hEc438, _⟩ := hH
     exact (.cons (((hB429.drew : Blk wc427.drew cx 52 (#[(Pv c)])).ext hEc438 (by simp) : Blk wc438 cx 52 (#[(Pv c)])).cell 0 rfl) .nil)
   ·intro h1 h2
    replace h1 : 0 ≤ e := h1
    replace h2 : e ≤ 1 := h2
    have he : e = 0 ∨ e = 1 := by omega
    rcases he with rfl | rfl
    ·have hwe : wc427.drew = w' := (hw.trans (by kernel_rfl)).symm
     subst hwe
     clear hH
     exact (.cons ((hB430.drew : Blk wc427.drew c 56 (#[q])).cell 0 rfl) .nil)
    ·have hwe : wc438 = w' := (hw.trans (by kernel_rfl)).symm
     subst hwe
     obtain ⟨hO438, hEc438, _⟩ := hH
     exact (.cons (((hB430.drew : Blk wc427.drew c 56 (#[q])).ext hEc438 (by simp) : Blk wc438 c 56 (#[q])).cell 0 rfl) .nil)
  ·refine (.cons ?eq440_1 (.cons ?eq440_6 (.cons ?eq440_7 .nil)))
   ·rintro ⟨q438, wc438, wc439⟩ hH
    clear hH
    refine eff_gh (wc427.drew) (by kernel_rfl) ?_
    refine upon_call (f := 32) (vs := [(Pv b)]) (cap := #[]) (d := (some 190)) (by kernel_rfl) Try.call32 #[(Pv b)] (by kernel_rfl) (Bytes_Z (hb.ext0 ((hEb6.trans hE6f hkM).trans0 ((Ext.refl [] _).drew)))) ?_
    rintro _ wc438 ⟨q438, rfl, hO438, hEc438⟩
    exact ⟨_, rfl, ⟨(q438, wc438, wc439), by kernel_rfl, by kernel_rfl, by kernel_rfl, ⟨hO438, hEc438, trivial⟩⟩⟩
   ·rintro ⟨q438, wc438, wc439⟩ hH
    obtain ⟨hO438, hEc438, _⟩ := hH
    refine eff_gh (wc438) (by kernel_rfl) ?_
    refine upon_call (f := 31) (vs := [q438, q]) (cap := #[]) (d := (some 195)) (by kernel_rfl) Try.call31 #[q438, q] (by kernel_rfl) (SameB_true (F := F) hO438 (hq.2.1.ext0 ((hEb6.trans hE6f hkM).trans0 ((((Ext.refl [] _).drew)).trans0 hEc438))) (by omega)) ?_
    rintro _ wc439 ⟨rfl, hEc439⟩
    exact ⟨_, rfl, ⟨(q438, wc438, wc439), by kernel_rfl, by kernel_rfl, by kernel_rfl, ⟨hO438, hEc438, hEc439, trivial⟩⟩⟩
   ·rintro ⟨q438, wc438, wc439⟩ hH
    obtain ⟨hO438, hEc438, hEc439, _⟩ := hH
    refine eff_gh (wc439) (by kernel_rfl) ?_
    exact upon_store (b := rx) (off := 0) (vs := [.bool true]) (by kernel_rfl) (((hB428.drew : Blk wc427.drew rx 4 (#[.bool false])).ext hEc438 (by simp) : Blk wc438 rx 4 (#[.bool false])).ext hEc439 (by simp) : Blk wc439 rx 4 (#[.bool false])) (by simp) ⟨(q438, wc438, wc439), by kernel_rfl, by kernel_rfl, by kernel_rfl, ⟨hO438, hEc438, hEc439, trivial⟩⟩
  rintro ⟨q438, wc438, wc439⟩ a w441 hS hw442 hH
  obtain ⟨hO438, hEc438, hEc439, _⟩ := hH
  replace hw442 : w441 = upd (wc439) (rx) 4 #[.bool true] := hw442.trans (by kernel_rfl)
  have hB443 : Blk w441 rx 4 (#[.bool true]) := by rw [hw442]; exact (((hB428.drew : Blk wc427.drew rx 4 (#[.bool false])).ext hEc438 (by simp) : Blk wc438 rx 4 (#[.bool false])).ext hEc439 (by simp)).upd _ _
  have hE446 : Ext [] w w441 := by rw [hw442]; exact (((hEf.drew).trans0 hEc438).trans0 hEc439).updIn (.inr hnrx) _ _
  have hX447 : Ext [rx] wc427 w441 := by rw [hw442]; exact ((((Ext.refl _ _).drew).trans0 hEc438).trans0 hEc439).updIn (.inl (by simp)) _ _
  have hG448 : True := trivial
  have hG449 : ∀ D ∈ Ds, Dfr w441 D := fun D hD => (hG434 D hD).ext hX447 (by first | (simp; done) | simpa using (hG434 D hD).ne_blk (hrx6.ext hE6f hnrxk))
  have hG450 : True := trivial
  replace hS := hS.kp [(1, vp), (4, (Pv rx)), (5, (Pv b)), (6, (Pv cx)), (9, I6 ↑fr), (10, I6 ↑i), (40, .bool false), (20, .slice zb394 (xs.length - fr) yb394), (21, I6 0), (22, .slice za405 xs.length ya405), (188, .bool false)]
  refine hK437 _ _ ?_
  refine wpIn_ret ?_
  refine retMc Ds (T' := 4) hS Try.results10 (by kernel_rfl) rfl hB443 hG449 hnd fun w99 hE99 => ?_
  exact ⟨rfl, (hE446).trans hE99 (fun D hD => .inr (hDn D hD))⟩

end Go.Proofs.Ytkdbfjomjlhfbaa
