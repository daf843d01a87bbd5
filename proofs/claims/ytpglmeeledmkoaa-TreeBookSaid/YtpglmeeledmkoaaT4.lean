import Derived.Test.YtpglmeeledmkoaaProg
import Derived.Test.YtpglmeeledmkoaaVc
import Derived.Test.YtpglmeeledmkoaaT3
namespace Go.Proofs.Ytpglmeeledmkoaa
open Go.Vc

theorem Back1_any {bx : Nat} {v : Value} {ps : List Nat} {w : World} (hbx : Blk w bx 32 #[v]) (hown : OwnV w 47 1 v ps.length (ps.map pv)) (hlen : ps.length ≤ 1000000000) :
  SeqOk Try.prog 78 [pv bx] encB (bw ps ps.length) (fun x => x = bx ∨ x ∈ ob v) w := by
 rcases hown with ⟨rfl, _, h⟩ | ⟨g, cap, rfl, h⟩
 ·have hps : ps = [] := by simpa using h
  intro l J Jx C hJ hJx hCT
  exact Back1_nil hbx hps l J Jx C hJ hJx (fun b hb h => hCT b hb (.inl h))
 ·intro l J Jx C hJ hJx hCT
  exact Back1_some hbx h hlen l J Jx C hJ hJx (fun b hb h => hCT b hb (h.imp id (fun h => by simp [ob, h])))

theorem Back_sl (bs : Option Addr) (n c : Nat) (w : World) :
  Calls Try.prog 56 #[.slice bs n c] w fun e w' => e = .returned (.func (.func 78) #[] #[pv w.heap.size]) ∧ w' = w.alloc (.cells #[.slice bs n c] 32) := by
 refine calls_body 4 [(0, .slice bs n c)] Try.func56 rfl (by kernel_rfl) (by kernel_rfl) (by kernel_rfl) fun a hS => ?_
 refine sq fun K1 hK1 => ?_
 refine rgn 2 ?_
 refine eff_box wide_wide (r := 1) (cs := #[.slice bs n c]) (T := 32) (d := (some 1)) hS (by kernel_rfl) fun a w2 hw3 hS => ?_
 refine sg wide_wide [.p] [] [(0, .slice bs n c), (1, (Pv w.heap.size)), (2, .nilFunc)] 2 0 hS .nil fun a hS => ?_
 refine seg_end ?_
 refine hK1 _ _ ?_
 refine sq fun K5 hK5 => ?_
 refine rgn 2 ?_
 refine sg wide_wide [.p, .p] [] [(0, .slice bs n c), (1, (Pv w.heap.size)), (2, .func (.func 78) #[] #[(Pv w.heap.size)])] 2 0 hS .nil fun a hS => ?_
 refine seg_end ?_
 refine hK5 _ _ ?_
 refine wpIn_ret ?_
 refine ret1 hS Try.results56 rfl ?_
 exact ⟨rfl, hw3⟩

theorem Back_any {w0 : World} {e : TypeId} {size n : Nat} {v : Value} {xs : List Value} (hown : OwnV w0 e size v n xs) (w : World) :
  Calls Try.prog 56 #[v] w fun e w' => e = .returned (.func (.func 78) #[] #[pv w.heap.size]) ∧ w' = w.alloc (.cells #[v] 32) := by
 rcases hown with ⟨rfl, _, _⟩ | ⟨g, cap, rfl, _⟩
 ·exact Back_sl _ _ _ w
 ·exact Back_sl _ _ _ w

def encW (q : Int × Tr) : List Value := [I6 q.1, q.2.ptr]

/-- what holds when the walk comes to its label -/
structure WI (J : List (Int × Tr) → List Nat → World → Prop) (C0 : List Nat) (w0 : World) (t : Tr) (sb : Nat) (sp : Nat) (pre : List (Int × Tr)) (p : Int) (stk : List Tr) (Ds C : List Nat) (g cap : Nat) (W : World) : Prop where
 xs : walk t 0 = pre ++ walks stk p
 j : J pre C W
 lie : Lie W C
 fr : Fresh w0.heap.size C0 C
 ext : Ext C0 w0 W
 hsp : Blk W sp 109 #[.slice (some ⟨g, 0, none⟩) stk.length cap]
 own : OwnR W 47 1 g cap stk.length (stk.reverse.map Tr.ptr)
 sub : ∀ s ∈ stk, s.Ok w0 sb ∧ ∀ x, s.Foot x → t.Foot x
 sum : sumT stk ≤ t.tt
 pos : 0 ≤ p ∧ p + sumW stk ≤ t.wd
 nd : Ds.Nodup
 dd : ∀ D ∈ Ds, Dfr W D ∧ w0.heap.size ≤ D ∧ D ∉ C
 sn : w0.heap.size ≤ sp ∧ sp ∉ C
 gn : w0.heap.size ≤ g ∧ g ∉ C

theorem fresh_not {N : Nat} {C C' : List Nat} (h : Fresh N C C') {b : Nat} (h1 : b ∉ C) (h2 : b < N) : b ∉ C' := fun hm => by
 rcases h b hm with h3 | h3
 ·exact h1 h3
 ·omega

theorem rev_ptr (l : List Tr) : (l.map Tr.b).reverse.map pv = l.reverse.map Tr.ptr := by
 rw [← List.map_reverse, List.map_map]; rfl

theorem Oks.sumW_pos {w : World} {sb : Nat} : ∀ {l : List Tr}, Oks w sb l → 0 ≤ sumW l
 | [], _ => by simp [sumW]
 | t :: l, h => by
  have h1 := (Tr.Ok.tt_pos t h.1).2.1
  have h2 := Oks.sumW_pos h.2
  simp only [sumW]
  omega

set_option maxHeartbeats 1000000 in
theorem Walk1_any {bx sb : Nat} {t : Tr} {w : World} (hbx : Blk w bx 47 #[pv t.b]) (ht : t.Ok w sb) : SeqOk Try.prog 55 [pv bx] encW (walk t 0) (fun x => x = bx ∨ t.Foot x) w := by
 intro l J Jx C hJ hJx hCT hCl h0 hY
 have htt := Tr.Ok.tt_pos t ht
 have hmax := ht.nums.max
 show Calls Try.prog 55 #[.func (.yield l) #[] #[], (Pv bx)] w fun e w' => (∃ v, e = .returned v) ∧ ∃ C', Ext C w w' ∧ Fresh w.heap.size C C' ∧ Lie w' C' ∧ (J (walk t 0) C' w' ∨ ∃ pre, pre <+: walk t 0 ∧ Jx pre C' w')
 refine calls_bodyM 51 [(0, .func (.yield l) #[] #[]), (1, (Pv bx))] Try.func55 rfl (by kernel_rfl) (by kernel_rfl) (by kernel_rfl) fun a hS => ?_
 have hpass : ∀ (sp : Nat), True := fun _ => trivial
 refine scope_ghost 0 (fun (q : Nat × List (Int × Tr) × Int × List Tr × List Nat × List Nat × Nat × Nat) a' w' => St 51 (q.2.2.2.2.1.map dmark) [(0, .func (.yield l) #[] #[]), (1, (Pv bx)), (3, I6 q.2.2.1), (4, (Pv q.1))] a' ∧ WI J C w t sb q.1 q.2.1 q.2.2.1 q.2.2.2.1 q.2.2.2.2.1 q.2.2.2.2.2.1 q.2.2.2.2.2.2.1 q.2.2.2.2.2.2.2 w') (fun q => (walks q.2.2.2.1 q.2.2.1).length) rfl rfl ?_ ?_
 ·rintro ⟨sp, pre, p, stk, Ds, C1, g, cap⟩ a w1 ⟨hS, hI⟩
  simp only at hS hI
  have hsp := hI.hsp
  refine sq fun K1 hK1 => ?_
  refine sq fun K2 hK2 => ?_
  refine rgn 3 ?_
  refine sg wide_wide [.ld (.slice (some ⟨g, 0, none⟩) stk.length cap), .p, .p] [_] [(0, .func (.yield l) #[] #[]), (1, (Pv bx)), (3, I6 p), (4, (Pv sp)), (12, .bool ((↑stk.length : Int) == 0))] 3 0 hS (.cons (hsp.cell 0 rfl) .nil) fun a hS => ?_
  refine seg_end ?_
  refine hK2 _ _ ?_
  refine cond_b hS rfl (fun hb3 => ?_) (fun hb3 => ?_)
  ·
   replace hb3 := test_eq_t hb3
   obtain rfl : stk = [] := List.eq_nil_of_length_eq_zero (by omega)
   refine wpIn_ret ?_
   refine then_ret ?_
   refine jumpX_ret ?_
   refine retM0 Ds hS Try.results55 (fun D hD => (hI.dd D hD).1) hI.nd fun w9 hE9 => ?_
   refine ⟨⟨_, rfl⟩, C1, hI.ext.trans hE9 (fun b hb => .inr (hI.dd b hb).2.1), hI.fr, hI.lie.ext hE9, .inl ?_⟩
   have hx := hI.xs
   simp only [walks, List.append_nil] at hx
   rw [hx]
   exact hJ _ _ _ _ _ hI.j hE9 (fun b hb => (hI.dd b hb).2)
  ·
   replace hb3 := test_eq_f hb3
   obtain ⟨t1, ts, rfl⟩ : ∃ t1 ts, stk = t1 :: ts := by
    cases stk with
    | nil => exact absurd rfl hb3
    | cons t1 ts => exact ⟨t1, ts, rfl⟩
   replace hsp : Blk w1 sp 109 #[.slice (some ⟨g, 0, none⟩) (ts.length + 1) cap] := hI.hsp
   have hcap := hI.own.le
   simp only [List.length_cons] at hcap
   obtain ⟨hok1, hsub1⟩ := hI.sub t1 (by simp)
   have hoks : Oks w sb (t1 :: ts) := oks_iff.2 fun s hs => (hI.sub s hs).1
   have hlen := Oks.len hoks
   have hsum := hI.sum
   simp only [List.length_cons] at hlen
   have hown := hI.own
   have htp1 := Tr.Ok.tt_pos t1 hok1
   refine wpIn_skip ?_
   refine hK1 _ _ ?_
   refine sq fun K4 hK4 => ?_
   refine rgn 7 ?_
   refine sg wide_wide [.ld (.slice (some ⟨g, 0, none⟩) (ts.length + 1) cap), .ld (.slice (some ⟨g, 0, none⟩) (ts.length + 1) cap), .p, .as (I6 ↑ts.length), .run ((Po g (0 + ts.length * 1))), .ld ((Pv t1.b)), .p] [_, _, Value.int .i64 (IntKind.i64.wrap (((ts.length + 1 : Nat) : Int) - 1)) = I6 ↑ts.length, Ru Try.prog (vS (Instr.indexAt 109 (.slice (some ⟨g, 0, none⟩) (ts.length + 1) cap) (I6 ↑ts.length))) ((Po g (0 + ts.length * 1))) w1, w1.cell? ⟨g, 0 + ts.length * 1, none⟩ = some ((Pv t1.b))] [(0, .func (.yield l) #[] #[]), (1, (Pv bx)), (3, I6 p), (4, (Pv sp)), (5, (Pv t1.b))] 7 0 hS (.cons (hsp.cell 0 rfl) (.cons (hsp.cell 0 rfl) (.cons ((by rw [show (((ts.length + 1 : Nat) : Int) - 1 : Int) = ↑ts.length from by omega]; exact as_i64 (by omega))) (.cons (ix_slice (E := 47) (size := 1) (j := ts.length) (by kernel_rfl) (by kernel_rfl) rfl (by omega)) (.cons (by rw [show 0 + ts.length * 1 = ts.length by omega]; exact hown.cellAt ts.length (v := t1.ptr) (by simp)) .nil))))) fun a hS => ?_
   refine seg_end ?_
   refine hK4 _ _ ?_
   refine sq fun K5 hK5 => ?_
   refine rgn 6 ?_
   refine sg wide_wide [.ld (.slice (some ⟨g, 0, none⟩) (ts.length + 1) cap), .ld (.slice (some ⟨g, 0, none⟩) (ts.length + 1) cap), .p, .as (I6 ↑ts.length), .run (.slice (some ⟨g, 0, none⟩) ts.length cap)] [_, _, Value.int .i64 (IntKind.i64.wrap (((ts.length + 1 : Nat) : Int) - 1)) = I6 ↑ts.length, Ru Try.prog (vS (Instr.sliceAt 109 (.slice (some ⟨g, 0, none⟩) (ts.length + 1) cap) none (some (I6 ↑ts.length)) none)) (.slice (some ⟨g, 0, none⟩) ts.length cap) w1] [(0, .func (.yield l) #[] #[]), (1, (Pv bx)), (3, I6 p), (4, (Pv sp)), (5, (Pv t1.b)), (23, .slice (some ⟨g, 0, none⟩) ts.length cap)] 5 1 hS (.cons (hsp.cell 0 rfl) (.cons (hsp.cell 0 rfl) (.cons ((by rw [show (((ts.length + 1 : Nat) : Int) - 1 : Int) = ↑ts.length from by omega]; exact as_i64 (by omega))) (.cons (sl_h (E := 47) (size := 1) (h := ts.length) (by kernel_rfl) (by kernel_rfl) rfl (by omega)) .nil)))) fun a hS => ?_
   refine eff_store wide_wide (r := 0) (b := sp) (off := 0) (vs := [.slice (some ⟨g, 0, none⟩) ts.length cap]) hS (by kernel_rfl) hsp (by simp) fun a w6 hw7 hS => ?_
   have hB8 : Blk w6 sp 109 (#[.slice (some ⟨g, 0, none⟩) ts.length cap]) := by rw [hw7]; exact hsp.upd _ _
   have hX9 : Ext [sp] w1 w6 := by rw [hw7]; exact (Ext.refl _ _).updIn (.inl (by simp)) _ _
   have hG10 : OwnR w6 47 1 g cap (t1 :: ts).length ((t1 :: ts).reverse.map Tr.ptr) := hown.ext hX9 (by simpa using OwnR.ne_type hown hsp (by decide))
   refine seg_end ?_
   refine hK5 _ _ ?_
   refine sq fun K11 hK11 => ?_
   refine sq fun K12 hK12 => ?_
   refine rgn 5 ?_
   refine sg wide_wide [.p, .p, .p] [] [(0, .func (.yield l) #[] #[]), (1, (Pv bx)), (3, I6 p), (4, (Pv sp)), (5, (Pv t1.b)), (24, .func (.yield l) #[] #[]), (25, I6 p), (26, (Pv t1.b))] 3 2 hS .nil fun a hS => ?_
   have hE12 : Ext [sp] w1 w6 := by rw [hw7]; exact (Ext.refl _ _).updIn (.inl (by simp)) _ _
   have hj2 : J pre C1 w6 := hJ _ _ _ _ _ hI.j hE12 (fun b hb => by simp at hb; subst hb; exact hI.sn)
   have hstep := walks_step hok1 ts p
   refine eff_yield wide_wide (r := 1) (l := l) (vs := encW (p, t1)) (cap := #[]) (d := (some 27)) hS (by kernel_rfl) (hY pre (p, t1) _ C1 w6 (by rw [hI.xs, hstep]) hj2 (hI.lie.ext hE12) hI.fr) fun b w3 a hR hS => ?_
   obtain ⟨C2, hE23, hf2, hl2, hx2⟩ := hR
   have hsz12 : w1.heap.size ≤ w6.heap.size := hE12.size
   have hlt2 : ∀ b, b ∉ C1 → b < w6.heap.size → b ∉ C2 := fun b h1 h2 => fresh_not hf2 h1 h2
   have hdd3 : ∀ D ∈ Ds, Dfr w3 D ∧ w.heap.size ≤ D ∧ D ∉ C2 := fun D hD => by
    obtain ⟨h1, h2, h3⟩ := hI.dd D hD
    have h4 := h1.ext hE12 (by simpa using h1.ne_blk hI.hsp)
    exact ⟨h4.ext hE23 h3, h2, hlt2 D h3 h4.lt⟩
   have hE13 : Ext C w w3 := (hI.ext.trans hE12 (fun b hb => by simp at hb; subst hb; exact .inr hI.sn.1)).fresh hE23 hI.fr
   have hfr3 : Fresh w.heap.size C C2 := hI.fr.trans hf2 (Nat.le_trans hI.ext.size hsz12)
   have hsp3 : Blk w3 sp 109 #[.slice (some ⟨g, 0, none⟩) ts.length cap] := hB8.ext hE23 hI.sn.2
   have hown3 := OwnR.ext hG10 hE23 hI.gn.2
   have hn3 : sp ∉ C2 ∧ g ∉ C2 := ⟨hlt2 _ hI.sn.2 hB8.lt, hlt2 _ hI.gn.2 hG10.lt⟩
   refine sg wide_wide [.p] [] [(0, .func (.yield l) #[] #[]), (1, (Pv bx)), (3, I6 p), (4, (Pv sp)), (5, (Pv t1.b)), (28, .bool (!b))] 5 0 hS .nil fun a hS => ?_
   refine seg_end ?_
   refine hK12 _ _ ?_
   refine cond_b hS rfl (fun hb13 => ?_) (fun hb13 => ?_)
   ·
    replace hb13 := hb13
    obtain rfl : b = false := by simpa using hb13
    refine wpIn_ret ?_
    refine then_ret ?_
    refine jumpX_ret ?_
    refine retM0 Ds hS Try.results55 (fun D hD => (hdd3 D hD).1) hI.nd fun w9 hE9 => ?_
    refine ⟨⟨_, rfl⟩, C2, hE13.trans hE9 (fun b hb => .inr (hdd3 b hb).2.1), hfr3, hl2.ext hE9, .inr ⟨_, ⟨_, by rw [hI.xs, hstep, List.append_assoc]; rfl⟩, hJx _ _ _ _ _ hx2 hE9 (fun b hb => (hdd3 b hb).2)⟩⟩
   ·
    replace hb13 := hb13
    obtain rfl : b = true := by simpa using hb13
    have hok3 : t1.Ok w3 sb := hok1.ext hE13 t1 (fun x hx hf => hCT x hx (.inr (hsub1 x hf)))
    have hN : Blk w3 t1.b 106 #[(Pv sb), I6 t1.num, I6 t1.kd, I6 t1.nn, I6 t1.lk, I6 t1.ls, I6 t1.ll, I6 t1.lr, t1.ks, I6 t1.wd, I6 t1.lf, I6 t1.tt, .bool t1.fl] := hok3.blk
    refine wpIn_skip ?_
    refine hK11 _ _ ?_
    refine sq fun K14 hK14 => ?_
    refine sq fun K15 hK15 => ?_
    refine rgn 5 ?_
    refine sg wide_wide [.p, .p, .p, .ld (I6 t1.kd), .p] [_] [(0, .func (.yield l) #[] #[]), (1, (Pv bx)), (3, I6 p), (4, (Pv sp)), (5, (Pv t1.b)), (33, .bool ((t1.kd : Int) == 1))] 5 0 hS (.cons (hN.cell 2 rfl) .nil) fun a hS => ?_
    refine seg_end ?_
    refine hK15 _ _ ?_
    refine cond_b hS rfl (fun hb16 => ?_) (fun hb16 => ?_)
    ·
     replace hb16 := test_eq_t hb16
     have hkd := hb16
     have hpos := hI.pos
     have htw : sumW (t1 :: ts) = t1.wd + sumW ts := rfl
     have hsw := Oks.sumW_pos hoks.2
     refine rgn 7 ?_
     refine sg wide_wide [.p, .p, .p, .p, .ld (I6 t1.wd), .as (I6 (p + t1.wd)), .p] [_, Value.int .i64 (IntKind.i64.wrap (p + t1.wd)) = I6 (p + t1.wd)] [(0, .func (.yield l) #[] #[]), (1, (Pv bx)), (3, I6 (p + t1.wd)), (4, (Pv sp)), (5, (Pv t1.b))] 7 0 hS (.cons (hN.cell 9 rfl) (.cons (as_i64 (by omega)) .nil)) fun a hS => ?_
     refine seg_end ?_
     refine hK14 _ _ ?_
     refine sq fun K17 hK17 => ?_
     refine sq fun K18 hK18 => ?_
     have hp' : p + t1.wd = if t1.kd = 1 then p + t1.wd else p := by rw [if_pos hkd]
     rw [hp'] at hS
     generalize hpq : (if t1.kd = 1 then p + t1.wd else p) = p' at hS hstep
     refine rgn 5 ?_
     refine sg wide_wide [.p, .p, .p, .ld (t1.ks)] [_] [(0, .func (.yield l) #[] #[]), (1, (Pv bx)), (3, I6 p'), (4, (Pv sp)), (5, (Pv t1.b)), (43, t1.ks)] 4 1 hS (.cons (hN.cell 8 rfl) .nil) fun a hS => ?_
     have harr := hok3.arr
     refine eff_call wide_wide (r := 0) (f := 56) (vs := [t1.ks]) (cap := #[]) (d := (some 44)) hS (by kernel_rfl) Try.call56 #[t1.ks] (by kernel_rfl) (Back_any harr w3) ?_
     rintro _ w4 ⟨rfl, hw4⟩
     refine ⟨_, rfl, fun a hS => ?_⟩
     have hE34 : Ext [] w3 w4 := by rw [hw4]; exact (Ext.refl _ _).alloc _
     have hbk : Blk w4 w3.heap.size 32 #[t1.ks] := by rw [hw4]; exact Blk.new _ _ _
     have hsz4 : w4.heap.size = w3.heap.size + 1 := by rw [hw4]; simp
     have hown4 := harr.ext hE34 (by simp)
     have hsp4 := hsp3.ext hE34 (by simp)
     have hownS4 := hown3.ext hE34 (by simp)
     have hlie4 := hl2.ext hE34
     have hkl : t1.kids.length ≤ 4194304 := by
      have h1 := Oks.len hok1.oks
      by_cases hk : t1.kd = 1
      ·rw [(hok1.nums.leaf hk).1]; simp
      ·have h2 := (hok1.nums.inner hk).2.2.2.2.2.2.2.2.2.1
       have h3 := hok1.nums.max
       omega
     have hmp : (t1.kids.map Tr.b).length = t1.kids.length := by simp
     have hmv : (t1.kids.map Tr.b).map pv = t1.kids.map Tr.ptr := by rw [List.map_map]; rfl
     refine seg_end ?_
     refine hK18 _ _ ?_
     refine wpIn_block ?_
     replace hS := hS.keepTo [0, 1, 3, 4, 44] (m' := [(0, .func (.yield l) #[] #[]), (1, (Pv bx)), (3, I6 p'), (4, (Pv sp)), (44, .func (.func 78) #[] #[(Pv w3.heap.size)])]) (by kernel_rfl)
     refine range_out (gf := 78) (lb := #[pv w3.heap.size]) (enc := encB) (xs := bw (t1.kids.map Tr.b) (t1.kids.map Tr.b).length) (T := fun x => x = w3.heap.size ∨ x ∈ ob t1.ks)
      (fun pre2 Cx W => ∃ g' cap', Cx = [sp, g'] ∧ Blk W sp 109 #[.slice (some ⟨g', 0, none⟩) (ts.length + pre2.length) cap'] ∧ OwnR W 47 1 g' cap' (ts.length + pre2.length) (ts.reverse.map Tr.ptr ++ pre2.map (fun q => pv q.2)) ∧ (g' = g ∨ w4.heap.size ≤ g'))
      (fun _ _ _ _ => False) [sp, g] (fun q => [(4, (Pv sp)), (7, pv q.2)]) hS rfl Try.call78 ?_ ?_ ?_ ?_ (fun _ => rfl) rfl ?_ ?_ ?_ ?_ ?_ ?_ ?_
     ·intro W hEW hsW
      exact Back1_any (hbk.ext hEW (by simp)) (by rw [hmp, hmv]; exact hown4.ext hEW (by simp)) (by rw [hmp]; omega)
     ·rintro b (rfl | hb)
      ·omega
      ·exact hown4.lie b hb
     ·intro b hb hT
      have hb : b = sp ∨ b = g := by simpa using hb
      rcases hT with hT | hT
      ·rcases hb with rfl | rfl
       ·have := hsp3.lt; omega
       ·have := hown3.lt; omega
      ·have hf : t.Foot b := hsub1 b ((Tr.foot_iff t1 b).2 (.inr (.inl hT)))
       have := ht.foot_lt hf
       rcases hb with rfl | rfl
       ·have := hI.sn.1; omega
       ·have := hI.gn.1; omega
     ·intro b hb
      have hb : b = sp ∨ b = g := by simpa using hb
      rcases hb with rfl | rfl
      ·exact hsp4.lt
      ·exact hownS4.lt
     ·rintro s Cx M W W' ⟨g', cap', rfl, h1, h2, h3⟩ hE hM
      exact ⟨g', cap', rfl, h1.ext hE (fun hm => (hM _ hm).2 (by simp)), h2.ext hE (fun hm => (hM _ hm).2 (by simp)), h3⟩
     ·intro c s Cx M W W' h; exact h.elim
     ·refine ⟨g, cap, rfl, by simpa using hsp4, ?_, .inl rfl⟩
      have := hownS4.take (k := ts.length) (by simp)
      simpa using this
     ·intro l2 x a' W K hS hK
      refine rgn 1 ?_
      refine sg (wide_wide.inRound l2) [.p] [] [(4, (Pv sp)), (46, pv x.2), (7, pv x.2)] 1 0 hS .nil fun a hS => ?_
      refine seg_end ?_
      exact hK _ (hS.keepTo [4, 7] (by kernel_rfl))
     ·rintro l2 pre2 x post Cx W a hxs2 ⟨g', cap', rfl, hspW, hownW, hgW⟩ hlieW hfrW hnl hrec hEW hS
      have hpl : pre2.length ≤ t1.kids.length := by
       have := congrArg List.length hxs2
       rw [bw_len, hmp] at this
       simp at this
       omega
      have hgs : g' < W.heap.size := hownW.lt
      replace hS : St 51 [] [(4, (Pv sp)), (7, (Pv x.2))] a := hS
      refine wpIn_block ?_
      refine rgn 5 ?_
      refine sg (wide_wide.inRound l2) [.ld (.slice (some ⟨g', 0, none⟩) (ts.length + pre2.length) cap'), .p] [_] [(4, (Pv sp)), (7, (Pv x.2)), (47, .slice (some ⟨g', 0, none⟩) (ts.length + pre2.length) cap'), (48, (Pv x.2))] 2 3 hS (.cons (hspW.cell 0 rfl) .nil) fun a hS => ?_
      refine eff_new (wide_wide.inRound l2) (r := 2) (cs := #[(Pv x.2)]) (T := 47) (v := Value.slice (some ⟨W.heap.size, 0, none⟩) 1 1) (d := (some 49)) hS (by kernel_rfl) fun a w19 hw20 hS => ?_
      have hB22 := Blk.at' hw20 (hspW.alloc _)
      have hX23 : Ext [] W w19 := by rw [hw20]; exact (Ext.refl _ _).alloc _
      have hG24 : OwnR w19 47 1 g' cap' (ts.length + pre2.length) (ts.reverse.map Tr.ptr ++ pre2.map (fun q => pv q.2)) := hownW.ext hX23 (by simp)
      have hB25 : Blk w19 (W.heap.size) 47 #[(Pv x.2)] := by rw [hw20]; exact Blk.new _ _ _
      have hEa : Ext [] W w19 := by rw [hw20]; exact (Ext.refl _ _).alloc _
      refine eff_append (wide_wide.inRound l2) (r := 1) (d := (some 50)) (t := 109) (ty := 109) (e := 47) (size := 1) (bytes := 8) (len := ts.length + pre2.length) (b := W.heap.size) (off := 0) (k := 1) (c := 1) (z := #[.pointer none]) (v := .slice (some ⟨g', 0, none⟩) (ts.length + pre2.length) cap') [pv x.2] hS (by kernel_rfl) (by kernel_rfl) (by kernel_rfl) (by kernel_rfl) (by kernel_rfl) hG24.v (by simp) ?_ rfl (by omega) (by omega) (by kernel_rfl) fun g2 cap2 a w6 hO6 hE6 hF6 hS => ?_
      ·intro j u hu
       have : j = 0 := by
        have := (List.getElem?_eq_some_iff.1 hu).1
        simp at this; omega
       subst this
       simp at hu; subst hu
       exact hB25.cell 0 rfl
      replace hE6 : Ext [g'] w19 w6 := hE6
      have hsp6 := hB22.ext hE6 (by simpa using (OwnR.ne_type hG24 hB22 (by decide)).symm)
      refine eff_store (wide_wide.inRound l2) (r := 0) (b := sp) (off := 0) (vs := [.slice (some ⟨g2, 0, none⟩) (ts.length + pre2.length + 1) cap2]) hS (by kernel_rfl) hsp6 (by simp) fun a w26 hw27 hS => ?_
      have hB28 : Blk w26 sp 109 (#[.slice (some ⟨g2, 0, none⟩) (ts.length + pre2.length + 1) cap2]) := by rw [hw27]; exact hsp6.upd _ _
      refine seg_end ?_
      refine inBlock_normal ?_
      have hE67 : Ext [sp] w6 w26 := by rw [hw27]; exact (Ext.refl _ _).updIn (.inl (by simp)) _ _
      have hg2 : g2 = g' ∨ W.heap.size ≤ g2 := by
       rcases hF6 g2 (by simp) with h | h
       ·exact .inl (by simpa [ob] using h)
       ·exact .inr (Nat.le_trans hEa.size h)
      have hO7 := hO6.ext hE67 (by simpa using OwnR.ne_type hO6 hsp6 (by decide))
      refine left_normal (C' := [sp, g2]) ?_ ?_ ?_ ⟨g2, cap2, rfl, by simpa [Nat.add_assoc] using hB28, by simpa [Nat.add_assoc] using hO7, ?_⟩
      ·exact ((hEa.mono (by simp)).trans hE6 (by simp)).trans hE67 (by simp)
      ·intro b hb
       have hb : b = sp ∨ b = g2 := by simpa using hb
       rcases hb with rfl | rfl
       ·exact .inl (by simp)
       ·exact hg2.imp (fun h => by simp [h]) id
      ·intro b hb
       have hb : b = sp ∨ b = g2 := by simpa using hb
       rcases hb with rfl | rfl
       ·exact hB28.lt
       ·exact hO7.lt
      ·rcases hg2 with rfl | h
       ·exact hgW
       ·exact .inr (Nat.le_trans hEW.size h)
     ·rintro Cx w7 a hE47 hfr7 hlie7 hD7 ⟨g', cap', rfl, hsp7, hown7, hg7⟩ hS
      replace hS : St 51 ((w4.heap.size :: Ds).map dmark) [(0, .func (.yield l) #[] #[]), (1, (Pv bx)), (3, I6 p'), (4, (Pv sp))] a := hS.keepTo [0, 1, 3, 4] (by kernel_rfl)
      refine inBlock_normal ?_
      refine hK17 _ _ ?_
      refine wpIn_goto ?_
      refine jumpX_goto ?_
      have hE37 : Ext [sp, g] w3 w7 := (hE34.of0).trans hE47 (fun b hb => .inl hb)
      have hnM : ∀ b ∈ [sp, g], w.heap.size ≤ b ∧ b ∉ C2 := fun b hb => by
       have hb : b = sp ∨ b = g := by simpa using hb
       rcases hb with rfl | rfl
       ·exact ⟨hI.sn.1, hn3.1⟩
       ·exact ⟨hI.gn.1, hn3.2⟩
      have hkids : (bw (t1.kids.map Tr.b) (t1.kids.map Tr.b).length).map (fun q => pv q.2) = t1.kids.reverse.map Tr.ptr := by
       have h := bw_snd (t1.kids.map Tr.b) _ (Nat.le_refl _)
       have h2 : (bw (t1.kids.map Tr.b) (t1.kids.map Tr.b).length).map (fun q => pv q.2) = ((bw (t1.kids.map Tr.b) (t1.kids.map Tr.b).length).map (·.2)).map pv := by rw [List.map_map]; rfl
       rw [h2, h, List.take_length, rev_ptr]
      have hsumw : sumW (t1.kids ++ ts) = sumW t1.kids + sumW ts := sumW_append _ _
      have hsumt : sumT (t1.kids ++ ts) = sumT t1.kids + sumT ts := sumT_append _ _
      have hpos := hI.pos
      have htw : sumW (t1 :: ts) = t1.wd + sumW ts := rfl
      have htt2 : sumT (t1 :: ts) = t1.tt + sumT ts := rfl
      have hlen7 : ts.length + (bw (t1.kids.map Tr.b) (t1.kids.map Tr.b).length).length = (t1.kids ++ ts).length := by rw [bw_len, hmp, List.length_append]; omega
      refine ⟨(sp, pre ++ [(p, t1)], p', t1.kids ++ ts, w4.heap.size :: Ds, C2, g', cap'), ⟨hS, ?_⟩, ?_⟩
      ·refine ⟨by rw [hI.xs, hstep, List.append_assoc]; rfl, hJ _ _ _ _ _ hx2 hE37 hnM, hl2.ext hE37, hfr3, hE13.trans hE37 (fun b hb => .inr (hnM b hb).1), by rw [← hlen7]; exact hsp7, ?_, ?_, ?_, ?_, ?_, ?_, ⟨hI.sn.1, hn3.1⟩, ?_⟩
       ·rw [← hlen7]
        rw [hkids] at hown7
        simpa using hown7
       ·intro s hs
        rcases List.mem_append.1 hs with h | h
        ·exact ⟨hok1.oks.at h, fun x hx => hsub1 x ((Tr.foot_iff t1 x).2 (.inr (.inr (foots_iff.2 ⟨s, h, hx⟩))))⟩
        ·exact hI.sub s (by simp [h])
       ·rw [hsumt]
        by_cases hk : t1.kd = 1
        ·have h1 := (hok1.nums.leaf hk).1
         rw [h1]; simp only [sumT]; omega
        ·have h1 := (hok1.nums.inner hk).2.2.2.2.2.2.2.2.2.1
         omega
       ·show 0 ≤ p' ∧ p' + sumW (t1.kids ++ ts) ≤ t.wd
        rw [hsumw, ← hpq]
        by_cases hk : t1.kd = 1
        ·have h1 := (hok1.nums.leaf hk).1
         rw [if_pos hk, h1]; simp only [sumW]; omega
        ·have h1 := (hok1.nums.inner hk).2.2.2.2.2.2.2.1
         rw [if_neg hk]; omega
       ·refine List.nodup_cons.2 ⟨fun h => ?_, hI.nd⟩
        have := (hdd3 _ h).1.lt
        omega
       ·intro D hD
        rcases List.mem_cons.1 hD with rfl | hD
        ·refine ⟨hD7, Nat.le_trans hE13.size (by omega), fun h => ?_⟩
         have := hl2 _ h
         omega
        ·obtain ⟨h1, h2, h3⟩ := hdd3 D hD
         exact ⟨h1.ext hE37 (fun hm => by
          have hm : D = sp ∨ D = g := by simpa using hm
          rcases hm with rfl | rfl
          ·exact h1.ne_blk hsp3 rfl
          ·obtain ⟨⟨cur, hc, _⟩, _⟩ := hown3; exact h1.ne_blk hc rfl), h2, h3⟩
       ·show w.heap.size ≤ g' ∧ g' ∉ C2
        have hsz3 := hE13.size
        rcases hg7 with rfl | h
        ·exact ⟨hI.gn.1, hn3.2⟩
        ·exact ⟨Nat.le_trans hE13.size (by omega), fun hm => by have := hl2 _ hm; omega⟩
      ·simp only
       rw [hstep]
       simp
     ·intro c pre2 Cx W a _ _ _ _ _ h; exact h.elim
    ·
     replace hb16 := test_eq_f hb16
     have hkd := hb16
     have hp' : p = if t1.kd = 1 then p + t1.wd else p := by rw [if_neg hkd]
     rw [hp'] at hS
     generalize hpq : (if t1.kd = 1 then p + t1.wd else p) = p' at hS hstep
     refine wpIn_skip ?_
     refine hK14 _ _ ?_
     refine sq fun K29 hK29 => ?_
     refine sq fun K30 hK30 => ?_
     refine rgn 5 ?_
     refine sg wide_wide [.p, .p, .p, .ld (t1.ks)] [_] [(0, .func (.yield l) #[] #[]), (1, (Pv bx)), (3, I6 p'), (4, (Pv sp)), (5, (Pv t1.b)), (43, t1.ks)] 4 1 hS (.cons (hN.cell 8 rfl) .nil) fun a hS => ?_
     have harr := hok3.arr
     refine eff_call wide_wide (r := 0) (f := 56) (vs := [t1.ks]) (cap := #[]) (d := (some 44)) hS (by kernel_rfl) Try.call56 #[t1.ks] (by kernel_rfl) (Back_any harr w3) ?_
     rintro _ w4 ⟨rfl, hw4⟩
     refine ⟨_, rfl, fun a hS => ?_⟩
     have hE34 : Ext [] w3 w4 := by rw [hw4]; exact (Ext.refl _ _).alloc _
     have hbk : Blk w4 w3.heap.size 32 #[t1.ks] := by rw [hw4]; exact Blk.new _ _ _
     have hsz4 : w4.heap.size = w3.heap.size + 1 := by rw [hw4]; simp
     have hown4 := harr.ext hE34 (by simp)
     have hsp4 := hsp3.ext hE34 (by simp)
     have hownS4 := hown3.ext hE34 (by simp)
     have hlie4 := hl2.ext hE34
     have hkl : t1.kids.length ≤ 4194304 := by
      have h1 := Oks.len hok1.oks
      by_cases hk : t1.kd = 1
      ·rw [(hok1.nums.leaf hk).1]; simp
      ·have h2 := (hok1.nums.inner hk).2.2.2.2.2.2.2.2.2.1
       have h3 := hok1.nums.max
       omega
     have hmp : (t1.kids.map Tr.b).length = t1.kids.length := by simp
     have hmv : (t1.kids.map Tr.b).map pv = t1.kids.map Tr.ptr := by rw [List.map_map]; rfl
     refine seg_end ?_
     refine hK30 _ _ ?_
     refine wpIn_block ?_
     replace hS := hS.keepTo [0, 1, 3, 4, 44] (m' := [(0, .func (.yield l) #[] #[]), (1, (Pv bx)), (3, I6 p'), (4, (Pv sp)), (44, .func (.func 78) #[] #[(Pv w3.heap.size)])]) (by kernel_rfl)
     refine range_out (gf := 78) (lb := #[pv w3.heap.size]) (enc := encB) (xs := bw (t1.kids.map Tr.b) (t1.kids.map Tr.b).length) (T := fun x => x = w3.heap.size ∨ x ∈ ob t1.ks)
      (fun pre2 Cx W => ∃ g' cap', Cx = [sp, g'] ∧ Blk W sp 109 #[.slice (some ⟨g', 0, none⟩) (ts.length + pre2.length) cap'] ∧ OwnR W 47 1 g' cap' (ts.length + pre2.length) (ts.reverse.map Tr.ptr ++ pre2.map (fun q => pv q.2)) ∧ (g' = g ∨ w4.heap.size ≤ g'))
      (fun _ _ _ _ => False) [sp, g] (fun q => [(4, (Pv sp)), (7, pv q.2)]) hS rfl Try.call78 ?_ ?_ ?_ ?_ (fun _ => rfl) rfl ?_ ?_ ?_ ?_ ?_ ?_ ?_
     ·intro W hEW hsW
      exact Back1_any (hbk.ext hEW (by simp)) (by rw [hmp, hmv]; exact hown4.ext hEW (by simp)) (by rw [hmp]; omega)
     ·rintro b (rfl | hb)
      ·omega
      ·exact hown4.lie b hb
     ·intro b hb hT
      have hb : b = sp ∨ b = g := by simpa using hb
      rcases hT with hT | hT
      ·rcases hb with rfl | rfl
       ·have := hsp3.lt; omega
       ·have := hown3.lt; omega
      ·have hf : t.Foot b := hsub1 b ((Tr.foot_iff t1 b).2 (.inr (.inl hT)))
       have := ht.foot_lt hf
       rcases hb with rfl | rfl
       ·have := hI.sn.1; omega
       ·have := hI.gn.1; omega
     ·intro b hb
      have hb : b = sp ∨ b = g := by simpa using hb
      rcases hb with rfl | rfl
      ·exact hsp4.lt
      ·exact hownS4.lt
     ·rintro s Cx M W W' ⟨g', cap', rfl, h1, h2, h3⟩ hE hM
      exact ⟨g', cap', rfl, h1.ext hE (fun hm => (hM _ hm).2 (by simp)), h2.ext hE (fun hm => (hM _ hm).2 (by simp)), h3⟩
     ·intro c s Cx M W W' h; exact h.elim
     ·refine ⟨g, cap, rfl, by simpa using hsp4, ?_, .inl rfl⟩
      have := hownS4.take (k := ts.length) (by simp)
      simpa using this
     ·intro l2 x a' W K hS hK
      refine rgn 1 ?_
      refine sg (wide_wide.inRound l2) [.p] [] [(4, (Pv sp)), (46, pv x.2), (7, pv x.2)] 1 0 hS .nil fun a hS => ?_
      refine seg_end ?_
      exact hK _ (hS.keepTo [4, 7] (by kernel_rfl))
     ·rintro l2 pre2 x post Cx W a hxs2 ⟨g', cap', rfl, hspW, hownW, hgW⟩ hlieW hfrW hnl hrec hEW hS
      have hpl : pre2.length ≤ t1.kids.length := by
       have := congrArg List.length hxs2
       rw [bw_len, hmp] at this
       simp at this
       omega
      have hgs : g' < W.heap.size := hownW.lt
      replace hS : St 51 [] [(4, (Pv sp)), (7, (Pv x.2))] a := hS
      refine wpIn_block ?_
      refine rgn 5 ?_
      refine sg (wide_wide.inRound l2) [.ld (.slice (some ⟨g', 0, none⟩) (ts.length + pre2.length) cap'), .p] [_] [(4, (Pv sp)), (7, (Pv x.2)), (47, .slice (some ⟨g', 0, none⟩) (ts.length + pre2.length) cap'), (48, (Pv x.2))] 2 3 hS (.cons (hspW.cell 0 rfl) .nil) fun a hS => ?_
      refine eff_new (wide_wide.inRound l2) (r := 2) (cs := #[(Pv x.2)]) (T := 47) (v := Value.slice (some ⟨W.heap.size, 0, none⟩) 1 1) (d := (some 49)) hS (by kernel_rfl) fun a w31 hw32 hS => ?_
      have hB34 := Blk.at' hw32 (hspW.alloc _)
      have hX35 : Ext [] W w31 := by rw [hw32]; exact (Ext.refl _ _).alloc _
      have hG36 : OwnR w31 47 1 g' cap' (ts.length + pre2.length) (ts.reverse.map Tr.ptr ++ pre2.map (fun q => pv q.2)) := hownW.ext hX35 (by simp)
      have hB37 : Blk w31 (W.heap.size) 47 #[(Pv x.2)] := by rw [hw32]; exact Blk.new _ _ _
      have hEa : Ext [] W w31 := by rw [hw32]; exact (Ext.refl _ _).alloc _
      refine eff_append (wide_wide.inRound l2) (r := 1) (d := (some 50)) (t := 109) (ty := 109) (e := 47) (size := 1) (bytes := 8) (len := ts.length + pre2.length) (b := W.heap.size) (off := 0) (k := 1) (c := 1) (z := #[.pointer none]) (v := .slice (some ⟨g', 0, none⟩) (ts.length + pre2.length) cap') [pv x.2] hS (by kernel_rfl) (by kernel_rfl) (by kernel_rfl) (by kernel_rfl) (by kernel_rfl) hG36.v (by simp) ?_ rfl (by omega) (by omega) (by kernel_rfl) fun g2 cap2 a w6 hO6 hE6 hF6 hS => ?_
      ·intro j u hu
       have : j = 0 := by
        have := (List.getElem?_eq_some_iff.1 hu).1
        simp at this; omega
       subst this
       simp at hu; subst hu
       exact hB37.cell 0 rfl
      replace hE6 : Ext [g'] w31 w6 := hE6
      have hsp6 := hB34.ext hE6 (by simpa using (OwnR.ne_type hG36 hB34 (by decide)).symm)
      refine eff_store (wide_wide.inRound l2) (r := 0) (b := sp) (off := 0) (vs := [.slice (some ⟨g2, 0, none⟩) (ts.length + pre2.length + 1) cap2]) hS (by kernel_rfl) hsp6 (by simp) fun a w38 hw39 hS => ?_
      have hB40 : Blk w38 sp 109 (#[.slice (some ⟨g2, 0, none⟩) (ts.length + pre2.length + 1) cap2]) := by rw [hw39]; exact hsp6.upd _ _
      refine seg_end ?_
      refine inBlock_normal ?_
      have hE67 : Ext [sp] w6 w38 := by rw [hw39]; exact (Ext.refl _ _).updIn (.inl (by simp)) _ _
      have hg2 : g2 = g' ∨ W.heap.size ≤ g2 := by
       rcases hF6 g2 (by simp) with h | h
       ·exact .inl (by simpa [ob] using h)
       ·exact .inr (Nat.le_trans hEa.size h)
      have hO7 := hO6.ext hE67 (by simpa using OwnR.ne_type hO6 hsp6 (by decide))
      refine left_normal (C' := [sp, g2]) ?_ ?_ ?_ ⟨g2, cap2, rfl, by simpa [Nat.add_assoc] using hB40, by simpa [Nat.add_assoc] using hO7, ?_⟩
      ·exact ((hEa.mono (by simp)).trans hE6 (by simp)).trans hE67 (by simp)
      ·intro b hb
       have hb : b = sp ∨ b = g2 := by simpa using hb
       rcases hb with rfl | rfl
       ·exact .inl (by simp)
       ·exact hg2.imp (fun h => by simp [h]) id
      ·intro b hb
       have hb : b = sp ∨ b = g2 := by simpa using hb
       rcases hb with rfl | rfl
       ·exact hB40.lt
       ·exact hO7.lt
      ·rcases hg2 with rfl | h
       ·exact hgW
       ·exact .inr (Nat.le_trans hEW.size h)
     ·rintro Cx w7 a hE47 hfr7 hlie7 hD7 ⟨g', cap', rfl, hsp7, hown7, hg7⟩ hS
      replace hS : St 51 ((w4.heap.size :: Ds).map dmark) [(0, .func (.yield l) #[] #[]), (1, (Pv bx)), (3, I6 p'), (4, (Pv sp))] a := hS.keepTo [0, 1, 3, 4] (by kernel_rfl)
      refine inBlock_normal ?_
      refine hK29 _ _ ?_
      refine wpIn_goto ?_
      refine jumpX_goto ?_
      have hE37 : Ext [sp, g] w3 w7 := (hE34.of0).trans hE47 (fun b hb => .inl hb)
      have hnM : ∀ b ∈ [sp, g], w.heap.size ≤ b ∧ b ∉ C2 := fun b hb => by
       have hb : b = sp ∨ b = g := by simpa using hb
       rcases hb with rfl | rfl
       ·exact ⟨hI.sn.1, hn3.1⟩
       ·exact ⟨hI.gn.1, hn3.2⟩
      have hkids : (bw (t1.kids.map Tr.b) (t1.kids.map Tr.b).length).map (fun q => pv q.2) = t1.kids.reverse.map Tr.ptr := by
       have h := bw_snd (t1.kids.map Tr.b) _ (Nat.le_refl _)
       have h2 : (bw (t1.kids.map Tr.b) (t1.kids.map Tr.b).length).map (fun q => pv q.2) = ((bw (t1.kids.map Tr.b) (t1.kids.map Tr.b).length).map (·.2)).map pv := by rw [List.map_map]; rfl
       rw [h2, h, List.take_length, rev_ptr]
      have hsumw : sumW (t1.kids ++ ts) = sumW t1.kids + sumW ts := sumW_append _ _
      have hsumt : sumT (t1.kids ++ ts) = sumT t1.kids + sumT ts := sumT_append _ _
      have hpos := hI.pos
      have htw : sumW (t1 :: ts) = t1.wd + sumW ts := rfl
      have htt2 : sumT (t1 :: ts) = t1.tt + sumT ts := rfl
      have hlen7 : ts.length + (bw (t1.kids.map Tr.b) (t1.kids.map Tr.b).length).length = (t1.kids ++ ts).length := by rw [bw_len, hmp, List.length_append]; omega
      refine ⟨(sp, pre ++ [(p, t1)], p', t1.kids ++ ts, w4.heap.size :: Ds, C2, g', cap'), ⟨hS, ?_⟩, ?_⟩
      ·refine ⟨by rw [hI.xs, hstep, List.append_assoc]; rfl, hJ _ _ _ _ _ hx2 hE37 hnM, hl2.ext hE37, hfr3, hE13.trans hE37 (fun b hb => .inr (hnM b hb).1), by rw [← hlen7]; exact hsp7, ?_, ?_, ?_, ?_, ?_, ?_, ⟨hI.sn.1, hn3.1⟩, ?_⟩
       ·rw [← hlen7]
        rw [hkids] at hown7
        simpa using hown7
       ·intro s hs
        rcases List.mem_append.1 hs with h | h
        ·exact ⟨hok1.oks.at h, fun x hx => hsub1 x ((Tr.foot_iff t1 x).2 (.inr (.inr (foots_iff.2 ⟨s, h, hx⟩))))⟩
        ·exact hI.sub s (by simp [h])
       ·rw [hsumt]
        by_cases hk : t1.kd = 1
        ·have h1 := (hok1.nums.leaf hk).1
         rw [h1]; simp only [sumT]; omega
        ·have h1 := (hok1.nums.inner hk).2.2.2.2.2.2.2.2.2.1
         omega
       ·show 0 ≤ p' ∧ p' + sumW (t1.kids ++ ts) ≤ t.wd
        rw [hsumw, ← hpq]
        by_cases hk : t1.kd = 1
        ·have h1 := (hok1.nums.leaf hk).1
         rw [if_pos hk, h1]; simp only [sumW]; omega
        ·have h1 := (hok1.nums.inner hk).2.2.2.2.2.2.2.1
         rw [if_neg hk]; omega
       ·refine List.nodup_cons.2 ⟨fun h => ?_, hI.nd⟩
        have := (hdd3 _ h).1.lt
        omega
       ·intro D hD
        rcases List.mem_cons.1 hD with rfl | hD
        ·refine ⟨hD7, Nat.le_trans hE13.size (by omega), fun h => ?_⟩
         have := hl2 _ h
         omega
        ·obtain ⟨h1, h2, h3⟩ := hdd3 D hD
         exact ⟨h1.ext hE37 (fun hm => by
          have hm : D = sp ∨ D = g := by simpa using hm
          rcases hm with rfl | rfl
          ·exact h1.ne_blk hsp3 rfl
          ·obtain ⟨⟨cur, hc, _⟩, _⟩ := hown3; exact h1.ne_blk hc rfl), h2, h3⟩
       ·show w.heap.size ≤ g' ∧ g' ∉ C2
        have hsz3 := hE13.size
        rcases hg7 with rfl | h
        ·exact ⟨hI.gn.1, hn3.2⟩
        ·exact ⟨Nat.le_trans hE13.size (by omega), fun hm => by have := hl2 _ hm; omega⟩
      ·simp only
       rw [hstep]
       simp
     ·intro c pre2 Cx W a _ _ _ _ _ h; exact h.elim
 ·intro hp
  have hE0 : Ext [] w w := Ext.refl _ _
  refine sq fun K41 hK41 => ?_
  refine rgn 1 ?_
  refine sg wide_wide [.p] [] [(0, .func (.yield l) #[] #[]), (1, (Pv bx)), (3, I6 0)] 1 0 hS .nil fun a hS => ?_
  refine seg_end ?_
  refine hK41 _ _ ?_
  refine sq fun K42 hK42 => ?_
  refine rgn 4 ?_
  refine sg wide_wide [.ld ((Pv t.b))] [_] [(0, .func (.yield l) #[] #[]), (1, (Pv bx)), (3, I6 0), (8, (Pv t.b))] 1 3 hS (.cons (hbx.cell 0 rfl) .nil) fun a hS => ?_
  refine eff_new wide_wide (r := 2) (cs := #[(Pv t.b)]) (T := 47) (v := Value.slice (some ⟨w.heap.size, 0, none⟩) 1 1) (d := (some 9)) hS (by kernel_rfl) fun a w43 hw44 hS => ?_
  have hB47 : Blk w43 (w.heap.size) 47 #[(Pv t.b)] := by rw [hw44]; exact Blk.new _ _ _
  have hs48 : w.heap.size ≤ w.heap.size := hE0.size
  have hE49 : Ext [] w w43 := by rw [hw44]; exact hE0.alloc _
  refine eff_box wide_wide (r := 1) (cs := #[.slice none 0 0]) (T := 109) (d := (some 4)) hS (by kernel_rfl) fun a w50 hw51 hS => ?_
  have hn53 : w.heap.size ≠ w43.heap.size := Nat.ne_of_lt hB47.lt
  have hB55 := Blk.at' hw51 (hB47.alloc _)
  have hB56 : Blk w50 (w43.heap.size) 109 #[.slice none 0 0] := by rw [hw51]; exact Blk.new _ _ _
  have hs57 : w.heap.size ≤ w43.heap.size := hE49.size
  have hE58 : Ext [] w w50 := by rw [hw51]; exact hE49.alloc _
  refine eff_store wide_wide (r := 0) (b := w43.heap.size) (off := 0) (vs := [.slice (some ⟨w.heap.size, 0, none⟩) 1 1]) hS (by kernel_rfl) hB56 (by simp) fun a w59 hw60 hS => ?_
  have hB62 := Blk.at' hw60 (hB55.updNe (Ne.symm hn53) _ _)
  have hB63 : Blk w59 w43.heap.size 109 (#[.slice (some ⟨w.heap.size, 0, none⟩) 1 1]) := by rw [hw60]; exact hB56.upd _ _
  have hE64 : Ext [] w w59 := by rw [hw60]; exact hE58.updIn (.inr hs57) _ _
  refine seg_end ?_
  refine hK42 _ _ ?_
  refine sq fun K65 hK65 => ?_
  refine wpIn_label ?_
  refine hK65 _ _ ?_
  refine wpIn_mono (hp _ _ ⟨(w43.heap.size, [], 0, [t], [], C, w.heap.size, 1), hS.keepTo [0, 1, 3, 4] (by kernel_rfl), ?_⟩) (fun _ _ _ h => h)
  have hO : OwnR w59 47 1 w.heap.size 1 1 [t.ptr] := OwnR.of_blk (cs := #[t.ptr]) (n := 1) hB62 rfl (by decide)
  refine ⟨by simp [walks], hJ _ _ _ _ _ h0 hE64 (by simp), hCl.ext hE64, Fresh.refl _ _, hE64.of0, hB63, by simpa using hO, ?_, by simp [sumT], by simp [sumW], List.nodup_nil, by simp, ⟨hs57, fun h => ?_⟩, ⟨Nat.le_refl _, fun h => ?_⟩⟩
  ·intro s hs
   obtain rfl : s = t := by simpa using hs
   exact ⟨ht, fun _ h => h⟩
  ·have := hCl _ h; have := hs57; omega
  ·have := hCl _ (show w.heap.size ∈ C from h); omega

end Go.Proofs.Ytpglmeeledmkoaa
