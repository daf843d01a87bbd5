import Derived.Test.YtpglmeeledmkoaaProg
import Derived.Test.YtpglmeeledmkoaaVc
import Derived.Test.YtpglmeeledmkoaaT2
import Derived.Test.YtpglmeeledmkoaaTr
namespace Go.Proofs.Ytpglmeeledmkoaa
open Go.Vc

def pv (b : Nat) : Value := (Pv b)
/-- from the last to the first -/
def bw (ps : List Nat) : Nat → List (Int × Nat)
 | 0 => []
 | k + 1 => ((k : Int), ps.getD k 0) :: bw ps k
def encB (q : Int × Nat) : List Value := [I6 q.1, pv q.2]
theorem bw_snd (ps : List Nat) : ∀ k, k ≤ ps.length → (bw ps k).map (·.2) = (ps.take k).reverse
 | 0, _ => by simp [bw]
 | k + 1, h => by
  have hk : k < ps.length := by omega
  rw [bw, List.map_cons, bw_snd ps k (by omega), List.take_succ_eq_append_getElem hk, List.reverse_append]
  simp [List.getD, hk]
theorem bw_len (ps : List Nat) : ∀ k, (bw ps k).length = k
 | 0 => rfl
 | k + 1 => by simp [bw, bw_len ps k]

theorem Back1_nil {bx : Nat} {ps : List Nat} {w : World} (hbx : Blk w bx 32 #[.slice none 0 0])  (hps : ps = []) : SeqOk Try.prog 78 [pv bx] encB (bw ps ps.length) (fun x => x = bx) w := by
 intro l J Jx C hJ hJx hCT hCl h0 hY
 show Calls Try.prog 78 #[.func (.yield l) #[] #[], (Pv bx)] w fun e w' => (∃ v, e = .returned v) ∧ ∃ C', Ext C w w' ∧ Fresh w.heap.size C C' ∧ Lie w' C' ∧ (J (bw ps ps.length) C' w' ∨ ∃ pre, pre <+: bw ps ps.length ∧ Jx pre C' w')
 refine calls_body 19 [(0, .func (.yield l) #[] #[]), (1, (Pv bx))] Try.func78 rfl (by kernel_rfl) (by kernel_rfl) (by kernel_rfl) fun a hS => ?_
 refine sq fun K1 hK1 => ?_
 refine rgn 4 ?_
 refine sg wide_wide [.ld (.slice none 0 0), .p, .p, .p] [_] [(0, .func (.yield l) #[] #[]), (1, (Pv bx)), (3, I6 (-1))] 4 0 hS (.cons (hbx.cell 0 rfl) .nil) fun a hS => ?_
 refine seg_end ?_
 refine hK1 _ _ ?_
 refine wpIn_block ?_
 refine loop_ghost (fun ((k, pre, C1) : Nat × List (Int × Nat) × List Nat) a' w' => St 19 [] [(0, .func (.yield l) #[] #[]), (1, (Pv bx)), (3, I6 (↑k - 1))] a' ∧ bw ps ps.length = pre ++ bw ps k ∧ J pre C1 w' ∧ Lie w' C1 ∧ Fresh w.heap.size C C1 ∧ Ext C w w' ∧ k ≤ ps.length) (fun ((k, pre, C1) : Nat × List (Int × Nat) × List Nat) => k) (0, [], C) ⟨hS.keepTo [0, 1, 3] (by kernel_rfl), by rw [hps]; rfl, h0, hCl, Fresh.refl _ _, Ext.refl _ _, Nat.zero_le _⟩ ?_
 rintro ⟨k, pre, C1⟩ a w1 ⟨hS, hxs, hj, hlie, hfr, hEx, hkl⟩
 refine sq fun K2 hK2 => ?_
 refine sq fun K3 hK3 => ?_
 refine rgn 2 ?_
 refine sg wide_wide [.p, .p] [] [(0, .func (.yield l) #[] #[]), (1, (Pv bx)), (3, I6 (↑k - 1)), (8, .bool (decide ((↑k - 1 : Int) ≥ 0)))] 2 0 hS .nil fun a hS => ?_
 refine seg_end ?_
 refine hK3 _ _ ?_
 refine cond_b hS rfl (fun hb4 => ?_) (fun hb4 => ?_)
 ·
  replace hb4 := of_decide_eq_true hb4
  rw [hps] at hkl; simp at hkl; omega
 ·
  replace hb4 := of_decide_eq_false hb4
  obtain rfl : k = 0 := by omega
  refine wpIn_exit ?_
  refine then_exit ?_
  refine then_exit ?_
  refine inBlock_hit ?_
  refine end0 hS Try.results78 ?_
  exact ⟨⟨_, rfl⟩, C1, hEx, hfr, hlie, .inl (by rw [hxs]; simpa [bw] using hj)⟩

theorem Back1_some {bx g cap : Nat} {ps : List Nat} {w : World} (hbx : Blk w bx 32 #[.slice (some ⟨g, 0, none⟩) ps.length cap]) (hown : OwnR w 47 1 g cap ps.length (ps.map pv)) (hlen : ps.length ≤ 1000000000) : SeqOk Try.prog 78 [pv bx] encB (bw ps ps.length) (fun x => x = bx ∨ x = g) w := by
 intro l J Jx C hJ hJx hCT hCl h0 hY
 show Calls Try.prog 78 #[.func (.yield l) #[] #[], (Pv bx)] w fun e w' => (∃ v, e = .returned v) ∧ ∃ C', Ext C w w' ∧ Fresh w.heap.size C C' ∧ Lie w' C' ∧ (J (bw ps ps.length) C' w' ∨ ∃ pre, pre <+: bw ps ps.length ∧ Jx pre C' w')
 refine calls_body 19 [(0, .func (.yield l) #[] #[]), (1, (Pv bx))] Try.func78 rfl (by kernel_rfl) (by kernel_rfl) (by kernel_rfl) fun a hS => ?_
 refine sq fun K1 hK1 => ?_
 refine rgn 4 ?_
 refine sg wide_wide [.ld (.slice (some ⟨g, 0, none⟩) ps.length cap), .p, .as (I6 (↑ps.length - 1)), .p] [_, Value.int .i64 (IntKind.i64.wrap (↑ps.length - 1)) = I6 (↑ps.length - 1)] [(0, .func (.yield l) #[] #[]), (1, (Pv bx)), (3, I6 (↑ps.length - 1))] 4 0 hS (.cons (hbx.cell 0 rfl) (.cons (as_i64 (by omega)) .nil)) fun a hS => ?_
 refine seg_end ?_
 refine hK1 _ _ ?_
 refine wpIn_block ?_
 refine loop_ghost (fun ((k, pre, C1) : Nat × List (Int × Nat) × List Nat) a' w' => St 19 [] [(0, .func (.yield l) #[] #[]), (1, (Pv bx)), (3, I6 (↑k - 1))] a' ∧ bw ps ps.length = pre ++ bw ps k ∧ J pre C1 w' ∧ Lie w' C1 ∧ Fresh w.heap.size C C1 ∧ Ext C w w' ∧ k ≤ ps.length) (fun ((k, pre, C1) : Nat × List (Int × Nat) × List Nat) => k) (ps.length, [], C) ⟨hS.keepTo [0, 1, 3] (by kernel_rfl), rfl, h0, hCl, Fresh.refl _ _, Ext.refl _ _, Nat.le_refl _⟩ ?_
 rintro ⟨k, pre, C1⟩ a w1 ⟨hS, hxs, hj, hlie, hfr, hEx, hkl⟩
 refine sq fun K2 hK2 => ?_
 refine sq fun K3 hK3 => ?_
 refine rgn 2 ?_
 refine sg wide_wide [.p, .p] [] [(0, .func (.yield l) #[] #[]), (1, (Pv bx)), (3, I6 (↑k - 1)), (8, .bool (decide ((↑k - 1 : Int) ≥ 0)))] 2 0 hS .nil fun a hS => ?_
 refine seg_end ?_
 refine hK3 _ _ ?_
 refine cond_b hS rfl (fun hb4 => ?_) (fun hb4 => ?_)
 ·
  replace hb4 := of_decide_eq_true hb4
  obtain ⟨k', rfl⟩ : ∃ k', k = k' + 1 := ⟨k - 1, by omega⟩
  have hk0 : ((k' + 1 : Nat) : Int) - 1 = (k' : Int) := by omega
  rw [hk0] at hS
  have hk2 : k' < ps.length := by omega
  refine wpIn_skip ?_
  refine hK2 _ _ ?_
  refine sq fun K5 hK5 => ?_
  refine wpIn_block ?_
  refine sq fun K6 hK6 => ?_
  refine rgn 8 ?_
  refine sg wide_wide [.p, .p, .ld (.slice (some ⟨g, 0, none⟩) ps.length cap), .p, .run ((Po g (0 + k' * 1))), .ld ((Po (ps.getD k' 0) 0))] [_, Ru Try.prog (vS (Instr.indexAt 32 (.slice (some ⟨g, 0, none⟩) ps.length cap) (I6 ↑k'))) ((Po g (0 + k' * 1))) w1, w1.cell? ⟨g, 0 + k' * 1, none⟩ = some ((Po (ps.getD k' 0) 0))] [(0, .func (.yield l) #[] #[]), (1, (Pv bx)), (3, I6 ↑k'), (11, .func (.yield l) #[] #[]), (12, I6 ↑k'), (16, (Po (ps.getD k' 0) 0))] 6 2 hS (.cons ((hbx.ext hEx (fun h => hCT _ h (.inl rfl))).cell 0 rfl) (.cons (ix_slice (E := 47) (size := 1) (j := k') (by kernel_rfl) (by kernel_rfl) rfl hk2) (.cons (by rw [show 0 + k' * 1 = k' by omega]; exact (hown.ext hEx (fun h => hCT _ h (.inr rfl))).cellAt k' (v := pv (ps.getD k' 0)) (by simp [List.getD, hk2])) .nil))) fun a hS => ?_
  refine eff_yield wide_wide (r := 1) (l := l) (vs := encB (↑k', ps.getD k' 0)) (cap := #[]) (d := (some 17)) hS (by kernel_rfl) (hY pre (↑k', ps.getD k' 0) (bw ps k') C1 w1 hxs hj hlie hfr) fun b w2 a hR hS => ?_
  refine sg wide_wide [.p] [] [(0, .func (.yield l) #[] #[]), (1, (Pv bx)), (3, I6 ↑k'), (18, .bool (!b))] 8 0 hS .nil fun a hS => ?_
  refine seg_end ?_
  refine hK6 _ _ ?_
  refine cond_b hS rfl (fun hb7 => ?_) (fun hb7 => ?_)
  ·
   replace hb7 := hb7
   obtain rfl : b = false := by simpa using hb7
   obtain ⟨C2, hE2, hf2, hl2, hx2⟩ := hR
   refine wpIn_ret ?_
   refine inBlock_ret ?_
   refine then_ret ?_
   refine then_ret ?_
   refine inBlock_ret ?_
   refine ret0 hS Try.results78 ?_
   exact ⟨⟨_, rfl⟩, C2, hEx.fresh hE2 hfr, hfr.trans hf2 hEx.size, hl2, .inr ⟨_, ⟨bw ps k', by rw [hxs, List.append_assoc]; rfl⟩, hx2⟩⟩
  ·
   replace hb7 := hb7
   obtain rfl : b = true := by simpa using hb7
   obtain ⟨C2, hE2, hf2, hl2, hx2⟩ := hR
   refine wpIn_skip ?_
   refine inBlock_normal ?_
   refine hK5 _ _ ?_
   refine rgn 3 ?_
   refine sg wide_wide [.p, .as (I6 (↑k' - 1)), .p] [Value.int .i64 (IntKind.i64.wrap (↑k' - 1)) = I6 (↑k' - 1)] [(0, .func (.yield l) #[] #[]), (1, (Pv bx)), (3, I6 (↑k' - 1))] 3 0 hS (.cons (as_i64 (by omega)) .nil) fun a hS => ?_
   refine seg_end ?_
   exact ⟨(k', pre ++ [((k' : Int), ps.getD k' 0)], C2), ⟨hS.keepTo [0, 1, 3] (by kernel_rfl), by rw [hxs, List.append_assoc]; rfl, hx2, hl2, hfr.trans hf2 hEx.size, hEx.fresh hE2 hfr, by omega⟩, by simp⟩
 ·
  replace hb4 := of_decide_eq_false hb4
  obtain rfl : k = 0 := by omega
  refine wpIn_exit ?_
  refine then_exit ?_
  refine then_exit ?_
  refine inBlock_hit ?_
  refine end0 hS Try.results78 ?_
  exact ⟨⟨_, rfl⟩, C1, hEx, hfr, hlie, .inl (by rw [hxs]; simpa [bw] using hj)⟩

end Go.Proofs.Ytpglmeeledmkoaa
