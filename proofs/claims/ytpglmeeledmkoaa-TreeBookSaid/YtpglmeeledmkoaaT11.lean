import Derived.Test.YtpglmeeledmkoaaProg
import Derived.Test.YtpglmeeledmkoaaVc
import Derived.Test.YtpglmeeledmkoaaT8
namespace Go.Proofs.Ytpglmeeledmkoaa
open Go.Vc

/-- a step of a way: the node above, which child, where it begins -/
abbrev Stp := Tr × Int × Int
def stepc (s : Stp) : List Value := [s.1.ptr, I6 s.2.1, I6 s.2.2]
def ways : List Stp → List Value
 | [] => []
 | s :: l => stepc s ++ ways l
theorem ways_append : ∀ (l l' : List Stp), ways (l ++ l') = ways l ++ ways l'
 | [], _ => rfl
 | s :: l, l' => by simp [ways, ways_append l l']
theorem ways_len : ∀ l : List Stp, (ways l).length = l.length * 3
 | [] => rfl
 | s :: l => by simp [ways, ways_len l, stepc]; omega
theorem ways_at : ∀ (l : List Stp) (j i : Nat) (hj : j < l.length), i < 3 → (ways l)[0 + j * 3 + i]? = (stepc l[j])[i]?
 | [], j, i, hj, _ => by simp at hj
 | s :: l, 0, i, _, hi => by
  simp only [ways, Nat.zero_mul, Nat.zero_add, List.getElem_cons_zero]
  rw [List.getElem?_append_left (by simp [stepc]; omega)]
 | s :: l, j + 1, i, hj, hi => by
  simp only [List.length_cons] at hj
  have ih := ways_at l j i (by omega) hi
  simp only [ways, List.getElem_cons_succ]
  rw [← ih, List.getElem?_append_right (by simp [stepc]; omega)]
  congr 1
  simp [stepc]; omega
/-- where the last step of a way begins -/
def lastB (l : List Stp) : Int := match l.getLast? with
 | none => 0
 | some s => s.2.2

theorem Cursor_any (b : Nat) (w : World) :
  Calls Try.prog 37 #[(Pv b)] w fun e w' => e = .returned ((Pv w.heap.size)) ∧ w' = w.alloc (.cells #[(Pv b), .slice none 0 0, (Pv b), I6 0] 77) := by
 refine calls_body 8 [(0, (Pv b))] Try.func37 rfl (by kernel_rfl) (by kernel_rfl) (by kernel_rfl) fun a hS => ?_
 refine sq fun K1 hK1 => ?_
 refine rgn 1 ?_
 refine sg wide_wide [.p] [] [(0, (Pv b)), (2, .pointer none)] 1 0 hS .nil fun a hS => ?_
 refine seg_end ?_
 refine hK1 _ _ ?_
 refine sq fun K2 hK2 => ?_
 refine rgn 6 ?_
 refine sg wide_wide [.p, .p, .p, .p] [] [(0, (Pv b)), (2, .pointer none), (6, .agg #[(Pv b), .slice none 0 0, (Pv b), I6 0])] 4 2 hS .nil fun a hS => ?_
 refine eff_box wide_wide (r := 1) (cs := #[(Pv b), .slice none 0 0, (Pv b), I6 0]) (T := 77) (d := (some 7)) hS (by kernel_rfl) fun a w3 hw4 hS => ?_
 refine sg wide_wide [.p] [] [(0, (Pv b)), (2, (Pv w.heap.size))] 6 0 hS .nil fun a hS => ?_
 refine seg_end ?_
 refine hK2 _ _ ?_
 refine wpIn_ret ?_
 refine ret1 hS Try.results37 rfl ?_
 exact ⟨rfl, hw4⟩

def kidsOf (l : List Stp) : List Value := l.map fun s => I6 s.2.1

set_option maxHeartbeats 1000000 in
theorem Path_any {cb cap : Nat} {st : List Stp} {p0 p1 bs : Option Addr} {z : Int} {w : World} (hC : Blk w cb 77 #[.pointer p0, .slice bs st.length cap, .pointer p1, I6 z]) (hv : OwnV w 122 3 (.slice bs st.length cap) st.length (ways st)) (hlen : st.length ≤ 1000000000) :
  Calls Try.prog 39 #[(Pv cb)] w fun e w' => ∃ b2 c2, e = .returned (.slice b2 st.length c2) ∧ OwnV w' 3 1 (.slice b2 st.length c2) st.length (kidsOf st) ∧ Ext [] w w' ∧ ∀ b ∈ ob (.slice b2 st.length c2), w.heap.size ≤ b := by
 refine calls_body 22 [(0, (Pv cb))] Try.func39 rfl (by kernel_rfl) (by kernel_rfl) (by kernel_rfl) fun a hS => ?_
 have hE0 : Ext [] w w := Ext.refl _ _
 refine sq fun K1 hK1 => ?_
 refine rgn 1 ?_
 refine sg wide_wide [.p] [] [(0, (Pv cb)), (2, .slice none 0 0)] 1 0 hS .nil fun a hS => ?_
 refine seg_end ?_
 refine hK1 _ _ ?_
 refine sq fun K2 hK2 => ?_
 refine rgn 1 ?_
 refine sg wide_wide [.p] [] [(0, (Pv cb)), (2, .slice none 0 0), (3, .slice none 0 0)] 1 0 hS .nil fun a hS => ?_
 refine seg_end ?_
 refine hK2 _ _ ?_
 refine sq fun K3 hK3 => ?_
 refine sq fun K4 hK4 => ?_
 refine rgn 6 ?_
 refine sg wide_wide [.p, .p, .p, .ld (.slice bs st.length cap), .p, .p] [_] [(0, (Pv cb)), (2, .slice none 0 0), (3, .slice none 0 0), (9, .slice bs st.length cap), (10, I6 ↑st.length), (11, I6 0)] 6 0 hS (.cons (hC.cell 1 rfl) .nil) fun a hS => ?_
 refine seg_end ?_
 refine hK4 _ _ ?_
 refine wpIn_block ?_
 refine loop_ghost (fun ((k, b2, c2) : Nat × Option Addr × Nat) a' w' => St 22 [] [(3, .slice b2 k c2), (9, .slice bs st.length cap), (10, I6 ↑st.length), (11, I6 ↑k)] a' ∧ k ≤ st.length ∧ Ext [] w w' ∧ OwnV w' 3 1 (.slice b2 k c2) k (kidsOf (st.take k)) ∧ ∀ b ∈ ob (.slice b2 k c2), w.heap.size ≤ b) (fun ((k, b2, c2) : Nat × Option Addr × Nat) => st.length - k) (0, none, 0) ⟨hS.keepTo [3, 9, 10, 11] (by kernel_rfl), Nat.zero_le _, hE0, .inl ⟨rfl, rfl, rfl⟩, fun b hb => (by have hb : b ∈ ([] : List Nat) := hb; cases hb)⟩ ?_
 rintro ⟨k, b2, c2⟩ a w1 ⟨hS, hkl, hEx, hO, hfr⟩
 have hv1 := hv.ext hEx (by simp)
 refine sq fun K5 hK5 => ?_
 refine rgn 1 ?_
 refine sg wide_wide [.p] [] [(3, .slice b2 k c2), (9, .slice bs st.length cap), (10, I6 ↑st.length), (11, I6 ↑k), (12, .bool (decide ((↑k : Int) < ↑st.length)))] 1 0 hS .nil fun a hS => ?_
 refine seg_end ?_
 refine hK5 _ _ ?_
 refine sq fun K6 hK6 => ?_
 refine cond_b hS rfl (fun hb7 => ?_) (fun hb7 => ?_)
 ·
  replace hb7 := of_decide_eq_true hb7
  have hk : k < st.length := by omega
  obtain ⟨sk, hsk⟩ : ∃ sk, st[k] = sk := ⟨_, rfl⟩
  have htake : kidsOf (st.take (k + 1)) = kidsOf (st.take k) ++ [I6 sk.2.1] := by rw [List.take_succ_eq_append_getElem hk, hsk]; simp [kidsOf]
  have hc0 : (ways st)[0 + k * 3]? = some ((Pv sk.1.b)) := by have := ways_at st k 0 hk (by omega); rw [hsk] at this; exact this
  have hc1 : (ways st)[0 + k * 3 + 1]? = some (I6 sk.2.1) := by have := ways_at st k 1 hk (by omega); rw [hsk] at this; exact this
  have hc2 : (ways st)[0 + k * 3 + 2]? = some (I6 sk.2.2) := by have := ways_at st k 2 hk (by omega); rw [hsk] at this; exact this
  refine wpIn_skip ?_
  refine hK6 _ _ ?_
  refine sq fun K8 hK8 => ?_
  refine wpIn_block ?_
  refine sq fun K9 hK9 => ?_
  refine rgn 4 ?_
  refine sg wide_wide [.run ((Po (bof (.slice bs st.length cap)) (0 + k * 3))), .lds [(Pv sk.1.b), I6 sk.2.1, I6 sk.2.2]] [Ru Try.prog (vS (Instr.indexAt 73 (.slice bs st.length cap) (I6 ↑k))) ((Po (bof (.slice bs st.length cap)) (0 + k * 3))) w1, w1.cell? ⟨bof (.slice bs st.length cap), 0 + k * 3, none⟩ = some ((Pv sk.1.b)), w1.cell? ⟨bof (.slice bs st.length cap), 0 + k * 3 + 1, none⟩ = some (I6 sk.2.1), w1.cell? ⟨bof (.slice bs st.length cap), 0 + k * 3 + 2, none⟩ = some (I6 sk.2.2)] [(3, .slice b2 k c2), (9, .slice bs st.length cap), (10, I6 ↑st.length), (11, I6 ↑k), (14, .agg #[(Pv sk.1.b), I6 sk.2.1, I6 sk.2.2])] 2 2 hS (.cons (ix_own (j := k) (hv1) (by kernel_rfl) (by kernel_rfl) rfl hk) (.cons (hv1.cellAt _ hc0) (.cons (hv1.cellAt _ hc1) (.cons (hv1.cellAt _ hc2) .nil)))) fun a hS => ?_
  refine eff_box wide_wide (r := 1) (cs := #[.pointer none, I6 0, I6 0]) (T := 122) (d := (some 5)) hS (by kernel_rfl) fun a w10 hw11 hS => ?_
  have hn13 : ∀ x ∈ ob (.slice b2 k c2), w1.heap.size ≠ x := fun x hx => Nat.ne_of_gt (hO.lie x hx)
  have hB15 := OwnV.at' hw11 (hO.alloc _)
  have hB16 : Blk w10 (w1.heap.size) 122 #[.pointer none, I6 0, I6 0] := by rw [hw11]; exact Blk.new _ _ _
  have hs17 : w.heap.size ≤ w1.heap.size := hEx.size
  have hE18 : Ext [] w w10 := by rw [hw11]; exact hEx.alloc _
  refine eff_store wide_wide (r := 0) (b := w1.heap.size) (off := 0) (vs := [(Pv sk.1.b), I6 sk.2.1, I6 sk.2.2]) hS (by kernel_rfl) hB16 (by simp) fun a w19 hw20 hS => ?_
  have hB22 := OwnV.at' hw20 (hB15.updNe hn13 _ _)
  have hB23 : Blk w19 w1.heap.size 122 (#[(Pv sk.1.b), I6 sk.2.1, I6 sk.2.2]) := by rw [hw20]; exact hB16.upd _ _
  have hE24 : Ext [] w w19 := by rw [hw20]; exact hE18.updIn (.inr hs17) _ _
  refine seg_end ?_
  refine hK9 _ _ ?_
  refine rgn 6 ?_
  refine sg wide_wide [.p, .p, .ld (I6 sk.2.1)] [_] [(3, .slice b2 k c2), (9, .slice bs st.length cap), (10, I6 ↑st.length), (11, I6 ↑k), (5, (Pv w1.heap.size)), (15, .slice b2 k c2), (17, I6 sk.2.1)] 3 3 hS (.cons (hB23.cell 1 rfl) .nil) fun a hS => ?_
  refine eff_new wide_wide (r := 2) (cs := #[I6 sk.2.1]) (T := 3) (v := Value.slice (some ⟨w19.heap.size, 0, none⟩) 1 1) (d := (some 18)) hS (by kernel_rfl) fun a w25 hw26 hS => ?_
  have hB31 := OwnV.at' hw26 (hB22.alloc _)
  have hB33 : Blk w25 (w19.heap.size) 3 #[I6 sk.2.1] := by rw [hw26]; exact Blk.new _ _ _
  have hs34 : w.heap.size ≤ w19.heap.size := hE24.size
  have hE35 : Ext [] w w25 := by rw [hw26]; exact hE24.alloc _
  refine eff_append wide_wide (r := 1) (d := (some 19)) (t := 41) (ty := 41) (e := 3) (size := 1) (bytes := 8) (len := k) (b := w19.heap.size) (off := 0) (k := 1) (c := 1) (z := #[I6 0]) (v := .slice b2 k c2) [I6 sk.2.1] hS (by kernel_rfl) (by kernel_rfl) (by kernel_rfl) (by kernel_rfl) (by kernel_rfl) hB31 (by simp) ?_ rfl (by omega) (by omega) (by kernel_rfl) fun g2 cap2 a w6 hO6 hE6 hF6 hS => ?_
  ·intro j u hu
   have : j = 0 := by
    have := (List.getElem?_eq_some_iff.1 hu).1
    simp at this; omega
   subst this
   simp at hu; subst hu
   exact hB33.cell 0 rfl
  have hE7 : Ext [] w w6 := hE35.trans hE6 (fun b hb => .inr (hfr b hb))
  have hg2 : w.heap.size ≤ g2 := by
   rcases hF6 g2 (by simp) with h | h
   ·exact hfr g2 h
   ·exact Nat.le_trans (hE35).size h
  refine sg wide_wide [.p] [] [(3, .slice (some ⟨g2, 0, none⟩) (k + 1) cap2), (9, .slice bs st.length cap), (10, I6 ↑st.length), (11, I6 ↑k), (5, (Pv w1.heap.size))] 6 0 hS .nil fun a hS => ?_
  refine seg_end ?_
  refine inBlock_normal ?_
  refine hK8 _ _ ?_
  refine rgn 2 ?_
  refine sg wide_wide [.as (I6 (↑k + 1)), .p] [Value.int .i64 (IntKind.i64.wrap (↑k + 1)) = I6 (↑k + 1)] [(3, .slice (some ⟨g2, 0, none⟩) (k + 1) cap2), (9, .slice bs st.length cap), (10, I6 ↑st.length), (11, I6 (↑k + 1)), (5, (Pv w1.heap.size))] 2 0 hS (.cons (as_i64 (by omega)) .nil) fun a hS => ?_
  refine seg_end ?_
  exact ⟨(k + 1, some ⟨g2, 0, none⟩, cap2), ⟨hS.keepTo [3, 9, 10, 11] (by kernel_rfl), hk, hE7, by rw [htake]; exact hO6.v, fun b hb => by
   have hb : b = g2 := by simpa [ob] using hb
   rw [hb]; exact hg2⟩, by simp; omega⟩
 ·
  replace hb7 := of_decide_eq_false hb7
  obtain rfl : k = st.length := by omega
  rw [List.take_length] at hO
  refine wpIn_exit ?_
  refine then_exit ?_
  refine then_exit ?_
  refine inBlock_hit ?_
  refine hK3 _ _ ?_
  refine sq fun K36 hK36 => ?_
  refine rgn 2 ?_
  refine sg wide_wide [.p, .p] [] [(3, .slice b2 st.length c2), (9, .slice bs st.length cap), (10, I6 ↑st.length), (2, .slice b2 st.length c2)] 2 0 hS .nil fun a hS => ?_
  refine seg_end ?_
  refine hK36 _ _ ?_
  refine wpIn_ret ?_
  refine ret1 hS Try.results39 rfl ?_
  exact ⟨b2, c2, rfl, hO, hEx, hfr⟩

end Go.Proofs.Ytpglmeeledmkoaa
