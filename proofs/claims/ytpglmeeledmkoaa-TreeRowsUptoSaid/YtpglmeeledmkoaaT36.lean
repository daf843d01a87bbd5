import Derived.Test.YtpglmeeledmkoaaProg
import Derived.Test.YtpglmeeledmkoaaVc
import Derived.Test.YtpglmeeledmkoaaCp
import Derived.Test.YtpglmeeledmkoaaT27
namespace Go.Proofs.Ytpglmeeledmkoaa
open Go.Vc

theorem Plain_any {g n cap : Nat} {l : List Tr} {w : World} (hO : OwnR w 64 6 g cap n (rowsT l)) (hn : n = l.length) (hm : n ≤ 1000000000) :
    Calls Try.prog 28 #[.slice (some ⟨g, 0, none⟩) n cap] w fun e w' => ∃ bs c2, e = .returned (.slice bs n c2) ∧ OwnV w' 64 6 (.slice bs n c2) n (rowsP l) ∧ Ext [] w w' := by
  refine calls_body 22 [(0, .slice (some ⟨g, 0, none⟩) n cap)] Try.func28 rfl (by kernel_rfl) (by kernel_rfl) (by kernel_rfl) fun a hS => ?_
  have hE0 : Ext [] w w := Ext.refl _ _
  refine wpIn_seq_k fun K1 hK1 => ?_
  refine region 1 (by kernel_rfl) ?_
  refine seg wide_wide [.p] [0, 2] [] [(0, .slice (some ⟨g, 0, none⟩) n cap), (2, .slice none 0 0)] 1 0 hS (by kernel_rfl) (by kernel_rfl) (by kernel_rfl) .nil fun a hS => ?_
  refine seg_end ?_
  refine hK1 _ _ ?_
  refine wpIn_seq_k fun K2 hK2 => ?_
  refine region 1 (by kernel_rfl) ?_
  refine seg wide_wide [.p] [0, 2, 3] [] [(0, .slice (some ⟨g, 0, none⟩) n cap), (2, .slice none 0 0), (3, .slice none 0 0)] 1 0 hS (by kernel_rfl) (by kernel_rfl) (by kernel_rfl) .nil fun a hS => ?_
  refine seg_end ?_
  refine hK2 _ _ ?_
  refine wpIn_seq_k fun K3 hK3 => ?_
  refine wpIn_seq_k fun K4 hK4 => ?_
  refine region 1 (by kernel_rfl) ?_
  refine seg wide_wide [.p] [0, 2, 3, 4] [] [(0, .slice (some ⟨g, 0, none⟩) n cap), (2, .slice none 0 0), (3, .slice none 0 0), (4, .int .i64 0)] 1 0 hS (by kernel_rfl) (by kernel_rfl) (by kernel_rfl) .nil fun a hS => ?_
  refine seg_end ?_
  refine hK4 _ _ ?_
  refine wpIn_block ?_
  refine loop_ghost (fun ((i, lb, lc) : Nat × Option Addr × Nat) a' w' => St 22 [] [(0, .slice (some ⟨g, 0, none⟩) n cap), (3, .slice lb i lc), (4, .int .i64 ↑i)] a' ∧ i ≤ n ∧ OwnV w' 64 6 (.slice lb i lc) i (rowsP (l.take i)) ∧ (∀ x ∈ oa lb, w.heap.size ≤ x) ∧ Ext [] w w') (fun ((i, lb, lc) : Nat × Option Addr × Nat) => n - i) (0, none, 0) ⟨hS.keepTo [0, 3, 4] (by kernel_rfl), Nat.zero_le _, .inl ⟨rfl, rfl, rfl⟩, (fun x hx => by cases hx), Ext.refl _ _⟩ ?_
  rintro ⟨i, lb, lc⟩ a w3 ⟨hS, hil, hlO, hln, hEx⟩
  have hO3 := hO.ext hEx (by simp)
  refine wpIn_seq_k fun K5 hK5 => ?_
  refine wpIn_seq_k fun K6 hK6 => ?_
  refine region 4 (by kernel_rfl) ?_
  refine seg wide_wide [.p, .p, .p, .p] [0, 3, 4, 9] [] [(0, .slice (some ⟨g, 0, none⟩) n cap), (3, .slice lb i lc), (4, .int .i64 ↑i), (9, .bool (decide ((↑i : Int) < ↑n)))] 4 0 hS (by kernel_rfl) (by kernel_rfl) (by kernel_rfl) .nil fun a hS => ?_
  refine seg_end ?_
  refine hK6 _ _ ?_
  refine cond_b hS rfl (fun hb7 => ?_) (fun hb7 => ?_)
  · -- decide ((↑i : Int) < ↑n) is true
    replace hb7 := of_decide_eq_true hb7
    have hi : i < n := by omega
    obtain ⟨t, ht⟩ : ∃ t, l[i]? = some t := ⟨_, List.getElem?_eq_getElem (by omega)⟩
    have htk : l.take (i + 1) = l.take i ++ [t] := by
      rw [List.take_succ_eq_append_getElem (by omega), (List.getElem?_eq_some_iff.1 ht).2]
    refine wpIn_skip ?_
    refine hK5 _ _ ?_
    refine wpIn_seq_k fun K8 hK8 => ?_
    refine wpIn_block ?_
    refine wpIn_seq_k fun K9 hK9 => ?_
    refine region 6 (by kernel_rfl) ?_
    refine seg wide_wide [.p, .p, .run (.pointer (some ⟨g, 0 + i * 6, none⟩)), .lds [.int .i64 t.kd, .int .i64 t.nn, .int .i64 t.ls, .int .i64 t.ll, .int .i64 ↑t.kids.length, .int .i64 t.num]] [0, 3, 4, 15] [Sem.run Try.prog (vS (Instr.indexAt 54 (.slice (some ⟨g, 0, none⟩) n cap) (.int .i64 ↑i))) w3 = .ok (.value (.pointer (some ⟨g, 0 + i * 6, none⟩))) w3, w3.cell? ⟨g, 0 + i * 6, none⟩ = some (.int .i64 t.kd), w3.cell? ⟨g, 0 + i * 6 + 1, none⟩ = some (.int .i64 t.nn), w3.cell? ⟨g, 0 + i * 6 + 2, none⟩ = some (.int .i64 t.ls), w3.cell? ⟨g, 0 + i * 6 + 3, none⟩ = some (.int .i64 t.ll), w3.cell? ⟨g, 0 + i * 6 + 4, none⟩ = some (.int .i64 ↑t.kids.length), w3.cell? ⟨g, 0 + i * 6 + 5, none⟩ = some (.int .i64 t.num)] [(0, .slice (some ⟨g, 0, none⟩) n cap), (3, .slice lb i lc), (4, .int .i64 ↑i), (15, .agg #[.int .i64 t.kd, .int .i64 t.nn, .int .i64 t.ls, .int .i64 t.ll, .int .i64 ↑t.kids.length, .int .i64 t.num])] 4 2 hS (by kernel_rfl) (by kernel_rfl) (by kernel_rfl) (.cons (ix_slice (E := 64) (size := 6) (j := i) (by kernel_rfl) (by kernel_rfl) rfl hi) (.cons ((hO3).cellAt _ (by rw [show 0 + i * 6 = 0 + i * 6 + 0 from rfl, rowsT_at l i 0 t ht (by omega)]; rfl)) (.cons ((hO3).cellAt _ (by rw [show 0 + i * 6 + 1 = 0 + i * 6 + 1 from rfl, rowsT_at l i 1 t ht (by omega)]; rfl)) (.cons ((hO3).cellAt _ (by rw [show 0 + i * 6 + 2 = 0 + i * 6 + 2 from rfl, rowsT_at l i 2 t ht (by omega)]; rfl)) (.cons ((hO3).cellAt _ (by rw [show 0 + i * 6 + 3 = 0 + i * 6 + 3 from rfl, rowsT_at l i 3 t ht (by omega)]; rfl)) (.cons ((hO3).cellAt _ (by rw [show 0 + i * 6 + 4 = 0 + i * 6 + 4 from rfl, rowsT_at l i 4 t ht (by omega)]; rfl)) (.cons ((hO3).cellAt _ (by rw [show 0 + i * 6 + 5 = 0 + i * 6 + 5 from rfl, rowsT_at l i 5 t ht (by omega)]; rfl)) .nil))))))) fun a hS => ?_
    refine eff_box wide_wide (r := 1) (cs := #[.int .i64 0, .int .i64 0, .int .i64 0, .int .i64 0, .int .i64 0, .int .i64 0]) (T := 64) (d := (some 5)) hS (by kernel_rfl) fun a w10 hw11 hS => ?_
    have hn12 : g ≠ w3.heap.size := Nat.ne_of_lt hO3.lt
    have hn13 : ∀ x ∈ ob (.slice lb i lc), w3.heap.size ≠ x := fun x hx => Nat.ne_of_gt (hlO.lie x hx)
    have hB14 := OwnR.at' hw11 (hO3.alloc _)
    have hB15 := OwnV.at' hw11 (hlO.alloc _)
    have hB16 : Blk w10 (w3.heap.size) 64 #[.int .i64 0, .int .i64 0, .int .i64 0, .int .i64 0, .int .i64 0, .int .i64 0] := by rw [hw11]; exact Blk.new _ _ _
    have hs17 : w.heap.size ≤ w3.heap.size := hEx.size
    have hE18 : Ext [] w w10 := by rw [hw11]; exact hEx.alloc _
    refine eff_store wide_wide (r := 0) (b := w3.heap.size) (off := 0) (vs := [.int .i64 t.kd, .int .i64 t.nn, .int .i64 t.ls, .int .i64 t.ll, .int .i64 ↑t.kids.length, .int .i64 t.num]) hS (by kernel_rfl) hB16 (by simp) fun a w19 hw20 hS => ?_
    have hB21 := OwnR.at' hw20 (hB14.updNe (Ne.symm hn12) _ _)
    have hB22 := OwnV.at' hw20 (hB15.updNe hn13 _ _)
    have hB23 : Blk w19 w3.heap.size 64 (#[.int .i64 t.kd, .int .i64 t.nn, .int .i64 t.ls, .int .i64 t.ll, .int .i64 ↑t.kids.length, .int .i64 t.num]) := by rw [hw20]; exact hB16.upd _ _
    have hE24 : Ext [] w w19 := by rw [hw20]; exact hE18.updIn (.inr hs17) _ _
    refine seg_end ?_
    refine hK9 _ _ ?_
    refine wpIn_seq_k fun K25 hK25 => ?_
    refine region 2 (by kernel_rfl) ?_
    refine seg wide_wide [.p] [0, 3, 4, 5, 16] [] [(0, .slice (some ⟨g, 0, none⟩) n cap), (3, .slice lb i lc), (4, .int .i64 ↑i), (5, .pointer (some ⟨w3.heap.size, 0, none⟩)), (16, .pointer (some ⟨w3.heap.size, 5, none⟩))] 1 1 hS (by kernel_rfl) (by kernel_rfl) (by kernel_rfl) .nil fun a hS => ?_
    refine eff_store wide_wide (r := 0) (b := w3.heap.size) (off := 5) (vs := [.int .i64 0]) hS (by kernel_rfl) hB23 (by simp) fun a w26 hw27 hS => ?_
    have hB28 := OwnR.at' hw27 (hB21.updNe (Ne.symm hn12) _ _)
    have hB29 := OwnV.at' hw27 (hB22.updNe hn13 _ _)
    have hB30 : Blk w26 w3.heap.size 64 (#[.int .i64 t.kd, .int .i64 t.nn, .int .i64 t.ls, .int .i64 t.ll, .int .i64 ↑t.kids.length, .int .i64 0]) := by rw [hw27]; exact hB23.upd _ _
    have hE31 : Ext [] w w26 := by rw [hw27]; exact hE24.updIn (.inr hs17) _ _
    refine seg_end ?_
    refine hK25 _ _ ?_
    refine region 5 (by kernel_rfl) ?_
    refine seg wide_wide [.p, .lds [.int .i64 t.kd, .int .i64 t.nn, .int .i64 t.ls, .int .i64 t.ll, .int .i64 ↑t.kids.length, .int .i64 0]] [0, 3, 4, 5, 17, 18] [w26.cell? ⟨w3.heap.size, 0, none⟩ = some (.int .i64 t.kd), w26.cell? ⟨w3.heap.size, 1, none⟩ = some (.int .i64 t.nn), w26.cell? ⟨w3.heap.size, 2, none⟩ = some (.int .i64 t.ls), w26.cell? ⟨w3.heap.size, 3, none⟩ = some (.int .i64 t.ll), w26.cell? ⟨w3.heap.size, 4, none⟩ = some (.int .i64 ↑t.kids.length), w26.cell? ⟨w3.heap.size, 5, none⟩ = some (.int .i64 0)] [(0, .slice (some ⟨g, 0, none⟩) n cap), (3, .slice lb i lc), (4, .int .i64 ↑i), (5, .pointer (some ⟨w3.heap.size, 0, none⟩)), (17, .slice lb i lc), (18, .agg #[.int .i64 t.kd, .int .i64 t.nn, .int .i64 t.ls, .int .i64 t.ll, .int .i64 ↑t.kids.length, .int .i64 0])] 2 3 hS (by kernel_rfl) (by kernel_rfl) (by kernel_rfl) (.cons (hB30.cell 0 rfl) (.cons (hB30.cell 1 rfl) (.cons (hB30.cell 2 rfl) (.cons (hB30.cell 3 rfl) (.cons (hB30.cell 4 rfl) (.cons (hB30.cell 5 rfl) .nil)))))) fun a hS => ?_
    refine eff_new wide_wide (r := 2) (cs := #[.int .i64 t.kd, .int .i64 t.nn, .int .i64 t.ls, .int .i64 t.ll, .int .i64 ↑t.kids.length, .int .i64 0]) (T := 64) (v := Value.slice (some ⟨w26.heap.size, 0, none⟩) 1 1) (d := (some 19)) hS (by kernel_rfl) fun a w32 hw33 hS => ?_
    have hn34 : g ≠ w26.heap.size := Nat.ne_of_lt hB28.lt
    have hn35 : ∀ x ∈ ob (.slice lb i lc), w26.heap.size ≠ x := fun x hx => Nat.ne_of_gt (hB29.lie x hx)
    have hn36 : w3.heap.size ≠ w26.heap.size := Nat.ne_of_lt hB30.lt
    have hB37 := OwnR.at' hw33 (hB28.alloc _)
    have hB38 := OwnV.at' hw33 (hB29.alloc _)
    have hB39 := Blk.at' hw33 (hB30.alloc _)
    have hB40 : Blk w32 (w26.heap.size) 64 #[.int .i64 t.kd, .int .i64 t.nn, .int .i64 t.ls, .int .i64 t.ll, .int .i64 ↑t.kids.length, .int .i64 0] := by rw [hw33]; exact Blk.new _ _ _
    have hs41 : w.heap.size ≤ w26.heap.size := hE31.size
    have hE42 : Ext [] w w32 := by rw [hw33]; exact hE31.alloc _
    refine eff_append2 wide_wide (r := 1) (d := (some 20)) (t := 54) (ty := 54) (e := 64) (size := 6) (bytes := 48) (len := i) (b := w26.heap.size) (off := 0) (k := 1) (c := 1) (z := #[.int .i64 0, .int .i64 0, .int .i64 0, .int .i64 0, .int .i64 0, .int .i64 0]) (v := Value.slice lb i lc) (xs := (rowsP (l.take i))) [.int .i64 t.kd, .int .i64 t.nn, .int .i64 t.ls, .int .i64 t.ll, .int .i64 ↑t.kids.length, .int .i64 0] hS (by kernel_rfl) (by kernel_rfl) (by kernel_rfl) (by kernel_rfl) (by kernel_rfl) hB38 (by simp) (fun j u hu => by rw [Nat.zero_add]; exact hB40.cell j (by simpa using hu)) rfl (by omega) (by omega) (by omega) fun ga43 ca43 a wa43 hOa43 hEa43 hFa43 hS => ?_
    have hB44 := hB37.ext hEa43 ((fun hm => by have h1 := hO.lt; have h2 := hln g (by rw [ob_oa] at hm; exact hm); omega))
    have hB45 := hB39.ext hEa43 (fun hm => hn13 _ hm rfl)
    have hB46 := hB40.ext hEa43 (fun hm => hn35 _ hm rfl)
    have hE47 : Ext [] w wa43 := hE42.trans hEa43 (fun b hb => .inr (hln b (by rw [ob_oa] at hb; exact hb)))
    refine seg wide_wide [.p] [0, 3, 4, 5] [] [(0, .slice (some ⟨g, 0, none⟩) n cap), (3, .slice (some ⟨ga43, 0, none⟩) (i + 1) ca43), (4, .int .i64 ↑i), (5, .pointer (some ⟨w3.heap.size, 0, none⟩))] 5 0 hS (by kernel_rfl) (by kernel_rfl) (by kernel_rfl) .nil fun a hS => ?_
    refine seg_end ?_
    refine inBlock_normal ?_
    refine hK8 _ _ ?_
    refine region 3 (by kernel_rfl) ?_
    refine seg wide_wide [.p, .as (.int .i64 (↑i + 1)), .p] [0, 3, 4, 5] [Value.int .i64 (IntKind.i64.wrap (↑i + 1)) = .int .i64 (↑i + 1)] [(0, .slice (some ⟨g, 0, none⟩) n cap), (3, .slice (some ⟨ga43, 0, none⟩) (i + 1) ca43), (4, .int .i64 (↑i + 1)), (5, .pointer (some ⟨w3.heap.size, 0, none⟩))] 3 0 hS (by kernel_rfl) (by kernel_rfl) (by kernel_rfl) (.cons (as_i64 (by omega)) .nil) fun a hS => ?_
    refine seg_end ?_
    refine ⟨(i + 1, some ⟨ga43, 0, none⟩, ca43), ⟨hS.keepTo [0, 3, 4] (by kernel_rfl), by omega, ?_, ?_, hE47⟩, by simp; omega⟩
    · have h := (hOa43 : OwnR _ _ _ _ _ _ _).v
      rw [htk, rowsP_append]
      simpa [rowsP, rowP] using h
    · intro x hx
      obtain rfl := (by have h := hx; simp [oa] at h; exact h.symm : ga43 = x)
      rcases hFa43 ga43 (by simp) with h | h
      · exact hln _ (by rw [ob_oa] at h; exact h)
      · exact Nat.le_trans hE42.size h
  · -- decide ((↑i : Int) < ↑n) is false
    replace hb7 := of_decide_eq_false hb7
    have hin : n = i := by omega
    subst hin
    rw [List.take_of_length_le (by omega)] at hlO
    refine wpIn_exit ?_
    refine then_exit ?_
    refine then_exit ?_
    refine inBlock_hit ?_
    refine hK3 _ _ ?_
    refine wpIn_seq_k fun K48 hK48 => ?_
    refine region 2 (by kernel_rfl) ?_
    refine seg wide_wide [.p, .p] [0, 3, 2] [] [(0, .slice (some ⟨g, 0, none⟩) n cap), (3, .slice lb n lc), (2, .slice lb n lc)] 2 0 hS (by kernel_rfl) (by kernel_rfl) (by kernel_rfl) .nil fun a hS => ?_
    refine seg_end ?_
    refine hK48 _ _ ?_
    refine wpIn_ret ?_
    refine ret1 hS Try.results28 rfl ?_
    exact ⟨lb, lc, rfl, hlO, hEx⟩

theorem SameRows_eq {ab bb : Option Addr} {n ac bc : Nat} {l : List Tr} {w : World} (hA : OwnV w 64 6 (.slice ab n ac) n (rowsP l)) (hB : OwnV w 64 6 (.slice bb n bc) n (rowsP l)) (hn : n = l.length) (hm : n ≤ 1000000000) :
    Calls Try.prog 27 #[.slice ab n ac, .slice bb n bc] w fun e w' => e = .returned (.bool true) ∧ Ext [] w w' := by
  refine calls_body 26 [(0, .slice ab n ac), (1, .slice bb n bc)] Try.func27 rfl (by kernel_rfl) (by kernel_rfl) (by kernel_rfl) fun a hS => ?_
  have hE0 : Ext [] w w := Ext.refl _ _
  refine wpIn_seq_k fun K1 hK1 => ?_
  refine region 1 (by kernel_rfl) ?_
  refine seg wide_wide [.p] [0, 1, 4] [] [(0, .slice ab n ac), (1, .slice bb n bc), (4, .bool false)] 1 0 hS (by kernel_rfl) (by kernel_rfl) (by kernel_rfl) .nil fun a hS => ?_
  refine seg_end ?_
  refine hK1 _ _ ?_
  refine wpIn_seq_k fun K2 hK2 => ?_
  refine wpIn_seq_k fun K3 hK3 => ?_
  refine region 5 (by kernel_rfl) ?_
  refine seg wide_wide [.p, .p, .p, .p, .as (.bool false)] [0, 1, 4, 10] [Value.bool (((↑n : Int) != ↑n)) = .bool false] [(0, .slice ab n ac), (1, .slice bb n bc), (4, .bool false), (10, .bool false)] 5 0 hS (by kernel_rfl) (by kernel_rfl) (by kernel_rfl) (.cons (as_ne_f (rfl)) .nil) fun a hS => ?_
  refine seg_end ?_
  refine hK3 _ _ ?_
  refine cond_f hS rfl ?_
  refine wpIn_skip ?_
  refine hK2 _ _ ?_
  refine wpIn_seq_k fun K4 hK4 => ?_
  refine wpIn_seq_k fun K5 hK5 => ?_
  refine region 1 (by kernel_rfl) ?_
  refine seg wide_wide [.p] [0, 1, 4, 10, 5] [] [(0, .slice ab n ac), (1, .slice bb n bc), (4, .bool false), (10, .bool false), (5, .int .i64 0)] 1 0 hS (by kernel_rfl) (by kernel_rfl) (by kernel_rfl) .nil fun a hS => ?_
  refine seg_end ?_
  refine hK5 _ _ ?_
  refine wpIn_block ?_
  refine loop_ghost (fun (i : Nat) a' w' => St 26 [] [(0, .slice ab n ac), (1, .slice bb n bc), (5, .int .i64 ↑i)] a' ∧ i ≤ n ∧ Ext [] w w') (fun (i : Nat) => n - i) 0 ⟨hS.keepTo [0, 1, 5] (by kernel_rfl), Nat.zero_le _, hE0⟩ ?_
  rintro i a w3 ⟨hS, hil, hEx⟩
  have hA3 := hA.ext hEx (by simp)
  have hB3 := hB.ext hEx (by simp)
  refine wpIn_seq_k fun K6 hK6 => ?_
  refine wpIn_seq_k fun K7 hK7 => ?_
  refine region 4 (by kernel_rfl) ?_
  refine seg wide_wide [.p, .p, .p, .p] [0, 1, 5, 14] [] [(0, .slice ab n ac), (1, .slice bb n bc), (5, .int .i64 ↑i), (14, .bool (decide ((↑i : Int) < ↑n)))] 4 0 hS (by kernel_rfl) (by kernel_rfl) (by kernel_rfl) .nil fun a hS => ?_
  refine seg_end ?_
  refine hK7 _ _ ?_
  refine cond_b hS rfl (fun hb8 => ?_) (fun hb8 => ?_)
  · -- decide ((↑i : Int) < ↑n) is true
    replace hb8 := of_decide_eq_true hb8
    have hi : i < n := by omega
    obtain ⟨t, ht⟩ : ∃ t, l[i]? = some t := ⟨_, List.getElem?_eq_getElem (by omega)⟩
    refine wpIn_skip ?_
    refine hK6 _ _ ?_
    refine wpIn_seq_k fun K9 hK9 => ?_
    refine wpIn_block ?_
    refine wpIn_seq_k fun K10 hK10 => ?_
    refine region_fn2 wide_wide [.q .p, .q .p, .q (.run (.pointer (some ⟨bof (.slice ab n ac), 0 + i * 6, none⟩))), .q (.lds [.int .i64 t.kd, .int .i64 t.nn, .int .i64 t.ls, .int .i64 t.ll, .int .i64 ↑t.kids.length, .int .i64 0]), .q .p, .q .p, .q (.run (.pointer (some ⟨bof (.slice bb n bc), 0 + i * 6, none⟩))), .q (.lds [.int .i64 t.kd, .int .i64 t.nn, .int .i64 t.ls, .int .i64 t.ll, .int .i64 ↑t.kids.length, .int .i64 0]), .q (.run (.bool false))] [0, 0, 0, 0, 0, 0, 0, 0, 0] [0, 0, 0, 0, 0, 0, 0, 0, 0] [0, 0, 3, 7, 0, 0, 48, 112, 255] [] 0 ([(0, .slice ab n ac), (1, .slice bb n bc), (5, .int .i64 ↑i), (17, .slice ab n ac), (18, .int .i64 ↑i), (19, .pointer (some ⟨bof (.slice ab n ac), 0 + i * 6, none⟩)), (20, .agg #[.int .i64 t.kd, .int .i64 t.nn, .int .i64 t.ls, .int .i64 t.ll, .int .i64 ↑t.kids.length, .int .i64 0]), (21, .slice bb n bc), (22, .int .i64 ↑i), (23, .pointer (some ⟨bof (.slice bb n bc), 0 + i * 6, none⟩)), (24, .agg #[.int .i64 t.kd, .int .i64 t.nn, .int .i64 t.ls, .int .i64 t.ll, .int .i64 ↑t.kids.length, .int .i64 0]), (25, .bool false)]) [w3.drew] w3.drew (fun w' => [(2, [Sem.run Try.prog (vS (Instr.indexAt 54 (.slice ab n ac) (.int .i64 ↑i))) w' = .ok (.value (.pointer (some ⟨bof (.slice ab n ac), 0 + i * 6, none⟩))) w']), (3, [w'.cell? ⟨bof (.slice ab n ac), 0 + i * 6, none⟩ = some (.int .i64 t.kd), w'.cell? ⟨bof (.slice ab n ac), 0 + i * 6 + 1, none⟩ = some (.int .i64 t.nn), w'.cell? ⟨bof (.slice ab n ac), 0 + i * 6 + 2, none⟩ = some (.int .i64 t.ls), w'.cell? ⟨bof (.slice ab n ac), 0 + i * 6 + 3, none⟩ = some (.int .i64 t.ll), w'.cell? ⟨bof (.slice ab n ac), 0 + i * 6 + 4, none⟩ = some (.int .i64 ↑t.kids.length), w'.cell? ⟨bof (.slice ab n ac), 0 + i * 6 + 5, none⟩ = some (.int .i64 0)]), (6, [Sem.run Try.prog (vS (Instr.indexAt 54 (.slice bb n bc) (.int .i64 ↑i))) w' = .ok (.value (.pointer (some ⟨bof (.slice bb n bc), 0 + i * 6, none⟩))) w']), (7, [w'.cell? ⟨bof (.slice bb n bc), 0 + i * 6, none⟩ = some (.int .i64 t.kd), w'.cell? ⟨bof (.slice bb n bc), 0 + i * 6 + 1, none⟩ = some (.int .i64 t.nn), w'.cell? ⟨bof (.slice bb n bc), 0 + i * 6 + 2, none⟩ = some (.int .i64 t.ls), w'.cell? ⟨bof (.slice bb n bc), 0 + i * 6 + 3, none⟩ = some (.int .i64 t.ll), w'.cell? ⟨bof (.slice bb n bc), 0 + i * 6 + 4, none⟩ = some (.int .i64 ↑t.kids.length), w'.cell? ⟨bof (.slice bb n bc), 0 + i * 6 + 5, none⟩ = some (.int .i64 0)]), (8, [Sem.run Try.prog (vS (do eqGuard .neq 64 (.tmp 20) (.tmp 24) (.agg #[.int .i64 t.kd, .int .i64 t.nn, .int .i64 t.ls, .int .i64 t.ll, .int .i64 ↑t.kids.length, .int .i64 0]) (.agg #[.int .i64 t.kd, .int .i64 t.nn, .int .i64 t.ls, .int .i64 t.ll, .int .i64 ↑t.kids.length, .int .i64 0]); binOp .neq 64 (.agg #[.int .i64 t.kd, .int .i64 t.nn, .int .i64 t.ls, .int .i64 t.ll, .int .i64 ↑t.kids.length, .int .i64 0]) (.agg #[.int .i64 t.kd, .int .i64 t.nn, .int .i64 t.ls, .int .i64 t.ll, .int .i64 ↑t.kids.length, .int .i64 0]))) w' = .ok (.value (.bool false)) w'])]) [0, 1, 5] [] hS (by kernel_rfl) (by kernel_rfl) (by kernel_rfl) (by kernel_rfl) (fun _ => by kernel_rfl) (by kernel_rfl) (by kernel_rfl) (by kernel_rfl) ?_ ?_ ?_
    · intro e w' hw
      refine (.cons ?_ (.cons ?_ (.cons ?_ (.cons ?_ (.cons ?_ .nil)))))
      · exact fun _ _ => (.cons (ix_own (j := i) (hA3) (by kernel_rfl) (by kernel_rfl) rfl hi) .nil)
      · intro h1 h2
        obtain rfl : e = 0 := Nat.le_antisymm h2 h1
        obtain rfl : w' = w3.drew := hw.trans (by kernel_rfl)
        exact (.cons ((hA3.drew : OwnV w3.drew 64 6 (.slice ab n ac) n (rowsP l)).cellAt _ (by rw [show 0 + i * 6 = 0 + i * 6 + 0 from rfl, rowsP_at l i 0 t ht (by omega)]; rfl)) (.cons ((hA3.drew : OwnV w3.drew 64 6 (.slice ab n ac) n (rowsP l)).cellAt _ (by rw [show 0 + i * 6 + 1 = 0 + i * 6 + 1 from rfl, rowsP_at l i 1 t ht (by omega)]; rfl)) (.cons ((hA3.drew : OwnV w3.drew 64 6 (.slice ab n ac) n (rowsP l)).cellAt _ (by rw [show 0 + i * 6 + 2 = 0 + i * 6 + 2 from rfl, rowsP_at l i 2 t ht (by omega)]; rfl)) (.cons ((hA3.drew : OwnV w3.drew 64 6 (.slice ab n ac) n (rowsP l)).cellAt _ (by rw [show 0 + i * 6 + 3 = 0 + i * 6 + 3 from rfl, rowsP_at l i 3 t ht (by omega)]; rfl)) (.cons ((hA3.drew : OwnV w3.drew 64 6 (.slice ab n ac) n (rowsP l)).cellAt _ (by rw [show 0 + i * 6 + 4 = 0 + i * 6 + 4 from rfl, rowsP_at l i 4 t ht (by omega)]; rfl)) (.cons ((hA3.drew : OwnV w3.drew 64 6 (.slice ab n ac) n (rowsP l)).cellAt _ (by rw [show 0 + i * 6 + 5 = 0 + i * 6 + 5 from rfl, rowsP_at l i 5 t ht (by omega)]; rfl)) .nil))))))
      · exact fun _ _ => (.cons (ix_own (j := i) (hB3) (by kernel_rfl) (by kernel_rfl) rfl hi) .nil)
      · intro h1 h2
        obtain rfl : e = 0 := Nat.le_antisymm h2 h1
        obtain rfl : w' = w3.drew := hw.trans (by kernel_rfl)
        exact (.cons ((hB3.drew : OwnV w3.drew 64 6 (.slice bb n bc) n (rowsP l)).cellAt _ (by rw [show 0 + i * 6 = 0 + i * 6 + 0 from rfl, rowsP_at l i 0 t ht (by omega)]; rfl)) (.cons ((hB3.drew : OwnV w3.drew 64 6 (.slice bb n bc) n (rowsP l)).cellAt _ (by rw [show 0 + i * 6 + 1 = 0 + i * 6 + 1 from rfl, rowsP_at l i 1 t ht (by omega)]; rfl)) (.cons ((hB3.drew : OwnV w3.drew 64 6 (.slice bb n bc) n (rowsP l)).cellAt _ (by rw [show 0 + i * 6 + 2 = 0 + i * 6 + 2 from rfl, rowsP_at l i 2 t ht (by omega)]; rfl)) (.cons ((hB3.drew : OwnV w3.drew 64 6 (.slice bb n bc) n (rowsP l)).cellAt _ (by rw [show 0 + i * 6 + 3 = 0 + i * 6 + 3 from rfl, rowsP_at l i 3 t ht (by omega)]; rfl)) (.cons ((hB3.drew : OwnV w3.drew 64 6 (.slice bb n bc) n (rowsP l)).cellAt _ (by rw [show 0 + i * 6 + 4 = 0 + i * 6 + 4 from rfl, rowsP_at l i 4 t ht (by omega)]; rfl)) (.cons ((hB3.drew : OwnV w3.drew 64 6 (.slice bb n bc) n (rowsP l)).cellAt _ (by rw [show 0 + i * 6 + 5 = 0 + i * 6 + 5 from rfl, rowsP_at l i 5 t ht (by omega)]; rfl)) .nil))))))
      · exact fun _ _ => (.cons ((bin_agg_self (by kernel_rfl) (by kernel_rfl)).2) .nil)
    · refine .nil
    rintro a w12 hS hw13
    replace hw13 : w12 = w3.drew := hw13.trans (by kernel_rfl)
    have hB14 := OwnV.at' hw13 (hA3.drew)
    have hB15 := OwnV.at' hw13 (hB3.drew)
    have hE16 : Ext [] w w12 := by rw [hw13]; exact hEx.drew
    replace hS := hS.keepTo [0, 1, 5, 25] (m' := [(0, .slice ab n ac), (1, .slice bb n bc), (5, .int .i64 ↑i), (25, .bool false)]) (by kernel_rfl)
    refine hK10 _ _ ?_
    refine cond_f hS rfl ?_
    refine wpIn_skip ?_
    refine inBlock_normal ?_
    refine hK9 _ _ ?_
    refine region 3 (by kernel_rfl) ?_
    refine seg wide_wide [.p, .as (.int .i64 (↑i + 1)), .p] [0, 1, 5, 25] [Value.int .i64 (IntKind.i64.wrap (↑i + 1)) = .int .i64 (↑i + 1)] [(0, .slice ab n ac), (1, .slice bb n bc), (5, .int .i64 (↑i + 1)), (25, .bool false)] 3 0 hS (by kernel_rfl) (by kernel_rfl) (by kernel_rfl) (.cons (as_i64 (by omega)) .nil) fun a hS => ?_
    refine seg_end ?_
    exact ⟨i + 1, ⟨hS.keepTo [0, 1, 5] (by kernel_rfl), by omega, hE16⟩, by omega⟩
  · -- decide ((↑i : Int) < ↑n) is false
    replace hb8 := of_decide_eq_false hb8
    refine wpIn_exit ?_
    refine then_exit ?_
    refine then_exit ?_
    refine inBlock_hit ?_
    refine hK4 _ _ ?_
    refine wpIn_seq_k fun K17 hK17 => ?_
    refine region 1 (by kernel_rfl) ?_
    refine seg wide_wide [.p] [0, 1, 5, 4] [] [(0, .slice ab n ac), (1, .slice bb n bc), (5, .int .i64 ↑i), (4, .bool true)] 1 0 hS (by kernel_rfl) (by kernel_rfl) (by kernel_rfl) .nil fun a hS => ?_
    refine seg_end ?_
    refine hK17 _ _ ?_
    refine wpIn_ret ?_
    refine ret1 hS Try.results27 rfl ?_
    exact ⟨rfl, hEx⟩

end Go.Proofs.Ytpglmeeledmkoaa
