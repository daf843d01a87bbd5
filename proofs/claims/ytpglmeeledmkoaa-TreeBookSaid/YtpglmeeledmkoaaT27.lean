import Derived.Test.YtpglmeeledmkoaaProg
import Derived.Test.YtpglmeeledmkoaaVc
import Derived.Test.YtpglmeeledmkoaaT26
namespace Go.Proofs.Ytpglmeeledmkoaa
open Go.Vc

theorem Last_any {N m : Nat} {w : World} {F : Fo} (hF : FI N m w F) (hm : m ≤ 1000000000000000) :
  Calls Try.prog 13 #[(Pv F.fb)] w fun e w' => w' = w ∧ ((∃ i r, e = .returned (I6 (i : Nat)) ∧ F.L[i]? = some r ∧ r.t.tt ≤ 4000) ∨ e = .returned (I6 (-1))) := by
 have hcb := hF.cb
 refine calls_body 26 [(0, (Pv F.fb))] Try.func13 rfl (by kernel_rfl) (by kernel_rfl) (by kernel_rfl) fun a hS => ?_
 refine sq fun K1 hK1 => ?_
 refine rgn 1 ?_
 refine sg wide_wide [.p] [] [(0, (Pv F.fb)), (2, I6 0)] 1 0 hS .nil fun a hS => ?_
 refine seg_end ?_
 refine hK1 _ _ ?_
 refine sq fun K2 hK2 => ?_
 refine sq fun K3 hK3 => ?_
 refine rgn 7 ?_
 refine sg wide_wide [.p, .p, .p, .ld (.slice F.qb F.L.length F.qc), .p, .as (I6 (↑F.L.length - 1)), .p] [_, Value.int .i64 (IntKind.i64.wrap (↑F.L.length - 1)) = I6 (↑F.L.length - 1)] [(0, (Pv F.fb)), (2, I6 0), (3, I6 (↑F.L.length - 1))] 7 0 hS (.cons ((hF.f).cell 3 rfl) (.cons (as_i64 (by omega)) .nil)) fun a hS => ?_
 refine seg_end ?_
 refine hK3 _ _ ?_
 refine wpIn_block ?_
 refine loop_ghost (fun (j : Int) a' w' => St 26 [] [(0, (Pv F.fb)), (3, I6 j)] a' ∧ w' = w ∧ -1 ≤ j ∧ j < F.L.length) (fun (j : Int) => (j + 1).toNat) ((F.L.length : Int) - 1) ⟨hS.keepTo [0, 3] (by kernel_rfl), rfl, by omega, by omega⟩ ?_
 rintro j a w2 ⟨hS, hw2, hj1, hj2⟩
 rw [hw2]
 refine sq fun K4 hK4 => ?_
 refine sq fun K5 hK5 => ?_
 refine rgn 2 ?_
 refine sg wide_wide [.p, .p] [] [(0, (Pv F.fb)), (3, I6 j), (11, .bool (decide ((j : Int) ≥ 0)))] 2 0 hS .nil fun a hS => ?_
 refine seg_end ?_
 refine hK5 _ _ ?_
 refine cond_b hS rfl (fun hb6 => ?_) (fun hb6 => ?_)
 ·
  replace hb6 := of_decide_eq_true hb6
  obtain ⟨i, hi, hil⟩ : ∃ i : Nat, j = i ∧ i < F.L.length := ⟨j.toNat, by omega, by omega⟩
  subst hi
  obtain ⟨r, hr⟩ : ∃ r, F.L[i]? = some r := ⟨_, List.getElem?_eq_getElem hil⟩
  have hr1 := hF.ok.one r (List.mem_of_getElem? hr)
  have hrow := hr1.row
  have hB : Blk w r.rb 40 #[I6 r.k, I6 ↑r.i, I6 r.t.kd, I6 r.t.nn, I6 r.t.lk, I6 r.t.ls, I6 r.t.ll, I6 r.t.lr, r.kv, I6 r.t.tt] := hr1.blk
  refine wpIn_skip ?_
  refine hK4 _ _ ?_
  refine sq fun K7 hK7 => ?_
  refine wpIn_block ?_
  refine sq fun K8 hK8 => ?_
  refine rgn 11 ?_
  refine sg wide_wide [.p, .p, .p, .ld (.slice F.qb F.L.length F.qc), .p, .run ((Po (bof (.slice F.qb F.L.length F.qc)) (0 + i * 1))), .ld ((Pv r.rb)), .p, .p, .ld (I6 r.t.tt), .p] [_, Ru Try.prog (vS (Instr.indexAt 33 (.slice F.qb F.L.length F.qc) (I6 ↑i))) ((Po (bof (.slice F.qb F.L.length F.qc)) (0 + i * 1))) w, w.cell? ⟨bof (.slice F.qb F.L.length F.qc), 0 + i * 1, none⟩ = some ((Pv r.rb)), _] [(0, (Pv F.fb)), (3, I6 ↑i), (24, .bool (decide ((r.t.tt : Int) ≤ 4000)))] 11 0 hS (.cons ((hF.f).cell 3 rfl) (.cons (ix_own (j := i) (hF.R) (by kernel_rfl) (by kernel_rfl) rfl hil) (.cons (hF.R.cellAt _ (by simp [hr, Rf.ptr])) (.cons (hB.cell 9 rfl) .nil)))) fun a hS => ?_
  refine seg_end ?_
  refine hK8 _ _ ?_
  refine cond_b hS rfl (fun hb9 => ?_) (fun hb9 => ?_)
  ·
   replace hb9 := of_decide_eq_true hb9
   refine sq fun K10 hK10 => ?_
   refine rgn 2 ?_
   refine sg wide_wide [.p, .p] [] [(0, (Pv F.fb)), (3, I6 ↑i), (2, I6 ↑i)] 2 0 hS .nil fun a hS => ?_
   refine seg_end ?_
   refine hK10 _ _ ?_
   refine wpIn_ret ?_
   refine inBlock_ret ?_
   refine then_ret ?_
   refine then_ret ?_
   refine inBlock_ret ?_
   refine then_ret ?_
   refine ret1 hS Try.results13 rfl ?_
   exact ⟨rfl, .inl ⟨i, r, rfl, hr, hb9⟩⟩
  ·
   replace hb9 := of_decide_eq_false hb9
   refine wpIn_skip ?_
   refine inBlock_normal ?_
   refine hK7 _ _ ?_
   refine rgn 3 ?_
   refine sg wide_wide [.p, .as (I6 (↑i - 1)), .p] [Value.int .i64 (IntKind.i64.wrap (↑i - 1)) = I6 (↑i - 1)] [(0, (Pv F.fb)), (3, I6 (↑i - 1))] 3 0 hS (.cons (as_i64 (by omega)) .nil) fun a hS => ?_
   refine seg_end ?_
   exact ⟨(i : Int) - 1, ⟨hS.keepTo [0, 3] (by kernel_rfl), rfl, by omega, by omega⟩, by omega⟩
 ·
  replace hb6 := of_decide_eq_false hb6
  refine wpIn_exit ?_
  refine then_exit ?_
  refine then_exit ?_
  refine inBlock_hit ?_
  refine hK2 _ _ ?_
  refine sq fun K11 hK11 => ?_
  refine rgn 1 ?_
  refine sg wide_wide [.p] [] [(0, (Pv F.fb)), (3, I6 j), (2, I6 (-1))] 1 0 hS .nil fun a hS => ?_
  refine seg_end ?_
  refine hK11 _ _ ?_
  refine wpIn_ret ?_
  refine ret1 hS Try.results13 rfl ?_
  exact ⟨rfl, .inr rfl⟩

theorem RWalk_any {s0 s1 : Nat} {L : List Rf} {r : Rf} {w : World} (hF : FOk w s0 s1 L) (hr : r ∈ L) :
  Calls Try.prog 14 #[(Pv r.rb)] w fun e w' => ∃ (l : List (Sp × Value)) (g cap : Nat), e = .returned (.slice (some ⟨g, 0, none⟩) l.length cap) ∧ l.map (·.1) = rwalk r 0 [] ∧ OwnR w' 43 3 g cap l.length (spc l) ∧ Ext [] w w' ∧ w.heap.size ≤ g ∧ (∀ q ∈ l, OwnV w' 3 1 q.2 q.1.path.length (ints q.1.path) ∧ ∀ b ∈ ob q.2, w.heap.size ≤ b) := by
 have htt := hF.tt hr
 refine calls_body 5 [(0, (Pv r.rb))] Try.func14 rfl (by kernel_rfl) (by kernel_rfl) (by kernel_rfl) fun a hS => ?_
 refine sq fun K1 hK1 => ?_
 refine rgn 1 ?_
 refine sg wide_wide [.p] [] [(0, (Pv r.rb)), (2, .slice none 0 0)] 1 0 hS .nil fun a hS => ?_
 refine seg_end ?_
 refine hK1 _ _ ?_
 refine sq fun K2 hK2 => ?_
 refine rgn 3 ?_
 refine sg wide_wide [.p] [] [(0, (Pv r.rb)), (2, .slice none 0 0), (3, (Pv r.rb))] 1 2 hS .nil fun a hS => ?_
 refine eff_call wide_wide (r := 1) (f := 51) (vs := [.slice none 0 0, (Pv r.rb), I6 0, .slice none 0 0]) (cap := #[]) (d := (some 4)) hS (by kernel_rfl) Try.call51 #[.slice none 0 0, (Pv r.rb), I6 0, .slice none 0 0] (by kernel_rfl) (RWalk_l r hr 0 [] [] none 0 (.slice none 0 0) w hF (OwnV.nil _ _ _) (OwnV.nil _ _ _) (by simp; omega)) ?_
 rintro _ w9 ⟨l, g, cap, rfl, hl, hO, hE, hg, hp⟩
 simp only [List.length_nil, Nat.zero_add, List.nil_append] at hO
 refine ⟨_, rfl, fun a hS => ?_⟩
 simp only [List.length_nil, Nat.zero_add] at hS
 refine sg wide_wide [.p] [] [(0, (Pv r.rb)), (2, .slice (some ⟨g, 0, none⟩) l.length cap)] 3 0 hS .nil fun a hS => ?_
 refine seg_end ?_
 refine hK2 _ _ ?_
 refine wpIn_ret ?_
 refine ret1 hS Try.results14 rfl ?_
 exact ⟨l, g, cap, rfl, hl, hO, hE, hg.resolve_left (by simp [oa]), fun q hq => ⟨(hp q hq).1, fun b hb => ((hp q hq).2 b hb).resolve_left (by simp [ob])⟩⟩

end Go.Proofs.Ytpglmeeledmkoaa
