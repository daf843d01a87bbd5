import Derived.Test.YtpglmeeledmkoaaProg
import Derived.Test.YtpglmeeledmkoaaVc
import Derived.Test.YtpglmeeledmkoaaT3
namespace Go.Proofs.Ytpglmeeledmkoaa
open Go.Vc

theorem Walk_any (b : Nat) (w : World) :
  Calls Try.prog 29 #[(Pv b)] w fun e w' => e = .returned (.func (.func 55) #[] #[pv w.heap.size]) ∧ w' = w.alloc (.cells #[pv b] 47) := by
 refine calls_body 4 [(0, (Pv b))] Try.func29 rfl (by kernel_rfl) (by kernel_rfl) (by kernel_rfl) fun a hS => ?_
 refine sq fun K1 hK1 => ?_
 refine rgn 2 ?_
 refine eff_box wide_wide (r := 1) (cs := #[(Pv b)]) (T := 47) (d := (some 1)) hS (by kernel_rfl) fun a w2 hw3 hS => ?_
 refine sg wide_wide [.p] [] [(0, (Pv b)), (1, (Pv w.heap.size)), (2, .nilFunc)] 2 0 hS .nil fun a hS => ?_
 refine seg_end ?_
 refine hK1 _ _ ?_
 refine sq fun K5 hK5 => ?_
 refine rgn 2 ?_
 refine sg wide_wide [.p, .p] [] [(0, (Pv b)), (1, (Pv w.heap.size)), (2, .func (.func 55) #[] #[(Pv w.heap.size)])] 2 0 hS .nil fun a hS => ?_
 refine seg_end ?_
 refine hK5 _ _ ?_
 refine wpIn_ret ?_
 refine ret1 hS Try.results29 rfl ?_
 exact ⟨rfl, hw3⟩

theorem Leaves_any (b : Nat) (w : World) :
  Calls Try.prog 30 #[(Pv b)] w fun e w' => e = .returned (.func (.func 57) #[] #[pv w.heap.size]) ∧ w' = w.alloc (.cells #[pv b] 47) := by
 refine calls_body 4 [(0, (Pv b))] Try.func30 rfl (by kernel_rfl) (by kernel_rfl) (by kernel_rfl) fun a hS => ?_
 refine sq fun K1 hK1 => ?_
 refine rgn 2 ?_
 refine eff_box wide_wide (r := 1) (cs := #[(Pv b)]) (T := 47) (d := (some 1)) hS (by kernel_rfl) fun a w2 hw3 hS => ?_
 refine sg wide_wide [.p] [] [(0, (Pv b)), (1, (Pv w.heap.size)), (2, .nilFunc)] 2 0 hS .nil fun a hS => ?_
 refine seg_end ?_
 refine hK1 _ _ ?_
 refine sq fun K5 hK5 => ?_
 refine rgn 2 ?_
 refine sg wide_wide [.p, .p] [] [(0, (Pv b)), (1, (Pv w.heap.size)), (2, .func (.func 57) #[] #[(Pv w.heap.size)])] 2 0 hS .nil fun a hS => ?_
 refine seg_end ?_
 refine hK5 _ _ ?_
 refine wpIn_ret ?_
 refine ret1 hS Try.results30 rfl ?_
 exact ⟨rfl, hw3⟩

theorem oneAll_pv : ∀ l : List Nat, oneAll (l.map pv) = true
 | [] => rfl
 | b :: l => by simp [oneAll, oneAll_pv l]; rfl

theorem Clone_nil (w : World) :
  Calls Try.prog 54 #[.slice none 0 0] w fun e w' => e = .returned (.slice none 0 0) ∧ w' = w := by
 refine calls_body 8 [(0, .slice none 0 0)] Try.func54 rfl (by kernel_rfl) (by kernel_rfl) (by kernel_rfl) fun a hS => ?_
 refine sq fun K1 hK1 => ?_
 refine rgn 1 ?_
 refine sg wide_wide [.p] [] [(0, .slice none 0 0), (2, .slice none 0 0)] 1 0 hS .nil fun a hS => ?_
 refine seg_end ?_
 refine hK1 _ _ ?_
 refine sq fun K2 hK2 => ?_
 refine sq fun K3 hK3 => ?_
 refine rgn 2 ?_
 refine sg wide_wide [.p, .p] [] [(0, .slice none 0 0), (2, .slice none 0 0), (4, .bool true)] 2 0 hS .nil fun a hS => ?_
 refine seg_end ?_
 refine hK3 _ _ ?_
 refine cond_t hS rfl ?_
 refine sq fun K4 hK4 => ?_
 refine rgn 1 ?_
 refine sg wide_wide [.p] [] [(0, .slice none 0 0), (2, .slice none 0 0), (4, .bool true)] 1 0 hS .nil fun a hS => ?_
 refine seg_end ?_
 refine hK4 _ _ ?_
 refine wpIn_ret ?_
 refine then_ret ?_
 refine ret1 hS Try.results54 rfl ?_
 exact ⟨rfl, rfl⟩

theorem Clone_0 {g cap : Nat} {ps : List Nat} {w : World} (hown : OwnR w 47 1 g cap 0 (ps.map pv)) (hlen : ps.length ≤ 17592186044416) (hps : ps = []) :
  Calls Try.prog 54 #[.slice (some ⟨g, 0, none⟩) 0 cap] w fun e w' => ∃ g' cap', e = .returned (.slice (some ⟨g', 0, none⟩) ps.length cap') ∧ OwnR w' 47 1 g' cap' ps.length (ps.map pv) ∧ Ext [] w w' ∧ w.heap.size ≤ g' := by
 refine calls_body 8 [(0, .slice (some ⟨g, 0, none⟩) 0 cap)] Try.func54 rfl (by kernel_rfl) (by kernel_rfl) (by kernel_rfl) fun a hS => ?_
 have hE0 : Ext [] w w := Ext.refl _ _
 refine sq fun K1 hK1 => ?_
 refine rgn 1 ?_
 refine sg wide_wide [.p] [] [(0, .slice (some ⟨g, 0, none⟩) 0 cap), (2, .slice none 0 0)] 1 0 hS .nil fun a hS => ?_
 refine seg_end ?_
 refine hK1 _ _ ?_
 refine sq fun K2 hK2 => ?_
 refine sq fun K3 hK3 => ?_
 refine rgn 2 ?_
 refine sg wide_wide [.p, .p] [] [(0, .slice (some ⟨g, 0, none⟩) 0 cap), (2, .slice none 0 0), (4, .bool false)] 2 0 hS .nil fun a hS => ?_
 refine seg_end ?_
 refine hK3 _ _ ?_
 refine cond_f hS rfl ?_
 refine wpIn_skip ?_
 refine hK2 _ _ ?_
 refine sq fun K4 hK4 => ?_
 refine rgn 4 ?_
 refine eff_new wide_wide (r := 3) (cs := #[]) (T := 47) (v := Value.slice (some ⟨w.heap.size, 0, none⟩) 0 0) (d := (some 5)) hS (by kernel_rfl) fun a w5 hw6 hS => ?_
 have hB7 : Blk w5 (w.heap.size) 47 #[] := by rw [hw6]; exact Blk.new _ _ _
 have hs8 : w.heap.size ≤ w.heap.size := hE0.size
 have hE9 : Ext [] w w5 := by rw [hw6]; exact hE0.alloc _
 refine sg wide_wide [.p] [] [(0, .slice (some ⟨g, 0, none⟩) 0 cap), (2, .slice none 0 0), (4, .bool false), (5, .slice (some ⟨w.heap.size, 0, none⟩) 0 0), (6, .slice (some ⟨g, 0, none⟩) 0 cap)] 2 2 hS .nil fun a hS => ?_
 have hO : OwnR w5 47 1 w.heap.size 0 0 [] := OwnR.of_blk (cs := #[]) (n := 0) hB7 rfl (by decide)
 refine eff_run wide_wide (r := 1) (s := vS (Builtin.append_ #[32, 32] 32 #[.slice (some ⟨w.heap.size, 0, none⟩) 0 0, .slice (some ⟨g, 0, none⟩) 0 cap])) (d := (some 7)) (v := .slice (some ⟨w.heap.size, 0, none⟩) 0 0) hS (by kernel_rfl) (vS_run (append_none (e := 47) (size := 1) (bytes := 8) (z := #[.pointer none]) (by kernel_rfl) (by kernel_rfl) hO.v)) fun a hS => ?_
 refine sg wide_wide [.p] [] [(0, .slice (some ⟨g, 0, none⟩) 0 cap), (2, .slice (some ⟨w.heap.size, 0, none⟩) 0 0), (4, .bool false)] 4 0 hS .nil fun a hS => ?_
 refine seg_end ?_
 refine hK4 _ _ ?_
 refine wpIn_ret ?_
 refine ret1 hS Try.results54 rfl ?_
 exact by
  subst hps
  exact ⟨_, _, rfl, by simpa using hO, hE9, Nat.le_refl _⟩

theorem Clone_1 {g cap : Nat} {ps : List Nat} {w : World} (hown : OwnR w 47 1 g cap ps.length (ps.map pv)) (hlen : ps.length ≤ 17592186044416) (hps : 0 < ps.length) :
  Calls Try.prog 54 #[.slice (some ⟨g, 0, none⟩) ps.length cap] w fun e w' => ∃ g' cap', e = .returned (.slice (some ⟨g', 0, none⟩) ps.length cap') ∧ OwnR w' 47 1 g' cap' ps.length (ps.map pv) ∧ Ext [] w w' ∧ w.heap.size ≤ g' := by
 refine calls_body 8 [(0, .slice (some ⟨g, 0, none⟩) ps.length cap)] Try.func54 rfl (by kernel_rfl) (by kernel_rfl) (by kernel_rfl) fun a hS => ?_
 have hE0 : Ext [] w w := Ext.refl _ _
 refine sq fun K1 hK1 => ?_
 refine rgn 1 ?_
 refine sg wide_wide [.p] [] [(0, .slice (some ⟨g, 0, none⟩) ps.length cap), (2, .slice none 0 0)] 1 0 hS .nil fun a hS => ?_
 refine seg_end ?_
 refine hK1 _ _ ?_
 refine sq fun K2 hK2 => ?_
 refine sq fun K3 hK3 => ?_
 refine rgn 2 ?_
 refine sg wide_wide [.p, .p] [] [(0, .slice (some ⟨g, 0, none⟩) ps.length cap), (2, .slice none 0 0), (4, .bool false)] 2 0 hS .nil fun a hS => ?_
 refine seg_end ?_
 refine hK3 _ _ ?_
 refine cond_f hS rfl ?_
 refine wpIn_skip ?_
 refine hK2 _ _ ?_
 refine sq fun K4 hK4 => ?_
 refine rgn 4 ?_
 refine eff_new wide_wide (r := 3) (cs := #[]) (T := 47) (v := Value.slice (some ⟨w.heap.size, 0, none⟩) 0 0) (d := (some 5)) hS (by kernel_rfl) fun a w5 hw6 hS => ?_
 have hB7 : Blk w5 (w.heap.size) 47 #[] := by rw [hw6]; exact Blk.new _ _ _
 have hs8 : w.heap.size ≤ w.heap.size := hE0.size
 have hE9 : Ext [] w w5 := by rw [hw6]; exact hE0.alloc _
 refine sg wide_wide [.p] [] [(0, .slice (some ⟨g, 0, none⟩) ps.length cap), (2, .slice none 0 0), (4, .bool false), (5, .slice (some ⟨w.heap.size, 0, none⟩) 0 0), (6, .slice (some ⟨g, 0, none⟩) ps.length cap)] 2 2 hS .nil fun a hS => ?_
 have hO : OwnR w5 47 1 w.heap.size 0 0 [] := OwnR.of_blk (cs := #[]) (n := 0) hB7 rfl (by decide)
 have hown2 := hown.ext hE9 (by simp)
 refine eff_append2 wide_wide (r := 1) (d := (some 7)) (t := 32) (ty := 32) (e := 47) (size := 1) (bytes := 8) (len := 0) (b := g) (off := 0) (k := ps.length) (c := cap) (z := #[.pointer none]) (v := .slice (some ⟨w.heap.size, 0, none⟩) 0 0) (ps.map pv) hS (by kernel_rfl) (by kernel_rfl) (by kernel_rfl) (by kernel_rfl) (by kernel_rfl) hO.v (by simp) (fun j u hu => by rw [Nat.zero_add]; exact hown2.cellAt j hu) (oneAll_pv _) hps (by omega) (by omega) fun g2 cap2 a w6 hO6 hE6 hF6 hS => ?_
 rw [Nat.zero_add] at hO6 hS
 refine sg wide_wide [.p] [] [(0, .slice (some ⟨g, 0, none⟩) ps.length cap), (2, .slice (some ⟨g2, 0, none⟩) ps.length cap2), (4, .bool false)] 4 0 hS .nil fun a hS => ?_
 refine seg_end ?_
 refine hK4 _ _ ?_
 refine wpIn_ret ?_
 refine ret1 hS Try.results54 rfl ?_
 exact ⟨_, _, rfl, hO6, hE9.trans hE6 (fun b hb => .inr (by simp [ob] at hb; omega)), by
  rcases hF6 g2 (by simp) with h | h
  ·simp [ob] at h; omega
  ·exact Nat.le_trans (hE9.size) h⟩

theorem Clone_any {v : Value} {ps : List Nat} {w : World} (hown : OwnV w 47 1 v ps.length (ps.map pv)) (hlen : ps.length ≤ 17592186044416) :
  Calls Try.prog 54 #[v] w fun e w' => ∃ v', e = .returned v' ∧ OwnV w' 47 1 v' ps.length (ps.map pv) ∧ Ext [] w w' ∧ (∀ b ∈ ob v', w.heap.size ≤ b) ∧ (v = .slice none 0 0 → v' = .slice none 0 0) ∧ ∃ bs cap, v' = .slice bs ps.length cap := by
 rcases hown with ⟨rfl, h1, h⟩ | ⟨g, cap, rfl, h⟩
 ·have hps : ps = [] := by simpa using h
  subst hps
  refine (Clone_nil w).mono fun e w' ⟨h1, h2⟩ => ?_
  subst h2
  exact ⟨_, h1, .inl ⟨rfl, rfl, rfl⟩, Ext.refl _ _, fun b hb => (by have hb : b ∈ ([] : List Nat) := hb; cases hb), fun _ => rfl, none, 0, rfl⟩
 ·have key : ∀ (e : Ending) (w' : World), (∃ g' cap', e = .returned (.slice (some ⟨g', 0, none⟩) ps.length cap') ∧ OwnR w' 47 1 g' cap' ps.length (ps.map pv) ∧ Ext [] w w' ∧ w.heap.size ≤ g') → ∃ v', e = .returned v' ∧ OwnV w' 47 1 v' ps.length (ps.map pv) ∧ Ext [] w w' ∧ (∀ b ∈ ob v', w.heap.size ≤ b) ∧ (Value.slice (some ⟨g, 0, none⟩) ps.length cap = .slice none 0 0 → v' = .slice none 0 0) ∧ ∃ bs cap, v' = .slice bs ps.length cap := by
   rintro e w' ⟨g', cap', rfl, h1, h2, h3⟩
   exact ⟨_, rfl, h1.v, h2, fun b hb => by simp [ob] at hb; omega, fun h => by simp at h, _, _, rfl⟩
  by_cases hp : ps = []
  ·subst hp
   exact (Clone_0 (ps := []) h hlen rfl).mono key
  ·exact (Clone_1 h hlen (List.length_pos_iff.2 hp)).mono key

end Go.Proofs.Ytpglmeeledmkoaa
