import Derived.Test.YtpglmeeledmkoaaProg
import Derived.Test.YtpglmeeledmkoaaVc
import Derived.Test.YtpglmeeledmkoaaT22
import Derived.Test.YtpglmeeledmkoaaT16
namespace Go.Proofs.Ytpglmeeledmkoaa
open Go.Vc

/-- a kind, or a number, that no node has -/
def Bad (kd n : Int) : Prop := kd < 2 ∨ 5 < kd ∨ n < 0 ∨ (n ≠ 0 ∧ kd ≠ 2)
theorem bad_or (kd n : Int) : Bad kd n ∨ ((kd = 2 ∧ 0 ≤ n) ∨ (kd = 3 ∧ n = 0) ∨ (kd = 4 ∧ n = 0) ∨ (kd = 5 ∧ n = 0)) := by unfold Bad; omega

/-- what Make answers -/
def MkR (w : World) (sb : Nat) (x kd nn : Int) (ks : List (Nat × Tr)) (pp : Option Addr) (er : Int) (w' : World) : Prop :=
 (Bad kd nn ∧ pp = none ∧ er = 101 ∧ Ext [] w w') ∨
 (¬Bad kd nn ∧ (∃ q ∈ ks, q.1 ≠ sb) ∧ pp = none ∧ er = 100 ∧ Ext [] w w') ∨
 (¬Bad kd nn ∧ (∀ q ∈ ks, q.1 = sb) ∧ 4194304 < 1 + sumT (kt ks) ∧ pp = none ∧ er = 6 ∧ Ext [] w w') ∨
 (¬Bad kd nn ∧ (∀ q ∈ ks, q.1 = sb) ∧ 1 + sumT (kt ks) ≤ 4194304 ∧ ∃ nb vs, pp = some ⟨nb, 0, none⟩ ∧ er = 0 ∧ w.heap.size ≤ nb ∧ (∀ b ∈ ob vs, w.heap.size ≤ b) ∧
  (Tr.node nb (x + 1) kd nn 0 0 0 0 vs (sumW (kt ks)) (sumL (kt ks)) (1 + sumT (kt ks)) ((kd == 3 || kd == 5) || anyF (kt ks)) (kt ks)).Ok w' sb ∧ Blk w' sb 102 #[I6 (x + 1)] ∧ Ext [sb] w w')

theorem Make_any {sb : Nat} {x kd n : Int} {v : Value} {ks : List (Nat × Tr)} {w : World} (hB : Blk w sb 102 #[I6 x]) (hx : 0 ≤ x ∧ x < 4611686018427387904)
  (hv : OwnV w 47 1 v ks.length (ks.map fun q => q.2.ptr)) (hks : ∀ q ∈ ks, q.2.Ok w q.1 ∧ ∃ y, Blk w q.1 102 #[I6 y]) (hlen : ks.length ≤ 17592186044416) :
  Calls Try.prog 20 #[(Pv sb), I6 kd, I6 n, v] w fun e w' => ∃ pp er, e = .returned (.tuple #[.pointer pp, I6 er]) ∧ MkR w sb x kd n ks pp er w' := by
 have conv : ¬Bad kd n → ∀ (e : Ending) (w' : World), MakeOut w sb x kd n ks e w' → ∃ pp er, e = .returned (.tuple #[.pointer pp, I6 er]) ∧ MkR w sb x kd n ks pp er w' := by
  intro hb e w' h
  rcases h with ⟨h1, rfl, h2⟩ | ⟨h1, h2, rfl, h3⟩ | ⟨h1, h2, nb, vs, rfl, h3, h4, h5, h6, h7⟩
  ·exact ⟨_, _, rfl, .inr (.inl ⟨hb, h1, rfl, rfl, h2⟩)⟩
  ·exact ⟨_, _, rfl, .inr (.inr (.inl ⟨hb, h1, h2, rfl, rfl, h3⟩))⟩
  ·exact ⟨_, _, rfl, .inr (.inr (.inr ⟨hb, h1, h2, nb, vs, rfl, rfl, h3, h4, h5, h6, h7⟩))⟩
 rcases bad_or kd n with hb | h
 ·exact (MakeBad_any sb kd n v w hb).mono fun e w' ⟨h1, h2⟩ => ⟨_, _, h1, .inl ⟨hb, rfl, rfl, by rw [h2]; exact Ext.refl _ _⟩⟩
 ·have hnb : ¬Bad kd n := by unfold Bad; omega
  rcases h with ⟨rfl, h⟩ | ⟨rfl, rfl⟩ | ⟨rfl, rfl⟩ | ⟨rfl, rfl⟩
  ·exact (Make_2 hB hx h hv hks hlen).mono (conv hnb)
  ·exact (Make_3 hB hx hv hks hlen).mono (conv hnb)
  ·exact (Make_4 hB hx hv hks hlen).mono (conv hnb)
  ·exact (Make_5 hB hx hv hks hlen).mono (conv hnb)

/-- what the document's Make answers -/
def RMkR (w : World) (k kd nn : Int) (rs : List Rf) (rp : Option Addr) (er : Int) (w' : World) : Prop :=
 (Bad kd nn ∧ rp = none ∧ er = 101 ∧ Ext [] w w') ∨
 (¬Bad kd nn ∧ (∃ r ∈ rs, r.k ≠ k) ∧ rp = none ∧ er = 100 ∧ Ext [] w w') ∨
 (¬Bad kd nn ∧ (∀ r ∈ rs, r.k = k) ∧ 4194304 < 1 + sumT (rs.map Rf.t) ∧ rp = none ∧ er = 6 ∧ Ext [] w w') ∨
 (¬Bad kd nn ∧ (∀ r ∈ rs, r.k = k) ∧ 1 + sumT (rs.map Rf.t) ≤ 4194304 ∧ ∃ rb kv, rp = some ⟨rb, 0, none⟩ ∧ er = 0 ∧ w.heap.size ≤ rb ∧ (∀ b ∈ ob kv, w.heap.size ≤ b) ∧
  Blk w' rb 40 #[I6 k, I6 0, I6 kd, I6 nn, I6 0, I6 0, I6 0, I6 0, kv, I6 (1 + sumT (rs.map Rf.t))] ∧ OwnV w' 29 1 kv rs.length (rs.map Rf.ptr) ∧ Ext [] w w')

theorem RBad_k (k kd n : Int) (v : Value) (w : World) (h : kd ≠ 2 ∧ kd ≠ 3 ∧ kd ≠ 4 ∧ kd ≠ 5) :
  Calls Try.prog 61 #[I6 k, I6 kd, I6 n, v] w fun e w' => e = .returned (.tuple #[.pointer none, I6 101]) ∧ w' = w := by
 refine calls_body 88 [(0, I6 k), (1, I6 kd), (2, I6 n), (3, v)] Try.func61 rfl (by kernel_rfl) (by kernel_rfl) (by kernel_rfl) fun a hS => ?_
 refine sq fun K1 hK1 => ?_
 refine rgn 2 ?_
 refine sg wide_wide [.p, .p] [] [(0, I6 k), (1, I6 kd), (2, I6 n), (3, v), (8, .pointer none), (9, I6 0)] 2 0 hS .nil fun a hS => ?_
 refine seg_end ?_
 refine hK1 _ _ ?_
 refine sq fun K2 hK2 => ?_
 refine sq fun K3 hK3 => ?_
 refine rgn 26 ?_
 refine sg wide_wide [.p, .as (.bool true), .p, .p, .as (.bool true), .p, .p, .p, .as (.bool true), .p, .p, .p, .as (.bool true), .p, .p, .no, .no, .p, .p, .no, .no, .no, .no, .no, .no, .p] [Value.bool (((kd : Int) != 2)) = .bool true, Value.bool (((kd : Int) != 3)) = .bool true, Value.bool (((kd : Int) != 4)) = .bool true, Value.bool (((kd : Int) != 5)) = .bool true] [(0, I6 k), (1, I6 kd), (2, I6 n), (3, v), (8, .pointer none), (9, I6 0), (39, .bool true)] 26 0 hS (.cons (as_ne_t (by omega)) (.cons (as_ne_t (by omega)) (.cons (as_ne_t (by omega)) (.cons (as_ne_t (by omega)) .nil)))) fun a hS => ?_
 refine seg_end ?_
 refine hK3 _ _ ?_
 refine cond_t hS rfl ?_
 refine sq fun K4 hK4 => ?_
 refine rgn 2 ?_
 refine sg wide_wide [.p, .p] [] [(0, I6 k), (1, I6 kd), (2, I6 n), (3, v), (8, .pointer none), (9, I6 101), (39, .bool true)] 2 0 hS .nil fun a hS => ?_
 refine seg_end ?_
 refine hK4 _ _ ?_
 refine wpIn_ret ?_
 refine then_ret ?_
 refine ret2 hS Try.results61 rfl rfl ?_
 exact ⟨rfl, rfl⟩

theorem RBad_l2 (k n : Int) (v : Value) (w : World) (h : n < 0) :
  Calls Try.prog 61 #[I6 k, I6 2, I6 n, v] w fun e w' => e = .returned (.tuple #[.pointer none, I6 101]) ∧ w' = w := by
 refine calls_body 88 [(0, I6 k), (1, I6 2), (2, I6 n), (3, v)] Try.func61 rfl (by kernel_rfl) (by kernel_rfl) (by kernel_rfl) fun a hS => ?_
 refine sq fun K1 hK1 => ?_
 refine rgn 2 ?_
 refine sg wide_wide [.p, .p] [] [(0, I6 k), (1, I6 2), (2, I6 n), (3, v), (8, .pointer none), (9, I6 0)] 2 0 hS .nil fun a hS => ?_
 refine seg_end ?_
 refine hK1 _ _ ?_
 refine sq fun K2 hK2 => ?_
 refine sq fun K3 hK3 => ?_
 refine rgn 26 ?_
 refine sg wide_wide [.p, .p, .p, .no, .no, .p, .p, .no, .no, .p, .p, .no, .no, .p, .p, .p, .as (.bool true), .p, .p, .no, .no, .no, .no, .no, .no, .p] [Value.bool (decide ((n : Int) < 0)) = .bool true] [(0, I6 k), (1, I6 2), (2, I6 n), (3, v), (8, .pointer none), (9, I6 0), (39, .bool true)] 26 0 hS (.cons (as_t (by omega)) .nil) fun a hS => ?_
 refine seg_end ?_
 refine hK3 _ _ ?_
 refine cond_t hS rfl ?_
 refine sq fun K4 hK4 => ?_
 refine rgn 2 ?_
 refine sg wide_wide [.p, .p] [] [(0, I6 k), (1, I6 2), (2, I6 n), (3, v), (8, .pointer none), (9, I6 101), (39, .bool true)] 2 0 hS .nil fun a hS => ?_
 refine seg_end ?_
 refine hK4 _ _ ?_
 refine wpIn_ret ?_
 refine then_ret ?_
 refine ret2 hS Try.results61 rfl rfl ?_
 exact ⟨rfl, rfl⟩

theorem RBad_l3 (k n : Int) (v : Value) (w : World) (h : n < 0) :
  Calls Try.prog 61 #[I6 k, I6 3, I6 n, v] w fun e w' => e = .returned (.tuple #[.pointer none, I6 101]) ∧ w' = w := by
 refine calls_body 88 [(0, I6 k), (1, I6 3), (2, I6 n), (3, v)] Try.func61 rfl (by kernel_rfl) (by kernel_rfl) (by kernel_rfl) fun a hS => ?_
 refine sq fun K1 hK1 => ?_
 refine rgn 2 ?_
 refine sg wide_wide [.p, .p] [] [(0, I6 k), (1, I6 3), (2, I6 n), (3, v), (8, .pointer none), (9, I6 0)] 2 0 hS .nil fun a hS => ?_
 refine seg_end ?_
 refine hK1 _ _ ?_
 refine sq fun K2 hK2 => ?_
 refine sq fun K3 hK3 => ?_
 refine rgn 26 ?_
 refine sg wide_wide [.p, .p, .p, .p, .p, .p, .p, .no, .no, .p, .p, .no, .no, .p, .p, .p, .as (.bool true), .p, .p, .no, .no, .no, .no, .no, .no, .p] [Value.bool (decide ((n : Int) < 0)) = .bool true] [(0, I6 k), (1, I6 3), (2, I6 n), (3, v), (8, .pointer none), (9, I6 0), (39, .bool true)] 26 0 hS (.cons (as_t (by omega)) .nil) fun a hS => ?_
 refine seg_end ?_
 refine hK3 _ _ ?_
 refine cond_t hS rfl ?_
 refine sq fun K4 hK4 => ?_
 refine rgn 2 ?_
 refine sg wide_wide [.p, .p] [] [(0, I6 k), (1, I6 3), (2, I6 n), (3, v), (8, .pointer none), (9, I6 101), (39, .bool true)] 2 0 hS .nil fun a hS => ?_
 refine seg_end ?_
 refine hK4 _ _ ?_
 refine wpIn_ret ?_
 refine then_ret ?_
 refine ret2 hS Try.results61 rfl rfl ?_
 exact ⟨rfl, rfl⟩

theorem RBad_n3 (k n : Int) (v : Value) (w : World) (h : 0 < n) :
  Calls Try.prog 61 #[I6 k, I6 3, I6 n, v] w fun e w' => e = .returned (.tuple #[.pointer none, I6 101]) ∧ w' = w := by
 refine calls_body 88 [(0, I6 k), (1, I6 3), (2, I6 n), (3, v)] Try.func61 rfl (by kernel_rfl) (by kernel_rfl) (by kernel_rfl) fun a hS => ?_
 refine sq fun K1 hK1 => ?_
 refine rgn 2 ?_
 refine sg wide_wide [.p, .p] [] [(0, I6 k), (1, I6 3), (2, I6 n), (3, v), (8, .pointer none), (9, I6 0)] 2 0 hS .nil fun a hS => ?_
 refine seg_end ?_
 refine hK1 _ _ ?_
 refine sq fun K2 hK2 => ?_
 refine sq fun K3 hK3 => ?_
 refine rgn 26 ?_
 refine sg wide_wide [.p, .p, .p, .p, .p, .p, .p, .no, .no, .p, .p, .no, .no, .p, .p, .p, .as (.bool false), .p, .p, .p, .as (.bool true), .p, .p, .p, .p, .p] [Value.bool (decide ((n : Int) < 0)) = .bool false, Value.bool (((n : Int) != 0)) = .bool true] [(0, I6 k), (1, I6 3), (2, I6 n), (3, v), (8, .pointer none), (9, I6 0), (39, .bool true)] 26 0 hS (.cons (as_f (by omega)) (.cons (as_ne_t (by omega)) .nil)) fun a hS => ?_
 refine seg_end ?_
 refine hK3 _ _ ?_
 refine cond_t hS rfl ?_
 refine sq fun K4 hK4 => ?_
 refine rgn 2 ?_
 refine sg wide_wide [.p, .p] [] [(0, I6 k), (1, I6 3), (2, I6 n), (3, v), (8, .pointer none), (9, I6 101), (39, .bool true)] 2 0 hS .nil fun a hS => ?_
 refine seg_end ?_
 refine hK4 _ _ ?_
 refine wpIn_ret ?_
 refine then_ret ?_
 refine ret2 hS Try.results61 rfl rfl ?_
 exact ⟨rfl, rfl⟩

theorem RBad_l4 (k n : Int) (v : Value) (w : World) (h : n < 0) :
  Calls Try.prog 61 #[I6 k, I6 4, I6 n, v] w fun e w' => e = .returned (.tuple #[.pointer none, I6 101]) ∧ w' = w := by
 refine calls_body 88 [(0, I6 k), (1, I6 4), (2, I6 n), (3, v)] Try.func61 rfl (by kernel_rfl) (by kernel_rfl) (by kernel_rfl) fun a hS => ?_
 refine sq fun K1 hK1 => ?_
 refine rgn 2 ?_
 refine sg wide_wide [.p, .p] [] [(0, I6 k), (1, I6 4), (2, I6 n), (3, v), (8, .pointer none), (9, I6 0)] 2 0 hS .nil fun a hS => ?_
 refine seg_end ?_
 refine hK1 _ _ ?_
 refine sq fun K2 hK2 => ?_
 refine sq fun K3 hK3 => ?_
 refine rgn 26 ?_
 refine sg wide_wide [.p, .p, .p, .p, .p, .p, .p, .p, .p, .p, .p, .no, .no, .p, .p, .p, .as (.bool true), .p, .p, .no, .no, .no, .no, .no, .no, .p] [Value.bool (decide ((n : Int) < 0)) = .bool true] [(0, I6 k), (1, I6 4), (2, I6 n), (3, v), (8, .pointer none), (9, I6 0), (39, .bool true)] 26 0 hS (.cons (as_t (by omega)) .nil) fun a hS => ?_
 refine seg_end ?_
 refine hK3 _ _ ?_
 refine cond_t hS rfl ?_
 refine sq fun K4 hK4 => ?_
 refine rgn 2 ?_
 refine sg wide_wide [.p, .p] [] [(0, I6 k), (1, I6 4), (2, I6 n), (3, v), (8, .pointer none), (9, I6 101), (39, .bool true)] 2 0 hS .nil fun a hS => ?_
 refine seg_end ?_
 refine hK4 _ _ ?_
 refine wpIn_ret ?_
 refine then_ret ?_
 refine ret2 hS Try.results61 rfl rfl ?_
 exact ⟨rfl, rfl⟩

theorem RBad_n4 (k n : Int) (v : Value) (w : World) (h : 0 < n) :
  Calls Try.prog 61 #[I6 k, I6 4, I6 n, v] w fun e w' => e = .returned (.tuple #[.pointer none, I6 101]) ∧ w' = w := by
 refine calls_body 88 [(0, I6 k), (1, I6 4), (2, I6 n), (3, v)] Try.func61 rfl (by kernel_rfl) (by kernel_rfl) (by kernel_rfl) fun a hS => ?_
 refine sq fun K1 hK1 => ?_
 refine rgn 2 ?_
 refine sg wide_wide [.p, .p] [] [(0, I6 k), (1, I6 4), (2, I6 n), (3, v), (8, .pointer none), (9, I6 0)] 2 0 hS .nil fun a hS => ?_
 refine seg_end ?_
 refine hK1 _ _ ?_
 refine sq fun K2 hK2 => ?_
 refine sq fun K3 hK3 => ?_
 refine rgn 26 ?_
 refine sg wide_wide [.p, .p, .p, .p, .p, .p, .p, .p, .p, .p, .p, .no, .no, .p, .p, .p, .as (.bool false), .p, .p, .p, .as (.bool true), .p, .p, .p, .p, .p] [Value.bool (decide ((n : Int) < 0)) = .bool false, Value.bool (((n : Int) != 0)) = .bool true] [(0, I6 k), (1, I6 4), (2, I6 n), (3, v), (8, .pointer none), (9, I6 0), (39, .bool true)] 26 0 hS (.cons (as_f (by omega)) (.cons (as_ne_t (by omega)) .nil)) fun a hS => ?_
 refine seg_end ?_
 refine hK3 _ _ ?_
 refine cond_t hS rfl ?_
 refine sq fun K4 hK4 => ?_
 refine rgn 2 ?_
 refine sg wide_wide [.p, .p] [] [(0, I6 k), (1, I6 4), (2, I6 n), (3, v), (8, .pointer none), (9, I6 101), (39, .bool true)] 2 0 hS .nil fun a hS => ?_
 refine seg_end ?_
 refine hK4 _ _ ?_
 refine wpIn_ret ?_
 refine then_ret ?_
 refine ret2 hS Try.results61 rfl rfl ?_
 exact ⟨rfl, rfl⟩

theorem RBad_l5 (k n : Int) (v : Value) (w : World) (h : n < 0) :
  Calls Try.prog 61 #[I6 k, I6 5, I6 n, v] w fun e w' => e = .returned (.tuple #[.pointer none, I6 101]) ∧ w' = w := by
 refine calls_body 88 [(0, I6 k), (1, I6 5), (2, I6 n), (3, v)] Try.func61 rfl (by kernel_rfl) (by kernel_rfl) (by kernel_rfl) fun a hS => ?_
 refine sq fun K1 hK1 => ?_
 refine rgn 2 ?_
 refine sg wide_wide [.p, .p] [] [(0, I6 k), (1, I6 5), (2, I6 n), (3, v), (8, .pointer none), (9, I6 0)] 2 0 hS .nil fun a hS => ?_
 refine seg_end ?_
 refine hK1 _ _ ?_
 refine sq fun K2 hK2 => ?_
 refine sq fun K3 hK3 => ?_
 refine rgn 26 ?_
 refine sg wide_wide [.p, .p, .p, .p, .p, .p, .p, .p, .p, .p, .p, .p, .p, .p, .p, .p, .as (.bool true), .p, .p, .no, .no, .no, .no, .no, .no, .p] [Value.bool (decide ((n : Int) < 0)) = .bool true] [(0, I6 k), (1, I6 5), (2, I6 n), (3, v), (8, .pointer none), (9, I6 0), (39, .bool true)] 26 0 hS (.cons (as_t (by omega)) .nil) fun a hS => ?_
 refine seg_end ?_
 refine hK3 _ _ ?_
 refine cond_t hS rfl ?_
 refine sq fun K4 hK4 => ?_
 refine rgn 2 ?_
 refine sg wide_wide [.p, .p] [] [(0, I6 k), (1, I6 5), (2, I6 n), (3, v), (8, .pointer none), (9, I6 101), (39, .bool true)] 2 0 hS .nil fun a hS => ?_
 refine seg_end ?_
 refine hK4 _ _ ?_
 refine wpIn_ret ?_
 refine then_ret ?_
 refine ret2 hS Try.results61 rfl rfl ?_
 exact ⟨rfl, rfl⟩

theorem RBad_n5 (k n : Int) (v : Value) (w : World) (h : 0 < n) :
  Calls Try.prog 61 #[I6 k, I6 5, I6 n, v] w fun e w' => e = .returned (.tuple #[.pointer none, I6 101]) ∧ w' = w := by
 refine calls_body 88 [(0, I6 k), (1, I6 5), (2, I6 n), (3, v)] Try.func61 rfl (by kernel_rfl) (by kernel_rfl) (by kernel_rfl) fun a hS => ?_
 refine sq fun K1 hK1 => ?_
 refine rgn 2 ?_
 refine sg wide_wide [.p, .p] [] [(0, I6 k), (1, I6 5), (2, I6 n), (3, v), (8, .pointer none), (9, I6 0)] 2 0 hS .nil fun a hS => ?_
 refine seg_end ?_
 refine hK1 _ _ ?_
 refine sq fun K2 hK2 => ?_
 refine sq fun K3 hK3 => ?_
 refine rgn 26 ?_
 refine sg wide_wide [.p, .p, .p, .p, .p, .p, .p, .p, .p, .p, .p, .p, .p, .p, .p, .p, .as (.bool false), .p, .p, .p, .as (.bool true), .p, .p, .p, .p, .p] [Value.bool (decide ((n : Int) < 0)) = .bool false, Value.bool (((n : Int) != 0)) = .bool true] [(0, I6 k), (1, I6 5), (2, I6 n), (3, v), (8, .pointer none), (9, I6 0), (39, .bool true)] 26 0 hS (.cons (as_f (by omega)) (.cons (as_ne_t (by omega)) .nil)) fun a hS => ?_
 refine seg_end ?_
 refine hK3 _ _ ?_
 refine cond_t hS rfl ?_
 refine sq fun K4 hK4 => ?_
 refine rgn 2 ?_
 refine sg wide_wide [.p, .p] [] [(0, I6 k), (1, I6 5), (2, I6 n), (3, v), (8, .pointer none), (9, I6 101), (39, .bool true)] 2 0 hS .nil fun a hS => ?_
 refine seg_end ?_
 refine hK4 _ _ ?_
 refine wpIn_ret ?_
 refine then_ret ?_
 refine ret2 hS Try.results61 rfl rfl ?_
 exact ⟨rfl, rfl⟩

theorem RBad_any (k kd n : Int) (v : Value) (w : World) (h : Bad kd n) : Calls Try.prog 61 #[I6 k, I6 kd, I6 n, v] w fun e w' => e = .returned (.tuple #[.pointer none, I6 101]) ∧ w' = w := by
 unfold Bad at h
 by_cases h1 : kd ≠ 2 ∧ kd ≠ 3 ∧ kd ≠ 4 ∧ kd ≠ 5
 ·exact RBad_k k kd n v w h1
 ·have h2 : kd = 2 ∨ kd = 3 ∨ kd = 4 ∨ kd = 5 := by omega
  rcases h2 with rfl | rfl | rfl | rfl
  ·exact RBad_l2 k n v w (by omega)
  ·by_cases h3 : n < 0
   ·exact RBad_l3 k n v w h3
   ·exact RBad_n3 k n v w (by omega)
  ·by_cases h3 : n < 0
   ·exact RBad_l4 k n v w h3
   ·exact RBad_n4 k n v w (by omega)
  ·by_cases h3 : n < 0
   ·exact RBad_l5 k n v w h3
   ·exact RBad_n5 k n v w (by omega)

theorem sumT_rs {w : World} : ∀ {l : List Rf}, (∀ r ∈ l, Blk w r.rb 40 r.cs ∧ 1 ≤ r.t.tt ∧ r.t.tt ≤ 4194304) → 0 ≤ sumT (l.map Rf.t)
 | [], _ => by simp [sumT]
 | q :: l, h => by
  have h1 := h q (by simp)
  have h2 := sumT_rs (l := l) (fun q hq => h q (by simp [hq]))
  simp only [List.map_cons, sumT]
  omega
theorem sumT_le {w : World} {l : List Rf} (h : ∀ r ∈ l, Blk w r.rb 40 r.cs ∧ 1 ≤ r.t.tt ∧ r.t.tt ≤ 4194304) (j : Nat) : 0 ≤ sumT ((l.take j).map Rf.t) ∧ sumT ((l.take j).map Rf.t) ≤ sumT (l.map Rf.t) := by
 have h1 := sumT_append ((l.take j).map Rf.t) ((l.drop j).map Rf.t)
 rw [← List.map_append, List.take_append_drop] at h1
 have h2 := sumT_rs (l := l.take j) (fun q hq => h q (List.mem_of_mem_take hq))
 have h3 := sumT_rs (l := l.drop j) (fun q hq => h q (List.mem_of_mem_drop hq))
 omega
theorem oneAll_rptr : ∀ l : List Rf, oneAll (l.map Rf.ptr) = true
 | [] => rfl
 | b :: l => by simp [oneAll, oneAll_rptr l]; rfl

set_option maxHeartbeats 1000000 in
theorem RMake_2 {k n : Int} {v : Value} {rs : List Rf} {w : World} (hn : 0 ≤ n ∧ n ≤ 9223372036854775807) (hv : OwnV w 29 1 v rs.length (rs.map Rf.ptr)) (hrs : ∀ r ∈ rs, Blk w r.rb 40 r.cs ∧ 1 ≤ r.t.tt ∧ r.t.tt ≤ 4194304) (hlen : rs.length ≤ 17592186044416) :
  Calls Try.prog 61 #[I6 k, I6 2, I6 n, v] w fun e w' => ∃ rp er, e = .returned (.tuple #[.pointer rp, I6 er]) ∧ RMkR w k 2 n rs rp er w' := by
 have hnb : ¬Bad 2 n := by unfold Bad; omega
 refine calls_body 88 [(0, I6 k), (1, I6 2), (2, I6 n), (3, v)] Try.func61 rfl (by kernel_rfl) (by kernel_rfl) (by kernel_rfl) fun a hS => ?_
 have hE0 : Ext [] w w := Ext.refl _ _
 refine sq fun K1 hK1 => ?_
 refine rgn 2 ?_
 refine sg wide_wide [.p, .p] [] [(0, I6 k), (1, I6 2), (2, I6 n), (3, v), (8, .pointer none), (9, I6 0)] 2 0 hS .nil fun a hS => ?_
 refine seg_end ?_
 refine hK1 _ _ ?_
 refine sq fun K2 hK2 => ?_
 refine sq fun K3 hK3 => ?_
 rcases Decidable.em (n = 0) with hn0 | hn0
 ·
  refine rgn 26 ?_
  refine sg wide_wide [.p, .p, .p, .no, .no, .p, .p, .no, .no, .p, .p, .no, .no, .p, .p, .p, .as (.bool false), .p, .p, .p, .as (.bool false), .p, .no, .no, .p, .p] [Value.bool (decide ((n : Int) < 0)) = .bool false, Value.bool (((n : Int) != 0)) = .bool false] [(0, I6 k), (1, I6 2), (2, I6 n), (3, v), (8, .pointer none), (9, I6 0), (39, .bool false)] 26 0 hS (.cons (as_f (by omega)) (.cons (as_ne_f (by simpa using hn0)) .nil)) fun a hS => ?_
  refine seg_end ?_
  refine hK3 _ _ ?_
  refine cond_f hS rfl ?_
  refine wpIn_skip ?_
  refine hK2 _ _ ?_
  refine sq fun K4 hK4 => ?_
  refine rgn 1 ?_
  refine sg wide_wide [.p] [] [(0, I6 k), (1, I6 2), (2, I6 n), (3, v), (8, .pointer none), (9, I6 0), (39, .bool false), (10, I6 1)] 1 0 hS .nil fun a hS => ?_
  refine seg_end ?_
  refine hK4 _ _ ?_
  refine sq fun K5 hK5 => ?_
  refine sq fun K6 hK6 => ?_
  refine rgn 1 ?_
  refine sg wide_wide [.p] [] [(0, I6 k), (1, I6 2), (2, I6 n), (3, v), (8, .pointer none), (9, I6 0), (39, .bool false), (10, I6 1), (11, I6 0)] 1 0 hS .nil fun a hS => ?_
  refine seg_end ?_
  refine hK6 _ _ ?_
  refine wpIn_block ?_
  refine loop_ghost (fun (j : Nat) a' w' => St 88 [] [(0, I6 k), (1, I6 2), (2, I6 n), (3, v), (10, I6 1), (11, I6 ↑j)] a' ∧ w' = w ∧ j ≤ rs.length ∧ ∀ r ∈ rs.take j, r.k = k) (fun (j : Nat) => rs.length - j) 0 ⟨hS.keepTo [0, 1, 2, 3, 10, 11] (by kernel_rfl), rfl, Nat.zero_le _, by simp⟩ ?_
  rintro j a w2 ⟨hS, hw2, hjl, hsame⟩
  rw [hw2]
  refine sq fun K7 hK7 => ?_
  refine sq fun K8 hK8 => ?_
  refine rgn 4 ?_
  refine sg wide_wide [.p, .p, .run (I6 ↑rs.length), .p] [Ru Try.prog (vS (Builtin.len_ #[33] 3 #[v])) (I6 ↑rs.length) w] [(0, I6 k), (1, I6 2), (2, I6 n), (3, v), (10, I6 1), (11, I6 ↑j), (43, .bool (decide ((↑j : Int) < ↑rs.length)))] 4 0 hS (.cons (run_len_own hv (by kernel_rfl)) .nil) fun a hS => ?_
  refine seg_end ?_
  refine hK8 _ _ ?_
  refine cond_b hS rfl (fun hb9 => ?_) (fun hb9 => ?_)
  ·
   replace hb9 := of_decide_eq_true hb9
   have hj : j < rs.length := by omega
   obtain ⟨q, hq⟩ : ∃ q, rs[j]? = some q := ⟨_, List.getElem?_eq_getElem hj⟩
   have hqm : q ∈ rs := List.mem_of_getElem? hq
   have htake := rf_take_succ hq
   have hqb : Blk w q.rb 40 #[I6 q.k, I6 ↑q.i, I6 q.t.kd, I6 q.t.nn, I6 q.t.lk, I6 q.t.ls, I6 q.t.ll, I6 q.t.lr, q.kv, I6 q.t.tt] := (hrs q hqm).1
   have hqt := (hrs q hqm).2
   have hcell : w.cell? ⟨bof v, 0 + j * 1, none⟩ = some q.ptr := by
    rw [show 0 + j * 1 = j by omega]
    exact hv.cellAt j (by simp [hq])
   refine wpIn_skip ?_
   refine hK7 _ _ ?_
   refine sq fun K10 hK10 => ?_
   refine wpIn_block ?_
   refine sq fun K11 hK11 => ?_
   refine rgn 9 ?_
   refine sg wide_wide [.p, .p, .run ((Po (bof v) (0 + j * 1))), .ld ((Pv q.rb)), .p, .p, .ld (I6 q.k), .p, .p] [Ru Try.prog (vS (Instr.indexAt 33 (v) (I6 ↑j))) ((Po (bof v) (0 + j * 1))) w, w.cell? ⟨bof v, 0 + j * 1, none⟩ = some ((Pv q.rb)), _] [(0, I6 k), (1, I6 2), (2, I6 n), (3, v), (10, I6 1), (11, I6 ↑j), (54, .bool ((q.k : Int) != k))] 9 0 hS (.cons (ix_own (j := j) hv (by kernel_rfl) (by kernel_rfl) rfl hj) (.cons (hcell) (.cons (hqb.cell 0 rfl) .nil))) fun a hS => ?_
   refine seg_end ?_
   refine hK11 _ _ ?_
   refine cond_b hS rfl (fun hb12 => ?_) (fun hb12 => ?_)
   ·
    replace hb12 := test_ne_t hb12
    refine sq fun K13 hK13 => ?_
    refine rgn 2 ?_
    refine sg wide_wide [.p, .p] [] [(0, I6 k), (1, I6 2), (2, I6 n), (3, v), (10, I6 1), (11, I6 ↑j), (8, .pointer none), (9, I6 100)] 2 0 hS .nil fun a hS => ?_
    refine seg_end ?_
    refine hK13 _ _ ?_
    refine wpIn_ret ?_
    refine inBlock_ret ?_
    refine then_ret ?_
    refine then_ret ?_
    refine inBlock_ret ?_
    refine then_ret ?_
    refine ret2 hS Try.results61 rfl rfl ?_
    exact ⟨_, _, rfl, .inr (.inl ⟨hnb, ⟨q, hqm, hb12⟩, rfl, rfl, hE0⟩)⟩
   ·
    replace hb12 := test_ne_f hb12
    refine wpIn_skip ?_
    refine inBlock_normal ?_
    refine hK10 _ _ ?_
    refine rgn 3 ?_
    refine sg wide_wide [.p, .as (I6 (↑j + 1)), .p] [Value.int .i64 (IntKind.i64.wrap (↑j + 1)) = I6 (↑j + 1)] [(0, I6 k), (1, I6 2), (2, I6 n), (3, v), (10, I6 1), (11, I6 (↑j + 1))] 3 0 hS (.cons (as_i64 (by omega)) .nil) fun a hS => ?_
    refine seg_end ?_
    exact ⟨j + 1, ⟨hS.keepTo [0, 1, 2, 3, 10, 11] (by kernel_rfl), rfl, by omega, by rw [htake]; intro r hr; rcases List.mem_append.1 hr with hr | hr; exact hsame r hr; obtain rfl := (by simpa using hr : r = q); exact hb12⟩, by omega⟩
  ·
   replace hb9 := of_decide_eq_false hb9
   obtain rfl : j = rs.length := by omega
   rw [List.take_length] at hsame
   refine wpIn_exit ?_
   refine then_exit ?_
   refine then_exit ?_
   refine inBlock_hit ?_
   refine hK5 _ _ ?_
   refine sq fun K14 hK14 => ?_
   refine sq fun K15 hK15 => ?_
   refine rgn 1 ?_
   refine sg wide_wide [.p] [] [(0, I6 k), (1, I6 2), (2, I6 n), (3, v), (10, I6 1), (12, I6 0)] 1 0 hS .nil fun a hS => ?_
   refine seg_end ?_
   refine hK15 _ _ ?_
   refine wpIn_block ?_
   have hS0 := hS.keepTo [0, 1, 2, 3, 10, 12] (m' := [(0, I6 k), (1, I6 2), (2, I6 n), (3, v), (10, I6 1), (12, I6 0)]) (by kernel_rfl)
   clear hS
   have hS : St 88 [] [(0, I6 k), (1, I6 2), (2, I6 n), (3, v), (10, I6 (1 + sumT ((rs.take 0).map Rf.t))), (12, I6 ((0 : Nat) : Int))] a := by simpa [sumT] using hS0
   refine loop_ghost (fun (j : Nat) a' w' => St 88 [] [(0, I6 k), (1, I6 2), (2, I6 n), (3, v), (10, I6 (1 + sumT ((rs.take j).map Rf.t))), (12, I6 ↑j)] a' ∧ w' = w ∧ j ≤ rs.length ∧ 1 + sumT ((rs.take j).map Rf.t) ≤ 4194304) (fun (j : Nat) => rs.length - j) 0 ⟨hS.keepTo [0, 1, 2, 3, 10, 12] (by kernel_rfl), rfl, Nat.zero_le _, by simp [sumT]⟩ ?_
   rintro j a w2 ⟨hS, hw2, hjl, hle⟩
   rw [hw2]
   refine sq fun K16 hK16 => ?_
   refine sq fun K17 hK17 => ?_
   refine rgn 4 ?_
   refine sg wide_wide [.p, .p, .run (I6 ↑rs.length), .p] [Ru Try.prog (vS (Builtin.len_ #[33] 3 #[v])) (I6 ↑rs.length) w] [(0, I6 k), (1, I6 2), (2, I6 n), (3, v), (10, I6 (1 + sumT ((rs.take j).map Rf.t))), (12, I6 ↑j), (58, .bool (decide ((↑j : Int) < ↑rs.length)))] 4 0 hS (.cons (run_len_own hv (by kernel_rfl)) .nil) fun a hS => ?_
   refine seg_end ?_
   refine hK17 _ _ ?_
   refine cond_b hS rfl (fun hb18 => ?_) (fun hb18 => ?_)
   ·
    replace hb18 := of_decide_eq_true hb18
    have hj : j < rs.length := by omega
    obtain ⟨q, hq⟩ : ∃ q, rs[j]? = some q := ⟨_, List.getElem?_eq_getElem hj⟩
    have hqm : q ∈ rs := List.mem_of_getElem? hq
    have htake := rf_take_succ hq
    have hqb : Blk w q.rb 40 #[I6 q.k, I6 ↑q.i, I6 q.t.kd, I6 q.t.nn, I6 q.t.lk, I6 q.t.ls, I6 q.t.ll, I6 q.t.lr, q.kv, I6 q.t.tt] := (hrs q hqm).1
    have hqt := (hrs q hqm).2
    have hcell : w.cell? ⟨bof v, 0 + j * 1, none⟩ = some q.ptr := by
     rw [show 0 + j * 1 = j by omega]
     exact hv.cellAt j (by simp [hq])
    have hsn : sumT ((rs.take (j + 1)).map Rf.t) = sumT ((rs.take j).map Rf.t) + q.t.tt := by rw [htake, List.map_append]; exact sumT_snoc _ _
    have hs1 := sumT_le hrs j
    have hs2 := sumT_le hrs (j + 1)
    refine wpIn_skip ?_
    refine hK16 _ _ ?_
    refine sq fun K19 hK19 => ?_
    refine wpIn_block ?_
    refine sq fun K20 hK20 => ?_
    refine rgn 10 ?_
    refine sg wide_wide [.p, .p, .p, .run ((Po (bof v) (0 + j * 1))), .ld ((Pv q.rb)), .p, .p, .ld (I6 q.t.tt), .as (I6 ((1 + sumT ((rs.take j).map Rf.t)) + q.t.tt)), .p] [Ru Try.prog (vS (Instr.indexAt 33 (v) (I6 ↑j))) ((Po (bof v) (0 + j * 1))) w, w.cell? ⟨bof v, 0 + j * 1, none⟩ = some ((Pv q.rb)), _, Value.int .i64 (IntKind.i64.wrap ((1 + sumT ((rs.take j).map Rf.t)) + q.t.tt)) = I6 ((1 + sumT ((rs.take j).map Rf.t)) + q.t.tt)] [(0, I6 k), (1, I6 2), (2, I6 n), (3, v), (10, I6 ((1 + sumT ((rs.take j).map Rf.t)) + q.t.tt)), (12, I6 ↑j)] 10 0 hS (.cons (ix_own (j := j) hv (by kernel_rfl) (by kernel_rfl) rfl hj) (.cons (hcell) (.cons (hqb.cell 9 rfl) (.cons (as_i64 (by omega)) .nil)))) fun a hS => ?_
    refine seg_end ?_
    refine hK20 _ _ ?_
    refine sq fun K21 hK21 => ?_
    refine rgn 2 ?_
    refine sg wide_wide [.p, .p] [] [(0, I6 k), (1, I6 2), (2, I6 n), (3, v), (10, I6 ((1 + sumT ((rs.take j).map Rf.t)) + q.t.tt)), (12, I6 ↑j), (71, .bool (decide (((1 + sumT ((rs.take j).map Rf.t)) + q.t.tt : Int) > 4194304)))] 2 0 hS .nil fun a hS => ?_
    refine seg_end ?_
    refine hK21 _ _ ?_
    refine cond_b hS rfl (fun hb22 => ?_) (fun hb22 => ?_)
    ·
     replace hb22 := of_decide_eq_true hb22
     refine sq fun K23 hK23 => ?_
     refine rgn 2 ?_
     refine sg wide_wide [.p, .p] [] [(0, I6 k), (1, I6 2), (2, I6 n), (3, v), (10, I6 ((1 + sumT ((rs.take j).map Rf.t)) + q.t.tt)), (12, I6 ↑j), (8, .pointer none), (9, I6 6)] 2 0 hS .nil fun a hS => ?_
     refine seg_end ?_
     refine hK23 _ _ ?_
     refine wpIn_ret ?_
     refine inBlock_ret ?_
     refine then_ret ?_
     refine then_ret ?_
     refine inBlock_ret ?_
     refine then_ret ?_
     refine ret2 hS Try.results61 rfl rfl ?_
     exact ⟨_, _, rfl, .inr (.inr (.inl ⟨hnb, hsame, by omega, rfl, rfl, hE0⟩))⟩
    ·
     replace hb22 := of_decide_eq_false hb22
     refine wpIn_skip ?_
     refine inBlock_normal ?_
     refine hK19 _ _ ?_
     refine rgn 3 ?_
     refine sg wide_wide [.p, .as (I6 (↑j + 1)), .p] [Value.int .i64 (IntKind.i64.wrap (↑j + 1)) = I6 (↑j + 1)] [(0, I6 k), (1, I6 2), (2, I6 n), (3, v), (10, I6 ((1 + sumT ((rs.take j).map Rf.t)) + q.t.tt)), (12, I6 (↑j + 1))] 3 0 hS (.cons (as_i64 (by omega)) .nil) fun a hS => ?_
     refine seg_end ?_
     exact ⟨j + 1, ⟨by rw [hsn, ← Int.add_assoc]; exact hS.keepTo [0, 1, 2, 3, 10, 12] (by kernel_rfl), rfl, by omega, by omega⟩, by omega⟩
   ·
    replace hb18 := of_decide_eq_false hb18
    obtain rfl : j = rs.length := by omega
    rw [List.take_length] at hS hle
    refine wpIn_exit ?_
    refine then_exit ?_
    refine then_exit ?_
    refine inBlock_hit ?_
    refine hK14 _ _ ?_
    refine sq fun K24 hK24 => ?_
    refine rgn 7 ?_
    refine sg wide_wide [.p, .p, .p, .p, .p] [] [(0, I6 k), (1, I6 2), (2, I6 n), (3, v), (10, I6 (1 + sumT (rs.map Rf.t))), (76, .agg #[I6 k, I6 0, I6 2, I6 n, I6 0, I6 0, I6 0, I6 0, .slice none 0 0, I6 (1 + sumT (rs.map Rf.t))])] 5 2 hS .nil fun a hS => ?_
    refine eff_box wide_wide (r := 1) (cs := #[I6 k, I6 0, I6 2, I6 n, I6 0, I6 0, I6 0, I6 0, .slice none 0 0, I6 (1 + sumT (rs.map Rf.t))]) (T := 40) (d := (some 77)) hS (by kernel_rfl) fun a w25 hw26 hS => ?_
    have hB27 : Blk w25 (w.heap.size) 40 #[I6 k, I6 0, I6 2, I6 n, I6 0, I6 0, I6 0, I6 0, .slice none 0 0, I6 (1 + sumT (rs.map Rf.t))] := by rw [hw26]; exact Blk.new _ _ _
    have hs28 : w.heap.size ≤ w.heap.size := hE0.size
    have hE29 : Ext [] w w25 := by rw [hw26]; exact hE0.alloc _
    refine sg wide_wide [.p] [] [(0, I6 k), (1, I6 2), (2, I6 n), (3, v), (10, I6 (1 + sumT (rs.map Rf.t))), (13, (Pv w.heap.size))] 7 0 hS .nil fun a hS => ?_
    refine seg_end ?_
    refine hK24 _ _ ?_
    refine sq fun K30 hK30 => ?_
    rcases Nat.eq_zero_or_pos rs.length with h0 | h0
    ·
     obtain ⟨a0, c0, hvv⟩ := hv.form
     rw [h0] at hvv
     subst hvv
     have hrs0 : rs = [] := List.eq_nil_of_length_eq_zero h0
     refine rgn 10 ?_
     refine sg wide_wide [.p, .p, .p, .p, .ld (.slice none 0 0), .p] [_] [(0, I6 k), (1, I6 2), (2, I6 n), (3, .slice a0 0 c0), (10, I6 (1 + sumT (rs.map Rf.t))), (13, (Pv w.heap.size)), (78, (Pv w.heap.size)), (82, .slice none 0 0), (83, .slice a0 0 c0)] 6 4 hS (.cons (hB27.cell 8 rfl) .nil) fun a hS => ?_
     refine eff_run wide_wide (r := 3) (s := vS (Builtin.append_ #[33, 33] 33 #[.slice none 0 0, .slice a0 0 c0])) (d := (some 84)) (v := .slice none 0 0) hS (by kernel_rfl) (vS_run (append_none (e := 29) (size := 1) (bytes := 8) (z := #[.pointer none]) (n := 0) (xs := []) (by kernel_rfl) (by kernel_rfl) (OwnV.nil _ _ _))) fun a hS => ?_
     refine sg wide_wide [.p, .p] [] [(0, I6 k), (1, I6 2), (2, I6 n), (3, .slice a0 0 c0), (10, I6 (1 + sumT (rs.map Rf.t))), (13, (Pv w.heap.size)), (84, .slice none 0 0), (86, (Po w.heap.size 8))] 9 1 hS .nil fun a hS => ?_
     refine eff_store wide_wide (r := 0) (b := w.heap.size) (off := 8) (vs := [.slice none 0 0]) hS (by kernel_rfl) hB27 (by simp) fun a w31 hw32 hS => ?_
     have hB33 : Blk w31 w.heap.size 40 (#[I6 k, I6 0, I6 2, I6 n, I6 0, I6 0, I6 0, I6 0, .slice none 0 0, I6 (1 + sumT (rs.map Rf.t))]) := by rw [hw32]; exact hB27.upd _ _
     have hE34 : Ext [] w w31 := by rw [hw32]; exact hE29.updIn (.inr hs28) _ _
     refine seg_end ?_
     refine hK30 _ _ ?_
     refine sq fun K35 hK35 => ?_
     refine rgn 3 ?_
     refine sg wide_wide [.p, .p, .p] [] [(0, I6 k), (1, I6 2), (2, I6 n), (3, .slice a0 0 c0), (10, I6 (1 + sumT (rs.map Rf.t))), (13, (Pv w.heap.size)), (8, (Pv w.heap.size)), (9, I6 0)] 3 0 hS .nil fun a hS => ?_
     refine seg_end ?_
     refine hK35 _ _ ?_
     refine wpIn_ret ?_
     refine ret2 hS Try.results61 rfl rfl ?_
     exact ⟨_, _, rfl, .inr (.inr (.inr ⟨hnb, hsame, hle, w.heap.size, .slice none 0 0, rfl, rfl, hs28, fun b hb => (by have hb : b ∈ ([] : List Nat) := hb; cases hb), hB33, (by rw [hrs0]; exact OwnV.nil _ _ _), hE34⟩))⟩
    ·
     obtain ⟨g, c, rfl, hO⟩ := hv.some_of_pos h0
     refine rgn 10 ?_
     refine sg wide_wide [.p, .p, .p, .p, .ld (.slice none 0 0), .p] [_] [(0, I6 k), (1, I6 2), (2, I6 n), (3, .slice (some ⟨g, 0, none⟩) rs.length c), (10, I6 (1 + sumT (rs.map Rf.t))), (13, (Pv w.heap.size)), (78, (Pv w.heap.size)), (82, .slice none 0 0), (83, .slice (some ⟨g, 0, none⟩) rs.length c)] 6 4 hS (.cons (hB27.cell 8 rfl) .nil) fun a hS => ?_
     have hO2 := hO.ext hE29 (by simp)
     refine eff_append2 wide_wide (r := 3) (d := (some 84)) (t := 33) (ty := 33) (e := 29) (size := 1) (bytes := 8) (len := 0) (b := g) (off := 0) (k := rs.length) (c := c) (z := #[.pointer none]) (v := Value.slice none 0 0) (xs := ([])) (rs.map Rf.ptr) hS (by kernel_rfl) (by kernel_rfl) (by kernel_rfl) (by kernel_rfl) (by kernel_rfl) (OwnV.nil _ _ _) (by simp) (fun j u hu => by rw [Nat.zero_add]; exact hO2.cellAt j hu) (oneAll_rptr rs) (by omega) (by omega) (by omega) fun ga36 ca36 a wa36 hOa36 hEa36 hFa36 hS => ?_
     replace hEa36 : Ext [] w25 wa36 := hEa36
     replace hFa36 : Fresh w25.heap.size [] [ga36] := hFa36
     rw [Nat.zero_add] at hOa36 hS
     rw [List.nil_append] at hOa36
     have hB37 := hB27.ext hEa36 (by simp)
     have hE38 : Ext [] w wa36 := hE29.trans0 hEa36
     have hn39 : w.heap.size ≤ ga36 := by
      rcases hFa36 ga36 (by simp) with h | h
      ·cases h
      ·exact Nat.le_trans hE29.size h
     refine sg wide_wide [.p, .p] [] [(0, I6 k), (1, I6 2), (2, I6 n), (3, .slice (some ⟨g, 0, none⟩) rs.length c), (10, I6 (1 + sumT (rs.map Rf.t))), (13, (Pv w.heap.size)), (84, .slice (some ⟨ga36, 0, none⟩) rs.length ca36), (86, (Po w.heap.size 8))] 9 1 hS .nil fun a hS => ?_
     refine eff_store wide_wide (r := 0) (b := w.heap.size) (off := 8) (vs := [.slice (some ⟨ga36, 0, none⟩) rs.length ca36]) hS (by kernel_rfl) hB37 (by simp) fun a w40 hw41 hS => ?_
     have hB42 : Blk w40 w.heap.size 40 (#[I6 k, I6 0, I6 2, I6 n, I6 0, I6 0, I6 0, I6 0, .slice (some ⟨ga36, 0, none⟩) rs.length ca36, I6 (1 + sumT (rs.map Rf.t))]) := by rw [hw41]; exact hB37.upd _ _
     have hB43 := OwnR.at' hw41 (hOa36.updNe ((OwnR.ne_type hOa36 hB37 (by decide)).symm) _ _)
     have hE44 : Ext [] w w40 := by rw [hw41]; exact hE38.updIn (.inr hs28) _ _
     refine seg_end ?_
     refine hK30 _ _ ?_
     refine sq fun K45 hK45 => ?_
     refine rgn 3 ?_
     refine sg wide_wide [.p, .p, .p] [] [(0, I6 k), (1, I6 2), (2, I6 n), (3, .slice (some ⟨g, 0, none⟩) rs.length c), (10, I6 (1 + sumT (rs.map Rf.t))), (13, (Pv w.heap.size)), (8, (Pv w.heap.size)), (9, I6 0)] 3 0 hS .nil fun a hS => ?_
     refine seg_end ?_
     refine hK45 _ _ ?_
     refine wpIn_ret ?_
     refine ret2 hS Try.results61 rfl rfl ?_
     exact ⟨_, _, rfl, .inr (.inr (.inr ⟨hnb, hsame, hle, w.heap.size, .slice (some ⟨ga36, 0, none⟩) rs.length ca36, rfl, rfl, hs28, fun b hb => (by obtain rfl := (by simpa [ob] using hb : b = ga36); exact hn39), hB42, (hB43 : OwnR _ _ _ _ _ _ _).v, hE44⟩))⟩
 ·
  refine rgn 26 ?_
  refine sg wide_wide [.p, .p, .p, .no, .no, .p, .p, .no, .no, .p, .p, .no, .no, .p, .p, .p, .as (.bool false), .p, .p, .p, .as (.bool true), .p, .p, .p, .p, .p] [Value.bool (decide ((n : Int) < 0)) = .bool false, Value.bool (((n : Int) != 0)) = .bool true] [(0, I6 k), (1, I6 2), (2, I6 n), (3, v), (8, .pointer none), (9, I6 0), (39, .bool false)] 26 0 hS (.cons (as_f (by omega)) (.cons (as_ne_t (by simpa using hn0)) .nil)) fun a hS => ?_
  refine seg_end ?_
  refine hK3 _ _ ?_
  refine cond_f hS rfl ?_
  refine wpIn_skip ?_
  refine hK2 _ _ ?_
  refine sq fun K46 hK46 => ?_
  refine rgn 1 ?_
  refine sg wide_wide [.p] [] [(0, I6 k), (1, I6 2), (2, I6 n), (3, v), (8, .pointer none), (9, I6 0), (39, .bool false), (10, I6 1)] 1 0 hS .nil fun a hS => ?_
  refine seg_end ?_
  refine hK46 _ _ ?_
  refine sq fun K47 hK47 => ?_
  refine sq fun K48 hK48 => ?_
  refine rgn 1 ?_
  refine sg wide_wide [.p] [] [(0, I6 k), (1, I6 2), (2, I6 n), (3, v), (8, .pointer none), (9, I6 0), (39, .bool false), (10, I6 1), (11, I6 0)] 1 0 hS .nil fun a hS => ?_
  refine seg_end ?_
  refine hK48 _ _ ?_
  refine wpIn_block ?_
  refine loop_ghost (fun (j : Nat) a' w' => St 88 [] [(0, I6 k), (1, I6 2), (2, I6 n), (3, v), (10, I6 1), (11, I6 ↑j)] a' ∧ w' = w ∧ j ≤ rs.length ∧ ∀ r ∈ rs.take j, r.k = k) (fun (j : Nat) => rs.length - j) 0 ⟨hS.keepTo [0, 1, 2, 3, 10, 11] (by kernel_rfl), rfl, Nat.zero_le _, by simp⟩ ?_
  rintro j a w2 ⟨hS, hw2, hjl, hsame⟩
  rw [hw2]
  refine sq fun K49 hK49 => ?_
  refine sq fun K50 hK50 => ?_
  refine rgn 4 ?_
  refine sg wide_wide [.p, .p, .run (I6 ↑rs.length), .p] [Ru Try.prog (vS (Builtin.len_ #[33] 3 #[v])) (I6 ↑rs.length) w] [(0, I6 k), (1, I6 2), (2, I6 n), (3, v), (10, I6 1), (11, I6 ↑j), (43, .bool (decide ((↑j : Int) < ↑rs.length)))] 4 0 hS (.cons (run_len_own hv (by kernel_rfl)) .nil) fun a hS => ?_
  refine seg_end ?_
  refine hK50 _ _ ?_
  refine cond_b hS rfl (fun hb51 => ?_) (fun hb51 => ?_)
  ·
   replace hb51 := of_decide_eq_true hb51
   have hj : j < rs.length := by omega
   obtain ⟨q, hq⟩ : ∃ q, rs[j]? = some q := ⟨_, List.getElem?_eq_getElem hj⟩
   have hqm : q ∈ rs := List.mem_of_getElem? hq
   have htake := rf_take_succ hq
   have hqb : Blk w q.rb 40 #[I6 q.k, I6 ↑q.i, I6 q.t.kd, I6 q.t.nn, I6 q.t.lk, I6 q.t.ls, I6 q.t.ll, I6 q.t.lr, q.kv, I6 q.t.tt] := (hrs q hqm).1
   have hqt := (hrs q hqm).2
   have hcell : w.cell? ⟨bof v, 0 + j * 1, none⟩ = some q.ptr := by
    rw [show 0 + j * 1 = j by omega]
    exact hv.cellAt j (by simp [hq])
   refine wpIn_skip ?_
   refine hK49 _ _ ?_
   refine sq fun K52 hK52 => ?_
   refine wpIn_block ?_
   refine sq fun K53 hK53 => ?_
   refine rgn 9 ?_
   refine sg wide_wide [.p, .p, .run ((Po (bof v) (0 + j * 1))), .ld ((Pv q.rb)), .p, .p, .ld (I6 q.k), .p, .p] [Ru Try.prog (vS (Instr.indexAt 33 (v) (I6 ↑j))) ((Po (bof v) (0 + j * 1))) w, w.cell? ⟨bof v, 0 + j * 1, none⟩ = some ((Pv q.rb)), _] [(0, I6 k), (1, I6 2), (2, I6 n), (3, v), (10, I6 1), (11, I6 ↑j), (54, .bool ((q.k : Int) != k))] 9 0 hS (.cons (ix_own (j := j) hv (by kernel_rfl) (by kernel_rfl) rfl hj) (.cons (hcell) (.cons (hqb.cell 0 rfl) .nil))) fun a hS => ?_
   refine seg_end ?_
   refine hK53 _ _ ?_
   refine cond_b hS rfl (fun hb54 => ?_) (fun hb54 => ?_)
   ·
    replace hb54 := test_ne_t hb54
    refine sq fun K55 hK55 => ?_
    refine rgn 2 ?_
    refine sg wide_wide [.p, .p] [] [(0, I6 k), (1, I6 2), (2, I6 n), (3, v), (10, I6 1), (11, I6 ↑j), (8, .pointer none), (9, I6 100)] 2 0 hS .nil fun a hS => ?_
    refine seg_end ?_
    refine hK55 _ _ ?_
    refine wpIn_ret ?_
    refine inBlock_ret ?_
    refine then_ret ?_
    refine then_ret ?_
    refine inBlock_ret ?_
    refine then_ret ?_
    refine ret2 hS Try.results61 rfl rfl ?_
    exact ⟨_, _, rfl, .inr (.inl ⟨hnb, ⟨q, hqm, hb54⟩, rfl, rfl, hE0⟩)⟩
   ·
    replace hb54 := test_ne_f hb54
    refine wpIn_skip ?_
    refine inBlock_normal ?_
    refine hK52 _ _ ?_
    refine rgn 3 ?_
    refine sg wide_wide [.p, .as (I6 (↑j + 1)), .p] [Value.int .i64 (IntKind.i64.wrap (↑j + 1)) = I6 (↑j + 1)] [(0, I6 k), (1, I6 2), (2, I6 n), (3, v), (10, I6 1), (11, I6 (↑j + 1))] 3 0 hS (.cons (as_i64 (by omega)) .nil) fun a hS => ?_
    refine seg_end ?_
    exact ⟨j + 1, ⟨hS.keepTo [0, 1, 2, 3, 10, 11] (by kernel_rfl), rfl, by omega, by rw [htake]; intro r hr; rcases List.mem_append.1 hr with hr | hr; exact hsame r hr; obtain rfl := (by simpa using hr : r = q); exact hb54⟩, by omega⟩
  ·
   replace hb51 := of_decide_eq_false hb51
   obtain rfl : j = rs.length := by omega
   rw [List.take_length] at hsame
   refine wpIn_exit ?_
   refine then_exit ?_
   refine then_exit ?_
   refine inBlock_hit ?_
   refine hK47 _ _ ?_
   refine sq fun K56 hK56 => ?_
   refine sq fun K57 hK57 => ?_
   refine rgn 1 ?_
   refine sg wide_wide [.p] [] [(0, I6 k), (1, I6 2), (2, I6 n), (3, v), (10, I6 1), (12, I6 0)] 1 0 hS .nil fun a hS => ?_
   refine seg_end ?_
   refine hK57 _ _ ?_
   refine wpIn_block ?_
   have hS0 := hS.keepTo [0, 1, 2, 3, 10, 12] (m' := [(0, I6 k), (1, I6 2), (2, I6 n), (3, v), (10, I6 1), (12, I6 0)]) (by kernel_rfl)
   clear hS
   have hS : St 88 [] [(0, I6 k), (1, I6 2), (2, I6 n), (3, v), (10, I6 (1 + sumT ((rs.take 0).map Rf.t))), (12, I6 ((0 : Nat) : Int))] a := by simpa [sumT] using hS0
   refine loop_ghost (fun (j : Nat) a' w' => St 88 [] [(0, I6 k), (1, I6 2), (2, I6 n), (3, v), (10, I6 (1 + sumT ((rs.take j).map Rf.t))), (12, I6 ↑j)] a' ∧ w' = w ∧ j ≤ rs.length ∧ 1 + sumT ((rs.take j).map Rf.t) ≤ 4194304) (fun (j : Nat) => rs.length - j) 0 ⟨hS.keepTo [0, 1, 2, 3, 10, 12] (by kernel_rfl), rfl, Nat.zero_le _, by simp [sumT]⟩ ?_
   rintro j a w2 ⟨hS, hw2, hjl, hle⟩
   rw [hw2]
   refine sq fun K58 hK58 => ?_
   refine sq fun K59 hK59 => ?_
   refine rgn 4 ?_
   refine sg wide_wide [.p, .p, .run (I6 ↑rs.length), .p] [Ru Try.prog (vS (Builtin.len_ #[33] 3 #[v])) (I6 ↑rs.length) w] [(0, I6 k), (1, I6 2), (2, I6 n), (3, v), (10, I6 (1 + sumT ((rs.take j).map Rf.t))), (12, I6 ↑j), (58, .bool (decide ((↑j : Int) < ↑rs.length)))] 4 0 hS (.cons (run_len_own hv (by kernel_rfl)) .nil) fun a hS => ?_
   refine seg_end ?_
   refine hK59 _ _ ?_
   refine cond_b hS rfl (fun hb60 => ?_) (fun hb60 => ?_)
   ·
    replace hb60 := of_decide_eq_true hb60
    have hj : j < rs.length := by omega
    obtain ⟨q, hq⟩ : ∃ q, rs[j]? = some q := ⟨_, List.getElem?_eq_getElem hj⟩
    have hqm : q ∈ rs := List.mem_of_getElem? hq
    have htake := rf_take_succ hq
    have hqb : Blk w q.rb 40 #[I6 q.k, I6 ↑q.i, I6 q.t.kd, I6 q.t.nn, I6 q.t.lk, I6 q.t.ls, I6 q.t.ll, I6 q.t.lr, q.kv, I6 q.t.tt] := (hrs q hqm).1
    have hqt := (hrs q hqm).2
    have hcell : w.cell? ⟨bof v, 0 + j * 1, none⟩ = some q.ptr := by
     rw [show 0 + j * 1 = j by omega]
     exact hv.cellAt j (by simp [hq])
    have hsn : sumT ((rs.take (j + 1)).map Rf.t) = sumT ((rs.take j).map Rf.t) + q.t.tt := by rw [htake, List.map_append]; exact sumT_snoc _ _
    have hs1 := sumT_le hrs j
    have hs2 := sumT_le hrs (j + 1)
    refine wpIn_skip ?_
    refine hK58 _ _ ?_
    refine sq fun K61 hK61 => ?_
    refine wpIn_block ?_
    refine sq fun K62 hK62 => ?_
    refine rgn 10 ?_
    refine sg wide_wide [.p, .p, .p, .run ((Po (bof v) (0 + j * 1))), .ld ((Pv q.rb)), .p, .p, .ld (I6 q.t.tt), .as (I6 ((1 + sumT ((rs.take j).map Rf.t)) + q.t.tt)), .p] [Ru Try.prog (vS (Instr.indexAt 33 (v) (I6 ↑j))) ((Po (bof v) (0 + j * 1))) w, w.cell? ⟨bof v, 0 + j * 1, none⟩ = some ((Pv q.rb)), _, Value.int .i64 (IntKind.i64.wrap ((1 + sumT ((rs.take j).map Rf.t)) + q.t.tt)) = I6 ((1 + sumT ((rs.take j).map Rf.t)) + q.t.tt)] [(0, I6 k), (1, I6 2), (2, I6 n), (3, v), (10, I6 ((1 + sumT ((rs.take j).map Rf.t)) + q.t.tt)), (12, I6 ↑j)] 10 0 hS (.cons (ix_own (j := j) hv (by kernel_rfl) (by kernel_rfl) rfl hj) (.cons (hcell) (.cons (hqb.cell 9 rfl) (.cons (as_i64 (by omega)) .nil)))) fun a hS => ?_
    refine seg_end ?_
    refine hK62 _ _ ?_
    refine sq fun K63 hK63 => ?_
    refine rgn 2 ?_
    refine sg wide_wide [.p, .p] [] [(0, I6 k), (1, I6 2), (2, I6 n), (3, v), (10, I6 ((1 + sumT ((rs.take j).map Rf.t)) + q.t.tt)), (12, I6 ↑j), (71, .bool (decide (((1 + sumT ((rs.take j).map Rf.t)) + q.t.tt : Int) > 4194304)))] 2 0 hS .nil fun a hS => ?_
    refine seg_end ?_
    refine hK63 _ _ ?_
    refine cond_b hS rfl (fun hb64 => ?_) (fun hb64 => ?_)
    ·
     replace hb64 := of_decide_eq_true hb64
     refine sq fun K65 hK65 => ?_
     refine rgn 2 ?_
     refine sg wide_wide [.p, .p] [] [(0, I6 k), (1, I6 2), (2, I6 n), (3, v), (10, I6 ((1 + sumT ((rs.take j).map Rf.t)) + q.t.tt)), (12, I6 ↑j), (8, .pointer none), (9, I6 6)] 2 0 hS .nil fun a hS => ?_
     refine seg_end ?_
     refine hK65 _ _ ?_
     refine wpIn_ret ?_
     refine inBlock_ret ?_
     refine then_ret ?_
     refine then_ret ?_
     refine inBlock_ret ?_
     refine then_ret ?_
     refine ret2 hS Try.results61 rfl rfl ?_
     exact ⟨_, _, rfl, .inr (.inr (.inl ⟨hnb, hsame, by omega, rfl, rfl, hE0⟩))⟩
    ·
     replace hb64 := of_decide_eq_false hb64
     refine wpIn_skip ?_
     refine inBlock_normal ?_
     refine hK61 _ _ ?_
     refine rgn 3 ?_
     refine sg wide_wide [.p, .as (I6 (↑j + 1)), .p] [Value.int .i64 (IntKind.i64.wrap (↑j + 1)) = I6 (↑j + 1)] [(0, I6 k), (1, I6 2), (2, I6 n), (3, v), (10, I6 ((1 + sumT ((rs.take j).map Rf.t)) + q.t.tt)), (12, I6 (↑j + 1))] 3 0 hS (.cons (as_i64 (by omega)) .nil) fun a hS => ?_
     refine seg_end ?_
     exact ⟨j + 1, ⟨by rw [hsn, ← Int.add_assoc]; exact hS.keepTo [0, 1, 2, 3, 10, 12] (by kernel_rfl), rfl, by omega, by omega⟩, by omega⟩
   ·
    replace hb60 := of_decide_eq_false hb60
    obtain rfl : j = rs.length := by omega
    rw [List.take_length] at hS hle
    refine wpIn_exit ?_
    refine then_exit ?_
    refine then_exit ?_
    refine inBlock_hit ?_
    refine hK56 _ _ ?_
    refine sq fun K66 hK66 => ?_
    refine rgn 7 ?_
    refine sg wide_wide [.p, .p, .p, .p, .p] [] [(0, I6 k), (1, I6 2), (2, I6 n), (3, v), (10, I6 (1 + sumT (rs.map Rf.t))), (76, .agg #[I6 k, I6 0, I6 2, I6 n, I6 0, I6 0, I6 0, I6 0, .slice none 0 0, I6 (1 + sumT (rs.map Rf.t))])] 5 2 hS .nil fun a hS => ?_
    refine eff_box wide_wide (r := 1) (cs := #[I6 k, I6 0, I6 2, I6 n, I6 0, I6 0, I6 0, I6 0, .slice none 0 0, I6 (1 + sumT (rs.map Rf.t))]) (T := 40) (d := (some 77)) hS (by kernel_rfl) fun a w67 hw68 hS => ?_
    have hB69 : Blk w67 (w.heap.size) 40 #[I6 k, I6 0, I6 2, I6 n, I6 0, I6 0, I6 0, I6 0, .slice none 0 0, I6 (1 + sumT (rs.map Rf.t))] := by rw [hw68]; exact Blk.new _ _ _
    have hs70 : w.heap.size ≤ w.heap.size := hE0.size
    have hE71 : Ext [] w w67 := by rw [hw68]; exact hE0.alloc _
    refine sg wide_wide [.p] [] [(0, I6 k), (1, I6 2), (2, I6 n), (3, v), (10, I6 (1 + sumT (rs.map Rf.t))), (13, (Pv w.heap.size))] 7 0 hS .nil fun a hS => ?_
    refine seg_end ?_
    refine hK66 _ _ ?_
    refine sq fun K72 hK72 => ?_
    rcases Nat.eq_zero_or_pos rs.length with h0 | h0
    ·
     obtain ⟨a0, c0, hvv⟩ := hv.form
     rw [h0] at hvv
     subst hvv
     have hrs0 : rs = [] := List.eq_nil_of_length_eq_zero h0
     refine rgn 10 ?_
     refine sg wide_wide [.p, .p, .p, .p, .ld (.slice none 0 0), .p] [_] [(0, I6 k), (1, I6 2), (2, I6 n), (3, .slice a0 0 c0), (10, I6 (1 + sumT (rs.map Rf.t))), (13, (Pv w.heap.size)), (78, (Pv w.heap.size)), (82, .slice none 0 0), (83, .slice a0 0 c0)] 6 4 hS (.cons (hB69.cell 8 rfl) .nil) fun a hS => ?_
     refine eff_run wide_wide (r := 3) (s := vS (Builtin.append_ #[33, 33] 33 #[.slice none 0 0, .slice a0 0 c0])) (d := (some 84)) (v := .slice none 0 0) hS (by kernel_rfl) (vS_run (append_none (e := 29) (size := 1) (bytes := 8) (z := #[.pointer none]) (n := 0) (xs := []) (by kernel_rfl) (by kernel_rfl) (OwnV.nil _ _ _))) fun a hS => ?_
     refine sg wide_wide [.p, .p] [] [(0, I6 k), (1, I6 2), (2, I6 n), (3, .slice a0 0 c0), (10, I6 (1 + sumT (rs.map Rf.t))), (13, (Pv w.heap.size)), (84, .slice none 0 0), (86, (Po w.heap.size 8))] 9 1 hS .nil fun a hS => ?_
     refine eff_store wide_wide (r := 0) (b := w.heap.size) (off := 8) (vs := [.slice none 0 0]) hS (by kernel_rfl) hB69 (by simp) fun a w73 hw74 hS => ?_
     have hB75 : Blk w73 w.heap.size 40 (#[I6 k, I6 0, I6 2, I6 n, I6 0, I6 0, I6 0, I6 0, .slice none 0 0, I6 (1 + sumT (rs.map Rf.t))]) := by rw [hw74]; exact hB69.upd _ _
     have hE76 : Ext [] w w73 := by rw [hw74]; exact hE71.updIn (.inr hs70) _ _
     refine seg_end ?_
     refine hK72 _ _ ?_
     refine sq fun K77 hK77 => ?_
     refine rgn 3 ?_
     refine sg wide_wide [.p, .p, .p] [] [(0, I6 k), (1, I6 2), (2, I6 n), (3, .slice a0 0 c0), (10, I6 (1 + sumT (rs.map Rf.t))), (13, (Pv w.heap.size)), (8, (Pv w.heap.size)), (9, I6 0)] 3 0 hS .nil fun a hS => ?_
     refine seg_end ?_
     refine hK77 _ _ ?_
     refine wpIn_ret ?_
     refine ret2 hS Try.results61 rfl rfl ?_
     exact ⟨_, _, rfl, .inr (.inr (.inr ⟨hnb, hsame, hle, w.heap.size, .slice none 0 0, rfl, rfl, hs70, fun b hb => (by have hb : b ∈ ([] : List Nat) := hb; cases hb), hB75, (by rw [hrs0]; exact OwnV.nil _ _ _), hE76⟩))⟩
    ·
     obtain ⟨g, c, rfl, hO⟩ := hv.some_of_pos h0
     refine rgn 10 ?_
     refine sg wide_wide [.p, .p, .p, .p, .ld (.slice none 0 0), .p] [_] [(0, I6 k), (1, I6 2), (2, I6 n), (3, .slice (some ⟨g, 0, none⟩) rs.length c), (10, I6 (1 + sumT (rs.map Rf.t))), (13, (Pv w.heap.size)), (78, (Pv w.heap.size)), (82, .slice none 0 0), (83, .slice (some ⟨g, 0, none⟩) rs.length c)] 6 4 hS (.cons (hB69.cell 8 rfl) .nil) fun a hS => ?_
     have hO2 := hO.ext hE71 (by simp)
     refine eff_append2 wide_wide (r := 3) (d := (some 84)) (t := 33) (ty := 33) (e := 29) (size := 1) (bytes := 8) (len := 0) (b := g) (off := 0) (k := rs.length) (c := c) (z := #[.pointer none]) (v := Value.slice none 0 0) (xs := ([])) (rs.map Rf.ptr) hS (by kernel_rfl) (by kernel_rfl) (by kernel_rfl) (by kernel_rfl) (by kernel_rfl) (OwnV.nil _ _ _) (by simp) (fun j u hu => by rw [Nat.zero_add]; exact hO2.cellAt j hu) (oneAll_rptr rs) (by omega) (by omega) (by omega) fun ga78 ca78 a wa78 hOa78 hEa78 hFa78 hS => ?_
     replace hEa78 : Ext [] w67 wa78 := hEa78
     replace hFa78 : Fresh w67.heap.size [] [ga78] := hFa78
     rw [Nat.zero_add] at hOa78 hS
     rw [List.nil_append] at hOa78
     have hB79 := hB69.ext hEa78 (by simp)
     have hE80 : Ext [] w wa78 := hE71.trans0 hEa78
     have hn81 : w.heap.size ≤ ga78 := by
      rcases hFa78 ga78 (by simp) with h | h
      ·cases h
      ·exact Nat.le_trans hE71.size h
     refine sg wide_wide [.p, .p] [] [(0, I6 k), (1, I6 2), (2, I6 n), (3, .slice (some ⟨g, 0, none⟩) rs.length c), (10, I6 (1 + sumT (rs.map Rf.t))), (13, (Pv w.heap.size)), (84, .slice (some ⟨ga78, 0, none⟩) rs.length ca78), (86, (Po w.heap.size 8))] 9 1 hS .nil fun a hS => ?_
     refine eff_store wide_wide (r := 0) (b := w.heap.size) (off := 8) (vs := [.slice (some ⟨ga78, 0, none⟩) rs.length ca78]) hS (by kernel_rfl) hB79 (by simp) fun a w82 hw83 hS => ?_
     have hB84 : Blk w82 w.heap.size 40 (#[I6 k, I6 0, I6 2, I6 n, I6 0, I6 0, I6 0, I6 0, .slice (some ⟨ga78, 0, none⟩) rs.length ca78, I6 (1 + sumT (rs.map Rf.t))]) := by rw [hw83]; exact hB79.upd _ _
     have hB85 := OwnR.at' hw83 (hOa78.updNe ((OwnR.ne_type hOa78 hB79 (by decide)).symm) _ _)
     have hE86 : Ext [] w w82 := by rw [hw83]; exact hE80.updIn (.inr hs70) _ _
     refine seg_end ?_
     refine hK72 _ _ ?_
     refine sq fun K87 hK87 => ?_
     refine rgn 3 ?_
     refine sg wide_wide [.p, .p, .p] [] [(0, I6 k), (1, I6 2), (2, I6 n), (3, .slice (some ⟨g, 0, none⟩) rs.length c), (10, I6 (1 + sumT (rs.map Rf.t))), (13, (Pv w.heap.size)), (8, (Pv w.heap.size)), (9, I6 0)] 3 0 hS .nil fun a hS => ?_
     refine seg_end ?_
     refine hK87 _ _ ?_
     refine wpIn_ret ?_
     refine ret2 hS Try.results61 rfl rfl ?_
     exact ⟨_, _, rfl, .inr (.inr (.inr ⟨hnb, hsame, hle, w.heap.size, .slice (some ⟨ga78, 0, none⟩) rs.length ca78, rfl, rfl, hs70, fun b hb => (by obtain rfl := (by simpa [ob] using hb : b = ga78); exact hn81), hB84, (hB85 : OwnR _ _ _ _ _ _ _).v, hE86⟩))⟩

set_option maxHeartbeats 1000000 in
theorem RMake_3 {k : Int} {v : Value} {rs : List Rf} {w : World} (hv : OwnV w 29 1 v rs.length (rs.map Rf.ptr)) (hrs : ∀ r ∈ rs, Blk w r.rb 40 r.cs ∧ 1 ≤ r.t.tt ∧ r.t.tt ≤ 4194304) (hlen : rs.length ≤ 17592186044416) :
  Calls Try.prog 61 #[I6 k, I6 3, I6 0, v] w fun e w' => ∃ rp er, e = .returned (.tuple #[.pointer rp, I6 er]) ∧ RMkR w k 3 0 rs rp er w' := by
 have hnb : ¬Bad 3 0 := by unfold Bad; omega
 refine calls_body 88 [(0, I6 k), (1, I6 3), (2, I6 0), (3, v)] Try.func61 rfl (by kernel_rfl) (by kernel_rfl) (by kernel_rfl) fun a hS => ?_
 have hE0 : Ext [] w w := Ext.refl _ _
 refine sq fun K1 hK1 => ?_
 refine rgn 2 ?_
 refine sg wide_wide [.p, .p] [] [(0, I6 k), (1, I6 3), (2, I6 0), (3, v), (8, .pointer none), (9, I6 0)] 2 0 hS .nil fun a hS => ?_
 refine seg_end ?_
 refine hK1 _ _ ?_
 refine sq fun K2 hK2 => ?_
 refine sq fun K3 hK3 => ?_
 refine rgn 26 ?_
 refine sg wide_wide [.p, .p, .p, .p, .p, .p, .p, .no, .no, .p, .p, .no, .no, .p, .p, .p, .p, .p, .p, .p, .p, .p, .no, .no, .p, .p] [] [(0, I6 k), (1, I6 3), (2, I6 0), (3, v), (8, .pointer none), (9, I6 0), (39, .bool false)] 26 0 hS .nil fun a hS => ?_
 refine seg_end ?_
 refine hK3 _ _ ?_
 refine cond_f hS rfl ?_
 refine wpIn_skip ?_
 refine hK2 _ _ ?_
 refine sq fun K4 hK4 => ?_
 refine rgn 1 ?_
 refine sg wide_wide [.p] [] [(0, I6 k), (1, I6 3), (2, I6 0), (3, v), (8, .pointer none), (9, I6 0), (39, .bool false), (10, I6 1)] 1 0 hS .nil fun a hS => ?_
 refine seg_end ?_
 refine hK4 _ _ ?_
 refine sq fun K5 hK5 => ?_
 refine sq fun K6 hK6 => ?_
 refine rgn 1 ?_
 refine sg wide_wide [.p] [] [(0, I6 k), (1, I6 3), (2, I6 0), (3, v), (8, .pointer none), (9, I6 0), (39, .bool false), (10, I6 1), (11, I6 0)] 1 0 hS .nil fun a hS => ?_
 refine seg_end ?_
 refine hK6 _ _ ?_
 refine wpIn_block ?_
 refine loop_ghost (fun (j : Nat) a' w' => St 88 [] [(0, I6 k), (1, I6 3), (2, I6 0), (3, v), (10, I6 1), (11, I6 ↑j)] a' ∧ w' = w ∧ j ≤ rs.length ∧ ∀ r ∈ rs.take j, r.k = k) (fun (j : Nat) => rs.length - j) 0 ⟨hS.keepTo [0, 1, 2, 3, 10, 11] (by kernel_rfl), rfl, Nat.zero_le _, by simp⟩ ?_
 rintro j a w2 ⟨hS, hw2, hjl, hsame⟩
 rw [hw2]
 refine sq fun K7 hK7 => ?_
 refine sq fun K8 hK8 => ?_
 refine rgn 4 ?_
 refine sg wide_wide [.p, .p, .run (I6 ↑rs.length), .p] [Ru Try.prog (vS (Builtin.len_ #[33] 3 #[v])) (I6 ↑rs.length) w] [(0, I6 k), (1, I6 3), (2, I6 0), (3, v), (10, I6 1), (11, I6 ↑j), (43, .bool (decide ((↑j : Int) < ↑rs.length)))] 4 0 hS (.cons (run_len_own hv (by kernel_rfl)) .nil) fun a hS => ?_
 refine seg_end ?_
 refine hK8 _ _ ?_
 refine cond_b hS rfl (fun hb9 => ?_) (fun hb9 => ?_)
 ·
  replace hb9 := of_decide_eq_true hb9
  have hj : j < rs.length := by omega
  obtain ⟨q, hq⟩ : ∃ q, rs[j]? = some q := ⟨_, List.getElem?_eq_getElem hj⟩
  have hqm : q ∈ rs := List.mem_of_getElem? hq
  have htake := rf_take_succ hq
  have hqb : Blk w q.rb 40 #[I6 q.k, I6 ↑q.i, I6 q.t.kd, I6 q.t.nn, I6 q.t.lk, I6 q.t.ls, I6 q.t.ll, I6 q.t.lr, q.kv, I6 q.t.tt] := (hrs q hqm).1
  have hqt := (hrs q hqm).2
  have hcell : w.cell? ⟨bof v, 0 + j * 1, none⟩ = some q.ptr := by
   rw [show 0 + j * 1 = j by omega]
   exact hv.cellAt j (by simp [hq])
  refine wpIn_skip ?_
  refine hK7 _ _ ?_
  refine sq fun K10 hK10 => ?_
  refine wpIn_block ?_
  refine sq fun K11 hK11 => ?_
  refine rgn 9 ?_
  refine sg wide_wide [.p, .p, .run ((Po (bof v) (0 + j * 1))), .ld ((Pv q.rb)), .p, .p, .ld (I6 q.k), .p, .p] [Ru Try.prog (vS (Instr.indexAt 33 (v) (I6 ↑j))) ((Po (bof v) (0 + j * 1))) w, w.cell? ⟨bof v, 0 + j * 1, none⟩ = some ((Pv q.rb)), _] [(0, I6 k), (1, I6 3), (2, I6 0), (3, v), (10, I6 1), (11, I6 ↑j), (54, .bool ((q.k : Int) != k))] 9 0 hS (.cons (ix_own (j := j) hv (by kernel_rfl) (by kernel_rfl) rfl hj) (.cons (hcell) (.cons (hqb.cell 0 rfl) .nil))) fun a hS => ?_
  refine seg_end ?_
  refine hK11 _ _ ?_
  refine cond_b hS rfl (fun hb12 => ?_) (fun hb12 => ?_)
  ·
   replace hb12 := test_ne_t hb12
   refine sq fun K13 hK13 => ?_
   refine rgn 2 ?_
   refine sg wide_wide [.p, .p] [] [(0, I6 k), (1, I6 3), (2, I6 0), (3, v), (10, I6 1), (11, I6 ↑j), (8, .pointer none), (9, I6 100)] 2 0 hS .nil fun a hS => ?_
   refine seg_end ?_
   refine hK13 _ _ ?_
   refine wpIn_ret ?_
   refine inBlock_ret ?_
   refine then_ret ?_
   refine then_ret ?_
   refine inBlock_ret ?_
   refine then_ret ?_
   refine ret2 hS Try.results61 rfl rfl ?_
   exact ⟨_, _, rfl, .inr (.inl ⟨hnb, ⟨q, hqm, hb12⟩, rfl, rfl, hE0⟩)⟩
  ·
   replace hb12 := test_ne_f hb12
   refine wpIn_skip ?_
   refine inBlock_normal ?_
   refine hK10 _ _ ?_
   refine rgn 3 ?_
   refine sg wide_wide [.p, .as (I6 (↑j + 1)), .p] [Value.int .i64 (IntKind.i64.wrap (↑j + 1)) = I6 (↑j + 1)] [(0, I6 k), (1, I6 3), (2, I6 0), (3, v), (10, I6 1), (11, I6 (↑j + 1))] 3 0 hS (.cons (as_i64 (by omega)) .nil) fun a hS => ?_
   refine seg_end ?_
   exact ⟨j + 1, ⟨hS.keepTo [0, 1, 2, 3, 10, 11] (by kernel_rfl), rfl, by omega, by rw [htake]; intro r hr; rcases List.mem_append.1 hr with hr | hr; exact hsame r hr; obtain rfl := (by simpa using hr : r = q); exact hb12⟩, by omega⟩
 ·
  replace hb9 := of_decide_eq_false hb9
  obtain rfl : j = rs.length := by omega
  rw [List.take_length] at hsame
  refine wpIn_exit ?_
  refine then_exit ?_
  refine then_exit ?_
  refine inBlock_hit ?_
  refine hK5 _ _ ?_
  refine sq fun K14 hK14 => ?_
  refine sq fun K15 hK15 => ?_
  refine rgn 1 ?_
  refine sg wide_wide [.p] [] [(0, I6 k), (1, I6 3), (2, I6 0), (3, v), (10, I6 1), (12, I6 0)] 1 0 hS .nil fun a hS => ?_
  refine seg_end ?_
  refine hK15 _ _ ?_
  refine wpIn_block ?_
  have hS0 := hS.keepTo [0, 1, 2, 3, 10, 12] (m' := [(0, I6 k), (1, I6 3), (2, I6 0), (3, v), (10, I6 1), (12, I6 0)]) (by kernel_rfl)
  clear hS
  have hS : St 88 [] [(0, I6 k), (1, I6 3), (2, I6 0), (3, v), (10, I6 (1 + sumT ((rs.take 0).map Rf.t))), (12, I6 ((0 : Nat) : Int))] a := by simpa [sumT] using hS0
  refine loop_ghost (fun (j : Nat) a' w' => St 88 [] [(0, I6 k), (1, I6 3), (2, I6 0), (3, v), (10, I6 (1 + sumT ((rs.take j).map Rf.t))), (12, I6 ↑j)] a' ∧ w' = w ∧ j ≤ rs.length ∧ 1 + sumT ((rs.take j).map Rf.t) ≤ 4194304) (fun (j : Nat) => rs.length - j) 0 ⟨hS.keepTo [0, 1, 2, 3, 10, 12] (by kernel_rfl), rfl, Nat.zero_le _, by simp [sumT]⟩ ?_
  rintro j a w2 ⟨hS, hw2, hjl, hle⟩
  rw [hw2]
  refine sq fun K16 hK16 => ?_
  refine sq fun K17 hK17 => ?_
  refine rgn 4 ?_
  refine sg wide_wide [.p, .p, .run (I6 ↑rs.length), .p] [Ru Try.prog (vS (Builtin.len_ #[33] 3 #[v])) (I6 ↑rs.length) w] [(0, I6 k), (1, I6 3), (2, I6 0), (3, v), (10, I6 (1 + sumT ((rs.take j).map Rf.t))), (12, I6 ↑j), (58, .bool (decide ((↑j : Int) < ↑rs.length)))] 4 0 hS (.cons (run_len_own hv (by kernel_rfl)) .nil) fun a hS => ?_
  refine seg_end ?_
  refine hK17 _ _ ?_
  refine cond_b hS rfl (fun hb18 => ?_) (fun hb18 => ?_)
  ·
   replace hb18 := of_decide_eq_true hb18
   have hj : j < rs.length := by omega
   obtain ⟨q, hq⟩ : ∃ q, rs[j]? = some q := ⟨_, List.getElem?_eq_getElem hj⟩
   have hqm : q ∈ rs := List.mem_of_getElem? hq
   have htake := rf_take_succ hq
   have hqb : Blk w q.rb 40 #[I6 q.k, I6 ↑q.i, I6 q.t.kd, I6 q.t.nn, I6 q.t.lk, I6 q.t.ls, I6 q.t.ll, I6 q.t.lr, q.kv, I6 q.t.tt] := (hrs q hqm).1
   have hqt := (hrs q hqm).2
   have hcell : w.cell? ⟨bof v, 0 + j * 1, none⟩ = some q.ptr := by
    rw [show 0 + j * 1 = j by omega]
    exact hv.cellAt j (by simp [hq])
   have hsn : sumT ((rs.take (j + 1)).map Rf.t) = sumT ((rs.take j).map Rf.t) + q.t.tt := by rw [htake, List.map_append]; exact sumT_snoc _ _
   have hs1 := sumT_le hrs j
   have hs2 := sumT_le hrs (j + 1)
   refine wpIn_skip ?_
   refine hK16 _ _ ?_
   refine sq fun K19 hK19 => ?_
   refine wpIn_block ?_
   refine sq fun K20 hK20 => ?_
   refine rgn 10 ?_
   refine sg wide_wide [.p, .p, .p, .run ((Po (bof v) (0 + j * 1))), .ld ((Pv q.rb)), .p, .p, .ld (I6 q.t.tt), .as (I6 ((1 + sumT ((rs.take j).map Rf.t)) + q.t.tt)), .p] [Ru Try.prog (vS (Instr.indexAt 33 (v) (I6 ↑j))) ((Po (bof v) (0 + j * 1))) w, w.cell? ⟨bof v, 0 + j * 1, none⟩ = some ((Pv q.rb)), _, Value.int .i64 (IntKind.i64.wrap ((1 + sumT ((rs.take j).map Rf.t)) + q.t.tt)) = I6 ((1 + sumT ((rs.take j).map Rf.t)) + q.t.tt)] [(0, I6 k), (1, I6 3), (2, I6 0), (3, v), (10, I6 ((1 + sumT ((rs.take j).map Rf.t)) + q.t.tt)), (12, I6 ↑j)] 10 0 hS (.cons (ix_own (j := j) hv (by kernel_rfl) (by kernel_rfl) rfl hj) (.cons (hcell) (.cons (hqb.cell 9 rfl) (.cons (as_i64 (by omega)) .nil)))) fun a hS => ?_
   refine seg_end ?_
   refine hK20 _ _ ?_
   refine sq fun K21 hK21 => ?_
   refine rgn 2 ?_
   refine sg wide_wide [.p, .p] [] [(0, I6 k), (1, I6 3), (2, I6 0), (3, v), (10, I6 ((1 + sumT ((rs.take j).map Rf.t)) + q.t.tt)), (12, I6 ↑j), (71, .bool (decide (((1 + sumT ((rs.take j).map Rf.t)) + q.t.tt : Int) > 4194304)))] 2 0 hS .nil fun a hS => ?_
   refine seg_end ?_
   refine hK21 _ _ ?_
   refine cond_b hS rfl (fun hb22 => ?_) (fun hb22 => ?_)
   ·
    replace hb22 := of_decide_eq_true hb22
    refine sq fun K23 hK23 => ?_
    refine rgn 2 ?_
    refine sg wide_wide [.p, .p] [] [(0, I6 k), (1, I6 3), (2, I6 0), (3, v), (10, I6 ((1 + sumT ((rs.take j).map Rf.t)) + q.t.tt)), (12, I6 ↑j), (8, .pointer none), (9, I6 6)] 2 0 hS .nil fun a hS => ?_
    refine seg_end ?_
    refine hK23 _ _ ?_
    refine wpIn_ret ?_
    refine inBlock_ret ?_
    refine then_ret ?_
    refine then_ret ?_
    refine inBlock_ret ?_
    refine then_ret ?_
    refine ret2 hS Try.results61 rfl rfl ?_
    exact ⟨_, _, rfl, .inr (.inr (.inl ⟨hnb, hsame, by omega, rfl, rfl, hE0⟩))⟩
   ·
    replace hb22 := of_decide_eq_false hb22
    refine wpIn_skip ?_
    refine inBlock_normal ?_
    refine hK19 _ _ ?_
    refine rgn 3 ?_
    refine sg wide_wide [.p, .as (I6 (↑j + 1)), .p] [Value.int .i64 (IntKind.i64.wrap (↑j + 1)) = I6 (↑j + 1)] [(0, I6 k), (1, I6 3), (2, I6 0), (3, v), (10, I6 ((1 + sumT ((rs.take j).map Rf.t)) + q.t.tt)), (12, I6 (↑j + 1))] 3 0 hS (.cons (as_i64 (by omega)) .nil) fun a hS => ?_
    refine seg_end ?_
    exact ⟨j + 1, ⟨by rw [hsn, ← Int.add_assoc]; exact hS.keepTo [0, 1, 2, 3, 10, 12] (by kernel_rfl), rfl, by omega, by omega⟩, by omega⟩
  ·
   replace hb18 := of_decide_eq_false hb18
   obtain rfl : j = rs.length := by omega
   rw [List.take_length] at hS hle
   refine wpIn_exit ?_
   refine then_exit ?_
   refine then_exit ?_
   refine inBlock_hit ?_
   refine hK14 _ _ ?_
   refine sq fun K24 hK24 => ?_
   refine rgn 7 ?_
   refine sg wide_wide [.p, .p, .p, .p, .p] [] [(0, I6 k), (1, I6 3), (2, I6 0), (3, v), (10, I6 (1 + sumT (rs.map Rf.t))), (76, .agg #[I6 k, I6 0, I6 3, I6 0, I6 0, I6 0, I6 0, I6 0, .slice none 0 0, I6 (1 + sumT (rs.map Rf.t))])] 5 2 hS .nil fun a hS => ?_
   refine eff_box wide_wide (r := 1) (cs := #[I6 k, I6 0, I6 3, I6 0, I6 0, I6 0, I6 0, I6 0, .slice none 0 0, I6 (1 + sumT (rs.map Rf.t))]) (T := 40) (d := (some 77)) hS (by kernel_rfl) fun a w25 hw26 hS => ?_
   have hB27 : Blk w25 (w.heap.size) 40 #[I6 k, I6 0, I6 3, I6 0, I6 0, I6 0, I6 0, I6 0, .slice none 0 0, I6 (1 + sumT (rs.map Rf.t))] := by rw [hw26]; exact Blk.new _ _ _
   have hs28 : w.heap.size ≤ w.heap.size := hE0.size
   have hE29 : Ext [] w w25 := by rw [hw26]; exact hE0.alloc _
   refine sg wide_wide [.p] [] [(0, I6 k), (1, I6 3), (2, I6 0), (3, v), (10, I6 (1 + sumT (rs.map Rf.t))), (13, (Pv w.heap.size))] 7 0 hS .nil fun a hS => ?_
   refine seg_end ?_
   refine hK24 _ _ ?_
   refine sq fun K30 hK30 => ?_
   rcases Nat.eq_zero_or_pos rs.length with h0 | h0
   ·
    obtain ⟨a0, c0, hvv⟩ := hv.form
    rw [h0] at hvv
    subst hvv
    have hrs0 : rs = [] := List.eq_nil_of_length_eq_zero h0
    refine rgn 10 ?_
    refine sg wide_wide [.p, .p, .p, .p, .ld (.slice none 0 0), .p] [_] [(0, I6 k), (1, I6 3), (2, I6 0), (3, .slice a0 0 c0), (10, I6 (1 + sumT (rs.map Rf.t))), (13, (Pv w.heap.size)), (78, (Pv w.heap.size)), (82, .slice none 0 0), (83, .slice a0 0 c0)] 6 4 hS (.cons (hB27.cell 8 rfl) .nil) fun a hS => ?_
    refine eff_run wide_wide (r := 3) (s := vS (Builtin.append_ #[33, 33] 33 #[.slice none 0 0, .slice a0 0 c0])) (d := (some 84)) (v := .slice none 0 0) hS (by kernel_rfl) (vS_run (append_none (e := 29) (size := 1) (bytes := 8) (z := #[.pointer none]) (n := 0) (xs := []) (by kernel_rfl) (by kernel_rfl) (OwnV.nil _ _ _))) fun a hS => ?_
    refine sg wide_wide [.p, .p] [] [(0, I6 k), (1, I6 3), (2, I6 0), (3, .slice a0 0 c0), (10, I6 (1 + sumT (rs.map Rf.t))), (13, (Pv w.heap.size)), (84, .slice none 0 0), (86, (Po w.heap.size 8))] 9 1 hS .nil fun a hS => ?_
    refine eff_store wide_wide (r := 0) (b := w.heap.size) (off := 8) (vs := [.slice none 0 0]) hS (by kernel_rfl) hB27 (by simp) fun a w31 hw32 hS => ?_
    have hB33 : Blk w31 w.heap.size 40 (#[I6 k, I6 0, I6 3, I6 0, I6 0, I6 0, I6 0, I6 0, .slice none 0 0, I6 (1 + sumT (rs.map Rf.t))]) := by rw [hw32]; exact hB27.upd _ _
    have hE34 : Ext [] w w31 := by rw [hw32]; exact hE29.updIn (.inr hs28) _ _
    refine seg_end ?_
    refine hK30 _ _ ?_
    refine sq fun K35 hK35 => ?_
    refine rgn 3 ?_
    refine sg wide_wide [.p, .p, .p] [] [(0, I6 k), (1, I6 3), (2, I6 0), (3, .slice a0 0 c0), (10, I6 (1 + sumT (rs.map Rf.t))), (13, (Pv w.heap.size)), (8, (Pv w.heap.size)), (9, I6 0)] 3 0 hS .nil fun a hS => ?_
    refine seg_end ?_
    refine hK35 _ _ ?_
    refine wpIn_ret ?_
    refine ret2 hS Try.results61 rfl rfl ?_
    exact ⟨_, _, rfl, .inr (.inr (.inr ⟨hnb, hsame, hle, w.heap.size, .slice none 0 0, rfl, rfl, hs28, fun b hb => (by have hb : b ∈ ([] : List Nat) := hb; cases hb), hB33, (by rw [hrs0]; exact OwnV.nil _ _ _), hE34⟩))⟩
   ·
    obtain ⟨g, c, rfl, hO⟩ := hv.some_of_pos h0
    refine rgn 10 ?_
    refine sg wide_wide [.p, .p, .p, .p, .ld (.slice none 0 0), .p] [_] [(0, I6 k), (1, I6 3), (2, I6 0), (3, .slice (some ⟨g, 0, none⟩) rs.length c), (10, I6 (1 + sumT (rs.map Rf.t))), (13, (Pv w.heap.size)), (78, (Pv w.heap.size)), (82, .slice none 0 0), (83, .slice (some ⟨g, 0, none⟩) rs.length c)] 6 4 hS (.cons (hB27.cell 8 rfl) .nil) fun a hS => ?_
    have hO2 := hO.ext hE29 (by simp)
    refine eff_append2 wide_wide (r := 3) (d := (some 84)) (t := 33) (ty := 33) (e := 29) (size := 1) (bytes := 8) (len := 0) (b := g) (off := 0) (k := rs.length) (c := c) (z := #[.pointer none]) (v := Value.slice none 0 0) (xs := ([])) (rs.map Rf.ptr) hS (by kernel_rfl) (by kernel_rfl) (by kernel_rfl) (by kernel_rfl) (by kernel_rfl) (OwnV.nil _ _ _) (by simp) (fun j u hu => by rw [Nat.zero_add]; exact hO2.cellAt j hu) (oneAll_rptr rs) (by omega) (by omega) (by omega) fun ga36 ca36 a wa36 hOa36 hEa36 hFa36 hS => ?_
    replace hEa36 : Ext [] w25 wa36 := hEa36
    replace hFa36 : Fresh w25.heap.size [] [ga36] := hFa36
    rw [Nat.zero_add] at hOa36 hS
    rw [List.nil_append] at hOa36
    have hB37 := hB27.ext hEa36 (by simp)
    have hE38 : Ext [] w wa36 := hE29.trans0 hEa36
    have hn39 : w.heap.size ≤ ga36 := by
     rcases hFa36 ga36 (by simp) with h | h
     ·cases h
     ·exact Nat.le_trans hE29.size h
    refine sg wide_wide [.p, .p] [] [(0, I6 k), (1, I6 3), (2, I6 0), (3, .slice (some ⟨g, 0, none⟩) rs.length c), (10, I6 (1 + sumT (rs.map Rf.t))), (13, (Pv w.heap.size)), (84, .slice (some ⟨ga36, 0, none⟩) rs.length ca36), (86, (Po w.heap.size 8))] 9 1 hS .nil fun a hS => ?_
    refine eff_store wide_wide (r := 0) (b := w.heap.size) (off := 8) (vs := [.slice (some ⟨ga36, 0, none⟩) rs.length ca36]) hS (by kernel_rfl) hB37 (by simp) fun a w40 hw41 hS => ?_
    have hB42 : Blk w40 w.heap.size 40 (#[I6 k, I6 0, I6 3, I6 0, I6 0, I6 0, I6 0, I6 0, .slice (some ⟨ga36, 0, none⟩) rs.length ca36, I6 (1 + sumT (rs.map Rf.t))]) := by rw [hw41]; exact hB37.upd _ _
    have hB43 := OwnR.at' hw41 (hOa36.updNe ((OwnR.ne_type hOa36 hB37 (by decide)).symm) _ _)
    have hE44 : Ext [] w w40 := by rw [hw41]; exact hE38.updIn (.inr hs28) _ _
    refine seg_end ?_
    refine hK30 _ _ ?_
    refine sq fun K45 hK45 => ?_
    refine rgn 3 ?_
    refine sg wide_wide [.p, .p, .p] [] [(0, I6 k), (1, I6 3), (2, I6 0), (3, .slice (some ⟨g, 0, none⟩) rs.length c), (10, I6 (1 + sumT (rs.map Rf.t))), (13, (Pv w.heap.size)), (8, (Pv w.heap.size)), (9, I6 0)] 3 0 hS .nil fun a hS => ?_
    refine seg_end ?_
    refine hK45 _ _ ?_
    refine wpIn_ret ?_
    refine ret2 hS Try.results61 rfl rfl ?_
    exact ⟨_, _, rfl, .inr (.inr (.inr ⟨hnb, hsame, hle, w.heap.size, .slice (some ⟨ga36, 0, none⟩) rs.length ca36, rfl, rfl, hs28, fun b hb => (by obtain rfl := (by simpa [ob] using hb : b = ga36); exact hn39), hB42, (hB43 : OwnR _ _ _ _ _ _ _).v, hE44⟩))⟩

set_option maxHeartbeats 1000000 in
theorem RMake_4 {k : Int} {v : Value} {rs : List Rf} {w : World} (hv : OwnV w 29 1 v rs.length (rs.map Rf.ptr)) (hrs : ∀ r ∈ rs, Blk w r.rb 40 r.cs ∧ 1 ≤ r.t.tt ∧ r.t.tt ≤ 4194304) (hlen : rs.length ≤ 17592186044416) :
  Calls Try.prog 61 #[I6 k, I6 4, I6 0, v] w fun e w' => ∃ rp er, e = .returned (.tuple #[.pointer rp, I6 er]) ∧ RMkR w k 4 0 rs rp er w' := by
 have hnb : ¬Bad 4 0 := by unfold Bad; omega
 refine calls_body 88 [(0, I6 k), (1, I6 4), (2, I6 0), (3, v)] Try.func61 rfl (by kernel_rfl) (by kernel_rfl) (by kernel_rfl) fun a hS => ?_
 have hE0 : Ext [] w w := Ext.refl _ _
 refine sq fun K1 hK1 => ?_
 refine rgn 2 ?_
 refine sg wide_wide [.p, .p] [] [(0, I6 k), (1, I6 4), (2, I6 0), (3, v), (8, .pointer none), (9, I6 0)] 2 0 hS .nil fun a hS => ?_
 refine seg_end ?_
 refine hK1 _ _ ?_
 refine sq fun K2 hK2 => ?_
 refine sq fun K3 hK3 => ?_
 refine rgn 26 ?_
 refine sg wide_wide [.p, .p, .p, .p, .p, .p, .p, .p, .p, .p, .p, .no, .no, .p, .p, .p, .p, .p, .p, .p, .p, .p, .no, .no, .p, .p] [] [(0, I6 k), (1, I6 4), (2, I6 0), (3, v), (8, .pointer none), (9, I6 0), (39, .bool false)] 26 0 hS .nil fun a hS => ?_
 refine seg_end ?_
 refine hK3 _ _ ?_
 refine cond_f hS rfl ?_
 refine wpIn_skip ?_
 refine hK2 _ _ ?_
 refine sq fun K4 hK4 => ?_
 refine rgn 1 ?_
 refine sg wide_wide [.p] [] [(0, I6 k), (1, I6 4), (2, I6 0), (3, v), (8, .pointer none), (9, I6 0), (39, .bool false), (10, I6 1)] 1 0 hS .nil fun a hS => ?_
 refine seg_end ?_
 refine hK4 _ _ ?_
 refine sq fun K5 hK5 => ?_
 refine sq fun K6 hK6 => ?_
 refine rgn 1 ?_
 refine sg wide_wide [.p] [] [(0, I6 k), (1, I6 4), (2, I6 0), (3, v), (8, .pointer none), (9, I6 0), (39, .bool false), (10, I6 1), (11, I6 0)] 1 0 hS .nil fun a hS => ?_
 refine seg_end ?_
 refine hK6 _ _ ?_
 refine wpIn_block ?_
 refine loop_ghost (fun (j : Nat) a' w' => St 88 [] [(0, I6 k), (1, I6 4), (2, I6 0), (3, v), (10, I6 1), (11, I6 ↑j)] a' ∧ w' = w ∧ j ≤ rs.length ∧ ∀ r ∈ rs.take j, r.k = k) (fun (j : Nat) => rs.length - j) 0 ⟨hS.keepTo [0, 1, 2, 3, 10, 11] (by kernel_rfl), rfl, Nat.zero_le _, by simp⟩ ?_
 rintro j a w2 ⟨hS, hw2, hjl, hsame⟩
 rw [hw2]
 refine sq fun K7 hK7 => ?_
 refine sq fun K8 hK8 => ?_
 refine rgn 4 ?_
 refine sg wide_wide [.p, .p, .run (I6 ↑rs.length), .p] [Ru Try.prog (vS (Builtin.len_ #[33] 3 #[v])) (I6 ↑rs.length) w] [(0, I6 k), (1, I6 4), (2, I6 0), (3, v), (10, I6 1), (11, I6 ↑j), (43, .bool (decide ((↑j : Int) < ↑rs.length)))] 4 0 hS (.cons (run_len_own hv (by kernel_rfl)) .nil) fun a hS => ?_
 refine seg_end ?_
 refine hK8 _ _ ?_
 refine cond_b hS rfl (fun hb9 => ?_) (fun hb9 => ?_)
 ·
  replace hb9 := of_decide_eq_true hb9
  have hj : j < rs.length := by omega
  obtain ⟨q, hq⟩ : ∃ q, rs[j]? = some q := ⟨_, List.getElem?_eq_getElem hj⟩
  have hqm : q ∈ rs := List.mem_of_getElem? hq
  have htake := rf_take_succ hq
  have hqb : Blk w q.rb 40 #[I6 q.k, I6 ↑q.i, I6 q.t.kd, I6 q.t.nn, I6 q.t.lk, I6 q.t.ls, I6 q.t.ll, I6 q.t.lr, q.kv, I6 q.t.tt] := (hrs q hqm).1
  have hqt := (hrs q hqm).2
  have hcell : w.cell? ⟨bof v, 0 + j * 1, none⟩ = some q.ptr := by
   rw [show 0 + j * 1 = j by omega]
   exact hv.cellAt j (by simp [hq])
  refine wpIn_skip ?_
  refine hK7 _ _ ?_
  refine sq fun K10 hK10 => ?_
  refine wpIn_block ?_
  refine sq fun K11 hK11 => ?_
  refine rgn 9 ?_
  refine sg wide_wide [.p, .p, .run ((Po (bof v) (0 + j * 1))), .ld ((Pv q.rb)), .p, .p, .ld (I6 q.k), .p, .p] [Ru Try.prog (vS (Instr.indexAt 33 (v) (I6 ↑j))) ((Po (bof v) (0 + j * 1))) w, w.cell? ⟨bof v, 0 + j * 1, none⟩ = some ((Pv q.rb)), _] [(0, I6 k), (1, I6 4), (2, I6 0), (3, v), (10, I6 1), (11, I6 ↑j), (54, .bool ((q.k : Int) != k))] 9 0 hS (.cons (ix_own (j := j) hv (by kernel_rfl) (by kernel_rfl) rfl hj) (.cons (hcell) (.cons (hqb.cell 0 rfl) .nil))) fun a hS => ?_
  refine seg_end ?_
  refine hK11 _ _ ?_
  refine cond_b hS rfl (fun hb12 => ?_) (fun hb12 => ?_)
  ·
   replace hb12 := test_ne_t hb12
   refine sq fun K13 hK13 => ?_
   refine rgn 2 ?_
   refine sg wide_wide [.p, .p] [] [(0, I6 k), (1, I6 4), (2, I6 0), (3, v), (10, I6 1), (11, I6 ↑j), (8, .pointer none), (9, I6 100)] 2 0 hS .nil fun a hS => ?_
   refine seg_end ?_
   refine hK13 _ _ ?_
   refine wpIn_ret ?_
   refine inBlock_ret ?_
   refine then_ret ?_
   refine then_ret ?_
   refine inBlock_ret ?_
   refine then_ret ?_
   refine ret2 hS Try.results61 rfl rfl ?_
   exact ⟨_, _, rfl, .inr (.inl ⟨hnb, ⟨q, hqm, hb12⟩, rfl, rfl, hE0⟩)⟩
  ·
   replace hb12 := test_ne_f hb12
   refine wpIn_skip ?_
   refine inBlock_normal ?_
   refine hK10 _ _ ?_
   refine rgn 3 ?_
   refine sg wide_wide [.p, .as (I6 (↑j + 1)), .p] [Value.int .i64 (IntKind.i64.wrap (↑j + 1)) = I6 (↑j + 1)] [(0, I6 k), (1, I6 4), (2, I6 0), (3, v), (10, I6 1), (11, I6 (↑j + 1))] 3 0 hS (.cons (as_i64 (by omega)) .nil) fun a hS => ?_
   refine seg_end ?_
   exact ⟨j + 1, ⟨hS.keepTo [0, 1, 2, 3, 10, 11] (by kernel_rfl), rfl, by omega, by rw [htake]; intro r hr; rcases List.mem_append.1 hr with hr | hr; exact hsame r hr; obtain rfl := (by simpa using hr : r = q); exact hb12⟩, by omega⟩
 ·
  replace hb9 := of_decide_eq_false hb9
  obtain rfl : j = rs.length := by omega
  rw [List.take_length] at hsame
  refine wpIn_exit ?_
  refine then_exit ?_
  refine then_exit ?_
  refine inBlock_hit ?_
  refine hK5 _ _ ?_
  refine sq fun K14 hK14 => ?_
  refine sq fun K15 hK15 => ?_
  refine rgn 1 ?_
  refine sg wide_wide [.p] [] [(0, I6 k), (1, I6 4), (2, I6 0), (3, v), (10, I6 1), (12, I6 0)] 1 0 hS .nil fun a hS => ?_
  refine seg_end ?_
  refine hK15 _ _ ?_
  refine wpIn_block ?_
  have hS0 := hS.keepTo [0, 1, 2, 3, 10, 12] (m' := [(0, I6 k), (1, I6 4), (2, I6 0), (3, v), (10, I6 1), (12, I6 0)]) (by kernel_rfl)
  clear hS
  have hS : St 88 [] [(0, I6 k), (1, I6 4), (2, I6 0), (3, v), (10, I6 (1 + sumT ((rs.take 0).map Rf.t))), (12, I6 ((0 : Nat) : Int))] a := by simpa [sumT] using hS0
  refine loop_ghost (fun (j : Nat) a' w' => St 88 [] [(0, I6 k), (1, I6 4), (2, I6 0), (3, v), (10, I6 (1 + sumT ((rs.take j).map Rf.t))), (12, I6 ↑j)] a' ∧ w' = w ∧ j ≤ rs.length ∧ 1 + sumT ((rs.take j).map Rf.t) ≤ 4194304) (fun (j : Nat) => rs.length - j) 0 ⟨hS.keepTo [0, 1, 2, 3, 10, 12] (by kernel_rfl), rfl, Nat.zero_le _, by simp [sumT]⟩ ?_
  rintro j a w2 ⟨hS, hw2, hjl, hle⟩
  rw [hw2]
  refine sq fun K16 hK16 => ?_
  refine sq fun K17 hK17 => ?_
  refine rgn 4 ?_
  refine sg wide_wide [.p, .p, .run (I6 ↑rs.length), .p] [Ru Try.prog (vS (Builtin.len_ #[33] 3 #[v])) (I6 ↑rs.length) w] [(0, I6 k), (1, I6 4), (2, I6 0), (3, v), (10, I6 (1 + sumT ((rs.take j).map Rf.t))), (12, I6 ↑j), (58, .bool (decide ((↑j : Int) < ↑rs.length)))] 4 0 hS (.cons (run_len_own hv (by kernel_rfl)) .nil) fun a hS => ?_
  refine seg_end ?_
  refine hK17 _ _ ?_
  refine cond_b hS rfl (fun hb18 => ?_) (fun hb18 => ?_)
  ·
   replace hb18 := of_decide_eq_true hb18
   have hj : j < rs.length := by omega
   obtain ⟨q, hq⟩ : ∃ q, rs[j]? = some q := ⟨_, List.getElem?_eq_getElem hj⟩
   have hqm : q ∈ rs := List.mem_of_getElem? hq
   have htake := rf_take_succ hq
   have hqb : Blk w q.rb 40 #[I6 q.k, I6 ↑q.i, I6 q.t.kd, I6 q.t.nn, I6 q.t.lk, I6 q.t.ls, I6 q.t.ll, I6 q.t.lr, q.kv, I6 q.t.tt] := (hrs q hqm).1
   have hqt := (hrs q hqm).2
   have hcell : w.cell? ⟨bof v, 0 + j * 1, none⟩ = some q.ptr := by
    rw [show 0 + j * 1 = j by omega]
    exact hv.cellAt j (by simp [hq])
   have hsn : sumT ((rs.take (j + 1)).map Rf.t) = sumT ((rs.take j).map Rf.t) + q.t.tt := by rw [htake, List.map_append]; exact sumT_snoc _ _
   have hs1 := sumT_le hrs j
   have hs2 := sumT_le hrs (j + 1)
   refine wpIn_skip ?_
   refine hK16 _ _ ?_
   refine sq fun K19 hK19 => ?_
   refine wpIn_block ?_
   refine sq fun K20 hK20 => ?_
   refine rgn 10 ?_
   refine sg wide_wide [.p, .p, .p, .run ((Po (bof v) (0 + j * 1))), .ld ((Pv q.rb)), .p, .p, .ld (I6 q.t.tt), .as (I6 ((1 + sumT ((rs.take j).map Rf.t)) + q.t.tt)), .p] [Ru Try.prog (vS (Instr.indexAt 33 (v) (I6 ↑j))) ((Po (bof v) (0 + j * 1))) w, w.cell? ⟨bof v, 0 + j * 1, none⟩ = some ((Pv q.rb)), _, Value.int .i64 (IntKind.i64.wrap ((1 + sumT ((rs.take j).map Rf.t)) + q.t.tt)) = I6 ((1 + sumT ((rs.take j).map Rf.t)) + q.t.tt)] [(0, I6 k), (1, I6 4), (2, I6 0), (3, v), (10, I6 ((1 + sumT ((rs.take j).map Rf.t)) + q.t.tt)), (12, I6 ↑j)] 10 0 hS (.cons (ix_own (j := j) hv (by kernel_rfl) (by kernel_rfl) rfl hj) (.cons (hcell) (.cons (hqb.cell 9 rfl) (.cons (as_i64 (by omega)) .nil)))) fun a hS => ?_
   refine seg_end ?_
   refine hK20 _ _ ?_
   refine sq fun K21 hK21 => ?_
   refine rgn 2 ?_
   refine sg wide_wide [.p, .p] [] [(0, I6 k), (1, I6 4), (2, I6 0), (3, v), (10, I6 ((1 + sumT ((rs.take j).map Rf.t)) + q.t.tt)), (12, I6 ↑j), (71, .bool (decide (((1 + sumT ((rs.take j).map Rf.t)) + q.t.tt : Int) > 4194304)))] 2 0 hS .nil fun a hS => ?_
   refine seg_end ?_
   refine hK21 _ _ ?_
   refine cond_b hS rfl (fun hb22 => ?_) (fun hb22 => ?_)
   ·
    replace hb22 := of_decide_eq_true hb22
    refine sq fun K23 hK23 => ?_
    refine rgn 2 ?_
    refine sg wide_wide [.p, .p] [] [(0, I6 k), (1, I6 4), (2, I6 0), (3, v), (10, I6 ((1 + sumT ((rs.take j).map Rf.t)) + q.t.tt)), (12, I6 ↑j), (8, .pointer none), (9, I6 6)] 2 0 hS .nil fun a hS => ?_
    refine seg_end ?_
    refine hK23 _ _ ?_
    refine wpIn_ret ?_
    refine inBlock_ret ?_
    refine then_ret ?_
    refine then_ret ?_
    refine inBlock_ret ?_
    refine then_ret ?_
    refine ret2 hS Try.results61 rfl rfl ?_
    exact ⟨_, _, rfl, .inr (.inr (.inl ⟨hnb, hsame, by omega, rfl, rfl, hE0⟩))⟩
   ·
    replace hb22 := of_decide_eq_false hb22
    refine wpIn_skip ?_
    refine inBlock_normal ?_
    refine hK19 _ _ ?_
    refine rgn 3 ?_
    refine sg wide_wide [.p, .as (I6 (↑j + 1)), .p] [Value.int .i64 (IntKind.i64.wrap (↑j + 1)) = I6 (↑j + 1)] [(0, I6 k), (1, I6 4), (2, I6 0), (3, v), (10, I6 ((1 + sumT ((rs.take j).map Rf.t)) + q.t.tt)), (12, I6 (↑j + 1))] 3 0 hS (.cons (as_i64 (by omega)) .nil) fun a hS => ?_
    refine seg_end ?_
    exact ⟨j + 1, ⟨by rw [hsn, ← Int.add_assoc]; exact hS.keepTo [0, 1, 2, 3, 10, 12] (by kernel_rfl), rfl, by omega, by omega⟩, by omega⟩
  ·
   replace hb18 := of_decide_eq_false hb18
   obtain rfl : j = rs.length := by omega
   rw [List.take_length] at hS hle
   refine wpIn_exit ?_
   refine then_exit ?_
   refine then_exit ?_
   refine inBlock_hit ?_
   refine hK14 _ _ ?_
   refine sq fun K24 hK24 => ?_
   refine rgn 7 ?_
   refine sg wide_wide [.p, .p, .p, .p, .p] [] [(0, I6 k), (1, I6 4), (2, I6 0), (3, v), (10, I6 (1 + sumT (rs.map Rf.t))), (76, .agg #[I6 k, I6 0, I6 4, I6 0, I6 0, I6 0, I6 0, I6 0, .slice none 0 0, I6 (1 + sumT (rs.map Rf.t))])] 5 2 hS .nil fun a hS => ?_
   refine eff_box wide_wide (r := 1) (cs := #[I6 k, I6 0, I6 4, I6 0, I6 0, I6 0, I6 0, I6 0, .slice none 0 0, I6 (1 + sumT (rs.map Rf.t))]) (T := 40) (d := (some 77)) hS (by kernel_rfl) fun a w25 hw26 hS => ?_
   have hB27 : Blk w25 (w.heap.size) 40 #[I6 k, I6 0, I6 4, I6 0, I6 0, I6 0, I6 0, I6 0, .slice none 0 0, I6 (1 + sumT (rs.map Rf.t))] := by rw [hw26]; exact Blk.new _ _ _
   have hs28 : w.heap.size ≤ w.heap.size := hE0.size
   have hE29 : Ext [] w w25 := by rw [hw26]; exact hE0.alloc _
   refine sg wide_wide [.p] [] [(0, I6 k), (1, I6 4), (2, I6 0), (3, v), (10, I6 (1 + sumT (rs.map Rf.t))), (13, (Pv w.heap.size))] 7 0 hS .nil fun a hS => ?_
   refine seg_end ?_
   refine hK24 _ _ ?_
   refine sq fun K30 hK30 => ?_
   rcases Nat.eq_zero_or_pos rs.length with h0 | h0
   ·
    obtain ⟨a0, c0, hvv⟩ := hv.form
    rw [h0] at hvv
    subst hvv
    have hrs0 : rs = [] := List.eq_nil_of_length_eq_zero h0
    refine rgn 10 ?_
    refine sg wide_wide [.p, .p, .p, .p, .ld (.slice none 0 0), .p] [_] [(0, I6 k), (1, I6 4), (2, I6 0), (3, .slice a0 0 c0), (10, I6 (1 + sumT (rs.map Rf.t))), (13, (Pv w.heap.size)), (78, (Pv w.heap.size)), (82, .slice none 0 0), (83, .slice a0 0 c0)] 6 4 hS (.cons (hB27.cell 8 rfl) .nil) fun a hS => ?_
    refine eff_run wide_wide (r := 3) (s := vS (Builtin.append_ #[33, 33] 33 #[.slice none 0 0, .slice a0 0 c0])) (d := (some 84)) (v := .slice none 0 0) hS (by kernel_rfl) (vS_run (append_none (e := 29) (size := 1) (bytes := 8) (z := #[.pointer none]) (n := 0) (xs := []) (by kernel_rfl) (by kernel_rfl) (OwnV.nil _ _ _))) fun a hS => ?_
    refine sg wide_wide [.p, .p] [] [(0, I6 k), (1, I6 4), (2, I6 0), (3, .slice a0 0 c0), (10, I6 (1 + sumT (rs.map Rf.t))), (13, (Pv w.heap.size)), (84, .slice none 0 0), (86, (Po w.heap.size 8))] 9 1 hS .nil fun a hS => ?_
    refine eff_store wide_wide (r := 0) (b := w.heap.size) (off := 8) (vs := [.slice none 0 0]) hS (by kernel_rfl) hB27 (by simp) fun a w31 hw32 hS => ?_
    have hB33 : Blk w31 w.heap.size 40 (#[I6 k, I6 0, I6 4, I6 0, I6 0, I6 0, I6 0, I6 0, .slice none 0 0, I6 (1 + sumT (rs.map Rf.t))]) := by rw [hw32]; exact hB27.upd _ _
    have hE34 : Ext [] w w31 := by rw [hw32]; exact hE29.updIn (.inr hs28) _ _
    refine seg_end ?_
    refine hK30 _ _ ?_
    refine sq fun K35 hK35 => ?_
    refine rgn 3 ?_
    refine sg wide_wide [.p, .p, .p] [] [(0, I6 k), (1, I6 4), (2, I6 0), (3, .slice a0 0 c0), (10, I6 (1 + sumT (rs.map Rf.t))), (13, (Pv w.heap.size)), (8, (Pv w.heap.size)), (9, I6 0)] 3 0 hS .nil fun a hS => ?_
    refine seg_end ?_
    refine hK35 _ _ ?_
    refine wpIn_ret ?_
    refine ret2 hS Try.results61 rfl rfl ?_
    exact ⟨_, _, rfl, .inr (.inr (.inr ⟨hnb, hsame, hle, w.heap.size, .slice none 0 0, rfl, rfl, hs28, fun b hb => (by have hb : b ∈ ([] : List Nat) := hb; cases hb), hB33, (by rw [hrs0]; exact OwnV.nil _ _ _), hE34⟩))⟩
   ·
    obtain ⟨g, c, rfl, hO⟩ := hv.some_of_pos h0
    refine rgn 10 ?_
    refine sg wide_wide [.p, .p, .p, .p, .ld (.slice none 0 0), .p] [_] [(0, I6 k), (1, I6 4), (2, I6 0), (3, .slice (some ⟨g, 0, none⟩) rs.length c), (10, I6 (1 + sumT (rs.map Rf.t))), (13, (Pv w.heap.size)), (78, (Pv w.heap.size)), (82, .slice none 0 0), (83, .slice (some ⟨g, 0, none⟩) rs.length c)] 6 4 hS (.cons (hB27.cell 8 rfl) .nil) fun a hS => ?_
    have hO2 := hO.ext hE29 (by simp)
    refine eff_append2 wide_wide (r := 3) (d := (some 84)) (t := 33) (ty := 33) (e := 29) (size := 1) (bytes := 8) (len := 0) (b := g) (off := 0) (k := rs.length) (c := c) (z := #[.pointer none]) (v := Value.slice none 0 0) (xs := ([])) (rs.map Rf.ptr) hS (by kernel_rfl) (by kernel_rfl) (by kernel_rfl) (by kernel_rfl) (by kernel_rfl) (OwnV.nil _ _ _) (by simp) (fun j u hu => by rw [Nat.zero_add]; exact hO2.cellAt j hu) (oneAll_rptr rs) (by omega) (by omega) (by omega) fun ga36 ca36 a wa36 hOa36 hEa36 hFa36 hS => ?_
    replace hEa36 : Ext [] w25 wa36 := hEa36
    replace hFa36 : Fresh w25.heap.size [] [ga36] := hFa36
    rw [Nat.zero_add] at hOa36 hS
    rw [List.nil_append] at hOa36
    have hB37 := hB27.ext hEa36 (by simp)
    have hE38 : Ext [] w wa36 := hE29.trans0 hEa36
    have hn39 : w.heap.size ≤ ga36 := by
     rcases hFa36 ga36 (by simp) with h | h
     ·cases h
     ·exact Nat.le_trans hE29.size h
    refine sg wide_wide [.p, .p] [] [(0, I6 k), (1, I6 4), (2, I6 0), (3, .slice (some ⟨g, 0, none⟩) rs.length c), (10, I6 (1 + sumT (rs.map Rf.t))), (13, (Pv w.heap.size)), (84, .slice (some ⟨ga36, 0, none⟩) rs.length ca36), (86, (Po w.heap.size 8))] 9 1 hS .nil fun a hS => ?_
    refine eff_store wide_wide (r := 0) (b := w.heap.size) (off := 8) (vs := [.slice (some ⟨ga36, 0, none⟩) rs.length ca36]) hS (by kernel_rfl) hB37 (by simp) fun a w40 hw41 hS => ?_
    have hB42 : Blk w40 w.heap.size 40 (#[I6 k, I6 0, I6 4, I6 0, I6 0, I6 0, I6 0, I6 0, .slice (some ⟨ga36, 0, none⟩) rs.length ca36, I6 (1 + sumT (rs.map Rf.t))]) := by rw [hw41]; exact hB37.upd _ _
    have hB43 := OwnR.at' hw41 (hOa36.updNe ((OwnR.ne_type hOa36 hB37 (by decide)).symm) _ _)
    have hE44 : Ext [] w w40 := by rw [hw41]; exact hE38.updIn (.inr hs28) _ _
    refine seg_end ?_
    refine hK30 _ _ ?_
    refine sq fun K45 hK45 => ?_
    refine rgn 3 ?_
    refine sg wide_wide [.p, .p, .p] [] [(0, I6 k), (1, I6 4), (2, I6 0), (3, .slice (some ⟨g, 0, none⟩) rs.length c), (10, I6 (1 + sumT (rs.map Rf.t))), (13, (Pv w.heap.size)), (8, (Pv w.heap.size)), (9, I6 0)] 3 0 hS .nil fun a hS => ?_
    refine seg_end ?_
    refine hK45 _ _ ?_
    refine wpIn_ret ?_
    refine ret2 hS Try.results61 rfl rfl ?_
    exact ⟨_, _, rfl, .inr (.inr (.inr ⟨hnb, hsame, hle, w.heap.size, .slice (some ⟨ga36, 0, none⟩) rs.length ca36, rfl, rfl, hs28, fun b hb => (by obtain rfl := (by simpa [ob] using hb : b = ga36); exact hn39), hB42, (hB43 : OwnR _ _ _ _ _ _ _).v, hE44⟩))⟩

set_option maxHeartbeats 1000000 in
theorem RMake_5 {k : Int} {v : Value} {rs : List Rf} {w : World} (hv : OwnV w 29 1 v rs.length (rs.map Rf.ptr)) (hrs : ∀ r ∈ rs, Blk w r.rb 40 r.cs ∧ 1 ≤ r.t.tt ∧ r.t.tt ≤ 4194304) (hlen : rs.length ≤ 17592186044416) :
  Calls Try.prog 61 #[I6 k, I6 5, I6 0, v] w fun e w' => ∃ rp er, e = .returned (.tuple #[.pointer rp, I6 er]) ∧ RMkR w k 5 0 rs rp er w' := by
 have hnb : ¬Bad 5 0 := by unfold Bad; omega
 refine calls_body 88 [(0, I6 k), (1, I6 5), (2, I6 0), (3, v)] Try.func61 rfl (by kernel_rfl) (by kernel_rfl) (by kernel_rfl) fun a hS => ?_
 have hE0 : Ext [] w w := Ext.refl _ _
 refine sq fun K1 hK1 => ?_
 refine rgn 2 ?_
 refine sg wide_wide [.p, .p] [] [(0, I6 k), (1, I6 5), (2, I6 0), (3, v), (8, .pointer none), (9, I6 0)] 2 0 hS .nil fun a hS => ?_
 refine seg_end ?_
 refine hK1 _ _ ?_
 refine sq fun K2 hK2 => ?_
 refine sq fun K3 hK3 => ?_
 refine rgn 26 ?_
 refine sg wide_wide [.p, .p, .p, .p, .p, .p, .p, .p, .p, .p, .p, .p, .p, .p, .p, .p, .p, .p, .p, .p, .p, .p, .no, .no, .p, .p] [] [(0, I6 k), (1, I6 5), (2, I6 0), (3, v), (8, .pointer none), (9, I6 0), (39, .bool false)] 26 0 hS .nil fun a hS => ?_
 refine seg_end ?_
 refine hK3 _ _ ?_
 refine cond_f hS rfl ?_
 refine wpIn_skip ?_
 refine hK2 _ _ ?_
 refine sq fun K4 hK4 => ?_
 refine rgn 1 ?_
 refine sg wide_wide [.p] [] [(0, I6 k), (1, I6 5), (2, I6 0), (3, v), (8, .pointer none), (9, I6 0), (39, .bool false), (10, I6 1)] 1 0 hS .nil fun a hS => ?_
 refine seg_end ?_
 refine hK4 _ _ ?_
 refine sq fun K5 hK5 => ?_
 refine sq fun K6 hK6 => ?_
 refine rgn 1 ?_
 refine sg wide_wide [.p] [] [(0, I6 k), (1, I6 5), (2, I6 0), (3, v), (8, .pointer none), (9, I6 0), (39, .bool false), (10, I6 1), (11, I6 0)] 1 0 hS .nil fun a hS => ?_
 refine seg_end ?_
 refine hK6 _ _ ?_
 refine wpIn_block ?_
 refine loop_ghost (fun (j : Nat) a' w' => St 88 [] [(0, I6 k), (1, I6 5), (2, I6 0), (3, v), (10, I6 1), (11, I6 ↑j)] a' ∧ w' = w ∧ j ≤ rs.length ∧ ∀ r ∈ rs.take j, r.k = k) (fun (j : Nat) => rs.length - j) 0 ⟨hS.keepTo [0, 1, 2, 3, 10, 11] (by kernel_rfl), rfl, Nat.zero_le _, by simp⟩ ?_
 rintro j a w2 ⟨hS, hw2, hjl, hsame⟩
 rw [hw2]
 refine sq fun K7 hK7 => ?_
 refine sq fun K8 hK8 => ?_
 refine rgn 4 ?_
 refine sg wide_wide [.p, .p, .run (I6 ↑rs.length), .p] [Ru Try.prog (vS (Builtin.len_ #[33] 3 #[v])) (I6 ↑rs.length) w] [(0, I6 k), (1, I6 5), (2, I6 0), (3, v), (10, I6 1), (11, I6 ↑j), (43, .bool (decide ((↑j : Int) < ↑rs.length)))] 4 0 hS (.cons (run_len_own hv (by kernel_rfl)) .nil) fun a hS => ?_
 refine seg_end ?_
 refine hK8 _ _ ?_
 refine cond_b hS rfl (fun hb9 => ?_) (fun hb9 => ?_)
 ·
  replace hb9 := of_decide_eq_true hb9
  have hj : j < rs.length := by omega
  obtain ⟨q, hq⟩ : ∃ q, rs[j]? = some q := ⟨_, List.getElem?_eq_getElem hj⟩
  have hqm : q ∈ rs := List.mem_of_getElem? hq
  have htake := rf_take_succ hq
  have hqb : Blk w q.rb 40 #[I6 q.k, I6 ↑q.i, I6 q.t.kd, I6 q.t.nn, I6 q.t.lk, I6 q.t.ls, I6 q.t.ll, I6 q.t.lr, q.kv, I6 q.t.tt] := (hrs q hqm).1
  have hqt := (hrs q hqm).2
  have hcell : w.cell? ⟨bof v, 0 + j * 1, none⟩ = some q.ptr := by
   rw [show 0 + j * 1 = j by omega]
   exact hv.cellAt j (by simp [hq])
  refine wpIn_skip ?_
  refine hK7 _ _ ?_
  refine sq fun K10 hK10 => ?_
  refine wpIn_block ?_
  refine sq fun K11 hK11 => ?_
  refine rgn 9 ?_
  refine sg wide_wide [.p, .p, .run ((Po (bof v) (0 + j * 1))), .ld ((Pv q.rb)), .p, .p, .ld (I6 q.k), .p, .p] [Ru Try.prog (vS (Instr.indexAt 33 (v) (I6 ↑j))) ((Po (bof v) (0 + j * 1))) w, w.cell? ⟨bof v, 0 + j * 1, none⟩ = some ((Pv q.rb)), _] [(0, I6 k), (1, I6 5), (2, I6 0), (3, v), (10, I6 1), (11, I6 ↑j), (54, .bool ((q.k : Int) != k))] 9 0 hS (.cons (ix_own (j := j) hv (by kernel_rfl) (by kernel_rfl) rfl hj) (.cons (hcell) (.cons (hqb.cell 0 rfl) .nil))) fun a hS => ?_
  refine seg_end ?_
  refine hK11 _ _ ?_
  refine cond_b hS rfl (fun hb12 => ?_) (fun hb12 => ?_)
  ·
   replace hb12 := test_ne_t hb12
   refine sq fun K13 hK13 => ?_
   refine rgn 2 ?_
   refine sg wide_wide [.p, .p] [] [(0, I6 k), (1, I6 5), (2, I6 0), (3, v), (10, I6 1), (11, I6 ↑j), (8, .pointer none), (9, I6 100)] 2 0 hS .nil fun a hS => ?_
   refine seg_end ?_
   refine hK13 _ _ ?_
   refine wpIn_ret ?_
   refine inBlock_ret ?_
   refine then_ret ?_
   refine then_ret ?_
   refine inBlock_ret ?_
   refine then_ret ?_
   refine ret2 hS Try.results61 rfl rfl ?_
   exact ⟨_, _, rfl, .inr (.inl ⟨hnb, ⟨q, hqm, hb12⟩, rfl, rfl, hE0⟩)⟩
  ·
   replace hb12 := test_ne_f hb12
   refine wpIn_skip ?_
   refine inBlock_normal ?_
   refine hK10 _ _ ?_
   refine rgn 3 ?_
   refine sg wide_wide [.p, .as (I6 (↑j + 1)), .p] [Value.int .i64 (IntKind.i64.wrap (↑j + 1)) = I6 (↑j + 1)] [(0, I6 k), (1, I6 5), (2, I6 0), (3, v), (10, I6 1), (11, I6 (↑j + 1))] 3 0 hS (.cons (as_i64 (by omega)) .nil) fun a hS => ?_
   refine seg_end ?_
   exact ⟨j + 1, ⟨hS.keepTo [0, 1, 2, 3, 10, 11] (by kernel_rfl), rfl, by omega, by rw [htake]; intro r hr; rcases List.mem_append.1 hr with hr | hr; exact hsame r hr; obtain rfl := (by simpa using hr : r = q); exact hb12⟩, by omega⟩
 ·
  replace hb9 := of_decide_eq_false hb9
  obtain rfl : j = rs.length := by omega
  rw [List.take_length] at hsame
  refine wpIn_exit ?_
  refine then_exit ?_
  refine then_exit ?_
  refine inBlock_hit ?_
  refine hK5 _ _ ?_
  refine sq fun K14 hK14 => ?_
  refine sq fun K15 hK15 => ?_
  refine rgn 1 ?_
  refine sg wide_wide [.p] [] [(0, I6 k), (1, I6 5), (2, I6 0), (3, v), (10, I6 1), (12, I6 0)] 1 0 hS .nil fun a hS => ?_
  refine seg_end ?_
  refine hK15 _ _ ?_
  refine wpIn_block ?_
  have hS0 := hS.keepTo [0, 1, 2, 3, 10, 12] (m' := [(0, I6 k), (1, I6 5), (2, I6 0), (3, v), (10, I6 1), (12, I6 0)]) (by kernel_rfl)
  clear hS
  have hS : St 88 [] [(0, I6 k), (1, I6 5), (2, I6 0), (3, v), (10, I6 (1 + sumT ((rs.take 0).map Rf.t))), (12, I6 ((0 : Nat) : Int))] a := by simpa [sumT] using hS0
  refine loop_ghost (fun (j : Nat) a' w' => St 88 [] [(0, I6 k), (1, I6 5), (2, I6 0), (3, v), (10, I6 (1 + sumT ((rs.take j).map Rf.t))), (12, I6 ↑j)] a' ∧ w' = w ∧ j ≤ rs.length ∧ 1 + sumT ((rs.take j).map Rf.t) ≤ 4194304) (fun (j : Nat) => rs.length - j) 0 ⟨hS.keepTo [0, 1, 2, 3, 10, 12] (by kernel_rfl), rfl, Nat.zero_le _, by simp [sumT]⟩ ?_
  rintro j a w2 ⟨hS, hw2, hjl, hle⟩
  rw [hw2]
  refine sq fun K16 hK16 => ?_
  refine sq fun K17 hK17 => ?_
  refine rgn 4 ?_
  refine sg wide_wide [.p, .p, .run (I6 ↑rs.length), .p] [Ru Try.prog (vS (Builtin.len_ #[33] 3 #[v])) (I6 ↑rs.length) w] [(0, I6 k), (1, I6 5), (2, I6 0), (3, v), (10, I6 (1 + sumT ((rs.take j).map Rf.t))), (12, I6 ↑j), (58, .bool (decide ((↑j : Int) < ↑rs.length)))] 4 0 hS (.cons (run_len_own hv (by kernel_rfl)) .nil) fun a hS => ?_
  refine seg_end ?_
  refine hK17 _ _ ?_
  refine cond_b hS rfl (fun hb18 => ?_) (fun hb18 => ?_)
  ·
   replace hb18 := of_decide_eq_true hb18
   have hj : j < rs.length := by omega
   obtain ⟨q, hq⟩ : ∃ q, rs[j]? = some q := ⟨_, List.getElem?_eq_getElem hj⟩
   have hqm : q ∈ rs := List.mem_of_getElem? hq
   have htake := rf_take_succ hq
   have hqb : Blk w q.rb 40 #[I6 q.k, I6 ↑q.i, I6 q.t.kd, I6 q.t.nn, I6 q.t.lk, I6 q.t.ls, I6 q.t.ll, I6 q.t.lr, q.kv, I6 q.t.tt] := (hrs q hqm).1
   have hqt := (hrs q hqm).2
   have hcell : w.cell? ⟨bof v, 0 + j * 1, none⟩ = some q.ptr := by
    rw [show 0 + j * 1 = j by omega]
    exact hv.cellAt j (by simp [hq])
   have hsn : sumT ((rs.take (j + 1)).map Rf.t) = sumT ((rs.take j).map Rf.t) + q.t.tt := by rw [htake, List.map_append]; exact sumT_snoc _ _
   have hs1 := sumT_le hrs j
   have hs2 := sumT_le hrs (j + 1)
   refine wpIn_skip ?_
   refine hK16 _ _ ?_
   refine sq fun K19 hK19 => ?_
   refine wpIn_block ?_
   refine sq fun K20 hK20 => ?_
   refine rgn 10 ?_
   refine sg wide_wide [.p, .p, .p, .run ((Po (bof v) (0 + j * 1))), .ld ((Pv q.rb)), .p, .p, .ld (I6 q.t.tt), .as (I6 ((1 + sumT ((rs.take j).map Rf.t)) + q.t.tt)), .p] [Ru Try.prog (vS (Instr.indexAt 33 (v) (I6 ↑j))) ((Po (bof v) (0 + j * 1))) w, w.cell? ⟨bof v, 0 + j * 1, none⟩ = some ((Pv q.rb)), _, Value.int .i64 (IntKind.i64.wrap ((1 + sumT ((rs.take j).map Rf.t)) + q.t.tt)) = I6 ((1 + sumT ((rs.take j).map Rf.t)) + q.t.tt)] [(0, I6 k), (1, I6 5), (2, I6 0), (3, v), (10, I6 ((1 + sumT ((rs.take j).map Rf.t)) + q.t.tt)), (12, I6 ↑j)] 10 0 hS (.cons (ix_own (j := j) hv (by kernel_rfl) (by kernel_rfl) rfl hj) (.cons (hcell) (.cons (hqb.cell 9 rfl) (.cons (as_i64 (by omega)) .nil)))) fun a hS => ?_
   refine seg_end ?_
   refine hK20 _ _ ?_
   refine sq fun K21 hK21 => ?_
   refine rgn 2 ?_
   refine sg wide_wide [.p, .p] [] [(0, I6 k), (1, I6 5), (2, I6 0), (3, v), (10, I6 ((1 + sumT ((rs.take j).map Rf.t)) + q.t.tt)), (12, I6 ↑j), (71, .bool (decide (((1 + sumT ((rs.take j).map Rf.t)) + q.t.tt : Int) > 4194304)))] 2 0 hS .nil fun a hS => ?_
   refine seg_end ?_
   refine hK21 _ _ ?_
   refine cond_b hS rfl (fun hb22 => ?_) (fun hb22 => ?_)
   ·
    replace hb22 := of_decide_eq_true hb22
    refine sq fun K23 hK23 => ?_
    refine rgn 2 ?_
    refine sg wide_wide [.p, .p] [] [(0, I6 k), (1, I6 5), (2, I6 0), (3, v), (10, I6 ((1 + sumT ((rs.take j).map Rf.t)) + q.t.tt)), (12, I6 ↑j), (8, .pointer none), (9, I6 6)] 2 0 hS .nil fun a hS => ?_
    refine seg_end ?_
    refine hK23 _ _ ?_
    refine wpIn_ret ?_
    refine inBlock_ret ?_
    refine then_ret ?_
    refine then_ret ?_
    refine inBlock_ret ?_
    refine then_ret ?_
    refine ret2 hS Try.results61 rfl rfl ?_
    exact ⟨_, _, rfl, .inr (.inr (.inl ⟨hnb, hsame, by omega, rfl, rfl, hE0⟩))⟩
   ·
    replace hb22 := of_decide_eq_false hb22
    refine wpIn_skip ?_
    refine inBlock_normal ?_
    refine hK19 _ _ ?_
    refine rgn 3 ?_
    refine sg wide_wide [.p, .as (I6 (↑j + 1)), .p] [Value.int .i64 (IntKind.i64.wrap (↑j + 1)) = I6 (↑j + 1)] [(0, I6 k), (1, I6 5), (2, I6 0), (3, v), (10, I6 ((1 + sumT ((rs.take j).map Rf.t)) + q.t.tt)), (12, I6 (↑j + 1))] 3 0 hS (.cons (as_i64 (by omega)) .nil) fun a hS => ?_
    refine seg_end ?_
    exact ⟨j + 1, ⟨by rw [hsn, ← Int.add_assoc]; exact hS.keepTo [0, 1, 2, 3, 10, 12] (by kernel_rfl), rfl, by omega, by omega⟩, by omega⟩
  ·
   replace hb18 := of_decide_eq_false hb18
   obtain rfl : j = rs.length := by omega
   rw [List.take_length] at hS hle
   refine wpIn_exit ?_
   refine then_exit ?_
   refine then_exit ?_
   refine inBlock_hit ?_
   refine hK14 _ _ ?_
   refine sq fun K24 hK24 => ?_
   refine rgn 7 ?_
   refine sg wide_wide [.p, .p, .p, .p, .p] [] [(0, I6 k), (1, I6 5), (2, I6 0), (3, v), (10, I6 (1 + sumT (rs.map Rf.t))), (76, .agg #[I6 k, I6 0, I6 5, I6 0, I6 0, I6 0, I6 0, I6 0, .slice none 0 0, I6 (1 + sumT (rs.map Rf.t))])] 5 2 hS .nil fun a hS => ?_
   refine eff_box wide_wide (r := 1) (cs := #[I6 k, I6 0, I6 5, I6 0, I6 0, I6 0, I6 0, I6 0, .slice none 0 0, I6 (1 + sumT (rs.map Rf.t))]) (T := 40) (d := (some 77)) hS (by kernel_rfl) fun a w25 hw26 hS => ?_
   have hB27 : Blk w25 (w.heap.size) 40 #[I6 k, I6 0, I6 5, I6 0, I6 0, I6 0, I6 0, I6 0, .slice none 0 0, I6 (1 + sumT (rs.map Rf.t))] := by rw [hw26]; exact Blk.new _ _ _
   have hs28 : w.heap.size ≤ w.heap.size := hE0.size
   have hE29 : Ext [] w w25 := by rw [hw26]; exact hE0.alloc _
   refine sg wide_wide [.p] [] [(0, I6 k), (1, I6 5), (2, I6 0), (3, v), (10, I6 (1 + sumT (rs.map Rf.t))), (13, (Pv w.heap.size))] 7 0 hS .nil fun a hS => ?_
   refine seg_end ?_
   refine hK24 _ _ ?_
   refine sq fun K30 hK30 => ?_
   rcases Nat.eq_zero_or_pos rs.length with h0 | h0
   ·
    obtain ⟨a0, c0, hvv⟩ := hv.form
    rw [h0] at hvv
    subst hvv
    have hrs0 : rs = [] := List.eq_nil_of_length_eq_zero h0
    refine rgn 10 ?_
    refine sg wide_wide [.p, .p, .p, .p, .ld (.slice none 0 0), .p] [_] [(0, I6 k), (1, I6 5), (2, I6 0), (3, .slice a0 0 c0), (10, I6 (1 + sumT (rs.map Rf.t))), (13, (Pv w.heap.size)), (78, (Pv w.heap.size)), (82, .slice none 0 0), (83, .slice a0 0 c0)] 6 4 hS (.cons (hB27.cell 8 rfl) .nil) fun a hS => ?_
    refine eff_run wide_wide (r := 3) (s := vS (Builtin.append_ #[33, 33] 33 #[.slice none 0 0, .slice a0 0 c0])) (d := (some 84)) (v := .slice none 0 0) hS (by kernel_rfl) (vS_run (append_none (e := 29) (size := 1) (bytes := 8) (z := #[.pointer none]) (n := 0) (xs := []) (by kernel_rfl) (by kernel_rfl) (OwnV.nil _ _ _))) fun a hS => ?_
    refine sg wide_wide [.p, .p] [] [(0, I6 k), (1, I6 5), (2, I6 0), (3, .slice a0 0 c0), (10, I6 (1 + sumT (rs.map Rf.t))), (13, (Pv w.heap.size)), (84, .slice none 0 0), (86, (Po w.heap.size 8))] 9 1 hS .nil fun a hS => ?_
    refine eff_store wide_wide (r := 0) (b := w.heap.size) (off := 8) (vs := [.slice none 0 0]) hS (by kernel_rfl) hB27 (by simp) fun a w31 hw32 hS => ?_
    have hB33 : Blk w31 w.heap.size 40 (#[I6 k, I6 0, I6 5, I6 0, I6 0, I6 0, I6 0, I6 0, .slice none 0 0, I6 (1 + sumT (rs.map Rf.t))]) := by rw [hw32]; exact hB27.upd _ _
    have hE34 : Ext [] w w31 := by rw [hw32]; exact hE29.updIn (.inr hs28) _ _
    refine seg_end ?_
    refine hK30 _ _ ?_
    refine sq fun K35 hK35 => ?_
    refine rgn 3 ?_
    refine sg wide_wide [.p, .p, .p] [] [(0, I6 k), (1, I6 5), (2, I6 0), (3, .slice a0 0 c0), (10, I6 (1 + sumT (rs.map Rf.t))), (13, (Pv w.heap.size)), (8, (Pv w.heap.size)), (9, I6 0)] 3 0 hS .nil fun a hS => ?_
    refine seg_end ?_
    refine hK35 _ _ ?_
    refine wpIn_ret ?_
    refine ret2 hS Try.results61 rfl rfl ?_
    exact ⟨_, _, rfl, .inr (.inr (.inr ⟨hnb, hsame, hle, w.heap.size, .slice none 0 0, rfl, rfl, hs28, fun b hb => (by have hb : b ∈ ([] : List Nat) := hb; cases hb), hB33, (by rw [hrs0]; exact OwnV.nil _ _ _), hE34⟩))⟩
   ·
    obtain ⟨g, c, rfl, hO⟩ := hv.some_of_pos h0
    refine rgn 10 ?_
    refine sg wide_wide [.p, .p, .p, .p, .ld (.slice none 0 0), .p] [_] [(0, I6 k), (1, I6 5), (2, I6 0), (3, .slice (some ⟨g, 0, none⟩) rs.length c), (10, I6 (1 + sumT (rs.map Rf.t))), (13, (Pv w.heap.size)), (78, (Pv w.heap.size)), (82, .slice none 0 0), (83, .slice (some ⟨g, 0, none⟩) rs.length c)] 6 4 hS (.cons (hB27.cell 8 rfl) .nil) fun a hS => ?_
    have hO2 := hO.ext hE29 (by simp)
    refine eff_append2 wide_wide (r := 3) (d := (some 84)) (t := 33) (ty := 33) (e := 29) (size := 1) (bytes := 8) (len := 0) (b := g) (off := 0) (k := rs.length) (c := c) (z := #[.pointer none]) (v := Value.slice none 0 0) (xs := ([])) (rs.map Rf.ptr) hS (by kernel_rfl) (by kernel_rfl) (by kernel_rfl) (by kernel_rfl) (by kernel_rfl) (OwnV.nil _ _ _) (by simp) (fun j u hu => by rw [Nat.zero_add]; exact hO2.cellAt j hu) (oneAll_rptr rs) (by omega) (by omega) (by omega) fun ga36 ca36 a wa36 hOa36 hEa36 hFa36 hS => ?_
    replace hEa36 : Ext [] w25 wa36 := hEa36
    replace hFa36 : Fresh w25.heap.size [] [ga36] := hFa36
    rw [Nat.zero_add] at hOa36 hS
    rw [List.nil_append] at hOa36
    have hB37 := hB27.ext hEa36 (by simp)
    have hE38 : Ext [] w wa36 := hE29.trans0 hEa36
    have hn39 : w.heap.size ≤ ga36 := by
     rcases hFa36 ga36 (by simp) with h | h
     ·cases h
     ·exact Nat.le_trans hE29.size h
    refine sg wide_wide [.p, .p] [] [(0, I6 k), (1, I6 5), (2, I6 0), (3, .slice (some ⟨g, 0, none⟩) rs.length c), (10, I6 (1 + sumT (rs.map Rf.t))), (13, (Pv w.heap.size)), (84, .slice (some ⟨ga36, 0, none⟩) rs.length ca36), (86, (Po w.heap.size 8))] 9 1 hS .nil fun a hS => ?_
    refine eff_store wide_wide (r := 0) (b := w.heap.size) (off := 8) (vs := [.slice (some ⟨ga36, 0, none⟩) rs.length ca36]) hS (by kernel_rfl) hB37 (by simp) fun a w40 hw41 hS => ?_
    have hB42 : Blk w40 w.heap.size 40 (#[I6 k, I6 0, I6 5, I6 0, I6 0, I6 0, I6 0, I6 0, .slice (some ⟨ga36, 0, none⟩) rs.length ca36, I6 (1 + sumT (rs.map Rf.t))]) := by rw [hw41]; exact hB37.upd _ _
    have hB43 := OwnR.at' hw41 (hOa36.updNe ((OwnR.ne_type hOa36 hB37 (by decide)).symm) _ _)
    have hE44 : Ext [] w w40 := by rw [hw41]; exact hE38.updIn (.inr hs28) _ _
    refine seg_end ?_
    refine hK30 _ _ ?_
    refine sq fun K45 hK45 => ?_
    refine rgn 3 ?_
    refine sg wide_wide [.p, .p, .p] [] [(0, I6 k), (1, I6 5), (2, I6 0), (3, .slice (some ⟨g, 0, none⟩) rs.length c), (10, I6 (1 + sumT (rs.map Rf.t))), (13, (Pv w.heap.size)), (8, (Pv w.heap.size)), (9, I6 0)] 3 0 hS .nil fun a hS => ?_
    refine seg_end ?_
    refine hK45 _ _ ?_
    refine wpIn_ret ?_
    refine ret2 hS Try.results61 rfl rfl ?_
    exact ⟨_, _, rfl, .inr (.inr (.inr ⟨hnb, hsame, hle, w.heap.size, .slice (some ⟨ga36, 0, none⟩) rs.length ca36, rfl, rfl, hs28, fun b hb => (by obtain rfl := (by simpa [ob] using hb : b = ga36); exact hn39), hB42, (hB43 : OwnR _ _ _ _ _ _ _).v, hE44⟩))⟩

theorem RMake_any {k kd n : Int} {v : Value} {rs : List Rf} {w : World} (hn : n ≤ 9223372036854775807) (hv : OwnV w 29 1 v rs.length (rs.map Rf.ptr)) (hrs : ∀ r ∈ rs, Blk w r.rb 40 r.cs ∧ 1 ≤ r.t.tt ∧ r.t.tt ≤ 4194304) (hlen : rs.length ≤ 17592186044416) :
  Calls Try.prog 61 #[I6 k, I6 kd, I6 n, v] w fun e w' => ∃ rp er, e = .returned (.tuple #[.pointer rp, I6 er]) ∧ RMkR w k kd n rs rp er w' := by
 rcases bad_or kd n with hb | ⟨rfl, h⟩ | ⟨rfl, rfl⟩ | ⟨rfl, rfl⟩ | ⟨rfl, rfl⟩
 ·exact (RBad_any k kd n v w hb).mono fun e w' ⟨h1, h2⟩ => ⟨_, _, h1, .inl ⟨hb, rfl, rfl, by rw [h2]; exact Ext.refl _ _⟩⟩
 ·exact RMake_2 ⟨h, hn⟩ hv hrs hlen
 ·exact RMake_3 hv hrs hlen
 ·exact RMake_4 hv hrs hlen
 ·exact RMake_5 hv hrs hlen

end Go.Proofs.Ytpglmeeledmkoaa
