import Derived.Test.YtkkpghlcmcaoiaaDoorVb
import Derived.Laws.Externs
import Derived.Lib.Bytealg
import Derived.Lib.BytesEntry
import Derived.Laws.BytesArg
import Derived.Laws.CopyRow
import Derived.Laws.IdiomCopy
namespace Go.Vc
open Go
end Go.Vc
namespace Go.Vc
open Go
/-! ### a call that is entered, whatever names the function -/
section
variable {F : Fence} {P : Program} {ops : Array Oper} {Q : Exit → Act → World → Prop} {a : Act} {w : World} {n : Nat} {ds : List Deferred} {m : Fm}
end
/-! ### bytes -/
def bv (xs : List Int) : List Value := xs.map fun x => .int .u8 x
@[simp] theorem bv_len (xs : List Int) : (bv xs).length = xs.length := by simp [bv]
theorem bv_at {xs : List Int} {j : Nat} {x : Int} (h : xs[j]? = some x) : (bv xs)[j]? = some (.int .u8 x) := by simp [bv, h]
def BR (xs : List Int) : Prop := ∀ x ∈ xs, 0 ≤ x ∧ x < 256
theorem BR.app {xs ys : List Int} (h : BR xs) (h' : BR ys) : BR (xs ++ ys) := fun x hx => (List.mem_append.1 hx).elim (h x) (h' x)
theorem BR.take {xs : List Int} (h : BR xs) (k : Nat) : BR (xs.take k) := fun x hx => h x (List.mem_of_mem_take hx)
theorem BR.drop {xs : List Int} (h : BR xs) (k : Nat) : BR (xs.drop k) := fun x hx => h x (List.mem_of_mem_drop hx)
theorem BR.nil : BR [] := fun _ h => by cases h
def rws (xs : List Int) : Nat := xs.count 10
@[simp] theorem rws_nil : rws [] = 0 := rfl
theorem rws_app (xs ys : List Int) : rws (xs ++ ys) = rws xs + rws ys := by simp [rws]
/-! ### rows cut -/
def capOf : Value → Nat
 | .slice _ _ c => c
 | _ => 0
def rsub (v : Value) (l h m : Nat) : Value := match v with
 | .slice a _ _ => .slice (if m = l then a else a.map (·.add l)) (h - l) (m - l)
 | v => v
section
variable {w w' : World} {n : Nat} {v : Value} {xs : List Value}
theorem RdV.form {size : Nat} (h : RdV w size v n xs) : ∃ a c, v = .slice a n c := by
 rcases h with ⟨a, c, rfl, rfl, _⟩ | ⟨b, off, cap, rfl, _, h2, _⟩
 ·exact ⟨a, c, rfl⟩
 ·exact ⟨some ⟨b, off, none⟩, cap, rfl⟩
theorem RdV.sub (h : RdV w 1 v n xs) {l k m : Nat} (hl : l ≤ k) (hk : k ≤ n) (hm : k ≤ m) : RdV w 1 (rsub v l k m) (k - l) ((xs.drop l).take (k - l)) := by
 rcases h with ⟨a, c, rfl, rfl, rfl⟩ | ⟨b, off, cap, rfl, h1, h2, h3⟩
 ·obtain rfl : k = 0 := by omega
  exact .inl ⟨_, _, by rw [rsub, Nat.zero_sub], by simp, by simp⟩
 ·by_cases hkl : k = l
  ·subst hkl
   exact .inl ⟨_, _, by rw [rsub, Nat.sub_self], by simp, by simp⟩
  ·refine .inr ⟨b, off + l, m - l, ?_, ?_, by omega, fun j u hu => ?_⟩
   ·have hne : m ≠ l := by omega
    simp only [rsub, if_neg hne, Option.map_some]
    have hadd : (⟨b, off, none⟩ : Addr).add l = ⟨b, off + l, none⟩ := addr_add b off l
    rw [hadd]
   ·rw [List.length_take, List.length_drop]; omega
   ·rw [List.getElem?_take] at hu
    split at hu
    ·rw [List.getElem?_drop] at hu
     rw [show off + l + j = off + (l + j) by omega]
     exact h3 (l + j) u hu
    ·cases hu
theorem RdV.of_blk {size b T : Nat} {cs : Array Value} (h : Blk w b T cs) (hs : cs.size = n * size) : RdV w size (.slice (some ⟨b, 0, none⟩) n n) n cs.toList :=
 .inr ⟨b, 0, n, rfl, by simpa using hs, Nat.le_refl _, fun j u hu => by rw [Nat.zero_add]; exact h.cell j (by simpa using hu)⟩
theorem RdV.at' (he : w' = w) {size : Nat} (h : RdV w size v n xs) : RdV w' size v n xs := he ▸ h
theorem RdV.drew {size : Nat} (h : RdV w size v n xs) : RdV w.drew size v n xs := h.ext0 ((Ext.refl [] w).drew)
end
/-! ### 'append', of whatever is read -/
theorem append_any3 {P : Program} {w : World} {t ty e : TypeId} {size bytes n b off k c : Nat} {z : Array Value} {v : Value} {xs news : List Value} (ht : P.underlying t = some (.slice e)) (hinf : infoOf P e = some (size, bytes, z))
  (hzs : z.size = size) (hown : OwnV w e size v n xs) (hl : news.length = k * size) (hnews : ∀ j u, news[j]? = some u → w.cell? ⟨b, off + j, none⟩ = some u) (h1 : oneAll news = true)
  (hk : 0 < k) (hmax : n + k ≤ maxLen) (hbytes : (n + k) * bytes ≤ 140737488355328) :
  ∃ g cap w', (Builtin.append_ #[t, t] ty #[v, .slice (some ⟨b, off, none⟩) k c]).run P w = .ok (.slice (some ⟨g, 0, none⟩) (n + k) cap) w' ∧ OwnR w' e size g cap (n + k) (xs ++ news) ∧ Ext (ob v) w w' ∧
   ((w.heap.size ≤ g ∧ Ext [] w w') ∨ ∃ c', v = .slice (some ⟨g, 0, none⟩) n c') := by
 obtain ⟨i, zv, hi, hz, rfl, rfl, rfl⟩ := infoOf_spec hinf
 have h63 : n + k ≤ 9223372036854775807 := by simp only [maxLen] at hmax; omega
 have hnews' : ∀ j u, news[j]? = some u → w.cell? ((⟨b, off, none⟩ : Addr).add j) = some u := fun j u hu => by rw [addr_add]; exact hnews j u hu
 have hlen : (xs ++ news).length = (n + k) * i.size := by rw [List.length_append, hown.len, hl, Nat.add_mul]
 have grown : ∀ (old : Nat), OwnR (w.drew.alloc (.cells (xs.toArray ++ news.toArray ++ Builtin.zeroCells zv.cells (grownCap w (n + k) old e - (n + k))) e)) e i.size w.heap.size (grownCap w (n + k) old e) (n + k) (xs ++ news) ∧
   ∀ M, Ext M w (w.drew.alloc (.cells (xs.toArray ++ news.toArray ++ Builtin.zeroCells zv.cells (grownCap w (n + k) old e - (n + k))) e)) := fun old => by
  have hge := grownCap_ge w (n + k) old e
  have hcm : grownCap w (n + k) old e ≤ maxLen := grownCap_le_maxLen w (n + k) old e hmax
  refine ⟨⟨⟨_, Blk.new w.drew _ _, ?_, ?_⟩, hge, hcm, hlen⟩, fun M => (Ext.refl _ w).drew.alloc _⟩
  ·have : xs.length = n * i.size := hown.len
   simp only [Array.size_append, List.size_toArray, size_zeroCells, hzs, this, hl, ← Nat.add_mul]
   congr 1
   omega
  ·simp only [Array.toList_append, List.append_assoc]
   rw [← List.append_assoc, ← hlen]
   exact List.take_left
 rcases hown with ⟨rfl, rfl, rfl⟩ | ⟨g, cap, rfl, hO⟩
 ·have hr := run_append_nil (P := P) w t ty e i zv ht hi hz ⟨b, off, none⟩ k c news hl hnews' hk (by omega) (by have hb := hbytes; simp only [Nat.zero_add] at hb; omega)
  obtain ⟨h2, h3⟩ := grown 0
  simp only [Nat.zero_add, List.nil_append, Array.empty_append] at h2 h3 ⊢
  exact ⟨_, _, _, hr, h2, h3 _, .inl ⟨Nat.le_refl _, h3 _⟩⟩
 ·obtain ⟨⟨cur, hg, hcs, htake⟩, hnc, hcm, hxl⟩ := hO
  by_cases hroom : n + k ≤ cap
  ·have hfit : n * i.size + news.length ≤ cur.size := by rw [hl, hcs, ← Nat.add_mul]; exact Nat.mul_le_mul_right _ hroom
   have hr := run_append_room (P := P) w t ty e i ht hi g n cap cur hg ⟨b, off, none⟩ k c news hl hnews' (oneAll_spec h1) hroom hfit
   refine ⟨_, _, _, hr, ⟨⟨_, setRow_heap w g cur _ e _ hg, ?_, ?_⟩, hroom, hcm, hlen⟩, ⟨rfl, rfl, rfl, by simp, fun j _ hj => setRow_other w g j _ (fun e => hj (by simp [ob, e]))⟩, .inr ⟨_, rfl⟩⟩
   ·simp only [List.size_toArray, List.length_append, List.length_take, List.length_drop, Array.length_toList]
    omega
   ·rw [htake, ← hlen]
    exact List.take_left
  ·have hO : OwnR w e i.size g cap n xs := ⟨⟨cur, hg, hcs, htake⟩, hnc, hcm, hxl⟩
   have holds : ∀ j u, xs[j]? = some u → w.cell? ((⟨g, 0, none⟩ : Addr).add j) = some u := fun j u hu => by rw [addr_add, Nat.zero_add]; exact hO.cellAt j hu
   have hr := run_append_grow (P := P) w t ty e i zv ht hi hz ⟨g, 0, none⟩ n cap xs hxl holds ⟨b, off, none⟩ k c news hl hnews' (by omega) (by omega) (growslice_fits (by omega) hbytes)
   obtain ⟨h2, h3⟩ := grown cap
   exact ⟨_, _, _, hr, h2, h3 _, .inl ⟨Nat.le_refl _, h3 _⟩⟩
structure Apd (w w' : World) (e : TypeId) (size : Nat) (v : Value) (bs : Option Addr) (cap n k : Nat) (xs news : List Value) : Prop where
 own : OwnV w' e size (.slice bs (n + k) cap) (n + k) (xs ++ news)
 ext : Ext (ob v) w w'
 how : (∀ x ∈ ob (.slice bs (n + k) cap), w.heap.size ≤ x) ∧ Ext [] w w' ∨ ∃ c, v = .slice bs n c
theorem Apd.fresh {w w' : World} {e : TypeId} {size : Nat} {v : Value} {bs : Option Addr} {cap n k : Nat} {xs news : List Value} (h : Apd w w' e size v bs cap n k xs news) :
  Fresh w.heap.size (ob v) (ob (.slice bs (n + k) cap)) := fun x hx => by
 rcases h.how with ⟨h1, _⟩ | ⟨c, rfl⟩
 ·exact .inr (h1 x hx)
 ·refine .inl ?_
  cases bs with
  | none => exact hx
  | some a => exact hx
theorem append_rd {P : Program} {w : World} {t ty e : TypeId} {size bytes n k : Nat} {z : Array Value} {v u : Value} {xs news : List Value} (ht : P.underlying t = some (.slice e)) (hinf : infoOf P e = some (size, bytes, z))
  (hzs : Nat.beq z.size size = true) (hown : OwnV w e size v n xs) (hsrc : RdV w size u k news) (h1 : oneAll news = true) (hmax : n + k ≤ 140737488355328) (hbytes : (n + k) * bytes ≤ 140737488355328) :
  ∃ bs cap w', (Builtin.append_ #[t, t] ty #[v, u]).run P w = .ok (.slice bs (n + k) cap) w' ∧ Apd w w' e size v bs cap n k xs news := by
 rcases hsrc with ⟨a, c, rfl, rfl, rfl⟩ | ⟨b, off, cap, rfl, h2, h3, h4⟩
 ·obtain ⟨bs, c', rfl⟩ := hown.form
  exact ⟨bs, c', w, append_none (z := z) ht hinf hown, by simpa using hown, Ext.refl _ _, .inr ⟨_, rfl⟩⟩
 ·rcases Nat.eq_zero_or_pos k with rfl | hk
  ·obtain ⟨bs, c', rfl⟩ := hown.form
   have : news = [] := List.eq_nil_of_length_eq_zero (by simpa using h2)
   subst this
   exact ⟨bs, c', w, append_none (z := z) ht hinf hown, by simpa using hown, Ext.refl _ _, .inr ⟨_, rfl⟩⟩
  ·obtain ⟨g, cap', w', hr, hO, hE, hF⟩ := append_any3 (P := P) (w := w) (ty := ty) (c := cap) ht hinf (Nat.eq_of_beq_eq_true hzs) hown h2 h4 h1 hk (by simp only [maxLen]; omega) hbytes
   refine ⟨_, _, _, hr, hO.v, hE, ?_⟩
   rcases hF with ⟨h5, h6⟩ | h5
   ·exact .inl ⟨fun x hx => by simp [ob] at hx; omega, h6⟩
   ·exact .inr h5
section
variable {F : Fence} {P : Program} {ops : Array Oper} {Q : Exit → Act → World → Prop} {a : Act} {w : World} {n : Nat} {ds : List Deferred} {m : Fm}
theorem eff_append_rd (hW : Wide F) {i r : Nat} {d : Option Nat} {t ty e : TypeId} {size bytes len k : Nat} {z : Array Value} {v u : Value} {xs news : List Value} (hS : St n ds m a)
  (ho : runOf ops n m i = some (vS (Builtin.append_ #[t, t] ty #[v, u]), d))
  (ht : P.underlying t = some (.slice e)) (hinf : infoOf P e = some (size, bytes, z)) (hzs : Nat.beq z.size size = true) (hown : OwnV w e size v len xs) (hsrc : RdV w size u k news) (h1 : oneAll news = true)
  (hmax : len + k ≤ 140737488355328) (hbm : (len + k) * bytes ≤ 140737488355328)
  (hk : ∀ bs cap a' w', Apd w w' e size v bs cap len k xs news → St n ds (fput m d (.slice bs (len + k) cap)) a' → wpOpsIn F 0 P ops Q (List.range' (i + 1) r) a' w') :
  wpOpsIn F 0 P ops Q (List.range' i (r + 1)) a w := by
 obtain ⟨bs, cap, w', hrun, hA⟩ := append_rd (P := P) (w := w) (ty := ty) ht hinf hzs hown hsrc h1 hmax hbm
 exact eff_run hW hS ho (vS_run hrun) fun a' hS' => hk bs cap a' w' hA hS'
end
end Go.Vc
namespace Go.Vc
open Go
end Go.Vc
