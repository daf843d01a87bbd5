import Derived.Test.YtkdbfjomjlhfbaaProg
import Derived.Test.YtkdbfjomjlhfbaaR25
namespace Go.Proofs.Ytkdbfjomjlhfbaa
open Go.Vc
set_option linter.unusedSectionVars false
variable [Inhabited Zt]

/-- a step of a script -/
structure Sx where
 kd : Int
 rr : Int
 aa : Int
 bb : Int
 dv : Value
 dn : Nat
 dx : List Int
def Sx.cells (s : Sx) : List Value := [I6 s.kd, I6 s.rr, I6 s.aa, I6 s.bb, s.dv]
structure SxOk (w0 : World) (s : Sx) : Prop where
 rd : RdV w0 1 s.dv s.dn (bv s.dx)
 br : BR s.dx
 n : s.dn ≤ 1048576
 b : s.bb ≤ 9223372036854775807
def scells : List Sx → List Value
 | [] => []
 | s :: l => s.cells ++ scells l
theorem scells_len : ∀ l : List Sx, (scells l).length = l.length * 5
 | [] => rfl
 | s :: l => by simp [scells, scells_len l, Sx.cells]; omega
theorem scells_at : ∀ (l : List Sx) (j i : Nat) (s : Sx), l[j]? = some s → i < 5 → (scells l)[j * 5 + i]? = s.cells[i]?
 | [], j, i, s, hj, _ => by simp at hj
 | s :: l, 0, i, q, hj, hi => by
  simp only [List.getElem?_cons_zero, Option.some.injEq] at hj
  subst hj
  simp only [scells, Nat.zero_mul, Nat.zero_add]
  rw [List.getElem?_append_left (by simpa [Sx.cells] using hi)]
 | s :: l, j + 1, i, q, hj, hi => by
  simp only [List.getElem?_cons_succ] at hj
  have ih := scells_at l j i q hj hi
  simp only [scells]
  rw [List.getElem?_append_right (by simp [Sx.cells]; omega), ← ih]
  congr 1
  simp [Sx.cells]; omega
structure Scr (w0 : World) (v : Value) (l : List Sx) : Prop where
 rd : RdV w0 5 v l.length (scells l)
 ok : ∀ s ∈ l, SxOk w0 s
 max : l.length ≤ 1048576
theorem Bytes_Z {F : Ta} {w : World} {b : Nat} {xs : List Int} (h : Rp2 F w b xs) : Calls Try.prog 32 #[Pv b] w fun e w' => ∃ q, e = .returned q ∧ RdV w' 1 q xs.length (bv xs) ∧ Ext [] w w' :=
 (Bytes_Y h).mono fun e w' ⟨bs, cap, h1, h2, _, h3⟩ => ⟨_, h1, h2.rd, h3⟩

theorem step_make {w0 w : World} {F : Ta} (hT : TB w0 w F) {sk sr sa sb : Int} {v : Value} {n : Nat} {xs : List Int} (hv0 : RdV w0 1 v n (bv xs)) (hB : BR xs) (hn : n ≤ 10000000000) (hsb : sb ≤ 9223372036854775807) (hk : 1 ≤ sk ∧ sk ≤ 4) :
  Calls Try.prog 24 #[(Pv F.t), .agg #[I6 sk, I6 sr, I6 sa, I6 sb, v]] w fun e w' => e = .returned (.bool true) ∧ ∃ F', TS w F w' F' := by
 have hv := hT.rd hv0
 have hxl : xs.length = n := by have := hv.len; simpa using this
 have hln := hT.i.ln
 refine calls_body 102 [(0, (Pv F.t)), (1, .agg #[I6 sk, I6 sr, I6 sa, I6 sb, v])] Try.func24 rfl (by kernel_rfl) (by kernel_rfl) (by kernel_rfl) fun a hS => ?_
 have hE0 : Ext [] w w := Ext.refl _ _
 refine sq fun K1 hK1 => ?_
 refine rgn 2 ?_
 refine eff_box wide_wide (r := 1) (cs := #[I6 sk, I6 sr, I6 sa, I6 sb, v]) (T := 49) (d := (some 3)) hS (by kernel_rfl) fun a w2 hw3 hS => ?_
 have hX10 : Ext [] w w2 := by rw [hw3]; exact (Ext.refl _ _).alloc _
 have hG11 : TB w0 w2 F := hT.ext0 hX10
 have hG12 : RdV w2 1 v n (bv xs) := hv.ext0 hX10
 have hB13 : Blk w2 (w.heap.size) 49 #[I6 sk, I6 sr, I6 sa, I6 sb, v] := by rw [hw3]; exact Blk.new _ _ _
 have hs14 : w.heap.size ≤ w.heap.size := hE0.size
 have hE15 : Ext [] w w2 := by rw [hw3]; exact hE0.alloc _
 refine sg wide_wide [.p] [] [(0, (Pv F.t)), (1, .agg #[I6 sk, I6 sr, I6 sa, I6 sb, v]), (3, (Pv w.heap.size)), (4, .bool false)] 2 0 hS .nil fun a hS => ?_
 refine seg_end ?_
 refine hK1 _ _ ?_
 refine sq fun K16 hK16 => ?_
 refine sq fun K17 hK17 => ?_
 refine rgn 8 ?_
 refine sg wide_wide [.p, .ld (I6 sk), .as (.bool true), .p, .p, .ld (I6 sk), .as (.bool true), .p] [w2.cell? ⟨w.heap.size, 0, none⟩ = some (I6 sk), Value.bool (decide ((sk : Int) ≥ 1)) = .bool true, w2.cell? ⟨w.heap.size, 0, none⟩ = some (I6 sk), Value.bool (decide ((sk : Int) ≤ 4)) = .bool true] [(0, (Pv F.t)), (1, .agg #[I6 sk, I6 sr, I6 sa, I6 sb, v]), (3, (Pv w.heap.size)), (4, .bool false), (14, .bool true)] 8 0 hS (.cons (hB13.cell 0 rfl) (.cons (as_t (by omega)) (.cons (hB13.cell 0 rfl) (.cons (as_t (by omega)) .nil)))) fun a hS => ?_
 refine seg_end ?_
 refine hK17 _ _ ?_
 refine cond_t hS rfl ?_
 refine sq fun K18 hK18 => ?_
 refine rgn 4 ?_
 refine sg wide_wide [.p, .lds [I6 sk, I6 sr, I6 sa, I6 sb, v]] [w2.cell? ⟨w.heap.size, 0, none⟩ = some (I6 sk), w2.cell? ⟨w.heap.size, 1, none⟩ = some (I6 sr), w2.cell? ⟨w.heap.size, 2, none⟩ = some (I6 sa), w2.cell? ⟨w.heap.size, 3, none⟩ = some (I6 sb), w2.cell? ⟨w.heap.size, 4, none⟩ = some (v)] [(0, (Pv F.t)), (1, .agg #[I6 sk, I6 sr, I6 sa, I6 sb, v]), (3, (Pv w.heap.size)), (4, .bool false), (14, .bool true), (15, (Pv F.t)), (16, .agg #[I6 sk, I6 sr, I6 sa, I6 sb, v])] 2 2 hS (.cons (hB13.cell 0 rfl) (.cons (hB13.cell 1 rfl) (.cons (hB13.cell 2 rfl) (.cons (hB13.cell 3 rfl) (.cons (hB13.cell 4 rfl) .nil))))) fun a hS => ?_
 refine eff_call wide_wide (r := 1) (f := 45) (vs := [(Pv F.t), .agg #[I6 sk, I6 sr, I6 sa, I6 sb, v]]) (cap := #[]) (d := (some 17)) hS (by kernel_rfl) Try.call45 #[(Pv F.t), .agg #[I6 sk, I6 sr, I6 sa, I6 sb, v]] (by kernel_rfl) (make1_any hG11 hv0 hB hn) ?_
 rintro _ wz19 ⟨rfl, F9, hS19⟩
 refine ⟨_, rfl, fun a hS => ?_⟩
 have hEr19 : Ext [] wz19 wz19 := Ext.refl _ _
 refine sg wide_wide [.p] [] [(0, (Pv F.t)), (1, .agg #[I6 sk, I6 sr, I6 sa, I6 sb, v]), (3, (Pv w.heap.size)), (4, .bool true), (14, .bool true)] 4 0 hS .nil fun a hS => ?_
 refine seg_end ?_
 refine hK18 _ _ ?_
 refine wpIn_ret ?_
 refine then_ret ?_
 refine ret1 hS Try.results24 rfl ?_
 exact ⟨rfl, _, (hS19.pre hE15).trans0 hEr19⟩

theorem step_none_a {w0 w : World} {F : Ta} (hT : TB w0 w F) {sk sr sa sb : Int} {v : Value} {n : Nat} {xs : List Int} (hv0 : RdV w0 1 v n (bv xs)) (hB : BR xs) (hn : n ≤ 10000000000) (hsb : sb ≤ 9223372036854775807) (hk : ¬1 ≤ sk) (h0 : F.L.length = 0) :
  Calls Try.prog 24 #[(Pv F.t), .agg #[I6 sk, I6 sr, I6 sa, I6 sb, v]] w fun e w' => e = .returned (.bool true) ∧ ∃ F', TS w F w' F' := by
 have hv := hT.rd hv0
 have hxl : xs.length = n := by have := hv.len; simpa using this
 have hln := hT.i.ln
 refine calls_body 102 [(0, (Pv F.t)), (1, .agg #[I6 sk, I6 sr, I6 sa, I6 sb, v])] Try.func24 rfl (by kernel_rfl) (by kernel_rfl) (by kernel_rfl) fun a hS => ?_
 have hE0 : Ext [] w w := Ext.refl _ _
 refine sq fun K1 hK1 => ?_
 refine rgn 2 ?_
 refine eff_box wide_wide (r := 1) (cs := #[I6 sk, I6 sr, I6 sa, I6 sb, v]) (T := 49) (d := (some 3)) hS (by kernel_rfl) fun a w2 hw3 hS => ?_
 have hB7 := Blk.at' hw3 (hT.i.f.alloc _)
 have hX10 : Ext [] w w2 := by rw [hw3]; exact (Ext.refl _ _).alloc _
 have hG11 : TB w0 w2 F := hT.ext0 hX10
 have hG12 : RdV w2 1 v n (bv xs) := hv.ext0 hX10
 have hB13 : Blk w2 (w.heap.size) 49 #[I6 sk, I6 sr, I6 sa, I6 sb, v] := by rw [hw3]; exact Blk.new _ _ _
 have hs14 : w.heap.size ≤ w.heap.size := hE0.size
 have hE15 : Ext [] w w2 := by rw [hw3]; exact hE0.alloc _
 refine sg wide_wide [.p] [] [(0, (Pv F.t)), (1, .agg #[I6 sk, I6 sr, I6 sa, I6 sb, v]), (3, (Pv w.heap.size)), (4, .bool false)] 2 0 hS .nil fun a hS => ?_
 refine seg_end ?_
 refine hK1 _ _ ?_
 refine sq fun K16 hK16 => ?_
 refine sq fun K17 hK17 => ?_
 refine rgn 8 ?_
 refine sg wide_wide [.p, .ld (I6 sk), .as (.bool false), .p, .no, .no, .no, .p] [w2.cell? ⟨w.heap.size, 0, none⟩ = some (I6 sk), Value.bool (decide ((sk : Int) ≥ 1)) = .bool false] [(0, (Pv F.t)), (1, .agg #[I6 sk, I6 sr, I6 sa, I6 sb, v]), (3, (Pv w.heap.size)), (4, .bool false), (14, .bool false)] 8 0 hS (.cons (hB13.cell 0 rfl) (.cons (as_f (by omega)) .nil)) fun a hS => ?_
 refine seg_end ?_
 refine hK17 _ _ ?_
 refine cond_f hS rfl ?_
 refine wpIn_skip ?_
 refine hK16 _ _ ?_
 refine sq fun K18 hK18 => ?_
 refine sq fun K19 hK19 => ?_
 refine rgn 6 ?_
 refine sg wide_wide [.p, .p, .p, .ld (.slice F.pb F.L.length F.pc), .p, .as (.bool true)] [w2.cell? ⟨F.t, 0, none⟩ = some (.slice F.pb F.L.length F.pc), Value.bool (((↑F.L.length : Int) == 0)) = .bool true] [(0, (Pv F.t)), (1, .agg #[I6 sk, I6 sr, I6 sa, I6 sb, v]), (3, (Pv w.heap.size)), (4, .bool false), (14, .bool false), (23, .bool true)] 6 0 hS (.cons (hB7.cell 0 rfl) (.cons (as_eq_t (by omega)) .nil)) fun a hS => ?_
 refine seg_end ?_
 refine hK19 _ _ ?_
 refine cond_t hS rfl ?_
 refine sq fun K20 hK20 => ?_
 refine rgn 1 ?_
 refine sg wide_wide [.p] [] [(0, (Pv F.t)), (1, .agg #[I6 sk, I6 sr, I6 sa, I6 sb, v]), (3, (Pv w.heap.size)), (4, .bool true), (14, .bool false), (23, .bool true)] 1 0 hS .nil fun a hS => ?_
 refine seg_end ?_
 refine hK20 _ _ ?_
 refine wpIn_ret ?_
 refine then_ret ?_
 refine ret1 hS Try.results24 rfl ?_
 exact ⟨rfl, F, (TS.refl hT.i).trans0 hE15⟩

theorem step_none_b {w0 w : World} {F : Ta} (hT : TB w0 w F) {sk sr sa sb : Int} {v : Value} {n : Nat} {xs : List Int} (hv0 : RdV w0 1 v n (bv xs)) (hB : BR xs) (hn : n ≤ 10000000000) (hsb : sb ≤ 9223372036854775807) (hk : 1 ≤ sk ∧ ¬sk ≤ 4) (h0 : F.L.length = 0) :
  Calls Try.prog 24 #[(Pv F.t), .agg #[I6 sk, I6 sr, I6 sa, I6 sb, v]] w fun e w' => e = .returned (.bool true) ∧ ∃ F', TS w F w' F' := by
 have hv := hT.rd hv0
 have hxl : xs.length = n := by have := hv.len; simpa using this
 have hln := hT.i.ln
 refine calls_body 102 [(0, (Pv F.t)), (1, .agg #[I6 sk, I6 sr, I6 sa, I6 sb, v])] Try.func24 rfl (by kernel_rfl) (by kernel_rfl) (by kernel_rfl) fun a hS => ?_
 have hE0 : Ext [] w w := Ext.refl _ _
 refine sq fun K1 hK1 => ?_
 refine rgn 2 ?_
 refine eff_box wide_wide (r := 1) (cs := #[I6 sk, I6 sr, I6 sa, I6 sb, v]) (T := 49) (d := (some 3)) hS (by kernel_rfl) fun a w2 hw3 hS => ?_
 have hB7 := Blk.at' hw3 (hT.i.f.alloc _)
 have hX10 : Ext [] w w2 := by rw [hw3]; exact (Ext.refl _ _).alloc _
 have hG11 : TB w0 w2 F := hT.ext0 hX10
 have hG12 : RdV w2 1 v n (bv xs) := hv.ext0 hX10
 have hB13 : Blk w2 (w.heap.size) 49 #[I6 sk, I6 sr, I6 sa, I6 sb, v] := by rw [hw3]; exact Blk.new _ _ _
 have hs14 : w.heap.size ≤ w.heap.size := hE0.size
 have hE15 : Ext [] w w2 := by rw [hw3]; exact hE0.alloc _
 refine sg wide_wide [.p] [] [(0, (Pv F.t)), (1, .agg #[I6 sk, I6 sr, I6 sa, I6 sb, v]), (3, (Pv w.heap.size)), (4, .bool false)] 2 0 hS .nil fun a hS => ?_
 refine seg_end ?_
 refine hK1 _ _ ?_
 refine sq fun K16 hK16 => ?_
 refine sq fun K17 hK17 => ?_
 refine rgn 8 ?_
 refine sg wide_wide [.p, .ld (I6 sk), .as (.bool true), .p, .p, .ld (I6 sk), .as (.bool false), .p] [w2.cell? ⟨w.heap.size, 0, none⟩ = some (I6 sk), Value.bool (decide ((sk : Int) ≥ 1)) = .bool true, w2.cell? ⟨w.heap.size, 0, none⟩ = some (I6 sk), Value.bool (decide ((sk : Int) ≤ 4)) = .bool false] [(0, (Pv F.t)), (1, .agg #[I6 sk, I6 sr, I6 sa, I6 sb, v]), (3, (Pv w.heap.size)), (4, .bool false), (14, .bool false)] 8 0 hS (.cons (hB13.cell 0 rfl) (.cons (as_t (by omega)) (.cons (hB13.cell 0 rfl) (.cons (as_f (by omega)) .nil)))) fun a hS => ?_
 refine seg_end ?_
 refine hK17 _ _ ?_
 refine cond_f hS rfl ?_
 refine wpIn_skip ?_
 refine hK16 _ _ ?_
 refine sq fun K18 hK18 => ?_
 refine sq fun K19 hK19 => ?_
 refine rgn 6 ?_
 refine sg wide_wide [.p, .p, .p, .ld (.slice F.pb F.L.length F.pc), .p, .as (.bool true)] [w2.cell? ⟨F.t, 0, none⟩ = some (.slice F.pb F.L.length F.pc), Value.bool (((↑F.L.length : Int) == 0)) = .bool true] [(0, (Pv F.t)), (1, .agg #[I6 sk, I6 sr, I6 sa, I6 sb, v]), (3, (Pv w.heap.size)), (4, .bool false), (14, .bool false), (23, .bool true)] 6 0 hS (.cons (hB7.cell 0 rfl) (.cons (as_eq_t (by omega)) .nil)) fun a hS => ?_
 refine seg_end ?_
 refine hK19 _ _ ?_
 refine cond_t hS rfl ?_
 refine sq fun K20 hK20 => ?_
 refine rgn 1 ?_
 refine sg wide_wide [.p] [] [(0, (Pv F.t)), (1, .agg #[I6 sk, I6 sr, I6 sa, I6 sb, v]), (3, (Pv w.heap.size)), (4, .bool true), (14, .bool false), (23, .bool true)] 1 0 hS .nil fun a hS => ?_
 refine seg_end ?_
 refine hK20 _ _ ?_
 refine wpIn_ret ?_
 refine then_ret ?_
 refine ret1 hS Try.results24 rfl ?_
 exact ⟨rfl, F, (TS.refl hT.i).trans0 hE15⟩

theorem step_no_a {w0 w : World} {F : Ta} (hT : TB w0 w F) {sk sr sa sb : Int} {v : Value} {n : Nat} {xs : List Int} (hv0 : RdV w0 1 v n (bv xs)) (hB : BR xs) (hn : n ≤ 10000000000) (hsb : sb ≤ 9223372036854775807) (hk : ¬1 ≤ sk) (h0 : F.L.length ≠ 0) :
  Calls Try.prog 24 #[(Pv F.t), .agg #[I6 sk, I6 sr, I6 sa, I6 sb, v]] w fun e w' => e = .returned (.bool true) ∧ ∃ F', TS w F w' F' := by
 have hv := hT.rd hv0
 have hxl : xs.length = n := by have := hv.len; simpa using this
 have hln := hT.i.ln
 obtain ⟨kk, hkk, hkkl⟩ : ∃ kk : Nat, rnd sr (F.L.length : Int) = ↑kk ∧ kk < F.L.length := by
  have h := rnd_bd sr (n := (F.L.length : Int)) (by omega)
  exact ⟨(rnd sr F.L.length).toNat, by omega, by omega⟩
 obtain ⟨ee, hee⟩ : ∃ ee, F.L[kk]? = some ee := ⟨_, List.getElem?_eq_getElem hkkl⟩
 have heem : ee ∈ F.L := List.mem_of_getElem? hee
 refine calls_body 102 [(0, (Pv F.t)), (1, .agg #[I6 sk, I6 sr, I6 sa, I6 sb, v])] Try.func24 rfl (by kernel_rfl) (by kernel_rfl) (by kernel_rfl) fun a hS => ?_
 have hE0 : Ext [] w w := Ext.refl _ _
 refine sq fun K1 hK1 => ?_
 refine rgn 2 ?_
 refine eff_box wide_wide (r := 1) (cs := #[I6 sk, I6 sr, I6 sa, I6 sb, v]) (T := 49) (d := (some 3)) hS (by kernel_rfl) fun a w2 hw3 hS => ?_
 have hB7 := Blk.at' hw3 (hT.i.f.alloc _)
 have hX10 : Ext [] w w2 := by rw [hw3]; exact (Ext.refl _ _).alloc _
 have hG11 : TB w0 w2 F := hT.ext0 hX10
 have hG12 : RdV w2 1 v n (bv xs) := hv.ext0 hX10
 have hB13 : Blk w2 (w.heap.size) 49 #[I6 sk, I6 sr, I6 sa, I6 sb, v] := by rw [hw3]; exact Blk.new _ _ _
 have hs14 : w.heap.size ≤ w.heap.size := hE0.size
 have hE15 : Ext [] w w2 := by rw [hw3]; exact hE0.alloc _
 refine sg wide_wide [.p] [] [(0, (Pv F.t)), (1, .agg #[I6 sk, I6 sr, I6 sa, I6 sb, v]), (3, (Pv w.heap.size)), (4, .bool false)] 2 0 hS .nil fun a hS => ?_
 refine seg_end ?_
 refine hK1 _ _ ?_
 refine sq fun K16 hK16 => ?_
 refine sq fun K17 hK17 => ?_
 refine rgn 8 ?_
 refine sg wide_wide [.p, .ld (I6 sk), .as (.bool false), .p, .no, .no, .no, .p] [w2.cell? ⟨w.heap.size, 0, none⟩ = some (I6 sk), Value.bool (decide ((sk : Int) ≥ 1)) = .bool false] [(0, (Pv F.t)), (1, .agg #[I6 sk, I6 sr, I6 sa, I6 sb, v]), (3, (Pv w.heap.size)), (4, .bool false), (14, .bool false)] 8 0 hS (.cons (hB13.cell 0 rfl) (.cons (as_f (by omega)) .nil)) fun a hS => ?_
 refine seg_end ?_
 refine hK17 _ _ ?_
 refine cond_f hS rfl ?_
 refine wpIn_skip ?_
 refine hK16 _ _ ?_
 refine sq fun K18 hK18 => ?_
 refine sq fun K19 hK19 => ?_
 refine rgn 6 ?_
 refine sg wide_wide [.p, .p, .p, .ld (.slice F.pb F.L.length F.pc), .p, .as (.bool false)] [w2.cell? ⟨F.t, 0, none⟩ = some (.slice F.pb F.L.length F.pc), Value.bool (((↑F.L.length : Int) == 0)) = .bool false] [(0, (Pv F.t)), (1, .agg #[I6 sk, I6 sr, I6 sa, I6 sb, v]), (3, (Pv w.heap.size)), (4, .bool false), (14, .bool false), (23, .bool false)] 6 0 hS (.cons (hB7.cell 0 rfl) (.cons (as_eq_f (by omega)) .nil)) fun a hS => ?_
 refine seg_end ?_
 refine hK19 _ _ ?_
 refine cond_f hS rfl ?_
 refine wpIn_skip ?_
 refine hK18 _ _ ?_
 refine sq fun K20 hK20 => ?_
 refine region_gh2 (G := World) wide_wide [.q .p, .q (.ld (I6 sr)), .q .p, .q .p, .q .p, .q (.ld (.slice F.pb F.L.length F.pc)), .q .p, .e, .q .p] [0, 0, 0, 0, 0, 0, 0, 0, 1] [0, 0, 0, 0, 0, 0, 0, 0, 1] [0, 1, 0, 4, 12, 28, 60, 127, 255] [7] [(7, 0)] 1 (fun wc21 => ([(0, (Pv F.t)), (1, .agg #[I6 sk, I6 sr, I6 sa, I6 sb, v]), (3, (Pv w.heap.size)), (4, .bool false), (14, .bool false), (23, .bool false), (24, (Po w.heap.size 1)), (25, I6 sr), (26, (Pv F.t)), (27, (Pv F.t)), (28, (Pv F.t)), (29, .slice F.pb F.L.length F.pc), (30, I6 ↑F.L.length), (31, I6 ↑kk), (5, I6 ↑kk)] : Fm)) (fun wc21 => [w2.drew, wc21]) (w2.drew) (fun e wc21 => hAt [True, (Ext [] w2.drew wc21) ∧ True] e) (fun wc21 w' => [(1, [w'.cell? ⟨w.heap.size, 1, none⟩ = some (I6 sr)]), (5, [w'.cell? ⟨F.t, 0, none⟩ = some (.slice F.pb F.L.length F.pc)])]) w2.drew [0, 1, 3, 4, 14, 23] [] hS (by kernel_rfl) (by kernel_rfl) (by kernel_rfl) (by kernel_rfl) (fun wc21 _ => by kernel_rfl) (by kernel_rfl) (by kernel_rfl) (by kernel_rfl) trivial ?_ (by kernel_rfl) ?_ ?_
 ·rintro e wc21 w' hw hH
  refine (.cons ?_ (.cons ?_ .nil))
  ·intro h1 h2
   obtain rfl : e = 0 := Nat.le_antisymm h2 h1
   have hwe : w2.drew = w' := (hw.trans (by kernel_rfl)).symm
   subst hwe
   clear hH
   exact (.cons ((hB13.drew : Blk w2.drew w.heap.size 49 (#[I6 sk, I6 sr, I6 sa, I6 sb, v])).cell 1 rfl) .nil)
  ·intro h1 h2
   obtain rfl : e = 0 := Nat.le_antisymm h2 h1
   have hwe : w2.drew = w' := (hw.trans (by kernel_rfl)).symm
   subst hwe
   clear hH
   exact (.cons ((hB7.drew : Blk w2.drew F.t 46 (#[.slice F.pb F.L.length F.pc, .slice F.qb F.L.length F.qc, .slice F.bb F.bn F.bn])).cell 0 rfl) .nil)
 ·refine (.cons ?eq22_7 .nil)
  ·rintro wc21 hH
   clear hH
   refine eff_gh (w2.drew) (by kernel_rfl) ?_
   refine upon_call (f := 21) (vs := [I6 sr, I6 ↑F.L.length]) (cap := #[]) (d := (some 31)) (by kernel_rfl) Try.call21 #[I6 sr, I6 ↑F.L.length] (by kernel_rfl) (Round_x (k := sr) (N := F.L.length) (by omega) hkk) ?_
   rintro _ wc21 ⟨rfl, hEc21⟩
   exact ⟨_, rfl, ⟨wc21, by kernel_rfl, by kernel_rfl, by kernel_rfl, ⟨hEc21, trivial⟩⟩⟩
 rintro wc21 a w23 hS hw24 hH
 obtain ⟨hEc21, _⟩ := hH
 replace hw24 : w23 = wc21 := hw24.trans (by kernel_rfl)
 have hB28 := Blk.at' hw24 ((hB13.drew : Blk w2.drew w.heap.size 49 (#[I6 sk, I6 sr, I6 sa, I6 sb, v])).ext hEc21 (by simp))
 have hE29 : Ext [] w w23 := by rw [hw24]; exact (hE15.drew).trans0 hEc21
 have hX30 : Ext [] w2 w23 := by rw [hw24]; exact ((Ext.refl _ _).drew).trans0 hEc21
 have hG31 : TB w0 w23 F := hG11.ext0 hX30
 have hG32 : RdV w23 1 v n (bv xs) := hG12.ext0 hX30
 replace hS := hS.kp [(0, (Pv F.t)), (1, .agg #[I6 sk, I6 sr, I6 sa, I6 sb, v]), (3, (Pv w.heap.size)), (4, .bool false), (14, .bool false), (23, .bool false), (5, I6 ↑kk)]
 refine hK20 _ _ ?_
 refine sq fun K33 hK33 => ?_
 refine sq fun K34 hK34 => ?_
 refine rgn 2 ?_
 refine sg wide_wide [.p, .ld (I6 sk)] [w23.cell? ⟨w.heap.size, 0, none⟩ = some (I6 sk)] [(0, (Pv F.t)), (1, .agg #[I6 sk, I6 sr, I6 sa, I6 sb, v]), (3, (Pv w.heap.size)), (4, .bool false), (14, .bool false), (23, .bool false), (5, I6 ↑kk), (33, I6 sk)] 2 0 hS (.cons (hB28.cell 0 rfl) .nil) fun a hS => ?_
 refine seg_end ?_
 refine hK34 _ _ ?_
 refine wpIn_block ?_
 refine sq fun K35 hK35 => ?_
 refine rgn 2 ?_
 refine sg wide_wide [.as (.bool false), .p] [Value.bool (((sk : Int) == 5)) = .bool false] [(0, (Pv F.t)), (1, .agg #[I6 sk, I6 sr, I6 sa, I6 sb, v]), (3, (Pv w.heap.size)), (4, .bool false), (14, .bool false), (23, .bool false), (5, I6 ↑kk), (33, I6 sk), (34, .bool false)] 2 0 hS (.cons (as_eq_f (by omega)) .nil) fun a hS => ?_
 refine seg_end ?_
 refine hK35 _ _ ?_
 refine cond_f hS rfl ?_
 refine sq fun K36 hK36 => ?_
 refine rgn 2 ?_
 refine sg wide_wide [.as (.bool false), .p] [Value.bool (((sk : Int) == 6)) = .bool false] [(0, (Pv F.t)), (1, .agg #[I6 sk, I6 sr, I6 sa, I6 sb, v]), (3, (Pv w.heap.size)), (4, .bool false), (14, .bool false), (23, .bool false), (5, I6 ↑kk), (33, I6 sk), (34, .bool false), (55, .bool false)] 2 0 hS (.cons (as_eq_f (by omega)) .nil) fun a hS => ?_
 refine seg_end ?_
 refine hK36 _ _ ?_
 refine cond_f hS rfl ?_
 refine wpIn_skip ?_
 refine inBlock_normal ?_
 refine hK33 _ _ ?_
 refine sq fun K37 hK37 => ?_
 refine rgn 1 ?_
 refine sg wide_wide [.p] [] [(0, (Pv F.t)), (1, .agg #[I6 sk, I6 sr, I6 sa, I6 sb, v]), (3, (Pv w.heap.size)), (4, .bool true), (14, .bool false), (23, .bool false), (5, I6 ↑kk), (33, I6 sk), (34, .bool false), (55, .bool false)] 1 0 hS .nil fun a hS => ?_
 refine seg_end ?_
 refine hK37 _ _ ?_
 refine wpIn_ret ?_
 refine ret1 hS Try.results24 rfl ?_
 exact ⟨rfl, F, (TS.refl hT.i).trans0 hE29⟩

theorem step_no_b {w0 w : World} {F : Ta} (hT : TB w0 w F) {sk sr sa sb : Int} {v : Value} {n : Nat} {xs : List Int} (hv0 : RdV w0 1 v n (bv xs)) (hB : BR xs) (hn : n ≤ 10000000000) (hsb : sb ≤ 9223372036854775807) (hk : 1 ≤ sk ∧ ¬sk ≤ 4) (h0 : F.L.length ≠ 0) (h5 : sk ≠ 5) (h6 : sk ≠ 6) :
  Calls Try.prog 24 #[(Pv F.t), .agg #[I6 sk, I6 sr, I6 sa, I6 sb, v]] w fun e w' => e = .returned (.bool true) ∧ ∃ F', TS w F w' F' := by
 have hv := hT.rd hv0
 have hxl : xs.length = n := by have := hv.len; simpa using this
 have hln := hT.i.ln
 obtain ⟨kk, hkk, hkkl⟩ : ∃ kk : Nat, rnd sr (F.L.length : Int) = ↑kk ∧ kk < F.L.length := by
  have h := rnd_bd sr (n := (F.L.length : Int)) (by omega)
  exact ⟨(rnd sr F.L.length).toNat, by omega, by omega⟩
 obtain ⟨ee, hee⟩ : ∃ ee, F.L[kk]? = some ee := ⟨_, List.getElem?_eq_getElem hkkl⟩
 have heem : ee ∈ F.L := List.mem_of_getElem? hee
 refine calls_body 102 [(0, (Pv F.t)), (1, .agg #[I6 sk, I6 sr, I6 sa, I6 sb, v])] Try.func24 rfl (by kernel_rfl) (by kernel_rfl) (by kernel_rfl) fun a hS => ?_
 have hE0 : Ext [] w w := Ext.refl _ _
 refine sq fun K1 hK1 => ?_
 refine rgn 2 ?_
 refine eff_box wide_wide (r := 1) (cs := #[I6 sk, I6 sr, I6 sa, I6 sb, v]) (T := 49) (d := (some 3)) hS (by kernel_rfl) fun a w2 hw3 hS => ?_
 have hB7 := Blk.at' hw3 (hT.i.f.alloc _)
 have hX10 : Ext [] w w2 := by rw [hw3]; exact (Ext.refl _ _).alloc _
 have hG11 : TB w0 w2 F := hT.ext0 hX10
 have hG12 : RdV w2 1 v n (bv xs) := hv.ext0 hX10
 have hB13 : Blk w2 (w.heap.size) 49 #[I6 sk, I6 sr, I6 sa, I6 sb, v] := by rw [hw3]; exact Blk.new _ _ _
 have hs14 : w.heap.size ≤ w.heap.size := hE0.size
 have hE15 : Ext [] w w2 := by rw [hw3]; exact hE0.alloc _
 refine sg wide_wide [.p] [] [(0, (Pv F.t)), (1, .agg #[I6 sk, I6 sr, I6 sa, I6 sb, v]), (3, (Pv w.heap.size)), (4, .bool false)] 2 0 hS .nil fun a hS => ?_
 refine seg_end ?_
 refine hK1 _ _ ?_
 refine sq fun K16 hK16 => ?_
 refine sq fun K17 hK17 => ?_
 refine rgn 8 ?_
 refine sg wide_wide [.p, .ld (I6 sk), .as (.bool true), .p, .p, .ld (I6 sk), .as (.bool false), .p] [w2.cell? ⟨w.heap.size, 0, none⟩ = some (I6 sk), Value.bool (decide ((sk : Int) ≥ 1)) = .bool true, w2.cell? ⟨w.heap.size, 0, none⟩ = some (I6 sk), Value.bool (decide ((sk : Int) ≤ 4)) = .bool false] [(0, (Pv F.t)), (1, .agg #[I6 sk, I6 sr, I6 sa, I6 sb, v]), (3, (Pv w.heap.size)), (4, .bool false), (14, .bool false)] 8 0 hS (.cons (hB13.cell 0 rfl) (.cons (as_t (by omega)) (.cons (hB13.cell 0 rfl) (.cons (as_f (by omega)) .nil)))) fun a hS => ?_
 refine seg_end ?_
 refine hK17 _ _ ?_
 refine cond_f hS rfl ?_
 refine wpIn_skip ?_
 refine hK16 _ _ ?_
 refine sq fun K18 hK18 => ?_
 refine sq fun K19 hK19 => ?_
 refine rgn 6 ?_
 refine sg wide_wide [.p, .p, .p, .ld (.slice F.pb F.L.length F.pc), .p, .as (.bool false)] [w2.cell? ⟨F.t, 0, none⟩ = some (.slice F.pb F.L.length F.pc), Value.bool (((↑F.L.length : Int) == 0)) = .bool false] [(0, (Pv F.t)), (1, .agg #[I6 sk, I6 sr, I6 sa, I6 sb, v]), (3, (Pv w.heap.size)), (4, .bool false), (14, .bool false), (23, .bool false)] 6 0 hS (.cons (hB7.cell 0 rfl) (.cons (as_eq_f (by omega)) .nil)) fun a hS => ?_
 refine seg_end ?_
 refine hK19 _ _ ?_
 refine cond_f hS rfl ?_
 refine wpIn_skip ?_
 refine hK18 _ _ ?_
 refine sq fun K20 hK20 => ?_
 refine region_gh2 (G := World) wide_wide [.q .p, .q (.ld (I6 sr)), .q .p, .q .p, .q .p, .q (.ld (.slice F.pb F.L.length F.pc)), .q .p, .e, .q .p] [0, 0, 0, 0, 0, 0, 0, 0, 1] [0, 0, 0, 0, 0, 0, 0, 0, 1] [0, 1, 0, 4, 12, 28, 60, 127, 255] [7] [(7, 0)] 1 (fun wc21 => ([(0, (Pv F.t)), (1, .agg #[I6 sk, I6 sr, I6 sa, I6 sb, v]), (3, (Pv w.heap.size)), (4, .bool false), (14, .bool false), (23, .bool false), (24, (Po w.heap.size 1)), (25, I6 sr), (26, (Pv F.t)), (27, (Pv F.t)), (28, (Pv F.t)), (29, .slice F.pb F.L.length F.pc), (30, I6 ↑F.L.length), (31, I6 ↑kk), (5, I6 ↑kk)] : Fm)) (fun wc21 => [w2.drew, wc21]) (w2.drew) (fun e wc21 => hAt [True, (Ext [] w2.drew wc21) ∧ True] e) (fun wc21 w' => [(1, [w'.cell? ⟨w.heap.size, 1, none⟩ = some (I6 sr)]), (5, [w'.cell? ⟨F.t, 0, none⟩ = some (.slice F.pb F.L.length F.pc)])]) w2.drew [0, 1, 3, 4, 14, 23] [] hS (by kernel_rfl) (by kernel_rfl) (by kernel_rfl) (by kernel_rfl) (fun wc21 _ => by kernel_rfl) (by kernel_rfl) (by kernel_rfl) (by kernel_rfl) trivial ?_ (by kernel_rfl) ?_ ?_
 ·rintro e wc21 w' hw hH
  refine (.cons ?_ (.cons ?_ .nil))
  ·intro h1 h2
   obtain rfl : e = 0 := Nat.le_antisymm h2 h1
   have hwe : w2.drew = w' := (hw.trans (by kernel_rfl)).symm
   subst hwe
   clear hH
   exact (.cons ((hB13.drew : Blk w2.drew w.heap.size 49 (#[I6 sk, I6 sr, I6 sa, I6 sb, v])).cell 1 rfl) .nil)
  ·intro h1 h2
   obtain rfl : e = 0 := Nat.le_antisymm h2 h1
   have hwe : w2.drew = w' := (hw.trans (by kernel_rfl)).symm
   subst hwe
   clear hH
   exact (.cons ((hB7.drew : Blk w2.drew F.t 46 (#[.slice F.pb F.L.length F.pc, .slice F.qb F.L.length F.qc, .slice F.bb F.bn F.bn])).cell 0 rfl) .nil)
 ·refine (.cons ?eq22_7 .nil)
  ·rintro wc21 hH
   clear hH
   refine eff_gh (w2.drew) (by kernel_rfl) ?_
   refine upon_call (f := 21) (vs := [I6 sr, I6 ↑F.L.length]) (cap := #[]) (d := (some 31)) (by kernel_rfl) Try.call21 #[I6 sr, I6 ↑F.L.length] (by kernel_rfl) (Round_x (k := sr) (N := F.L.length) (by omega) hkk) ?_
   rintro _ wc21 ⟨rfl, hEc21⟩
   exact ⟨_, rfl, ⟨wc21, by kernel_rfl, by kernel_rfl, by kernel_rfl, ⟨hEc21, trivial⟩⟩⟩
 rintro wc21 a w23 hS hw24 hH
 obtain ⟨hEc21, _⟩ := hH
 replace hw24 : w23 = wc21 := hw24.trans (by kernel_rfl)
 have hB28 := Blk.at' hw24 ((hB13.drew : Blk w2.drew w.heap.size 49 (#[I6 sk, I6 sr, I6 sa, I6 sb, v])).ext hEc21 (by simp))
 have hE29 : Ext [] w w23 := by rw [hw24]; exact (hE15.drew).trans0 hEc21
 have hX30 : Ext [] w2 w23 := by rw [hw24]; exact ((Ext.refl _ _).drew).trans0 hEc21
 have hG31 : TB w0 w23 F := hG11.ext0 hX30
 have hG32 : RdV w23 1 v n (bv xs) := hG12.ext0 hX30
 replace hS := hS.kp [(0, (Pv F.t)), (1, .agg #[I6 sk, I6 sr, I6 sa, I6 sb, v]), (3, (Pv w.heap.size)), (4, .bool false), (14, .bool false), (23, .bool false), (5, I6 ↑kk)]
 refine hK20 _ _ ?_
 refine sq fun K33 hK33 => ?_
 refine sq fun K34 hK34 => ?_
 refine rgn 2 ?_
 refine sg wide_wide [.p, .ld (I6 sk)] [w23.cell? ⟨w.heap.size, 0, none⟩ = some (I6 sk)] [(0, (Pv F.t)), (1, .agg #[I6 sk, I6 sr, I6 sa, I6 sb, v]), (3, (Pv w.heap.size)), (4, .bool false), (14, .bool false), (23, .bool false), (5, I6 ↑kk), (33, I6 sk)] 2 0 hS (.cons (hB28.cell 0 rfl) .nil) fun a hS => ?_
 refine seg_end ?_
 refine hK34 _ _ ?_
 refine wpIn_block ?_
 refine sq fun K35 hK35 => ?_
 refine rgn 2 ?_
 refine sg wide_wide [.as (.bool false), .p] [Value.bool (((sk : Int) == 5)) = .bool false] [(0, (Pv F.t)), (1, .agg #[I6 sk, I6 sr, I6 sa, I6 sb, v]), (3, (Pv w.heap.size)), (4, .bool false), (14, .bool false), (23, .bool false), (5, I6 ↑kk), (33, I6 sk), (34, .bool false)] 2 0 hS (.cons (as_eq_f (by omega)) .nil) fun a hS => ?_
 refine seg_end ?_
 refine hK35 _ _ ?_
 refine cond_f hS rfl ?_
 refine sq fun K36 hK36 => ?_
 refine rgn 2 ?_
 refine sg wide_wide [.as (.bool false), .p] [Value.bool (((sk : Int) == 6)) = .bool false] [(0, (Pv F.t)), (1, .agg #[I6 sk, I6 sr, I6 sa, I6 sb, v]), (3, (Pv w.heap.size)), (4, .bool false), (14, .bool false), (23, .bool false), (5, I6 ↑kk), (33, I6 sk), (34, .bool false), (55, .bool false)] 2 0 hS (.cons (as_eq_f (by omega)) .nil) fun a hS => ?_
 refine seg_end ?_
 refine hK36 _ _ ?_
 refine cond_f hS rfl ?_
 refine wpIn_skip ?_
 refine inBlock_normal ?_
 refine hK33 _ _ ?_
 refine sq fun K37 hK37 => ?_
 refine rgn 1 ?_
 refine sg wide_wide [.p] [] [(0, (Pv F.t)), (1, .agg #[I6 sk, I6 sr, I6 sa, I6 sb, v]), (3, (Pv w.heap.size)), (4, .bool true), (14, .bool false), (23, .bool false), (5, I6 ↑kk), (33, I6 sk), (34, .bool false), (55, .bool false)] 1 0 hS .nil fun a hS => ?_
 refine seg_end ?_
 refine hK37 _ _ ?_
 refine wpIn_ret ?_
 refine ret1 hS Try.results24 rfl ?_
 exact ⟨rfl, F, (TS.refl hT.i).trans0 hE29⟩

theorem step_look {w0 w : World} {F : Ta} (hT : TB w0 w F) {sk sr sa sb : Int} {v : Value} {n : Nat} {xs : List Int} (hv0 : RdV w0 1 v n (bv xs)) (hB : BR xs) (hn : n ≤ 10000000000) (hsb : sb ≤ 9223372036854775807) (hk : sk = 5) (h0 : F.L.length ≠ 0) :
  Calls Try.prog 24 #[(Pv F.t), .agg #[I6 sk, I6 sr, I6 sa, I6 sb, v]] w fun e w' => e = .returned (.bool true) ∧ ∃ F', TS w F w' F' := by
 have hv := hT.rd hv0
 have hxl : xs.length = n := by have := hv.len; simpa using this
 have hln := hT.i.ln
 obtain ⟨kk, hkk, hkkl⟩ : ∃ kk : Nat, rnd sr (F.L.length : Int) = ↑kk ∧ kk < F.L.length := by
  have h := rnd_bd sr (n := (F.L.length : Int)) (by omega)
  exact ⟨(rnd sr F.L.length).toNat, by omega, by omega⟩
 obtain ⟨ee, hee⟩ : ∃ ee, F.L[kk]? = some ee := ⟨_, List.getElem?_eq_getElem hkkl⟩
 have heem : ee ∈ F.L := List.mem_of_getElem? hee
 refine calls_body 102 [(0, (Pv F.t)), (1, .agg #[I6 sk, I6 sr, I6 sa, I6 sb, v])] Try.func24 rfl (by kernel_rfl) (by kernel_rfl) (by kernel_rfl) fun a hS => ?_
 have hE0 : Ext [] w w := Ext.refl _ _
 refine sq fun K1 hK1 => ?_
 refine rgn 2 ?_
 refine eff_box wide_wide (r := 1) (cs := #[I6 sk, I6 sr, I6 sa, I6 sb, v]) (T := 49) (d := (some 3)) hS (by kernel_rfl) fun a w2 hw3 hS => ?_
 have hB7 := Blk.at' hw3 (hT.i.f.alloc _)
 have hB8 := OwnV.at' hw3 (hT.i.P.alloc _)
 have hB9 := OwnV.at' hw3 (hT.i.R.alloc _)
 have hX10 : Ext [] w w2 := by rw [hw3]; exact (Ext.refl _ _).alloc _
 have hG11 : TB w0 w2 F := hT.ext0 hX10
 have hG12 : RdV w2 1 v n (bv xs) := hv.ext0 hX10
 have hB13 : Blk w2 (w.heap.size) 49 #[I6 sk, I6 sr, I6 sa, I6 sb, v] := by rw [hw3]; exact Blk.new _ _ _
 have hs14 : w.heap.size ≤ w.heap.size := hE0.size
 have hE15 : Ext [] w w2 := by rw [hw3]; exact hE0.alloc _
 refine sg wide_wide [.p] [] [(0, (Pv F.t)), (1, .agg #[I6 sk, I6 sr, I6 sa, I6 sb, v]), (3, (Pv w.heap.size)), (4, .bool false)] 2 0 hS .nil fun a hS => ?_
 refine seg_end ?_
 refine hK1 _ _ ?_
 refine sq fun K16 hK16 => ?_
 refine sq fun K17 hK17 => ?_
 refine rgn 8 ?_
 refine sg wide_wide [.p, .ld (I6 sk), .as (.bool true), .p, .p, .ld (I6 sk), .as (.bool false), .p] [w2.cell? ⟨w.heap.size, 0, none⟩ = some (I6 sk), Value.bool (decide ((sk : Int) ≥ 1)) = .bool true, w2.cell? ⟨w.heap.size, 0, none⟩ = some (I6 sk), Value.bool (decide ((sk : Int) ≤ 4)) = .bool false] [(0, (Pv F.t)), (1, .agg #[I6 sk, I6 sr, I6 sa, I6 sb, v]), (3, (Pv w.heap.size)), (4, .bool false), (14, .bool false)] 8 0 hS (.cons (hB13.cell 0 rfl) (.cons (as_t (by omega)) (.cons (hB13.cell 0 rfl) (.cons (as_f (by omega)) .nil)))) fun a hS => ?_
 refine seg_end ?_
 refine hK17 _ _ ?_
 refine cond_f hS rfl ?_
 refine wpIn_skip ?_
 refine hK16 _ _ ?_
 refine sq fun K18 hK18 => ?_
 refine sq fun K19 hK19 => ?_
 refine rgn 6 ?_
 refine sg wide_wide [.p, .p, .p, .ld (.slice F.pb F.L.length F.pc), .p, .as (.bool false)] [w2.cell? ⟨F.t, 0, none⟩ = some (.slice F.pb F.L.length F.pc), Value.bool (((↑F.L.length : Int) == 0)) = .bool false] [(0, (Pv F.t)), (1, .agg #[I6 sk, I6 sr, I6 sa, I6 sb, v]), (3, (Pv w.heap.size)), (4, .bool false), (14, .bool false), (23, .bool false)] 6 0 hS (.cons (hB7.cell 0 rfl) (.cons (as_eq_f (by omega)) .nil)) fun a hS => ?_
 refine seg_end ?_
 refine hK19 _ _ ?_
 refine cond_f hS rfl ?_
 refine wpIn_skip ?_
 refine hK18 _ _ ?_
 refine sq fun K20 hK20 => ?_
 refine region_gh2 (G := World) wide_wide [.q .p, .q (.ld (I6 sr)), .q .p, .q .p, .q .p, .q (.ld (.slice F.pb F.L.length F.pc)), .q .p, .e, .q .p] [0, 0, 0, 0, 0, 0, 0, 0, 1] [0, 0, 0, 0, 0, 0, 0, 0, 1] [0, 1, 0, 4, 12, 28, 60, 127, 255] [7] [(7, 0)] 1 (fun wc21 => ([(0, (Pv F.t)), (1, .agg #[I6 sk, I6 sr, I6 sa, I6 sb, v]), (3, (Pv w.heap.size)), (4, .bool false), (14, .bool false), (23, .bool false), (24, (Po w.heap.size 1)), (25, I6 sr), (26, (Pv F.t)), (27, (Pv F.t)), (28, (Pv F.t)), (29, .slice F.pb F.L.length F.pc), (30, I6 ↑F.L.length), (31, I6 ↑kk), (5, I6 ↑kk)] : Fm)) (fun wc21 => [w2.drew, wc21]) (w2.drew) (fun e wc21 => hAt [True, (Ext [] w2.drew wc21) ∧ True] e) (fun wc21 w' => [(1, [w'.cell? ⟨w.heap.size, 1, none⟩ = some (I6 sr)]), (5, [w'.cell? ⟨F.t, 0, none⟩ = some (.slice F.pb F.L.length F.pc)])]) w2.drew [0, 1, 3, 4, 14, 23] [] hS (by kernel_rfl) (by kernel_rfl) (by kernel_rfl) (by kernel_rfl) (fun wc21 _ => by kernel_rfl) (by kernel_rfl) (by kernel_rfl) (by kernel_rfl) trivial ?_ (by kernel_rfl) ?_ ?_
 ·rintro e wc21 w' hw hH
  refine (.cons ?_ (.cons ?_ .nil))
  ·intro h1 h2
   obtain rfl : e = 0 := Nat.le_antisymm h2 h1
   have hwe : w2.drew = w' := (hw.trans (by kernel_rfl)).symm
   subst hwe
   clear hH
   exact (.cons ((hB13.drew : Blk w2.drew w.heap.size 49 (#[I6 sk, I6 sr, I6 sa, I6 sb, v])).cell 1 rfl) .nil)
  ·intro h1 h2
   obtain rfl : e = 0 := Nat.le_antisymm h2 h1
   have hwe : w2.drew = w' := (hw.trans (by kernel_rfl)).symm
   subst hwe
   clear hH
   exact (.cons ((hB7.drew : Blk w2.drew F.t 46 (#[.slice F.pb F.L.length F.pc, .slice F.qb F.L.length F.qc, .slice F.bb F.bn F.bn])).cell 0 rfl) .nil)
 ·refine (.cons ?eq22_7 .nil)
  ·rintro wc21 hH
   clear hH
   refine eff_gh (w2.drew) (by kernel_rfl) ?_
   refine upon_call (f := 21) (vs := [I6 sr, I6 ↑F.L.length]) (cap := #[]) (d := (some 31)) (by kernel_rfl) Try.call21 #[I6 sr, I6 ↑F.L.length] (by kernel_rfl) (Round_x (k := sr) (N := F.L.length) (by omega) hkk) ?_
   rintro _ wc21 ⟨rfl, hEc21⟩
   exact ⟨_, rfl, ⟨wc21, by kernel_rfl, by kernel_rfl, by kernel_rfl, ⟨hEc21, trivial⟩⟩⟩
 rintro wc21 a w23 hS hw24 hH
 obtain ⟨hEc21, _⟩ := hH
 replace hw24 : w23 = wc21 := hw24.trans (by kernel_rfl)
 have hB25 := Blk.at' hw24 ((hB7.drew : Blk w2.drew F.t 46 (#[.slice F.pb F.L.length F.pc, .slice F.qb F.L.length F.qc, .slice F.bb F.bn F.bn])).ext hEc21 (by simp))
 have hB26 := OwnV.at' hw24 ((hB8.drew : OwnV w2.drew 24 1 (.slice F.pb F.L.length F.pc) F.L.length (F.L.map En.bp)).ext hEc21 (by simp))
 have hB27 := OwnV.at' hw24 ((hB9.drew : OwnV w2.drew 52 1 (.slice F.qb F.L.length F.qc) F.L.length (F.L.map En.cp)).ext hEc21 (by simp))
 have hB28 := Blk.at' hw24 ((hB13.drew : Blk w2.drew w.heap.size 49 (#[I6 sk, I6 sr, I6 sa, I6 sb, v])).ext hEc21 (by simp))
 have hE29 : Ext [] w w23 := by rw [hw24]; exact (hE15.drew).trans0 hEc21
 have hX30 : Ext [] w2 w23 := by rw [hw24]; exact ((Ext.refl _ _).drew).trans0 hEc21
 have hG31 : TB w0 w23 F := hG11.ext0 hX30
 have hG32 : RdV w23 1 v n (bv xs) := hG12.ext0 hX30
 replace hS := hS.kp [(0, (Pv F.t)), (1, .agg #[I6 sk, I6 sr, I6 sa, I6 sb, v]), (3, (Pv w.heap.size)), (4, .bool false), (14, .bool false), (23, .bool false), (5, I6 ↑kk)]
 refine hK20 _ _ ?_
 refine sq fun K33 hK33 => ?_
 refine sq fun K34 hK34 => ?_
 refine rgn 2 ?_
 refine sg wide_wide [.p, .ld (I6 sk)] [w23.cell? ⟨w.heap.size, 0, none⟩ = some (I6 sk)] [(0, (Pv F.t)), (1, .agg #[I6 sk, I6 sr, I6 sa, I6 sb, v]), (3, (Pv w.heap.size)), (4, .bool false), (14, .bool false), (23, .bool false), (5, I6 ↑kk), (33, I6 sk)] 2 0 hS (.cons (hB28.cell 0 rfl) .nil) fun a hS => ?_
 refine seg_end ?_
 refine hK34 _ _ ?_
 refine wpIn_block ?_
 refine sq fun K35 hK35 => ?_
 refine rgn 2 ?_
 refine sg wide_wide [.as (.bool true), .p] [Value.bool (((sk : Int) == 5)) = .bool true] [(0, (Pv F.t)), (1, .agg #[I6 sk, I6 sr, I6 sa, I6 sb, v]), (3, (Pv w.heap.size)), (4, .bool false), (14, .bool false), (23, .bool false), (5, I6 ↑kk), (33, I6 sk), (34, .bool true)] 2 0 hS (.cons (as_eq_t (by omega)) .nil) fun a hS => ?_
 refine seg_end ?_
 refine hK35 _ _ ?_
 refine cond_t hS rfl ?_
 refine sq fun K36 hK36 => ?_
 refine region_gh2 (G := World) wide_wide [.q .p, .q .p, .q .p, .q (.ld (.slice F.pb F.L.length F.pc)), .q .p, .q (.run ((Po (bof (.slice F.pb F.L.length F.pc)) (0 + kk * 1)))), .q (.ld ((Pv ee.b))), .q .p, .q .p, .q .p, .q (.ld (.slice F.qb F.L.length F.qc)), .q .p, .q (.run ((Po (bof (.slice F.qb F.L.length F.qc)) (0 + kk * 1)))), .q (.ld ((Pv ee.c))), .q .p, .q (.ld (I6 sa)), .q .p, .q (.ld (I6 sb)), .e, .q .p] [0, 0, 0, 0, 0, 0, 0, 0, 0, 0, 0, 0, 0, 0, 0, 0, 0, 0, 0, 1] [0, 0, 0, 0, 0, 0, 0, 0, 0, 0, 0, 0, 0, 0, 0, 0, 0, 0, 0, 1] [0, 1, 3, 7, 0, 31, 63, 0, 128, 384, 896, 0, 3968, 8064, 0, 16384, 0, 65536, 262143, 524287] [18] [(18, 0)] 1 (fun wc37 => ([(0, (Pv F.t)), (1, .agg #[I6 sk, I6 sr, I6 sa, I6 sb, v]), (3, (Pv w.heap.size)), (14, .bool false), (23, .bool false), (5, I6 ↑kk), (33, I6 sk), (34, .bool true), (4, .bool true), (36, (Pv F.t)), (37, (Pv F.t)), (38, (Pv F.t)), (39, .slice F.pb F.L.length F.pc), (40, I6 ↑kk), (41, (Po (bof (.slice F.pb F.L.length F.pc)) (0 + kk * 1))), (42, (Pv ee.b)), (43, (Pv F.t)), (44, (Pv F.t)), (45, (Po F.t 1)), (46, .slice F.qb F.L.length F.qc), (47, I6 ↑kk), (48, (Po (bof (.slice F.qb F.L.length F.qc)) (0 + kk * 1))), (49, (Pv ee.c)), (50, (Po w.heap.size 2)), (51, I6 sa), (52, (Po w.heap.size 3)), (53, I6 sb), (54, .bool true)] : Fm)) (fun wc37 => [w23.drew, wc37]) (w23.drew) (fun e wc37 => hAt [True, (Ext [] w23.drew wc37) ∧ True] e) (fun wc37 w' => [(3, [w'.cell? ⟨F.t, 0, none⟩ = some (.slice F.pb F.L.length F.pc)]), (5, [Ru Try.prog (vS (Instr.indexAt 43 (.slice F.pb F.L.length F.pc) (I6 ↑kk))) ((Po (bof (.slice F.pb F.L.length F.pc)) (0 + kk * 1))) w']), (6, [w'.cell? ⟨bof (.slice F.pb F.L.length F.pc), 0 + kk * 1, none⟩ = some ((Pv ee.b))]), (10, [w'.cell? ⟨F.t, 1, none⟩ = some (.slice F.qb F.L.length F.qc)]), (12, [Ru Try.prog (vS (Instr.indexAt 44 (.slice F.qb F.L.length F.qc) (I6 ↑kk))) ((Po (bof (.slice F.qb F.L.length F.qc)) (0 + kk * 1))) w']), (13, [w'.cell? ⟨bof (.slice F.qb F.L.length F.qc), 0 + kk * 1, none⟩ = some ((Pv ee.c))]), (15, [w'.cell? ⟨w.heap.size, 2, none⟩ = some (I6 sa)]), (17, [w'.cell? ⟨w.heap.size, 3, none⟩ = some (I6 sb)])]) w23.drew [0, 1, 3, 14, 23, 5, 33, 34] [] hS (by kernel_rfl) (by kernel_rfl) (by kernel_rfl) (by kernel_rfl) (fun wc37 _ => by kernel_rfl) (by kernel_rfl) (by kernel_rfl) (by kernel_rfl) trivial ?_ (by kernel_rfl) ?_ ?_
 ·rintro e wc37 w' hw hH
  refine (.cons ?_ (.cons ?_ (.cons ?_ (.cons ?_ (.cons ?_ (.cons ?_ (.cons ?_ (.cons ?_ .nil))))))))
  ·intro h1 h2
   obtain rfl : e = 0 := Nat.le_antisymm h2 h1
   have hwe : w23.drew = w' := (hw.trans (by kernel_rfl)).symm
   subst hwe
   clear hH
   exact (.cons ((hB25.drew : Blk w23.drew F.t 46 (#[.slice F.pb F.L.length F.pc, .slice F.qb F.L.length F.qc, .slice F.bb F.bn F.bn])).cell 0 rfl) .nil)
  ·intro h1 h2
   obtain rfl : e = 0 := Nat.le_antisymm h2 h1
   have hwe : w23.drew = w' := (hw.trans (by kernel_rfl)).symm
   subst hwe
   clear hH
   exact (.cons (ix_own (j := kk) (hB26) (by kernel_rfl) (by kernel_rfl) rfl hkkl) .nil)
  ·intro h1 h2
   obtain rfl : e = 0 := Nat.le_antisymm h2 h1
   have hwe : w23.drew = w' := (hw.trans (by kernel_rfl)).symm
   subst hwe
   clear hH
   exact (.cons ((hB26.drew : OwnV w23.drew 24 1 (.slice F.pb F.L.length F.pc) F.L.length (F.L.map En.bp)).cellAt _ (by simp [hee, En.bp])) .nil)
  ·intro h1 h2
   obtain rfl : e = 0 := Nat.le_antisymm h2 h1
   have hwe : w23.drew = w' := (hw.trans (by kernel_rfl)).symm
   subst hwe
   clear hH
   exact (.cons ((hB25.drew : Blk w23.drew F.t 46 (#[.slice F.pb F.L.length F.pc, .slice F.qb F.L.length F.qc, .slice F.bb F.bn F.bn])).cell 1 rfl) .nil)
  ·intro h1 h2
   obtain rfl : e = 0 := Nat.le_antisymm h2 h1
   have hwe : w23.drew = w' := (hw.trans (by kernel_rfl)).symm
   subst hwe
   clear hH
   exact (.cons (ix_own (j := kk) (hB27) (by kernel_rfl) (by kernel_rfl) rfl hkkl) .nil)
  ·intro h1 h2
   obtain rfl : e = 0 := Nat.le_antisymm h2 h1
   have hwe : w23.drew = w' := (hw.trans (by kernel_rfl)).symm
   subst hwe
   clear hH
   exact (.cons ((hB27.drew : OwnV w23.drew 52 1 (.slice F.qb F.L.length F.qc) F.L.length (F.L.map En.cp)).cellAt _ (by simp [hee, En.cp])) .nil)
  ·intro h1 h2
   obtain rfl : e = 0 := Nat.le_antisymm h2 h1
   have hwe : w23.drew = w' := (hw.trans (by kernel_rfl)).symm
   subst hwe
   clear hH
   exact (.cons ((hB28.drew : Blk w23.drew w.heap.size 49 (#[I6 sk, I6 sr, I6 sa, I6 sb, v])).cell 2 rfl) .nil)
  ·intro h1 h2
   obtain rfl : e = 0 := Nat.le_antisymm h2 h1
   have hwe : w23.drew = w' := (hw.trans (by kernel_rfl)).symm
   subst hwe
   clear hH
   exact (.cons ((hB28.drew : Blk w23.drew w.heap.size 49 (#[I6 sk, I6 sr, I6 sa, I6 sb, v])).cell 3 rfl) .nil)
 ·refine (.cons ?eq38_18 .nil)
  ·rintro wc37 hH
   clear hH
   refine eff_gh (w23.drew) (by kernel_rfl) ?_
   refine upon_call (f := 27) (vs := [(Pv ee.b), (Pv ee.c), I6 sa, I6 sb]) (cap := #[]) (d := (some 54)) (by kernel_rfl) Try.call27 #[(Pv ee.b), (Pv ee.c), I6 sa, I6 sb] (by kernel_rfl) (look_any ((hG31.ext0 ((Ext.refl [] _).drew)).i.p ee heem).two ((hG31.ext0 ((Ext.refl [] _).drew)).i.q ee heem) hsb) ?_
   rintro _ wc37 ⟨rfl, hEc37⟩
   exact ⟨_, rfl, ⟨wc37, by kernel_rfl, by kernel_rfl, by kernel_rfl, ⟨hEc37, trivial⟩⟩⟩
 rintro wc37 a w39 hS hw40 hH
 obtain ⟨hEc37, _⟩ := hH
 replace hw40 : w39 = wc37 := hw40.trans (by kernel_rfl)
 have hE45 : Ext [] w w39 := by rw [hw40]; exact (hE29.drew).trans0 hEc37
 have hX46 : Ext [] w23 w39 := by rw [hw40]; exact ((Ext.refl _ _).drew).trans0 hEc37
 have hG47 : TB w0 w39 F := hG31.ext0 hX46
 have hG48 : RdV w39 1 v n (bv xs) := hG32.ext0 hX46
 replace hS := hS.kp [(0, (Pv F.t)), (1, .agg #[I6 sk, I6 sr, I6 sa, I6 sb, v]), (3, (Pv w.heap.size)), (14, .bool false), (23, .bool false), (5, I6 ↑kk), (33, I6 sk), (34, .bool true), (4, .bool true)]
 refine hK36 _ _ ?_
 refine wpIn_ret ?_
 refine inBlock_ret ?_
 refine then_ret ?_
 refine ret1 hS Try.results24 rfl ?_
 exact ⟨rfl, F, (TS.refl hT.i).trans0 hE45⟩

theorem step_equal {w0 w : World} {F : Ta} (hT : TB w0 w F) {sk sr sa sb : Int} {v : Value} {n : Nat} {xs : List Int} (hv0 : RdV w0 1 v n (bv xs)) (hB : BR xs) (hn : n ≤ 10000000000) (hsb : sb ≤ 9223372036854775807) (hk : sk = 6) (h0 : F.L.length ≠ 0) :
  Calls Try.prog 24 #[(Pv F.t), .agg #[I6 sk, I6 sr, I6 sa, I6 sb, v]] w fun e w' => e = .returned (.bool true) ∧ ∃ F', TS w F w' F' := by
 have hv := hT.rd hv0
 have hxl : xs.length = n := by have := hv.len; simpa using this
 have hln := hT.i.ln
 obtain ⟨kk, hkk, hkkl⟩ : ∃ kk : Nat, rnd sr (F.L.length : Int) = ↑kk ∧ kk < F.L.length := by
  have h := rnd_bd sr (n := (F.L.length : Int)) (by omega)
  exact ⟨(rnd sr F.L.length).toNat, by omega, by omega⟩
 obtain ⟨ee, hee⟩ : ∃ ee, F.L[kk]? = some ee := ⟨_, List.getElem?_eq_getElem hkkl⟩
 have heem : ee ∈ F.L := List.mem_of_getElem? hee
 obtain ⟨mm, hmm, hmml⟩ : ∃ mm : Nat, rnd sa (F.L.length : Int) = ↑mm ∧ mm < F.L.length := by
  have h := rnd_bd sa (n := (F.L.length : Int)) (by omega)
  exact ⟨(rnd sa F.L.length).toNat, by omega, by omega⟩
 obtain ⟨ff, hff⟩ : ∃ ff, F.L[mm]? = some ff := ⟨_, List.getElem?_eq_getElem hmml⟩
 have hffm : ff ∈ F.L := List.mem_of_getElem? hff
 have hqee := hT.i.q ee heem
 have hqff := hT.i.q ff hffm
 refine calls_body 102 [(0, (Pv F.t)), (1, .agg #[I6 sk, I6 sr, I6 sa, I6 sb, v])] Try.func24 rfl (by kernel_rfl) (by kernel_rfl) (by kernel_rfl) fun a hS => ?_
 have hE0 : Ext [] w w := Ext.refl _ _
 refine sq fun K1 hK1 => ?_
 refine rgn 2 ?_
 refine eff_box wide_wide (r := 1) (cs := #[I6 sk, I6 sr, I6 sa, I6 sb, v]) (T := 49) (d := (some 3)) hS (by kernel_rfl) fun a w2 hw3 hS => ?_
 have hB9 := Blk.at' hw3 (hT.i.f.alloc _)
 have hB10 := OwnV.at' hw3 (hT.i.P.alloc _)
 have hB11 := OwnV.at' hw3 (hT.i.R.alloc _)
 have hB12 := Blk.at' hw3 (hqee.1.alloc _)
 have hB13 := Blk.at' hw3 (hqff.1.alloc _)
 have hX14 : Ext [] w w2 := by rw [hw3]; exact (Ext.refl _ _).alloc _
 have hG15 : TB w0 w2 F := hT.ext0 hX14
 have hG16 : RdV w2 1 v n (bv xs) := hv.ext0 hX14
 have hG17 : RdV w2 1 ee.v ((obs ee.o).length) (bv (obs ee.o)) := hqee.2.1.ext0 hX14
 have hG18 : RdV w2 1 ff.v ((obs ff.o).length) (bv (obs ff.o)) := hqff.2.1.ext0 hX14
 have hB19 : Blk w2 (w.heap.size) 49 #[I6 sk, I6 sr, I6 sa, I6 sb, v] := by rw [hw3]; exact Blk.new _ _ _
 have hs20 : w.heap.size ≤ w.heap.size := hE0.size
 have hE21 : Ext [] w w2 := by rw [hw3]; exact hE0.alloc _
 refine sg wide_wide [.p] [] [(0, (Pv F.t)), (1, .agg #[I6 sk, I6 sr, I6 sa, I6 sb, v]), (3, (Pv w.heap.size)), (4, .bool false)] 2 0 hS .nil fun a hS => ?_
 refine seg_end ?_
 refine hK1 _ _ ?_
 refine sq fun K22 hK22 => ?_
 refine sq fun K23 hK23 => ?_
 refine rgn 8 ?_
 refine sg wide_wide [.p, .ld (I6 sk), .as (.bool true), .p, .p, .ld (I6 sk), .as (.bool false), .p] [w2.cell? ⟨w.heap.size, 0, none⟩ = some (I6 sk), Value.bool (decide ((sk : Int) ≥ 1)) = .bool true, w2.cell? ⟨w.heap.size, 0, none⟩ = some (I6 sk), Value.bool (decide ((sk : Int) ≤ 4)) = .bool false] [(0, (Pv F.t)), (1, .agg #[I6 sk, I6 sr, I6 sa, I6 sb, v]), (3, (Pv w.heap.size)), (4, .bool false), (14, .bool false)] 8 0 hS (.cons (hB19.cell 0 rfl) (.cons (as_t (by omega)) (.cons (hB19.cell 0 rfl) (.cons (as_f (by omega)) .nil)))) fun a hS => ?_
 refine seg_end ?_
 refine hK23 _ _ ?_
 refine cond_f hS rfl ?_
 refine wpIn_skip ?_
 refine hK22 _ _ ?_
 refine sq fun K24 hK24 => ?_
 refine sq fun K25 hK25 => ?_
 refine rgn 6 ?_
 refine sg wide_wide [.p, .p, .p, .ld (.slice F.pb F.L.length F.pc), .p, .as (.bool false)] [w2.cell? ⟨F.t, 0, none⟩ = some (.slice F.pb F.L.length F.pc), Value.bool (((↑F.L.length : Int) == 0)) = .bool false] [(0, (Pv F.t)), (1, .agg #[I6 sk, I6 sr, I6 sa, I6 sb, v]), (3, (Pv w.heap.size)), (4, .bool false), (14, .bool false), (23, .bool false)] 6 0 hS (.cons (hB9.cell 0 rfl) (.cons (as_eq_f (by omega)) .nil)) fun a hS => ?_
 refine seg_end ?_
 refine hK25 _ _ ?_
 refine cond_f hS rfl ?_
 refine wpIn_skip ?_
 refine hK24 _ _ ?_
 refine sq fun K26 hK26 => ?_
 refine region_gh2 (G := World) wide_wide [.q .p, .q (.ld (I6 sr)), .q .p, .q .p, .q .p, .q (.ld (.slice F.pb F.L.length F.pc)), .q .p, .e, .q .p] [0, 0, 0, 0, 0, 0, 0, 0, 1] [0, 0, 0, 0, 0, 0, 0, 0, 1] [0, 1, 0, 4, 12, 28, 60, 127, 255] [7] [(7, 0)] 1 (fun wc27 => ([(0, (Pv F.t)), (1, .agg #[I6 sk, I6 sr, I6 sa, I6 sb, v]), (3, (Pv w.heap.size)), (4, .bool false), (14, .bool false), (23, .bool false), (24, (Po w.heap.size 1)), (25, I6 sr), (26, (Pv F.t)), (27, (Pv F.t)), (28, (Pv F.t)), (29, .slice F.pb F.L.length F.pc), (30, I6 ↑F.L.length), (31, I6 ↑kk), (5, I6 ↑kk)] : Fm)) (fun wc27 => [w2.drew, wc27]) (w2.drew) (fun e wc27 => hAt [True, (Ext [] w2.drew wc27) ∧ True] e) (fun wc27 w' => [(1, [w'.cell? ⟨w.heap.size, 1, none⟩ = some (I6 sr)]), (5, [w'.cell? ⟨F.t, 0, none⟩ = some (.slice F.pb F.L.length F.pc)])]) w2.drew [0, 1, 3, 4, 14, 23] [] hS (by kernel_rfl) (by kernel_rfl) (by kernel_rfl) (by kernel_rfl) (fun wc27 _ => by kernel_rfl) (by kernel_rfl) (by kernel_rfl) (by kernel_rfl) trivial ?_ (by kernel_rfl) ?_ ?_
 ·rintro e wc27 w' hw hH
  refine (.cons ?_ (.cons ?_ .nil))
  ·intro h1 h2
   obtain rfl : e = 0 := Nat.le_antisymm h2 h1
   have hwe : w2.drew = w' := (hw.trans (by kernel_rfl)).symm
   subst hwe
   clear hH
   exact (.cons ((hB19.drew : Blk w2.drew w.heap.size 49 (#[I6 sk, I6 sr, I6 sa, I6 sb, v])).cell 1 rfl) .nil)
  ·intro h1 h2
   obtain rfl : e = 0 := Nat.le_antisymm h2 h1
   have hwe : w2.drew = w' := (hw.trans (by kernel_rfl)).symm
   subst hwe
   clear hH
   exact (.cons ((hB9.drew : Blk w2.drew F.t 46 (#[.slice F.pb F.L.length F.pc, .slice F.qb F.L.length F.qc, .slice F.bb F.bn F.bn])).cell 0 rfl) .nil)
 ·refine (.cons ?eq28_7 .nil)
  ·rintro wc27 hH
   clear hH
   refine eff_gh (w2.drew) (by kernel_rfl) ?_
   refine upon_call (f := 21) (vs := [I6 sr, I6 ↑F.L.length]) (cap := #[]) (d := (some 31)) (by kernel_rfl) Try.call21 #[I6 sr, I6 ↑F.L.length] (by kernel_rfl) (Round_x (k := sr) (N := F.L.length) (by omega) hkk) ?_
   rintro _ wc27 ⟨rfl, hEc27⟩
   exact ⟨_, rfl, ⟨wc27, by kernel_rfl, by kernel_rfl, by kernel_rfl, ⟨hEc27, trivial⟩⟩⟩
 rintro wc27 a w29 hS hw30 hH
 obtain ⟨hEc27, _⟩ := hH
 replace hw30 : w29 = wc27 := hw30.trans (by kernel_rfl)
 have hB31 := Blk.at' hw30 ((hB9.drew : Blk w2.drew F.t 46 (#[.slice F.pb F.L.length F.pc, .slice F.qb F.L.length F.qc, .slice F.bb F.bn F.bn])).ext hEc27 (by simp))
 have hB32 := OwnV.at' hw30 ((hB10.drew : OwnV w2.drew 24 1 (.slice F.pb F.L.length F.pc) F.L.length (F.L.map En.bp)).ext hEc27 (by simp))
 have hB33 := OwnV.at' hw30 ((hB11.drew : OwnV w2.drew 52 1 (.slice F.qb F.L.length F.qc) F.L.length (F.L.map En.cp)).ext hEc27 (by simp))
 have hB34 := Blk.at' hw30 ((hB12.drew : Blk w2.drew ee.c 56 (#[ee.v])).ext hEc27 (by simp))
 have hB35 := Blk.at' hw30 ((hB13.drew : Blk w2.drew ff.c 56 (#[ff.v])).ext hEc27 (by simp))
 have hB36 := Blk.at' hw30 ((hB19.drew : Blk w2.drew w.heap.size 49 (#[I6 sk, I6 sr, I6 sa, I6 sb, v])).ext hEc27 (by simp))
 have hE37 : Ext [] w w29 := by rw [hw30]; exact (hE21.drew).trans0 hEc27
 have hX38 : Ext [] w2 w29 := by rw [hw30]; exact ((Ext.refl _ _).drew).trans0 hEc27
 have hG39 : TB w0 w29 F := hG15.ext0 hX38
 have hG40 : RdV w29 1 v n (bv xs) := hG16.ext0 hX38
 have hG41 : RdV w29 1 ee.v ((obs ee.o).length) (bv (obs ee.o)) := hG17.ext0 hX38
 have hG42 : RdV w29 1 ff.v ((obs ff.o).length) (bv (obs ff.o)) := hG18.ext0 hX38
 replace hS := hS.kp [(0, (Pv F.t)), (1, .agg #[I6 sk, I6 sr, I6 sa, I6 sb, v]), (3, (Pv w.heap.size)), (4, .bool false), (14, .bool false), (23, .bool false), (5, I6 ↑kk)]
 refine hK26 _ _ ?_
 refine sq fun K43 hK43 => ?_
 refine sq fun K44 hK44 => ?_
 refine rgn 2 ?_
 refine sg wide_wide [.p, .ld (I6 sk)] [w29.cell? ⟨w.heap.size, 0, none⟩ = some (I6 sk)] [(0, (Pv F.t)), (1, .agg #[I6 sk, I6 sr, I6 sa, I6 sb, v]), (3, (Pv w.heap.size)), (4, .bool false), (14, .bool false), (23, .bool false), (5, I6 ↑kk), (33, I6 sk)] 2 0 hS (.cons (hB36.cell 0 rfl) .nil) fun a hS => ?_
 refine seg_end ?_
 refine hK44 _ _ ?_
 refine wpIn_block ?_
 refine sq fun K45 hK45 => ?_
 refine rgn 2 ?_
 refine sg wide_wide [.as (.bool false), .p] [Value.bool (((sk : Int) == 5)) = .bool false] [(0, (Pv F.t)), (1, .agg #[I6 sk, I6 sr, I6 sa, I6 sb, v]), (3, (Pv w.heap.size)), (4, .bool false), (14, .bool false), (23, .bool false), (5, I6 ↑kk), (33, I6 sk), (34, .bool false)] 2 0 hS (.cons (as_eq_f (by omega)) .nil) fun a hS => ?_
 refine seg_end ?_
 refine hK45 _ _ ?_
 refine cond_f hS rfl ?_
 refine sq fun K46 hK46 => ?_
 refine rgn 2 ?_
 refine sg wide_wide [.as (.bool true), .p] [Value.bool (((sk : Int) == 6)) = .bool true] [(0, (Pv F.t)), (1, .agg #[I6 sk, I6 sr, I6 sa, I6 sb, v]), (3, (Pv w.heap.size)), (4, .bool false), (14, .bool false), (23, .bool false), (5, I6 ↑kk), (33, I6 sk), (34, .bool false), (55, .bool true)] 2 0 hS (.cons (as_eq_t (by omega)) .nil) fun a hS => ?_
 refine seg_end ?_
 refine hK46 _ _ ?_
 refine cond_t hS rfl ?_
 refine sq fun K47 hK47 => ?_
 refine region_gh2 (G := World) wide_wide [.q .p, .q (.ld (I6 sa)), .q .p, .q .p, .q .p, .q (.ld (.slice F.pb F.L.length F.pc)), .q .p, .e, .q .p] [0, 0, 0, 0, 0, 0, 0, 0, 1] [0, 0, 0, 0, 0, 0, 0, 0, 1] [0, 1, 0, 4, 12, 28, 60, 127, 255] [7] [(7, 0)] 1 (fun wc48 => ([(0, (Pv F.t)), (1, .agg #[I6 sk, I6 sr, I6 sa, I6 sb, v]), (3, (Pv w.heap.size)), (4, .bool false), (14, .bool false), (23, .bool false), (5, I6 ↑kk), (33, I6 sk), (34, .bool false), (55, .bool true), (57, (Po w.heap.size 2)), (58, I6 sa), (59, (Pv F.t)), (60, (Pv F.t)), (61, (Pv F.t)), (62, .slice F.pb F.L.length F.pc), (63, I6 ↑F.L.length), (64, I6 ↑mm), (6, I6 ↑mm)] : Fm)) (fun wc48 => [w29.drew, wc48]) (w29.drew) (fun e wc48 => hAt [True, (Ext [] w29.drew wc48) ∧ True] e) (fun wc48 w' => [(1, [w'.cell? ⟨w.heap.size, 2, none⟩ = some (I6 sa)]), (5, [w'.cell? ⟨F.t, 0, none⟩ = some (.slice F.pb F.L.length F.pc)])]) w29.drew [0, 1, 3, 4, 14, 23, 5, 33, 34, 55] [] hS (by kernel_rfl) (by kernel_rfl) (by kernel_rfl) (by kernel_rfl) (fun wc48 _ => by kernel_rfl) (by kernel_rfl) (by kernel_rfl) (by kernel_rfl) trivial ?_ (by kernel_rfl) ?_ ?_
 ·rintro e wc48 w' hw hH
  refine (.cons ?_ (.cons ?_ .nil))
  ·intro h1 h2
   obtain rfl : e = 0 := Nat.le_antisymm h2 h1
   have hwe : w29.drew = w' := (hw.trans (by kernel_rfl)).symm
   subst hwe
   clear hH
   exact (.cons ((hB36.drew : Blk w29.drew w.heap.size 49 (#[I6 sk, I6 sr, I6 sa, I6 sb, v])).cell 2 rfl) .nil)
  ·intro h1 h2
   obtain rfl : e = 0 := Nat.le_antisymm h2 h1
   have hwe : w29.drew = w' := (hw.trans (by kernel_rfl)).symm
   subst hwe
   clear hH
   exact (.cons ((hB31.drew : Blk w29.drew F.t 46 (#[.slice F.pb F.L.length F.pc, .slice F.qb F.L.length F.qc, .slice F.bb F.bn F.bn])).cell 0 rfl) .nil)
 ·refine (.cons ?eq49_7 .nil)
  ·rintro wc48 hH
   clear hH
   refine eff_gh (w29.drew) (by kernel_rfl) ?_
   refine upon_call (f := 21) (vs := [I6 sa, I6 ↑F.L.length]) (cap := #[]) (d := (some 64)) (by kernel_rfl) Try.call21 #[I6 sa, I6 ↑F.L.length] (by kernel_rfl) (Round_x (k := sa) (N := F.L.length) (by omega) hmm) ?_
   rintro _ wc48 ⟨rfl, hEc48⟩
   exact ⟨_, rfl, ⟨wc48, by kernel_rfl, by kernel_rfl, by kernel_rfl, ⟨hEc48, trivial⟩⟩⟩
 rintro wc48 a w50 hS hw51 hH
 obtain ⟨hEc48, _⟩ := hH
 replace hw51 : w50 = wc48 := hw51.trans (by kernel_rfl)
 have hB52 := Blk.at' hw51 ((hB31.drew : Blk w29.drew F.t 46 (#[.slice F.pb F.L.length F.pc, .slice F.qb F.L.length F.qc, .slice F.bb F.bn F.bn])).ext hEc48 (by simp))
 have hB53 := OwnV.at' hw51 ((hB32.drew : OwnV w29.drew 24 1 (.slice F.pb F.L.length F.pc) F.L.length (F.L.map En.bp)).ext hEc48 (by simp))
 have hB54 := OwnV.at' hw51 ((hB33.drew : OwnV w29.drew 52 1 (.slice F.qb F.L.length F.qc) F.L.length (F.L.map En.cp)).ext hEc48 (by simp))
 have hB55 := Blk.at' hw51 ((hB34.drew : Blk w29.drew ee.c 56 (#[ee.v])).ext hEc48 (by simp))
 have hB56 := Blk.at' hw51 ((hB35.drew : Blk w29.drew ff.c 56 (#[ff.v])).ext hEc48 (by simp))
 have hE58 : Ext [] w w50 := by rw [hw51]; exact (hE37.drew).trans0 hEc48
 have hX59 : Ext [] w29 w50 := by rw [hw51]; exact ((Ext.refl _ _).drew).trans0 hEc48
 have hG60 : TB w0 w50 F := hG39.ext0 hX59
 have hG61 : RdV w50 1 v n (bv xs) := hG40.ext0 hX59
 have hG62 : RdV w50 1 ee.v ((obs ee.o).length) (bv (obs ee.o)) := hG41.ext0 hX59
 have hG63 : RdV w50 1 ff.v ((obs ff.o).length) (bv (obs ff.o)) := hG42.ext0 hX59
 replace hS := hS.kp [(0, (Pv F.t)), (1, .agg #[I6 sk, I6 sr, I6 sa, I6 sb, v]), (3, (Pv w.heap.size)), (4, .bool false), (14, .bool false), (23, .bool false), (5, I6 ↑kk), (33, I6 sk), (34, .bool false), (55, .bool true), (6, I6 ↑mm)]
 refine hK47 _ _ ?_
 refine sq fun K64 hK64 => ?_
 refine region_gh2 (G := World × World) wide_wide [.q .p, .q .p, .q .p, .q (.ld (.slice F.pb F.L.length F.pc)), .q .p, .q (.run ((Po (bof (.slice F.pb F.L.length F.pc)) (0 + kk * 1)))), .q (.ld ((Pv ee.b))), .q .p, .q .p, .q .p, .q (.ld (.slice F.pb F.L.length F.pc)), .q .p, .q (.run ((Po (bof (.slice F.pb F.L.length F.pc)) (0 + mm * 1)))), .q (.ld ((Pv ff.b))), .e, .q .p, .q .p, .q .p, .q (.ld (.slice F.qb F.L.length F.qc)), .q .p, .q (.run ((Po (bof (.slice F.qb F.L.length F.qc)) (0 + kk * 1)))), .q (.ld ((Pv ee.c))), .q .p, .q .p, .q (.ld (ee.v)), .q .p, .q .p, .q .p, .q (.ld (.slice F.qb F.L.length F.qc)), .q .p, .q (.run ((Po (bof (.slice F.qb F.L.length F.qc)) (0 + mm * 1)))), .q (.ld ((Pv ff.c))), .q .p, .q .p, .q (.ld (ff.v)), .e, .q (.as (.bool true)), .q .p] [0, 0, 0, 0, 0, 0, 0, 0, 0, 0, 0, 0, 0, 0, 0, 0, 0, 0, 0, 0, 0, 0, 0, 0, 0, 0, 0, 0, 0, 0, 0, 0, 0, 0, 0, 1, 2, 2] [0, 0, 0, 0, 0, 0, 0, 0, 0, 0, 0, 0, 0, 0, 0, 1, 1, 1, 1, 1, 1, 1, 1, 1, 1, 1, 1, 1, 1, 1, 1, 1, 1, 1, 1, 1, 2, 2] [0, 1, 3, 7, 0, 31, 63, 0, 128, 384, 896, 0, 3968, 8064, 16383, 0, 32768, 98304, 229376, 0, 1015808, 2064384, 4161536, 8355840, 16744448, 0, 33554432, 100663296, 234881024, 0, 1040187392, 2113929216, 4261412864, 8556380160, 17146314752, 34359738367, 68719476735, 137438953471] [14, 35] [(14, 0), (35, 1)] 2 (fun ⟨wc65, wc66⟩ => ([(0, (Pv F.t)), (1, .agg #[I6 sk, I6 sr, I6 sa, I6 sb, v]), (3, (Pv w.heap.size)), (14, .bool false), (23, .bool false), (5, I6 ↑kk), (33, I6 sk), (34, .bool false), (55, .bool true), (6, I6 ↑mm), (4, .bool true), (65, (Pv F.t)), (66, (Pv F.t)), (67, (Pv F.t)), (68, .slice F.pb F.L.length F.pc), (69, I6 ↑kk), (70, (Po (bof (.slice F.pb F.L.length F.pc)) (0 + kk * 1))), (71, (Pv ee.b)), (72, (Pv F.t)), (73, (Pv F.t)), (74, (Pv F.t)), (75, .slice F.pb F.L.length F.pc), (76, I6 ↑mm), (77, (Po (bof (.slice F.pb F.L.length F.pc)) (0 + mm * 1))), (78, (Pv ff.b)), (79, .bool (decide (obs ee.o = obs ff.o))), (80, (Pv F.t)), (81, (Pv F.t)), (82, (Po F.t 1)), (83, .slice F.qb F.L.length F.qc), (84, I6 ↑kk), (85, (Po (bof (.slice F.qb F.L.length F.qc)) (0 + kk * 1))), (86, (Pv ee.c)), (87, (Pv ee.c)), (88, (Pv ee.c)), (89, ee.v), (90, (Pv F.t)), (91, (Pv F.t)), (92, (Po F.t 1)), (93, .slice F.qb F.L.length F.qc), (94, I6 ↑mm), (95, (Po (bof (.slice F.qb F.L.length F.qc)) (0 + mm * 1))), (96, (Pv ff.c)), (97, (Pv ff.c)), (98, (Pv ff.c)), (99, ff.v), (100, .bool (decide (obs ee.o = obs ff.o))), (101, .bool true)] : Fm)) (fun ⟨wc65, wc66⟩ => [w50.drew, wc65, wc66]) (w50.drew) (fun e ⟨wc65, wc66⟩ => hAt [True, (Ext [] w50.drew wc65) ∧ True, (Ext [] w50.drew wc65) ∧ (Ext [] wc65 wc66) ∧ True] e) (fun ⟨wc65, wc66⟩ w' => [(3, [w'.cell? ⟨F.t, 0, none⟩ = some (.slice F.pb F.L.length F.pc)]), (5, [Ru Try.prog (vS (Instr.indexAt 43 (.slice F.pb F.L.length F.pc) (I6 ↑kk))) ((Po (bof (.slice F.pb F.L.length F.pc)) (0 + kk * 1))) w']), (6, [w'.cell? ⟨bof (.slice F.pb F.L.length F.pc), 0 + kk * 1, none⟩ = some ((Pv ee.b))]), (10, [w'.cell? ⟨F.t, 0, none⟩ = some (.slice F.pb F.L.length F.pc)]), (12, [Ru Try.prog (vS (Instr.indexAt 43 (.slice F.pb F.L.length F.pc) (I6 ↑mm))) ((Po (bof (.slice F.pb F.L.length F.pc)) (0 + mm * 1))) w']), (13, [w'.cell? ⟨bof (.slice F.pb F.L.length F.pc), 0 + mm * 1, none⟩ = some ((Pv ff.b))]), (18, [w'.cell? ⟨F.t, 1, none⟩ = some (.slice F.qb F.L.length F.qc)]), (20, [Ru Try.prog (vS (Instr.indexAt 44 (.slice F.qb F.L.length F.qc) (I6 ↑kk))) ((Po (bof (.slice F.qb F.L.length F.qc)) (0 + kk * 1))) w']), (21, [w'.cell? ⟨bof (.slice F.qb F.L.length F.qc), 0 + kk * 1, none⟩ = some ((Pv ee.c))]), (24, [w'.cell? ⟨ee.c, 0, none⟩ = some (ee.v)]), (28, [w'.cell? ⟨F.t, 1, none⟩ = some (.slice F.qb F.L.length F.qc)]), (30, [Ru Try.prog (vS (Instr.indexAt 44 (.slice F.qb F.L.length F.qc) (I6 ↑mm))) ((Po (bof (.slice F.qb F.L.length F.qc)) (0 + mm * 1))) w']), (31, [w'.cell? ⟨bof (.slice F.qb F.L.length F.qc), 0 + mm * 1, none⟩ = some ((Pv ff.c))]), (34, [w'.cell? ⟨ff.c, 0, none⟩ = some (ff.v)]), (36, [Value.bool (((decide (obs ee.o = obs ff.o)) == (decide (obs ee.o = obs ff.o)))) = .bool true])]) (w50.drew, w) [0, 1, 3, 14, 23, 5, 33, 34, 55, 6] [] hS (by kernel_rfl) (by kernel_rfl) (by kernel_rfl) (by kernel_rfl) (fun ⟨wc65, wc66⟩ _ => by kernel_rfl) (by kernel_rfl) (by kernel_rfl) (by kernel_rfl) trivial ?_ (by kernel_rfl) ?_ ?_
 ·rintro e ⟨wc65, wc66⟩ w' hw hH
  refine (.cons ?_ (.cons ?_ (.cons ?_ (.cons ?_ (.cons ?_ (.cons ?_ (.cons ?_ (.cons ?_ (.cons ?_ (.cons ?_ (.cons ?_ (.cons ?_ (.cons ?_ (.cons ?_ (.cons ?_ .nil)))))))))))))))
  ·intro h1 h2
   obtain rfl : e = 0 := Nat.le_antisymm h2 h1
   have hwe : w50.drew = w' := (hw.trans (by kernel_rfl)).symm
   subst hwe
   clear hH
   exact (.cons ((hB52.drew : Blk w50.drew F.t 46 (#[.slice F.pb F.L.length F.pc, .slice F.qb F.L.length F.qc, .slice F.bb F.bn F.bn])).cell 0 rfl) .nil)
  ·intro h1 h2
   obtain rfl : e = 0 := Nat.le_antisymm h2 h1
   have hwe : w50.drew = w' := (hw.trans (by kernel_rfl)).symm
   subst hwe
   clear hH
   exact (.cons (ix_own (j := kk) (hB53) (by kernel_rfl) (by kernel_rfl) rfl hkkl) .nil)
  ·intro h1 h2
   obtain rfl : e = 0 := Nat.le_antisymm h2 h1
   have hwe : w50.drew = w' := (hw.trans (by kernel_rfl)).symm
   subst hwe
   clear hH
   exact (.cons ((hB53.drew : OwnV w50.drew 24 1 (.slice F.pb F.L.length F.pc) F.L.length (F.L.map En.bp)).cellAt _ (by simp [hee, En.bp])) .nil)
  ·intro h1 h2
   obtain rfl : e = 0 := Nat.le_antisymm h2 h1
   have hwe : w50.drew = w' := (hw.trans (by kernel_rfl)).symm
   subst hwe
   clear hH
   exact (.cons ((hB52.drew : Blk w50.drew F.t 46 (#[.slice F.pb F.L.length F.pc, .slice F.qb F.L.length F.qc, .slice F.bb F.bn F.bn])).cell 0 rfl) .nil)
  ·intro h1 h2
   obtain rfl : e = 0 := Nat.le_antisymm h2 h1
   have hwe : w50.drew = w' := (hw.trans (by kernel_rfl)).symm
   subst hwe
   clear hH
   exact (.cons (ix_own (j := mm) (hB53) (by kernel_rfl) (by kernel_rfl) rfl hmml) .nil)
  ·intro h1 h2
   obtain rfl : e = 0 := Nat.le_antisymm h2 h1
   have hwe : w50.drew = w' := (hw.trans (by kernel_rfl)).symm
   subst hwe
   clear hH
   exact (.cons ((hB53.drew : OwnV w50.drew 24 1 (.slice F.pb F.L.length F.pc) F.L.length (F.L.map En.bp)).cellAt _ (by simp [hff, En.bp])) .nil)
  ·intro h1 h2
   replace h1 : 0 ≤ e := h1
   replace h2 : e ≤ 1 := h2
   have he : e = 0 ∨ e = 1 := by omega
   rcases he with rfl | rfl
   ·have hwe : w50.drew = w' := (hw.trans (by kernel_rfl)).symm
    subst hwe
    clear hH
    exact (.cons ((hB52.drew : Blk w50.drew F.t 46 (#[.slice F.pb F.L.length F.pc, .slice F.qb F.L.length F.qc, .slice F.bb F.bn F.bn])).cell 1 rfl) .nil)
   ·have hwe : wc65 = w' := (hw.trans (by kernel_rfl)).symm
    subst hwe
    obtain ⟨hEc65, _⟩ := hH
    exact (.cons (((hB52.drew : Blk w50.drew F.t 46 (#[.slice F.pb F.L.length F.pc, .slice F.qb F.L.length F.qc, .slice F.bb F.bn F.bn])).ext hEc65 (by simp) : Blk wc65 F.t 46 (#[.slice F.pb F.L.length F.pc, .slice F.qb F.L.length F.qc, .slice F.bb F.bn F.bn])).cell 1 rfl) .nil)
  ·intro h1 h2
   replace h1 : 0 ≤ e := h1
   replace h2 : e ≤ 1 := h2
   have he : e = 0 ∨ e = 1 := by omega
   rcases he with rfl | rfl
   ·have hwe : w50.drew = w' := (hw.trans (by kernel_rfl)).symm
    subst hwe
    clear hH
    exact (.cons (ix_own (j := kk) (hB54) (by kernel_rfl) (by kernel_rfl) rfl hkkl) .nil)
   ·have hwe : wc65 = w' := (hw.trans (by kernel_rfl)).symm
    subst hwe
    obtain ⟨hEc65, _⟩ := hH
    exact (.cons (ix_own (j := kk) (hB54) (by kernel_rfl) (by kernel_rfl) rfl hkkl) .nil)
  ·intro h1 h2
   replace h1 : 0 ≤ e := h1
   replace h2 : e ≤ 1 := h2
   have he : e = 0 ∨ e = 1 := by omega
   rcases he with rfl | rfl
   ·have hwe : w50.drew = w' := (hw.trans (by kernel_rfl)).symm
    subst hwe
    clear hH
    exact (.cons ((hB54.drew : OwnV w50.drew 52 1 (.slice F.qb F.L.length F.qc) F.L.length (F.L.map En.cp)).cellAt _ (by simp [hee, En.cp])) .nil)
   ·have hwe : wc65 = w' := (hw.trans (by kernel_rfl)).symm
    subst hwe
    obtain ⟨hEc65, _⟩ := hH
    exact (.cons (((hB54.drew : OwnV w50.drew 52 1 (.slice F.qb F.L.length F.qc) F.L.length (F.L.map En.cp)).ext hEc65 (by simp) : OwnV wc65 52 1 (.slice F.qb F.L.length F.qc) F.L.length (F.L.map En.cp)).cellAt _ (by simp [hee, En.cp])) .nil)
  ·intro h1 h2
   replace h1 : 0 ≤ e := h1
   replace h2 : e ≤ 1 := h2
   have he : e = 0 ∨ e = 1 := by omega
   rcases he with rfl | rfl
   ·have hwe : w50.drew = w' := (hw.trans (by kernel_rfl)).symm
    subst hwe
    clear hH
    exact (.cons ((hB55.drew : Blk w50.drew ee.c 56 (#[ee.v])).cell 0 rfl) .nil)
   ·have hwe : wc65 = w' := (hw.trans (by kernel_rfl)).symm
    subst hwe
    obtain ⟨hEc65, _⟩ := hH
    exact (.cons (((hB55.drew : Blk w50.drew ee.c 56 (#[ee.v])).ext hEc65 (by simp) : Blk wc65 ee.c 56 (#[ee.v])).cell 0 rfl) .nil)
  ·intro h1 h2
   replace h1 : 0 ≤ e := h1
   replace h2 : e ≤ 1 := h2
   have he : e = 0 ∨ e = 1 := by omega
   rcases he with rfl | rfl
   ·have hwe : w50.drew = w' := (hw.trans (by kernel_rfl)).symm
    subst hwe
    clear hH
    exact (.cons ((hB52.drew : Blk w50.drew F.t 46 (#[.slice F.pb F.L.length F.pc, .slice F.qb F.L.length F.qc, .slice F.bb F.bn F.bn])).cell 1 rfl) .nil)
   ·have hwe : wc65 = w' := (hw.trans (by kernel_rfl)).symm
    subst hwe
    obtain ⟨hEc65, _⟩ := hH
    exact (.cons (((hB52.drew : Blk w50.drew F.t 46 (#[.slice F.pb F.L.length F.pc, .slice F.qb F.L.length F.qc, .slice F.bb F.bn F.bn])).ext hEc65 (by simp) : Blk wc65 F.t 46 (#[.slice F.pb F.L.length F.pc, .slice F.qb F.L.length F.qc, .slice F.bb F.bn F.bn])).cell 1 rfl) .nil)
  ·intro h1 h2
   replace h1 : 0 ≤ e := h1
   replace h2 : e ≤ 1 := h2
   have he : e = 0 ∨ e = 1 := by omega
   rcases he with rfl | rfl
   ·have hwe : w50.drew = w' := (hw.trans (by kernel_rfl)).symm
    subst hwe
    clear hH
    exact (.cons (ix_own (j := mm) (hB54) (by kernel_rfl) (by kernel_rfl) rfl hmml) .nil)
   ·have hwe : wc65 = w' := (hw.trans (by kernel_rfl)).symm
    subst hwe
    obtain ⟨hEc65, _⟩ := hH
    exact (.cons (ix_own (j := mm) (hB54) (by kernel_rfl) (by kernel_rfl) rfl hmml) .nil)
  ·intro h1 h2
   replace h1 : 0 ≤ e := h1
   replace h2 : e ≤ 1 := h2
   have he : e = 0 ∨ e = 1 := by omega
   rcases he with rfl | rfl
   ·have hwe : w50.drew = w' := (hw.trans (by kernel_rfl)).symm
    subst hwe
    clear hH
    exact (.cons ((hB54.drew : OwnV w50.drew 52 1 (.slice F.qb F.L.length F.qc) F.L.length (F.L.map En.cp)).cellAt _ (by simp [hff, En.cp])) .nil)
   ·have hwe : wc65 = w' := (hw.trans (by kernel_rfl)).symm
    subst hwe
    obtain ⟨hEc65, _⟩ := hH
    exact (.cons (((hB54.drew : OwnV w50.drew 52 1 (.slice F.qb F.L.length F.qc) F.L.length (F.L.map En.cp)).ext hEc65 (by simp) : OwnV wc65 52 1 (.slice F.qb F.L.length F.qc) F.L.length (F.L.map En.cp)).cellAt _ (by simp [hff, En.cp])) .nil)
  ·intro h1 h2
   replace h1 : 0 ≤ e := h1
   replace h2 : e ≤ 1 := h2
   have he : e = 0 ∨ e = 1 := by omega
   rcases he with rfl | rfl
   ·have hwe : w50.drew = w' := (hw.trans (by kernel_rfl)).symm
    subst hwe
    clear hH
    exact (.cons ((hB56.drew : Blk w50.drew ff.c 56 (#[ff.v])).cell 0 rfl) .nil)
   ·have hwe : wc65 = w' := (hw.trans (by kernel_rfl)).symm
    subst hwe
    obtain ⟨hEc65, _⟩ := hH
    exact (.cons (((hB56.drew : Blk w50.drew ff.c 56 (#[ff.v])).ext hEc65 (by simp) : Blk wc65 ff.c 56 (#[ff.v])).cell 0 rfl) .nil)
  ·intro h1 h2
   obtain rfl : e = 2 := Nat.le_antisymm h2 h1
   have hwe : wc66 = w' := (hw.trans (by kernel_rfl)).symm
   subst hwe
   obtain ⟨hEc65, hEc66, _⟩ := hH
   exact (.cons ((by simp)) .nil)
 ·refine (.cons ?eq67_14 (.cons ?eq67_35 .nil))
  ·rintro ⟨wc65, wc66⟩ hH
   clear hH
   refine eff_gh (w50.drew) (by kernel_rfl) ?_
   refine upon_call (f := 33) (vs := [(Pv ee.b), (Pv ff.b)]) (cap := #[]) (d := (some 79)) (by kernel_rfl) Try.call33 #[(Pv ee.b), (Pv ff.b)] (by kernel_rfl) (Equal_Y ((hG60.ext0 ((Ext.refl [] _).drew)).i.p ee heem).two ((hG60.ext0 ((Ext.refl [] _).drew)).i.p ff hffm).two) ?_
   rintro _ wc65 ⟨rfl, hEc65⟩
   exact ⟨_, rfl, ⟨(wc65, wc66), by kernel_rfl, by kernel_rfl, by kernel_rfl, ⟨hEc65, trivial⟩⟩⟩
  ·rintro ⟨wc65, wc66⟩ hH
   obtain ⟨hEc65, _⟩ := hH
   refine eff_gh (wc65) (by kernel_rfl) ?_
   refine upon_call (f := 31) (vs := [ee.v, ff.v]) (cap := #[]) (d := (some 100)) (by kernel_rfl) Try.call31 #[ee.v, ff.v] (by kernel_rfl) (@SameB_any F.Z _ _ _ _ _ _ _ (((hG60.ext0 ((Ext.refl [] _).drew)).ext0 hEc65).i.q ee heem).2.1 (((hG60.ext0 ((Ext.refl [] _).drew)).ext0 hEc65).i.q ff hffm).2.1 (by have := hqee.2.2.2; omega)) ?_
   rintro _ wc66 ⟨rfl, hEc66⟩
   exact ⟨_, rfl, ⟨(wc65, wc66), by kernel_rfl, by kernel_rfl, by kernel_rfl, ⟨hEc65, hEc66, trivial⟩⟩⟩
 rintro ⟨wc65, wc66⟩ a w68 hS hw69 hH
 obtain ⟨hEc65, hEc66, _⟩ := hH
 replace hw69 : w68 = wc66 := hw69.trans (by kernel_rfl)
 have hE76 : Ext [] w w68 := by rw [hw69]; exact ((hE58.drew).trans0 hEc65).trans0 hEc66
 have hX77 : Ext [] w50 w68 := by rw [hw69]; exact (((Ext.refl _ _).drew).trans0 hEc65).trans0 hEc66
 have hG78 : TB w0 w68 F := hG60.ext0 hX77
 have hG79 : RdV w68 1 v n (bv xs) := hG61.ext0 hX77
 have hG80 : RdV w68 1 ee.v ((obs ee.o).length) (bv (obs ee.o)) := hG62.ext0 hX77
 have hG81 : RdV w68 1 ff.v ((obs ff.o).length) (bv (obs ff.o)) := hG63.ext0 hX77
 replace hS := hS.kp [(0, (Pv F.t)), (1, .agg #[I6 sk, I6 sr, I6 sa, I6 sb, v]), (3, (Pv w.heap.size)), (14, .bool false), (23, .bool false), (5, I6 ↑kk), (33, I6 sk), (34, .bool false), (55, .bool true), (6, I6 ↑mm), (4, .bool true)]
 refine hK64 _ _ ?_
 refine wpIn_ret ?_
 refine inBlock_ret ?_
 refine then_ret ?_
 refine ret1 hS Try.results24 rfl ?_
 exact ⟨rfl, F, (TS.refl hT.i).trans0 hE76⟩

theorem step_any {w0 w : World} {F : Ta} (hT : TB w0 w F) {sk sr sa sb : Int} {v : Value} {n : Nat} {xs : List Int} (hv0 : RdV w0 1 v n (bv xs)) (hB : BR xs) (hn : n ≤ 10000000000) (hsb : sb ≤ 9223372036854775807) : Calls Try.prog 24 #[Pv F.t, .agg #[I6 sk, I6 sr, I6 sa, I6 sb, v]] w fun e w' => e = .returned (.bool true) ∧ ∃ F', TS w F w' F' := by
 by_cases h1 : 1 ≤ sk
 ·by_cases h4 : sk ≤ 4
  ·exact step_make hT hv0 hB hn hsb ⟨h1, h4⟩
  ·by_cases h0 : F.L.length = 0
   ·exact step_none_b hT hv0 hB hn hsb ⟨h1, h4⟩ h0
   ·by_cases h5 : sk = 5
    ·exact step_look hT hv0 hB hn hsb h5 h0
    ·by_cases h6 : sk = 6
     ·exact step_equal hT hv0 hB hn hsb h6 h0
     ·exact step_no_b hT hv0 hB hn hsb ⟨h1, h4⟩ h0 h5 h6
 ·by_cases h0 : F.L.length = 0
  ·exact step_none_a hT hv0 hB hn hsb h1 h0
  ·exact step_no_a hT hv0 hB hn hsb h1 h0

end Go.Proofs.Ytkdbfjomjlhfbaa
