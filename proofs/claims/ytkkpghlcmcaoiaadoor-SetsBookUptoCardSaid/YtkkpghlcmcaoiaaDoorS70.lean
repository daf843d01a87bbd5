import Derived.Test.YtkkpghlcmcaoiaaDoorSt
import Derived.Test.YtkkpghlcmcaoiaaDoorVw
import Derived.Test.YtkkpghlcmcaoiaaDoorVd
namespace Go.Proofs.YtkkpghlcmcaoiaaDoor
open Go.Vc Go.Gm
theorem bin_shrN {P : Program} {w : World} {T : TypeId} {p q : Operand} {i t : Nat} (ht : t ≤ 64) :
  (vS (do eqGuard .shr T p q (I6 (i : Int)) (I6 (t : Int)); binOp .shr T (I6 (i : Int)) (I6 (t : Int)))).run P w = .ok (.value (I6 ((i / 2 ^ t : Nat) : Int))) w := by
 refine vS_run ?_
 have h := shift_shr_i64 .i64 (x := (i : Int)) (y := (t : Int)) (by omega) (by omega)
 have e : (i : Int) / 2 ^ (t : Int).toNat = ((i / 2 ^ t : Nat) : Int) := by
  rw [Int.toNat_natCast]
  simp
 rw [e] at h
 show (Op.shift .shr .i64 (i : Int) .i64 (t : Int)).run P w = _
 rw [h]
 rfl
theorem bin_andN {P : Program} {w : World} {T : TypeId} {p q : Operand} {i : Nat} :
  (vS (do eqGuard .and T p q (I6 (i : Int)) (I6 1); binOp .and T (I6 (i : Int)) (I6 1))).run P w = .ok (.value (I6 ((i % 2 : Nat) : Int))) w := by
 have h := bin_and1 (P := P) (w := w) (T := T) (a := p) (b := q) (x := (i : Int))
 rw [show (i : Int) % 2 = ((i % 2 : Nat) : Int) by omega] at h
 exact h
def fI (i q : Nat) : List Value := [I6 (100000 * (i : Int) + (q : Int))]
def tI (i q : Nat) : List Value := [I6 (-1 - 100 * (i : Int) - (q : Int))]
def fB (i q : Nat) : List Value := [.bool (((i / 2 ^ (q % 3) % 2 : Nat) : Int) == 1)]
def tB (i q : Nat) : List Value := [.bool (((i / 2 ^ (q % 3) % 2 : Nat) : Int) == 0)]
set_option maxHeartbeats 2000000 in
theorem GrownInts_any {w : World} {vb : Option Addr} {vc : Nat} {L : List Rw} (hF : Fam w 3 1 (fun b => b ∈ bl L ∨ w.heap.size ≤ b) L) (ha : OwnV w 51 1 (.slice vb L.length vc) L.length (L.map Rw.v)) (hm : L.length ≤ 4000000000) (hn : ∀ x ∈ L, x.n ≤ 1000000000) :
  Calls Tryd.prog 42 #[.slice vb L.length vc] w fun e w' => e = .returned (.bool true) ∧ Ext (bl L) w w' := by
 have hval := ha.lie
 have hEw0 : Ext (bl L) w w := Ext.refl _ _
 refine cbd 125 [(0, .slice vb L.length vc)] Tryd.func42 rfl fun a hS => ?_
 refine sq fun K1 hK1 => rgn 1 <| sg ww [.p] [] [(0, .slice vb L.length vc), (2, .bool false)] 1 0 hS .nil fun a hS => sge hK1 <| sq fun K2 hK2 => sdq 1 [.p] [] [(3, I6 0)] [] hS .nil fun a hS => wpIn_block ?_
 refine loop_ghost (fun ((i, K) : Nat × List Rw) a' w' => St 125 [] [(0, .slice vb L.length vc), (3, I6 i)] a' ∧ i ≤ L.length ∧ K.map Rw.v = L.map Rw.v ∧ K.map Rw.n = L.map Rw.n ∧ Fam w' 3 1 (fun b => b ∈ bl L ∨ w.heap.size ≤ b) K ∧ Mk 1 fI K i 0 ∧ OwnV w' 51 1 (.slice vb L.length vc) L.length (L.map Rw.v) ∧ Ext (bl L) w w' ∧ w.heap.size ≤ w'.heap.size) (fun ((i, K) : Nat × List Rw) => L.length - i) (0, L) ⟨hS.keepTo [0, 3] (by kernel_rfl), Nat.zero_le _, rfl, rfl, hF, Mk.start, ha, hEw0, Nat.le_refl _⟩ ?_
 rintro ⟨i, K⟩ a w1 ⟨hS, hil, hKv, hKn, hF1, hM1, ha1, hEx, hsz1⟩
 refine sq fun K4 hK4 => sdq 4 [.p, .p, .p, .p] [] [(16, .bool (decide ((↑i : Int) < ↑L.length)))] [] hS .nil fun a hS => ?_
 refine cond_b hS rfl (fun hb6 => ?_) (fun hb6 => ?_)
 ·
  replace hb6 := of_decide_eq_true hb6
  have hi : i < L.length := by omega
  obtain ⟨nI, hnI⟩ : ∃ q, (L.map Rw.n)[i]? = some q := ⟨_, List.getElem?_eq_getElem (by simpa using hi)⟩
  have hnI9 : nI ≤ 1000000000 := by
   obtain ⟨y, hy, rfl⟩ := List.mem_map.1 (List.mem_of_getElem? hnI)
   exact hn y hy
  refine wpIn_skip <| hK4 _ _ <| sq fun K7 hK7 => wpIn_block <| sdq 1 [.p] [] [(4, I6 0)] [] hS .nil fun a hS => wpIn_block ?_
  refine loop_ghost (fun ((j, K) : Nat × List Rw) a' w' => St 125 [] [(0, .slice vb L.length vc), (3, I6 i), (4, I6 j)] a' ∧ j ≤ nI ∧ K.map Rw.v = L.map Rw.v ∧ K.map Rw.n = L.map Rw.n ∧ Fam w' 3 1 (fun b => b ∈ bl L ∨ w.heap.size ≤ b) K ∧ Mk 1 fI K i j ∧ OwnV w' 51 1 (.slice vb L.length vc) L.length (L.map Rw.v) ∧ Ext (bl L) w w' ∧ w.heap.size ≤ w'.heap.size) (fun ((j, K) : Nat × List Rw) => nI - j) (0, K) ⟨hS.keepTo [0, 3, 4] (by kernel_rfl), Nat.zero_le _, hKv, hKn, hF1, hM1, ha1, hEx, hsz1⟩ ?_
  rintro ⟨j, K⟩ a w2 ⟨hS, hjn, hKv, hKn, hF2, hM2, ha2, hEy, hsz2⟩
  obtain ⟨x, hx⟩ : ∃ x, K[i]? = some x := ⟨_, List.getElem?_eq_getElem (by have := congrArg List.length hKv; simp at this; omega)⟩
  have hxn : x.n = nI := by have h := map_at hKn hx; rw [hnI] at h; exact (Option.some.inj h).symm
  have hxo := hF2.own i x hx
  have hxv0 : (L.map Rw.v)[i]? = some x.v := map_at hKv hx
  refine sq fun K9 hK9 => sdq 7 [.p, .p, .p, .run ((Po (bof (.slice vb L.length vc)) (0 + i * 1))), .ld (x.v), .run (I6 x.n), .p] [Rv (Instr.indexAt 37 (.slice vb L.length vc) (I6 i)) ((Po (bof (.slice vb L.length vc)) (0 + i * 1))) w2, w2.cell? ⟨bof (.slice vb L.length vc), 0 + i * 1, none⟩ = some (x.v), Rv (Builtin.len_ #[51] 3 #[x.v]) (I6 x.n) w2] [(25, .bool (decide ((↑j : Int) < ↑x.n)))] [] hS (.c (ix_own (j := i) (ha2) (by kernel_rfl) (by kernel_rfl) rfl (by omega)) (.c ((ha2).cellAt _ (by rw [Nat.zero_add, Nat.mul_one]; exact hxv0)) (.c (run_len_own hxo (by kernel_rfl)) .nil))) fun a hS => ?_
  refine cond_b hS rfl (fun hb11 => ?_) (fun hb11 => ?_)
  ·
   replace hb11 := of_decide_eq_true hb11
   obtain ⟨g, cap, hxv, hg⟩ := hxo.some_of_pos (by omega)
   have hgn := hF2.new i x hx g (by rw [hxv]; simp [ob])
   have hgX : Ext [g] w2 w2 := Ext.refl _ _
   have hxv1 : (L.map Rw.v)[i]? = some (Sl g x.n cap) := by have h := hxv0; rw [hxv] at h; exact h
   refine wpIn_skip <| hK9 _ _ <| sq fun K12 hK12 => wpIn_block <| rgn 11 <| sd ww [.p, .p, .run ((Po (bof (.slice vb L.length vc)) (0 + i * 1))), .ld (Sl g x.n cap), .p, .p, .as (I6 (100000 * ↑i)), .p, .as (I6 ((100000 * ↑i) + ↑j)), .run ((Po g (0 + j * 1)))] [Rv (Instr.indexAt 37 (.slice vb L.length vc) (I6 i)) ((Po (bof (.slice vb L.length vc)) (0 + i * 1))) w2, w2.cell? ⟨bof (.slice vb L.length vc), 0 + i * 1, none⟩ = some (Sl g x.n cap), Value.int .i64 (IntKind.i64.wrap (100000 * ↑i)) = I6 (100000 * ↑i), Value.int .i64 (IntKind.i64.wrap ((100000 * ↑i) + ↑j)) = I6 ((100000 * ↑i) + ↑j), Rv (Instr.indexAt 51 (Sl g x.n cap) (I6 j)) ((Po g (0 + j * 1))) w2] [(36, I6 ((100000 * ↑i) + ↑j)), (37, (Po g (0 + j * 1)))] [] 10 1 hS (.c (ix_own (j := i) (ha2) (by kernel_rfl) (by kernel_rfl) rfl (by omega)) (.c ((ha2).cellAt _ (by rw [Nat.zero_add, Nat.mul_one]; exact hxv1)) (.c (as_i64 (by omega)) (.c (as_i64 (by omega)) (.c (ixs 3 1 j) .nil))))) fun a hS => eff_store_own ww (r := 0) (b := g) (off := 0 + j * 1) (u := Value.int .i64 ((100000 * ↑i) + ↑j)) (xs := x.xs) hS (by kernel_rfl) hg (by omega) fun a ws13 hOs13 hEs13 hsz13 hS => ?_
   have hB14 := ha2.ext hEs13 (fun x hx hm => by simp at hm; exact (OwnV.neR ha2 hg (by decide)) x hx hm.symm)
   have hE15 : Ext (bl L) w ws13 := hEy.trans hEs13 (fun b hb => by simp at hb; subst hb; exact hgn)
   have hG16 : Ext [g] w2 ws13 := hgX.trans hEs13 (fun b hb => .inl (by first | exact hb | cases hb))
   refine seg_end <| inBlock_normal <| hK12 _ _ <| rgn 3 <| sd ww [.p, .as (I6 (↑j + 1)), .p] [_] [(4, I6 (↑j + 1))] [] 3 0 hS (as6 (↑j + 1)) fun a hS => seg_end ?_
   have hFs := hF2.set1 hx hxv hOs13 hG16
   have hMs := hM2.step hx (ys := (x.xs.set (0 + j * 1) (Value.int .i64 ((100000 * ↑i) + ↑j)))) (set1_mk hxo.len (by omega) rfl)
   have hsz9 := Nat.le_trans hsz2 (hG16).size
   exact ⟨(j + 1, K.set i ⟨x.v, x.n, (x.xs.set (0 + j * 1) (Value.int .i64 ((100000 * ↑i) + ↑j)))⟩), ⟨hS.kp [(0, .slice vb L.length vc), (3, I6 i), (4, I6 (↑j + 1))], by omega, (set_keep (y := ⟨x.v, x.n, (x.xs.set (0 + j * 1) (Value.int .i64 ((100000 * ↑i) + ↑j)))⟩) hx rfl).trans hKv, (set_keep (y := ⟨x.v, x.n, (x.xs.set (0 + j * 1) (Value.int .i64 ((100000 * ↑i) + ↑j)))⟩) hx rfl).trans hKn, hFs, hMs, hB14, hE15, hsz9⟩, by simp only; omega⟩
  ·
   replace hb11 := of_decide_eq_false hb11
   refine xt2 <| inBlock_normal <| hK7 _ _ <| rgn 3 <| sd ww [.p, .as (I6 (↑i + 1)), .p] [_] [(3, I6 (↑i + 1))] [] 3 0 hS (as6 (↑i + 1)) fun a hS => seg_end ?_
   exact ⟨(i + 1, K), ⟨hS.kp [(0, .slice vb L.length vc), (3, I6 (↑i + 1))], by omega, hKv, hKn, hF2, Mk.next hM2 hx (by omega), ha2, hEy, hsz2⟩, by simp only; omega⟩
 ·
  replace hb6 := of_decide_eq_false hb6
  obtain rfl : i = L.length := by omega
  have hKl : K.length = L.length := by have := congrArg List.length hKv; simpa using this
  have hG0 : Mg 1 70 fI tI (K.map Gw.of) 0 0 := Mk.two (by rw [hKl]; exact hM1)
  have hF20 := hF1.two
  have hGv0 : (K.map Gw.of).map Gw.v0 = L.map Rw.v := by rw [List.map_map]; exact hKv
  have hGn0 : ∀ x ∈ K.map Gw.of, x.n0 ≤ 1000000000 := fun x hx => by
   obtain ⟨y, hy, rfl⟩ := List.mem_map.1 hx
   exact map_all (f := Rw.n) (p := fun q => q ≤ 1000000000) hKn hn y hy
  have hGe0 : ∀ (k : Nat) (x : Gw), (K.map Gw.of)[k]? = some x → 0 ≤ k → x.v = x.v0 := fun k x hx _ => by
   obtain ⟨y, hy, rfl⟩ := map_of hx; rfl
  refine xt2 <| hK2 _ _ <| sq fun K17 hK17 => rgn 1 <| sg ww [.p] [] [(0, .slice vb L.length vc), (5, .slice none 0 0)] 1 0 hS .nil fun a hS => sge hK17 <| sq fun K18 hK18 => sdq 1 [.p] [] [(6, I6 0)] [] hS .nil fun a hS => wpIn_block ?_
  refine loop_ghost (fun ((i, G, bm, cm) : Nat × List Gw × Option Addr × Nat) a' w' => St 125 [] [(0, .slice vb L.length vc), (5, .slice bm i cm), (6, I6 i)] a' ∧ i ≤ L.length ∧ G.map Gw.v0 = L.map Rw.v ∧ Fam2 w' 3 1 (fun b => b ∈ bl L ∨ w.heap.size ≤ b) G ∧ (∀ x ∈ G, x.n0 ≤ 1000000000) ∧ Mg 1 70 fI tI G i 0 ∧ (∀ (k : Nat) (x : Gw), G[k]? = some x → i ≤ k → x.v = x.v0) ∧ OwnV w' 51 1 (.slice bm i cm) i ((G.take i).map Gw.v) ∧ (∀ b ∈ ob (.slice bm i cm), w.heap.size ≤ b) ∧ OwnV w' 51 1 (.slice vb L.length vc) L.length (L.map Rw.v) ∧ Ext (bl L) w w' ∧ w.heap.size ≤ w'.heap.size) (fun ((i, G, bm, cm) : Nat × List Gw × Option Addr × Nat) => L.length - i) (0, K.map Gw.of, none, 0) ⟨hS.keepTo [0, 5, 6] (by kernel_rfl), Nat.zero_le _, hGv0, hF20, hGn0, hG0, hGe0, OwnV.nil _ _ _, (by simp [ob]), ha1, hEx, hsz1⟩ ?_
  rintro ⟨i, G, bm, cm⟩ a w3 ⟨hS, hil, hGv, hF3, hGn, hM3, hGe, hbm, hbmn, ha3, hEx, hsz3⟩
  have hv0w : ∀ (k : Nat) (y : Gw), G[k]? = some y → ∀ b ∈ ob y.v0, b < w.heap.size := fun k y hy b hb => by
   have h1 := map_at hGv hy
   rw [List.getElem?_map] at h1
   cases hL : L[k]? with
   | none => rw [hL] at h1; cases h1
   | some z =>
    rw [hL] at h1
    have h2 : z.v = y.v0 := Option.some.inj h1
    exact hF.lie hL b (by rw [h2]; exact hb)
  have hGl : G.length = L.length := by have := congrArg List.length hGv; simpa using this
  refine sq fun K20 hK20 => sdq 4 [.p, .p, .p, .p] [] [(41, .bool (decide ((↑i : Int) < ↑L.length)))] [] hS .nil fun a hS => ?_
  refine cond_b hS rfl (fun hb22 => ?_) (fun hb22 => ?_)
  ·
   replace hb22 := of_decide_eq_true hb22
   obtain ⟨x, hx⟩ : ∃ x, G[i]? = some x := gE
   have hxo := hF3.own i x hx
   have hxe := hGe i x hx (Nat.le_refl _)
   obtain ⟨gb, gc, hgv⟩ := hxo.form
   have hxn0 := hM3.n i x hx
   rw [show cnt 70 i 0 i = 0 by unfold cnt; rw [if_neg (Nat.lt_irrefl _), if_pos rfl], Nat.add_zero] at hxn0
   have hxb := hGn x (List.mem_of_getElem? hx)
   obtain ⟨nI, hnI⟩ : ∃ q, x.n0 = q := ⟨_, rfl⟩
   rw [hxn0, hnI] at hgv
   rw [hnI] at hxb
   have hxv1 : (L.map Rw.v)[i]? = some (.slice gb nI gc) := by rw [map_at hGv hx, ← hxe, hgv]
   refine wpIn_skip <| hK20 _ _ <| sq fun K23 hK23 => wpIn_block <| sdq 5 [.p, .p, .run ((Po (bof (.slice vb L.length vc)) (0 + i * 1))), .ld (.slice gb nI gc), .p] [Rv (Instr.indexAt 37 (.slice vb L.length vc) (I6 i)) ((Po (bof (.slice vb L.length vc)) (0 + i * 1))) w3, w3.cell? ⟨bof (.slice vb L.length vc), 0 + i * 1, none⟩ = some (.slice gb nI gc)] [(7, .slice gb nI gc)] [] hS (.c (ix_own (j := i) (ha3) (by kernel_rfl) (by kernel_rfl) rfl (by omega)) (.c ((ha3).cellAt _ (by rw [Nat.zero_add, Nat.mul_one]; exact hxv1)) .nil)) fun a hS => sq fun K25 hK25 => sdq 1 [.p] [] [(8, I6 0)] [] hS .nil fun a hS => wpIn_block ?_
   obtain ⟨VL, hVL⟩ : ∃ l, (G.take i).map Gw.v = l := ⟨_, rfl⟩
   rw [hVL] at hbm
   refine loop_ghost (fun ((j, G, gb, gc) : Nat × List Gw × Option Addr × Nat) a' w' => St 125 [] [(0, .slice vb L.length vc), (5, .slice bm i cm), (6, I6 i), (7, .slice gb (nI + j) gc), (8, I6 j)] a' ∧ j ≤ 70 ∧ G.map Gw.v0 = L.map Rw.v ∧ Fam2 w' 3 1 (fun b => b ∈ bl L ∨ w.heap.size ≤ b) G ∧ (∀ x ∈ G, x.n0 ≤ 1000000000) ∧ Mg 1 70 fI tI G i j ∧ (∀ (k : Nat) (x : Gw), G[k]? = some x → i < k → x.v = x.v0) ∧ (∃ x, G[i]? = some x ∧ x.v = .slice gb (nI + j) gc ∧ x.n0 = nI) ∧ (G.take i).map Gw.v = VL ∧ OwnV w' 51 1 (.slice bm i cm) i VL ∧ (∀ b ∈ ob (.slice bm i cm), w.heap.size ≤ b) ∧ OwnV w' 51 1 (.slice vb L.length vc) L.length (L.map Rw.v) ∧ Ext (bl L) w w' ∧ w.heap.size ≤ w'.heap.size) (fun ((j, G, gb, gc) : Nat × List Gw × Option Addr × Nat) => 70 - j) (0, G, gb, gc) ⟨hS.keepTo [0, 5, 6, 7, 8] (by kernel_rfl), Nat.zero_le _, hGv, hF3, hGn, hM3, (fun k y hy hk => hGe k y hy (by omega)), ⟨x, hx, hgv, hnI⟩, hVL, hbm, hbmn, ha3, hEx, hsz3⟩ ?_
   rintro ⟨j, G, gb, gc⟩ a w4 ⟨hS, hjT, hGv, hF4, hGn, hM4, hGe4, ⟨x, hx4, hxv4, hxn04⟩, hVL4, hbm4, hbmn, ha4, hEy, hsz4⟩
   have hv0w : ∀ (k : Nat) (y : Gw), G[k]? = some y → ∀ b ∈ ob y.v0, b < w.heap.size := fun k y hy b hb => by
    have h1 := map_at hGv hy
    rw [List.getElem?_map] at h1
    cases hL : L[k]? with
    | none => rw [hL] at h1; cases h1
    | some z =>
     rw [hL] at h1
     have h2 : z.v = y.v0 := Option.some.inj h1
     exact hF.lie hL b (by rw [h2]; exact hb)
   have hxn4 := hM4.n i x hx4
   rw [show cnt 70 i j i = j by unfold cnt; rw [if_neg (Nat.lt_irrefl _), if_pos rfl], hxn04] at hxn4
   have hb4 := hF4.new i x hx4
   refine sq fun K27 hK27 => sdq 2 [.p, .p] [] [(49, .bool (decide ((↑j : Int) < 70)))] [] hS .nil fun a hS => ?_
   refine cond_b hS rfl (fun hb29 => ?_) (fun hb29 => ?_)
   ·
    replace hb29 := of_decide_eq_true hb29
    refine wpIn_skip <| hK27 _ _ <| sq fun K30 hK30 => wpIn_block <| rgn 9 <| sd ww [.p, .p, .as (I6 (100 * ↑i)), .as (I6 ((-1) - (100 * ↑i))), .p, .as (I6 (((-1) - (100 * ↑i)) - ↑j))] [Value.int .i64 (IntKind.i64.wrap (100 * ↑i)) = I6 (100 * ↑i), Value.int .i64 (IntKind.i64.wrap ((-1) - (100 * ↑i))) = I6 ((-1) - (100 * ↑i)), Value.int .i64 (IntKind.i64.wrap (((-1) - (100 * ↑i)) - ↑j)) = I6 (((-1) - (100 * ↑i)) - ↑j)] [(52, .slice gb (nI + j) gc), (57, I6 (((-1) - (100 * ↑i)) - ↑j))] [] 6 3 hS (.c (as_i64 (by omega)) (.c (as_i64 (by omega)) (.c (as_i64 (by omega)) .nil))) fun a hS => eff_new ww (r := 2) (cs := #[I6 (((-1) - (100 * ↑i)) - ↑j)]) (T := 3) (v := Value.slice (some ⟨w4.heap.size, 0, none⟩) 1 1) (d := (some 58)) hS (by kernel_rfl) fun a w31 hw32 hS => ?_
    have hB35 := OwnV.at' hw32 (ha4.alloc _)
    have hB36 := OwnV.at' hw32 (hbm4.alloc _)
    have hX37 : Ext [] w4 w31 := by rw [hw32]; exact (Ext.refl _ _).alloc _
    have hG38 : Fam2 w31 3 1 (fun b => b ∈ bl L ∨ w.heap.size ≤ b) G := hF4.ext0 hX37
    have hG39 : w.heap.size ≤ w31.heap.size := Nat.le_trans hsz4 (hX37).size
    have hB40 := Blk.nw hw32
    have hs41 := hEy.size
    have hE42 : Ext (bl L) w w31 := by rw [hw32]; exact hEy.alloc _
    have hOw43 := (by have h := (hG38).own i x hx4; rw [hxv4, hxn4] at h; exact h : OwnV w31 3 1 (.slice gb (nI + j) gc) (nI + j) x.xs)
    refine eff_append_rd ww (r := 1) (d := (some 59)) (t := 51) (ty := 51) (e := 3) (size := 1) (bytes := 8) (len := (nI + j)) (k := 1) (z := #[I6 0]) (v := (.slice gb (nI + j) gc)) (u := Value.slice (some ⟨w4.heap.size, 0, none⟩) 1 1) (xs := x.xs) (news := [I6 (((-1) - (100 * ↑i)) - ↑j)]) hS (by kernel_rfl) (by kernel_rfl) (by kernel_rfl) (by kernel_rfl) hOw43 (RdV.of_blk (n := 1) hB40 rfl) rfl (by omega) (by omega) fun bs43 cp43 a wA43 hA43 hS => ?_
    have hFA43 := (hG38).app hx4 (by rw [hxv4, hxn4]; exact hA43) (fun b hb => .inr (Nat.le_trans hG39 hb))
    have hMA43 := hM4.step hx4 (v := .slice bs43 (x.n + 1) cp43) (hF4.own i x hx4).len (news := [I6 (((-1) - (100 * ↑i)) - ↑j)]) (one_mk rfl)
    have hszA43 := Nat.le_trans hG39 hA43.ext.size
    have hvaA43 := (hB35).ext hA43.ext ((hB35).disj hOw43 (by decide))
    have hbmA43 := (hB36).ext hA43.ext ((hB36).disj hOw43 (by decide))
    have hEA43 := hE42.trans hA43.ext (fun b hb => (hb4 b (List.mem_append_right _ (by rw [hxv4]; exact hb))).1)
    refine sd ww [.p] [] [(7, .slice bs43 (nI + j + 1) cp43)] [] 9 0 hS .nil fun a hS => seg_end <| inBlock_normal <| hK30 _ _ <| rgn 3 <| sd ww [.p, .as (I6 (↑j + 1)), .p] [_] [(8, I6 (↑j + 1))] [] 3 0 hS (as6 (↑j + 1)) fun a hS => seg_end ?_
    have hln43 : nI + j + 1 = nI + (j + 1) := by omega
    rw [hln43] at hS
    exact ⟨(j + 1, G.set i ⟨x.v0, x.n0, x.xs0, .slice bs43 (x.n + 1) cp43, x.n + 1, x.xs ++ [I6 (((-1) - (100 * ↑i)) - ↑j)]⟩, bs43, cp43), ⟨hS.kp [(0, .slice vb L.length vc), (5, .slice bm i cm), (6, I6 i), (7, .slice bs43 (nI + (j + 1)) cp43), (8, I6 (↑j + 1))], by omega, (set_keep (y := ⟨x.v0, x.n0, x.xs0, .slice bs43 (x.n + 1) cp43, x.n + 1, x.xs ++ [I6 (((-1) - (100 * ↑i)) - ↑j)]⟩) hx4 rfl).trans hGv, hFA43, (by
     intro y hy
     rcases List.mem_or_eq_of_mem_set hy with hy | rfl
     ·exact hGn y hy
     ·exact hGn x (List.mem_of_getElem? hx4)), hMA43, (by
     intro k y hy hk
     rcases get_set hx4 hy with ⟨h, _⟩ | ⟨_, hy⟩
     ·omega
     ·exact hGe4 k y hy hk), ⟨_, List.getElem?_set_self (List.getElem?_eq_some_iff.1 hx4).1, by simp only; rw [hxn4, hln43], hxn04⟩, take_set.trans hVL4, hbmA43, hbmn, hvaA43, hEA43, hszA43⟩, by simp only; omega⟩
   ·
    replace hb29 := of_decide_eq_false hb29
    obtain rfl : j = 70 := by omega
    refine xt2 <| hK25 _ _ <| rgn 5 <| sd ww [.p, .p] [] [(60, .slice bm i cm), (61, .slice gb (nI + 70) gc)] [] 2 3 hS .nil fun a hS => eff_new ww (r := 2) (cs := #[.slice gb (nI + 70) gc]) (T := 51) (v := Value.slice (some ⟨w4.heap.size, 0, none⟩) 1 1) (d := (some 62)) hS (by kernel_rfl) fun a w44 hw45 hS => ?_
    have hB48 := OwnV.at' hw45 (ha4.alloc _)
    have hB49 := OwnV.at' hw45 (hbm4.alloc _)
    have hX50 : Ext [] w4 w44 := by rw [hw45]; exact (Ext.refl _ _).alloc _
    have hG51 : Fam2 w44 3 1 (fun b => b ∈ bl L ∨ w.heap.size ≤ b) G := hF4.ext0 hX50
    have hG52 : w.heap.size ≤ w44.heap.size := Nat.le_trans hsz4 (hX50).size
    have hB53 := Blk.nw hw45
    have hs54 := hEy.size
    have hE55 : Ext (bl L) w w44 := by rw [hw45]; exact hEy.alloc _
    skip
    refine eff_append2 ww (r := 1) (d := (some 63)) (t := 37) (ty := 37) (e := 51) (size := 1) (bytes := 24) (len := i) (b := w4.heap.size) (off := 0) (k := 1) (c := 1) (z := #[.slice none 0 0]) (v := Value.slice bm i cm) (xs := VL) [.slice gb (nI + 70) gc] hS (by kernel_rfl) (by kernel_rfl) (by kernel_rfl) (by kernel_rfl) (by kernel_rfl) hB49 (by simp) (fun j u hu => by rw [Nat.zero_add]; exact hB53.cell j (by simpa using hu)) rfl (by omega) (by omega) (by omega) fun ga56 ca56 a wa56 hOa56 hEa56 hFa56 hS => ?_
    have hB57 := hB48.ext hEa56 ((fun x hx hm => by have h5 := hval x hx; have h6 := hbmn x hm; omega))
    have hE59 : Ext (bl L) w wa56 := hE55.trans hEa56 (fun b hb => .inr (hbmn b hb))
    have hG60 : Fam2 wa56 3 1 (fun b => b ∈ bl L ∨ w.heap.size ≤ b) G := hG51.ext hEa56 (fun k y hy b hb hm => (List.mem_append.1 hb).elim (fun h => by have h5 := hv0w k y hy b h; have h6 := hbmn b hm; omega) (fun h => (hG51.own k y hy).disj hB49 (by decide) b h hm))
    have hG61 : w.heap.size ≤ wa56.heap.size := Nat.le_trans hG52 (hEa56).size
    refine sd ww [.p] [] [(5, Sl ga56 (i + 1) ca56)] [] 5 0 hS .nil fun a hS => seg_end <| inBlock_normal <| hK23 _ _ <| rgn 3 <| sd ww [.p, .as (I6 (↑i + 1)), .p] [_] [(6, I6 (↑i + 1))] [] 3 0 hS (as6 (↑i + 1)) fun a hS => seg_end ?_
    have hbmN : OwnV wa56 51 1 (Sl ga56 (i + 1) ca56) (i + 1) ((G.take (i + 1)).map Gw.v) := by
     rw [take_snoc hx4, hxv4, hVL4]; exact hOa56.v
    exact ⟨(i + 1, G, (some ⟨ga56, 0, none⟩), ca56), ⟨hS.kp [(0, .slice vb L.length vc), (5, Sl ga56 (i + 1) ca56), (6, I6 (↑i + 1))], by omega, hGv, hG60, hGn, Mg.next hM4, fun k y hy hk => hGe4 k y hy (by omega), hbmN, (by
     intro b hb
     have hb : b = ga56 := by simpa [ob] using hb
     rw [hb]
     rcases hFa56 ga56 (by simp) with h | h
     ·exact hbmn _ h
     ·exact Nat.le_trans hG52 h), hB57, hE59, hG61⟩, by simp only; omega⟩
  ·
   replace hb22 := of_decide_eq_false hb22
   obtain rfl : i = L.length := by omega
   have hbm9 := hbm
   rw [List.take_of_length_le (by omega)] at hbm9
   refine xt2 <| hK18 _ _ <| sq fun K62 hK62 => sdq 1 [.p] [] [(9, I6 0)] [] hS .nil fun a hS => wpIn_block ?_
   have hFz := hF3
   have haz := ha3
   have hbz := hbm9
   have hEz := hEx
   have hEzz : Ext [] w3 w3 := Ext.refl _ _
   refine loop_ghost (fun (i : Nat) a' w' => St 125 [] [(0, .slice vb L.length vc), (5, .slice bm L.length cm), (9, I6 i)] a' ∧ i ≤ L.length ∧ Ext [] w3 w') (fun (i : Nat) => L.length - i) 0 ⟨hS.keepTo [0, 5, 9] (by kernel_rfl), Nat.zero_le _, hEzz⟩ ?_
   rintro i a w5 ⟨hS, hil, hE5⟩
   refine sq fun K64 hK64 => sdq 4 [.p, .p, .p, .p] [] [(67, .bool (decide ((↑i : Int) < ↑L.length)))] [] hS .nil fun a hS => ?_
   refine cond_b hS rfl (fun hb66 => ?_) (fun hb66 => ?_)
   ·
    replace hb66 := of_decide_eq_true hb66
    obtain ⟨x, hx⟩ : ∃ x, G[i]? = some x := gE
    have hxr := hFz.rd i x hx
    have hxo := hFz.own i x hx
    have hxs := hFz.sh i x hx
    have hxn := hM3.n i x hx
    rw [show cnt 70 L.length 0 i = 70 by unfold cnt; rw [if_pos (by omega)]] at hxn
    have hxb := hGn x (List.mem_of_getElem? hx)
    obtain ⟨nI, hnI⟩ : ∃ q, x.n0 = q := ⟨_, rfl⟩
    have hxm := hM3.m i
    have hxt := hM3.t i
    rw [hnI] at hxr hxn hxb
    have hv1 : (L.map Rw.v)[i]? = some x.v0 := map_at hGv hx
    have hv2 : (G.map Gw.v)[i]? = some x.v := by rw [List.getElem?_map, hx]; rfl
    have hmk : ∀ k r, k < nI → r < 1 → x.xs0[k * 1 + r]? = (fI i k)[r]? := fun k r hk hr => hM3.m i k r x hx (by omega) hr
    have hmx : ∀ k r, k < nI → r < 1 → x.xs[k * 1 + r]? = (fI i k)[r]? := fun k r hk hr => by
     have h := hmk k r hk hr
     rw [hxs.2.1, hnI, List.getElem?_take] at h
     have hb : k * 1 + r < nI * 1 := by
      have : (k + 1) * 1 ≤ nI * 1 := Nat.mul_le_mul_right _ (by omega)
      rw [Nat.add_mul, Nat.one_mul] at this; omega
     rw [if_pos hb] at h; exact h
    have hmt : ∀ k r, k < 70 → r < 1 → x.xs[(nI + k) * 1 + r]? = (tI i k)[r]? := fun k r hk hr => by
     have h := hM3.t i k r x hx (by unfold cnt; rw [if_pos (by omega)]; exact hk) hr
     rw [hnI] at h; exact h
    refine wpIn_skip <| hK64 _ _ <| sq fun K67 hK67 => wpIn_block <| sdq 6 [.p, .p, .run ((Po (bof (.slice vb L.length vc)) (0 + i * 1))), .ld (x.v0), .run (I6 nI), .p] [Rv (Instr.indexAt 37 (.slice vb L.length vc) (I6 i)) ((Po (bof (.slice vb L.length vc)) (0 + i * 1))) w5, w5.cell? ⟨bof (.slice vb L.length vc), 0 + i * 1, none⟩ = some (x.v0), Rv (Builtin.len_ #[51] 3 #[x.v0]) (I6 nI) w5] [(10, I6 nI)] [] hS (.c (ix_own (j := i) ((haz.ext0' hE5)) (by kernel_rfl) (by kernel_rfl) rfl (by omega)) (.c ((haz.ext0' hE5).cellAt _ (by rw [Nat.zero_add, Nat.mul_one]; exact hv1)) (.c (rlr 3 hxr) .nil))) fun a hS => sq fun K69 hK69 => sdq 1 [.p] [] [(11, I6 0)] [] hS .nil fun a hS => wpIn_block ?_
    have hE511 := hE5
    refine loop_ghost (fun (k : Nat) a' w' => St 125 [] [(0, .slice vb L.length vc), (5, .slice bm L.length cm), (9, I6 i), (10, I6 nI), (11, I6 k)] a' ∧ k ≤ nI ∧ Ext [] w3 w') (fun (k : Nat) => nI - k) 0 ⟨hS.keepTo [0, 5, 9, 10, 11] (by kernel_rfl), Nat.zero_le _, hE511⟩ ?_
    rintro k a w6 ⟨hS, hkl, hE6⟩
    refine sq fun K71 hK71 => sdq 3 [.p, .p, .p] [] [(77, .bool (decide ((↑k : Int) < ↑nI)))] [] hS .nil fun a hS => ?_
    refine cond_b hS rfl (fun hb73 => ?_) (fun hb73 => ?_)
    ·
     replace hb73 := of_decide_eq_true hb73
     refine wpIn_skip <| hK71 _ _ <| sq fun K74 hK74 => wpIn_block <| sdq 26 [.p, .p, .run ((Po (bof (.slice vb L.length vc)) (0 + i * 1))), .ld (x.v0), .p, .run ((Po (bof x.v0) (oof x.v0 + k * 1))), .ld (I6 ((100000 * ↑i) + ↑k)), .p, .as (I6 (100000 * ↑i)), .p, .as (I6 ((100000 * ↑i) + ↑k)), .as (.bool false), .p, .p, .p, .run ((Po (bof (.slice bm L.length cm)) (0 + i * 1))), .ld (x.v), .p, .run ((Po (bof x.v) (oof x.v + k * 1))), .ld (I6 ((100000 * ↑i) + ↑k)), .p, .as (I6 (100000 * ↑i)), .p, .as (I6 ((100000 * ↑i) + ↑k)), .as (.bool false), .p] [Rv (Instr.indexAt 37 (.slice vb L.length vc) (I6 i)) ((Po (bof (.slice vb L.length vc)) (0 + i * 1))) w6, w6.cell? ⟨bof (.slice vb L.length vc), 0 + i * 1, none⟩ = some (x.v0), Rv (Instr.indexAt 51 (x.v0) (I6 k)) ((Po (bof x.v0) (oof x.v0 + k * 1))) w6, w6.cell? ⟨bof x.v0, oof x.v0 + k * 1, none⟩ = some (I6 ((100000 * ↑i) + ↑k)), Value.int .i64 (IntKind.i64.wrap (100000 * ↑i)) = I6 (100000 * ↑i), Value.int .i64 (IntKind.i64.wrap ((100000 * ↑i) + ↑k)) = I6 ((100000 * ↑i) + ↑k), Value.bool ((((100000 * ↑i) + ↑k : Int) != ((100000 * ↑i) + ↑k))) = .bool false, Rv (Instr.indexAt 37 (.slice bm L.length cm) (I6 i)) ((Po (bof (.slice bm L.length cm)) (0 + i * 1))) w6, w6.cell? ⟨bof (.slice bm L.length cm), 0 + i * 1, none⟩ = some (x.v), Rv (Instr.indexAt 51 (x.v) (I6 k)) ((Po (bof x.v) (oof x.v + k * 1))) w6, w6.cell? ⟨bof x.v, oof x.v + k * 1, none⟩ = some (I6 ((100000 * ↑i) + ↑k)), Value.int .i64 (IntKind.i64.wrap (100000 * ↑i)) = I6 (100000 * ↑i), Value.int .i64 (IntKind.i64.wrap ((100000 * ↑i) + ↑k)) = I6 ((100000 * ↑i) + ↑k), Value.bool ((((100000 * ↑i) + ↑k : Int) != ((100000 * ↑i) + ↑k))) = .bool false] [(105, .bool false)] [] hS (.c (ix_own (j := i) ((haz.ext0' hE6)) (by kernel_rfl) (by kernel_rfl) rfl (by omega)) (.c ((haz.ext0' hE6).cellAt _ (by rw [Nat.zero_add, Nat.mul_one]; exact hv1)) (.c (ixr 3 k hxr) (.c ((hxr.ext0 hE6).cellAt (k * 1 + 0) (by omega) ((hmk k 0 (by omega) (by decide)).trans rfl)) (.c (as_i64 (by omega)) (.c (as_i64 (by omega)) (.c (as_ne_f (rfl)) (.c (ix_own (j := i) ((hbz.ext0' hE6)) (by kernel_rfl) (by kernel_rfl) rfl (by omega)) (.c ((hbz.ext0' hE6).cellAt _ (by rw [Nat.zero_add, Nat.mul_one]; exact hv2)) (.c (ixr 3 k hxo.rd) (.c ((hxo.rd.ext0 hE6).cellAt (k * 1 + 0) (by omega) ((hmx k 0 (by omega) (by decide)).trans rfl)) (.c (as_i64 (by omega)) (.c (as_i64 (by omega)) (.c (as_ne_f (rfl)) .nil)))))))))))))) fun a hS => ?_
     refine cond_f hS rfl ?_
     refine wpIn_skip <| inBlock_normal <| hK74 _ _ <| rgn 3 <| sd ww [.p, .as (I6 (↑k + 1)), .p] [_] [(11, I6 (↑k + 1))] [] 3 0 hS (as6 (↑k + 1)) fun a hS => seg_end ?_
     exact ⟨k + 1, ⟨hS.kp [(0, .slice vb L.length vc), (5, .slice bm L.length cm), (9, I6 i), (10, I6 nI), (11, I6 (↑k + 1))], by omega, hE6⟩, by omega⟩
    ·
     replace hb73 := of_decide_eq_false hb73
     refine xt2 <| hK69 _ _ <| sdq 1 [.p] [] [(12, I6 0)] [] hS .nil fun a hS => wpIn_block ?_
     have hE512 := hE6
     refine loop_ghost (fun (k : Nat) a' w' => St 125 [] [(0, .slice vb L.length vc), (5, .slice bm L.length cm), (9, I6 i), (10, I6 nI), (12, I6 k)] a' ∧ k ≤ 70 ∧ Ext [] w3 w') (fun (k : Nat) => 70 - k) 0 ⟨hS.keepTo [0, 5, 9, 10, 12] (by kernel_rfl), Nat.zero_le _, hE512⟩ ?_
     rintro k a w6 ⟨hS, hkl, hE6⟩
     refine sq fun K77 hK77 => sdq 2 [.p, .p] [] [(107, .bool (decide ((↑k : Int) < 70)))] [] hS .nil fun a hS => ?_
     refine cond_b hS rfl (fun hb79 => ?_) (fun hb79 => ?_)
     ·
      replace hb79 := of_decide_eq_true hb79
      refine wpIn_skip <| hK77 _ _ <| sq fun K80 hK80 => wpIn_block <| sdq 15 [.p, .p, .run ((Po (bof (.slice bm L.length cm)) (0 + i * 1))), .ld (x.v), .p, .p, .as (I6 ((nI + k : Nat) : Int)), .run ((Po (bof x.v) (oof x.v + (nI + k) * 1))), .ld (I6 (((-1) - (100 * ↑i)) - ↑k)), .p, .as (I6 (100 * ↑i)), .as (I6 ((-1) - (100 * ↑i))), .p, .as (I6 (((-1) - (100 * ↑i)) - ↑k)), .as (.bool false)] [Rv (Instr.indexAt 37 (.slice bm L.length cm) (I6 i)) ((Po (bof (.slice bm L.length cm)) (0 + i * 1))) w6, w6.cell? ⟨bof (.slice bm L.length cm), 0 + i * 1, none⟩ = some (x.v), Value.int .i64 (IntKind.i64.wrap (↑nI + ↑k)) = I6 ((nI + k : Nat) : Int), Rv (Instr.indexAt 51 (x.v) (I6 ((nI + k : Nat) : Int))) ((Po (bof x.v) (oof x.v + (nI + k) * 1))) w6, w6.cell? ⟨bof x.v, oof x.v + (nI + k) * 1, none⟩ = some (I6 (((-1) - (100 * ↑i)) - ↑k)), Value.int .i64 (IntKind.i64.wrap (100 * ↑i)) = I6 (100 * ↑i), Value.int .i64 (IntKind.i64.wrap ((-1) - (100 * ↑i))) = I6 ((-1) - (100 * ↑i)), Value.int .i64 (IntKind.i64.wrap (((-1) - (100 * ↑i)) - ↑k)) = I6 (((-1) - (100 * ↑i)) - ↑k), Value.bool (((((-1) - (100 * ↑i)) - ↑k : Int) != (((-1) - (100 * ↑i)) - ↑k))) = .bool false] [(124, .bool false)] [] hS (.c (ix_own (j := i) ((hbz.ext0' hE6)) (by kernel_rfl) (by kernel_rfl) rfl (by omega)) (.c ((hbz.ext0' hE6).cellAt _ (by rw [Nat.zero_add, Nat.mul_one]; exact hv2)) (.c ((by rw [show (↑nI + ↑k : Int) = ((nI + k : Nat) : Int) from by omega]; exact as_i64 (by omega))) (.c (ixr 3 (nI + k) hxo.rd) (.c ((hxo.rd.ext0 hE6).cellAt ((nI + k) * 1 + 0) (by omega) ((hmt k 0 (by omega) (by decide)).trans rfl)) (.c (as_i64 (by omega)) (.c (as_i64 (by omega)) (.c (as_i64 (by omega)) (.c (as_ne_f (rfl)) .nil))))))))) fun a hS => ?_
      refine cond_f hS rfl ?_
      refine wpIn_skip <| inBlock_normal <| hK80 _ _ <| rgn 3 <| sd ww [.p, .as (I6 (↑k + 1)), .p] [_] [(12, I6 (↑k + 1))] [] 3 0 hS (as6 (↑k + 1)) fun a hS => seg_end ?_
      exact ⟨k + 1, ⟨hS.kp [(0, .slice vb L.length vc), (5, .slice bm L.length cm), (9, I6 i), (10, I6 nI), (12, I6 (↑k + 1))], by omega, hE6⟩, by omega⟩
     ·
      replace hb79 := of_decide_eq_false hb79
      refine xt2 <| inBlock_normal <| hK67 _ _ <| rgn 3 <| sd ww [.p, .as (I6 (↑i + 1)), .p] [_] [(9, I6 (↑i + 1))] [] 3 0 hS (as6 (↑i + 1)) fun a hS => seg_end ?_
      exact ⟨i + 1, ⟨hS.kp [(0, .slice vb L.length vc), (5, .slice bm L.length cm), (9, I6 (↑i + 1))], by omega, hE6⟩, by omega⟩
   ·
    replace hb66 := of_decide_eq_false hb66
    refine xt2 <| hK62 _ _ <| sdq 1 [.p] [] [(2, .bool true)] [] hS .nil fun a hS => wpIn_ret ?_
    refine ret1 hS Tryd.results42 rfl ?_
    exact ⟨rfl, hEz.trans0 hE5⟩
set_option maxHeartbeats 2000000 in
theorem GrownBools_any {w : World} {vb : Option Addr} {vc : Nat} {L : List Rw} (hF : Fam w 4 1 (fun b => b ∈ bl L ∨ w.heap.size ≤ b) L) (ha : OwnV w 31 1 (.slice vb L.length vc) L.length (L.map Rw.v)) (hm : L.length ≤ 4000000000) (hn : ∀ x ∈ L, x.n ≤ 1000000000) :
  Calls Tryd.prog 44 #[.slice vb L.length vc] w fun e w' => e = .returned (.bool true) ∧ Ext (bl L) w w' := by
 have hval := ha.lie
 have hEw0 : Ext (bl L) w w := Ext.refl _ _
 refine cbd 134 [(0, .slice vb L.length vc)] Tryd.func44 rfl fun a hS => ?_
 refine sq fun K1 hK1 => rgn 1 <| sg ww [.p] [] [(0, .slice vb L.length vc), (2, .bool false)] 1 0 hS .nil fun a hS => sge hK1 <| sq fun K2 hK2 => sdq 1 [.p] [] [(3, I6 0)] [] hS .nil fun a hS => wpIn_block ?_
 refine loop_ghost (fun ((i, K) : Nat × List Rw) a' w' => St 134 [] [(0, .slice vb L.length vc), (3, I6 i)] a' ∧ i ≤ L.length ∧ K.map Rw.v = L.map Rw.v ∧ K.map Rw.n = L.map Rw.n ∧ Fam w' 4 1 (fun b => b ∈ bl L ∨ w.heap.size ≤ b) K ∧ Mk 1 fB K i 0 ∧ OwnV w' 31 1 (.slice vb L.length vc) L.length (L.map Rw.v) ∧ Ext (bl L) w w' ∧ w.heap.size ≤ w'.heap.size) (fun ((i, K) : Nat × List Rw) => L.length - i) (0, L) ⟨hS.keepTo [0, 3] (by kernel_rfl), Nat.zero_le _, rfl, rfl, hF, Mk.start, ha, hEw0, Nat.le_refl _⟩ ?_
 rintro ⟨i, K⟩ a w1 ⟨hS, hil, hKv, hKn, hF1, hM1, ha1, hEx, hsz1⟩
 refine sq fun K4 hK4 => sdq 4 [.p, .p, .p, .p] [] [(16, .bool (decide ((↑i : Int) < ↑L.length)))] [] hS .nil fun a hS => ?_
 refine cond_b hS rfl (fun hb6 => ?_) (fun hb6 => ?_)
 ·
  replace hb6 := of_decide_eq_true hb6
  have hi : i < L.length := by omega
  obtain ⟨nI, hnI⟩ : ∃ q, (L.map Rw.n)[i]? = some q := ⟨_, List.getElem?_eq_getElem (by simpa using hi)⟩
  have hnI9 : nI ≤ 1000000000 := by
   obtain ⟨y, hy, rfl⟩ := List.mem_map.1 (List.mem_of_getElem? hnI)
   exact hn y hy
  refine wpIn_skip <| hK4 _ _ <| sq fun K7 hK7 => wpIn_block <| sdq 1 [.p] [] [(4, I6 0)] [] hS .nil fun a hS => wpIn_block ?_
  refine loop_ghost (fun ((j, K) : Nat × List Rw) a' w' => St 134 [] [(0, .slice vb L.length vc), (3, I6 i), (4, I6 j)] a' ∧ j ≤ nI ∧ K.map Rw.v = L.map Rw.v ∧ K.map Rw.n = L.map Rw.n ∧ Fam w' 4 1 (fun b => b ∈ bl L ∨ w.heap.size ≤ b) K ∧ Mk 1 fB K i j ∧ OwnV w' 31 1 (.slice vb L.length vc) L.length (L.map Rw.v) ∧ Ext (bl L) w w' ∧ w.heap.size ≤ w'.heap.size) (fun ((j, K) : Nat × List Rw) => nI - j) (0, K) ⟨hS.keepTo [0, 3, 4] (by kernel_rfl), Nat.zero_le _, hKv, hKn, hF1, hM1, ha1, hEx, hsz1⟩ ?_
  rintro ⟨j, K⟩ a w2 ⟨hS, hjn, hKv, hKn, hF2, hM2, ha2, hEy, hsz2⟩
  obtain ⟨x, hx⟩ : ∃ x, K[i]? = some x := ⟨_, List.getElem?_eq_getElem (by have := congrArg List.length hKv; simp at this; omega)⟩
  have hxn : x.n = nI := by have h := map_at hKn hx; rw [hnI] at h; exact (Option.some.inj h).symm
  have hxo := hF2.own i x hx
  have hxv0 : (L.map Rw.v)[i]? = some x.v := map_at hKv hx
  refine sq fun K9 hK9 => sdq 7 [.p, .p, .p, .run ((Po (bof (.slice vb L.length vc)) (0 + i * 1))), .ld (x.v), .run (I6 x.n), .p] [Rv (Instr.indexAt 91 (.slice vb L.length vc) (I6 i)) ((Po (bof (.slice vb L.length vc)) (0 + i * 1))) w2, w2.cell? ⟨bof (.slice vb L.length vc), 0 + i * 1, none⟩ = some (x.v), Rv (Builtin.len_ #[31] 3 #[x.v]) (I6 x.n) w2] [(25, .bool (decide ((↑j : Int) < ↑x.n)))] [] hS (.c (ix_own (j := i) (ha2) (by kernel_rfl) (by kernel_rfl) rfl (by omega)) (.c ((ha2).cellAt _ (by rw [Nat.zero_add, Nat.mul_one]; exact hxv0)) (.c (run_len_own hxo (by kernel_rfl)) .nil))) fun a hS => ?_
  refine cond_b hS rfl (fun hb11 => ?_) (fun hb11 => ?_)
  ·
   replace hb11 := of_decide_eq_true hb11
   obtain ⟨g, cap, hxv, hg⟩ := hxo.some_of_pos (by omega)
   have hgn := hF2.new i x hx g (by rw [hxv]; simp [ob])
   have hgX : Ext [g] w2 w2 := Ext.refl _ _
   have hxv1 : (L.map Rw.v)[i]? = some (Sl g x.n cap) := by have h := hxv0; rw [hxv] at h; exact h
   refine wpIn_skip <| hK9 _ _ <| sq fun K12 hK12 => wpIn_block ?_
   refine gh3 (G := World) [.q .p, .q .p, .q (.run ((Po (bof (.slice vb L.length vc)) (0 + i * 1)))), .q (.ld (Sl g x.n cap)), .q .p, .q .p, .q .p, .q (.run (I6 ((j % 3 : Nat) : Int))), .q (.run (I6 ((i / 2 ^ (j % 3) : Nat) : Int))), .q (.run (I6 ((i / 2 ^ (j % 3) % 2 : Nat) : Int))), .q .p, .q (.run ((Po g (0 + j * 1)))), .e] [0, 0, 0, 0, 0, 0, 0, 0, 0, 0, 0, 0, 0] [0, 0, 0, 0, 0, 0, 0, 0, 0, 0, 0, 0, 0] [0, 0, 3, 7, 0, 0, 0, 64, 224, 480, 992, 2047, 4095] [12] [(12, 0)] 1 (fun ws13 => ([(0, .slice vb L.length vc), (3, I6 i), (4, I6 j), (28, .slice vb L.length vc), (29, I6 i), (30, (Po (bof (.slice vb L.length vc)) (0 + i * 1))), (31, Sl g x.n cap), (32, I6 j), (33, I6 i), (34, I6 j), (35, I6 ((j % 3 : Nat) : Int)), (36, I6 ((i / 2 ^ (j % 3) : Nat) : Int)), (37, I6 ((i / 2 ^ (j % 3) % 2 : Nat) : Int)), (38, .bool ((((i / 2 ^ (j % 3) % 2 : Nat) : Int) : Int) == 1)), (39, (Po g (0 + j * 1)))] : Fm)) (fun ws13 => [w2.drew, ws13]) (w2.drew) (fun e ws13 => hAt [True, (OwnR ws13 4 1 g cap x.n (x.xs.set (0 + j * 1) (Value.bool ((((i / 2 ^ (j % 3) % 2 : Nat) : Int) : Int) == 1)))) ∧ (Ext [g] w2.drew ws13) ∧ True] e) (fun ws13 w' => [(2, [Rv (Instr.indexAt 91 (.slice vb L.length vc) (I6 i)) ((Po (bof (.slice vb L.length vc)) (0 + i * 1))) w']), (3, [w'.cell? ⟨bof (.slice vb L.length vc), 0 + i * 1, none⟩ = some (Sl g x.n cap)]), (7, [Rv (do eqGuard .rem 3 (.tmp 34) (.const (I6 3)) (I6 j) (I6 3); binOp .rem 3 (I6 j) (I6 3)) (I6 ((j % 3 : Nat) : Int)) w']), (8, [Rv (do eqGuard .shr 3 (.tmp 33) (.tmp 35) (I6 i) (I6 ((j % 3 : Nat) : Int)); binOp .shr 3 (I6 i) (I6 ((j % 3 : Nat) : Int))) (I6 ((i / 2 ^ (j % 3) : Nat) : Int)) w']), (9, [Rv (do eqGuard .and 3 (.tmp 36) (.const (I6 1)) (I6 ((i / 2 ^ (j % 3) : Nat) : Int)) (I6 1); binOp .and 3 (I6 ((i / 2 ^ (j % 3) : Nat) : Int)) (I6 1)) (I6 ((i / 2 ^ (j % 3) % 2 : Nat) : Int)) w']), (11, [Rv (Instr.indexAt 31 (Sl g x.n cap) (I6 j)) ((Po g (0 + j * 1))) w'])]) w2.drew [0, 3, 4] [] hS (fun ws13 _ => by kernel_rfl) trivial ?_ ?_ ?_
   ·rintro e ws13 w' hw hH
    refine (.c ?_ (.c ?_ (.c ?_ (.c ?_ (.c ?_ (.c ?_ .nil))))))
    ·intro h1 h2
     obtain rfl := Nat.le_antisymm h2 h1
     have hwe : w2.drew = w' := hwz hw
     subst hwe
     clear hH
     exact (.c (ix_own (j := i) (ha2) (by kernel_rfl) (by kernel_rfl) rfl (by omega)) .nil)
    ·intro h1 h2
     obtain rfl := Nat.le_antisymm h2 h1
     have hwe : w2.drew = w' := hwz hw
     subst hwe
     clear hH
     exact (.c ((ha2.drew : OwnV w2.drew 31 1 (.slice vb L.length vc) L.length (L.map Rw.v)).cellAt _ (by rw [Nat.zero_add, Nat.mul_one]; exact hxv1)) .nil)
    ·intro h1 h2
     obtain rfl := Nat.le_antisymm h2 h1
     have hwe : w2.drew = w' := hwz hw
     subst hwe
     clear hH
     exact (.c (bin_remNN (x := j) (y := 3) (by omega)) .nil)
    ·intro h1 h2
     obtain rfl := Nat.le_antisymm h2 h1
     have hwe : w2.drew = w' := hwz hw
     subst hwe
     clear hH
     exact (.c (bin_shrN (by omega)) .nil)
    ·intro h1 h2
     obtain rfl := Nat.le_antisymm h2 h1
     have hwe : w2.drew = w' := hwz hw
     subst hwe
     clear hH
     exact (.c (bin_andN) .nil)
    ·intro h1 h2
     obtain rfl := Nat.le_antisymm h2 h1
     have hwe : w2.drew = w' := hwz hw
     subst hwe
     clear hH
     exact (.c (ixs 4 1 j) .nil)
   ·refine (.c ?eq14_12 .nil)
    ·rintro ws13 hH
     clear hH
     refine eff_gh (w2.drew) (by kernel_rfl) ?_
     refine upon_store_own (b := g) (off := 0 + j * 1) (u := Value.bool ((((i / 2 ^ (j % 3) % 2 : Nat) : Int) : Int) == 1)) (xs := x.xs) (by kernel_rfl) (hg.drew : OwnR w2.drew 4 1 g cap x.n x.xs) (by omega) fun ws13 hOs13 hEs13 hsz13 => ?_
     exact ⟨ws13, by kernel_rfl, by kernel_rfl, by kernel_rfl, ⟨hOs13, hEs13, trivial⟩⟩
   rintro ws13 a w15 hS hw16 hH
   obtain ⟨hOs13, hEs13, _⟩ := hH
   replace hw16 : w15 = ws13 := hw16.trans (by kernel_rfl)
   have hB17 := OwnV.at' hw16 ((ha2.drew : OwnV w2.drew 31 1 (.slice vb L.length vc) L.length (L.map Rw.v)).ext hEs13 (fun x hx hm => by simp at hm; exact (OwnV.neR ha2 hg (by decide)) x hx hm.symm))
   have hB18 : OwnR w15 4 1 g cap x.n (x.xs.set (0 + j * 1) (Value.bool ((((i / 2 ^ (j % 3) % 2 : Nat) : Int) : Int) == 1))) := by rw [hw16]; exact hOs13
   have hE19 : Ext (bl L) w w15 := by rw [hw16]; exact (hEy.drew).trans hEs13 (fun b hb => by simp at hb; subst hb; exact hgn)
   have hX20 : Ext [g] w2 w15 := by rw [hw16]; exact ((Ext.refl _ _).drew).trans hEs13 (by simp)
   have hG21 : Ext [g] w2 w15 := hgX.trans hX20 (fun b hb => .inl (by first | exact hb | cases hb))
   replace hS := hS.kp [(0, .slice vb L.length vc), (3, I6 i), (4, I6 j)]
   refine inBlock_normal <| hK12 _ _ <| rgn 3 <| sd ww [.p, .as (I6 (↑j + 1)), .p] [_] [(4, I6 (↑j + 1))] [] 3 0 hS (as6 (↑j + 1)) fun a hS => seg_end ?_
   have hFs := hF2.set1 hx hxv hB18 hG21
   have hMs := hM2.step hx (ys := (x.xs.set (0 + j * 1) (Value.bool ((((i / 2 ^ (j % 3) % 2 : Nat) : Int) : Int) == 1)))) (set1_mk hxo.len (by omega) rfl)
   have hsz9 := Nat.le_trans hsz2 (hG21).size
   exact ⟨(j + 1, K.set i ⟨x.v, x.n, (x.xs.set (0 + j * 1) (Value.bool ((((i / 2 ^ (j % 3) % 2 : Nat) : Int) : Int) == 1)))⟩), ⟨hS.kp [(0, .slice vb L.length vc), (3, I6 i), (4, I6 (↑j + 1))], by omega, (set_keep (y := ⟨x.v, x.n, (x.xs.set (0 + j * 1) (Value.bool ((((i / 2 ^ (j % 3) % 2 : Nat) : Int) : Int) == 1)))⟩) hx rfl).trans hKv, (set_keep (y := ⟨x.v, x.n, (x.xs.set (0 + j * 1) (Value.bool ((((i / 2 ^ (j % 3) % 2 : Nat) : Int) : Int) == 1)))⟩) hx rfl).trans hKn, hFs, hMs, hB17, hE19, hsz9⟩, by simp only; omega⟩
  ·
   replace hb11 := of_decide_eq_false hb11
   refine xt2 <| inBlock_normal <| hK7 _ _ <| rgn 3 <| sd ww [.p, .as (I6 (↑i + 1)), .p] [_] [(3, I6 (↑i + 1))] [] 3 0 hS (as6 (↑i + 1)) fun a hS => seg_end ?_
   exact ⟨(i + 1, K), ⟨hS.kp [(0, .slice vb L.length vc), (3, I6 (↑i + 1))], by omega, hKv, hKn, hF2, Mk.next hM2 hx (by omega), ha2, hEy, hsz2⟩, by simp only; omega⟩
 ·
  replace hb6 := of_decide_eq_false hb6
  obtain rfl : i = L.length := by omega
  have hKl : K.length = L.length := by have := congrArg List.length hKv; simpa using this
  have hG0 : Mg 1 70 fB tB (K.map Gw.of) 0 0 := Mk.two (by rw [hKl]; exact hM1)
  have hF20 := hF1.two
  have hGv0 : (K.map Gw.of).map Gw.v0 = L.map Rw.v := by rw [List.map_map]; exact hKv
  have hGn0 : ∀ x ∈ K.map Gw.of, x.n0 ≤ 1000000000 := fun x hx => by
   obtain ⟨y, hy, rfl⟩ := List.mem_map.1 hx
   exact map_all (f := Rw.n) (p := fun q => q ≤ 1000000000) hKn hn y hy
  have hGe0 : ∀ (k : Nat) (x : Gw), (K.map Gw.of)[k]? = some x → 0 ≤ k → x.v = x.v0 := fun k x hx _ => by
   obtain ⟨y, hy, rfl⟩ := map_of hx; rfl
  refine xt2 <| hK2 _ _ <| sq fun K22 hK22 => rgn 1 <| sg ww [.p] [] [(0, .slice vb L.length vc), (5, .slice none 0 0)] 1 0 hS .nil fun a hS => sge hK22 <| sq fun K23 hK23 => sdq 1 [.p] [] [(6, I6 0)] [] hS .nil fun a hS => wpIn_block ?_
  refine loop_ghost (fun ((i, G, bm, cm) : Nat × List Gw × Option Addr × Nat) a' w' => St 134 [] [(0, .slice vb L.length vc), (5, .slice bm i cm), (6, I6 i)] a' ∧ i ≤ L.length ∧ G.map Gw.v0 = L.map Rw.v ∧ Fam2 w' 4 1 (fun b => b ∈ bl L ∨ w.heap.size ≤ b) G ∧ (∀ x ∈ G, x.n0 ≤ 1000000000) ∧ Mg 1 70 fB tB G i 0 ∧ (∀ (k : Nat) (x : Gw), G[k]? = some x → i ≤ k → x.v = x.v0) ∧ OwnV w' 31 1 (.slice bm i cm) i ((G.take i).map Gw.v) ∧ (∀ b ∈ ob (.slice bm i cm), w.heap.size ≤ b) ∧ OwnV w' 31 1 (.slice vb L.length vc) L.length (L.map Rw.v) ∧ Ext (bl L) w w' ∧ w.heap.size ≤ w'.heap.size) (fun ((i, G, bm, cm) : Nat × List Gw × Option Addr × Nat) => L.length - i) (0, K.map Gw.of, none, 0) ⟨hS.keepTo [0, 5, 6] (by kernel_rfl), Nat.zero_le _, hGv0, hF20, hGn0, hG0, hGe0, OwnV.nil _ _ _, (by simp [ob]), ha1, hEx, hsz1⟩ ?_
  rintro ⟨i, G, bm, cm⟩ a w3 ⟨hS, hil, hGv, hF3, hGn, hM3, hGe, hbm, hbmn, ha3, hEx, hsz3⟩
  have hv0w : ∀ (k : Nat) (y : Gw), G[k]? = some y → ∀ b ∈ ob y.v0, b < w.heap.size := fun k y hy b hb => by
   have h1 := map_at hGv hy
   rw [List.getElem?_map] at h1
   cases hL : L[k]? with
   | none => rw [hL] at h1; cases h1
   | some z =>
    rw [hL] at h1
    have h2 : z.v = y.v0 := Option.some.inj h1
    exact hF.lie hL b (by rw [h2]; exact hb)
  have hGl : G.length = L.length := by have := congrArg List.length hGv; simpa using this
  refine sq fun K25 hK25 => sdq 4 [.p, .p, .p, .p] [] [(43, .bool (decide ((↑i : Int) < ↑L.length)))] [] hS .nil fun a hS => ?_
  refine cond_b hS rfl (fun hb27 => ?_) (fun hb27 => ?_)
  ·
   replace hb27 := of_decide_eq_true hb27
   obtain ⟨x, hx⟩ : ∃ x, G[i]? = some x := gE
   have hxo := hF3.own i x hx
   have hxe := hGe i x hx (Nat.le_refl _)
   obtain ⟨gb, gc, hgv⟩ := hxo.form
   have hxn0 := hM3.n i x hx
   rw [show cnt 70 i 0 i = 0 by unfold cnt; rw [if_neg (Nat.lt_irrefl _), if_pos rfl], Nat.add_zero] at hxn0
   have hxb := hGn x (List.mem_of_getElem? hx)
   obtain ⟨nI, hnI⟩ : ∃ q, x.n0 = q := ⟨_, rfl⟩
   rw [hxn0, hnI] at hgv
   rw [hnI] at hxb
   have hxv1 : (L.map Rw.v)[i]? = some (.slice gb nI gc) := by rw [map_at hGv hx, ← hxe, hgv]
   refine wpIn_skip <| hK25 _ _ <| sq fun K28 hK28 => wpIn_block <| sdq 5 [.p, .p, .run ((Po (bof (.slice vb L.length vc)) (0 + i * 1))), .ld (.slice gb nI gc), .p] [Rv (Instr.indexAt 91 (.slice vb L.length vc) (I6 i)) ((Po (bof (.slice vb L.length vc)) (0 + i * 1))) w3, w3.cell? ⟨bof (.slice vb L.length vc), 0 + i * 1, none⟩ = some (.slice gb nI gc)] [(7, .slice gb nI gc)] [] hS (.c (ix_own (j := i) (ha3) (by kernel_rfl) (by kernel_rfl) rfl (by omega)) (.c ((ha3).cellAt _ (by rw [Nat.zero_add, Nat.mul_one]; exact hxv1)) .nil)) fun a hS => sq fun K30 hK30 => sdq 1 [.p] [] [(8, I6 0)] [] hS .nil fun a hS => wpIn_block ?_
   obtain ⟨VL, hVL⟩ : ∃ l, (G.take i).map Gw.v = l := ⟨_, rfl⟩
   rw [hVL] at hbm
   refine loop_ghost (fun ((j, G, gb, gc) : Nat × List Gw × Option Addr × Nat) a' w' => St 134 [] [(0, .slice vb L.length vc), (5, .slice bm i cm), (6, I6 i), (7, .slice gb (nI + j) gc), (8, I6 j)] a' ∧ j ≤ 70 ∧ G.map Gw.v0 = L.map Rw.v ∧ Fam2 w' 4 1 (fun b => b ∈ bl L ∨ w.heap.size ≤ b) G ∧ (∀ x ∈ G, x.n0 ≤ 1000000000) ∧ Mg 1 70 fB tB G i j ∧ (∀ (k : Nat) (x : Gw), G[k]? = some x → i < k → x.v = x.v0) ∧ (∃ x, G[i]? = some x ∧ x.v = .slice gb (nI + j) gc ∧ x.n0 = nI) ∧ (G.take i).map Gw.v = VL ∧ OwnV w' 31 1 (.slice bm i cm) i VL ∧ (∀ b ∈ ob (.slice bm i cm), w.heap.size ≤ b) ∧ OwnV w' 31 1 (.slice vb L.length vc) L.length (L.map Rw.v) ∧ Ext (bl L) w w' ∧ w.heap.size ≤ w'.heap.size) (fun ((j, G, gb, gc) : Nat × List Gw × Option Addr × Nat) => 70 - j) (0, G, gb, gc) ⟨hS.keepTo [0, 5, 6, 7, 8] (by kernel_rfl), Nat.zero_le _, hGv, hF3, hGn, hM3, (fun k y hy hk => hGe k y hy (by omega)), ⟨x, hx, hgv, hnI⟩, hVL, hbm, hbmn, ha3, hEx, hsz3⟩ ?_
   rintro ⟨j, G, gb, gc⟩ a w4 ⟨hS, hjT, hGv, hF4, hGn, hM4, hGe4, ⟨x, hx4, hxv4, hxn04⟩, hVL4, hbm4, hbmn, ha4, hEy, hsz4⟩
   have hv0w : ∀ (k : Nat) (y : Gw), G[k]? = some y → ∀ b ∈ ob y.v0, b < w.heap.size := fun k y hy b hb => by
    have h1 := map_at hGv hy
    rw [List.getElem?_map] at h1
    cases hL : L[k]? with
    | none => rw [hL] at h1; cases h1
    | some z =>
     rw [hL] at h1
     have h2 : z.v = y.v0 := Option.some.inj h1
     exact hF.lie hL b (by rw [h2]; exact hb)
   have hxn4 := hM4.n i x hx4
   rw [show cnt 70 i j i = j by unfold cnt; rw [if_neg (Nat.lt_irrefl _), if_pos rfl], hxn04] at hxn4
   have hb4 := hF4.new i x hx4
   refine sq fun K32 hK32 => sdq 2 [.p, .p] [] [(51, .bool (decide ((↑j : Int) < 70)))] [] hS .nil fun a hS => ?_
   refine cond_b hS rfl (fun hb34 => ?_) (fun hb34 => ?_)
   ·
    replace hb34 := of_decide_eq_true hb34
    refine wpIn_skip <| hK32 _ _ <| sq fun K35 hK35 => wpIn_block <| rgn 10 <| sd ww [.p, .p, .p, .run (I6 ((j % 3 : Nat) : Int)), .run (I6 ((i / 2 ^ (j % 3) : Nat) : Int)), .run (I6 ((i / 2 ^ (j % 3) % 2 : Nat) : Int)), .p] [Rv (do eqGuard .rem 3 (.tmp 56) (.const (I6 3)) (I6 j) (I6 3); binOp .rem 3 (I6 j) (I6 3)) (I6 ((j % 3 : Nat) : Int)) w4, Rv (do eqGuard .shr 3 (.tmp 55) (.tmp 57) (I6 i) (I6 ((j % 3 : Nat) : Int)); binOp .shr 3 (I6 i) (I6 ((j % 3 : Nat) : Int))) (I6 ((i / 2 ^ (j % 3) : Nat) : Int)) w4, Rv (do eqGuard .and 3 (.tmp 58) (.const (I6 1)) (I6 ((i / 2 ^ (j % 3) : Nat) : Int)) (I6 1); binOp .and 3 (I6 ((i / 2 ^ (j % 3) : Nat) : Int)) (I6 1)) (I6 ((i / 2 ^ (j % 3) % 2 : Nat) : Int)) w4] [(54, .slice gb (nI + j) gc), (60, .bool ((((i / 2 ^ (j % 3) % 2 : Nat) : Int) : Int) == 0))] [] 7 3 hS (.c (bin_remNN (x := j) (y := 3) (by omega)) (.c (bin_shrN (by omega)) (.c (bin_andN) .nil))) fun a hS => eff_new ww (r := 2) (cs := #[.bool ((((i / 2 ^ (j % 3) % 2 : Nat) : Int) : Int) == 0)]) (T := 4) (v := Value.slice (some ⟨w4.heap.size, 0, none⟩) 1 1) (d := (some 61)) hS (by kernel_rfl) fun a w36 hw37 hS => ?_
    have hB40 := OwnV.at' hw37 (ha4.alloc _)
    have hB41 := OwnV.at' hw37 (hbm4.alloc _)
    have hX42 : Ext [] w4 w36 := by rw [hw37]; exact (Ext.refl _ _).alloc _
    have hG43 : Fam2 w36 4 1 (fun b => b ∈ bl L ∨ w.heap.size ≤ b) G := hF4.ext0 hX42
    have hG44 : w.heap.size ≤ w36.heap.size := Nat.le_trans hsz4 (hX42).size
    have hB45 : Blk w36 (w4.heap.size) 4 #[.bool ((((i / 2 ^ (j % 3) % 2 : Nat) : Int) : Int) == 0)] := by rw [hw37]; exact Blk.new _ _ _
    have hs46 := hEy.size
    have hE47 : Ext (bl L) w w36 := by rw [hw37]; exact hEy.alloc _
    have hOw48 := (by have h := (hG43).own i x hx4; rw [hxv4, hxn4] at h; exact h : OwnV w36 4 1 (.slice gb (nI + j) gc) (nI + j) x.xs)
    refine eff_append_rd ww (r := 1) (d := (some 62)) (t := 31) (ty := 31) (e := 4) (size := 1) (bytes := 1) (len := (nI + j)) (k := 1) (z := #[.bool false]) (v := (.slice gb (nI + j) gc)) (u := Value.slice (some ⟨w4.heap.size, 0, none⟩) 1 1) (xs := x.xs) (news := [.bool ((((i / 2 ^ (j % 3) % 2 : Nat) : Int) : Int) == 0)]) hS (by kernel_rfl) (by kernel_rfl) (by kernel_rfl) (by kernel_rfl) hOw48 (RdV.of_blk (n := 1) hB45 rfl) rfl (by omega) (by omega) fun bs48 cp48 a wA48 hA48 hS => ?_
    have hFA48 := (hG43).app hx4 (by rw [hxv4, hxn4]; exact hA48) (fun b hb => .inr (Nat.le_trans hG44 hb))
    have hMA48 := hM4.step hx4 (v := .slice bs48 (x.n + 1) cp48) (hF4.own i x hx4).len (news := [.bool ((((i / 2 ^ (j % 3) % 2 : Nat) : Int) : Int) == 0)]) (one_mk rfl)
    have hszA48 := Nat.le_trans hG44 hA48.ext.size
    have hvaA48 := (hB40).ext hA48.ext ((hB40).disj hOw48 (by decide))
    have hbmA48 := (hB41).ext hA48.ext ((hB41).disj hOw48 (by decide))
    have hEA48 := hE47.trans hA48.ext (fun b hb => (hb4 b (List.mem_append_right _ (by rw [hxv4]; exact hb))).1)
    refine sd ww [.p] [] [(7, .slice bs48 (nI + j + 1) cp48)] [] 10 0 hS .nil fun a hS => seg_end <| inBlock_normal <| hK35 _ _ <| rgn 3 <| sd ww [.p, .as (I6 (↑j + 1)), .p] [_] [(8, I6 (↑j + 1))] [] 3 0 hS (as6 (↑j + 1)) fun a hS => seg_end ?_
    have hln48 : nI + j + 1 = nI + (j + 1) := by omega
    rw [hln48] at hS
    exact ⟨(j + 1, G.set i ⟨x.v0, x.n0, x.xs0, .slice bs48 (x.n + 1) cp48, x.n + 1, x.xs ++ [.bool ((((i / 2 ^ (j % 3) % 2 : Nat) : Int) : Int) == 0)]⟩, bs48, cp48), ⟨hS.kp [(0, .slice vb L.length vc), (5, .slice bm i cm), (6, I6 i), (7, .slice bs48 (nI + (j + 1)) cp48), (8, I6 (↑j + 1))], by omega, (set_keep (y := ⟨x.v0, x.n0, x.xs0, .slice bs48 (x.n + 1) cp48, x.n + 1, x.xs ++ [.bool ((((i / 2 ^ (j % 3) % 2 : Nat) : Int) : Int) == 0)]⟩) hx4 rfl).trans hGv, hFA48, (by
     intro y hy
     rcases List.mem_or_eq_of_mem_set hy with hy | rfl
     ·exact hGn y hy
     ·exact hGn x (List.mem_of_getElem? hx4)), hMA48, (by
     intro k y hy hk
     rcases get_set hx4 hy with ⟨h, _⟩ | ⟨_, hy⟩
     ·omega
     ·exact hGe4 k y hy hk), ⟨_, List.getElem?_set_self (List.getElem?_eq_some_iff.1 hx4).1, by simp only; rw [hxn4, hln48], hxn04⟩, take_set.trans hVL4, hbmA48, hbmn, hvaA48, hEA48, hszA48⟩, by simp only; omega⟩
   ·
    replace hb34 := of_decide_eq_false hb34
    obtain rfl : j = 70 := by omega
    refine xt2 <| hK30 _ _ <| rgn 5 <| sd ww [.p, .p] [] [(63, .slice bm i cm), (64, .slice gb (nI + 70) gc)] [] 2 3 hS .nil fun a hS => eff_new ww (r := 2) (cs := #[.slice gb (nI + 70) gc]) (T := 31) (v := Value.slice (some ⟨w4.heap.size, 0, none⟩) 1 1) (d := (some 65)) hS (by kernel_rfl) fun a w49 hw50 hS => ?_
    have hB53 := OwnV.at' hw50 (ha4.alloc _)
    have hB54 := OwnV.at' hw50 (hbm4.alloc _)
    have hX55 : Ext [] w4 w49 := by rw [hw50]; exact (Ext.refl _ _).alloc _
    have hG56 : Fam2 w49 4 1 (fun b => b ∈ bl L ∨ w.heap.size ≤ b) G := hF4.ext0 hX55
    have hG57 : w.heap.size ≤ w49.heap.size := Nat.le_trans hsz4 (hX55).size
    have hB58 := Blk.nw hw50
    have hs59 := hEy.size
    have hE60 : Ext (bl L) w w49 := by rw [hw50]; exact hEy.alloc _
    skip
    refine eff_append2 ww (r := 1) (d := (some 66)) (t := 91) (ty := 91) (e := 31) (size := 1) (bytes := 24) (len := i) (b := w4.heap.size) (off := 0) (k := 1) (c := 1) (z := #[.slice none 0 0]) (v := Value.slice bm i cm) (xs := VL) [.slice gb (nI + 70) gc] hS (by kernel_rfl) (by kernel_rfl) (by kernel_rfl) (by kernel_rfl) (by kernel_rfl) hB54 (by simp) (fun j u hu => by rw [Nat.zero_add]; exact hB58.cell j (by simpa using hu)) rfl (by omega) (by omega) (by omega) fun ga61 ca61 a wa61 hOa61 hEa61 hFa61 hS => ?_
    have hB62 := hB53.ext hEa61 ((fun x hx hm => by have h5 := hval x hx; have h6 := hbmn x hm; omega))
    have hE64 : Ext (bl L) w wa61 := hE60.trans hEa61 (fun b hb => .inr (hbmn b hb))
    have hG65 : Fam2 wa61 4 1 (fun b => b ∈ bl L ∨ w.heap.size ≤ b) G := hG56.ext hEa61 (fun k y hy b hb hm => (List.mem_append.1 hb).elim (fun h => by have h5 := hv0w k y hy b h; have h6 := hbmn b hm; omega) (fun h => (hG56.own k y hy).disj hB54 (by decide) b h hm))
    have hG66 : w.heap.size ≤ wa61.heap.size := Nat.le_trans hG57 (hEa61).size
    refine sd ww [.p] [] [(5, Sl ga61 (i + 1) ca61)] [] 5 0 hS .nil fun a hS => seg_end <| inBlock_normal <| hK28 _ _ <| rgn 3 <| sd ww [.p, .as (I6 (↑i + 1)), .p] [_] [(6, I6 (↑i + 1))] [] 3 0 hS (as6 (↑i + 1)) fun a hS => seg_end ?_
    have hbmN : OwnV wa61 31 1 (Sl ga61 (i + 1) ca61) (i + 1) ((G.take (i + 1)).map Gw.v) := by
     rw [take_snoc hx4, hxv4, hVL4]; exact hOa61.v
    exact ⟨(i + 1, G, (some ⟨ga61, 0, none⟩), ca61), ⟨hS.kp [(0, .slice vb L.length vc), (5, Sl ga61 (i + 1) ca61), (6, I6 (↑i + 1))], by omega, hGv, hG65, hGn, Mg.next hM4, fun k y hy hk => hGe4 k y hy (by omega), hbmN, (by
     intro b hb
     have hb : b = ga61 := by simpa [ob] using hb
     rw [hb]
     rcases hFa61 ga61 (by simp) with h | h
     ·exact hbmn _ h
     ·exact Nat.le_trans hG57 h), hB62, hE64, hG66⟩, by simp only; omega⟩
  ·
   replace hb27 := of_decide_eq_false hb27
   obtain rfl : i = L.length := by omega
   have hbm9 := hbm
   rw [List.take_of_length_le (by omega)] at hbm9
   refine xt2 <| hK23 _ _ <| sq fun K67 hK67 => sdq 1 [.p] [] [(9, I6 0)] [] hS .nil fun a hS => wpIn_block ?_
   have hFz := hF3
   have haz := ha3
   have hbz := hbm9
   have hEz := hEx
   have hEzz : Ext [] w3 w3 := Ext.refl _ _
   refine loop_ghost (fun (i : Nat) a' w' => St 134 [] [(0, .slice vb L.length vc), (5, .slice bm L.length cm), (9, I6 i)] a' ∧ i ≤ L.length ∧ Ext [] w3 w') (fun (i : Nat) => L.length - i) 0 ⟨hS.keepTo [0, 5, 9] (by kernel_rfl), Nat.zero_le _, hEzz⟩ ?_
   rintro i a w5 ⟨hS, hil, hE5⟩
   refine sq fun K69 hK69 => sdq 4 [.p, .p, .p, .p] [] [(70, .bool (decide ((↑i : Int) < ↑L.length)))] [] hS .nil fun a hS => ?_
   refine cond_b hS rfl (fun hb71 => ?_) (fun hb71 => ?_)
   ·
    replace hb71 := of_decide_eq_true hb71
    obtain ⟨x, hx⟩ : ∃ x, G[i]? = some x := gE
    have hxr := hFz.rd i x hx
    have hxo := hFz.own i x hx
    have hxs := hFz.sh i x hx
    have hxn := hM3.n i x hx
    rw [show cnt 70 L.length 0 i = 70 by unfold cnt; rw [if_pos (by omega)]] at hxn
    have hxb := hGn x (List.mem_of_getElem? hx)
    obtain ⟨nI, hnI⟩ : ∃ q, x.n0 = q := ⟨_, rfl⟩
    have hxm := hM3.m i
    have hxt := hM3.t i
    rw [hnI] at hxr hxn hxb
    have hv1 : (L.map Rw.v)[i]? = some x.v0 := map_at hGv hx
    have hv2 : (G.map Gw.v)[i]? = some x.v := by rw [List.getElem?_map, hx]; rfl
    have hmk : ∀ k r, k < nI → r < 1 → x.xs0[k * 1 + r]? = (fB i k)[r]? := fun k r hk hr => hM3.m i k r x hx (by omega) hr
    have hmx : ∀ k r, k < nI → r < 1 → x.xs[k * 1 + r]? = (fB i k)[r]? := fun k r hk hr => by
     have h := hmk k r hk hr
     rw [hxs.2.1, hnI, List.getElem?_take] at h
     have hb : k * 1 + r < nI * 1 := by
      have : (k + 1) * 1 ≤ nI * 1 := Nat.mul_le_mul_right _ (by omega)
      rw [Nat.add_mul, Nat.one_mul] at this; omega
     rw [if_pos hb] at h; exact h
    have hmt : ∀ k r, k < 70 → r < 1 → x.xs[(nI + k) * 1 + r]? = (tB i k)[r]? := fun k r hk hr => by
     have h := hM3.t i k r x hx (by unfold cnt; rw [if_pos (by omega)]; exact hk) hr
     rw [hnI] at h; exact h
    refine wpIn_skip <| hK69 _ _ <| sq fun K72 hK72 => wpIn_block <| sdq 6 [.p, .p, .run ((Po (bof (.slice vb L.length vc)) (0 + i * 1))), .ld (x.v0), .run (I6 nI), .p] [Rv (Instr.indexAt 91 (.slice vb L.length vc) (I6 i)) ((Po (bof (.slice vb L.length vc)) (0 + i * 1))) w5, w5.cell? ⟨bof (.slice vb L.length vc), 0 + i * 1, none⟩ = some (x.v0), Rv (Builtin.len_ #[31] 3 #[x.v0]) (I6 nI) w5] [(10, I6 nI)] [] hS (.c (ix_own (j := i) ((haz.ext0' hE5)) (by kernel_rfl) (by kernel_rfl) rfl (by omega)) (.c ((haz.ext0' hE5).cellAt _ (by rw [Nat.zero_add, Nat.mul_one]; exact hv1)) (.c (rlr 4 hxr) .nil))) fun a hS => sq fun K74 hK74 => sdq 1 [.p] [] [(11, I6 0)] [] hS .nil fun a hS => wpIn_block ?_
    have hE511 := hE5
    refine loop_ghost (fun (k : Nat) a' w' => St 134 [] [(0, .slice vb L.length vc), (5, .slice bm L.length cm), (9, I6 i), (10, I6 nI), (11, I6 k)] a' ∧ k ≤ nI ∧ Ext [] w3 w') (fun (k : Nat) => nI - k) 0 ⟨hS.keepTo [0, 5, 9, 10, 11] (by kernel_rfl), Nat.zero_le _, hE511⟩ ?_
    rintro k a w6 ⟨hS, hkl, hE6⟩
    refine sq fun K76 hK76 => sdq 3 [.p, .p, .p] [] [(80, .bool (decide ((↑k : Int) < ↑nI)))] [] hS .nil fun a hS => ?_
    refine cond_b hS rfl (fun hb78 => ?_) (fun hb78 => ?_)
    ·
     replace hb78 := of_decide_eq_true hb78
     refine wpIn_skip <| hK76 _ _ <| sq fun K79 hK79 => wpIn_block <| sq fun K80 hK80 => ?_
     refine fn3 [.q .p, .q .p, .q (.run ((Po (bof (.slice vb L.length vc)) (0 + i * 1)))), .q (.ld (x.v0)), .q .p, .q (.run ((Po (bof x.v0) (oof x.v0 + k * 1)))), .q (.ld (.bool ((((i / 2 ^ (k % 3) % 2 : Nat) : Int) : Int) == 1))), .q .p, .q .p, .q (.run (I6 ((k % 3 : Nat) : Int))), .q (.run (I6 ((i / 2 ^ (k % 3) : Nat) : Int))), .q (.run (I6 ((i / 2 ^ (k % 3) % 2 : Nat) : Int))), .q .p, .q (.as (.bool false)), .q .p, .q .p, .q .p, .q (.run ((Po (bof (.slice bm L.length cm)) (0 + i * 1)))), .q (.ld (x.v)), .q .p, .q (.run ((Po (bof x.v) (oof x.v + k * 1)))), .q (.ld (.bool ((((i / 2 ^ (k % 3) % 2 : Nat) : Int) : Int) == 1))), .q .p, .q .p, .q (.run ((Po (bof (.slice vb L.length vc)) (0 + i * 1)))), .q (.ld (x.v0)), .q .p, .q (.run ((Po (bof x.v0) (oof x.v0 + k * 1)))), .q (.ld (.bool ((((i / 2 ^ (k % 3) % 2 : Nat) : Int) : Int) == 1))), .q (.as (.bool false)), .q .p] [0, 0, 0, 0, 0, 0, 0, 0, 0, 0, 0, 0, 0, 0, 0, 0, 0, 0, 0, 0, 0, 0, 0, 0, 0, 0, 0, 0, 0, 0, 0] [0, 0, 0, 0, 0, 0, 0, 0, 0, 0, 0, 0, 0, 0, 0, 0, 0, 0, 0, 0, 0, 0, 0, 0, 0, 0, 0, 0, 0, 0, 0] [0, 0, 3, 7, 0, 31, 63, 0, 0, 256, 896, 1920, 3968, 8191, 16383, 32767, 32767, 131071, 262143, 32767, 1048575, 2097151, 32767, 32767, 12615679, 29392895, 32767, 130056191, 264273919, 536870911, 1073741823] [] 0 ([(0, .slice vb L.length vc), (5, .slice bm L.length cm), (9, I6 i), (10, I6 nI), (11, I6 k), (83, .slice vb L.length vc), (84, I6 i), (85, (Po (bof (.slice vb L.length vc)) (0 + i * 1))), (86, x.v0), (87, I6 k), (88, (Po (bof x.v0) (oof x.v0 + k * 1))), (89, .bool ((((i / 2 ^ (k % 3) % 2 : Nat) : Int) : Int) == 1)), (90, I6 i), (91, I6 k), (92, I6 ((k % 3 : Nat) : Int)), (93, I6 ((i / 2 ^ (k % 3) : Nat) : Int)), (94, I6 ((i / 2 ^ (k % 3) % 2 : Nat) : Int)), (95, .bool ((((i / 2 ^ (k % 3) % 2 : Nat) : Int) : Int) == 1)), (96, .bool false), (97, .bool false), (98, .slice bm L.length cm), (99, I6 i), (100, (Po (bof (.slice bm L.length cm)) (0 + i * 1))), (101, x.v), (102, I6 k), (103, (Po (bof x.v) (oof x.v + k * 1))), (104, .bool ((((i / 2 ^ (k % 3) % 2 : Nat) : Int) : Int) == 1)), (105, .slice vb L.length vc), (106, I6 i), (107, (Po (bof (.slice vb L.length vc)) (0 + i * 1))), (108, x.v0), (109, I6 k), (110, (Po (bof x.v0) (oof x.v0 + k * 1))), (111, .bool ((((i / 2 ^ (k % 3) % 2 : Nat) : Int) : Int) == 1)), (112, .bool false), (113, .bool false)]) [w6.drew] w6.drew (fun w' => [(2, [Rv (Instr.indexAt 91 (.slice vb L.length vc) (I6 i)) ((Po (bof (.slice vb L.length vc)) (0 + i * 1))) w']), (3, [w'.cell? ⟨bof (.slice vb L.length vc), 0 + i * 1, none⟩ = some (x.v0)]), (5, [Rv (Instr.indexAt 31 (x.v0) (I6 k)) ((Po (bof x.v0) (oof x.v0 + k * 1))) w']), (6, [w'.cell? ⟨bof x.v0, oof x.v0 + k * 1, none⟩ = some (.bool ((((i / 2 ^ (k % 3) % 2 : Nat) : Int) : Int) == 1))]), (9, [Rv (do eqGuard .rem 3 (.tmp 91) (.const (I6 3)) (I6 k) (I6 3); binOp .rem 3 (I6 k) (I6 3)) (I6 ((k % 3 : Nat) : Int)) w']), (10, [Rv (do eqGuard .shr 3 (.tmp 90) (.tmp 92) (I6 i) (I6 ((k % 3 : Nat) : Int)); binOp .shr 3 (I6 i) (I6 ((k % 3 : Nat) : Int))) (I6 ((i / 2 ^ (k % 3) : Nat) : Int)) w']), (11, [Rv (do eqGuard .and 3 (.tmp 93) (.const (I6 1)) (I6 ((i / 2 ^ (k % 3) : Nat) : Int)) (I6 1); binOp .and 3 (I6 ((i / 2 ^ (k % 3) : Nat) : Int)) (I6 1)) (I6 ((i / 2 ^ (k % 3) % 2 : Nat) : Int)) w']), (13, [Value.bool (!(((((i / 2 ^ (k % 3) % 2 : Nat) : Int) : Int) == 1) == ((((i / 2 ^ (k % 3) % 2 : Nat) : Int) : Int) == 1))) = .bool false]), (17, [Rv (Instr.indexAt 91 (.slice bm L.length cm) (I6 i)) ((Po (bof (.slice bm L.length cm)) (0 + i * 1))) w']), (18, [w'.cell? ⟨bof (.slice bm L.length cm), 0 + i * 1, none⟩ = some (x.v)]), (20, [Rv (Instr.indexAt 31 (x.v) (I6 k)) ((Po (bof x.v) (oof x.v + k * 1))) w']), (21, [w'.cell? ⟨bof x.v, oof x.v + k * 1, none⟩ = some (.bool ((((i / 2 ^ (k % 3) % 2 : Nat) : Int) : Int) == 1))]), (24, [Rv (Instr.indexAt 91 (.slice vb L.length vc) (I6 i)) ((Po (bof (.slice vb L.length vc)) (0 + i * 1))) w']), (25, [w'.cell? ⟨bof (.slice vb L.length vc), 0 + i * 1, none⟩ = some (x.v0)]), (27, [Rv (Instr.indexAt 31 (x.v0) (I6 k)) ((Po (bof x.v0) (oof x.v0 + k * 1))) w']), (28, [w'.cell? ⟨bof x.v0, oof x.v0 + k * 1, none⟩ = some (.bool ((((i / 2 ^ (k % 3) % 2 : Nat) : Int) : Int) == 1))]), (29, [Value.bool (!(((((i / 2 ^ (k % 3) % 2 : Nat) : Int) : Int) == 1) == ((((i / 2 ^ (k % 3) % 2 : Nat) : Int) : Int) == 1))) = .bool false])]) [0, 5, 9, 10, 11] [] hS (fun _ => by kernel_rfl) ?_ ?_ ?_
     ·intro e w' hw
      refine (.c ?_ (.c ?_ (.c ?_ (.c ?_ (.c ?_ (.c ?_ (.c ?_ (.c ?_ (.c ?_ (.c ?_ (.c ?_ (.c ?_ (.c ?_ (.c ?_ (.c ?_ (.c ?_ (.c ?_ .nil)))))))))))))))))
      ·exact fun _ _ => (.c (ix_own (j := i) ((haz.ext0' hE6)) (by kernel_rfl) (by kernel_rfl) rfl (by omega)) .nil)
      ·intro h1 h2
       obtain rfl := Nat.le_antisymm h2 h1
       obtain rfl : w' = w6.drew := hw.trans (by kernel_rfl)
       exact (.c (((haz.ext0' (by first | exact hE6.drew | exact hE6)).cellAt _ (by rw [Nat.zero_add, Nat.mul_one]; exact hv1))) .nil)
      ·exact fun _ _ => (.c (ixr 4 k hxr) .nil)
      ·intro h1 h2
       obtain rfl := Nat.le_antisymm h2 h1
       obtain rfl : w' = w6.drew := hw.trans (by kernel_rfl)
       exact (.c (((hxr.ext0 (by first | exact hE6.drew | exact hE6)).cellAt (k * 1 + 0) (by omega) ((hmk k 0 (by omega) (by decide)).trans rfl))) .nil)
      ·exact fun _ _ => (.c (bin_remNN (x := k) (y := 3) (by omega)) .nil)
      ·exact fun _ _ => (.c (bin_shrN (by omega)) .nil)
      ·exact fun _ _ => (.c (bin_andN) .nil)
      ·exact fun _ _ => (.c ((by simp)) .nil)
      ·exact fun _ _ => (.c (ix_own (j := i) ((hbz.ext0' hE6)) (by kernel_rfl) (by kernel_rfl) rfl (by omega)) .nil)
      ·intro h1 h2
       obtain rfl := Nat.le_antisymm h2 h1
       obtain rfl : w' = w6.drew := hw.trans (by kernel_rfl)
       exact (.c (((hbz.ext0' (by first | exact hE6.drew | exact hE6)).cellAt _ (by rw [Nat.zero_add, Nat.mul_one]; exact hv2))) .nil)
      ·exact fun _ _ => (.c (ixr 4 k hxo.rd) .nil)
      ·intro h1 h2
       obtain rfl := Nat.le_antisymm h2 h1
       obtain rfl : w' = w6.drew := hw.trans (by kernel_rfl)
       exact (.c (((hxo.rd.ext0 (by first | exact hE6.drew | exact hE6)).cellAt (k * 1 + 0) (by omega) ((hmx k 0 (by omega) (by decide)).trans rfl))) .nil)
      ·exact fun _ _ => (.c (ix_own (j := i) ((haz.ext0' hE6)) (by kernel_rfl) (by kernel_rfl) rfl (by omega)) .nil)
      ·intro h1 h2
       obtain rfl := Nat.le_antisymm h2 h1
       obtain rfl : w' = w6.drew := hw.trans (by kernel_rfl)
       exact (.c (((haz.ext0' (by first | exact hE6.drew | exact hE6)).cellAt _ (by rw [Nat.zero_add, Nat.mul_one]; exact hv1))) .nil)
      ·exact fun _ _ => (.c (ixr 4 k hxr) .nil)
      ·intro h1 h2
       obtain rfl := Nat.le_antisymm h2 h1
       obtain rfl : w' = w6.drew := hw.trans (by kernel_rfl)
       exact (.c (((hxr.ext0 (by first | exact hE6.drew | exact hE6)).cellAt (k * 1 + 0) (by omega) ((hmk k 0 (by omega) (by decide)).trans rfl))) .nil)
      ·exact fun _ _ => (.c ((by simp)) .nil)
     ·refine .nil
     rintro a w82 hS hw83
     replace hw83 : w82 = w6.drew := hw83.trans (by kernel_rfl)
     have hE86 : Ext [] w3 w82 := by rw [hw83]; exact hE6.drew
     replace hS := hS.kp [(0, .slice vb L.length vc), (5, .slice bm L.length cm), (9, I6 i), (10, I6 nI), (11, I6 k), (113, .bool false)]
     refine hK80 _ _ ?_
     refine cond_f hS rfl ?_
     refine wpIn_skip <| inBlock_normal <| hK79 _ _ <| rgn 3 <| sd ww [.p, .as (I6 (↑k + 1)), .p] [_] [(11, I6 (↑k + 1))] [] 3 0 hS (as6 (↑k + 1)) fun a hS => seg_end ?_
     exact ⟨k + 1, ⟨hS.kp [(0, .slice vb L.length vc), (5, .slice bm L.length cm), (9, I6 i), (10, I6 nI), (11, I6 (↑k + 1))], by omega, hE86⟩, by omega⟩
    ·
     replace hb78 := of_decide_eq_false hb78
     refine xt2 <| hK74 _ _ <| sdq 1 [.p] [] [(12, I6 0)] [] hS .nil fun a hS => wpIn_block ?_
     have hE512 := hE6
     refine loop_ghost (fun (k : Nat) a' w' => St 134 [] [(0, .slice vb L.length vc), (5, .slice bm L.length cm), (9, I6 i), (10, I6 nI), (12, I6 k)] a' ∧ k ≤ 70 ∧ Ext [] w3 w') (fun (k : Nat) => 70 - k) 0 ⟨hS.keepTo [0, 5, 9, 10, 12] (by kernel_rfl), Nat.zero_le _, hE512⟩ ?_
     rintro k a w6 ⟨hS, hkl, hE6⟩
     refine sq fun K88 hK88 => sdq 2 [.p, .p] [] [(115, .bool (decide ((↑k : Int) < 70)))] [] hS .nil fun a hS => ?_
     refine cond_b hS rfl (fun hb90 => ?_) (fun hb90 => ?_)
     ·
      replace hb90 := of_decide_eq_true hb90
      refine wpIn_skip <| hK88 _ _ <| sq fun K91 hK91 => wpIn_block <| sq fun K92 hK92 => ?_
      refine fn3 [.q .p, .q .p, .q (.run ((Po (bof (.slice bm L.length cm)) (0 + i * 1)))), .q (.ld (x.v)), .q .p, .q .p, .q (.as (I6 ((nI + k : Nat) : Int))), .q (.run ((Po (bof x.v) (oof x.v + (nI + k) * 1)))), .q (.ld (.bool ((((i / 2 ^ (k % 3) % 2 : Nat) : Int) : Int) == 0))), .q .p, .q .p, .q (.run (I6 ((k % 3 : Nat) : Int))), .q (.run (I6 ((i / 2 ^ (k % 3) : Nat) : Int))), .q (.run (I6 ((i / 2 ^ (k % 3) % 2 : Nat) : Int))), .q .p, .q (.as (.bool false))] [0, 0, 0, 0, 0, 0, 0, 0, 0, 0, 0, 0, 0, 0, 0, 0] [0, 0, 0, 0, 0, 0, 0, 0, 0, 0, 0, 0, 0, 0, 0, 0] [0, 0, 3, 7, 0, 0, 48, 127, 255, 0, 0, 1024, 3584, 7680, 15872, 32767] [] 0 ([(0, .slice vb L.length vc), (5, .slice bm L.length cm), (9, I6 i), (10, I6 nI), (12, I6 k), (118, .slice bm L.length cm), (119, I6 i), (120, (Po (bof (.slice bm L.length cm)) (0 + i * 1))), (121, x.v), (122, I6 nI), (123, I6 k), (124, I6 ((nI + k : Nat) : Int)), (125, (Po (bof x.v) (oof x.v + (nI + k) * 1))), (126, .bool ((((i / 2 ^ (k % 3) % 2 : Nat) : Int) : Int) == 0)), (127, I6 i), (128, I6 k), (129, I6 ((k % 3 : Nat) : Int)), (130, I6 ((i / 2 ^ (k % 3) : Nat) : Int)), (131, I6 ((i / 2 ^ (k % 3) % 2 : Nat) : Int)), (132, .bool ((((i / 2 ^ (k % 3) % 2 : Nat) : Int) : Int) == 0)), (133, .bool false)]) [w6.drew] w6.drew (fun w' => [(2, [Rv (Instr.indexAt 91 (.slice bm L.length cm) (I6 i)) ((Po (bof (.slice bm L.length cm)) (0 + i * 1))) w']), (3, [w'.cell? ⟨bof (.slice bm L.length cm), 0 + i * 1, none⟩ = some (x.v)]), (6, [Value.int .i64 (IntKind.i64.wrap (↑nI + ↑k)) = I6 ((nI + k : Nat) : Int)]), (7, [Rv (Instr.indexAt 31 (x.v) (I6 ((nI + k : Nat) : Int))) ((Po (bof x.v) (oof x.v + (nI + k) * 1))) w']), (8, [w'.cell? ⟨bof x.v, oof x.v + (nI + k) * 1, none⟩ = some (.bool ((((i / 2 ^ (k % 3) % 2 : Nat) : Int) : Int) == 0))]), (11, [Rv (do eqGuard .rem 3 (.tmp 128) (.const (I6 3)) (I6 k) (I6 3); binOp .rem 3 (I6 k) (I6 3)) (I6 ((k % 3 : Nat) : Int)) w']), (12, [Rv (do eqGuard .shr 3 (.tmp 127) (.tmp 129) (I6 i) (I6 ((k % 3 : Nat) : Int)); binOp .shr 3 (I6 i) (I6 ((k % 3 : Nat) : Int))) (I6 ((i / 2 ^ (k % 3) : Nat) : Int)) w']), (13, [Rv (do eqGuard .and 3 (.tmp 130) (.const (I6 1)) (I6 ((i / 2 ^ (k % 3) : Nat) : Int)) (I6 1); binOp .and 3 (I6 ((i / 2 ^ (k % 3) : Nat) : Int)) (I6 1)) (I6 ((i / 2 ^ (k % 3) % 2 : Nat) : Int)) w']), (15, [Value.bool (!(((((i / 2 ^ (k % 3) % 2 : Nat) : Int) : Int) == 0) == ((((i / 2 ^ (k % 3) % 2 : Nat) : Int) : Int) == 0))) = .bool false])]) [0, 5, 9, 10, 12] [] hS (fun _ => by kernel_rfl) ?_ ?_ ?_
      ·intro e w' hw
       refine (.c ?_ (.c ?_ (.c ?_ (.c ?_ (.c ?_ (.c ?_ (.c ?_ (.c ?_ (.c ?_ .nil)))))))))
       ·exact fun _ _ => (.c (ix_own (j := i) ((hbz.ext0' hE6)) (by kernel_rfl) (by kernel_rfl) rfl (by omega)) .nil)
       ·intro h1 h2
        obtain rfl := Nat.le_antisymm h2 h1
        obtain rfl : w' = w6.drew := hw.trans (by kernel_rfl)
        exact (.c (((hbz.ext0' (by first | exact hE6.drew | exact hE6)).cellAt _ (by rw [Nat.zero_add, Nat.mul_one]; exact hv2))) .nil)
       ·exact fun _ _ => (.c ((by rw [show (↑nI + ↑k : Int) = ((nI + k : Nat) : Int) from by omega]; exact as_i64 (by omega))) .nil)
       ·exact fun _ _ => (.c (ixr 4 (nI + k) hxo.rd) .nil)
       ·intro h1 h2
        obtain rfl := Nat.le_antisymm h2 h1
        obtain rfl : w' = w6.drew := hw.trans (by kernel_rfl)
        exact (.c (((hxo.rd.ext0 (by first | exact hE6.drew | exact hE6)).cellAt ((nI + k) * 1 + 0) (by omega) ((hmt k 0 (by omega) (by decide)).trans rfl))) .nil)
       ·exact fun _ _ => (.c (bin_remNN (x := k) (y := 3) (by omega)) .nil)
       ·exact fun _ _ => (.c (bin_shrN (by omega)) .nil)
       ·exact fun _ _ => (.c (bin_andN) .nil)
       ·exact fun _ _ => (.c ((by simp)) .nil)
      ·refine .nil
      rintro a w94 hS hw95
      replace hw95 : w94 = w6.drew := hw95.trans (by kernel_rfl)
      have hE98 : Ext [] w3 w94 := by rw [hw95]; exact hE6.drew
      replace hS := hS.kp [(0, .slice vb L.length vc), (5, .slice bm L.length cm), (9, I6 i), (10, I6 nI), (12, I6 k), (133, .bool false)]
      refine hK92 _ _ ?_
      refine cond_f hS rfl ?_
      refine wpIn_skip <| inBlock_normal <| hK91 _ _ <| rgn 3 <| sd ww [.p, .as (I6 (↑k + 1)), .p] [_] [(12, I6 (↑k + 1))] [] 3 0 hS (as6 (↑k + 1)) fun a hS => seg_end ?_
      exact ⟨k + 1, ⟨hS.kp [(0, .slice vb L.length vc), (5, .slice bm L.length cm), (9, I6 i), (10, I6 nI), (12, I6 (↑k + 1))], by omega, hE98⟩, by omega⟩
     ·
      replace hb90 := of_decide_eq_false hb90
      refine xt2 <| inBlock_normal <| hK72 _ _ <| rgn 3 <| sd ww [.p, .as (I6 (↑i + 1)), .p] [_] [(9, I6 (↑i + 1))] [] 3 0 hS (as6 (↑i + 1)) fun a hS => seg_end ?_
      exact ⟨i + 1, ⟨hS.kp [(0, .slice vb L.length vc), (5, .slice bm L.length cm), (9, I6 (↑i + 1))], by omega, hE6⟩, by omega⟩
   ·
    replace hb71 := of_decide_eq_false hb71
    refine xt2 <| hK67 _ _ <| sdq 1 [.p] [] [(2, .bool true)] [] hS .nil fun a hS => wpIn_ret ?_
    refine ret1 hS Tryd.results44 rfl ?_
    exact ⟨rfl, hEz.trans0 hE5⟩
end Go.Proofs.YtkkpghlcmcaoiaaDoor
