import Derived.Test.YtpglmeeledmkoaaProg
import Derived.Test.YtpglmeeledmkoaaVc
import Derived.Test.YtpglmeeledmkoaaT36
namespace Go.Proofs.Ytpglmeeledmkoaa
open Go.Vc

theorem pres_len : ∀ us : List Tr, us.length ≤ (pres us).length
  | [] => Nat.zero_le _
  | u :: us => by have := pres_len us; simp only [pres, pre_eq, List.length_append, List.length_cons]; omega
theorem stk_at (p d s : List Tr) (y : Tr) (n : Nat) (hn : (d ++ s).length < n) : ((((p ++ y :: d) ++ s).reverse.map Tr.ptr).take (n * 1))[0 + (d ++ s).length * 1]? = some y.ptr := by
  have e : ((p ++ y :: d) ++ s).reverse.map Tr.ptr = ((d ++ s).reverse.map Tr.ptr) ++ (y.ptr :: p.reverse.map Tr.ptr) := by simp
  rw [List.getElem?_take_of_lt (by omega), e, List.getElem?_append_right (by simp; omega)]
  rw [show 0 + (d ++ s).length * 1 - ((d ++ s).reverse.map Tr.ptr).length = 0 from by simp; omega]
  rfl
theorem Foots_nil {y : Nat} (h : Foots [] y) : False := by simp [Foots] at h
def AllOk (w : World) (sb : Nat) (ss : List Tr) : Prop := ∀ q ∈ ss, q.Ok w sb
theorem AllOk.ext0 {w w' : World} {sb : Nat} {ss : List Tr} (h : AllOk w sb ss) (hE : Ext [] w w') : AllOk w' sb ss := fun q hq => (h q hq).ext hE q (by simp)
theorem AllOk.extS {w w' : World} {sb : Nat} {ss : List Tr} {cs : Array Value} (h : AllOk w sb ss) (hE : Ext [sb] w w') (hB : Blk w sb 102 cs) : AllOk w' sb ss := fun q hq => (h q hq).ext hE q (fun x hx => by
  obtain rfl := by simpa using hx
  exact (h q hq).not_foot hB (by decide) (by decide))
theorem AllOk.extR {w w' : World} {sb : Nat} {ss : List Tr} {M : List Nat} (h : AllOk w sb ss) (hE : Ext M w w') (hM : ∀ q ∈ ss, ∀ x ∈ M, ¬q.Foot x) : AllOk w' sb ss := fun q hq => (h q hq).ext hE q (hM q hq)

theorem kt_pair (sb : Nat) (ks : List Tr) : kt (ks.map fun q => (sb, q)) = ks := by simp [kt, Function.comp_def]

/-- Make of what a row tells, and copies of its children -/
theorem Make_anyod {sb : Nat} {x : Int} {v : Value} {t : Tr} {ks : List Tr} {w : World} (hB : Blk w sb 102 #[.int .i64 x]) (hx : 0 ≤ x ∧ x < 4611686018427387904) (hN : Nums t) (hk : t.kd ≠ 1) (hc : Cpys t.kids ks)
    (hv : OwnV w 47 1 v ks.length (ks.map Tr.ptr)) (hks : AllOk w sb ks) (hlen : ks.length ≤ 17592186044416) :
    Calls Try.prog 20 #[.pointer (some ⟨sb, 0, none⟩), .int .i64 t.kd, .int .i64 t.nn, v] w fun e w' => ∃ t' : Tr, e = .returned (.tuple #[.pointer (some ⟨t'.b, 0, none⟩), .int .i64 0]) ∧ w.heap.size ≤ t'.b ∧ t'.Ok w' sb ∧ Cpy t t' ∧ Blk w' sb 102 #[.int .i64 (x + 1)] ∧ Ext [sb] w w' ∧ (∀ y, t'.Foot y → w.heap.size ≤ y ∨ ∃ k ∈ ks, k.Foot y) := by
  obtain ⟨n1, n2, n3, n4, n5, n6, n7, n8, n9, n10, n11⟩ := hN.inner hk
  obtain ⟨s1, s2, s3, s4⟩ := hc.sums
  have hnb : ¬Bad t.kd t.nn := by
    have := hN.nz hk
    unfold Bad; omega
  have hmx := hN.max
  refine (Make_any (ks := ks.map fun q => (sb, q)) hB hx (by simpa [List.map_map, Function.comp_def] using hv) (fun q hq => ?_) (by simpa using hlen)).mono ?_
  · obtain ⟨k, hk, rfl⟩ := List.mem_map.1 hq
    exact ⟨hks k hk, _, hB⟩
  rintro e w' ⟨pp, er, rfl, h⟩
  unfold MkR at h
  rw [kt_pair] at h
  rcases h with ⟨h, _⟩ | ⟨_, ⟨q, hq, h⟩, _⟩ | ⟨_, _, h, _⟩ | ⟨_, _, _, nb, vs, rfl, rfl, h1, h2, h3, h4, h5⟩
  · exact absurd h hnb
  · obtain ⟨k, _, rfl⟩ := List.mem_map.1 hq
    exact absurd rfl h
  · omega
  · refine ⟨.node nb (x + 1) t.kd t.nn 0 0 0 0 vs (sumW ks) (sumL ks) (1 + sumT ks) ((t.kd == 3 || t.kd == 5) || anyF ks) ks, rfl, h1, h3, (cpy_iff _ _).2 ⟨⟨rfl, rfl, n5.symm, n6.symm, ?_, ?_, ?_, ?_⟩, hc⟩, h4, h5, fun y hy => ?_⟩
    · show sumW ks = t.wd; omega
    · show sumL ks = t.lf; omega
    · show 1 + sumT ks = t.tt; omega
    · show (t.kd == 3 || t.kd == 5 || anyF ks) = t.fl; rw [s4, n11]
    · rcases (Tr.foot_iff _ _).1 hy with rfl | hy | hy
      · exact .inl h1
      · exact .inl (h2 y hy)
      · exact .inr (foots_iff.1 hy)

theorem Tall_any {sb s0 g n cap : Nat} {t : Tr} {w : World} (ht : t.Ok w s0) (hO : OwnR w 64 6 g cap n (rowsT (pre t))) (hn : n = (pre t).length) (hm : n ≤ 1000000000) (hB : Blk w sb 102 #[.int .i64 0]) :
    Calls Try.prog 26 #[.pointer (some ⟨sb, 0, none⟩), .slice (some ⟨g, 0, none⟩) n cap] w fun e w' => ∃ t' : Tr, e = .returned (.tuple #[.pointer (some ⟨t'.b, 0, none⟩), .bool true]) ∧ t'.Ok w' sb ∧ Cpy t t' ∧ Ext [sb] w w' := by
  refine calls_body 95 [(0, .pointer (some ⟨sb, 0, none⟩)), (1, .slice (some ⟨g, 0, none⟩) n cap)] Try.func26 rfl (by kernel_rfl) (by kernel_rfl) (by kernel_rfl) fun a hS => ?_
  have hE0 : Ext [sb] w w := Ext.refl _ _
  refine wpIn_seq_k fun K1 hK1 => ?_
  refine region 2 (by kernel_rfl) ?_
  refine seg wide_wide [.p, .p] [0, 1, 4, 5] [] [(0, .pointer (some ⟨sb, 0, none⟩)), (1, .slice (some ⟨g, 0, none⟩) n cap), (4, .pointer none), (5, .bool false)] 2 0 hS (by kernel_rfl) (by kernel_rfl) (by kernel_rfl) .nil fun a hS => ?_
  refine seg_end ?_
  refine hK1 _ _ ?_
  refine wpIn_seq_k fun K2 hK2 => ?_
  refine region 1 (by kernel_rfl) ?_
  refine seg wide_wide [.p] [0, 1, 4, 5, 6] [] [(0, .pointer (some ⟨sb, 0, none⟩)), (1, .slice (some ⟨g, 0, none⟩) n cap), (4, .pointer none), (5, .bool false), (6, .slice none 0 0)] 1 0 hS (by kernel_rfl) (by kernel_rfl) (by kernel_rfl) .nil fun a hS => ?_
  refine seg_end ?_
  refine hK2 _ _ ?_
  refine wpIn_seq_k fun K3 hK3 => ?_
  refine wpIn_seq_k fun K4 hK4 => ?_
  refine region 4 (by kernel_rfl) ?_
  refine seg wide_wide [.p, .p, .as (.int .i64 (↑n - 1)), .p] [0, 1, 4, 5, 6, 7] [Value.int .i64 (IntKind.i64.wrap (↑n - 1)) = .int .i64 (↑n - 1)] [(0, .pointer (some ⟨sb, 0, none⟩)), (1, .slice (some ⟨g, 0, none⟩) n cap), (4, .pointer none), (5, .bool false), (6, .slice none 0 0), (7, .int .i64 (↑n - 1))] 4 0 hS (by kernel_rfl) (by kernel_rfl) (by kernel_rfl) (.cons (as_i64 (by omega)) .nil) fun a hS => ?_
  refine seg_end ?_
  refine hK4 _ _ ?_
  refine wpIn_block ?_
  refine loop_ghost (fun ((A, us, ss, k, c, lb, lc) : List Tr × List Tr × List Tr × Int × Int × Option Addr × Nat) a' w' => St 95 [] [(0, .pointer (some ⟨sb, 0, none⟩)), (1, .slice (some ⟨g, 0, none⟩) n cap), (6, .slice lb ss.length lc), (7, .int .i64 k)] a' ∧ pre t = A ++ pres us ∧ k + 1 = A.length ∧ Cpys us ss ∧ OwnV w' 47 1 (.slice lb ss.length lc) ss.length (ss.reverse.map Tr.ptr) ∧ (∀ x ∈ oa lb, w.heap.size ≤ x) ∧ AllOk w' sb ss ∧ (∀ q ∈ ss, ∀ x ∈ oa lb, ¬q.Foot x) ∧ Blk w' sb 102 #[.int .i64 c] ∧ 0 ≤ c ∧ c + A.length ≤ n ∧ Ext [sb] w w') (fun ((A, us, ss, k, c, lb, lc) : List Tr × List Tr × List Tr × Int × Int × Option Addr × Nat) => (k + 1).toNat) (pre t, [], [], ↑n - 1, 0, none, 0) ⟨hS.keepTo [0, 1, 6, 7] (by kernel_rfl), by simp [pres], by omega, rfl, .inl ⟨rfl, rfl, rfl⟩, (fun x hx => by cases hx), (fun q hq => by cases hq), (fun q hq => by cases hq), hB, by omega, by omega, Ext.refl _ _⟩ ?_
  rintro ⟨A, us, ss, k, c, lb, lc⟩ a w3 ⟨hS, hpre, hkA, hcp, hlO, hln, hall, hnf, hsb, hc0, hcn, hEx⟩
  have hgs : g ∉ [sb] := by simpa using OwnR.ne_type hO hB (by decide)
  have hO3 := hO.ext hEx hgs
  have hln3 : ∀ x ∈ oa lb, x < w3.heap.size := fun x hx => hlO.lie x (by rw [ob_oa]; exact hx)
  have hlen := hcp.len
  have hsz3 : w3.heap.size ≤ w3.heap.size := Nat.le_refl _
  refine wpIn_seq_k fun K5 hK5 => ?_
  refine wpIn_seq_k fun K6 hK6 => ?_
  refine region 2 (by kernel_rfl) ?_
  refine seg wide_wide [.p, .p] [0, 1, 6, 7, 17] [] [(0, .pointer (some ⟨sb, 0, none⟩)), (1, .slice (some ⟨g, 0, none⟩) n cap), (6, .slice lb ss.length lc), (7, .int .i64 k), (17, .bool (decide ((k : Int) ≥ 0)))] 2 0 hS (by kernel_rfl) (by kernel_rfl) (by kernel_rfl) .nil fun a hS => ?_
  refine seg_end ?_
  refine hK6 _ _ ?_
  refine cond_b hS rfl (fun hb7 => ?_) (fun hb7 => ?_)
  · -- decide ((k : Int) ≥ 0) is true
    replace hb7 := of_decide_eq_true hb7
    obtain ⟨A', x, rfl⟩ : ∃ A' x, A = A' ++ [x] := by
      rcases List.eq_nil_or_concat A with h | ⟨A', x, h⟩
      · subst h; simp at hkA; omega
      · exact ⟨A', x, by rw [h, List.concat_eq_append]⟩
    have hkA' : k = (A'.length : Int) := by simp at hkA; omega
    subst hkA'
    have hpre2 : pre t = A' ++ x :: pres us := by rw [hpre]; simp
    have hil : A'.length < n := by rw [hn, hpre2]; simp
    have hix : (pre t)[A'.length]? = some x := by rw [hpre2]; simp
    have hxo : x.Ok w s0 := pre_ok ht x (List.mem_of_getElem? hix)
    have hN := hxo.nums
    have hcA : c + A'.length + 1 ≤ n := by simp at hcn; omega
    have hpx := pres_at A' [t] x (pres us) (by rw [← hpre2]; simp [pres])
    have hlp : (pres us).length + A'.length + 1 = n := by rw [hn, hpre2]; simp; omega
    have hul : us.length ≤ (pres us).length := pres_len us
    have htl : (A' ++ [x]).length = A'.length + 1 := by simp
    refine wpIn_skip ?_
    refine hK5 _ _ ?_
    refine wpIn_seq_k fun K8 hK8 => ?_
    refine wpIn_block ?_
    refine wpIn_seq_k fun K9 hK9 => ?_
    refine region 6 (by kernel_rfl) ?_
    refine seg wide_wide [.p, .p, .run (.pointer (some ⟨g, 0 + A'.length * 6, none⟩)), .lds [.int .i64 x.kd, .int .i64 x.nn, .int .i64 x.ls, .int .i64 x.ll, .int .i64 ↑x.kids.length, .int .i64 x.num]] [0, 1, 6, 7, 23] [Sem.run Try.prog (vS (Instr.indexAt 54 (.slice (some ⟨g, 0, none⟩) n cap) (.int .i64 ↑A'.length))) w3 = .ok (.value (.pointer (some ⟨g, 0 + A'.length * 6, none⟩))) w3, w3.cell? ⟨g, 0 + A'.length * 6, none⟩ = some (.int .i64 x.kd), w3.cell? ⟨g, 0 + A'.length * 6 + 1, none⟩ = some (.int .i64 x.nn), w3.cell? ⟨g, 0 + A'.length * 6 + 2, none⟩ = some (.int .i64 x.ls), w3.cell? ⟨g, 0 + A'.length * 6 + 3, none⟩ = some (.int .i64 x.ll), w3.cell? ⟨g, 0 + A'.length * 6 + 4, none⟩ = some (.int .i64 ↑x.kids.length), w3.cell? ⟨g, 0 + A'.length * 6 + 5, none⟩ = some (.int .i64 x.num)] [(0, .pointer (some ⟨sb, 0, none⟩)), (1, .slice (some ⟨g, 0, none⟩) n cap), (6, .slice lb ss.length lc), (7, .int .i64 ↑A'.length), (23, .agg #[.int .i64 x.kd, .int .i64 x.nn, .int .i64 x.ls, .int .i64 x.ll, .int .i64 ↑x.kids.length, .int .i64 x.num])] 4 2 hS (by kernel_rfl) (by kernel_rfl) (by kernel_rfl) (.cons (ix_slice (E := 64) (size := 6) (j := A'.length) (by kernel_rfl) (by kernel_rfl) rfl hil) (.cons ((hO3).cellAt _ (by rw [show 0 + A'.length * 6 = 0 + A'.length * 6 + 0 from rfl, rowsT_at (pre t) A'.length 0 x hix (by omega)]; rfl)) (.cons ((hO3).cellAt _ (by rw [show 0 + A'.length * 6 + 1 = 0 + A'.length * 6 + 1 from rfl, rowsT_at (pre t) A'.length 1 x hix (by omega)]; rfl)) (.cons ((hO3).cellAt _ (by rw [show 0 + A'.length * 6 + 2 = 0 + A'.length * 6 + 2 from rfl, rowsT_at (pre t) A'.length 2 x hix (by omega)]; rfl)) (.cons ((hO3).cellAt _ (by rw [show 0 + A'.length * 6 + 3 = 0 + A'.length * 6 + 3 from rfl, rowsT_at (pre t) A'.length 3 x hix (by omega)]; rfl)) (.cons ((hO3).cellAt _ (by rw [show 0 + A'.length * 6 + 4 = 0 + A'.length * 6 + 4 from rfl, rowsT_at (pre t) A'.length 4 x hix (by omega)]; rfl)) (.cons ((hO3).cellAt _ (by rw [show 0 + A'.length * 6 + 5 = 0 + A'.length * 6 + 5 from rfl, rowsT_at (pre t) A'.length 5 x hix (by omega)]; rfl)) .nil))))))) fun a hS => ?_
    refine eff_box wide_wide (r := 1) (cs := #[.int .i64 0, .int .i64 0, .int .i64 0, .int .i64 0, .int .i64 0, .int .i64 0]) (T := 64) (d := (some 8)) hS (by kernel_rfl) fun a w10 hw11 hS => ?_
    have hn12 : g ≠ w3.heap.size := Nat.ne_of_lt hO3.lt
    have hn13 : ∀ x ∈ ob (.slice lb ss.length lc), w3.heap.size ≠ x := fun x hx => Nat.ne_of_gt (hlO.lie x hx)
    have hn14 : sb ≠ w3.heap.size := Nat.ne_of_lt hsb.lt
    have hB15 := OwnR.at' hw11 (hO3.alloc _)
    have hB16 := OwnV.at' hw11 (hlO.alloc _)
    have hB17 := Blk.at' hw11 (hsb.alloc _)
    have hX18 : Ext [] w3 w10 := by rw [hw11]; exact (Ext.refl _ _).alloc _
    have hG19 : w3.heap.size ≤ w10.heap.size := Nat.le_trans hsz3 hX18.size
    have hG20 : AllOk w10 sb ss := hall.ext0 hX18
    have hB21 : Blk w10 (w3.heap.size) 64 #[.int .i64 0, .int .i64 0, .int .i64 0, .int .i64 0, .int .i64 0, .int .i64 0] := by rw [hw11]; exact Blk.new _ _ _
    have hs22 : w.heap.size ≤ w3.heap.size := hEx.size
    have hE23 : Ext [sb] w w10 := by rw [hw11]; exact hEx.alloc _
    refine eff_store wide_wide (r := 0) (b := w3.heap.size) (off := 0) (vs := [.int .i64 x.kd, .int .i64 x.nn, .int .i64 x.ls, .int .i64 x.ll, .int .i64 ↑x.kids.length, .int .i64 x.num]) hS (by kernel_rfl) hB21 (by simp) fun a w24 hw25 hS => ?_
    have hB26 := OwnR.at' hw25 (hB15.updNe (Ne.symm hn12) _ _)
    have hB27 := OwnV.at' hw25 (hB16.updNe hn13 _ _)
    have hB28 := Blk.at' hw25 (hB17.updNe (Ne.symm hn14) _ _)
    have hB29 : Blk w24 w3.heap.size 64 (#[.int .i64 x.kd, .int .i64 x.nn, .int .i64 x.ls, .int .i64 x.ll, .int .i64 ↑x.kids.length, .int .i64 x.num]) := by rw [hw25]; exact hB21.upd _ _
    have hX30 : Ext [w3.heap.size] w10 w24 := by rw [hw25]; exact (Ext.refl _ _).updIn (.inl (by simp)) _ _
    have hG31 : w3.heap.size ≤ w24.heap.size := Nat.le_trans hG19 hX30.size
    have hG32 : AllOk w24 sb ss := hG20.extR hX30 (fun q hq y hy hf => by obtain rfl := (by simpa using hy); exact (hG20 q hq).not_foot hB21 (by decide) (by decide) hf)
    have hE33 : Ext [sb] w w24 := by rw [hw25]; exact hE23.updIn (.inr hs22) _ _
    refine seg_end ?_
    refine hK9 _ _ ?_
    refine wpIn_seq_k fun K34 hK34 => ?_
    refine wpIn_seq_k fun K35 hK35 => ?_
    refine region 3 (by kernel_rfl) ?_
    refine seg wide_wide [.p, .ld (.int .i64 x.kd), .p] [0, 1, 6, 7, 8, 26] [w24.cell? ⟨w3.heap.size, 0, none⟩ = some (.int .i64 x.kd)] [(0, .pointer (some ⟨sb, 0, none⟩)), (1, .slice (some ⟨g, 0, none⟩) n cap), (6, .slice lb ss.length lc), (7, .int .i64 ↑A'.length), (8, .pointer (some ⟨w3.heap.size, 0, none⟩)), (26, .bool ((x.kd : Int) == 1))] 3 0 hS (by kernel_rfl) (by kernel_rfl) (by kernel_rfl) (.cons (hB29.cell 0 rfl) .nil) fun a hS => ?_
    refine seg_end ?_
    refine hK35 _ _ ?_
    refine cond_b hS rfl (fun hb36 => ?_) (fun hb36 => ?_)
    · -- ((x.kd : Int) == 1) is true
      replace hb36 := test_eq_t hb36
      have hkd := hb36
      obtain ⟨l1, l2, l3, l4, l5, l6⟩ := hN.leaf hkd
      obtain ⟨vs, hvs⟩ := hpx
      have hus : us = vs := pres_inj _ _ _ (Nat.le_refl _) (by rw [hvs, l1]; rfl)
      refine wpIn_seq_k fun K37 hK37 => ?_
      refine region 13 (by kernel_rfl) ?_
      refine seg wide_wide [.p, .p, .p, .ld (.int .i64 x.nn), .p, .ld (.int .i64 x.ls), .p, .ld (.int .i64 x.ll), .p] [0, 1, 6, 7, 8, 27, 28, 35] [w24.cell? ⟨w3.heap.size, 1, none⟩ = some (.int .i64 x.nn), w24.cell? ⟨w3.heap.size, 2, none⟩ = some (.int .i64 x.ls), w24.cell? ⟨w3.heap.size, 3, none⟩ = some (.int .i64 x.ll)] [(0, .pointer (some ⟨sb, 0, none⟩)), (1, .slice (some ⟨g, 0, none⟩) n cap), (6, .slice lb ss.length lc), (7, .int .i64 ↑A'.length), (8, .pointer (some ⟨w3.heap.size, 0, none⟩)), (27, .slice lb ss.length lc), (28, .pointer (some ⟨sb, 0, none⟩)), (35, .agg #[.int .i64 x.nn, .int .i64 x.ls, .int .i64 x.ll, .int .i64 0])] 9 4 hS (by kernel_rfl) (by kernel_rfl) (by kernel_rfl) (.cons (hB29.cell 1 rfl) (.cons (hB29.cell 2 rfl) (.cons (hB29.cell 3 rfl) .nil))) fun a hS => ?_
      refine eff_call wide_wide (r := 3) (f := 18) (vs := [.pointer (some ⟨sb, 0, none⟩), .agg #[.int .i64 x.nn, .int .i64 x.ls, .int .i64 x.ll, .int .i64 0]]) (cap := #[]) (d := (some 36)) hS (by kernel_rfl) Try.call18 #[.pointer (some ⟨sb, 0, none⟩), .agg #[.int .i64 x.nn, .int .i64 x.ls, .int .i64 x.ll, .int .i64 0]] (by kernel_rfl) (Leaf_tr hB28 (by omega)) ?_
      rintro _ w18 ⟨nb, rfl, hnb, hlf, h102w18, hE18⟩
      refine ⟨_, rfl, fun a hS => ?_⟩
      have hE18x := hE33.trans hE18 (fun b hb => .inl hb)
      have hnfl : ∀ y, (leafT nb (c + 1) x.nn x.ls x.ll 0).Foot y → y = nb := fun y hy => by
        rcases (Tr.foot_iff _ _).1 hy with h | h | h
        · exact h
        · cases h
        · exact (Foots_nil h).elim
      have hB38 := hB26.ext hE18 (by simpa using (OwnR.ne_type hB26 hB28 (by decide)))
      have hB39 := hB27.ext hE18 (fun x hx hm => by simp at hm; exact (OwnV.ne hB27 hB28 (by decide)) x hx hm.symm)
      have hB40 := hB29.ext hE18 (by simpa using (Ne.symm hn14))
      have hG41 : w3.heap.size ≤ w18.heap.size := Nat.le_trans hG31 hE18.size
      have hG42 : AllOk w18 sb ss := hG32.extS hE18 hB28
      have hsz18 : w18.heap.size ≤ w18.heap.size := Nat.le_refl _
      have hnb3 := Nat.le_trans hG31 hnb
      have hlf18 : AllOk w18 sb [leafT nb (c + 1) x.nn x.ls x.ll 0] := fun q hq => by
        obtain rfl := by simpa using hq
        exact hlf
      refine eff_new wide_wide (r := 2) (cs := #[.pointer (some ⟨nb, 0, none⟩)]) (T := 47) (v := Value.slice (some ⟨w18.heap.size, 0, none⟩) 1 1) (d := (some 37)) hS (by kernel_rfl) fun a w43 hw44 hS => ?_
      have hn45 : g ≠ w18.heap.size := Nat.ne_of_lt hB38.lt
      have hn46 : ∀ x ∈ ob (.slice lb ss.length lc), w18.heap.size ≠ x := fun x hx => Nat.ne_of_gt (hB39.lie x hx)
      have hn47 : w3.heap.size ≠ w18.heap.size := Nat.ne_of_lt hB40.lt
      have hn48 : sb ≠ w18.heap.size := Nat.ne_of_lt h102w18.lt
      have hB49 := OwnR.at' hw44 (hB38.alloc _)
      have hB50 := OwnV.at' hw44 (hB39.alloc _)
      have hB51 := Blk.at' hw44 (hB40.alloc _)
      have hB52 := Blk.at' hw44 (h102w18.alloc _)
      have hX53 : Ext [] w18 w43 := by rw [hw44]; exact (Ext.refl _ _).alloc _
      have hG54 : w3.heap.size ≤ w43.heap.size := Nat.le_trans hG41 hX53.size
      have hG55 : AllOk w43 sb ss := hG42.ext0 hX53
      have hG56 : w18.heap.size ≤ w43.heap.size := Nat.le_trans hsz18 hX53.size
      have hG57 : AllOk w43 sb [leafT nb (c + 1) x.nn x.ls x.ll 0] := hlf18.ext0 hX53
      have hB58 : Blk w43 (w18.heap.size) 47 #[.pointer (some ⟨nb, 0, none⟩)] := by rw [hw44]; exact Blk.new _ _ _
      have hs59 : w.heap.size ≤ w18.heap.size := hE18x.size
      have hE60 : Ext [sb] w w43 := by rw [hw44]; exact hE18x.alloc _
      refine eff_append2 wide_wide (r := 1) (d := (some 38)) (t := 32) (ty := 32) (e := 47) (size := 1) (bytes := 8) (len := ss.length) (b := w18.heap.size) (off := 0) (k := 1) (c := 1) (z := #[.pointer none]) (v := Value.slice lb ss.length lc) (xs := (ss.reverse.map Tr.ptr)) [.pointer (some ⟨nb, 0, none⟩)] hS (by kernel_rfl) (by kernel_rfl) (by kernel_rfl) (by kernel_rfl) (by kernel_rfl) hB50 (by simp) (fun j u hu => by rw [Nat.zero_add]; exact hB58.cell j (by simpa using hu)) rfl (by omega) (by omega) (by omega) fun ga61 ca61 a wa61 hOa61 hEa61 hFa61 hS => ?_
      have hB62 := hB49.ext hEa61 (fun hm => hB49.v.disj hB50 (by decide) _ (by simp [ob]) hm)
      have hB63 := hB51.ext hEa61 (fun hm => hn13 _ hm rfl)
      have hB64 := hB52.ext hEa61 (hB50.notin hB52 (by decide))
      have hB65 := hB58.ext hEa61 (fun hm => hn46 _ hm rfl)
      have hE66 : Ext [sb] w wa61 := hE60.trans hEa61 (fun b hb => .inr (hln b (by rw [ob_oa] at hb; exact hb)))
      have hG67 : w3.heap.size ≤ wa61.heap.size := Nat.le_trans hG54 hEa61.size
      have hG68 : AllOk wa61 sb ss := hG55.extR hEa61 (fun q hq y hy => hnf q hq y (by rw [ob_oa] at hy; exact hy))
      have hG69 : w18.heap.size ≤ wa61.heap.size := Nat.le_trans hG56 hEa61.size
      have hG70 : AllOk wa61 sb [leafT nb (c + 1) x.nn x.ls x.ll 0] := hG57.extR hEa61 (fun q hq y hy hf => by obtain rfl := (by simpa using hq); rw [ob_oa] at hy; have := hnfl _ hf; have := hln3 _ hy; omega)
      refine seg wide_wide [.p] [0, 1, 6, 7, 8] [] [(0, .pointer (some ⟨sb, 0, none⟩)), (1, .slice (some ⟨g, 0, none⟩) n cap), (6, .slice (some ⟨ga61, 0, none⟩) (ss.length + 1) ca61), (7, .int .i64 ↑A'.length), (8, .pointer (some ⟨w3.heap.size, 0, none⟩))] 13 0 hS (by kernel_rfl) (by kernel_rfl) (by kernel_rfl) .nil fun a hS => ?_
      refine seg_end ?_
      refine hK37 _ _ ?_
      refine wpIn_exit ?_
      refine then_exit ?_
      refine inBlock_hit ?_
      refine hK8 _ _ ?_
      refine region 3 (by kernel_rfl) ?_
      refine seg wide_wide [.p, .as (.int .i64 (↑A'.length - 1)), .p] [0, 1, 6, 7, 8] [Value.int .i64 (IntKind.i64.wrap (↑A'.length - 1)) = .int .i64 (↑A'.length - 1)] [(0, .pointer (some ⟨sb, 0, none⟩)), (1, .slice (some ⟨g, 0, none⟩) n cap), (6, .slice (some ⟨ga61, 0, none⟩) (ss.length + 1) ca61), (7, .int .i64 (↑A'.length - 1)), (8, .pointer (some ⟨w3.heap.size, 0, none⟩))] 3 0 hS (by kernel_rfl) (by kernel_rfl) (by kernel_rfl) (.cons (as_i64 (by omega)) .nil) fun a hS => ?_
      refine seg_end ?_
      refine ⟨(A', x :: us, leafT nb (c + 1) x.nn x.ls x.ll 0 :: ss, (A'.length : Int) - 1, c + 1, some ⟨ga61, 0, none⟩, ca61), ⟨hS.keepTo [0, 1, 6, 7] (by kernel_rfl), ?_, by omega, ⟨_, _, rfl, ?_, hcp⟩, ?_, ?_, ?_, ?_, hB64, by omega, by omega, hE66⟩, by simp only; omega⟩
      · rw [hpre2, pres_cons, l1]; rfl
      · exact (cpy_iff _ _).2 ⟨⟨Eq.symm hkd, rfl, rfl, rfl, l2.symm, l3.symm, l4.symm, by rw [l5, l6]; rfl⟩, by rw [l1]; rfl⟩
      · have h := (hOa61 : OwnR _ _ _ _ _ _ _).v
        simpa [Tr.ptr, leafT, Tr.b] using h
      · intro y hy
        obtain rfl := (by have h := hy; simp [oa] at h; exact h.symm : ga61 = y)
        rcases hFa61 ga61 (by simp) with h | h
        · exact hln _ (by rw [ob_oa] at h; exact h)
        · exact Nat.le_trans hE60.size h
      · intro q hq
        rcases List.mem_cons.1 hq with rfl | hq
        · exact hG70 _ (by simp)
        · exact hG68 q hq
      · intro q hq y hy hf
        obtain rfl := (by have h := hy; simp [oa] at h; exact h.symm : ga61 = y)
        rcases hFa61 ga61 (by simp) with h | h
        · rw [ob_oa] at h
          rcases List.mem_cons.1 hq with rfl | hq
          · have := hnfl _ hf; have := hln3 _ h; omega
          · exact hnf q hq _ h hf
        · have hz := hG56
          rcases List.mem_cons.1 hq with rfl | hq
          · have := (hlf18 _ (by simp)).foot_lt hf; omega
          · have := (hall q hq).foot_lt hf; have := hG54; omega
    · -- ((x.kd : Int) == 1) is false
      replace hb36 := test_eq_f hb36
      have hk1 : x.kd ≠ 1 := hb36
      obtain ⟨vs, hvs⟩ := hpx
      have hus : us = x.kids ++ vs := pres_inj _ _ _ (Nat.le_refl _) hvs
      obtain ⟨k1, s2, hss, hc1, hc2⟩ := Cpys.split (by rw [← hus]; exact hcp)
      have hl1 := hc1.len
      have hsl : ss.length = k1.length + s2.length := by rw [hss]; simp
      refine wpIn_skip ?_
      refine hK34 _ _ ?_
      refine wpIn_seq_k fun K71 hK71 => ?_
      refine wpIn_seq_k fun K72 hK72 => ?_
      refine region 10 (by kernel_rfl) ?_
      refine seg wide_wide [.p, .ld (.int .i64 ↑x.kids.length), .as (.bool false), .p, .p, .ld (.int .i64 ↑x.kids.length), .p, .p, .as (.bool false), .p] [0, 1, 6, 7, 8, 48] [w24.cell? ⟨w3.heap.size, 4, none⟩ = some (.int .i64 ↑x.kids.length), Value.bool (decide ((↑x.kids.length : Int) < 0)) = .bool false, w24.cell? ⟨w3.heap.size, 4, none⟩ = some (.int .i64 ↑x.kids.length), Value.bool (decide ((↑x.kids.length : Int) > ↑ss.length)) = .bool false] [(0, .pointer (some ⟨sb, 0, none⟩)), (1, .slice (some ⟨g, 0, none⟩) n cap), (6, .slice lb ss.length lc), (7, .int .i64 ↑A'.length), (8, .pointer (some ⟨w3.heap.size, 0, none⟩)), (48, .bool false)] 10 0 hS (by kernel_rfl) (by kernel_rfl) (by kernel_rfl) (.cons (hB29.cell 4 rfl) (.cons (as_f (by omega)) (.cons (hB29.cell 4 rfl) (.cons (as_f (by omega)) .nil)))) fun a hS => ?_
      refine seg_end ?_
      refine hK72 _ _ ?_
      refine cond_f hS rfl ?_
      refine wpIn_skip ?_
      refine hK71 _ _ ?_
      refine wpIn_seq_k fun K73 hK73 => ?_
      refine region 1 (by kernel_rfl) ?_
      refine seg wide_wide [.p] [0, 1, 6, 7, 8, 48, 9] [] [(0, .pointer (some ⟨sb, 0, none⟩)), (1, .slice (some ⟨g, 0, none⟩) n cap), (6, .slice lb ss.length lc), (7, .int .i64 ↑A'.length), (8, .pointer (some ⟨w3.heap.size, 0, none⟩)), (48, .bool false), (9, .slice none 0 0)] 1 0 hS (by kernel_rfl) (by kernel_rfl) (by kernel_rfl) .nil fun a hS => ?_
      refine seg_end ?_
      refine hK73 _ _ ?_
      refine wpIn_seq_k fun K74 hK74 => ?_
      refine wpIn_seq_k fun K75 hK75 => ?_
      refine region 1 (by kernel_rfl) ?_
      refine seg wide_wide [.p] [0, 1, 6, 7, 8, 48, 9, 10] [] [(0, .pointer (some ⟨sb, 0, none⟩)), (1, .slice (some ⟨g, 0, none⟩) n cap), (6, .slice lb ss.length lc), (7, .int .i64 ↑A'.length), (8, .pointer (some ⟨w3.heap.size, 0, none⟩)), (48, .bool false), (9, .slice none 0 0), (10, .int .i64 0)] 1 0 hS (by kernel_rfl) (by kernel_rfl) (by kernel_rfl) .nil fun a hS => ?_
      refine seg_end ?_
      refine hK75 _ _ ?_
      refine wpIn_block ?_
      obtain ⟨rb, hrb0⟩ : ∃ rb, rb = w3.heap.size := ⟨_, rfl⟩
      have hrb4 : Blk w24 rb 64 #[.int .i64 x.kd, .int .i64 x.nn, .int .i64 x.ls, .int .i64 x.ll, .int .i64 ↑x.kids.length, .int .i64 x.num] := by rw [hrb0]; exact hB29
      have hlO4 := hB27
      have hsb4 := hB28
      have hall4 := hG32
      have hE4 := hE33
      have hO4 := hB26
      have hsz4 := hG31
      have hln4 : ∀ x ∈ oa lb, x < w24.heap.size := fun x hx => hlO4.lie x (by rw [ob_oa]; exact hx)
      have hlO5 : OwnV w24 47 1 (.slice lb (k1 ++ s2).length lc) (k1 ++ s2).length ((k1 ++ s2).reverse.map Tr.ptr) := by rw [← hss]; exact hlO4
      replace hS := hS.keepTo [0, 1, 6, 7, 8, 9, 10] (m' := [(0, .pointer (some ⟨sb, 0, none⟩)), (1, .slice (some ⟨g, 0, none⟩) n cap), (6, .slice lb ss.length lc), (7, .int .i64 ↑A'.length), (8, .pointer (some ⟨w3.heap.size, 0, none⟩)), (9, .slice none 0 0), (10, .int .i64 0)]) (by kernel_rfl)
      rw [← hrb0] at hS
      replace hS : St 95 [] [(0, .pointer (some ⟨sb, 0, none⟩)), (1, .slice (some ⟨g, 0, none⟩) n cap), (6, .slice lb ((k1 ++ s2).length) lc), (7, .int .i64 ↑A'.length), (8, .pointer (some ⟨rb, 0, none⟩)), (9, .slice none 0 0), (10, .int .i64 0)] a := by rw [hss] at hS; exact hS
      refine loop_ghost (fun ((p, d, kb, kc) : List Tr × List Tr × Option Addr × Nat) a' w' => St 95 [] [(0, .pointer (some ⟨sb, 0, none⟩)), (1, .slice (some ⟨g, 0, none⟩) n cap), (6, .slice lb ((d ++ s2).length) lc), (7, .int .i64 ↑A'.length), (8, .pointer (some ⟨rb, 0, none⟩)), (9, .slice kb p.length kc), (10, .int .i64 ↑p.length)] a' ∧ k1 = p ++ d ∧ OwnV w' 47 1 (.slice kb p.length kc) p.length (p.map Tr.ptr) ∧ (∀ x ∈ oa kb, w24.heap.size ≤ x) ∧ Ext [] w24 w') (fun ((p, d, kb, kc) : List Tr × List Tr × Option Addr × Nat) => d.length) ([], k1, none, 0) ⟨hS.keepTo [0, 1, 6, 7, 8, 9, 10] (by kernel_rfl), by simp, .inl ⟨rfl, rfl, rfl⟩, (fun x hx => by cases hx), Ext.refl _ _⟩ ?_
      rintro ⟨p, d, kb, kc⟩ a w5 ⟨hS, hpd, hkO, hkn, hE45⟩
      have hlO6 := (hlO5.ext hE45 (by simp)).take (k := (d ++ s2).length) (by simp [hpd])
      have hrb5 := hrb4.ext hE45 (by simp)
      have hpl : k1.length = p.length + d.length := by rw [hpd]; simp
      refine wpIn_seq_k fun K76 hK76 => ?_
      refine wpIn_seq_k fun K77 hK77 => ?_
      refine region 4 (by kernel_rfl) ?_
      refine seg wide_wide [.p, .p, .ld (.int .i64 ↑x.kids.length), .p] [0, 1, 6, 7, 8, 9, 10, 52] [w5.cell? ⟨rb, 4, none⟩ = some (.int .i64 ↑x.kids.length)] [(0, .pointer (some ⟨sb, 0, none⟩)), (1, .slice (some ⟨g, 0, none⟩) n cap), (6, .slice lb ((d ++ s2).length) lc), (7, .int .i64 ↑A'.length), (8, .pointer (some ⟨rb, 0, none⟩)), (9, .slice kb p.length kc), (10, .int .i64 ↑p.length), (52, .bool (decide ((↑p.length : Int) < ↑x.kids.length)))] 4 0 hS (by kernel_rfl) (by kernel_rfl) (by kernel_rfl) (.cons (hrb5.cell 4 rfl) .nil) fun a hS => ?_
      refine seg_end ?_
      refine hK77 _ _ ?_
      refine cond_b hS rfl (fun hb78 => ?_) (fun hb78 => ?_)
      · -- decide ((↑p.length : Int) < ↑x.kids.length) is true
        replace hb78 := of_decide_eq_true hb78
        obtain ⟨y, d', rfl⟩ : ∃ y d', d = y :: d' := by
          cases d with
          | nil => simp at hpl; omega
          | cons y d' => exact ⟨y, d', rfl⟩
        have hdl : (y :: d' ++ s2).length = d'.length + 1 + s2.length := by simp; omega
        have hdl2 : (d' ++ s2).length = d'.length + s2.length := by simp
        have hdl3 : (y :: d').length = d'.length + 1 := by simp
        refine wpIn_skip ?_
        refine hK76 _ _ ?_
        refine wpIn_seq_k fun K79 hK79 => ?_
        refine wpIn_block ?_
        refine wpIn_seq_k fun K80 hK80 => ?_
        refine region 10 (by kernel_rfl) ?_
        refine seg wide_wide [.p, .p, .p, .p, .as (.int .i64 ((((y :: d' ++ s2).length : Nat) : Int) - 1)), .run (.pointer (some ⟨bof (.slice lb ((y :: d' ++ s2).length) lc), 0 + ((d' ++ s2).length) * 1, none⟩)), .ld (.pointer (some ⟨y.b, 0, none⟩))] [0, 1, 6, 7, 8, 9, 10, 55, 61] [Value.int .i64 (IntKind.i64.wrap ((((y :: d' ++ s2).length : Nat) : Int) - 1)) = .int .i64 ((((y :: d' ++ s2).length : Nat) : Int) - 1), Sem.run Try.prog (vS (Instr.indexAt 32 (.slice lb ((y :: d' ++ s2).length) lc) (.int .i64 ((((y :: d' ++ s2).length : Nat) : Int) - 1)))) w5 = .ok (.value (.pointer (some ⟨bof (.slice lb ((y :: d' ++ s2).length) lc), 0 + ((d' ++ s2).length) * 1, none⟩))) w5, w5.cell? ⟨bof (.slice lb ((y :: d' ++ s2).length) lc), 0 + ((d' ++ s2).length) * 1, none⟩ = some (.pointer (some ⟨y.b, 0, none⟩))] [(0, .pointer (some ⟨sb, 0, none⟩)), (1, .slice (some ⟨g, 0, none⟩) n cap), (6, .slice lb ((y :: d' ++ s2).length) lc), (7, .int .i64 ↑A'.length), (8, .pointer (some ⟨rb, 0, none⟩)), (9, .slice kb p.length kc), (10, .int .i64 ↑p.length), (55, .slice kb p.length kc), (61, .pointer (some ⟨y.b, 0, none⟩))] 7 3 hS (by kernel_rfl) (by kernel_rfl) (by kernel_rfl) (.cons (as_i64 (by omega)) (.cons (ix_own (j := (d' ++ s2).length) (hlO6) (by kernel_rfl) (by kernel_rfl) (by omega) (by omega)) (.cons ((hlO6).cellAt _ (by rw [hpd]; exact stk_at p d' s2 y _ (by omega))) .nil))) fun a hS => ?_
        refine eff_new wide_wide (r := 2) (cs := #[.pointer (some ⟨y.b, 0, none⟩)]) (T := 47) (v := Value.slice (some ⟨w5.heap.size, 0, none⟩) 1 1) (d := (some 62)) hS (by kernel_rfl) fun a w81 hw82 hS => ?_
        have hn83 : rb ≠ w5.heap.size := Nat.ne_of_lt hrb5.lt
        have hn84 : ∀ x ∈ ob (.slice lb ((y :: d' ++ s2).length) lc), w5.heap.size ≠ x := fun x hx => Nat.ne_of_gt (hlO6.lie x hx)
        have hn85 : ∀ x ∈ ob (.slice kb p.length kc), w5.heap.size ≠ x := fun x hx => Nat.ne_of_gt (hkO.lie x hx)
        have hB86 := Blk.at' hw82 (hrb5.alloc _)
        have hB87 := OwnV.at' hw82 (hlO6.alloc _)
        have hB88 := OwnV.at' hw82 (hkO.alloc _)
        have hB89 : Blk w81 (w5.heap.size) 47 #[.pointer (some ⟨y.b, 0, none⟩)] := by rw [hw82]; exact Blk.new _ _ _
        have hs90 : w24.heap.size ≤ w5.heap.size := hE45.size
        have hE91 : Ext [] w24 w81 := by rw [hw82]; exact hE45.alloc _
        refine eff_append2 wide_wide (r := 1) (d := (some 63)) (t := 32) (ty := 32) (e := 47) (size := 1) (bytes := 8) (len := p.length) (b := w5.heap.size) (off := 0) (k := 1) (c := 1) (z := #[.pointer none]) (v := Value.slice kb p.length kc) (xs := (p.map Tr.ptr)) [.pointer (some ⟨y.b, 0, none⟩)] hS (by kernel_rfl) (by kernel_rfl) (by kernel_rfl) (by kernel_rfl) (by kernel_rfl) hB88 (by simp) (fun j u hu => by rw [Nat.zero_add]; exact hB89.cell j (by simpa using hu)) rfl (by omega) (by omega) (by omega) fun ga92 ca92 a wa92 hOa92 hEa92 hFa92 hS => ?_
        have hB93 := hB86.ext hEa92 (hB88.notin hB86 (by decide))
        have hB94 := hB87.ext hEa92 ((fun y hy hm => by rw [ob_oa] at hy hm; have h1 := hln4 y hy; have h2 := hkn y hm; omega))
        have hB95 := hB89.ext hEa92 (fun hm => hn85 _ hm rfl)
        have hE96 : Ext [] w24 wa92 := hE91.trans hEa92 (fun b hb => .inr (hkn b (by rw [ob_oa] at hb; exact hb)))
        refine seg wide_wide [.p] [0, 1, 6, 7, 8, 9, 10] [] [(0, .pointer (some ⟨sb, 0, none⟩)), (1, .slice (some ⟨g, 0, none⟩) n cap), (6, .slice lb ((y :: d' ++ s2).length) lc), (7, .int .i64 ↑A'.length), (8, .pointer (some ⟨rb, 0, none⟩)), (9, .slice (some ⟨ga92, 0, none⟩) (p.length + 1) ca92), (10, .int .i64 ↑p.length)] 10 0 hS (by kernel_rfl) (by kernel_rfl) (by kernel_rfl) .nil fun a hS => ?_
        refine seg_end ?_
        refine hK80 _ _ ?_
        refine region 6 (by kernel_rfl) ?_
        refine seg wide_wide [.p, .p, .p, .as (.int .i64 ((((y :: d' ++ s2).length : Nat) : Int) - 1)), .run (.slice lb ((d' ++ s2).length) lc), .p] [0, 1, 6, 7, 8, 9, 10] [Value.int .i64 (IntKind.i64.wrap ((((y :: d' ++ s2).length : Nat) : Int) - 1)) = .int .i64 ((((y :: d' ++ s2).length : Nat) : Int) - 1), Sem.run Try.prog (vS (Instr.sliceAt 32 (.slice lb ((y :: d' ++ s2).length) lc) none (some (.int .i64 ((((y :: d' ++ s2).length : Nat) : Int) - 1))) none)) wa92 = .ok (.value (.slice lb ((d' ++ s2).length) lc)) wa92] [(0, .pointer (some ⟨sb, 0, none⟩)), (1, .slice (some ⟨g, 0, none⟩) n cap), (6, .slice lb ((d' ++ s2).length) lc), (7, .int .i64 ↑A'.length), (8, .pointer (some ⟨rb, 0, none⟩)), (9, .slice (some ⟨ga92, 0, none⟩) (p.length + 1) ca92), (10, .int .i64 ↑p.length)] 6 0 hS (by kernel_rfl) (by kernel_rfl) (by kernel_rfl) (.cons (as_i64 (by omega)) (.cons (sl_own (k := (d' ++ s2).length) (hB94) (by kernel_rfl) (by kernel_rfl) (by omega) (by omega)) .nil)) fun a hS => ?_
        refine seg_end ?_
        refine inBlock_normal ?_
        refine hK79 _ _ ?_
        refine region 3 (by kernel_rfl) ?_
        refine seg wide_wide [.p, .as (.int .i64 (↑p.length + 1)), .p] [0, 1, 6, 7, 8, 9, 10] [Value.int .i64 (IntKind.i64.wrap (↑p.length + 1)) = .int .i64 (↑p.length + 1)] [(0, .pointer (some ⟨sb, 0, none⟩)), (1, .slice (some ⟨g, 0, none⟩) n cap), (6, .slice lb ((d' ++ s2).length) lc), (7, .int .i64 ↑A'.length), (8, .pointer (some ⟨rb, 0, none⟩)), (9, .slice (some ⟨ga92, 0, none⟩) (p.length + 1) ca92), (10, .int .i64 (↑p.length + 1))] 3 0 hS (by kernel_rfl) (by kernel_rfl) (by kernel_rfl) (.cons (as_i64 (by omega)) .nil) fun a hS => ?_
        refine seg_end ?_
        refine ⟨(p ++ [y], d', some ⟨ga92, 0, none⟩, ca92), ⟨by rw [show (p ++ [y]).length = p.length + 1 from by simp]; exact hS.keepTo [0, 1, 6, 7, 8, 9, 10] (by kernel_rfl), by rw [hpd]; simp, ?_, ?_, hE96⟩, by simp⟩
        · have h := (hOa92 : OwnR _ _ _ _ _ _ _).v
          rw [List.length_append]
          simpa [Tr.ptr] using h
        · intro z hz
          obtain rfl := (by have h := hz; simp [oa] at h; exact h.symm : ga92 = z)
          rcases hFa92 ga92 (by simp) with h | h
          · exact hkn _ (by rw [ob_oa] at h; exact h)
          · exact Nat.le_trans hE91.size h
      · -- decide ((↑p.length : Int) < ↑x.kids.length) is false
        replace hb78 := of_decide_eq_false hb78
        have hS9 := hS
        obtain rfl : d = [] := List.eq_nil_of_length_eq_zero (by omega)
        obtain rfl : p = k1 := by simpa using hpd.symm
        have hkO' := hkO
        have hlO7 : OwnV w5 47 1 (.slice lb s2.length lc) s2.length (s2.reverse.map Tr.ptr) := by
          have h := hlO6
          simp only [List.nil_append, Nat.mul_one] at h
          have e : ((p ++ s2).reverse.map Tr.ptr).take s2.length = s2.reverse.map Tr.ptr := by rw [List.reverse_append, List.map_append, List.take_left' (by simp)]
          rwa [e] at h
        have hE5 := hE4.trans0 hE45
        have hsb5 := hsb4.ext hE45 (by simp)
        have hall5 := hall4.ext0 hE45
        have hO5 := hO4.ext hE45 (by simp)
        have hall5k : AllOk w5 sb p := fun q hq => hall5 q (by rw [hss]; simp [hq])
        have hall5s : AllOk w5 sb s2 := fun q hq => hall5 q (by rw [hss]; simp [hq])
        have hnw5 := hE45.size
        have hS := hS9.keepTo [0, 1, 6, 7, 8, 9] (m' := [(0, .pointer (some ⟨sb, 0, none⟩)), (1, .slice (some ⟨g, 0, none⟩) n cap), (6, .slice lb (([] ++ s2).length) lc), (7, .int .i64 ↑A'.length), (8, .pointer (some ⟨rb, 0, none⟩)), (9, .slice kb p.length kc)]) (by kernel_rfl)
        replace hS : St 95 [] [(0, .pointer (some ⟨sb, 0, none⟩)), (1, .slice (some ⟨g, 0, none⟩) n cap), (6, .slice lb s2.length lc), (7, .int .i64 ↑A'.length), (8, .pointer (some ⟨rb, 0, none⟩)), (9, .slice kb p.length kc)] _ := hS
        have hsz5 := Nat.le_trans hsz4 hnw5
        refine wpIn_exit ?_
        refine then_exit ?_
        refine then_exit ?_
        refine inBlock_hit ?_
        refine hK74 _ _ ?_
        refine wpIn_seq_k fun K97 hK97 => ?_
        refine region 12 (by kernel_rfl) ?_
        refine seg wide_wide [.p, .p, .ld (.int .i64 x.kd), .p, .ld (.int .i64 x.nn), .p] [0, 1, 6, 7, 8, 9, 70, 72, 74, 75] [w5.cell? ⟨rb, 0, none⟩ = some (.int .i64 x.kd), w5.cell? ⟨rb, 1, none⟩ = some (.int .i64 x.nn)] [(0, .pointer (some ⟨sb, 0, none⟩)), (1, .slice (some ⟨g, 0, none⟩) n cap), (6, .slice lb s2.length lc), (7, .int .i64 ↑A'.length), (8, .pointer (some ⟨rb, 0, none⟩)), (9, .slice kb p.length kc), (70, .pointer (some ⟨sb, 0, none⟩)), (72, .int .i64 x.kd), (74, .int .i64 x.nn), (75, .slice kb p.length kc)] 6 6 hS (by kernel_rfl) (by kernel_rfl) (by kernel_rfl) (.cons (hrb5.cell 0 rfl) (.cons (hrb5.cell 1 rfl) .nil)) fun a hS => ?_
        refine eff_call wide_wide (r := 5) (f := 20) (vs := [.pointer (some ⟨sb, 0, none⟩), .int .i64 x.kd, .int .i64 x.nn, .slice kb p.length kc]) (cap := #[]) (d := (some 76)) hS (by kernel_rfl) Try.call20 #[.pointer (some ⟨sb, 0, none⟩), .int .i64 x.kd, .int .i64 x.nn, .slice kb p.length kc] (by kernel_rfl) (Make_anyod hsb5 (by omega) hN hk1 hc1 hkO' hall5k (by omega)) ?_
        rintro _ w20 ⟨tm, rfl, htb, hmk, hcm, h102w20, hE20, hft⟩
        refine ⟨_, rfl, fun a hS => ?_⟩
        have hE20x := hE5.trans hE20 (fun b hb => .inl hb)
        have hB98 := hO5.ext hE20 (by simpa using (OwnR.ne_type hO5 hsb5 (by decide)))
        have hB99 := hrb5.ext hE20 (by simpa using (Blk.ne_type hrb5 hsb5 (by decide)))
        have hB100 := hlO7.ext hE20 (fun x hx hm => by simp at hm; exact (OwnV.ne hlO7 hsb5 (by decide)) x hx hm.symm)
        have hG101 : w3.heap.size ≤ w20.heap.size := Nat.le_trans hsz5 hE20.size
        have hG102 : AllOk w20 sb s2 := hall5s.extS hE20 hsb5
        have hsz20 : w20.heap.size ≤ w20.heap.size := Nat.le_refl _
        have hmk20 : AllOk w20 sb [tm] := fun q hq => by
          obtain rfl := by simpa using hq
          exact hmk
        have hnfm : ∀ z ∈ oa lb, ¬tm.Foot z := fun z hz hf => by
          rcases hft z hf with h | ⟨q, hq, h⟩
          · have := hln4 z hz; omega
          · exact hnf q (by rw [hss]; simp [hq]) z hz h
        refine seg wide_wide [.p, .p, .p, .p, .p] [0, 1, 6, 7, 8, 9, 11, 12] [] [(0, .pointer (some ⟨sb, 0, none⟩)), (1, .slice (some ⟨g, 0, none⟩) n cap), (6, .slice lb s2.length lc), (7, .int .i64 ↑A'.length), (8, .pointer (some ⟨rb, 0, none⟩)), (9, .slice kb p.length kc), (11, .pointer (some ⟨tm.b, 0, none⟩)), (12, .int .i64 0)] 12 0 hS (by kernel_rfl) (by kernel_rfl) (by kernel_rfl) .nil fun a hS => ?_
        refine seg_end ?_
        refine hK97 _ _ ?_
        refine wpIn_seq_k fun K103 hK103 => ?_
        refine wpIn_seq_k fun K104 hK104 => ?_
        refine region 6 (by kernel_rfl) ?_
        refine seg wide_wide [.p, .p, .p, .p, .p, .p] [0, 1, 6, 7, 8, 9, 11, 12, 84] [] [(0, .pointer (some ⟨sb, 0, none⟩)), (1, .slice (some ⟨g, 0, none⟩) n cap), (6, .slice lb s2.length lc), (7, .int .i64 ↑A'.length), (8, .pointer (some ⟨rb, 0, none⟩)), (9, .slice kb p.length kc), (11, .pointer (some ⟨tm.b, 0, none⟩)), (12, .int .i64 0), (84, .bool false)] 6 0 hS (by kernel_rfl) (by kernel_rfl) (by kernel_rfl) .nil fun a hS => ?_
        refine seg_end ?_
        refine hK104 _ _ ?_
        refine cond_f hS rfl ?_
        refine wpIn_skip ?_
        refine hK103 _ _ ?_
        refine region 5 (by kernel_rfl) ?_
        refine seg wide_wide [.p, .p] [0, 1, 6, 7, 8, 9, 11, 12, 84, 85, 86] [] [(0, .pointer (some ⟨sb, 0, none⟩)), (1, .slice (some ⟨g, 0, none⟩) n cap), (6, .slice lb s2.length lc), (7, .int .i64 ↑A'.length), (8, .pointer (some ⟨rb, 0, none⟩)), (9, .slice kb p.length kc), (11, .pointer (some ⟨tm.b, 0, none⟩)), (12, .int .i64 0), (84, .bool false), (85, .slice lb s2.length lc), (86, .pointer (some ⟨tm.b, 0, none⟩))] 2 3 hS (by kernel_rfl) (by kernel_rfl) (by kernel_rfl) .nil fun a hS => ?_
        refine eff_new wide_wide (r := 2) (cs := #[.pointer (some ⟨tm.b, 0, none⟩)]) (T := 47) (v := Value.slice (some ⟨w20.heap.size, 0, none⟩) 1 1) (d := (some 87)) hS (by kernel_rfl) fun a w105 hw106 hS => ?_
        have hn107 : g ≠ w20.heap.size := Nat.ne_of_lt hB98.lt
        have hn108 : rb ≠ w20.heap.size := Nat.ne_of_lt hB99.lt
        have hn109 : ∀ x ∈ ob (.slice lb s2.length lc), w20.heap.size ≠ x := fun x hx => Nat.ne_of_gt (hB100.lie x hx)
        have hn110 : sb ≠ w20.heap.size := Nat.ne_of_lt h102w20.lt
        have hB111 := OwnR.at' hw106 (hB98.alloc _)
        have hB112 := Blk.at' hw106 (hB99.alloc _)
        have hB113 := OwnV.at' hw106 (hB100.alloc _)
        have hB114 := Blk.at' hw106 (h102w20.alloc _)
        have hX115 : Ext [] w20 w105 := by rw [hw106]; exact (Ext.refl _ _).alloc _
        have hG116 : w3.heap.size ≤ w105.heap.size := Nat.le_trans hG101 hX115.size
        have hG117 : AllOk w105 sb s2 := hG102.ext0 hX115
        have hG118 : w20.heap.size ≤ w105.heap.size := Nat.le_trans hsz20 hX115.size
        have hG119 : AllOk w105 sb [tm] := hmk20.ext0 hX115
        have hB120 : Blk w105 (w20.heap.size) 47 #[.pointer (some ⟨tm.b, 0, none⟩)] := by rw [hw106]; exact Blk.new _ _ _
        have hs121 : w.heap.size ≤ w20.heap.size := hE20x.size
        have hE122 : Ext [sb] w w105 := by rw [hw106]; exact hE20x.alloc _
        refine eff_append2 wide_wide (r := 1) (d := (some 88)) (t := 32) (ty := 32) (e := 47) (size := 1) (bytes := 8) (len := s2.length) (b := w20.heap.size) (off := 0) (k := 1) (c := 1) (z := #[.pointer none]) (v := Value.slice lb s2.length lc) (xs := (s2.reverse.map Tr.ptr)) [.pointer (some ⟨tm.b, 0, none⟩)] hS (by kernel_rfl) (by kernel_rfl) (by kernel_rfl) (by kernel_rfl) (by kernel_rfl) hB113 (by simp) (fun j u hu => by rw [Nat.zero_add]; exact hB120.cell j (by simpa using hu)) rfl (by omega) (by omega) (by omega) fun ga123 ca123 a wa123 hOa123 hEa123 hFa123 hS => ?_
        have hB124 := hB111.ext hEa123 (fun hm => hB111.v.disj hB113 (by decide) _ (by simp [ob]) hm)
        have hB125 := hB112.ext hEa123 (hB113.notin hB112 (by decide))
        have hB126 := hB114.ext hEa123 (hB113.notin hB114 (by decide))
        have hB127 := hB120.ext hEa123 (fun hm => hn109 _ hm rfl)
        have hE128 : Ext [sb] w wa123 := hE122.trans hEa123 (fun b hb => .inr (hln b (by rw [ob_oa] at hb; exact hb)))
        have hG129 : w3.heap.size ≤ wa123.heap.size := Nat.le_trans hG116 hEa123.size
        have hG130 : AllOk wa123 sb s2 := hG117.extR hEa123 (fun q hq y hy => hnf q (by rw [hss]; simp [hq]) y (by rw [ob_oa] at hy; exact hy))
        have hG131 : w20.heap.size ≤ wa123.heap.size := Nat.le_trans hG118 hEa123.size
        have hG132 : AllOk wa123 sb [tm] := hG119.extR hEa123 (fun q hq y hy => by obtain rfl := (by simpa using hq); exact hnfm y (by rw [ob_oa] at hy; exact hy))
        refine seg wide_wide [.p] [0, 1, 6, 7, 8, 9, 11, 12, 84] [] [(0, .pointer (some ⟨sb, 0, none⟩)), (1, .slice (some ⟨g, 0, none⟩) n cap), (6, .slice (some ⟨ga123, 0, none⟩) (s2.length + 1) ca123), (7, .int .i64 ↑A'.length), (8, .pointer (some ⟨rb, 0, none⟩)), (9, .slice kb p.length kc), (11, .pointer (some ⟨tm.b, 0, none⟩)), (12, .int .i64 0), (84, .bool false)] 5 0 hS (by kernel_rfl) (by kernel_rfl) (by kernel_rfl) .nil fun a hS => ?_
        refine seg_end ?_
        refine inBlock_normal ?_
        refine hK8 _ _ ?_
        refine region 3 (by kernel_rfl) ?_
        refine seg wide_wide [.p, .as (.int .i64 (↑A'.length - 1)), .p] [0, 1, 6, 7, 8, 9, 11, 12, 84] [Value.int .i64 (IntKind.i64.wrap (↑A'.length - 1)) = .int .i64 (↑A'.length - 1)] [(0, .pointer (some ⟨sb, 0, none⟩)), (1, .slice (some ⟨g, 0, none⟩) n cap), (6, .slice (some ⟨ga123, 0, none⟩) (s2.length + 1) ca123), (7, .int .i64 (↑A'.length - 1)), (8, .pointer (some ⟨rb, 0, none⟩)), (9, .slice kb p.length kc), (11, .pointer (some ⟨tm.b, 0, none⟩)), (12, .int .i64 0), (84, .bool false)] 3 0 hS (by kernel_rfl) (by kernel_rfl) (by kernel_rfl) (.cons (as_i64 (by omega)) .nil) fun a hS => ?_
        refine seg_end ?_
        refine ⟨(A', x :: vs, tm :: s2, (A'.length : Int) - 1, c + 1, some ⟨ga123, 0, none⟩, ca123), ⟨hS.keepTo [0, 1, 6, 7] (by kernel_rfl), ?_, by omega, ⟨_, _, rfl, hcm, hc2⟩, ?_, ?_, ?_, ?_, hB126, by omega, by omega, hE128⟩, by simp only; omega⟩
        · rw [hpre2, pres_cons, hus]
        · have h := (hOa123 : OwnR _ _ _ _ _ _ _).v
          simpa [Tr.ptr] using h
        · intro y hy
          obtain rfl := (by have h := hy; simp [oa] at h; exact h.symm : ga123 = y)
          rcases hFa123 ga123 (by simp) with h | h
          · exact hln _ (by rw [ob_oa] at h; exact h)
          · exact Nat.le_trans hE122.size h
        · intro q hq
          rcases List.mem_cons.1 hq with rfl | hq
          · exact hG132 _ (by simp)
          · exact hG130 q hq
        · intro q hq y hy hf
          obtain rfl := (by have h := hy; simp [oa] at h; exact h.symm : ga123 = y)
          rcases hFa123 ga123 (by simp) with h | h
          · rw [ob_oa] at h
            rcases List.mem_cons.1 hq with rfl | hq
            · exact hnfm _ h hf
            · exact hnf q (by rw [hss]; simp [hq]) _ h hf
          · have hz20 := hG118
            have hz5 := hE20.size
            rcases List.mem_cons.1 hq with rfl | hq
            · have := hmk.foot_lt hf; omega
            · have := (hall5s q hq).foot_lt hf; omega
  · -- decide ((k : Int) ≥ 0) is false
    replace hb7 := of_decide_eq_false hb7
    obtain rfl : A = [] := List.eq_nil_of_length_eq_zero (by omega)
    have hus : [t] = us := pres_inj _ _ _ (Nat.le_refl _) (by rw [show pres [t] = pre t from by simp [pres]]; simpa using hpre)
    subst hus
    obtain ⟨t', ts', rfl, hct, hcn⟩ := hcp
    simp only [Cpys] at hcn
    subst hcn
    refine wpIn_exit ?_
    refine then_exit ?_
    refine then_exit ?_
    refine inBlock_hit ?_
    refine hK3 _ _ ?_
    refine wpIn_seq_k fun K133 hK133 => ?_
    refine wpIn_seq_k fun K134 hK134 => ?_
    refine region 3 (by kernel_rfl) ?_
    refine seg wide_wide [.p, .p, .p] [0, 1, 6, 91] [] [(0, .pointer (some ⟨sb, 0, none⟩)), (1, .slice (some ⟨g, 0, none⟩) n cap), (6, .slice lb 1 lc), (91, .bool false)] 3 0 hS (by kernel_rfl) (by kernel_rfl) (by kernel_rfl) .nil fun a hS => ?_
    refine seg_end ?_
    refine hK134 _ _ ?_
    refine cond_f hS rfl ?_
    refine wpIn_skip ?_
    refine hK133 _ _ ?_
    refine wpIn_seq_k fun K135 hK135 => ?_
    refine region 5 (by kernel_rfl) ?_
    refine seg wide_wide [.p, .run (.pointer (some ⟨bof (.slice lb 1 lc), 0 + 0 * 1, none⟩)), .ld (.pointer (some ⟨t'.b, 0, none⟩)), .p, .p] [0, 1, 6, 91, 4, 5] [Sem.run Try.prog (vS (Instr.indexAt 32 (.slice lb 1 lc) (.int .i64 0))) w3 = .ok (.value (.pointer (some ⟨bof (.slice lb 1 lc), 0 + 0 * 1, none⟩))) w3, w3.cell? ⟨bof (.slice lb 1 lc), 0 + 0 * 1, none⟩ = some (.pointer (some ⟨t'.b, 0, none⟩))] [(0, .pointer (some ⟨sb, 0, none⟩)), (1, .slice (some ⟨g, 0, none⟩) n cap), (6, .slice lb 1 lc), (91, .bool false), (4, .pointer (some ⟨t'.b, 0, none⟩)), (5, .bool true)] 5 0 hS (by kernel_rfl) (by kernel_rfl) (by kernel_rfl) (.cons (ix_own (j := 0) (hlO) (by kernel_rfl) (by kernel_rfl) rfl (by simp)) (.cons ((hlO).cellAt _ rfl) .nil)) fun a hS => ?_
    refine seg_end ?_
    refine hK135 _ _ ?_
    refine wpIn_ret ?_
    refine ret2 hS Try.results26 rfl rfl ?_
    exact ⟨t', rfl, hall t' (by simp), hct, hEx⟩

end Go.Proofs.Ytpglmeeledmkoaa
