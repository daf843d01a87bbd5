import Derived.Test.YtkkpghlcmcaoiaaDoorS25
import Derived.Test.YtkkpghlcmcaoiaaDoorBh
import Derived.Test.YtkkpghlcmcaoiaaDoorVt
namespace Go.Proofs.YtkkpghlcmcaoiaaDoor
open Go.Vc Go.Gm

set_option maxHeartbeats 2000000 in
theorem notes_step {w0 w : World} {S : Sp} (hG : SpOk w0 S) (hb : Ext [] w0 w) {pv : Value} {np : Nat} {ts : List Int} (hp : RdV w0 1 pv np (its ts)) (hpm0 : np ≤ 1048576) (hok : GOk S) {b c aq ust : Nat} {bs : Option Addr} {n cp : Nat} {zs : List Nat} {ls : Option Addr} {ln lc : Nat} {Ln : List (Nat × Nat)} (hbn : w0.heap.size ≤ b) (hcn : w0.heap.size ≤ c) (hN : NotK S pv w0.heap.size b c w aq ust bs n cp zs ls ln lc Ln) (haq : aq ≤ ust) (hnu : n ≤ ust) (hlu : ln ≤ ust) (hus : ust ≤ 400) {y : Sy} (hy : syOk S y) (ih : ∀ (w : World) (aq u3 : Nat) (bs : Option Addr) (n cp : Nat) (zs : List Nat) (ls : Option Addr) (ln lc : Nat) (Ln : List (Nat × Nat)) (y : Sy), Ext [] w0 w → NotK S pv w0.heap.size b c w aq u3 bs n cp zs ls ln lc Ln → aq ≤ u3 → n ≤ u3 → ln ≤ u3 → ust < u3 → u3 ≤ 400 → syOk S y → Calls Tryd.prog 31 #[(Pv b), .agg #[I6 y.1, I6 y.2], (Pv c)] w (NtR S pv w0.heap.size b c ([sm y]) u3 bs n cp zs ls ln lc Ln w)) :
  Calls Tryd.prog 31 #[(Pv b), .agg #[I6 y.1, I6 y.2], (Pv c)] w fun e w' => (NtR S pv w0.heap.size b c ([sm y]) ust bs n cp zs ls ln lc Ln w) e w' := by
 have hnw := hN.nw hbn hcn
 have hlmax := hG.lmax
 have hpmax := hG.pmax
 have hbM : b ∈ nM b c (.slice bs n cp) (.slice ls ln lc) := mem_nM.2 (.inl rfl)
 have hcM : c ∈ nM b c (.slice bs n cp) (.slice ls ln lc) := mem_nM.2 (.inr (.inl rfl))
 refine calls_body 80 [(0, (Pv b)), (1, .agg #[I6 y.1, I6 y.2]), (2, (Pv c))] Tryd.func31 rfl (by kernel_rfl) (by kernel_rfl) (by kernel_rfl) fun a hS => ?_
 have hE0 : Ext (nM b c (.slice bs n cp) (.slice ls ln lc)) w w := Ext.refl _ _
 refine sq fun K1 hK1 => rgn 2 <| eff_box ww (r := 1) (cs := #[I6 y.1, I6 y.2]) (T := 61) (d := (some 4)) hS (by kernel_rfl) fun a w2 hw3 hS => ?_
 have hn4 : b ≠ w.heap.size := Nat.ne_of_lt hN.tk.blk.lt
 have hB8 := Blk.at' hw3 (hN.tk.blk.alloc _)
 have hB9 := Blk.at' hw3 (hN.lb.alloc _)
 have hB10 := OwnV.at' hw3 (hN.tk.row.own.alloc _)
 have hB11 := OwnV.at' hw3 (hN.own.alloc _)
 have hB12 : Blk w2 (w.heap.size) 61 #[I6 y.1, I6 y.2] := by rw [hw3]; exact Blk.new _ _ _
 have hs13 : w.heap.size ≤ w.heap.size := hE0.size
 have hE14 : Ext (nM b c (.slice bs n cp) (.slice ls ln lc)) w w2 := by rw [hw3]; exact hE0.alloc _
 refine sd ww [.p] [] [(6, .bool false)] [] 2 0 hS .nil fun a hS => seg_end <| hK1 _ _ <| sq fun K15 hK15 => sq fun K16 hK16 => ?_
 rcases (show (¬y.1 = 3) ∨ (y.1 = 3 ∧ 0 ≤ y.2 ∧ y.2 < S.ns.length) from by
  rcases hy with h | h | h
  ·exact .inl (by omega)
  ·exact .inl (by omega)
  ·exact .inr h) with h1 | ⟨h1, h2, h3⟩
 ·
  refine rgn 3 <| sd ww [.p, .ld (I6 y.1), .as (.bool true)] [w2.cell? ⟨w.heap.size, 0, none⟩ = some (I6 y.1), Value.bool (((y.1 : Int) != 3)) = .bool true] [(12, .bool true)] [] 3 0 hS (.cons (hB12.cell 0 rfl) (.cons (as_ne_t (by omega)) .nil)) fun a hS => seg_end <| hK16 _ _ ?_
  refine cond_t hS rfl ?_
  refine sq fun K17 hK17 => rgn 4 <| sd ww [.p, .lds [I6 y.1, I6 y.2]] [w2.cell? ⟨w.heap.size, 0, none⟩ = some (I6 y.1), w2.cell? ⟨w.heap.size, 1, none⟩ = some (I6 y.2)] [(13, (Pv b)), (14, .agg #[I6 y.1, I6 y.2])] [] 2 2 hS (.cons (hB12.cell 0 rfl) (.cons (hB12.cell 1 rfl) .nil)) fun a hS => eff_call ww (r := 1) (f := 28) (vs := [(Pv b), .agg #[I6 y.1, I6 y.2]]) (cap := #[]) (d := (some 15)) hS (by kernel_rfl) Tryd.call28 #[(Pv b), .agg #[I6 y.1, I6 y.2]] (by kernel_rfl) (trip_any hG hp hpm0 hok hbn 401 (by omega) (hb.trans hE14 (fun x hx => .inr (hnw x hx))) (show TripK S pv w0.heap.size b w2 aq ust bs n cp zs from ⟨hB8, ⟨hB10, hN.tk.row.new⟩⟩) haq hnu hus hy) ?_
  rintro _ wm (⟨rfl, hEm⟩ | ⟨a2, u2, bs2, n2, cp2, u, rfl, hKm, hEm, hfm, ha2, hn2, hu2, hu4, hmt⟩)
  ·
   refine ⟨_, rfl, fun a hS => ?_⟩
   have hXm : Ext (nM b c (.slice bs n cp) (.slice ls ln lc)) w wm := hE14.trans (Ext.nM hEm rfl) (fun x hx => .inl hx)
   refine sd ww [.p] [] [] [] 4 0 hS .nil fun a hS => seg_end <| hK17 _ _ <| wpIn_ret <| then_ret ?_
   refine ret1 hS Tryd.results31 rfl ?_
   exact .inl ⟨rfl, hXm⟩
  ·
   refine ⟨_, rfl, fun a hS => ?_⟩
   have hXm : Ext (nM b c (.slice bs n cp) (.slice ls ln lc)) w wm := hE14.trans (Ext.nM hEm rfl) (fun x hx => .inl hx)
   have hNm := NotK.trip (⟨⟨hB8, ⟨hB10, hN.tk.row.new⟩⟩, hB9, hB11, hN.new⟩ : NotK S pv w0.heap.size b c w2 aq ust bs n cp zs ls ln lc Ln) hEm hKm
   have hfm' : Fresh w.heap.size (ob (.slice bs n cp)) (ob (.slice bs2 n2 cp2)) := fun x hx => (hfm x hx).imp id (Nat.le_trans hE14.size)
   refine sd ww [.p] [] [(6, .bool true)] [] 4 0 hS .nil fun a hS => seg_end <| hK17 _ _ <| wpIn_ret <| then_ret ?_
   refine ret1 hS Tryd.results31 rfl ?_
   exact .inr ⟨a2, u2, bs2, n2, cp2, ls, ln, lc, u, [], rfl, by rw [List.append_nil]; exact hNm, hXm, hfm', fun x hx => .inl hx, by omega, by omega, by omega, by omega, by omega, NT_leaf hmt (by rw [sm_isM]; exact decide_eq_false (by omega))⟩
 ·
  obtain ⟨A, hyA⟩ : ∃ A : Nat, y.2 = A := ⟨y.2.toNat, by omega⟩
  have hA : A < S.ns.length := by omega
  have hsy : sm y = .m A := by rw [sm_name h1, hyA]; rfl
  have hop := own_pos hok hA
  have hol := ownL_len S.ps (A : Int) 0
  rw [← hyA] at hop hol
  refine rgn 3 <| sd ww [.p, .ld (I6 y.1), .as (.bool false)] [w2.cell? ⟨w.heap.size, 0, none⟩ = some (I6 y.1), Value.bool (((y.1 : Int) != 3)) = .bool false] [(12, .bool false)] [] 3 0 hS (.cons (hB12.cell 0 rfl) (.cons (as_ne_f (by omega)) .nil)) fun a hS => seg_end <| hK16 _ _ ?_
  refine cond_f hS rfl ?_
  refine wpIn_skip <| hK15 _ _ <| sq fun K18 hK18 => rgn 8 <| sd ww [.p, .p, .p, .ld (I6 ↑ust), .as (I6 ((ust + 1 : Nat) : Int)), .p, .p] [w2.cell? ⟨b, 7, none⟩ = some (I6 ↑ust), Value.int .i64 (IntKind.i64.wrap (↑ust + 1)) = I6 ((ust + 1 : Nat) : Int)] [(20, I6 ((ust + 1 : Nat) : Int)), (22, (Po b 7))] [] 7 1 hS (.cons (hB8.cell 7 rfl) (.cons ((by rw [show (↑ust + 1 : Int) = ((ust + 1 : Nat) : Int) from by omega]; exact as_i64 (by omega))) .nil)) fun a hS => eff_store ww (r := 0) (b := b) (off := 7) (vs := [I6 ((ust + 1 : Nat) : Int)]) hS (by kernel_rfl) hB8 (by simp) fun a w19 hw20 hS => ?_
  have hB21 : Blk w19 b 58 (#[S.lv, S.nv, I6 S.st, S.pv, pv, I6 ↑aq, .slice bs n cp, I6 ((ust + 1 : Nat) : Int)]) := by rw [hw20]; exact hB8.upd _ _
  have hB22 := Blk.at' hw20 (hB9.updNe (Blk.ne_type hN.tk.blk hN.lb (by decide)) _ _)
  have hB23 := OwnV.at' hw20 (hB10.updNe (hN.tk.row.own.ne hN.tk.blk (by decide)) _ _)
  have hB24 := OwnV.at' hw20 (hB11.updNe (hN.own.ne hN.tk.blk (by decide)) _ _)
  have hB25 := Blk.at' hw20 (hB12.updNe hn4 _ _)
  have hE26 : Ext (nM b c (.slice bs n cp) (.slice ls ln lc)) w w19 := by rw [hw20]; exact hE14.updIn (.inl hbM) _ _
  refine seg_end <| hK18 _ _ <| sq fun K27 hK27 => sq fun K28 hK28 => ?_
  rcases (show (400 < ust + 1) ∨ (ust + 1 ≤ 400) from by omega) with h0 | h0
  ·
   refine rgn 5 <| sd ww [.p, .p, .p, .ld (I6 ((ust + 1 : Nat) : Int)), .as (.bool true)] [w19.cell? ⟨b, 7, none⟩ = some (I6 ((ust + 1 : Nat) : Int)), Value.bool (decide ((((ust + 1 : Nat) : Int) : Int) > 400)) = .bool true] [(27, .bool true)] [] 5 0 hS (.cons (hB21.cell 7 rfl) (.cons (as_t (by omega)) .nil)) fun a hS => seg_end <| hK28 _ _ ?_
   refine cond_t hS rfl ?_
   refine sq fun K29 hK29 => rgn 1 <| sd ww [.p] [] [] [] 1 0 hS .nil fun a hS => seg_end <| hK29 _ _ <| wpIn_ret <| then_ret ?_
   refine ret1 hS Tryd.results31 rfl ?_
   exact .inl ⟨rfl, hE26⟩
  ·
   refine rgn 5 <| sd ww [.p, .p, .p, .ld (I6 ((ust + 1 : Nat) : Int)), .as (.bool false)] [w19.cell? ⟨b, 7, none⟩ = some (I6 ((ust + 1 : Nat) : Int)), Value.bool (decide ((((ust + 1 : Nat) : Int) : Int) > 400)) = .bool false] [(27, .bool false)] [] 5 0 hS (.cons (hB21.cell 7 rfl) (.cons (as_f (by omega)) .nil)) fun a hS => seg_end <| hK28 _ _ ?_
   refine cond_f hS rfl ?_
   refine wpIn_skip <| hK27 _ _ <| sq fun K30 hK30 => ?_
   refine region_gh2 (G := (Option Addr) × Nat × Nat × World) ww [.q .p, .q .p, .q .p, .q (.lds [S.lv, S.nv, I6 S.st, S.pv]), .q .p, .q (.ld (I6 y.2)), .e, .q .p] [0, 0, 0, 0, 0, 0, 0, 1] [0, 0, 0, 0, 0, 0, 0, 1] [0, 1, 3, 7, 0, 16, 63, 127] [6] [(6, 0)] 1 (fun ⟨b431, n431, c431, wc31⟩ => ([(0, (Pv b)), (1, .agg #[I6 y.1, I6 y.2]), (2, (Pv c)), (4, (Pv w.heap.size)), (6, .bool false), (12, .bool false), (27, .bool false), (28, (Pv b)), (29, (Pv b)), (30, (Pv b)), (31, .agg S.ca), (32, (Po w.heap.size 1)), (33, I6 y.2), (34, .slice b431 n431 c431), (7, .slice b431 n431 c431)] : Fm)) (fun ⟨b431, n431, c431, wc31⟩ => [w19.drew, wc31]) (w19.drew) (fun e ⟨b431, n431, c431, wc31⟩ => hAt [True, (OwnV wc31 3 1 (.slice b431 n431 c431) n431 (ivs (ownL S.ps y.2 0))) ∧ (∀ x ∈ ob (.slice b431 n431 c431), (w19.drew).heap.size ≤ x) ∧ (Ext [] w19.drew wc31) ∧ True] e) (fun ⟨b431, n431, c431, wc31⟩ w' => [(3, [w'.cell? ⟨b, 0, none⟩ = some (S.lv), w'.cell? ⟨b, 1, none⟩ = some (S.nv), w'.cell? ⟨b, 2, none⟩ = some (I6 S.st), w'.cell? ⟨b, 3, none⟩ = some (S.pv)]), (5, [w'.cell? ⟨w.heap.size, 1, none⟩ = some (I6 y.2)])]) (none, 0, 0, w19.drew) [0, 1, 2, 4, 6, 12, 27] [] hS (by kernel_rfl) (by kernel_rfl) (by kernel_rfl) (by kernel_rfl) (fun ⟨b431, n431, c431, wc31⟩ _ => by kernel_rfl) (by kernel_rfl) (by kernel_rfl) (by kernel_rfl) trivial ?_ (by kernel_rfl) ?_ ?_
   ·rintro e ⟨b431, n431, c431, wc31⟩ w' hw hH
    refine (.cons ?_ (.cons ?_ .nil))
    ·intro h1 h2
     obtain rfl : e = 0 := Nat.le_antisymm h2 h1
     have hwe : w19.drew = w' := (hw.trans (by kernel_rfl)).symm
     subst hwe
     clear hH
     exact (.cons ((hB21.drew : Blk w19.drew b 58 (#[S.lv, S.nv, I6 S.st, S.pv, pv, I6 ↑aq, .slice bs n cp, I6 ((ust + 1 : Nat) : Int)])).cell 0 rfl) (.cons ((hB21.drew : Blk w19.drew b 58 (#[S.lv, S.nv, I6 S.st, S.pv, pv, I6 ↑aq, .slice bs n cp, I6 ((ust + 1 : Nat) : Int)])).cell 1 rfl) (.cons ((hB21.drew : Blk w19.drew b 58 (#[S.lv, S.nv, I6 S.st, S.pv, pv, I6 ↑aq, .slice bs n cp, I6 ((ust + 1 : Nat) : Int)])).cell 2 rfl) (.cons ((hB21.drew : Blk w19.drew b 58 (#[S.lv, S.nv, I6 S.st, S.pv, pv, I6 ↑aq, .slice bs n cp, I6 ((ust + 1 : Nat) : Int)])).cell 3 rfl) .nil))))
    ·intro h1 h2
     obtain rfl : e = 0 := Nat.le_antisymm h2 h1
     have hwe : w19.drew = w' := (hw.trans (by kernel_rfl)).symm
     subst hwe
     clear hH
     exact (.cons ((hB25.drew : Blk w19.drew w.heap.size 61 (#[I6 y.1, I6 y.2])).cell 1 rfl) .nil)
   ·refine (.cons ?eq32_6 .nil)
    ·rintro ⟨b431, n431, c431, wc31⟩ hH
     clear hH
     refine eff_gh (w19.drew) (by kernel_rfl) ?_
     refine upon_call (f := 70) (vs := [.agg S.ca, I6 y.2]) (cap := #[]) (d := (some 34)) (by kernel_rfl) Tryd.call70 #[.agg S.ca, I6 y.2] (by kernel_rfl) (own_any2 hG ((hb.trans hE26 (fun x hx => .inr (hnw x hx))).trans0 ((Ext.refl [] _).drew)) y.2) ?_
     rintro _ wc31 ⟨b431, n431, c431, rfl, hO431, hN431, hEc31⟩
     exact ⟨_, rfl, ⟨(b431, n431, c431, wc31), by kernel_rfl, by kernel_rfl, by kernel_rfl, ⟨hO431, hN431, hEc31, trivial⟩⟩⟩
   rintro ⟨b431, n431, c431, wc31⟩ a w33 hS hw34 hH
   obtain ⟨hO431, hN431, hEc31, _⟩ := hH
   replace hw34 : w33 = wc31 := hw34.trans (by kernel_rfl)
   have hB35 := Blk.at' hw34 ((hB21.drew : Blk w19.drew b 58 (#[S.lv, S.nv, I6 S.st, S.pv, pv, I6 ↑aq, .slice bs n cp, I6 ((ust + 1 : Nat) : Int)])).ext hEc31 (by simp))
   have hB36 := Blk.at' hw34 ((hB22.drew : Blk w19.drew c 65 (#[.slice ls ln lc])).ext hEc31 (by simp))
   have hB37 := OwnV.at' hw34 ((hB23.drew : OwnV w19.drew 3 1 (.slice bs n cp) n (ivs zs)).ext hEc31 (by simp))
   have hB38 := OwnV.at' hw34 ((hB24.drew : OwnV w19.drew 69 2 (.slice ls ln lc) ln (ncs Ln)).ext hEc31 (by simp))
   have hB39 := Blk.at' hw34 ((hB25.drew : Blk w19.drew w.heap.size 61 (#[I6 y.1, I6 y.2])).ext hEc31 (by simp))
   have hB40 : OwnV w33 3 1 (.slice b431 n431 c431) n431 (ivs (ownL S.ps y.2 0)) := by rw [hw34]; exact hO431
   have hE41 : Ext (nM b c (.slice bs n cp) (.slice ls ln lc)) w w33 := by rw [hw34]; exact (hE26.drew).trans0 hEc31
   replace hS := hS.kp [(0, (Pv b)), (1, .agg #[I6 y.1, I6 y.2]), (2, (Pv c)), (4, (Pv w.heap.size)), (6, .bool false), (12, .bool false), (27, .bool false), (7, .slice b431 n431 c431)]
   refine hK30 _ _ <| sq fun K42 hK42 => ?_
   have hno4 : (ownL S.ps y.2 0).length = n431 := by have := hB40.len; rw [ivs_len] at this; omega
   have hno4p : 0 < n431 := by omega
   refine region_setI (G := Nat × Nat × Nat) ww [false, false, false, false, false, false, false, false, false, true, false, false, false, false, true, true] (fun ⟨k11, a11, x7_14⟩ => [.q .p, .q .p, .q .p, .q .p, .q (.ld (S.pv)), .q .p, .q .p, .q .p, .q .p, .e, .q (.run ((Po (bof (.slice b431 n431 c431)) (0 + k11 * 1)))), .q (.ld (I6 (↑(owk S y.2 k11)))), .q (.run ((Po (bof S.pv) (oof S.pv + (owk S y.2 k11) * 2)))), .q (.lds [I6 ((owp S y.2 k11).l), (owp S y.2 k11).rv]), .e, .e]) [0, 1, 3, 7, 15, 0, 0, 0, 128, 448, 992, 2016, 4095, 8191, 0, 32767] [9, 14, 15] (fun ⟨k11, a11, x7_14⟩ => ([(0, (Pv b)), (1, .agg #[I6 y.1, I6 y.2]), (2, (Pv c)), (4, (Pv w.heap.size)), (6, .bool false), (12, .bool false), (27, .bool false), (7, .slice b431 n431 c431), (35, (Pv b)), (36, (Pv b)), (37, (Pv b)), (38, (Po b 3)), (39, S.pv), (40, .slice b431 n431 c431), (41, (Pv b)), (42, .slice b431 n431 c431), (43, I6 ↑n431), (44, I6 ↑k11), (45, (Po (bof (.slice b431 n431 c431)) (0 + k11 * 1))), (46, I6 (↑(owk S y.2 k11))), (47, (Po (bof S.pv) (oof S.pv + (owk S y.2 k11) * 2))), (48, .agg #[I6 ((owp S y.2 k11).l), (owp S y.2 k11).rv]), (8, (Pv x7_14))] : Fm)) (fun D ⟨k11, a11, x7_14⟩ w' => Ext [b] w33 w' ∧ (D 9 = false → Blk w' b 58 (#[S.lv, S.nv, I6 S.st, S.pv, pv, I6 ↑aq, .slice bs n cp, I6 ((ust + 1 : Nat) : Int)])) ∧ (D 9 = true → Blk w' b 58 (#[S.lv, S.nv, I6 S.st, S.pv, pv, I6 ↑a11, .slice bs n cp, I6 ((ust + 1 : Nat) : Int)])) ∧ (k11 < n431) ∧ (a11 ≤ aq + 1) ∧ (D 15 = false → (D 14 = true → (Blk w' x7_14 73 (#[I6 0, .slice none 0 0]) ∧ w33.heap.size ≤ x7_14)) ∧ True) ∧ (D 15 = true → (Blk w' x7_14 73 (#[I6 ((owp S y.2 k11).l), (owp S y.2 k11).rv]) ∧ w33.heap.size ≤ x7_14) ∧ True)) (fun ⟨k11, a11, x7_14⟩ w' => [(4, [w'.cell? ⟨b, 3, none⟩ = some (S.pv)]), (10, [Ru Tryd.prog (vS (Instr.indexAt 51 (.slice b431 n431 c431) (I6 ↑k11))) ((Po (bof (.slice b431 n431 c431)) (0 + k11 * 1))) w']), (11, [w'.cell? ⟨bof (.slice b431 n431 c431), 0 + k11 * 1, none⟩ = some (I6 (↑(owk S y.2 k11)))]), (12, [Ru Tryd.prog (vS (Instr.indexAt 24 (S.pv) (I6 (↑(owk S y.2 k11))))) ((Po (bof S.pv) (oof S.pv + (owk S y.2 k11) * 2))) w']), (13, [w'.cell? ⟨bof S.pv, oof S.pv + (owk S y.2 k11) * 2, none⟩ = some (I6 ((owp S y.2 k11).l)), w'.cell? ⟨bof S.pv, oof S.pv + (owk S y.2 k11) * 2 + 1, none⟩ = some ((owp S y.2 k11).rv)])]) (0, aq, 0) [0, 1, 2, 4, 6, 12, 27, 7] [] hS (by kernel_rfl) (by kernel_rfl) (by kernel_rfl) (by kernel_rfl) (fun ⟨k11, a11, x7_14⟩ _ => by kernel_rfl) (fun ⟨k11, a11, x7_14⟩ => by kernel_rfl) (by kernel_rfl) (by kernel_rfl) ⟨(Ext.refl _ _).drew, fun _ => hB35.drew, fun h => (by cases h), hno4p, Nat.le_succ _, fun _ => ⟨fun h => (by cases h), trivial⟩, fun h => by cases h⟩ ?_ ?_ ?_
   ·rintro D ⟨k11, a11, x7_14⟩ w' ⟨hE, hWo, hWn, hWg0, hWg1, _, _⟩ xq hxq _ _
    refine AllI.mem ?_ xq hxq
    obtain ⟨hu5, hWu⟩ : ∃ (hu5 : Value), Blk w' b 58 (#[S.lv, S.nv, I6 S.st, S.pv, pv, hu5, .slice bs n cp, I6 ((ust + 1 : Nat) : Int)]) := by
     cases hDw : D 9 with
     | false => exact ⟨_, hWo hDw⟩
     | true => exact ⟨_, hWn hDw⟩
    exact (.cons (.cons (hWu.cell 3 rfl) .nil) (.cons (.cons (ix_own (j := k11) ((hB40.ext hE (fun x hx hm => by simp at hm; exact (OwnV.ne hB40 hB35 (by decide)) x hx hm.symm))) (by kernel_rfl) (by kernel_rfl) rfl (by omega)) .nil) (.cons (.cons (OwnV.cellAt ((hB40.ext hE (fun x hx hm => by simp at hm; exact (OwnV.ne hB40 hB35 (by decide)) x hx hm.symm)) : OwnV w' 3 1 (.slice b431 n431 c431) n431 (ivs (ownL S.ps y.2 0))) (0 + k11 * 1) (by rw [Nat.zero_add]; exact ivs_at' (owk_at (by omega)))) .nil) (.cons (.cons (ix_rd (e := 73) (j := (owk S y.2 k11)) hG.prods (by kernel_rfl) (by kernel_rfl) rfl (owk_lt (by omega))) .nil) (.cons (.cons ((hG.prods.ext0 ((hb.trans hE41 (fun x hx => .inr (hnw x hx))).trans hE (fun b hbM => by simp at hbM; rw [hbM]; exact .inr hbn))).cellAt ((owk S y.2 k11) * 2 + 0) (by omega) (pcells_at S.ps (owk S y.2 k11) 0 (owp S y.2 k11) (owp_at (by omega)).1 (by omega))) (.cons ((hG.prods.ext0 ((hb.trans hE41 (fun x hx => .inr (hnw x hx))).trans hE (fun b hbM => by simp at hbM; rw [hbM]; exact .inr hbn))).cellAt ((owk S y.2 k11) * 2 + 1) (by omega) (pcells_at S.ps (owk S y.2 k11) 1 (owp S y.2 k11) (owp_at (by omega)).1 (by omega))) .nil)) .nil)))))
   ·refine (.cons ?_ (.cons ?_ (.cons ?_ .nil)))
    ·rintro D ⟨k11, a11, x7_14⟩ w' ⟨hE, hWo, hWn, hWg0, hWg1, hA, hB⟩ hDi hdp hnd
     have hDf : D 15 = false := hnd 15 (by simp) (by decide)
     obtain ⟨hA14, _⟩ := hA hDf
     have hWb := hWo hDi
     refine upon_call (f := 71) (vs := [(Pv b), I6 ↑n431]) (cap := #[]) (d := (some 44)) (by kernel_rfl) Tryd.call71 #[(Pv b), I6 ↑n431] (by kernel_rfl) (pick_any hG ((hb.trans hE41 (fun x hx => .inr (hnw x hx))).trans hE (fun b hbM => by simp at hbM; rw [hbM]; exact .inr hbn)) hp hpm0 hbn hWb (by omega) (mx := n431) (by omega) (by omega)) ?_
     rintro _ wn ⟨kN, aN, rfl, hkN, haN, hBN, hEn⟩
     refine ⟨_, rfl, (kN, aN, x7_14), by kernel_rfl, by kernel_rfl, hE.trans hEn (by simp), fun h => (by rw [setS_self] at h; cases h), fun _ => hBN, hkN, haN, fun _ => ⟨fun h => ⟨(hA14 h).1.ext hEn (by simpa using (Nat.ne_of_lt (Nat.lt_of_lt_of_le hB35.lt (hA14 h).2)).symm), (hA14 h).2⟩, trivial⟩, fun h => ?_⟩
     rw [show setS D 9 15 = D 15 from rfl, hDf] at h; cases h
    ·rintro D ⟨k11, a11, x7_14⟩ w' ⟨hE, hWo, hWn, hWg0, hWg1, hA, hB⟩ hDi hdp hnd
     have hDf : D 15 = false := hnd 15 (by simp) (by decide)
     obtain ⟨hA14, _⟩ := hA hDf
     have hEn : Ext [] w' (w'.alloc (.cells #[I6 0, .slice none 0 0] 73)) := (Ext.refl _ _).alloc _
     refine upon_box (nb := w'.heap.size) (cs := #[I6 0, .slice none 0 0]) (T := 73) (d := (some 8)) (by kernel_rfl) rfl ⟨(k11, a11, w'.heap.size), by kernel_rfl, by kernel_rfl, hE.trans0 hEn, fun h => (hWo h).ext hEn (by simp), fun h => (hWn h).ext hEn (by simp), hWg0, hWg1, fun _ => ⟨fun _ => ⟨Blk.new _ _ _, hE.size⟩, trivial⟩, fun h => ?_⟩
     rw [show setS D 14 15 = D 15 from rfl, hDf] at h; cases h
    ·rintro D ⟨k11, a11, x7_14⟩ w' ⟨hE, hWo, hWn, hWg0, hWg1, hA, hB⟩ hDi hdp hnd
     obtain ⟨hA14, _⟩ := hA hDi
     obtain ⟨hf14, hs14⟩ := hA14 (hdp 14 (by simp) (by decide))
     refine upon_store (b := x7_14) (off := 0) (vs := [I6 ((owp S y.2 k11).l), (owp S y.2 k11).rv]) (by kernel_rfl) hf14 (by simp) ⟨(k11, a11, x7_14), by kernel_rfl, by kernel_rfl, hE.updIn (.inr hs14) _ _, fun h => (hWo h).updNe (Nat.ne_of_lt (Nat.lt_of_lt_of_le hB35.lt hs14)).symm _ _, fun h => (hWn h).updNe (Nat.ne_of_lt (Nat.lt_of_lt_of_le hB35.lt hs14)).symm _ _, hWg0, hWg1, fun h => ?_, fun _ => ⟨⟨hf14.upd _ _, hs14⟩, trivial⟩⟩
     rw [setS_self] at h; cases h
   rintro D ⟨k11, a11, x7_14⟩ a wz43 hS hall ⟨hEz43, hWo, hWn, hWg0, hWg1, _, hB⟩
   obtain ⟨⟨hz43_14, hy43_14⟩, _⟩ := hB (hall 15 (by simp))
   have hB44 := hWn (hall 9 (by simp))
   have hB45 := hB36.ext hEz43 (by simpa using (Ne.symm (Blk.ne_type hN.tk.blk hN.lb (by decide))))
   have hB46 := hB37.ext hEz43 (fun x hx hm => by simp at hm; exact (hN.tk.row.own.ne hN.tk.blk (by decide)) x hx hm.symm)
   have hB47 := hB38.ext hEz43 (fun x hx hm => by simp at hm; exact (hN.own.ne hN.tk.blk (by decide)) x hx hm.symm)
   have hB48 := hB39.ext hEz43 (by simpa using (Ne.symm hn4))
   have hw43_14 : w.heap.size ≤ x7_14 := Nat.le_trans hE41.size hy43_14
   have hE50 := hE41.trans hEz43 (fun b hb => by simp at hb; subst hb; exact .inl hbM)
   replace hS := hS.kp [(0, (Pv b)), (1, .agg #[I6 y.1, I6 y.2]), (2, (Pv c)), (4, (Pv w.heap.size)), (6, .bool false), (12, .bool false), (27, .bool false), (7, .slice b431 n431 c431), (8, (Pv x7_14))]
   refine hK42 _ _ <| sq fun K51 hK51 => sq fun K52 hK52 => ?_
   obtain ⟨p, hpe⟩ : ∃ p, owp S y.2 k11 = p := ⟨_, rfl⟩
   have hpa := owp_at (S := S) (z := y.2) (k := k11) (by omega)
   rw [hpe] at hpa hz43_14
   have hpm := List.mem_of_getElem? hpa.1
   have hrm := hG.rmax p hpm
   have hgm : (A, row p.r) ∈ S.g := by have h := g_mem hpm; rw [hpa.2, hyA] at h; exact h
   refine rgn 1 <| sd ww [.p] [] [(9, I6 0)] [] 1 0 hS .nil fun a hS => seg_end <| hK52 _ _ <| wpIn_block ?_
   have hNs : NotK S pv w0.heap.size b c wz43 a11 (ust + 1) bs n cp (zs ++ []) ls ln lc (Ln ++ []) := ⟨⟨hB44, by rw [List.append_nil]; exact ⟨hB46, hN.tk.row.new⟩⟩, hB45, by rw [List.append_nil]; exact hB47, hN.new⟩
   have hxw : w.heap.size ≤ x7_14 := hw43_14
   have hyw : w.heap.size ≤ w.heap.size := hs13
   refine loop_ghost (fun ((k, a2, u2, bs2, n2, cp2, v, ls2, ln2, lc2, lv) : Nat × Nat × Nat × (Option Addr) × Nat × Nat × (List Nat) × (Option Addr) × Nat × Nat × (List (Nat × Nat))) a' w' => St 80 [] [(0, (Pv b)), (2, (Pv c)), (4, (Pv w.heap.size)), (8, (Pv x7_14)), (9, I6 ↑k)] a' ∧ Ext (nM b c (.slice bs n cp) (.slice ls ln lc)) w w' ∧ k ≤ p.r.length ∧ Blk w' (x7_14) 73 #[I6 p.l, p.rv] ∧ Blk w' (w.heap.size) 61 #[I6 y.1, I6 y.2] ∧ NotK S pv w0.heap.size b c w' a2 u2 bs2 n2 cp2 (zs ++ v) ls2 ln2 lc2 (Ln ++ lv) ∧ a2 ≤ u2 ∧ n2 ≤ u2 ∧ ln2 + (ust + 1) ≤ ln + u2 ∧ ust < u2 ∧ u2 ≤ 400 ∧ Fresh w.heap.size (ob (.slice bs n cp)) (ob (.slice bs2 n2 cp2)) ∧ Fresh w.heap.size (ob (.slice ls ln lc)) (ob (.slice ls2 ln2 lc2)) ∧ NT S.g S.nl zs.length (row (p.r.take k)) v lv) (fun ((k, a2, u2, bs2, n2, cp2, v, ls2, ln2, lc2, lv) : Nat × Nat × Nat × (Option Addr) × Nat × Nat × (List Nat) × (Option Addr) × Nat × Nat × (List (Nat × Nat))) => p.r.length - k) (0, a11, (ust + 1), bs, n, cp, [], ls, ln, lc, []) ⟨hS.keepTo [0, 2, 4, 8, 9] (by kernel_rfl), hE50, by omega, hz43_14, hB48, hNs, by omega, by omega, by omega, by omega, by omega, fun x hx => .inl hx, fun x hx => .inl hx, .nil⟩ ?_
   rintro ⟨k, a2, u2, bs2, n2, cp2, v, ls2, ln2, lc2, lv⟩ a wl53 ⟨hS, hXl53, hk, hxb, hyb, hK2, ha2, hn2, hl2, hu2, hu4, hf2, hg2, hmt⟩
   have hXl0 := hXl53
   refine sq fun K54 hK54 => sq fun K55 hK55 => rgn 5 <| sd ww [.p, .p, .ld (p.rv), .run (I6 ↑p.r.length), .p] [wl53.cell? ⟨x7_14, 1, none⟩ = some (p.rv), Ru Tryd.prog (vS (Builtin.len_ #[71] 3 #[p.rv])) (I6 ↑p.r.length) wl53] [(53, .bool (decide ((↑k : Int) < ↑p.r.length)))] [] 5 0 hS (.cons (hxb.cell 1 rfl) (.cons (run_len_rd (e := 61) (hG.right p hpm) (by kernel_rfl)) .nil)) fun a hS => seg_end <| hK55 _ _ ?_
   refine cond_b hS rfl (fun hb56 => ?_) (fun hb56 => ?_)
   ·
    replace hb56 := of_decide_eq_true hb56
    obtain ⟨x, hxk⟩ : ∃ x, p.r[k]? = some x := ⟨_, List.getElem?_eq_getElem (by omega)⟩
    have hxm := List.mem_of_getElem? hxk
    refine wpIn_skip <| hK54 _ _ <| sq fun K57 hK57 => wpIn_block <| sq fun K58 hK58 => rgn 9 <| sd ww [.p, .p, .ld (p.rv), .p, .run ((Po (bof p.rv) (oof p.rv + k * 2))), .lds [I6 x.1, I6 x.2], .p] [wl53.cell? ⟨x7_14, 1, none⟩ = some (p.rv), Ru Tryd.prog (vS (Instr.indexAt 71 (p.rv) (I6 ↑k))) ((Po (bof p.rv) (oof p.rv + k * 2))) wl53, wl53.cell? ⟨bof p.rv, oof p.rv + k * 2, none⟩ = some (I6 x.1), wl53.cell? ⟨bof p.rv, oof p.rv + k * 2 + 1, none⟩ = some (I6 x.2)] [(56, (Pv b)), (61, .agg #[I6 x.1, I6 x.2]), (62, (Pv c))] [] 7 2 hS (.cons (hxb.cell 1 rfl) (.cons (ix_rd (e := 61) (j := k) (hG.right p hpm) (by kernel_rfl) (by kernel_rfl) rfl (by omega)) (.cons (((hG.right p hpm).ext0 (hb.trans hXl53 (fun x hx => .inr (hnw x hx)))).cellAt (k * 2 + 0) (by omega) (ycells_at p.r k 0 x hxk (by omega))) (.cons (((hG.right p hpm).ext0 (hb.trans hXl53 (fun x hx => .inr (hnw x hx)))).cellAt (k * 2 + 1) (by omega) (ycells_at p.r k 1 x hxk (by omega))) .nil)))) fun a hS => eff_call ww (r := 1) (f := 31) (vs := [(Pv b), .agg #[I6 x.1, I6 x.2], (Pv c)]) (cap := #[]) (d := (some 63)) hS (by kernel_rfl) Tryd.call31 #[(Pv b), .agg #[I6 x.1, I6 x.2], (Pv c)] (by kernel_rfl) (ih _ a2 u2 bs2 n2 cp2 _ ls2 ln2 lc2 _ x (hb.trans hXl53 (fun x hx => .inr (hnw x hx))) hK2 ha2 hn2 (by omega) hu2 hu4 (hok.ix.right p hpm x hxm)) ?_
    rintro _ wm (⟨rfl, hEm⟩ | ⟨a3, u3, bs3, n3, cp3, ls3, ln3, lc3, v3, l3, rfl, hK3, hEm, hf3, hg3, ha3, hn3, hl3, hu3, hu43, hm3⟩)
    ·
     refine ⟨_, rfl, fun a hS => ?_⟩
     have hXm : Ext (nM b c (.slice bs n cp) (.slice ls ln lc)) w wm := hXl53.trans hEm (nM_fresh hf2 hg2)
     refine sd ww [.p] [] [(64, .bool true)] [] 9 0 hS .nil fun a hS => seg_end <| hK58 _ _ ?_
     refine cond_t hS rfl ?_
     refine sq fun K59 hK59 => rgn 1 <| sd ww [.p] [] [(6, .bool false)] [] 1 0 hS .nil fun a hS => seg_end <| hK59 _ _ <| wpIn_ret <| inBlock_ret <| then_ret <| then_ret <| inBlock_ret <| then_ret ?_
     refine ret1 hS Tryd.results31 rfl ?_
     exact .inl ⟨rfl, hXm⟩
    ·
     refine ⟨_, rfl, fun a hS => ?_⟩
     have hXm : Ext (nM b c (.slice bs n cp) (.slice ls ln lc)) w wm := hXl53.trans hEm (nM_fresh hf2 hg2)
     have hxb3 : Blk wm x7_14 73 #[I6 p.l, p.rv] := hxb.ext hEm (fun hm => by
      rcases mem_nM.1 hm with h | h | h | h
      ·have := hN.tk.blk.lt; omega
      ·have := hN.lb.lt; omega
      ·exact hK2.tk.row.own.ne hxb (by decide) _ h rfl
      ·exact hK2.own.ne hxb (by decide) _ h rfl)
     have hyb3 : Blk wm w.heap.size 61 #[I6 y.1, I6 y.2] := hyb.ext hEm (fun hm => by
      rcases mem_nM.1 hm with h | h | h | h
      ·have := hN.tk.blk.lt; omega
      ·have := hN.lb.lt; omega
      ·exact hK2.tk.row.own.ne hyb (by decide) _ h rfl
      ·exact hK2.own.ne hyb (by decide) _ h rfl)
     rw [List.append_assoc, List.append_assoc] at hK3
     have hmt3 : NT S.g S.nl zs.length (row (p.r.take (k + 1))) (v ++ v3) (lv ++ l3) := by
      rw [List.length_append] at hm3
      rw [List.take_add_one, hxk, row, List.map_append]; exact NT_app hmt hm3
     refine sd ww [.p] [] [(64, .bool false)] [] 9 0 hS .nil fun a hS => seg_end <| hK58 _ _ ?_
     refine cond_f hS rfl ?_
     refine wpIn_skip <| inBlock_normal <| hK57 _ _ <| rgn 3 <| sd ww [.p, .as (I6 (↑k + 1)), .p] [Value.int .i64 (IntKind.i64.wrap (↑k + 1)) = I6 (↑k + 1)] [(9, I6 (↑k + 1))] [] 3 0 hS (.cons (as_i64 (by omega)) .nil) fun a hS => seg_end ?_
     exact ⟨(k + 1, a3, u3, bs3, n3, cp3, (v ++ v3), ls3, ln3, lc3, (lv ++ l3)), ⟨hS.kp [(0, (Pv b)), (2, (Pv c)), (4, (Pv w.heap.size)), (8, (Pv x7_14)), (9, I6 (↑k + 1))], hXm, by omega, hxb3, hyb3, hK3, ha3, hn3, by omega, by omega, hu43, Fresh.trans' hf2 hf3 hXl0.size, Fresh.trans' hg2 hg3 hXl0.size, hmt3⟩, by simp only; omega⟩
   ·
    replace hb56 := of_decide_eq_false hb56
    rw [List.take_of_length_le (by omega)] at hmt
    have hzl := hK2.tk.row.len
    rw [List.length_append] at hzl
    have hkb := hK2.tk.blk
    have hkr := hK2.tk.row.own
    have hkc := hK2.lb
    have hko := hK2.own
    refine wpIn_exit <| then_exit <| then_exit <| inBlock_hit <| hK51 _ _ <| sq fun K60 hK60 => ?_
    obtain ⟨ga61, ca61, wa61, hra61, hOa61, hEa61, hFa61⟩ := append_any (P := Tryd.prog) (w := (wl53.drew).alloc (.cells #[I6 y.2, I6 ↑n2] 69)) (t := 65) (ty := 65) (e := 69) (size := 2) (bytes := 16) (n := ln2) (b := wl53.heap.size) (off := 0) (k := 1) (c := 1) (z := #[I6 0, I6 0]) (v := Value.slice ls2 ln2 lc2) (xs := (ncs (Ln ++ lv))) (news := [I6 y.2, I6 ↑n2]) (by kernel_rfl) (by kernel_rfl) rfl (by decide) ((hko.drew).alloc _ : OwnV ((wl53.drew).alloc (.cells #[I6 y.2, I6 ↑n2] 69)) 69 2 (.slice ls2 ln2 lc2) ln2 (ncs (Ln ++ lv))) (by simp) (fun j u hu => by rw [Nat.zero_add]; exact (Blk.new' _ _ _ (by first | rfl | simp [upd_size]) : Blk ((wl53.drew).alloc (.cells #[I6 y.2, I6 ↑n2] 69)) wl53.heap.size 69 (#[I6 y.2, I6 ↑n2])).cell j (by simpa using hu)) rfl (by omega) (by simp only [maxLen]; omega) (by omega)
    refine region_fn2 ww [.q .p, .q .p, .q .p, .q (.ld (.slice ls2 ln2 lc2)), .q .p, .q (.ld (I6 y.2)), .q .p, .q .p, .q .p, .q (.ld (.slice bs2 n2 cp2)), .q .p, .q .p, .e, .e, .q .p, .e] [0, 0, 0, 0, 0, 0, 0, 0, 0, 0, 0, 0, 0, 1, 2, 2] [2, 1, 1, 1, 0, 0, 0, 0, 0, 0, 0, 0, 0, 1, 2, 2] [0, 0, 2, 6, 0, 16, 0, 64, 192, 448, 960, 2032, 4080, 8190, 16383, 32767] [12, 13, 15] 3 ([(0, (Pv b)), (2, (Pv c)), (4, (Pv w.heap.size)), (8, (Pv x7_14)), (9, I6 ↑k), (53, .bool (decide ((↑k : Int) < ↑p.r.length))), (65, (Pv c)), (66, (Pv c)), (67, (Pv c)), (68, .slice ls2 ln2 lc2), (69, (Po w.heap.size 1)), (70, I6 y.2), (71, (Pv b)), (72, (Pv b)), (73, (Po b 6)), (74, .slice bs2 n2 cp2), (75, I6 ↑n2), (76, .agg #[I6 y.2, I6 ↑n2]), (77, Sl wl53.heap.size 1 1), (78, Sl ga61 (ln2 + 1) ca61), (79, (Pv c))]) [wl53.drew, (wl53.drew).alloc (.cells #[I6 y.2, I6 ↑n2] 69), wa61, upd (wa61) (c) 65 #[Sl ga61 (ln2 + 1) ca61]] wl53.drew (fun w' => [(3, [w'.cell? ⟨c, 0, none⟩ = some (.slice ls2 ln2 lc2)]), (5, [w'.cell? ⟨w.heap.size, 1, none⟩ = some (I6 y.2)]), (9, [w'.cell? ⟨b, 6, none⟩ = some (.slice bs2 n2 cp2)])]) [0, 2, 4, 8, 9, 53] [] hS (by kernel_rfl) (by kernel_rfl) (by kernel_rfl) (by kernel_rfl) (fun _ => by kernel_rfl) (by kernel_rfl) (by kernel_rfl) (by kernel_rfl) ?_ ?_ ?_
    ·intro e w' hw
     refine (.cons ?_ (.cons ?_ (.cons ?_ .nil)))
     ·intro h1 h2
      replace h1 : 0 ≤ e := h1
      replace h2 : e ≤ 1 := h2
      have he : e = 0 ∨ e = 1 := by omega
      rcases he with rfl | rfl
      ·obtain rfl : w' = wl53.drew := hw.trans (by kernel_rfl)
       exact (.cons ((hkc.drew : Blk wl53.drew c 65 (#[.slice ls2 ln2 lc2])).cell 0 rfl) .nil)
      ·obtain rfl : w' = (wl53.drew).alloc (.cells #[I6 y.2, I6 ↑n2] 69) := hw.trans (by kernel_rfl)
       exact (.cons (((hkc.drew).alloc _ : Blk ((wl53.drew).alloc (.cells #[I6 y.2, I6 ↑n2] 69)) c 65 (#[.slice ls2 ln2 lc2])).cell 0 rfl) .nil)
     ·intro h1 h2
      obtain rfl : e = 0 := Nat.le_antisymm h2 h1
      obtain rfl : w' = wl53.drew := hw.trans (by kernel_rfl)
      exact (.cons ((hyb.drew : Blk wl53.drew w.heap.size 61 (#[I6 y.1, I6 y.2])).cell 1 rfl) .nil)
     ·intro h1 h2
      obtain rfl : e = 0 := Nat.le_antisymm h2 h1
      obtain rfl : w' = wl53.drew := hw.trans (by kernel_rfl)
      exact (.cons ((hkb.drew : Blk wl53.drew b 58 (#[S.lv, S.nv, I6 S.st, S.pv, pv, I6 ↑a2, .slice bs2 n2 cp2, I6 ↑u2])).cell 6 rfl) .nil)
    ·refine (.cons ?eq62_12 (.cons ?eq62_13 (.cons ?eq62_15 .nil)))
     ·refine eff_at (wl53.drew) ((wl53.drew).alloc (.cells #[I6 y.2, I6 ↑n2] 69)) (by kernel_rfl) (by kernel_rfl) ?_
      exact upon_new (nb := wl53.heap.size) (cs := #[I6 y.2, I6 ↑n2]) (T := 69) (v := Value.slice (some ⟨wl53.heap.size, 0, none⟩) 1 1) (d := (some 77)) (by kernel_rfl) (by first | rfl | simp [upd_size]) ⟨by kernel_rfl, by kernel_rfl⟩
     ·refine eff_at ((wl53.drew).alloc (.cells #[I6 y.2, I6 ↑n2] 69)) (wa61) (by kernel_rfl) (by kernel_rfl) ?_
      exact upon_run (s := vS (Builtin.append_ #[65, 65] 65 #[Value.slice ls2 ln2 lc2, Value.slice (some ⟨wl53.heap.size, 0, none⟩) 1 1])) (d := (some 78)) (v := Value.slice (some ⟨ga61, 0, none⟩) (ln2 + 1) ca61) (by kernel_rfl) (vS_run hra61) ⟨by kernel_rfl, by kernel_rfl⟩
     ·refine eff_at (wa61) (upd (wa61) (c) 65 #[Sl ga61 (ln2 + 1) ca61]) (by kernel_rfl) (by kernel_rfl) ?_
      exact upon_store (b := c) (off := 0) (vs := [Sl ga61 (ln2 + 1) ca61]) (by kernel_rfl) ((((hkc.drew).alloc _ : Blk ((wl53.drew).alloc (.cells #[I6 y.2, I6 ↑n2] 69)) c 65 (#[.slice ls2 ln2 lc2]))).ext hEa61 (OwnV.notin ((hko.drew).alloc _ : OwnV ((wl53.drew).alloc (.cells #[I6 y.2, I6 ↑n2] 69)) 69 2 (.slice ls2 ln2 lc2) ln2 (ncs (Ln ++ lv))) ((hkc.drew).alloc _ : Blk ((wl53.drew).alloc (.cells #[I6 y.2, I6 ↑n2] 69)) c 65 (#[.slice ls2 ln2 lc2])) (by decide)) : Blk wa61 c 65 (#[.slice ls2 ln2 lc2])) (by simp) ⟨by kernel_rfl, by kernel_rfl⟩
    rintro a w63 hS hw64
    replace hw64 : w63 = upd (wa61) (c) 65 #[Sl ga61 (ln2 + 1) ca61] := hw64.trans (by kernel_rfl)
    have hB67 := Blk.at' hw64 (((((hkb.drew).alloc _ : Blk ((wl53.drew).alloc (.cells #[I6 y.2, I6 ↑n2] 69)) b 58 (#[S.lv, S.nv, I6 S.st, S.pv, pv, I6 ↑a2, .slice bs2 n2 cp2, I6 ↑u2]))).ext hEa61 (OwnV.notin ((hko.drew).alloc _ : OwnV ((wl53.drew).alloc (.cells #[I6 y.2, I6 ↑n2] 69)) 69 2 (.slice ls2 ln2 lc2) ln2 (ncs (Ln ++ lv))) ((hkb.drew).alloc _ : Blk ((wl53.drew).alloc (.cells #[I6 y.2, I6 ↑n2] 69)) b 58 (#[S.lv, S.nv, I6 S.st, S.pv, pv, I6 ↑a2, .slice bs2 n2 cp2, I6 ↑u2])) (by decide))).updNe (Ne.symm (Blk.ne_type hkb hkc (by decide))) _ _)
    have hB68 : Blk w63 c 65 (#[Sl ga61 (ln2 + 1) ca61]) := by rw [hw64]; exact ((((hkc.drew).alloc _ : Blk ((wl53.drew).alloc (.cells #[I6 y.2, I6 ↑n2] 69)) c 65 (#[.slice ls2 ln2 lc2]))).ext hEa61 (OwnV.notin ((hko.drew).alloc _ : OwnV ((wl53.drew).alloc (.cells #[I6 y.2, I6 ↑n2] 69)) 69 2 (.slice ls2 ln2 lc2) ln2 (ncs (Ln ++ lv))) ((hkc.drew).alloc _ : Blk ((wl53.drew).alloc (.cells #[I6 y.2, I6 ↑n2] 69)) c 65 (#[.slice ls2 ln2 lc2])) (by decide))).upd _ _
    have hB69 := OwnV.at' hw64 (((((hkr.drew).alloc _ : OwnV ((wl53.drew).alloc (.cells #[I6 y.2, I6 ↑n2] 69)) 3 1 (.slice bs2 n2 cp2) n2 (ivs (zs ++ v)))).ext hEa61 (OwnV.disj ((hkr.drew).alloc _ : OwnV ((wl53.drew).alloc (.cells #[I6 y.2, I6 ↑n2] 69)) 3 1 (.slice bs2 n2 cp2) n2 (ivs (zs ++ v))) ((hko.drew).alloc _ : OwnV ((wl53.drew).alloc (.cells #[I6 y.2, I6 ↑n2] 69)) 69 2 (.slice ls2 ln2 lc2) ln2 (ncs (Ln ++ lv))) (by decide))).updNe (hkr.ne hkc (by decide)) _ _)
    have hB70 : OwnR w63 69 2 ga61 ca61 (ln2 + 1) ((ncs (Ln ++ lv)) ++ [I6 y.2, I6 ↑n2]) := by rw [hw64]; exact (hOa61).updNe ((OwnR.ne_type hOa61 ((((hkc.drew).alloc _ : Blk ((wl53.drew).alloc (.cells #[I6 y.2, I6 ↑n2] 69)) c 65 (#[.slice ls2 ln2 lc2]))).ext hEa61 (OwnV.notin ((hko.drew).alloc _ : OwnV ((wl53.drew).alloc (.cells #[I6 y.2, I6 ↑n2] 69)) 69 2 (.slice ls2 ln2 lc2) ln2 (ncs (Ln ++ lv))) ((hkc.drew).alloc _ : Blk ((wl53.drew).alloc (.cells #[I6 y.2, I6 ↑n2] 69)) c 65 (#[.slice ls2 ln2 lc2])) (by decide))) (by decide)).symm) _ _
    have hE71 : Ext (nM b c (.slice bs n cp) (.slice ls ln lc)) w w63 := by rw [hw64]; exact (((hXl53.drew).alloc _).trans hEa61 (fun x hx => nM_fresh hf2 hg2 x (mem_nM.2 (.inr (.inr (.inr hx)))))).updIn (.inl hcM) _ _
    replace hS := hS.kp [(0, (Pv b)), (2, (Pv c)), (4, (Pv w.heap.size)), (8, (Pv x7_14)), (9, I6 ↑k), (53, .bool (decide ((↑k : Int) < ↑p.r.length)))]
    refine hK60 _ _ <| sq fun K72 hK72 => rgn 1 <| sd ww [.p] [] [(6, .bool true)] [] 1 0 hS .nil fun a hS => seg_end <| hK72 _ _ <| wpIn_ret ?_
    have hl9 : ncs (Ln ++ lv) ++ [I6 y.2, I6 ↑n2] = ncs (Ln ++ (lv ++ (A, zs.length + v.length) :: [])) := by rw [← List.append_assoc, ncs_app (Ln ++ lv), hyA, show n2 = zs.length + v.length by omega]; rfl
    have hNn : NotK S pv w0.heap.size b c w63 a2 u2 bs2 n2 cp2 (zs ++ (v ++ [])) (some ⟨ga61, 0, none⟩) (ln2 + 1) ca61 (Ln ++ (lv ++ (A, zs.length + v.length) :: [])) := ⟨⟨hB67, by rw [List.append_nil]; exact ⟨hB69, hK2.tk.row.new⟩⟩, hB68, by rw [← hl9]; exact (hB70).v, fun x hx => by
     have hx1 : x = ga61 := by simpa [ob] using hx
     rw [hx1]
     rcases hFa61 ga61 (by simp) with h | h
     ·exact hK2.new _ h
     ·exact Nat.le_trans (((hb.trans hXl53 (fun x hx => .inr (hnw x hx))).trans0 (((Ext.refl [] _).drew).alloc _))).size h⟩
    refine ret1 hS Tryd.results31 rfl ?_
    exact .inr ⟨a2, u2, bs2, n2, cp2, _, _, _, v ++ [], lv ++ (A, zs.length + v.length) :: [], rfl, hNn, hE71, hf2, fun x hx => by
     have hx1 : x = ga61 := by simpa [ob] using hx
     rw [hx1]
     rcases hFa61 ga61 (by simp) with h | h
     ·exact hg2 _ h
     ·exact .inr (Nat.le_trans (hXl53.trans0 (((Ext.refl [] _).drew).alloc _)).size h), by omega, by omega, by omega, by omega, by omega, by rw [hsy]; exact .m hgm hmt .nil⟩

theorem notes_any {w0 : World} {S : Sp} (hG : SpOk w0 S) {pv : Value} {np : Nat} {ts : List Int} (hp : RdV w0 1 pv np (its ts)) (hpm0 : np ≤ 1048576) (hok : GOk S) {b c : Nat} (hbn : w0.heap.size ≤ b) (hcn : w0.heap.size ≤ c) : ∀ (d : Nat) {w : World} {aq ust : Nat} {bs : Option Addr} {n cp : Nat} {zs : List Nat} {ls : Option Addr} {ln lc : Nat} {Ln : List (Nat × Nat)} {y : Sy}, 400 - ust < d → Ext [] w0 w → NotK S pv w0.heap.size b c w aq ust bs n cp zs ls ln lc Ln → aq ≤ ust → n ≤ ust → ln ≤ ust → ust ≤ 400 → syOk S y → Calls Tryd.prog 31 #[(Pv b), .agg #[I6 y.1, I6 y.2], (Pv c)] w (NtR S pv w0.heap.size b c ([sm y]) ust bs n cp zs ls ln lc Ln w)
 | 0, _, _, _, _, _, _, _, _, _, _, _, _, hd, _, _, _, _, _, _, _ => by omega
 | d + 1, w, aq, ust, bs, n, cp, zs, ls, ln, lc, Ln, y, hd, hb, hK, h1, h2, h5, h3, h4 => notes_step hG hb hp hpm0 hok hbn hcn hK h1 h2 h5 h3 h4 fun w aq u3 bs n cp zs ls ln lc Ln y hb hK h1 h2 h5 h6 h7 h8 => notes_any hG hp hpm0 hok hbn hcn d (by omega) hb hK h1 h2 h5 h7 h8

end Go.Proofs.YtkkpghlcmcaoiaaDoor
