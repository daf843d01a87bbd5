import Derived.Test.YtkkpghlcmcaoiaaDoorS54
namespace Go.Proofs.YtkkpghlcmcaoiaaDoor
open Go.Vc Go.Gm
set_option maxHeartbeats 2000000 in
theorem SetsHeads_any {w0 w : World} {S : Sp} (hG : SpOk w0 S) (hb : Ext [] w0 w) (hT : Tab w0) (hX : ∃ xs, PatOk w0 S xs) {av : Value} {As : List Ak} (ha : RdV w0 2 av As.length (acells As)) (hA : ∀ x ∈ As, Ak.Ok w0 x) (hm : As.length ≤ 1048576) :
  Calls Tryd.prog 7 #[.agg S.ca, av] w fun e w' => e = .returned (.bool true) ∧ Ext [] w w' := by
 refine cbd 164 [(0, .agg S.ca), (1, av)] Tryd.func7 rfl fun a hS => ?_
 have hE0 : Ext [] w w := Ext.refl _ _
 refine sq fun K1 hK1 => rgn 2 <| ebx 1 S.ca 26 (some 2) hS fun a w2 hw3 hS => ?_
 have hB4 := Blk.nw hw3
 have hs5 := hE0.size
 have hE6 := hE0.al hw3
 refine sd ww [.p] [] [(4, .bool false)] [] 2 0 hS .nil fun a hS => sge hK1 <| sq fun K7 hK7 => sq fun K8 hK8 => rgn 2 <| ecl 1 (some 17) hS Tryd.call12 #[] (Head_any (hT.ext0 (hb.trans0 hE6))) ?_
 rintro _ wc9 ⟨rfl, hEc9⟩
 refine ⟨_, rfl, fun a hS => ?_⟩
 have hB10 := hB4.ext hEc9 (by simp)
 have hE11 := hE6.trans0 hEc9
 refine sd ww [.p] [] [(18, .bool false)] [] 2 0 hS .nil fun a hS => sge hK8 ?_
 refine cond_f hS rfl ?_
 refine wpIn_skip <| hK7 _ _ <| sq fun K12 hK12 => rgn 4 <| sd ww [.lds [S.lv, S.nv, I6 S.st, S.pv]] [_, _, _, _] [(19, .agg S.ca)] [] 1 3 hS (hB10.k 0 (hB10.k 1 (hB10.k 2 (hB10.k 3 .nil)))) fun a hS => ecl 2 (some 20) hS Tryd.call13 #[.agg S.ca] (Lend_any2 hG (hb.trans0 hE11) (hX.imp fun _ h => h)) ?_
 rintro _ wlt ⟨S2, rfl, hG2, hSm, hKp, hElt⟩
 refine ⟨_, rfl, fun a hS => ?_⟩
 have hB14 := hB10.ext hElt (by simp)
 have hE15 := hE11.trans0 hElt
 have hbr16 : Ext [] w0 wlt := (hb.trans0 hE15)
 have hEr16 : Ext [] wlt wlt := Ext.refl _ _
 refine ebx 1 #[.slice none 0 0, .slice none 0 0, I6 0, .slice none 0 0] 26 (some 5) hS fun a w17 hw18 hS => ?_
 have hn19 := Nat.ne_of_lt hB14.lt
 have hB20 := Blk.at' hw18 (hB14.alloc _)
 have hB21 := Blk.nw hw18
 have hs22 := hEr16.size
 have hE23 := hEr16.al hw18
 refine est 0 wlt.heap.size 0 [S2.lv, S2.nv, I6 S2.st, S2.pv] hS hB21 fun a w24 hw25 hS => ?_
 have hB26 := Blk.at' hw25 (hB20.updNe (Ne.symm hn19) _ _)
 have hB27 : Blk w24 wlt.heap.size 26 (#[S2.lv, S2.nv, I6 S2.st, S2.pv]) := hB21.up hw25
 have hE28 := hE23.ui hw25 hs22
 refine sge hK12 <| sdq 1 [.p] [] [(6, .slice none 0 0)] [] hS .nil fun a hS => sdq 1 [.p] [] [(7, .slice none 0 0)] [] hS .nil fun a hS => sq fun K31 hK31 => sdq 1 [.p] [] [(8, I6 0)] [] hS .nil fun a hS => wpIn_block ?_
 have hnil : ∀ x ∈ ob (.slice none 0 0), wlt.heap.size ≤ x := fun x hx => by simp [ob] at hx
 refine loop_ghost (fun ((i, rs, rn, rc, rx, ns, nn, nc, nx) : Nat × (Option Addr) × Nat × Nat × (List Value) × (Option Addr) × Nat × Nat × (List Value)) a' w' => St 164 [] [(1, av), (2, (Pv w.heap.size)), (5, (Pv wlt.heap.size)), (6, .slice rs rn rc), (7, .slice ns nn nc), (8, I6 i)] a' ∧ Ext [] wlt w' ∧ i ≤ As.length ∧ Blk w' w.heap.size 26 (S.ca) ∧ Blk w' wlt.heap.size 26 (#[S2.lv, S2.nv, I6 S2.st, S2.pv]) ∧ OwnV w' 61 2 (.slice rs rn rc) rn rx ∧ (∀ x ∈ ob (.slice rs rn rc), wlt.heap.size ≤ x) ∧ OwnV w' 3 1 (.slice ns nn nc) nn nx ∧ (∀ x ∈ ob (.slice ns nn nc), wlt.heap.size ≤ x)) (fun ((i, rs, rn, rc, rx, ns, nn, nc, nx) : Nat × (Option Addr) × Nat × Nat × (List Value) × (Option Addr) × Nat × Nat × (List Value)) => As.length - i) (0, none, 0, 0, [], none, 0, 0, []) ⟨hS.keepTo [1, 2, 5, 6, 7, 8] (by kernel_rfl), hE28, by omega, hB26, hB27, OwnV.nil _ _ _, hnil, OwnV.nil _ _ _, hnil⟩ ?_
 rintro ⟨i, rs, rn, rc, rx, ns, nn, nc, nx⟩ a wl33 ⟨hS, hXl33, hi, hsb1, hlb1, hrs, hrsn, hns, hnsn⟩
 refine sq fun K34 hK34 => sdq 4 [.p, .p, .run (I6 As.length), .p] [Rv (Builtin.len_ #[75] 3 #[av]) (I6 As.length) wl33] [(24, .bool (decide ((↑i : Int) < ↑As.length)))] [] hS (.c (rlr 77 ha) .nil) fun a hS => ?_
 refine cond_b hS rfl (fun hb36 => ?_) (fun hb36 => ?_)
 ·
  replace hb36 := of_decide_eq_true hb36
  obtain ⟨y, hyi⟩ : ∃ y, As[i]? = some y := ⟨_, List.getElem?_eq_getElem (by omega)⟩
  have hy := hA y (List.mem_of_getElem? hyi)
  have hyr := hy.rm
  have hyt := hy.tm
  refine wpIn_skip <| hK34 _ _ <| sq fun K37 hK37 => wpIn_block <| sq fun K38 hK38 => ?_
  have hz0 : OwnV wl33 61 2 (.slice rs 0 rc) 0 [] := by have h := (hrs).take (k := 0) (Nat.zero_le _); simpa using h
  have hzn : ∀ x ∈ ob (.slice rs 0 rc), wlt.heap.size ≤ x := fun x hx => hrsn x (ob_n _ _ _ _ _ ▸ hx)
  refine region_app ww [.q .p, .q (.run (.slice rs 0 rc)), .q .p, .q .p, .q (.run ((Po (bof av) (oof av + i * 2)))), .q .p, .q (.ld (y.rv)), .e, .q .p, .q .p, .e, .e, .q .p] [0, 1, 0, 0, 12, 28, 60, 127, 0, 0, 768, 2047, 4095] 7 10 11 (fun ((gb, ga1, gc1, ga2, gc2) : Gap) => ([(1, av), (2, (Pv w.heap.size)), (5, (Pv wlt.heap.size)), (7, .slice ns nn nc), (8, I6 i), (24, .bool (decide ((↑i : Int) < ↑As.length))), (6, .slice ga2 (y.r.length + 2) gc2), (27, .slice rs rn rc), (28, .slice rs 0 rc), (29, av), (30, I6 i), (31, (Po (bof av) (oof av + i * 2))), (32, (Po (bof av) (oof av + i * 2))), (33, y.rv), (34, .slice ga1 y.r.length gc1), (35, .agg #[I6 91, I6 0]), (36, .agg #[I6 92, I6 0]), (37, Sl gb 2 2), (38, .slice ga2 (y.r.length + 2) gc2)] : Fm)) (fun w' => Blk w' w.heap.size 26 (S.ca) ∧ Blk w' wlt.heap.size 26 (#[S2.lv, S2.nv, I6 S2.st, S2.pv]) ∧ OwnV w' 3 1 (.slice ns nn nc) nn nx ∧ True) (fun ((gb, ga1, gc1, ga2, gc2) : Gap) w' => [(1, [Rv (Instr.sliceAt 71 (.slice rs rn rc) none (some (I6 0)) none) (.slice rs 0 rc) w']), (4, [Rv (Instr.indexAt 75 (av) (I6 i)) ((Po (bof av) (oof av + i * 2))) w']), (6, [w'.cell? ⟨bof av, oof av + i * 2, none⟩ = some (y.rv)])]) [1, 2, 5, 7, 8, 24] [6] (wB := wlt) (e := 61) (t := 71) (ty := 71) (size := 2) (bytes := 16) (n1 := y.r.length) (k := 2) (z := #[I6 0, I6 0]) (v0 := .slice rs 0 rc) (u := y.rv) (xs := (ycells y.r)) (news := [I6 91, I6 0, I6 92, I6 0]) (dA := some 34) (dC := some 38) hS hXl33 ⟨hsb1, hlb1, hns, trivial⟩ hz0 (hzn) (fun w1 w2 v n ys ⟨ho0, ho1, ho2, _⟩ hV hX => ⟨ho0.ext hX (hV.notin ho0 (by decide)), ho1.ext hX (hV.notin ho1 (by decide)), ho2.ext hX (ho2.disj hV (by decide)), trivial⟩) (fun w' hx => hy.r.ext0 (hbr16.trans0 hx)) (ycells_one _) rfl rfl (by omega) (by omega) (by simp only [maxLen]; omega) (by omega) (by omega) (by kernel_rfl) (by kernel_rfl) rfl (by kernel_rfl) (by kernel_rfl) (by kernel_rfl) (by kernel_rfl) (fun ⟨gb, ga1, gc1, ga2, gc2⟩ _ => by kernel_rfl) (by kernel_rfl) (by kernel_rfl) rfl rfl rfl rfl rfl rfl (by kernel_rfl) (by kernel_rfl) ?_ (fun ⟨gb, ga1, gc1, ga2, gc2⟩ => by kernel_rfl) (fun ⟨gb, ga1, gc1, ga2, gc2⟩ nb w h Post hp => upon_new (nb := nb) (cs := #[I6 91, I6 0, I6 92, I6 0]) (T := 61) (v := Sl nb 2 2) (d := some 37) (by kernel_rfl) h hp) (fun _ _ _ _ _ => by kernel_rfl) (fun _ _ _ _ _ _ _ => by kernel_rfl) (fun _ _ _ _ _ => by kernel_rfl) (fun _ _ _ _ _ _ => by kernel_rfl) (fun _ _ _ _ _ => by kernel_rfl) (fun _ _ _ _ _ _ _ => by kernel_rfl) (fun _ _ _ _ _ => by kernel_rfl) fun gb39 ga139 gc139 ga239 gc239 a wq39 hS hEq39 hOq39 hAq39 hNq39 => ?_
  ·rintro ⟨gb, ga1, gc1, ga2, gc2⟩ w' hEq _ xq hxq
   refine AllI.mem ?_ xq hxq
   exact (.c (.c (sl_own (k := 0) (hrs) (by kernel_rfl) (by kernel_rfl) rfl (Nat.zero_le _)) .nil) (.c (.c (ixr 77 i ha) .nil) (.c (.c ((ha.ext0 (hbr16.trans0 hEq)).cellAt (i * 2 + 0) (by omega) (acells_at (i := 0) hyi (by omega))) .nil) .nil)))
  obtain ⟨hB40, hB41, hB42, _⟩ := hOq39
  replace hS := hS.kp [(1, av), (2, (Pv w.heap.size)), (5, (Pv wlt.heap.size)), (7, .slice ns nn nc), (8, I6 i), (24, .bool (decide ((↑i : Int) < ↑As.length))), (6, .slice ga239 (y.r.length + 2) gc239)]
  refine hK38 _ _ <| sq fun K43 hK43 => ?_
  have hz0 : OwnV wq39 3 1 (.slice ns 0 nc) 0 [] := by have h := (hB42).take (k := 0) (Nat.zero_le _); simpa using h
  have hzn : ∀ x ∈ ob (.slice ns 0 nc), wlt.heap.size ≤ x := fun x hx => hnsn x (ob_n _ _ _ _ _ ▸ hx)
  refine region_app ww [.q .p, .q (.run (.slice ns 0 nc)), .q .p, .q .p, .q (.run ((Po (bof av) (oof av + i * 2)))), .q .p, .q (.ld (y.tv)), .e, .e, .e, .q .p] [0, 1, 0, 0, 12, 28, 60, 127, 0, 511, 1023] 7 8 9 (fun ((gb, ga1, gc1, ga2, gc2) : Gap) => ([(1, av), (2, (Pv w.heap.size)), (5, (Pv wlt.heap.size)), (8, I6 i), (24, .bool (decide ((↑i : Int) < ↑As.length))), (6, .slice ga239 (y.r.length + 2) gc239), (7, .slice ga2 (y.ts.length + 2) gc2), (39, .slice ns nn nc), (40, .slice ns 0 nc), (41, av), (42, I6 i), (43, (Po (bof av) (oof av + i * 2))), (44, (Po (bof av) (oof av + i * 2 + 1))), (45, y.tv), (46, .slice ga1 y.ts.length gc1), (47, Sl gb 2 2), (48, .slice ga2 (y.ts.length + 2) gc2)] : Fm)) (fun w' => Blk w' w.heap.size 26 (S.ca) ∧ Blk w' wlt.heap.size 26 (#[S2.lv, S2.nv, I6 S2.st, S2.pv]) ∧ OwnV w' 61 2 (.slice ga239 (y.r.length + 2) gc239) (y.r.length + 2) ((ycells y.r) ++ [I6 91, I6 0, I6 92, I6 0]) ∧ True) (fun ((gb, ga1, gc1, ga2, gc2) : Gap) w' => [(1, [Rv (Instr.sliceAt 51 (.slice ns nn nc) none (some (I6 0)) none) (.slice ns 0 nc) w']), (4, [Rv (Instr.indexAt 75 (av) (I6 i)) ((Po (bof av) (oof av + i * 2))) w']), (6, [w'.cell? ⟨bof av, oof av + i * 2 + 1, none⟩ = some (y.tv)])]) [1, 2, 5, 8, 24, 6] [7] (wB := wlt) (e := 3) (t := 51) (ty := 51) (size := 1) (bytes := 8) (n1 := y.ts.length) (k := 2) (z := #[I6 0]) (v0 := .slice ns 0 nc) (u := y.tv) (xs := (its y.ts)) (news := [I6 (-91), I6 (-92)]) (dA := some 46) (dC := some 48) hS hEq39 ⟨hB40, hB41, hAq39, trivial⟩ hz0 (hzn) (fun w1 w2 v n ys ⟨ho0, ho1, ho2, _⟩ hV hX => ⟨ho0.ext hX (hV.notin ho0 (by decide)), ho1.ext hX (hV.notin ho1 (by decide)), ho2.ext hX (ho2.disj hV (by decide)), trivial⟩) (fun w' hx => hy.t.ext0 (hbr16.trans0 hx)) (its_one _) rfl rfl (by omega) (by omega) (by simp only [maxLen]; omega) (by omega) (by omega) (by kernel_rfl) (by kernel_rfl) rfl (by kernel_rfl) (by kernel_rfl) (by kernel_rfl) (by kernel_rfl) (fun ⟨gb, ga1, gc1, ga2, gc2⟩ _ => by kernel_rfl) (by kernel_rfl) (by kernel_rfl) rfl rfl rfl rfl rfl rfl (by kernel_rfl) (by kernel_rfl) ?_ (fun ⟨gb, ga1, gc1, ga2, gc2⟩ => by kernel_rfl) (fun ⟨gb, ga1, gc1, ga2, gc2⟩ nb w h Post hp => upon_new (nb := nb) (cs := #[I6 (-91), I6 (-92)]) (T := 3) (v := Sl nb 2 2) (d := some 47) (by kernel_rfl) h hp) (fun _ _ _ _ _ => by kernel_rfl) (fun _ _ _ _ _ _ _ => by kernel_rfl) (fun _ _ _ _ _ => by kernel_rfl) (fun _ _ _ _ _ _ => by kernel_rfl) (fun _ _ _ _ _ => by kernel_rfl) (fun _ _ _ _ _ _ _ => by kernel_rfl) (fun _ _ _ _ _ => by kernel_rfl) fun gb44 ga144 gc144 ga244 gc244 a wq44 hS hEq44 hOq44 hAq44 hNq44 => ?_
  ·rintro ⟨gb, ga1, gc1, ga2, gc2⟩ w' hEq _ xq hxq
   refine AllI.mem ?_ xq hxq
   exact (.c (.c (sl_own (k := 0) (hB42) (by kernel_rfl) (by kernel_rfl) rfl (Nat.zero_le _)) .nil) (.c (.c (ixr 77 i ha) .nil) (.c (.c ((ha.ext0 (hbr16.trans0 hEq)).cellAt (i * 2 + 1) (by omega) (acells_at (i := 1) hyi (by omega))) .nil) .nil)))
  obtain ⟨hB45, hB46, hB47, _⟩ := hOq44
  replace hS := hS.kp [(1, av), (2, (Pv w.heap.size)), (5, (Pv wlt.heap.size)), (8, I6 i), (24, .bool (decide ((↑i : Int) < ↑As.length))), (6, .slice ga239 (y.r.length + 2) gc239), (7, .slice ga244 (y.ts.length + 2) gc244)]
  refine hK43 _ _ <| sdq 7 [.p, .p, .run ((Po (bof av) (oof av + i * 2))), .p, .ld (y.rv), .run (I6 y.r.length), .p] [Rv (Instr.indexAt 75 (av) (I6 i)) ((Po (bof av) (oof av + i * 2))) wq44, wq44.cell? ⟨bof av, oof av + i * 2, none⟩ = some (y.rv), Rv (Builtin.len_ #[71] 3 #[y.rv]) (I6 y.r.length) wq44] [(9, I6 y.r.length)] [] hS (.c (ixr 77 i ha) (.c ((ha.ext0 (hbr16.trans0 hEq44)).cellAt (i * 2 + 0) (by omega) (acells_at (i := 0) hyi (by omega))) (.c (rlr 61 hy.r) .nil))) fun a hS => sdq 7 [.p, .p, .run ((Po (bof av) (oof av + i * 2))), .p, .ld (y.tv), .run (I6 y.ts.length), .p] [Rv (Instr.indexAt 75 (av) (I6 i)) ((Po (bof av) (oof av + i * 2))) wq44, wq44.cell? ⟨bof av, oof av + i * 2 + 1, none⟩ = some (y.tv), Rv (Builtin.len_ #[51] 3 #[y.tv]) (I6 y.ts.length) wq44] [(10, I6 y.ts.length)] [] hS (.c (ixr 77 i ha) (.c ((ha.ext0 (hbr16.trans0 hEq44)).cellAt (i * 2 + 1) (by omega) (acells_at (i := 1) hyi (by omega))) (.c (rlr 3 hy.t) .nil))) fun a hS => sq fun K50 hK50 => ?_
  refine region_set (G := (Option Addr) × Nat × Nat × (List Nat) × (Int × Int) × Nat) ww [.q (.lds [S2.lv, S2.nv, I6 S2.st, S2.pv]), .q .p, .q .p, .q (.run (.slice ga239 y.r.length gc239)), .q .p, .q .p, .q (.run (.slice ga244 y.ts.length gc244)), .e, .q .p, .q .p, .q .p, .e, .q .p, .e] [0, 0, 0, 6, 0, 0, 48, 127, 255, 511, 511, 0, 3071, 8191] [7, 11, 13] (fun ⟨qb, qn, qc, ql, qf, x13_11⟩ => ([(1, av), (2, (Pv w.heap.size)), (5, (Pv wlt.heap.size)), (8, I6 i), (24, .bool (decide ((↑i : Int) < ↑As.length))), (6, .slice ga239 (y.r.length + 2) gc239), (7, .slice ga244 (y.ts.length + 2) gc244), (9, I6 y.r.length), (10, I6 y.ts.length), (62, .agg #[S2.lv, S2.nv, I6 S2.st, S2.pv]), (63, .slice ga239 (y.r.length + 2) gc239), (64, I6 y.r.length), (65, .slice ga239 y.r.length gc239), (66, .slice ga244 (y.ts.length + 2) gc244), (67, I6 y.ts.length), (68, .slice ga244 y.ts.length gc244), (69, .tuple #[.slice qb qn qc, .agg #[I6 qf.1, I6 qf.2, .string ⟨#[]⟩]]), (61, .tuple #[.slice qb qn qc, .agg #[I6 qf.1, I6 qf.2, .string ⟨#[]⟩]]), (70, .slice qb qn qc), (71, .agg #[I6 qf.1, I6 qf.2, .string ⟨#[]⟩]), (12, (Pv x13_11)), (11, .slice qb qn qc)] : Fm)) (fun D ⟨qb, qn, qc, ql, qf, x13_11⟩ w' => Ext [] wq44 w' ∧ (D 13 = false → (D 11 = true → (Blk w' x13_11 34 (#[I6 0, I6 0, .string ⟨#[]⟩]) ∧ wq44.heap.size ≤ x13_11)) ∧ (D 7 = true → HdW S2 y.r y.ts wq44.heap.size w' qb qn qc ql qf) ∧ True) ∧ (D 13 = true → (Blk w' x13_11 34 (#[I6 qf.1, I6 qf.2, .string ⟨#[]⟩]) ∧ wq44.heap.size ≤ x13_11) ∧ HdW S2 y.r y.ts wq44.heap.size w' qb qn qc ql qf ∧ True)) (fun ⟨qb, qn, qc, ql, qf, x13_11⟩ w' => [(0, [w'.cell? ⟨wlt.heap.size, 0, none⟩ = some (S2.lv), w'.cell? ⟨wlt.heap.size, 1, none⟩ = some (S2.nv), w'.cell? ⟨wlt.heap.size, 2, none⟩ = some (I6 S2.st), w'.cell? ⟨wlt.heap.size, 3, none⟩ = some (S2.pv)]), (3, [Rv (Instr.sliceAt 71 (.slice ga239 (y.r.length + 2) gc239) none (some (I6 y.r.length)) none) (.slice ga239 y.r.length gc239) w']), (6, [Rv (Instr.sliceAt 51 (.slice ga244 (y.ts.length + 2) gc244) none (some (I6 y.ts.length)) none) (.slice ga244 y.ts.length gc244) w'])]) (none, 0, 0, [], (0, 0), 0) [1, 2, 5, 8, 24, 6, 7, 9, 10] [] hS (by kernel_rfl) (by kernel_rfl) (by kernel_rfl) (by kernel_rfl) (fun ⟨qb, qn, qc, ql, qf, x13_11⟩ _ => by kernel_rfl) (by kernel_rfl) (by kernel_rfl) ⟨(Ext.refl _ _).drew, fun _ => ⟨fun h => (by cases h), fun h => (by cases h), trivial⟩, fun h => by cases h⟩ ?_ ?_ ?_
  ·rintro D ⟨qb, qn, qc, ql, qf, x13_11⟩ w' ⟨hE, _, _⟩ xq hxq _ _
   refine AllI.mem ?_ xq hxq
   exact (.c (.c (((hB46.ext hE (by simp)) : Blk w' wlt.heap.size 26 (#[S2.lv, S2.nv, I6 S2.st, S2.pv])).cell 0 rfl) (.c (((hB46.ext hE (by simp)) : Blk w' wlt.heap.size 26 (#[S2.lv, S2.nv, I6 S2.st, S2.pv])).cell 1 rfl) (.c (((hB46.ext hE (by simp)) : Blk w' wlt.heap.size 26 (#[S2.lv, S2.nv, I6 S2.st, S2.pv])).cell 2 rfl) (.c (((hB46.ext hE (by simp)) : Blk w' wlt.heap.size 26 (#[S2.lv, S2.nv, I6 S2.st, S2.pv])).cell 3 rfl) .nil)))) (.c (.c (sl_own (k := y.r.length) (hB47) (by kernel_rfl) (by kernel_rfl) rfl (by omega)) .nil) (.c (.c (sl_own (k := y.ts.length) (hAq44) (by kernel_rfl) (by kernel_rfl) rfl (by omega)) .nil) .nil)))
  ·refine (.c ?_ (.c ?_ (.c ?_ .nil)))
   ·rintro D ⟨qb, qn, qc, ql, qf, x13_11⟩ w' ⟨hE, hA, hB⟩ hDi hdp hnd
    have hDf : D 13 = false := hnd 13 (by simp) (by decide)
    obtain ⟨hA11, hR7, _⟩ := hA hDf
    refine upon_call (f := 33) (vs := [.agg #[S2.lv, S2.nv, I6 S2.st, S2.pv], .slice ga239 y.r.length gc239, .slice ga244 y.ts.length gc244]) (cap := #[]) (d := (some 69)) (by kernel_rfl) Tryd.call33 #[.agg #[S2.lv, S2.nv, I6 S2.st, S2.pv], .slice ga239 y.r.length gc239, .slice ga244 y.ts.length gc244] (by kernel_rfl) (Heads_u (hG2.ext0 (hEq44.trans0 hE)) (Ext.refl [] _) (hT.ext0 ((hbr16.trans0 hEq44).trans0 hE)) (r := y.r) (OwnV.cut0 ((hB47).ext hE (by simp)) (ycells_len _)) hy.rm (ts := y.ts) (OwnV.cut0 ((hAq44).ext hE (by simp)) (by rw [its_len, Nat.mul_one])) hy.tm) ?_
    rintro _ wn ⟨bsq, nq, cq, lq, fq, rfl, hOq, hNq, hFq, hEn⟩
    refine ⟨_, rfl, (bsq, nq, cq, lq, fq, x13_11), by kernel_rfl, by kernel_rfl, hE.trans0 hEn, fun _ => ⟨fun h => ⟨(hA11 h).1.ext hEn (by simp), (hA11 h).2⟩, fun _ => ⟨hOq, fun x hx => Nat.le_trans hE.size (hNq x hx), hFq⟩, trivial⟩, fun h => ?_⟩
    rw [show setS D 7 13 = D 13 from rfl, hDf] at h; cases h
   ·rintro D ⟨qb, qn, qc, ql, qf, x13_11⟩ w' ⟨hE, hA, hB⟩ hDi hdp hnd
    have hDf : D 13 = false := hnd 13 (by simp) (by decide)
    obtain ⟨hA11, hR7, _⟩ := hA hDf
    have hEn : Ext [] w' (w'.alloc (.cells #[I6 0, I6 0, .string ⟨#[]⟩] 34)) := (Ext.refl _ _).alloc _
    refine upon_box (nb := w'.heap.size) (cs := #[I6 0, I6 0, .string ⟨#[]⟩]) (T := 34) (d := (some 12)) (by kernel_rfl) rfl ⟨(qb, qn, qc, ql, qf, w'.heap.size), by kernel_rfl, by kernel_rfl, hE.trans0 hEn, fun _ => ⟨fun _ => ⟨Blk.new _ _ _, hE.size⟩, fun h => (hR7 h).ext0 hEn, trivial⟩, fun h => ?_⟩
    rw [show setS D 11 13 = D 13 from rfl, hDf] at h; cases h
   ·rintro D ⟨qb, qn, qc, ql, qf, x13_11⟩ w' ⟨hE, hA, hB⟩ hDi hdp hnd
    obtain ⟨hA11, hR7, _⟩ := hA hDi
    obtain ⟨hf11, hs11⟩ := hA11 (hdp 11 (by simp) (by decide))
    refine upon_store (b := x13_11) (off := 0) (vs := [I6 qf.1, I6 qf.2, .string ⟨#[]⟩]) (by kernel_rfl) hf11 (by simp) ⟨(qb, qn, qc, ql, qf, x13_11), by kernel_rfl, by kernel_rfl, hE.updIn (.inr hs11) _ _, fun h => ?_, fun _ => ⟨⟨hf11.upd _ _, hs11⟩, (hR7 (hdp 7 (by simp) (by decide))).updT hf11 (by decide) _, trivial⟩⟩
    rw [setS_self] at h; cases h
  rintro D ⟨qb, qn, qc, ql, qf, x13_11⟩ a wz51 hS hall ⟨hEz51, _, hB⟩
  obtain ⟨⟨hz51_11, hy51_11⟩, hr51_7, _⟩ := hB (hall 13 (by simp))
  have hB52 := hB45.ext hEz51 (by simp)
  have hB53 := hB46.ext hEz51 (by simp)
  have hB54 := hB47.ext hEz51 (by simp)
  have hB55 := hAq44.ext hEz51 (by simp)
  have hw51_11 : wlt.heap.size ≤ x13_11 := Nat.le_trans hEq44.size hy51_11
  have hE56 := hEq44.trans0 hEz51
  replace hS := hS.kp [(1, av), (2, (Pv w.heap.size)), (5, (Pv wlt.heap.size)), (8, I6 i), (24, .bool (decide ((↑i : Int) < ↑As.length))), (6, .slice ga239 (y.r.length + 2) gc239), (7, .slice ga244 (y.ts.length + 2) gc244), (9, I6 y.r.length), (10, I6 y.ts.length), (12, (Pv x13_11)), (11, .slice qb qn qc)]
  refine hK50 _ _ <| sq fun K57 hK57 => ?_
  refine gh3 (G := (Option Addr) × Nat × Nat × (List Nat) × (Int × Int) × World) [.q (.lds [S.lv, S.nv, I6 S.st, S.pv]), .q .p, .q .p, .q (.run ((Po (bof av) (oof av + i * 2)))), .q .p, .q (.ld (y.rv)), .q .p, .q .p, .q (.run ((Po (bof av) (oof av + i * 2)))), .q .p, .q (.ld (y.tv)), .e, .q .p, .q .p, .q .p, .q .p, .q .p, .q .p, .q .p] [0, 0, 0, 0, 0, 0, 0, 0, 0, 0, 0, 0, 1, 1, 1, 1, 1, 1, 1] [0, 0, 0, 0, 0, 0, 0, 0, 0, 0, 0, 0, 1, 1, 1, 1, 1, 1, 1] [0, 0, 0, 6, 14, 30, 0, 0, 192, 448, 960, 2047, 4095, 8191, 8191, 8191, 16383, 98303, 262143] [11] [(11, 0)] 1 (fun ⟨b458, n458, c458, l458, f458, wc58⟩ => ([(1, av), (2, (Pv w.heap.size)), (5, (Pv wlt.heap.size)), (8, I6 i), (24, .bool (decide ((↑i : Int) < ↑As.length))), (6, .slice ga239 (y.r.length + 2) gc239), (7, .slice ga244 (y.ts.length + 2) gc244), (9, I6 y.r.length), (10, I6 y.ts.length), (12, (Pv x13_11)), (11, .slice qb qn qc), (73, .agg S.ca), (74, av), (75, I6 i), (76, (Po (bof av) (oof av + i * 2))), (77, (Po (bof av) (oof av + i * 2))), (78, y.rv), (79, av), (80, I6 i), (81, (Po (bof av) (oof av + i * 2))), (82, (Po (bof av) (oof av + i * 2 + 1))), (83, y.tv), (84, .tuple #[.slice b458 n458 c458, I6 f458.2, I6 f458.1]), (72, .tuple #[.slice b458 n458 c458, I6 f458.2, I6 f458.1]), (85, .slice b458 n458 c458), (86, I6 f458.2), (87, I6 f458.1), (13, .slice b458 n458 c458), (14, I6 f458.2), (15, I6 f458.1)] : Fm)) (fun ⟨b458, n458, c458, l458, f458, wc58⟩ => [wz51.drew, wc58]) (wz51.drew) (fun e ⟨b458, n458, c458, l458, f458, wc58⟩ => hAt [True, (OwnV wc58 3 1 (.slice b458 n458 c458) n458 (ivs l458)) ∧ (∀ x ∈ ob (.slice b458 n458 c458), wz51.drew.heap.size ≤ x) ∧ (HdsF (HdsQ S y.r y.ts) S y.r y.ts f458 l458) ∧ (Ext [] wz51.drew wc58) ∧ True] e) (fun ⟨b458, n458, c458, l458, f458, wc58⟩ w' => [(0, [w'.cell? ⟨w.heap.size, 0, none⟩ = some (S.lv), w'.cell? ⟨w.heap.size, 1, none⟩ = some (S.nv), w'.cell? ⟨w.heap.size, 2, none⟩ = some (I6 S.st), w'.cell? ⟨w.heap.size, 3, none⟩ = some (S.pv)]), (3, [Rv (Instr.indexAt 75 (av) (I6 i)) ((Po (bof av) (oof av + i * 2))) w']), (5, [w'.cell? ⟨bof av, oof av + i * 2, none⟩ = some (y.rv)]), (8, [Rv (Instr.indexAt 75 (av) (I6 i)) ((Po (bof av) (oof av + i * 2))) w']), (10, [w'.cell? ⟨bof av, oof av + i * 2 + 1, none⟩ = some (y.tv)])]) (none, 0, 0, ([]), (0, 0), wz51.drew) [1, 2, 5, 8, 24, 6, 7, 9, 10, 12, 11] [] hS (fun ⟨b458, n458, c458, l458, f458, wc58⟩ _ => by kernel_rfl) trivial ?_ ?_ ?_
  ·rintro e ⟨b458, n458, c458, l458, f458, wc58⟩ w' hw hH
   refine (.c ?_ (.c ?_ (.c ?_ (.c ?_ (.c ?_ .nil)))))
   ·intro h1 h2
    obtain rfl : e = 0 := Nat.le_antisymm h2 h1
    have hwe : wz51.drew = w' := (hw.trans (by kernel_rfl)).symm
    subst hwe
    clear hH
    exact (.c ((hB52.drew : Blk wz51.drew w.heap.size 26 (S.ca)).cell 0 rfl) (.c ((hB52.drew : Blk wz51.drew w.heap.size 26 (S.ca)).cell 1 rfl) (.c ((hB52.drew : Blk wz51.drew w.heap.size 26 (S.ca)).cell 2 rfl) (.c ((hB52.drew : Blk wz51.drew w.heap.size 26 (S.ca)).cell 3 rfl) .nil))))
   ·intro h1 h2
    obtain rfl : e = 0 := Nat.le_antisymm h2 h1
    have hwe : wz51.drew = w' := (hw.trans (by kernel_rfl)).symm
    subst hwe
    clear hH
    exact (.c (ixr 77 i ha) .nil)
   ·intro h1 h2
    obtain rfl : e = 0 := Nat.le_antisymm h2 h1
    have hwe : wz51.drew = w' := (hw.trans (by kernel_rfl)).symm
    subst hwe
    clear hH
    exact (.c ((ha.ext0 ((hbr16.trans0 hE56).trans0 (by first | exact (Ext.refl [] _).drew | exact Ext.refl [] _ | exact ((Ext.refl [] _).drew).trans0 (by assumption) | exact (((Ext.refl [] _).drew).trans0 (by assumption)).trans0 (by assumption) | exact ((((Ext.refl [] _).drew).trans0 (by assumption)).trans0 (by assumption)).trans0 (by assumption)))).cellAt (i * 2 + 0) (by omega) (acells_at (i := 0) hyi (by omega))) .nil)
   ·intro h1 h2
    obtain rfl : e = 0 := Nat.le_antisymm h2 h1
    have hwe : wz51.drew = w' := (hw.trans (by kernel_rfl)).symm
    subst hwe
    clear hH
    exact (.c (ixr 77 i ha) .nil)
   ·intro h1 h2
    obtain rfl : e = 0 := Nat.le_antisymm h2 h1
    have hwe : wz51.drew = w' := (hw.trans (by kernel_rfl)).symm
    subst hwe
    clear hH
    exact (.c ((ha.ext0 ((hbr16.trans0 hE56).trans0 (by first | exact (Ext.refl [] _).drew | exact Ext.refl [] _ | exact ((Ext.refl [] _).drew).trans0 (by assumption) | exact (((Ext.refl [] _).drew).trans0 (by assumption)).trans0 (by assumption) | exact ((((Ext.refl [] _).drew).trans0 (by assumption)).trans0 (by assumption)).trans0 (by assumption)))).cellAt (i * 2 + 1) (by omega) (acells_at (i := 1) hyi (by omega))) .nil)
  ·refine (.c ?eq59_11 .nil)
   ·rintro ⟨b458, n458, c458, l458, f458, wc58⟩ hH
    clear hH
    refine eff_gh (wz51.drew) (by kernel_rfl) ?_
    refine upon_call (f := 34) (vs := [.agg S.ca, y.rv, y.tv]) (cap := #[]) (d := (some 84)) (by kernel_rfl) Tryd.call34 #[.agg S.ca, y.rv, y.tv] (by kernel_rfl) (Heads_ru (hG.ext0 ((hbr16.trans0 hE56).trans0 ((Ext.refl [] _).drew))) (Ext.refl [] _) (hy.r.ext0 ((hbr16.trans0 hE56).trans0 ((Ext.refl [] _).drew))) hy.rm (hy.t.ext0 ((hbr16.trans0 hE56).trans0 ((Ext.refl [] _).drew))) hy.tm) ?_
    rintro _ wc58 ⟨b458, n458, c458, l458, f458, rfl, hO458, hN458, hF458, hEc58⟩
    exact ⟨_, rfl, ⟨(b458, n458, c458, l458, f458, wc58), by kernel_rfl, by kernel_rfl, by kernel_rfl, ⟨hO458, hN458, hF458, hEc58, trivial⟩⟩⟩
  rintro ⟨b458, n458, c458, l458, f458, wc58⟩ a w60 hS hw61 hH
  obtain ⟨hO458, hN458, hF458, hEc58, _⟩ := hH
  replace hw61 : w60 = wc58 := hw61.trans (by kernel_rfl)
  have hB62 := Blk.at' hw61 ((hB52.drew : Blk wz51.drew w.heap.size 26 (S.ca)).ext hEc58 (by simp))
  have hB63 := Blk.at' hw61 ((hB53.drew : Blk wz51.drew wlt.heap.size 26 (#[S2.lv, S2.nv, I6 S2.st, S2.pv])).ext hEc58 (by simp))
  have hB64 := OwnV.at' hw61 ((hB54.drew : OwnV wz51.drew 61 2 (.slice ga239 (y.r.length + 2) gc239) (y.r.length + 2) ((ycells y.r) ++ [I6 91, I6 0, I6 92, I6 0])).ext hEc58 (by simp))
  have hB65 := OwnV.at' hw61 ((hB55.drew : OwnV wz51.drew 3 1 (.slice ga244 (y.ts.length + 2) gc244) (y.ts.length + 2) ((its y.ts) ++ [I6 (-91), I6 (-92)])).ext hEc58 (by simp))
  have hB66 := Blk.at' hw61 ((hz51_11.drew : Blk wz51.drew x13_11 34 (#[I6 qf.1, I6 qf.2, .string ⟨#[]⟩])).ext hEc58 (by simp))
  have hB67 := OwnV.at' hw61 ((hr51_7.own.drew : OwnV wz51.drew 3 1 (.slice qb qn qc) qn (ivs ql)).ext hEc58 (by simp))
  have hB68 : OwnV w60 3 1 (.slice b458 n458 c458) n458 (ivs l458) := by rw [hw61]; exact hO458
  have hE69 : Ext [] wlt w60 := by rw [hw61]; exact (hE56.drew).trans0 hEc58
  replace hS := hS.kp [(1, av), (2, (Pv w.heap.size)), (5, (Pv wlt.heap.size)), (8, I6 i), (24, .bool (decide ((↑i : Int) < ↑As.length))), (6, .slice ga239 (y.r.length + 2) gc239), (7, .slice ga244 (y.ts.length + 2) gc244), (9, I6 y.r.length), (10, I6 y.ts.length), (12, (Pv x13_11)), (11, .slice qb qn qc), (13, .slice b458 n458 c458), (14, I6 f458.2), (15, I6 f458.1)]
  refine hK57 _ _ <| sq fun K70 hK70 => sq fun K71 hK71 => ?_
  obtain ⟨hff, hll, hf0, hl8⟩ := HdsF.both hSm hr51_7.hf hF458
  refine gh3 (G := World × World × World) [.q .p, .q .p, .e, .q .p, .q .p, .q (.lds [I6 qf.1, I6 qf.2, .string ⟨#[]⟩]), .q .p, .q .p, .e, .q (.run (.bool false)), .q .p, .q .p, .q .p, .q .p, .q (.run (.slice ga244 y.ts.length gc244)), .q .p, .q .p, .q (.run ((Po (bof av) (oof av + i * 2)))), .q .p, .q (.ld (y.tv)), .e, .q .p, .q .p, .q .p, .q .p, .q .p, .q (.run ((Po (bof (.slice ga244 (y.ts.length + 2) gc244)) (0 + y.ts.length * 1)))), .q (.ld (I6 (-91))), .q .p, .q .p, .q .p, .q .p, .q .p, .q (.as (I6 ((y.ts.length + 1 : Nat) : Int))), .q (.run ((Po (bof (.slice ga244 (y.ts.length + 2) gc244)) (0 + (y.ts.length + 1) * 1)))), .q (.ld (I6 (-92))), .q .p, .q .p, .q .p, .q .p, .q .p, .q (.run ((Po (bof (.slice ga239 (y.r.length + 2) gc239)) (0 + y.r.length * 2)))), .q .p, .q (.ld (I6 91)), .q .p, .q .p, .q .p, .q .p, .q .p, .q (.as (I6 ((y.r.length + 1 : Nat) : Int))), .q (.run ((Po (bof (.slice ga239 (y.r.length + 2) gc239)) (0 + (y.r.length + 1) * 2)))), .q .p, .q (.ld (I6 92)), .q .p, .q .p] [0, 0, 0, 1, 1, 1, 1, 1, 1, 2, 2, 2, 2, 2, 2, 2, 2, 2, 2, 2, 2, 3, 3, 3, 3, 3, 3, 3, 3, 3, 3, 3, 3, 3, 3, 3, 3, 3, 3, 3, 3, 3, 3, 3, 3, 3, 3, 3, 3, 3, 3, 3, 3, 3, 3] [0, 0, 0, 1, 1, 2, 1, 1, 1, 2, 2, 2, 2, 2, 2, 2, 2, 2, 2, 2, 2, 3, 3, 3, 3, 3, 3, 3, 3, 3, 3, 3, 3, 3, 3, 3, 3, 3, 3, 3, 3, 3, 3, 3, 3, 3, 3, 3, 3, 3, 3, 3, 3, 3, 3] [0, 0, 3, 7, 15, 31, 31, 31, 223, 511, 1023, 2047, 4095, 4095, 16383, 4095, 4095, 102399, 233471, 495615, 1048575, 2097151, 4194303, 8388607, 16777215, 16777215, 67108863, 134217727, 268435455, 536870911, 1073741823, 2147483647, 2147483647, 6442450943, 17179869183, 34359738367, 68719476735, 137438953471, 274877906943, 549755813887, 549755813887, 2199023255551, 4398046511103, 8796093022207, 17592186044415, 35184372088831, 70368744177663, 140737488355327, 140737488355327, 422212465065983, 1125899906842623, 2251799813685247, 4503599627370495, 9007199254740991, 18014398509481983] [2, 8, 20] [(2, 0), (8, 1), (20, 2)] 3 (fun ⟨wc72, wc73, wc74⟩ => ([(1, av), (2, (Pv w.heap.size)), (5, (Pv wlt.heap.size)), (8, I6 i), (24, .bool (decide ((↑i : Int) < ↑As.length))), (6, .slice ga239 (y.r.length + 2) gc239), (7, .slice ga244 (y.ts.length + 2) gc244), (9, I6 y.r.length), (10, I6 y.ts.length), (12, (Pv x13_11)), (11, .slice qb qn qc), (13, .slice b458 n458 c458), (14, I6 f458.2), (15, I6 f458.1), (88, .slice qb qn qc), (89, .slice b458 n458 c458), (90, .bool true), (91, .bool false), (92, .bool false), (93, .agg #[I6 qf.1, I6 qf.2, .string ⟨#[]⟩]), (94, I6 f458.2), (95, I6 f458.1), (96, .agg #[I6 qf.1, I6 qf.2, .string ⟨#[]⟩]), (97, .bool false), (98, .bool false), (99, .bool false), (100, .slice ga244 (y.ts.length + 2) gc244), (101, I6 y.ts.length), (102, .slice ga244 y.ts.length gc244), (103, av), (104, I6 i), (105, (Po (bof av) (oof av + i * 2))), (106, (Po (bof av) (oof av + i * 2 + 1))), (107, y.tv), (108, .bool true), (109, .bool false), (110, .bool false), (111, .bool false), (112, .slice ga244 (y.ts.length + 2) gc244), (113, I6 y.ts.length), (114, (Po (bof (.slice ga244 (y.ts.length + 2) gc244)) (0 + y.ts.length * 1))), (115, I6 (-91)), (116, .bool false), (117, .bool false), (118, .bool false), (119, .slice ga244 (y.ts.length + 2) gc244), (120, I6 y.ts.length), (121, I6 ((y.ts.length + 1 : Nat) : Int)), (122, (Po (bof (.slice ga244 (y.ts.length + 2) gc244)) (0 + (y.ts.length + 1) * 1))), (123, I6 (-92)), (124, .bool false), (125, .bool false), (126, .bool false), (127, .slice ga239 (y.r.length + 2) gc239), (128, I6 y.r.length), (129, (Po (bof (.slice ga239 (y.r.length + 2) gc239)) (0 + y.r.length * 2))), (130, (Po (bof (.slice ga239 (y.r.length + 2) gc239)) (0 + y.r.length * 2))), (131, I6 91), (132, .bool false), (133, .bool false), (134, .bool false), (135, .slice ga239 (y.r.length + 2) gc239), (136, I6 y.r.length), (137, I6 ((y.r.length + 1 : Nat) : Int)), (138, (Po (bof (.slice ga239 (y.r.length + 2) gc239)) (0 + (y.r.length + 1) * 2))), (139, (Po (bof (.slice ga239 (y.r.length + 2) gc239)) (0 + (y.r.length + 1) * 2))), (140, I6 92), (141, .bool false), (142, .bool false)] : Fm)) (fun ⟨wc72, wc73, wc74⟩ => [w60.drew, wc72, wc73, wc74]) (w60.drew) (fun e ⟨wc72, wc73, wc74⟩ => hAt [True, (Ext [] w60.drew wc72) ∧ True, (Ext [] w60.drew wc72) ∧ (Ext [] wc72 wc73) ∧ True, (Ext [] w60.drew wc72) ∧ (Ext [] wc72 wc73) ∧ (Ext [] wc73 wc74) ∧ True] e) (fun ⟨wc72, wc73, wc74⟩ w' => [(5, [w'.cell? ⟨x13_11, 0, none⟩ = some (I6 qf.1), w'.cell? ⟨x13_11, 1, none⟩ = some (I6 qf.2), w'.cell? ⟨x13_11, 2, none⟩ = some (.string ⟨#[]⟩)]), (9, [Rv (do eqGuard .neq 34 (.tmp 93) (.tmp 96) (.agg #[I6 qf.1, I6 qf.2, .string ⟨#[]⟩]) (.agg #[I6 qf.1, I6 qf.2, .string ⟨#[]⟩]); binOp .neq 34 (.agg #[I6 qf.1, I6 qf.2, .string ⟨#[]⟩]) (.agg #[I6 qf.1, I6 qf.2, .string ⟨#[]⟩])) (.bool false) w']), (14, [Rv (Instr.sliceAt 51 (.slice ga244 (y.ts.length + 2) gc244) none (some (I6 y.ts.length)) none) (.slice ga244 y.ts.length gc244) w']), (17, [Rv (Instr.indexAt 75 (av) (I6 i)) ((Po (bof av) (oof av + i * 2))) w']), (19, [w'.cell? ⟨bof av, oof av + i * 2 + 1, none⟩ = some (y.tv)]), (26, [Rv (Instr.indexAt 51 (.slice ga244 (y.ts.length + 2) gc244) (I6 y.ts.length)) ((Po (bof (.slice ga244 (y.ts.length + 2) gc244)) (0 + y.ts.length * 1))) w']), (27, [w'.cell? ⟨bof (.slice ga244 (y.ts.length + 2) gc244), 0 + y.ts.length * 1, none⟩ = some (I6 (-91))]), (33, [Value.int .i64 (IntKind.i64.wrap (↑y.ts.length + 1)) = I6 ((y.ts.length + 1 : Nat) : Int)]), (34, [Rv (Instr.indexAt 51 (.slice ga244 (y.ts.length + 2) gc244) (I6 ((y.ts.length + 1 : Nat) : Int))) ((Po (bof (.slice ga244 (y.ts.length + 2) gc244)) (0 + (y.ts.length + 1) * 1))) w']), (35, [w'.cell? ⟨bof (.slice ga244 (y.ts.length + 2) gc244), 0 + (y.ts.length + 1) * 1, none⟩ = some (I6 (-92))]), (41, [Rv (Instr.indexAt 71 (.slice ga239 (y.r.length + 2) gc239) (I6 y.r.length)) ((Po (bof (.slice ga239 (y.r.length + 2) gc239)) (0 + y.r.length * 2))) w']), (43, [w'.cell? ⟨bof (.slice ga239 (y.r.length + 2) gc239), 0 + y.r.length * 2, none⟩ = some (I6 91)]), (49, [Value.int .i64 (IntKind.i64.wrap (↑y.r.length + 1)) = I6 ((y.r.length + 1 : Nat) : Int)]), (50, [Rv (Instr.indexAt 71 (.slice ga239 (y.r.length + 2) gc239) (I6 ((y.r.length + 1 : Nat) : Int))) ((Po (bof (.slice ga239 (y.r.length + 2) gc239)) (0 + (y.r.length + 1) * 2))) w']), (52, [w'.cell? ⟨bof (.slice ga239 (y.r.length + 2) gc239), 0 + (y.r.length + 1) * 2, none⟩ = some (I6 92)])]) (w60.drew, w, w) [1, 2, 5, 8, 24, 6, 7, 9, 10, 12, 11, 13, 14, 15] [] hS (fun ⟨wc72, wc73, wc74⟩ _ => by kernel_rfl) trivial ?_ ?_ ?_
  ·rintro e ⟨wc72, wc73, wc74⟩ w' hw hH
   refine (.c ?_ (.c ?_ (.c ?_ (.c ?_ (.c ?_ (.c ?_ (.c ?_ (.c ?_ (.c ?_ (.c ?_ (.c ?_ (.c ?_ (.c ?_ (.c ?_ (.c ?_ .nil)))))))))))))))
   ·intro h1 h2
    replace h1 : 1 ≤ e := h1
    replace h2 : e ≤ 2 := h2
    have he : e = 1 ∨ e = 2 := by omega
    rcases he with rfl | rfl
    ·have hwe : wc72 = w' := (hw.trans (by kernel_rfl)).symm
     subst hwe
     obtain ⟨hEc72, _⟩ := hH
     exact (.c (((hB66.drew : Blk w60.drew x13_11 34 (#[I6 qf.1, I6 qf.2, .string ⟨#[]⟩])).ext hEc72 (by simp) : Blk wc72 x13_11 34 (#[I6 qf.1, I6 qf.2, .string ⟨#[]⟩])).cell 0 rfl) (.c (((hB66.drew : Blk w60.drew x13_11 34 (#[I6 qf.1, I6 qf.2, .string ⟨#[]⟩])).ext hEc72 (by simp) : Blk wc72 x13_11 34 (#[I6 qf.1, I6 qf.2, .string ⟨#[]⟩])).cell 1 rfl) (.c (((hB66.drew : Blk w60.drew x13_11 34 (#[I6 qf.1, I6 qf.2, .string ⟨#[]⟩])).ext hEc72 (by simp) : Blk wc72 x13_11 34 (#[I6 qf.1, I6 qf.2, .string ⟨#[]⟩])).cell 2 rfl) .nil)))
    ·have hwe : wc73 = w' := (hw.trans (by kernel_rfl)).symm
     subst hwe
     obtain ⟨hEc72, hEc73, _⟩ := hH
     exact (.c ((((hB66.drew : Blk w60.drew x13_11 34 (#[I6 qf.1, I6 qf.2, .string ⟨#[]⟩])).ext hEc72 (by simp) : Blk wc72 x13_11 34 (#[I6 qf.1, I6 qf.2, .string ⟨#[]⟩])).ext hEc73 (by simp) : Blk wc73 x13_11 34 (#[I6 qf.1, I6 qf.2, .string ⟨#[]⟩])).cell 0 rfl) (.c ((((hB66.drew : Blk w60.drew x13_11 34 (#[I6 qf.1, I6 qf.2, .string ⟨#[]⟩])).ext hEc72 (by simp) : Blk wc72 x13_11 34 (#[I6 qf.1, I6 qf.2, .string ⟨#[]⟩])).ext hEc73 (by simp) : Blk wc73 x13_11 34 (#[I6 qf.1, I6 qf.2, .string ⟨#[]⟩])).cell 1 rfl) (.c ((((hB66.drew : Blk w60.drew x13_11 34 (#[I6 qf.1, I6 qf.2, .string ⟨#[]⟩])).ext hEc72 (by simp) : Blk wc72 x13_11 34 (#[I6 qf.1, I6 qf.2, .string ⟨#[]⟩])).ext hEc73 (by simp) : Blk wc73 x13_11 34 (#[I6 qf.1, I6 qf.2, .string ⟨#[]⟩])).cell 2 rfl) .nil)))
   ·intro h1 h2
    obtain rfl : e = 2 := Nat.le_antisymm h2 h1
    have hwe : wc73 = w' := (hw.trans (by kernel_rfl)).symm
    subst hwe
    obtain ⟨hEc72, hEc73, _⟩ := hH
    exact (.c ((bin_agg_same (by kernel_rfl)).2) .nil)
   ·intro h1 h2
    obtain rfl : e = 2 := Nat.le_antisymm h2 h1
    have hwe : wc73 = w' := (hw.trans (by kernel_rfl)).symm
    subst hwe
    obtain ⟨hEc72, hEc73, _⟩ := hH
    exact (.c (sl_own (k := y.ts.length) (hB65) (by kernel_rfl) (by kernel_rfl) rfl (by omega)) .nil)
   ·intro h1 h2
    obtain rfl : e = 2 := Nat.le_antisymm h2 h1
    have hwe : wc73 = w' := (hw.trans (by kernel_rfl)).symm
    subst hwe
    obtain ⟨hEc72, hEc73, _⟩ := hH
    exact (.c (ixr 77 i ha) .nil)
   ·intro h1 h2
    obtain rfl : e = 2 := Nat.le_antisymm h2 h1
    have hwe : wc73 = w' := (hw.trans (by kernel_rfl)).symm
    subst hwe
    obtain ⟨hEc72, hEc73, _⟩ := hH
    exact (.c ((ha.ext0 ((hbr16.trans0 hE69).trans0 (by first | exact (Ext.refl [] _).drew | exact Ext.refl [] _ | exact ((Ext.refl [] _).drew).trans0 (by assumption) | exact (((Ext.refl [] _).drew).trans0 (by assumption)).trans0 (by assumption) | exact ((((Ext.refl [] _).drew).trans0 (by assumption)).trans0 (by assumption)).trans0 (by assumption)))).cellAt (i * 2 + 1) (by omega) (acells_at (i := 1) hyi (by omega))) .nil)
   ·intro h1 h2
    obtain rfl : e = 3 := Nat.le_antisymm h2 h1
    have hwe : wc74 = w' := (hw.trans (by kernel_rfl)).symm
    subst hwe
    obtain ⟨hEc72, hEc73, hEc74, _⟩ := hH
    exact (.c (ix_own (j := y.ts.length) (hB65) (by kernel_rfl) (by kernel_rfl) rfl (by omega)) .nil)
   ·intro h1 h2
    obtain rfl : e = 3 := Nat.le_antisymm h2 h1
    have hwe : wc74 = w' := (hw.trans (by kernel_rfl)).symm
    subst hwe
    obtain ⟨hEc72, hEc73, hEc74, _⟩ := hH
    exact (.c (OwnV.cellAt ((((hB65.drew : OwnV w60.drew 3 1 (.slice ga244 (y.ts.length + 2) gc244) (y.ts.length + 2) ((its y.ts) ++ [I6 (-91), I6 (-92)])).ext hEc72 (by simp) : OwnV wc72 3 1 (.slice ga244 (y.ts.length + 2) gc244) (y.ts.length + 2) ((its y.ts) ++ [I6 (-91), I6 (-92)])).ext hEc73 (by simp) : OwnV wc73 3 1 (.slice ga244 (y.ts.length + 2) gc244) (y.ts.length + 2) ((its y.ts) ++ [I6 (-91), I6 (-92)])).ext hEc74 (by simp) : OwnV wc74 3 1 (.slice ga244 (y.ts.length + 2) gc244) (y.ts.length + 2) ((its y.ts) ++ [I6 (-91), I6 (-92)])) _ (by rw [Nat.zero_add, Nat.mul_one]; exact apl (j := 0) (its_len _) rfl)) .nil)
   ·intro h1 h2
    obtain rfl : e = 3 := Nat.le_antisymm h2 h1
    have hwe : wc74 = w' := (hw.trans (by kernel_rfl)).symm
    subst hwe
    obtain ⟨hEc72, hEc73, hEc74, _⟩ := hH
    exact (.c ((by rw [show (↑y.ts.length + 1 : Int) = ((y.ts.length + 1 : Nat) : Int) from by omega]; exact as_i64 (by omega))) .nil)
   ·intro h1 h2
    obtain rfl : e = 3 := Nat.le_antisymm h2 h1
    have hwe : wc74 = w' := (hw.trans (by kernel_rfl)).symm
    subst hwe
    obtain ⟨hEc72, hEc73, hEc74, _⟩ := hH
    exact (.c (ix_own (j := y.ts.length + 1) (hB65) (by kernel_rfl) (by kernel_rfl) rfl (by omega)) .nil)
   ·intro h1 h2
    obtain rfl : e = 3 := Nat.le_antisymm h2 h1
    have hwe : wc74 = w' := (hw.trans (by kernel_rfl)).symm
    subst hwe
    obtain ⟨hEc72, hEc73, hEc74, _⟩ := hH
    exact (.c (OwnV.cellAt ((((hB65.drew : OwnV w60.drew 3 1 (.slice ga244 (y.ts.length + 2) gc244) (y.ts.length + 2) ((its y.ts) ++ [I6 (-91), I6 (-92)])).ext hEc72 (by simp) : OwnV wc72 3 1 (.slice ga244 (y.ts.length + 2) gc244) (y.ts.length + 2) ((its y.ts) ++ [I6 (-91), I6 (-92)])).ext hEc73 (by simp) : OwnV wc73 3 1 (.slice ga244 (y.ts.length + 2) gc244) (y.ts.length + 2) ((its y.ts) ++ [I6 (-91), I6 (-92)])).ext hEc74 (by simp) : OwnV wc74 3 1 (.slice ga244 (y.ts.length + 2) gc244) (y.ts.length + 2) ((its y.ts) ++ [I6 (-91), I6 (-92)])) _ (by rw [Nat.zero_add, Nat.mul_one]; exact apl (j := 1) (its_len _) rfl)) .nil)
   ·intro h1 h2
    obtain rfl : e = 3 := Nat.le_antisymm h2 h1
    have hwe : wc74 = w' := (hw.trans (by kernel_rfl)).symm
    subst hwe
    obtain ⟨hEc72, hEc73, hEc74, _⟩ := hH
    exact (.c (ix_own (j := y.r.length) (hB64) (by kernel_rfl) (by kernel_rfl) rfl (by omega)) .nil)
   ·intro h1 h2
    obtain rfl : e = 3 := Nat.le_antisymm h2 h1
    have hwe : wc74 = w' := (hw.trans (by kernel_rfl)).symm
    subst hwe
    obtain ⟨hEc72, hEc73, hEc74, _⟩ := hH
    exact (.c (OwnV.cellAt ((((hB64.drew : OwnV w60.drew 61 2 (.slice ga239 (y.r.length + 2) gc239) (y.r.length + 2) ((ycells y.r) ++ [I6 91, I6 0, I6 92, I6 0])).ext hEc72 (by simp) : OwnV wc72 61 2 (.slice ga239 (y.r.length + 2) gc239) (y.r.length + 2) ((ycells y.r) ++ [I6 91, I6 0, I6 92, I6 0])).ext hEc73 (by simp) : OwnV wc73 61 2 (.slice ga239 (y.r.length + 2) gc239) (y.r.length + 2) ((ycells y.r) ++ [I6 91, I6 0, I6 92, I6 0])).ext hEc74 (by simp) : OwnV wc74 61 2 (.slice ga239 (y.r.length + 2) gc239) (y.r.length + 2) ((ycells y.r) ++ [I6 91, I6 0, I6 92, I6 0])) _ (by rw [Nat.zero_add]; exact apl (j := 0) (ycells_len _) rfl)) .nil)
   ·intro h1 h2
    obtain rfl : e = 3 := Nat.le_antisymm h2 h1
    have hwe : wc74 = w' := (hw.trans (by kernel_rfl)).symm
    subst hwe
    obtain ⟨hEc72, hEc73, hEc74, _⟩ := hH
    exact (.c ((by rw [show (↑y.r.length + 1 : Int) = ((y.r.length + 1 : Nat) : Int) from by omega]; exact as_i64 (by omega))) .nil)
   ·intro h1 h2
    obtain rfl : e = 3 := Nat.le_antisymm h2 h1
    have hwe : wc74 = w' := (hw.trans (by kernel_rfl)).symm
    subst hwe
    obtain ⟨hEc72, hEc73, hEc74, _⟩ := hH
    exact (.c (ix_own (j := y.r.length + 1) (hB64) (by kernel_rfl) (by kernel_rfl) rfl (by omega)) .nil)
   ·intro h1 h2
    obtain rfl : e = 3 := Nat.le_antisymm h2 h1
    have hwe : wc74 = w' := (hw.trans (by kernel_rfl)).symm
    subst hwe
    obtain ⟨hEc72, hEc73, hEc74, _⟩ := hH
    exact (.c (OwnV.cellAt ((((hB64.drew : OwnV w60.drew 61 2 (.slice ga239 (y.r.length + 2) gc239) (y.r.length + 2) ((ycells y.r) ++ [I6 91, I6 0, I6 92, I6 0])).ext hEc72 (by simp) : OwnV wc72 61 2 (.slice ga239 (y.r.length + 2) gc239) (y.r.length + 2) ((ycells y.r) ++ [I6 91, I6 0, I6 92, I6 0])).ext hEc73 (by simp) : OwnV wc73 61 2 (.slice ga239 (y.r.length + 2) gc239) (y.r.length + 2) ((ycells y.r) ++ [I6 91, I6 0, I6 92, I6 0])).ext hEc74 (by simp) : OwnV wc74 61 2 (.slice ga239 (y.r.length + 2) gc239) (y.r.length + 2) ((ycells y.r) ++ [I6 91, I6 0, I6 92, I6 0])) _ (by rw [Nat.zero_add, Nat.add_mul]; exact apl (j := 2) (ycells_len _) rfl)) .nil)
  ·refine (.c ?eq75_2 (.c ?eq75_8 (.c ?eq75_20 .nil)))
   ·rintro ⟨wc72, wc73, wc74⟩ hH
    clear hH
    refine eff_gh (w60.drew) (by kernel_rfl) ?_
    refine upon_call (f := 35) (vs := [.slice qb qn qc, .slice b458 n458 c458]) (cap := #[]) (d := (some 90)) (by kernel_rfl) Tryd.call35 #[.slice qb qn qc, .slice b458 n458 c458] (by kernel_rfl) (SameInts_l hll ((hB67).ext ((Ext.refl [] _).drew) (by simp)).rd ((hB68).ext ((Ext.refl [] _).drew) (by simp)).rd hl8) ?_
    rintro _ wc72 ⟨rfl, hEc72⟩
    exact ⟨_, rfl, ⟨(wc72, wc73, wc74), by kernel_rfl, by kernel_rfl, by kernel_rfl, ⟨hEc72, trivial⟩⟩⟩
   ·rintro ⟨wc72, wc73, wc74⟩ hH
    obtain ⟨hEc72, _⟩ := hH
    refine eff_gh (wc72) (by kernel_rfl) ?_
    refine upon_call (f := 19) (vs := [I6 f458.2, I6 f458.1]) (cap := #[]) (d := (some 96)) (by kernel_rfl) Tryd.call19 #[I6 f458.2, I6 f458.1] (by kernel_rfl) (fault_eq hff hf0) ?_
    rintro _ wc73 ⟨rfl, hEc73⟩
    exact ⟨_, rfl, ⟨(wc72, wc73, wc74), by kernel_rfl, by kernel_rfl, by kernel_rfl, ⟨hEc72, hEc73, trivial⟩⟩⟩
   ·rintro ⟨wc72, wc73, wc74⟩ hH
    obtain ⟨hEc72, hEc73, _⟩ := hH
    refine eff_gh (wc73) (by kernel_rfl) ?_
    refine upon_call (f := 35) (vs := [.slice ga244 y.ts.length gc244, y.tv]) (cap := #[]) (d := (some 108)) (by kernel_rfl) Tryd.call35 #[.slice ga244 y.ts.length gc244, y.tv] (by kernel_rfl) (SameIts_eq (xs := y.ts) (ys := y.ts) rfl (OwnV.cut0 ((hB65).ext ((((((Ext.refl [] _).drew)).trans0 hEc72)).trans0 hEc73) (by simp)) (by rw [its_len, Nat.mul_one])) (hy.t.ext0 ((hbr16.trans0 hE69).trans0 ((((((Ext.refl [] _).drew)).trans0 hEc72)).trans0 hEc73))) hy.tm) ?_
    rintro _ wc74 ⟨rfl, hEc74⟩
    exact ⟨_, rfl, ⟨(wc72, wc73, wc74), by kernel_rfl, by kernel_rfl, by kernel_rfl, ⟨hEc72, hEc73, hEc74, trivial⟩⟩⟩
  rintro ⟨wc72, wc73, wc74⟩ a w76 hS hw77 hH
  obtain ⟨hEc72, hEc73, hEc74, _⟩ := hH
  replace hw77 : w76 = wc74 := hw77.trans (by kernel_rfl)
  have hB78 := Blk.at' hw77 ((((hB62.drew : Blk w60.drew w.heap.size 26 (S.ca)).ext hEc72 (by simp) : Blk wc72 w.heap.size 26 (S.ca)).ext hEc73 (by simp) : Blk wc73 w.heap.size 26 (S.ca)).ext hEc74 (by simp))
  have hB79 := Blk.at' hw77 ((((hB63.drew : Blk w60.drew wlt.heap.size 26 (#[S2.lv, S2.nv, I6 S2.st, S2.pv])).ext hEc72 (by simp) : Blk wc72 wlt.heap.size 26 (#[S2.lv, S2.nv, I6 S2.st, S2.pv])).ext hEc73 (by simp) : Blk wc73 wlt.heap.size 26 (#[S2.lv, S2.nv, I6 S2.st, S2.pv])).ext hEc74 (by simp))
  have hB80 := OwnV.at' hw77 ((((hB64.drew : OwnV w60.drew 61 2 (.slice ga239 (y.r.length + 2) gc239) (y.r.length + 2) ((ycells y.r) ++ [I6 91, I6 0, I6 92, I6 0])).ext hEc72 (by simp) : OwnV wc72 61 2 (.slice ga239 (y.r.length + 2) gc239) (y.r.length + 2) ((ycells y.r) ++ [I6 91, I6 0, I6 92, I6 0])).ext hEc73 (by simp) : OwnV wc73 61 2 (.slice ga239 (y.r.length + 2) gc239) (y.r.length + 2) ((ycells y.r) ++ [I6 91, I6 0, I6 92, I6 0])).ext hEc74 (by simp))
  have hB81 := OwnV.at' hw77 ((((hB65.drew : OwnV w60.drew 3 1 (.slice ga244 (y.ts.length + 2) gc244) (y.ts.length + 2) ((its y.ts) ++ [I6 (-91), I6 (-92)])).ext hEc72 (by simp) : OwnV wc72 3 1 (.slice ga244 (y.ts.length + 2) gc244) (y.ts.length + 2) ((its y.ts) ++ [I6 (-91), I6 (-92)])).ext hEc73 (by simp) : OwnV wc73 3 1 (.slice ga244 (y.ts.length + 2) gc244) (y.ts.length + 2) ((its y.ts) ++ [I6 (-91), I6 (-92)])).ext hEc74 (by simp))
  have hE85 : Ext [] wlt w76 := by rw [hw77]; exact (((hE69.drew).trans0 hEc72).trans0 hEc73).trans0 hEc74
  replace hS := hS.kp [(1, av), (2, (Pv w.heap.size)), (5, (Pv wlt.heap.size)), (8, I6 i), (24, .bool (decide ((↑i : Int) < ↑As.length))), (6, .slice ga239 (y.r.length + 2) gc239), (7, .slice ga244 (y.ts.length + 2) gc244), (9, I6 y.r.length), (10, I6 y.ts.length), (12, (Pv x13_11)), (11, .slice qb qn qc), (13, .slice b458 n458 c458), (14, I6 f458.2), (15, I6 f458.1), (142, .bool false)]
  refine hK71 _ _ ?_
  refine cond_f hS rfl ?_
  refine wpIn_skip <| hK70 _ _ <| sdq 1 [.p] [] [(16, I6 0)] [] hS .nil fun a hS => wpIn_block ?_
  have hbl87 : Ext [] w0 w76 := (hbr16.trans0 hE85)
  refine loop_ghost (fun (k : Nat) a' w' => St 164 [] [(1, av), (2, (Pv w.heap.size)), (5, (Pv wlt.heap.size)), (6, .slice ga239 (y.r.length + 2) gc239), (7, .slice ga244 (y.ts.length + 2) gc244), (8, I6 i), (9, I6 y.r.length), (16, I6 k)] a' ∧ Ext [] w76 w' ∧ k ≤ y.r.length) (fun (k : Nat) => y.r.length - k) 0 ⟨hS.keepTo [1, 2, 5, 6, 7, 8, 9, 16] (by kernel_rfl), Ext.refl _ _, by omega⟩ ?_
  rintro k a wl87 ⟨hS, hXl87, hk⟩
  have hB88 := hB78.ext hXl87 (by simp)
  have hB89 := hB79.ext hXl87 (by simp)
  have hB90 := hB80.ext hXl87 (by simp)
  have hB91 := hB81.ext hXl87 (by simp)
  refine sq fun K95 hK95 => sdq 3 [.p, .p, .p] [] [(145, .bool (decide ((↑k : Int) < ↑y.r.length)))] [] hS .nil fun a hS => ?_
  refine cond_b hS rfl (fun hb97 => ?_) (fun hb97 => ?_)
  ·
   replace hb97 := of_decide_eq_true hb97
   obtain ⟨x, hxk⟩ : ∃ x, y.r[k]? = some x := ⟨_, List.getElem?_eq_getElem (by omega)⟩
   refine wpIn_skip <| hK95 _ _ <| sq fun K98 hK98 => wpIn_block <| sq fun K99 hK99 => ?_
   refine fn3 [.q .p, .q .p, .q (.run ((Po (bof (.slice ga239 (y.r.length + 2) gc239)) (0 + k * 2)))), .q (.lds [I6 x.1, I6 x.2]), .q .p, .q .p, .q (.run ((Po (bof av) (oof av + i * 2)))), .q .p, .q (.ld (y.rv)), .q .p, .q (.run ((Po (bof y.rv) (oof y.rv + k * 2)))), .q (.lds [I6 x.1, I6 x.2]), .q (.run (.bool false))] [0, 0, 0, 0, 0, 0, 0, 0, 0, 0, 0, 0, 0] [0, 0, 0, 0, 0, 0, 0, 0, 0, 0, 0, 0, 0] [0, 0, 3, 7, 0, 0, 48, 112, 240, 0, 1008, 2032, 4095] [] 0 ([(1, av), (2, (Pv w.heap.size)), (5, (Pv wlt.heap.size)), (6, .slice ga239 (y.r.length + 2) gc239), (7, .slice ga244 (y.ts.length + 2) gc244), (8, I6 i), (9, I6 y.r.length), (16, I6 k), (145, .bool (decide ((↑k : Int) < ↑y.r.length))), (148, .slice ga239 (y.r.length + 2) gc239), (149, I6 k), (150, (Po (bof (.slice ga239 (y.r.length + 2) gc239)) (0 + k * 2))), (151, .agg #[I6 x.1, I6 x.2]), (152, av), (153, I6 i), (154, (Po (bof av) (oof av + i * 2))), (155, (Po (bof av) (oof av + i * 2))), (156, y.rv), (157, I6 k), (158, (Po (bof y.rv) (oof y.rv + k * 2))), (159, .agg #[I6 x.1, I6 x.2]), (160, .bool false)]) [wl87.drew] wl87.drew (fun w' => [(2, [Rv (Instr.indexAt 71 (.slice ga239 (y.r.length + 2) gc239) (I6 k)) ((Po (bof (.slice ga239 (y.r.length + 2) gc239)) (0 + k * 2))) w']), (3, [w'.cell? ⟨bof (.slice ga239 (y.r.length + 2) gc239), 0 + k * 2, none⟩ = some (I6 x.1), w'.cell? ⟨bof (.slice ga239 (y.r.length + 2) gc239), 0 + k * 2 + 1, none⟩ = some (I6 x.2)]), (6, [Rv (Instr.indexAt 75 (av) (I6 i)) ((Po (bof av) (oof av + i * 2))) w']), (8, [w'.cell? ⟨bof av, oof av + i * 2, none⟩ = some (y.rv)]), (10, [Rv (Instr.indexAt 71 (y.rv) (I6 k)) ((Po (bof y.rv) (oof y.rv + k * 2))) w']), (11, [w'.cell? ⟨bof y.rv, oof y.rv + k * 2, none⟩ = some (I6 x.1), w'.cell? ⟨bof y.rv, oof y.rv + k * 2 + 1, none⟩ = some (I6 x.2)]), (12, [Rv (do eqGuard .neq 61 (.tmp 151) (.tmp 159) (.agg #[I6 x.1, I6 x.2]) (.agg #[I6 x.1, I6 x.2]); binOp .neq 61 (.agg #[I6 x.1, I6 x.2]) (.agg #[I6 x.1, I6 x.2])) (.bool false) w'])]) [1, 2, 5, 6, 7, 8, 9, 16, 145] [] hS (fun _ => by kernel_rfl) ?_ ?_ ?_
   ·intro e w' hw
    refine (.c ?_ (.c ?_ (.c ?_ (.c ?_ (.c ?_ (.c ?_ (.c ?_ .nil)))))))
    ·exact fun _ _ => (.c (ix_own (j := k) (hB90) (by kernel_rfl) (by kernel_rfl) rfl (by omega)) .nil)
    ·intro h1 h2
     obtain rfl : e = 0 := Nat.le_antisymm h2 h1
     obtain rfl : w' = wl87.drew := hw.trans (by kernel_rfl)
     exact (.c (OwnV.cellAt (hB90.drew : OwnV wl87.drew 61 2 (.slice ga239 (y.r.length + 2) gc239) (y.r.length + 2) ((ycells y.r) ++ [I6 91, I6 0, I6 92, I6 0])) _ (by rw [Nat.zero_add]; exact apl0 (ycells_at y.r k 0 x hxk (by omega)))) (.c (OwnV.cellAt (hB90.drew : OwnV wl87.drew 61 2 (.slice ga239 (y.r.length + 2) gc239) (y.r.length + 2) ((ycells y.r) ++ [I6 91, I6 0, I6 92, I6 0])) _ (by rw [Nat.zero_add]; exact apl0 (ycells_at y.r k 1 x hxk (by omega)))) .nil))
    ·exact fun _ _ => (.c (ixr 77 i ha) .nil)
    ·intro h1 h2
     obtain rfl : e = 0 := Nat.le_antisymm h2 h1
     obtain rfl : w' = wl87.drew := hw.trans (by kernel_rfl)
     exact (.c ((ha.ext0 ((hbl87.trans0 hXl87).trans0 (by first | exact (Ext.refl [] _).drew | exact Ext.refl [] _ | exact ((Ext.refl [] _).drew).trans0 (by assumption) | exact (((Ext.refl [] _).drew).trans0 (by assumption)).trans0 (by assumption) | exact ((((Ext.refl [] _).drew).trans0 (by assumption)).trans0 (by assumption)).trans0 (by assumption)))).cellAt (i * 2 + 0) (by omega) (acells_at (i := 0) hyi (by omega))) .nil)
    ·exact fun _ _ => (.c (ixr 61 k hy.r) .nil)
    ·intro h1 h2
     obtain rfl : e = 0 := Nat.le_antisymm h2 h1
     obtain rfl : w' = wl87.drew := hw.trans (by kernel_rfl)
     exact (.c ((hy.r.ext0 ((hbl87.trans0 hXl87).trans0 (by first | exact (Ext.refl [] _).drew | exact Ext.refl [] _ | exact ((Ext.refl [] _).drew).trans0 (by assumption) | exact (((Ext.refl [] _).drew).trans0 (by assumption)).trans0 (by assumption) | exact ((((Ext.refl [] _).drew).trans0 (by assumption)).trans0 (by assumption)).trans0 (by assumption)))).cellAt (k * 2 + 0) (by omega) (ycells_at y.r k 0 x hxk (by omega))) (.c ((hy.r.ext0 ((hbl87.trans0 hXl87).trans0 (by first | exact (Ext.refl [] _).drew | exact Ext.refl [] _ | exact ((Ext.refl [] _).drew).trans0 (by assumption) | exact (((Ext.refl [] _).drew).trans0 (by assumption)).trans0 (by assumption) | exact ((((Ext.refl [] _).drew).trans0 (by assumption)).trans0 (by assumption)).trans0 (by assumption)))).cellAt (k * 2 + 1) (by omega) (ycells_at y.r k 1 x hxk (by omega))) .nil))
    ·exact fun _ _ => (.c ((bin_agg_self (by kernel_rfl) (by kernel_rfl)).2) .nil)
   ·refine .nil
   rintro a w101 hS hw102
   replace hw102 : w101 = wl87.drew := hw102.trans (by kernel_rfl)
   have hE110 : Ext [] w76 w101 := by rw [hw102]; exact hXl87.drew
   replace hS := hS.kp [(1, av), (2, (Pv w.heap.size)), (5, (Pv wlt.heap.size)), (6, .slice ga239 (y.r.length + 2) gc239), (7, .slice ga244 (y.ts.length + 2) gc244), (8, I6 i), (9, I6 y.r.length), (16, I6 k), (145, .bool (decide ((↑k : Int) < ↑y.r.length))), (160, .bool false)]
   refine hK99 _ _ ?_
   refine cond_f hS rfl ?_
   refine wpIn_skip <| inBlock_normal <| hK98 _ _ <| rgn 3 <| sd ww [.p, .as (I6 ((k + 1 : Nat) : Int)), .p] [Value.int .i64 (IntKind.i64.wrap (↑k + 1)) = I6 ((k + 1 : Nat) : Int)] [(16, I6 ((k + 1 : Nat) : Int))] [] 3 0 hS (.c ((by rw [show (↑k + 1 : Int) = ((k + 1 : Nat) : Int) from by omega]; exact as_i64 (by omega))) .nil) fun a hS => seg_end ?_
   exact ⟨k + 1, ⟨hS.kp [(1, av), (2, (Pv w.heap.size)), (5, (Pv wlt.heap.size)), (6, .slice ga239 (y.r.length + 2) gc239), (7, .slice ga244 (y.ts.length + 2) gc244), (8, I6 i), (9, I6 y.r.length), (16, I6 ((k + 1 : Nat) : Int))], hE110, by omega⟩, by omega⟩
  ·
   replace hb97 := of_decide_eq_false hb97
   have hEl87 : Ext [] wlt wl87 := hE85.trans0 hXl87
   refine wpIn_exit <| then_exit <| then_exit <| inBlock_hit <| inBlock_normal <| hK37 _ _ <| rgn 3 <| sd ww [.p, .as (I6 (↑i + 1)), .p] [_] [(8, I6 (↑i + 1))] [] 3 0 hS (as6 (↑i + 1)) fun a hS => seg_end ?_
   exact ⟨(i + 1, ga239, (y.r.length + 2), gc239, _, ga244, (y.ts.length + 2), gc244, _), ⟨hS.kp [(1, av), (2, (Pv w.heap.size)), (5, (Pv wlt.heap.size)), (6, .slice ga239 (y.r.length + 2) gc239), (7, .slice ga244 (y.ts.length + 2) gc244), (8, I6 (↑i + 1))], hEl87, by omega, hB88, hB89, hB90, hNq39, hB91, hNq44⟩, by simp only; omega⟩
 ·
  replace hb36 := of_decide_eq_false hb36
  refine wpIn_exit <| then_exit <| then_exit <| inBlock_hit <| hK31 _ _ <| sq fun K111 hK111 => rgn 4 <| sd ww [.lds [S2.lv, S2.nv, I6 S2.st, S2.pv], .lds [S.lv, S.nv, I6 S.st, S.pv]] [_, _, _, _, _, _, _, _] [(161, .agg #[S2.lv, S2.nv, I6 S2.st, S2.pv]), (162, .agg S.ca)] [] 2 2 hS (hlb1.k 0 (hlb1.k 1 (hlb1.k 2 (hlb1.k 3 (hsb1.k 0 (hsb1.k 1 (hsb1.k 2 (hsb1.k 3 .nil)))))))) fun a hS => ecl 1 (some 163) hS Tryd.call20 #[.agg #[S2.lv, S2.nv, I6 S2.st, S2.pv], .agg S.ca] (hKp _ (hXl33.trans0 (Ext.refl [] _))) ?_
  rintro _ wc112 ⟨rfl, hEc112⟩
  refine ⟨_, rfl, fun a hS => ?_⟩
  have hE117 := hXl33.trans0 hEc112
  refine sd ww [.p] [] [(4, .bool true)] [] 4 0 hS .nil fun a hS => sge hK111 <| wpIn_ret ?_
  refine ret1 hS Tryd.results7 rfl ?_
  exact ⟨rfl, (hE15.trans0 hE117)⟩
end Go.Proofs.YtkkpghlcmcaoiaaDoor
