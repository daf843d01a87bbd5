import Derived.Test.YtkkpghlcmcaoiaaDoorS46
namespace Go.Proofs.YtkkpghlcmcaoiaaDoor
open Go.Vc Go.Gm
theorem row_mark {A B : List Value} {n k j : Nat} (hA : A.length = n * k) : (A ++ B)[0 + n * k + j]? = B[j]? := by
 rw [List.getElem?_append_right (by omega), hA]; congr 1; omega
theorem row_left {A B : List Value} {i : Nat} {v : Value} (h : A[i]? = some v) : (A ++ B)[0 + i]? = some v := by
 rw [Nat.zero_add, List.getElem?_append_left (List.getElem?_eq_some_iff.1 h).1]; exact h
theorem lrow_at {ls : List Lx} {B : List Value} {i k : Nat} {l : Lx} {cs : List Value} (h : ls[i]? = some l) (hc : l.cells = cs) (hk : k < 8) : (lcells ls ++ B)[0 + i * 8 + k]? = cs[k]? := by
 have h1 := lcells_is h hc hk
 rw [← h1, Nat.zero_add, List.getElem?_append_left]
 rw [lcells_len]; have := (List.getElem?_eq_some_iff.1 h).1; omega
theorem prow_at {qs : List Pd} {B : List Value} {i k : Nat} {q : Pd} {cs : List Value} (h : qs[i]? = some q) (hc : q.cells = cs) (hk : k < 2) : (pcells qs ++ B)[0 + i * 2 + k]? = cs[k]? := by
 rw [← hc, ← pcells_at qs i k q h hk, Nat.zero_add, List.getElem?_append_left]
 rw [pcells_len]; have := (List.getElem?_eq_some_iff.1 h).1; omega
theorem yrow_at {l : List Sy} {B : List Value} {i k : Nat} {x : Sy} (h : l[i]? = some x) (hk : k < 2) : (ycells l ++ B)[0 + i * 2 + k]? = [I6 x.1, I6 x.2][k]? := by
 rw [← ycells_at l i k x h hk, Nat.zero_add, List.getElem?_append_left]
 rw [ycells_len]; have := (List.getElem?_eq_some_iff.1 h).1; omega
theorem nc_at {l : List ByteArray} {i : Nat} {s : ByteArray} (h : l[i]? = some s) : (ncells l)[i * 1]? = some (.string s) := by rw [Nat.mul_one, ncells, List.getElem?_map, h]; rfl
set_option maxHeartbeats 2000000 in
theorem Kept_any {w0 w : World} {S : Sp} (hG : SpOk w0 S) (hb : Ext [] w0 w) {xs : List Ex} (hX : PatOk w0 S xs) {N gl gn gp : Nat} {ls : List Lx} {qs : List Pd} (hL : LentOk w N S xs gl gn gp ls qs) :
  Calls Tryd.prog 20 #[.agg #[Sl gl S.lx.length (S.lx.length + 1), Sl gn S.ns.length (S.ns.length + 1), I6 S.st, Sl gp S.ps.length (S.ps.length + 1)], .agg S.ca] w fun e w' => e = .returned (.bool true) ∧ Ext [] w w' := by
 have hlmax := hG.lmax
 have hnmax := hG.nmax
 have hpmax := hG.pmax
 have hxl := hX.len
 have hll := hL.lx.len
 have hql := hL.ps.len
 refine cbd 244 [(0, .agg #[Sl gl S.lx.length (S.lx.length + 1), Sl gn S.ns.length (S.ns.length + 1), I6 S.st, Sl gp S.ps.length (S.ps.length + 1)]), (1, .agg S.ca)] Tryd.func20 rfl fun a hS => ?_
 have hE0 : Ext [] w w := Ext.refl _ _
 refine sq fun K1 hK1 => rgn 3 <| ebx 2 #[Sl gl S.lx.length (S.lx.length + 1), Sl gn S.ns.length (S.ns.length + 1), I6 S.st, Sl gp S.ps.length (S.ps.length + 1)] 26 (some 2) hS fun a w2 hw3 hS => ?_
 have hB7 := OwnR.at' hw3 (hL.ol.alloc _)
 have hB8 := OwnR.at' hw3 (hL.on.alloc _)
 have hB9 := OwnR.at' hw3 (hL.op.alloc _)
 have hB10 := Blk.nw hw3
 have hs11 := hE0.size
 have hE12 := hE0.al hw3
 refine ebx 1 S.ca 26 (some 3) hS fun a w13 hw14 hS => ?_
 have hB19 := OwnR.at' hw14 (hB7.alloc _)
 have hB20 := OwnR.at' hw14 (hB8.alloc _)
 have hB21 := OwnR.at' hw14 (hB9.alloc _)
 have hB22 := Blk.at' hw14 (hB10.alloc _)
 have hB23 := Blk.nw hw14
 have hs24 := hE12.size
 have hE25 := hE12.al hw14
 refine sd ww [.p] [] [(4, .bool false)] [] 3 0 hS .nil fun a hS => sge hK1 <| sq fun K26 hK26 => sdq 32 [.p, .ld (I6 S.st), .p, .ld (I6 S.st), .as (.bool false), .p, .p, .ld (Sl gl S.lx.length (S.lx.length + 1)), .p, .p, .ld (S.lv), .run (I6 S.lx.length), .as (.bool false), .p, .p, .p, .ld (Sl gn S.ns.length (S.ns.length + 1)), .p, .p, .ld (S.nv), .run (I6 S.ns.length), .as (.bool false), .p, .p, .p, .ld (Sl gp S.ps.length (S.ps.length + 1)), .p, .p, .ld (S.pv), .run (I6 S.ps.length), .as (.bool false), .p] [_, _, Value.bool (((S.st : Int) != S.st)) = .bool false, _, _, Rv (Builtin.len_ #[22] 3 #[S.lv]) (I6 S.lx.length) w13, Value.bool (((↑S.lx.length : Int) != ↑S.lx.length)) = .bool false, _, _, Rv (Builtin.len_ #[23] 3 #[S.nv]) (I6 S.ns.length) w13, Value.bool (((↑S.ns.length : Int) != ↑S.ns.length)) = .bool false, _, _, Rv (Builtin.len_ #[24] 3 #[S.pv]) (I6 S.ps.length) w13, Value.bool (((↑S.ps.length : Int) != ↑S.ps.length)) = .bool false] [(45, .bool false)] [] hS (hB22.k 2 (hB23.k 2 (.c (as_ne_f (rfl)) (hB22.k 0 (hB23.k 0 (.c (rlr 100 hG.lex) (.c (as_ne_f (rfl)) (hB22.k 1 (hB23.k 1 (.c (rlr 9 hG.names) (.c (as_ne_f (rfl)) (hB22.k 3 (hB23.k 3 (.c (rlr 73 hG.prods) (.c (as_ne_f (rfl)) .nil))))))))))))))) fun a hS => ?_
 refine cond_f hS rfl ?_
 refine wpIn_skip <| hK26 _ _ <| sdq 8 [.p, .ld (Sl gl S.lx.length (S.lx.length + 1)), .p, .ld (S.lv), .run (I6 S.lx.length), .as (I6 ((S.lx.length + 1 : Nat) : Int)), .run (Sl gl (S.lx.length + 1) (S.lx.length + 1)), .p] [_, _, Rv (Builtin.len_ #[22] 3 #[S.lv]) (I6 S.lx.length) w13, Value.int .i64 (IntKind.i64.wrap (↑S.lx.length + 1)) = I6 ((S.lx.length + 1 : Nat) : Int), Rv (Instr.sliceAt 22 (Sl gl S.lx.length (S.lx.length + 1)) none (some (I6 ((S.lx.length + 1 : Nat) : Int))) none) (Sl gl (S.lx.length + 1) (S.lx.length + 1)) w13] [(5, Sl gl (S.lx.length + 1) (S.lx.length + 1))] [] hS (hB22.k 0 (hB23.k 0 (.c (rlr 100 hG.lex) (.c ((by rw [show (↑S.lx.length + 1 : Int) = ((S.lx.length + 1 : Nat) : Int) from by omega]; exact as_i64 (by omega))) (.c (sl_h (E := 100) (size := 8) (h := (S.lx.length + 1)) (by kernel_rfl) (by kernel_rfl) rfl (by omega)) .nil))))) fun a hS => sdq 8 [.p, .ld (Sl gn S.ns.length (S.ns.length + 1)), .p, .ld (S.nv), .run (I6 S.ns.length), .as (I6 ((S.ns.length + 1 : Nat) : Int)), .run (Sl gn (S.ns.length + 1) (S.ns.length + 1)), .p] [_, _, Rv (Builtin.len_ #[23] 3 #[S.nv]) (I6 S.ns.length) w13, Value.int .i64 (IntKind.i64.wrap (↑S.ns.length + 1)) = I6 ((S.ns.length + 1 : Nat) : Int), Rv (Instr.sliceAt 23 (Sl gn S.ns.length (S.ns.length + 1)) none (some (I6 ((S.ns.length + 1 : Nat) : Int))) none) (Sl gn (S.ns.length + 1) (S.ns.length + 1)) w13] [(6, Sl gn (S.ns.length + 1) (S.ns.length + 1))] [] hS (hB22.k 1 (hB23.k 1 (.c (rlr 9 hG.names) (.c ((by rw [show (↑S.ns.length + 1 : Int) = ((S.ns.length + 1 : Nat) : Int) from by omega]; exact as_i64 (by omega))) (.c (sl_h (E := 9) (size := 1) (h := (S.ns.length + 1)) (by kernel_rfl) (by kernel_rfl) rfl (by omega)) .nil))))) fun a hS => sq fun K30 hK30 => rgn 8 <| sd ww [.p, .ld (Sl gp S.ps.length (S.ps.length + 1)), .p, .ld (S.pv), .run (I6 S.ps.length), .as (I6 ((S.ps.length + 1 : Nat) : Int)), .run (Sl gp (S.ps.length + 1) (S.ps.length + 1)), .p] [_, _, Rv (Builtin.len_ #[24] 3 #[S.pv]) (I6 S.ps.length) w13, Value.int .i64 (IntKind.i64.wrap (↑S.ps.length + 1)) = I6 ((S.ps.length + 1 : Nat) : Int), Rv (Instr.sliceAt 24 (Sl gp S.ps.length (S.ps.length + 1)) none (some (I6 ((S.ps.length + 1 : Nat) : Int))) none) (Sl gp (S.ps.length + 1) (S.ps.length + 1)) w13] [(7, Sl gp (S.ps.length + 1) (S.ps.length + 1))] [] 8 0 hS (hB22.k 3 (hB23.k 3 (.c (rlr 73 hG.prods) (.c ((by rw [show (↑S.ps.length + 1 : Int) = ((S.ps.length + 1 : Nat) : Int) from by omega]; exact as_i64 (by omega))) (.c (sl_h (E := 73) (size := 2) (h := (S.ps.length + 1)) (by kernel_rfl) (by kernel_rfl) rfl (by omega)) .nil))))) fun a hS => ?_
 refine sge hK30 <| sdq 28 [.p, .p, .ld (S.lv), .run (I6 S.lx.length), .run ((Po gl (0 + S.lx.length * 8))), .p, .ld (.string ⟨#[109, 97, 114, 107]⟩), .p, .p, .p, .p, .ld (S.nv), .run (I6 S.ns.length), .run ((Po gn (0 + S.ns.length * 1))), .ld (.string ⟨#[109, 97, 114, 107]⟩), .p, .p, .p, .p, .p, .ld (S.pv), .run (I6 S.ps.length), .run ((Po gp (0 + S.ps.length * 2))), .p, .ld (I6 (-77)), .p, .p, .p] [_, Rv (Builtin.len_ #[22] 3 #[S.lv]) (I6 S.lx.length) w13, Rv (Instr.indexAt 22 (Sl gl (S.lx.length + 1) (S.lx.length + 1)) (I6 S.lx.length)) ((Po gl (0 + S.lx.length * 8))) w13, w13.cell? ⟨gl, 0 + S.lx.length * 8, none⟩ = some (.string ⟨#[109, 97, 114, 107]⟩), _, Rv (Builtin.len_ #[23] 3 #[S.nv]) (I6 S.ns.length) w13, Rv (Instr.indexAt 23 (Sl gn (S.ns.length + 1) (S.ns.length + 1)) (I6 S.ns.length)) ((Po gn (0 + S.ns.length * 1))) w13, w13.cell? ⟨gn, 0 + S.ns.length * 1, none⟩ = some (.string ⟨#[109, 97, 114, 107]⟩), _, Rv (Builtin.len_ #[24] 3 #[S.pv]) (I6 S.ps.length) w13, Rv (Instr.indexAt 24 (Sl gp (S.ps.length + 1) (S.ps.length + 1)) (I6 S.ps.length)) ((Po gp (0 + S.ps.length * 2))) w13, w13.cell? ⟨gp, 0 + S.ps.length * 2, none⟩ = some (I6 (-77))] [(8, .bool true)] [] hS (hB23.k 0 (.c (rlr 100 hG.lex) (.c (ixs 100 8 S.lx.length) (.c ((hB19).cellAt _ ((row_mark (j := 0) (by rw [lcells_len, hll])))) (hB23.k 1 (.c (rlr 9 hG.names) (.c (ixs 9 1 S.ns.length) (.c ((hB20).cellAt _ ((row_mark (j := 0) (by rw [ncells_len, Nat.mul_one])))) (hB23.k 3 (.c (rlr 73 hG.prods) (.c (ixs 73 2 S.ps.length) (.c ((hB21).cellAt _ ((row_mark (j := 0) (by rw [pcells_len, hql])))) .nil)))))))))))) fun a hS => sq fun K32 hK32 => sq fun K33 hK33 => rgn 1 <| sg ww [.p] [] [(0, .agg #[Sl gl S.lx.length (S.lx.length + 1), Sl gn S.ns.length (S.ns.length + 1), I6 S.st, Sl gp S.ps.length (S.ps.length + 1)]), (1, .agg S.ca), (2, (Pv w.heap.size)), (3, (Pv w2.heap.size)), (4, .bool false), (45, .bool false), (5, Sl gl (S.lx.length + 1) (S.lx.length + 1)), (6, Sl gn (S.ns.length + 1) (S.ns.length + 1)), (7, Sl gp (S.ps.length + 1) (S.ps.length + 1)), (8, .bool true), (9, I6 0)] 1 0 hS .nil fun a hS => sge hK33 <| wpIn_block ?_
 have hbl34 := (hb.trans0 hE25)
 refine loop_ghost (fun (i : Nat) a' w' => St 244 [] [(2, (Pv w.heap.size)), (3, (Pv w2.heap.size)), (5, Sl gl (S.lx.length + 1) (S.lx.length + 1)), (6, Sl gn (S.ns.length + 1) (S.ns.length + 1)), (7, Sl gp (S.ps.length + 1) (S.ps.length + 1)), (8, .bool true), (9, I6 i)] a' ∧ Ext [] w13 w' ∧ i ≤ S.lx.length) (fun (i : Nat) => S.lx.length - i) 0 ⟨hS.keepTo [2, 3, 5, 6, 7, 8, 9] (by kernel_rfl), Ext.refl _ _, by omega⟩ ?_
 rintro i a wl34 ⟨hS, hXl34, hi⟩
 have hB35 := hB19.ext hXl34 (by simp)
 have hB36 := hB20.ext hXl34 (by simp)
 have hB37 := hB21.ext hXl34 (by simp)
 have hB39 := hB23.ext hXl34 (by simp)
 refine sq fun K40 hK40 => sdq 5 [.p, .p, .ld (S.lv), .run (I6 S.lx.length), .p] [_, Rv (Builtin.len_ #[22] 3 #[S.lv]) (I6 S.lx.length) wl34] [(98, .bool (decide ((↑i : Int) < ↑S.lx.length)))] [] hS (hB39.k 0 (.c (rlr 100 hG.lex) .nil)) fun a hS => ?_
 refine cond_b hS rfl (fun hb42 => ?_) (fun hb42 => ?_)
 ·
  replace hb42 := of_decide_eq_true hb42
  obtain ⟨lr, hlr⟩ : ∃ lr, S.lx[i]? = some lr := gE
  obtain ⟨x, hx⟩ : ∃ x, xs[i]? = some x := gE
  obtain ⟨lq, hlq⟩ : ∃ lq, ls[i]? = some lq := gE
  have hlc := hX.is i lr x hlr hx
  have hxo := hX.ok x (List.mem_of_getElem? hx)
  obtain ⟨hqc, hqT⟩ := hL.lx.is i lr lq x hlr hlq hx
  refine wpIn_skip <| hK40 _ _ <| sq fun K43 hK43 => wpIn_block ?_
  refine gh3 (G := World) [.q .p, .q .p, .q .p, .q .p, .q (.run ((Po gl (0 + i * 8)))), .q .p, .q (.ld (.string lr.nm)), .q .p, .q (.ld (S.lv)), .q .p, .q (.run ((Po (bof S.lv) (oof S.lv + i * 8)))), .q .p, .q (.ld (.string lr.nm)), .q (.run (.bool true)), .q .p, .q .p, .q .p, .q .p, .q (.run ((Po gl (0 + i * 8)))), .q .p, .q (.ld (.bool lr.tr)), .q .p, .q (.ld (S.lv)), .q .p, .q (.run ((Po (bof S.lv) (oof S.lv + i * 8)))), .q .p, .q (.ld (.bool lr.tr)), .q (.as (.bool true)), .q .p, .q .p, .q .p, .q .p, .q (.run ((Po gl (0 + i * 8)))), .q .p, .q (.lds [I6 x.kd, I6 x.fr, I6 x.to, I6 x.mi, I6 x.ma, lq.ls]), .q .p, .q (.ld (S.lv)), .q .p, .q (.run ((Po (bof S.lv) (oof S.lv + i * 8)))), .q .p, .q (.lds [I6 x.kd, I6 x.fr, I6 x.to, I6 x.mi, I6 x.ma, x.ls]), .e, .q .p, .q .p] [0, 0, 0, 0, 0, 0, 0, 0, 0, 0, 0, 0, 0, 0, 0, 0, 0, 0, 0, 0, 0, 0, 0, 0, 0, 0, 0, 0, 0, 0, 0, 0, 0, 0, 0, 0, 0, 0, 0, 0, 0, 0, 1, 1] [0, 0, 0, 0, 0, 0, 0, 0, 0, 0, 0, 0, 0, 0, 0, 0, 0, 0, 0, 0, 0, 0, 0, 0, 0, 0, 0, 0, 0, 0, 0, 0, 0, 0, 0, 0, 0, 0, 0, 0, 0, 0, 1, 1] [0, 1, 3, 3, 15, 31, 63, 3, 131, 3, 899, 1923, 3971, 8191, 16383, 32767, 65535, 65535, 262143, 524287, 1048575, 65535, 2162687, 65535, 14745599, 31522815, 65077247, 134217727, 268435455, 536870911, 1073741823, 1073741823, 4294967295, 8589934591, 17179869183, 1073741823, 35433480191, 1073741823, 241591910399, 516469817343, 1066225631231, 2199023255551, 4398046511103, 8796093022207] [41] [(41, 0)] 1 (fun wc44 => ([(2, (Pv w.heap.size)), (3, (Pv w2.heap.size)), (5, Sl gl (S.lx.length + 1) (S.lx.length + 1)), (6, Sl gn (S.ns.length + 1) (S.ns.length + 1)), (7, Sl gp (S.ps.length + 1) (S.ps.length + 1)), (9, I6 i), (98, .bool (decide ((↑i : Int) < ↑S.lx.length))), (8, .bool true), (101, .bool true), (102, .bool true), (103, Sl gl (S.lx.length + 1) (S.lx.length + 1)), (104, I6 i), (105, (Po gl (0 + i * 8))), (106, (Po gl (0 + i * 8))), (107, .string lr.nm), (108, (Pv w2.heap.size)), (109, S.lv), (110, I6 i), (111, (Po (bof S.lv) (oof S.lv + i * 8))), (112, (Po (bof S.lv) (oof S.lv + i * 8))), (113, .string lr.nm), (114, .bool true), (115, .bool true), (116, .bool true), (117, Sl gl (S.lx.length + 1) (S.lx.length + 1)), (118, I6 i), (119, (Po gl (0 + i * 8))), (120, (Po gl (0 + i * 8 + 1))), (121, .bool lr.tr), (122, (Pv w2.heap.size)), (123, S.lv), (124, I6 i), (125, (Po (bof S.lv) (oof S.lv + i * 8))), (126, (Po (bof S.lv) (oof S.lv + i * 8 + 1))), (127, .bool lr.tr), (128, .bool true), (129, .bool true), (130, .bool true), (131, Sl gl (S.lx.length + 1) (S.lx.length + 1)), (132, I6 i), (133, (Po gl (0 + i * 8))), (134, (Po gl (0 + i * 8 + 2))), (135, .agg #[I6 x.kd, I6 x.fr, I6 x.to, I6 x.mi, I6 x.ma, lq.ls]), (136, (Pv w2.heap.size)), (137, S.lv), (138, I6 i), (139, (Po (bof S.lv) (oof S.lv + i * 8))), (140, (Po (bof S.lv) (oof S.lv + i * 8 + 2))), (141, .agg #[I6 x.kd, I6 x.fr, I6 x.to, I6 x.mi, I6 x.ma, x.ls]), (142, .bool true), (143, .bool true)] : Fm)) (fun wc44 => [wl34.drew, wc44]) (wl34.drew) (fun e wc44 => hAt [True, (Ext [] wl34.drew wc44) ∧ True] e) (fun wc44 w' => [(4, [Rv (Instr.indexAt 22 (Sl gl (S.lx.length + 1) (S.lx.length + 1)) (I6 i)) ((Po gl (0 + i * 8))) w']), (6, [w'.cell? ⟨gl, 0 + i * 8, none⟩ = some (.string lr.nm)]), (8, [w'.cell? ⟨w2.heap.size, 0, none⟩ = some (S.lv)]), (10, [Rv (Instr.indexAt 22 (S.lv) (I6 i)) ((Po (bof S.lv) (oof S.lv + i * 8))) w']), (12, [w'.cell? ⟨bof S.lv, oof S.lv + i * 8, none⟩ = some (.string lr.nm)]), (13, [Rv (do eqGuard .eql 9 (.tmp 107) (.tmp 113) (.string lr.nm) (.string lr.nm); binOp .eql 9 (.string lr.nm) (.string lr.nm)) (.bool true) w']), (18, [Rv (Instr.indexAt 22 (Sl gl (S.lx.length + 1) (S.lx.length + 1)) (I6 i)) ((Po gl (0 + i * 8))) w']), (20, [w'.cell? ⟨gl, 0 + i * 8 + 1, none⟩ = some (.bool lr.tr)]), (22, [w'.cell? ⟨w2.heap.size, 0, none⟩ = some (S.lv)]), (24, [Rv (Instr.indexAt 22 (S.lv) (I6 i)) ((Po (bof S.lv) (oof S.lv + i * 8))) w']), (26, [w'.cell? ⟨bof S.lv, oof S.lv + i * 8 + 1, none⟩ = some (.bool lr.tr)]), (27, [Value.bool ((lr.tr == lr.tr)) = .bool true]), (32, [Rv (Instr.indexAt 22 (Sl gl (S.lx.length + 1) (S.lx.length + 1)) (I6 i)) ((Po gl (0 + i * 8))) w']), (34, [w'.cell? ⟨gl, 0 + i * 8 + 2, none⟩ = some (I6 x.kd), w'.cell? ⟨gl, 0 + i * 8 + 2 + 1, none⟩ = some (I6 x.fr), w'.cell? ⟨gl, 0 + i * 8 + 2 + 2, none⟩ = some (I6 x.to), w'.cell? ⟨gl, 0 + i * 8 + 2 + 3, none⟩ = some (I6 x.mi), w'.cell? ⟨gl, 0 + i * 8 + 2 + 4, none⟩ = some (I6 x.ma), w'.cell? ⟨gl, 0 + i * 8 + 2 + 5, none⟩ = some (lq.ls)]), (36, [w'.cell? ⟨w2.heap.size, 0, none⟩ = some (S.lv)]), (38, [Rv (Instr.indexAt 22 (S.lv) (I6 i)) ((Po (bof S.lv) (oof S.lv + i * 8))) w']), (40, [w'.cell? ⟨bof S.lv, oof S.lv + i * 8 + 2, none⟩ = some (I6 x.kd), w'.cell? ⟨bof S.lv, oof S.lv + i * 8 + 2 + 1, none⟩ = some (I6 x.fr), w'.cell? ⟨bof S.lv, oof S.lv + i * 8 + 2 + 2, none⟩ = some (I6 x.to), w'.cell? ⟨bof S.lv, oof S.lv + i * 8 + 2 + 3, none⟩ = some (I6 x.mi), w'.cell? ⟨bof S.lv, oof S.lv + i * 8 + 2 + 4, none⟩ = some (I6 x.ma), w'.cell? ⟨bof S.lv, oof S.lv + i * 8 + 2 + 5, none⟩ = some (x.ls)])]) wl34.drew [2, 3, 5, 6, 7, 9, 98] [8] hS (fun wc44 _ => by kernel_rfl) trivial ?_ ?_ ?_
  ·rintro e wc44 w' hw hH
   refine (.c ?_ (.c ?_ (.c ?_ (.c ?_ (.c ?_ (.c ?_ (.c ?_ (.c ?_ (.c ?_ (.c ?_ (.c ?_ (.c ?_ (.c ?_ (.c ?_ (.c ?_ (.c ?_ (.c ?_ .nil)))))))))))))))))
   ·intro h1 h2
    obtain rfl := Nat.le_antisymm h2 h1
    have hwe : wl34.drew = w' := hwz hw
    subst hwe
    clear hH
    exact (.c (ixs 100 8 i) .nil)
   ·intro h1 h2
    obtain rfl := Nat.le_antisymm h2 h1
    have hwe : wl34.drew = w' := hwz hw
    subst hwe
    clear hH
    exact (.c ((hB35.drew : OwnR wl34.drew 100 8 gl (S.lx.length + 1) (S.lx.length + 1) (lcells ls ++ markL)).cellAt _ (lrow_at (k := 0) hlq hqc (by omega))) .nil)
   ·intro h1 h2
    obtain rfl := Nat.le_antisymm h2 h1
    have hwe : wl34.drew = w' := hwz hw
    subst hwe
    clear hH
    exact (.c ((hB39.drew : Blk wl34.drew w2.heap.size 26 (S.ca)).cell 0 rfl) .nil)
   ·intro h1 h2
    obtain rfl := Nat.le_antisymm h2 h1
    have hwe : wl34.drew = w' := hwz hw
    subst hwe
    clear hH
    exact (.c (ixr 100 i hG.lex) .nil)
   ·intro h1 h2
    obtain rfl := Nat.le_antisymm h2 h1
    have hwe : wl34.drew = w' := hwz hw
    subst hwe
    clear hH
    exact (.c ((hG.lex.ext0 ((hbl34.trans0 hXl34).trans0 (by first | exact (Ext.refl [] _).drew | exact Ext.refl [] _))).cellAt (i * 8 + 0) (by omega) (lcells_is (i := 0) hlr hlc (by omega))) .nil)
   ·intro h1 h2
    obtain rfl := Nat.le_antisymm h2 h1
    have hwe : wl34.drew = w' := hwz hw
    subst hwe
    clear hH
    exact (.c (bin_str_eql (bytes_beq _)) .nil)
   ·intro h1 h2
    obtain rfl := Nat.le_antisymm h2 h1
    have hwe : wl34.drew = w' := hwz hw
    subst hwe
    clear hH
    exact (.c (ixs 100 8 i) .nil)
   ·intro h1 h2
    obtain rfl := Nat.le_antisymm h2 h1
    have hwe : wl34.drew = w' := hwz hw
    subst hwe
    clear hH
    exact (.c ((hB35.drew : OwnR wl34.drew 100 8 gl (S.lx.length + 1) (S.lx.length + 1) (lcells ls ++ markL)).cellAt _ (lrow_at (k := 1) hlq hqc (by omega))) .nil)
   ·intro h1 h2
    obtain rfl := Nat.le_antisymm h2 h1
    have hwe : wl34.drew = w' := hwz hw
    subst hwe
    clear hH
    exact (.c ((hB39.drew : Blk wl34.drew w2.heap.size 26 (S.ca)).cell 0 rfl) .nil)
   ·intro h1 h2
    obtain rfl := Nat.le_antisymm h2 h1
    have hwe : wl34.drew = w' := hwz hw
    subst hwe
    clear hH
    exact (.c (ixr 100 i hG.lex) .nil)
   ·intro h1 h2
    obtain rfl := Nat.le_antisymm h2 h1
    have hwe : wl34.drew = w' := hwz hw
    subst hwe
    clear hH
    exact (.c ((hG.lex.ext0 ((hbl34.trans0 hXl34).trans0 (by first | exact (Ext.refl [] _).drew | exact Ext.refl [] _))).cellAt (i * 8 + 1) (by omega) (lcells_is (i := 1) hlr hlc (by omega))) .nil)
   ·intro h1 h2
    obtain rfl := Nat.le_antisymm h2 h1
    have hwe : wl34.drew = w' := hwz hw
    subst hwe
    clear hH
    exact (.c ((by simp)) .nil)
   ·intro h1 h2
    obtain rfl := Nat.le_antisymm h2 h1
    have hwe : wl34.drew = w' := hwz hw
    subst hwe
    clear hH
    exact (.c (ixs 100 8 i) .nil)
   ·intro h1 h2
    obtain rfl := Nat.le_antisymm h2 h1
    have hwe : wl34.drew = w' := hwz hw
    subst hwe
    clear hH
    exact (.c ((hB35.drew : OwnR wl34.drew 100 8 gl (S.lx.length + 1) (S.lx.length + 1) (lcells ls ++ markL)).cellAt _ (lrow_at (k := 2) hlq hqc (by omega))) (.c ((hB35.drew : OwnR wl34.drew 100 8 gl (S.lx.length + 1) (S.lx.length + 1) (lcells ls ++ markL)).cellAt _ (lrow_at (k := 3) hlq hqc (by omega))) (.c ((hB35.drew : OwnR wl34.drew 100 8 gl (S.lx.length + 1) (S.lx.length + 1) (lcells ls ++ markL)).cellAt _ (lrow_at (k := 4) hlq hqc (by omega))) (.c ((hB35.drew : OwnR wl34.drew 100 8 gl (S.lx.length + 1) (S.lx.length + 1) (lcells ls ++ markL)).cellAt _ (lrow_at (k := 5) hlq hqc (by omega))) (.c ((hB35.drew : OwnR wl34.drew 100 8 gl (S.lx.length + 1) (S.lx.length + 1) (lcells ls ++ markL)).cellAt _ (lrow_at (k := 6) hlq hqc (by omega))) (.c ((hB35.drew : OwnR wl34.drew 100 8 gl (S.lx.length + 1) (S.lx.length + 1) (lcells ls ++ markL)).cellAt _ (lrow_at (k := 7) hlq hqc (by omega))) .nil))))))
   ·intro h1 h2
    obtain rfl := Nat.le_antisymm h2 h1
    have hwe : wl34.drew = w' := hwz hw
    subst hwe
    clear hH
    exact (.c ((hB39.drew : Blk wl34.drew w2.heap.size 26 (S.ca)).cell 0 rfl) .nil)
   ·intro h1 h2
    obtain rfl := Nat.le_antisymm h2 h1
    have hwe : wl34.drew = w' := hwz hw
    subst hwe
    clear hH
    exact (.c (ixr 100 i hG.lex) .nil)
   ·intro h1 h2
    obtain rfl := Nat.le_antisymm h2 h1
    have hwe : wl34.drew = w' := hwz hw
    subst hwe
    clear hH
    exact (.c ((hG.lex.ext0 ((hbl34.trans0 hXl34).trans0 (by first | exact (Ext.refl [] _).drew | exact Ext.refl [] _))).cellAt (i * 8 + 2) (by omega) (lcells_is (i := 2) hlr hlc (by omega))) (.c ((hG.lex.ext0 ((hbl34.trans0 hXl34).trans0 (by first | exact (Ext.refl [] _).drew | exact Ext.refl [] _))).cellAt (i * 8 + 3) (by omega) (lcells_is (i := 3) hlr hlc (by omega))) (.c ((hG.lex.ext0 ((hbl34.trans0 hXl34).trans0 (by first | exact (Ext.refl [] _).drew | exact Ext.refl [] _))).cellAt (i * 8 + 4) (by omega) (lcells_is (i := 4) hlr hlc (by omega))) (.c ((hG.lex.ext0 ((hbl34.trans0 hXl34).trans0 (by first | exact (Ext.refl [] _).drew | exact Ext.refl [] _))).cellAt (i * 8 + 5) (by omega) (lcells_is (i := 5) hlr hlc (by omega))) (.c ((hG.lex.ext0 ((hbl34.trans0 hXl34).trans0 (by first | exact (Ext.refl [] _).drew | exact Ext.refl [] _))).cellAt (i * 8 + 6) (by omega) (lcells_is (i := 6) hlr hlc (by omega))) (.c ((hG.lex.ext0 ((hbl34.trans0 hXl34).trans0 (by first | exact (Ext.refl [] _).drew | exact Ext.refl [] _))).cellAt (i * 8 + 7) (by omega) (lcells_is (i := 7) hlr hlc (by omega))) .nil))))))
  ·refine (.c ?eq45_41 .nil)
   ·rintro wc44 hH
    clear hH
    refine eff_gh (wl34.drew) (by kernel_rfl) ?_
    refine upon_call (f := 65) (vs := [.agg #[I6 x.kd, I6 x.fr, I6 x.to, I6 x.mi, I6 x.ma, lq.ls], .agg #[I6 x.kd, I6 x.fr, I6 x.to, I6 x.mi, I6 x.ma, x.ls]]) (cap := #[]) (d := (some 142)) (by kernel_rfl) Tryd.call65 #[.agg #[I6 x.kd, I6 x.fr, I6 x.to, I6 x.mi, I6 x.ma, lq.ls], .agg #[I6 x.kd, I6 x.fr, I6 x.to, I6 x.mi, I6 x.ma, x.ls]] (by kernel_rfl) (KeptExpr_any hxo ((hbl34.trans0 hXl34).trans0 ((Ext.refl [] _).drew)) (hqT.ext0 ((hE25.trans0 hXl34).trans0 ((Ext.refl [] _).drew)))) ?_
    rintro _ wc44 ⟨rfl, hEc44⟩
    exact ⟨_, rfl, ⟨wc44, by kernel_rfl, by kernel_rfl, by kernel_rfl, ⟨hEc44, trivial⟩⟩⟩
  rintro wc44 a w46 hS hw47 hH
  obtain ⟨hEc44, _⟩ := hH
  replace hw47 : w46 = wc44 := hw47.trans (by kernel_rfl)
  have hE53 : Ext [] w13 w46 := by rw [hw47]; exact (hXl34.drew).trans0 hEc44
  replace hS := hS.kp [(2, (Pv w.heap.size)), (3, (Pv w2.heap.size)), (5, Sl gl (S.lx.length + 1) (S.lx.length + 1)), (6, Sl gn (S.ns.length + 1) (S.ns.length + 1)), (7, Sl gp (S.ps.length + 1) (S.ps.length + 1)), (9, I6 i), (98, .bool (decide ((↑i : Int) < ↑S.lx.length))), (8, .bool true)]
  refine inBlock_normal <| hK43 _ _ <| rgn 3 <| sd ww [.p, .as (I6 (↑i + 1)), .p] [_] [(9, I6 (↑i + 1))] [] 3 0 hS (as6 (↑i + 1)) fun a hS => seg_end ?_
  exact ⟨i + 1, ⟨hS.kp [(2, (Pv w.heap.size)), (3, (Pv w2.heap.size)), (5, Sl gl (S.lx.length + 1) (S.lx.length + 1)), (6, Sl gn (S.ns.length + 1) (S.ns.length + 1)), (7, Sl gp (S.ps.length + 1) (S.ps.length + 1)), (8, .bool true), (9, I6 (↑i + 1))], hE53, by omega⟩, by omega⟩
 ·
  replace hb42 := of_decide_eq_false hb42
  have hEl34 : Ext [] w wl34 := hE25.trans0 hXl34
  refine xt2 <| hK32 _ _ <| sq fun K54 hK54 => sdq 1 [.p] [] [(10, I6 0)] [] hS .nil fun a hS => wpIn_block ?_
  have hbl56 := (hb.trans0 hEl34)
  refine loop_ghost (fun (i : Nat) a' w' => St 244 [] [(2, (Pv w.heap.size)), (3, (Pv w2.heap.size)), (6, Sl gn (S.ns.length + 1) (S.ns.length + 1)), (7, Sl gp (S.ps.length + 1) (S.ps.length + 1)), (8, .bool true), (10, I6 i)] a' ∧ Ext [] wl34 w' ∧ i ≤ S.ns.length) (fun (i : Nat) => S.ns.length - i) 0 ⟨hS.keepTo [2, 3, 6, 7, 8, 10] (by kernel_rfl), Ext.refl _ _, by omega⟩ ?_
  rintro i a wl56 ⟨hS, hXl56, hi⟩
  have hB58 := hB36.ext hXl56 (by simp)
  have hB59 := hB37.ext hXl56 (by simp)
  have hB61 := hB39.ext hXl56 (by simp)
  refine sq fun K62 hK62 => sdq 5 [.p, .p, .ld (S.nv), .run (I6 S.ns.length), .p] [_, Rv (Builtin.len_ #[23] 3 #[S.nv]) (I6 S.ns.length) wl56] [(148, .bool (decide ((↑i : Int) < ↑S.ns.length)))] [] hS (hB61.k 1 (.c (rlr 9 hG.names) .nil)) fun a hS => ?_
  refine cond_b hS rfl (fun hb64 => ?_) (fun hb64 => ?_)
  ·
   replace hb64 := of_decide_eq_true hb64
   obtain ⟨nm, hnm⟩ : ∃ nm, S.ns[i]? = some nm := gE
   refine wpIn_skip <| hK62 _ _ <| sq fun K65 hK65 => wpIn_block ?_
   refine fn3 [.q .p, .q .p, .q .p, .q .p, .q (.run ((Po gn (0 + i * 1)))), .q (.ld (.string nm)), .q .p, .q (.ld (S.nv)), .q .p, .q (.run ((Po (bof S.nv) (oof S.nv + i * 1)))), .q (.ld (.string nm)), .q (.run (.bool true)), .q .p, .q .p] [0, 0, 0, 0, 0, 0, 0, 0, 0, 0, 0, 0, 0, 0] [0, 0, 0, 0, 0, 0, 0, 0, 0, 0, 0, 0, 0, 0] [0, 1, 3, 3, 15, 31, 3, 67, 3, 451, 963, 2047, 4095, 8191] [] 0 ([(2, (Pv w.heap.size)), (3, (Pv w2.heap.size)), (6, Sl gn (S.ns.length + 1) (S.ns.length + 1)), (7, Sl gp (S.ps.length + 1) (S.ps.length + 1)), (10, I6 i), (148, .bool (decide ((↑i : Int) < ↑S.ns.length))), (8, .bool true), (151, .bool true), (152, .bool true), (153, Sl gn (S.ns.length + 1) (S.ns.length + 1)), (154, I6 i), (155, (Po gn (0 + i * 1))), (156, .string nm), (157, (Po w2.heap.size 1)), (158, S.nv), (159, I6 i), (160, (Po (bof S.nv) (oof S.nv + i * 1))), (161, .string nm), (162, .bool true), (163, .bool true)]) [wl56.drew] wl56.drew (fun w' => [(4, [Rv (Instr.indexAt 23 (Sl gn (S.ns.length + 1) (S.ns.length + 1)) (I6 i)) ((Po gn (0 + i * 1))) w']), (5, [w'.cell? ⟨gn, 0 + i * 1, none⟩ = some (.string nm)]), (7, [w'.cell? ⟨w2.heap.size, 1, none⟩ = some (S.nv)]), (9, [Rv (Instr.indexAt 23 (S.nv) (I6 i)) ((Po (bof S.nv) (oof S.nv + i * 1))) w']), (10, [w'.cell? ⟨bof S.nv, oof S.nv + i * 1, none⟩ = some (.string nm)]), (11, [Rv (do eqGuard .eql 9 (.tmp 156) (.tmp 161) (.string nm) (.string nm); binOp .eql 9 (.string nm) (.string nm)) (.bool true) w'])]) [2, 3, 6, 7, 10, 148] [8] hS (fun _ => by kernel_rfl) ?_ ?_ ?_
   ·intro e w' hw
    refine (.c ?_ (.c ?_ (.c ?_ (.c ?_ (.c ?_ (.c ?_ .nil))))))
    ·exact fun _ _ => (.c (ixs 9 1 i) .nil)
    ·intro h1 h2
     obtain rfl := Nat.le_antisymm h2 h1
     obtain rfl : w' = wl56.drew := hw.trans (by kernel_rfl)
     exact (.c ((hB58.drew : OwnR wl56.drew 9 1 gn (S.ns.length + 1) (S.ns.length + 1) (ncells S.ns ++ [.string mk4])).cellAt _ ((row_left (nc_at hnm)))) .nil)
    ·intro h1 h2
     obtain rfl := Nat.le_antisymm h2 h1
     obtain rfl : w' = wl56.drew := hw.trans (by kernel_rfl)
     exact (.c ((hB61.drew : Blk wl56.drew w2.heap.size 26 (S.ca)).cell 1 rfl) .nil)
    ·exact fun _ _ => (.c (ixr 9 i hG.names) .nil)
    ·intro h1 h2
     obtain rfl := Nat.le_antisymm h2 h1
     obtain rfl : w' = wl56.drew := hw.trans (by kernel_rfl)
     exact (.c ((hG.names.ext0 ((hbl56.trans0 hXl56).trans0 (by first | exact (Ext.refl [] _).drew | exact Ext.refl [] _))).cellAt (i * 1) (by omega) (nc_at hnm)) .nil)
    ·exact fun _ _ => (.c (bin_str_eql (bytes_beq _)) .nil)
   ·refine .nil
   rintro a w67 hS hw68
   replace hw68 : w67 = wl56.drew := hw68.trans (by kernel_rfl)
   have hE74 : Ext [] wl34 w67 := by rw [hw68]; exact hXl56.drew
   replace hS := hS.kp [(2, (Pv w.heap.size)), (3, (Pv w2.heap.size)), (6, Sl gn (S.ns.length + 1) (S.ns.length + 1)), (7, Sl gp (S.ps.length + 1) (S.ps.length + 1)), (10, I6 i), (148, .bool (decide ((↑i : Int) < ↑S.ns.length))), (8, .bool true)]
   refine inBlock_normal <| hK65 _ _ <| rgn 3 <| sd ww [.p, .as (I6 (↑i + 1)), .p] [_] [(10, I6 (↑i + 1))] [] 3 0 hS (as6 (↑i + 1)) fun a hS => seg_end ?_
   exact ⟨i + 1, ⟨hS.kp [(2, (Pv w.heap.size)), (3, (Pv w2.heap.size)), (6, Sl gn (S.ns.length + 1) (S.ns.length + 1)), (7, Sl gp (S.ps.length + 1) (S.ps.length + 1)), (8, .bool true), (10, I6 (↑i + 1))], hE74, by omega⟩, by omega⟩
  ·
   replace hb64 := of_decide_eq_false hb64
   have hEl56 : Ext [] w wl56 := hEl34.trans0 hXl56
   refine xt2 <| hK54 _ _ <| sq fun K75 hK75 => sdq 1 [.p] [] [(11, I6 0)] [] hS .nil fun a hS => wpIn_block ?_
   have hbl77 := (hb.trans0 hEl56)
   refine loop_ghost (fun (i : Nat) a' w' => St 244 [] [(2, (Pv w.heap.size)), (3, (Pv w2.heap.size)), (7, Sl gp (S.ps.length + 1) (S.ps.length + 1)), (8, .bool true), (11, I6 i)] a' ∧ Ext [] wl56 w' ∧ i ≤ S.ps.length) (fun (i : Nat) => S.ps.length - i) 0 ⟨hS.keepTo [2, 3, 7, 8, 11] (by kernel_rfl), Ext.refl _ _, by omega⟩ ?_
   rintro i a wl77 ⟨hS, hXl77, hi⟩
   have hB80 := hB59.ext hXl77 (by simp)
   have hB82 := hB61.ext hXl77 (by simp)
   refine sq fun K83 hK83 => sdq 5 [.p, .p, .ld (S.pv), .run (I6 S.ps.length), .p] [_, Rv (Builtin.len_ #[24] 3 #[S.pv]) (I6 S.ps.length) wl77] [(168, .bool (decide ((↑i : Int) < ↑S.ps.length)))] [] hS (hB82.k 3 (.c (rlr 73 hG.prods) .nil)) fun a hS => ?_
   refine cond_b hS rfl (fun hb85 => ?_) (fun hb85 => ?_)
   ·
    replace hb85 := of_decide_eq_true hb85
    obtain ⟨p, hpi⟩ : ∃ p, S.ps[i]? = some p := gE
    have hpm := List.mem_of_getElem? hpi
    have hrm := hG.rmax p hpm
    obtain ⟨q, hqi⟩ : ∃ q, qs[i]? = some q := gE
    obtain ⟨e1, e2, gq, e3, e4, e5, e6⟩ := hL.ps.is i p q hpi hqi
    have hqc : q.cells = [I6 p.l, Sl gq p.r.length (p.r.length + 1)] := by
     show [I6 q.l, Value.slice q.ra q.r.length q.rc] = _
     rw [e1, e2, e3, e4]
    refine wpIn_skip <| hK83 _ _ <| sq fun K86 hK86 => wpIn_block <| sq fun K87 hK87 => rgn 7 <| sd ww [.p, .ld (S.pv), .p, .run ((Po (bof S.pv) (oof S.pv + i * 2))), .lds [I6 p.l, p.rv]] [_, Rv (Instr.indexAt 24 (S.pv) (I6 i)) ((Po (bof S.pv) (oof S.pv + i * 2))) wl77, wl77.cell? ⟨bof S.pv, oof S.pv + i * 2, none⟩ = some (I6 p.l), wl77.cell? ⟨bof S.pv, oof S.pv + i * 2 + 1, none⟩ = some (p.rv)] [(175, .agg #[I6 p.l, p.rv])] [] 5 2 hS (hB82.k 3 (.c (ixr 73 i hG.prods) (.c ((hG.prods.ext0 (hbl77.trans0 hXl77)).cellAt (i * 2 + 0) (by omega) (pcells_at S.ps i 0 p hpi (by omega))) (.c ((hG.prods.ext0 (hbl77.trans0 hXl77)).cellAt (i * 2 + 1) (by omega) (pcells_at S.ps i 1 p hpi (by omega))) .nil)))) fun a hS => ebx 1 #[I6 0, .slice none 0 0] 73 (some 12) hS fun a w88 hw89 hS => ?_
    have hn92 := Nat.ne_of_lt hB80.lt
    have hn95 := Nat.ne_of_lt (e6.ext (hEl56.trans0 hXl77) (by simp)).lt
    have hB98 := OwnR.at' hw89 (hB80.alloc _)
    have hB101 := OwnR.at' hw89 ((e6.ext (hEl56.trans0 hXl77) (by simp)).alloc _)
    have hB102 := Blk.nw hw89
    have hs103 := hXl77.size
    have hE104 := hXl77.al hw89
    refine est 0 wl77.heap.size 0 [I6 p.l, p.rv] hS hB102 fun a w105 hw106 hS => ?_
    have hB109 := OwnR.at' hw106 (hB98.updNe (Ne.symm hn92) _ _)
    have hB112 := OwnR.at' hw106 (hB101.updNe (Ne.symm hn95) _ _)
    have hB113 : Blk w105 wl77.heap.size 73 (#[I6 p.l, p.rv]) := hB102.up hw106
    have hE114 := hE104.ui hw106 hs103
    refine sge hK87 <| sq fun K115 hK115 => ?_
    refine fn3 [.q .p, .q .p, .q .p, .q .p, .q (.run ((Po gp (0 + i * 2)))), .q .p, .q (.ld (I6 p.l)), .q .p, .q (.ld (I6 p.l)), .q (.as (.bool true)), .q .p, .q .p, .q .p, .q .p, .q (.run ((Po gp (0 + i * 2)))), .q .p, .q (.ld (Sl gq p.r.length (p.r.length + 1))), .q .p, .q .p, .q (.ld (p.rv)), .q (.run (I6 p.r.length)), .q (.as (.bool true)), .q .p, .q .p] [0, 0, 0, 0, 0, 0, 0, 0, 0, 0, 0, 0, 0, 0, 0, 0, 0, 0, 0, 0, 0, 0, 0, 0] [0, 0, 0, 0, 0, 0, 0, 0, 0, 0, 0, 0, 0, 0, 0, 0, 0, 0, 0, 0, 0, 0, 0, 0] [0, 1, 3, 3, 15, 31, 63, 3, 131, 511, 1023, 2047, 4095, 4095, 16383, 32767, 65535, 131071, 4095, 266239, 790527, 2097151, 4194303, 8388607] [] 0 ([(2, (Pv w.heap.size)), (3, (Pv w2.heap.size)), (7, Sl gp (S.ps.length + 1) (S.ps.length + 1)), (11, I6 i), (168, .bool (decide ((↑i : Int) < ↑S.ps.length))), (12, (Pv wl77.heap.size)), (8, .bool true), (176, .bool true), (177, .bool true), (178, Sl gp (S.ps.length + 1) (S.ps.length + 1)), (179, I6 i), (180, (Po gp (0 + i * 2))), (181, (Po gp (0 + i * 2))), (182, I6 p.l), (183, (Pv wl77.heap.size)), (184, I6 p.l), (185, .bool true), (186, .bool true), (187, .bool true), (188, Sl gp (S.ps.length + 1) (S.ps.length + 1)), (189, I6 i), (190, (Po gp (0 + i * 2))), (191, (Po gp (0 + i * 2 + 1))), (192, Sl gq p.r.length (p.r.length + 1)), (193, I6 p.r.length), (194, (Po wl77.heap.size 1)), (195, p.rv), (196, I6 p.r.length), (197, .bool true), (198, .bool true)]) [w105.drew] w105.drew (fun w' => [(4, [Rv (Instr.indexAt 24 (Sl gp (S.ps.length + 1) (S.ps.length + 1)) (I6 i)) ((Po gp (0 + i * 2))) w']), (6, [w'.cell? ⟨gp, 0 + i * 2, none⟩ = some (I6 p.l)]), (8, [w'.cell? ⟨wl77.heap.size, 0, none⟩ = some (I6 p.l)]), (9, [Value.bool (((p.l : Int) == p.l)) = .bool true]), (14, [Rv (Instr.indexAt 24 (Sl gp (S.ps.length + 1) (S.ps.length + 1)) (I6 i)) ((Po gp (0 + i * 2))) w']), (16, [w'.cell? ⟨gp, 0 + i * 2 + 1, none⟩ = some (Sl gq p.r.length (p.r.length + 1))]), (19, [w'.cell? ⟨wl77.heap.size, 1, none⟩ = some (p.rv)]), (20, [Rv (Builtin.len_ #[71] 3 #[p.rv]) (I6 p.r.length) w']), (21, [Value.bool (((↑p.r.length : Int) == ↑p.r.length)) = .bool true])]) [2, 3, 7, 11, 168, 12] [8] hS (fun _ => by kernel_rfl) ?_ ?_ ?_
    ·intro e w' hw
     refine (.c ?_ (.c ?_ (.c ?_ (.c ?_ (.c ?_ (.c ?_ (.c ?_ (.c ?_ (.c ?_ .nil)))))))))
     ·exact fun _ _ => (.c (ixs 73 2 i) .nil)
     ·intro h1 h2
      obtain rfl := Nat.le_antisymm h2 h1
      obtain rfl : w' = w105.drew := hw.trans (by kernel_rfl)
      exact (.c ((hB109.drew : OwnR w105.drew 73 2 gp (S.ps.length + 1) (S.ps.length + 1) (pcells qs ++ markP)).cellAt _ ((prow_at (k := 0) hqi hqc (by omega)))) .nil)
     ·intro h1 h2
      obtain rfl := Nat.le_antisymm h2 h1
      obtain rfl : w' = w105.drew := hw.trans (by kernel_rfl)
      exact (.c ((hB113.drew : Blk w105.drew wl77.heap.size 73 (#[I6 p.l, p.rv])).cell 0 rfl) .nil)
     ·exact fun _ _ => (.c (as_eq_t (rfl)) .nil)
     ·exact fun _ _ => (.c (ixs 73 2 i) .nil)
     ·intro h1 h2
      obtain rfl := Nat.le_antisymm h2 h1
      obtain rfl : w' = w105.drew := hw.trans (by kernel_rfl)
      exact (.c ((hB109.drew : OwnR w105.drew 73 2 gp (S.ps.length + 1) (S.ps.length + 1) (pcells qs ++ markP)).cellAt _ ((prow_at (k := 1) hqi hqc (by omega)))) .nil)
     ·intro h1 h2
      obtain rfl := Nat.le_antisymm h2 h1
      obtain rfl : w' = w105.drew := hw.trans (by kernel_rfl)
      exact (.c ((hB113.drew : Blk w105.drew wl77.heap.size 73 (#[I6 p.l, p.rv])).cell 1 rfl) .nil)
     ·exact fun _ _ => (.c (rlr 61 (hG.right p hpm)) .nil)
     ·exact fun _ _ => (.c (as_eq_t (rfl)) .nil)
    ·refine .nil
    rintro a w117 hS hw118
    replace hw118 : w117 = w105.drew := hw118.trans (by kernel_rfl)
    have hB121 := OwnR.at' hw118 (hB109.drew)
    have hB124 := OwnR.at' hw118 (hB112.drew)
    have hB125 := Blk.at' hw118 (hB113.drew)
    have hE126 : Ext [] wl56 w117 := by rw [hw118]; exact hE114.drew
    replace hS := hS.kp [(2, (Pv w.heap.size)), (3, (Pv w2.heap.size)), (7, Sl gp (S.ps.length + 1) (S.ps.length + 1)), (11, I6 i), (168, .bool (decide ((↑i : Int) < ↑S.ps.length))), (12, (Pv wl77.heap.size)), (8, .bool true)]
    refine hK115 _ _ <| sq fun K127 hK127 => sdq 1 [.p] [] [(13, I6 0)] [] hS .nil fun a hS => wpIn_block ?_
    have hbl129 : Ext [] w0 w117 := (hbl77.trans0 hE126)
    refine loop_ghost (fun (k : Nat) a' w' => St 244 [] [(2, (Pv w.heap.size)), (3, (Pv w2.heap.size)), (7, Sl gp (S.ps.length + 1) (S.ps.length + 1)), (11, I6 i), (12, (Pv wl77.heap.size)), (8, .bool true), (13, I6 k)] a' ∧ Ext [] w117 w' ∧ k ≤ p.r.length) (fun (k : Nat) => p.r.length - k) 0 ⟨hS.keepTo [2, 3, 7, 11, 12, 8, 13] (by kernel_rfl), Ext.refl _ _, by omega⟩ ?_
    rintro k a wl129 ⟨hS, hXl129, hk⟩
    have hB132 := hB121.ext hXl129 (by simp)
    have hB135 := hB124.ext hXl129 (by simp)
    have hB136 := hB125.ext hXl129 (by simp)
    refine sq fun K137 hK137 => sq fun K138 hK138 => ?_
    rcases (show (k < p.r.length) ∨ (p.r.length ≤ k) from by omega) with hkl | hkl
    ·
     obtain ⟨x, hxk⟩ : ∃ x, p.r[k]? = some x := gE
     have hxm := List.mem_of_getElem? hxk
     refine rgn 8 <| sd ww [.p, .p, .ld (p.rv), .run (I6 p.r.length), .as (.bool true), .p, .p, .p] [_, Rv (Builtin.len_ #[71] 3 #[p.rv]) (I6 p.r.length) wl129, Value.bool (decide ((↑k : Int) < ↑p.r.length)) = .bool true] [(206, .bool true)] [] 8 0 hS (hB136.k 1 (.c (rlr 61 (hG.right p hpm)) (.c (as_t (by omega)) .nil))) fun a hS => sge hK138 ?_
     refine cond_t hS rfl ?_
     refine wpIn_skip <| hK137 _ _ <| sq fun K139 hK139 => wpIn_block ?_
     refine fn3 [.q .p, .q .p, .q (.run ((Po gp (0 + i * 2)))), .q .p, .q (.ld (Sl gq p.r.length (p.r.length + 1))), .q .p, .q (.run ((Po gq (0 + k * 2)))), .q (.lds [I6 x.1, I6 x.2]), .q .p, .q (.ld (p.rv)), .q .p, .q (.run ((Po (bof p.rv) (oof p.rv + k * 2)))), .q (.lds [I6 x.1, I6 x.2]), .q (.run (.bool true)), .q .p] [0, 0, 0, 0, 0, 0, 0, 0, 0, 0, 0, 0, 0, 0, 0] [0, 0, 0, 0, 0, 0, 0, 0, 0, 0, 0, 0, 0, 0, 0] [0, 0, 3, 7, 15, 0, 63, 127, 0, 256, 0, 1792, 3840, 8191, 16383] [] 0 ([(2, (Pv w.heap.size)), (3, (Pv w2.heap.size)), (7, Sl gp (S.ps.length + 1) (S.ps.length + 1)), (11, I6 i), (12, (Pv wl77.heap.size)), (13, I6 k), (206, .bool true), (8, .bool true), (209, Sl gp (S.ps.length + 1) (S.ps.length + 1)), (210, I6 i), (211, (Po gp (0 + i * 2))), (212, (Po gp (0 + i * 2 + 1))), (213, Sl gq p.r.length (p.r.length + 1)), (214, I6 k), (215, (Po gq (0 + k * 2))), (216, .agg #[I6 x.1, I6 x.2]), (217, (Po wl77.heap.size 1)), (218, p.rv), (219, I6 k), (220, (Po (bof p.rv) (oof p.rv + k * 2))), (221, .agg #[I6 x.1, I6 x.2]), (222, .bool true)]) [wl129.drew] wl129.drew (fun w' => [(2, [Rv (Instr.indexAt 24 (Sl gp (S.ps.length + 1) (S.ps.length + 1)) (I6 i)) ((Po gp (0 + i * 2))) w']), (4, [w'.cell? ⟨gp, 0 + i * 2 + 1, none⟩ = some (Sl gq p.r.length (p.r.length + 1))]), (6, [Rv (Instr.indexAt 71 (Sl gq p.r.length (p.r.length + 1)) (I6 k)) ((Po gq (0 + k * 2))) w']), (7, [w'.cell? ⟨gq, 0 + k * 2, none⟩ = some (I6 x.1), w'.cell? ⟨gq, 0 + k * 2 + 1, none⟩ = some (I6 x.2)]), (9, [w'.cell? ⟨wl77.heap.size, 1, none⟩ = some (p.rv)]), (11, [Rv (Instr.indexAt 71 (p.rv) (I6 k)) ((Po (bof p.rv) (oof p.rv + k * 2))) w']), (12, [w'.cell? ⟨bof p.rv, oof p.rv + k * 2, none⟩ = some (I6 x.1), w'.cell? ⟨bof p.rv, oof p.rv + k * 2 + 1, none⟩ = some (I6 x.2)]), (13, [Rv (do eqGuard .eql 61 (.tmp 216) (.tmp 221) (.agg #[I6 x.1, I6 x.2]) (.agg #[I6 x.1, I6 x.2]); binOp .eql 61 (.agg #[I6 x.1, I6 x.2]) (.agg #[I6 x.1, I6 x.2])) (.bool true) w'])]) [2, 3, 7, 11, 12, 13, 206] [] hS (fun _ => by kernel_rfl) ?_ ?_ ?_
     ·intro e w' hw
      refine (.c ?_ (.c ?_ (.c ?_ (.c ?_ (.c ?_ (.c ?_ (.c ?_ (.c ?_ .nil))))))))
      ·exact fun _ _ => (.c (ixs 73 2 i) .nil)
      ·intro h1 h2
       obtain rfl := Nat.le_antisymm h2 h1
       obtain rfl : w' = wl129.drew := hw.trans (by kernel_rfl)
       exact (.c ((hB132.drew : OwnR wl129.drew 73 2 gp (S.ps.length + 1) (S.ps.length + 1) (pcells qs ++ markP)).cellAt _ ((prow_at (k := 1) hqi hqc (by omega)))) .nil)
      ·exact fun _ _ => (.c (ixs 61 2 k) .nil)
      ·intro h1 h2
       obtain rfl := Nat.le_antisymm h2 h1
       obtain rfl : w' = wl129.drew := hw.trans (by kernel_rfl)
       exact (.c ((hB135.drew : OwnR wl129.drew 61 2 gq (p.r.length + 1) (p.r.length + 1) (ycells p.r ++ markY)).cellAt _ ((yrow_at (k := 0) hxk (by omega)))) (.c ((hB135.drew : OwnR wl129.drew 61 2 gq (p.r.length + 1) (p.r.length + 1) (ycells p.r ++ markY)).cellAt _ ((yrow_at (k := 1) hxk (by omega)))) .nil))
      ·intro h1 h2
       obtain rfl := Nat.le_antisymm h2 h1
       obtain rfl : w' = wl129.drew := hw.trans (by kernel_rfl)
       exact (.c ((hB136.drew : Blk wl129.drew wl77.heap.size 73 (#[I6 p.l, p.rv])).cell 1 rfl) .nil)
      ·exact fun _ _ => (.c (ixr 61 k (hG.right p hpm)) .nil)
      ·intro h1 h2
       obtain rfl := Nat.le_antisymm h2 h1
       obtain rfl : w' = wl129.drew := hw.trans (by kernel_rfl)
       exact (.c (((hG.right p hpm).ext0 ((hbl129.trans0 hXl129).trans0 (by first | exact (Ext.refl [] _).drew | exact Ext.refl [] _))).cellAt (k * 2 + 0) (by omega) (ycells_at p.r k 0 x hxk (by omega))) (.c (((hG.right p hpm).ext0 ((hbl129.trans0 hXl129).trans0 (by first | exact (Ext.refl [] _).drew | exact Ext.refl [] _))).cellAt (k * 2 + 1) (by omega) (ycells_at p.r k 1 x hxk (by omega))) .nil))
      ·exact fun _ _ => (.c ((bin_agg_self (by kernel_rfl) (by kernel_rfl)).1) .nil)
     ·refine .nil
     rintro a w141 hS hw142
     replace hw142 : w141 = wl129.drew := hw142.trans (by kernel_rfl)
     have hE150 : Ext [] w117 w141 := by rw [hw142]; exact hXl129.drew
     replace hS := hS.kp [(2, (Pv w.heap.size)), (3, (Pv w2.heap.size)), (7, Sl gp (S.ps.length + 1) (S.ps.length + 1)), (11, I6 i), (12, (Pv wl77.heap.size)), (13, I6 k), (206, .bool true), (8, .bool true)]
     refine inBlock_normal <| hK139 _ _ <| rgn 3 <| sd ww [.p, .as (I6 (↑k + 1)), .p] [_] [(13, I6 (↑k + 1))] [] 3 0 hS (as6 (↑k + 1)) fun a hS => seg_end ?_
     exact ⟨k + 1, ⟨hS.kp [(2, (Pv w.heap.size)), (3, (Pv w2.heap.size)), (7, Sl gp (S.ps.length + 1) (S.ps.length + 1)), (11, I6 i), (12, (Pv wl77.heap.size)), (8, .bool true), (13, I6 (↑k + 1))], hE150, by omega⟩, by omega⟩
    ·
     have hEl129 : Ext [] wl56 wl129 := hE126.trans0 hXl129
     refine rgn 8 <| sd ww [.p, .p, .ld (p.rv), .run (I6 p.r.length), .as (.bool false), .p, .no, .p] [_, Rv (Builtin.len_ #[71] 3 #[p.rv]) (I6 p.r.length) wl129, Value.bool (decide ((↑k : Int) < ↑p.r.length)) = .bool false] [(206, .bool false)] [] 8 0 hS (hB136.k 1 (.c (rlr 61 (hG.right p hpm)) (.c (as_f (by omega)) .nil))) fun a hS => sge hK138 ?_
     refine cond_f hS rfl ?_
     refine xt2 <| hK127 _ _ ?_
     refine fn3 [.q .p, .q .p, .q .p, .q .p, .q (.run ((Po gp (0 + i * 2)))), .q .p, .q (.ld (Sl gq p.r.length (p.r.length + 1))), .q .p, .q (.ld (p.rv)), .q (.run (I6 p.r.length)), .q (.as (I6 ((p.r.length + 1 : Nat) : Int))), .q (.run (Sl gq (p.r.length + 1) (p.r.length + 1))), .q .p, .q (.ld (p.rv)), .q (.run (I6 p.r.length)), .q (.run ((Po gq (0 + p.r.length * 2)))), .q .p, .q (.ld (I6 77)), .q .p, .q .p, .q .p] [0, 0, 0, 0, 0, 0, 0, 0, 0, 0, 0, 0, 0, 0, 0, 0, 0, 0, 0, 0, 0] [0, 0, 0, 0, 0, 0, 0, 0, 0, 0, 0, 0, 0, 0, 0, 0, 0, 0, 0, 0, 0] [0, 1, 3, 3, 15, 31, 63, 3, 131, 387, 899, 2047, 3, 4099, 12291, 32767, 65535, 131071, 262143, 524287, 1048575] [] 0 ([(2, (Pv w.heap.size)), (3, (Pv w2.heap.size)), (7, Sl gp (S.ps.length + 1) (S.ps.length + 1)), (11, I6 i), (12, (Pv wl77.heap.size)), (13, I6 k), (206, .bool false), (8, .bool true), (223, .bool true), (224, .bool true), (225, Sl gp (S.ps.length + 1) (S.ps.length + 1)), (226, I6 i), (227, (Po gp (0 + i * 2))), (228, (Po gp (0 + i * 2 + 1))), (229, Sl gq p.r.length (p.r.length + 1)), (230, (Po wl77.heap.size 1)), (231, p.rv), (232, I6 p.r.length), (233, I6 ((p.r.length + 1 : Nat) : Int)), (234, Sl gq (p.r.length + 1) (p.r.length + 1)), (235, (Po wl77.heap.size 1)), (236, p.rv), (237, I6 p.r.length), (238, (Po gq (0 + p.r.length * 2))), (239, (Po gq (0 + p.r.length * 2))), (240, I6 77), (241, .bool true), (242, .bool true)]) [wl129.drew] wl129.drew (fun w' => [(4, [Rv (Instr.indexAt 24 (Sl gp (S.ps.length + 1) (S.ps.length + 1)) (I6 i)) ((Po gp (0 + i * 2))) w']), (6, [w'.cell? ⟨gp, 0 + i * 2 + 1, none⟩ = some (Sl gq p.r.length (p.r.length + 1))]), (8, [w'.cell? ⟨wl77.heap.size, 1, none⟩ = some (p.rv)]), (9, [Rv (Builtin.len_ #[71] 3 #[p.rv]) (I6 p.r.length) w']), (10, [Value.int .i64 (IntKind.i64.wrap (↑p.r.length + 1)) = I6 ((p.r.length + 1 : Nat) : Int)]), (11, [Rv (Instr.sliceAt 71 (Sl gq p.r.length (p.r.length + 1)) none (some (I6 ((p.r.length + 1 : Nat) : Int))) none) (Sl gq (p.r.length + 1) (p.r.length + 1)) w']), (13, [w'.cell? ⟨wl77.heap.size, 1, none⟩ = some (p.rv)]), (14, [Rv (Builtin.len_ #[71] 3 #[p.rv]) (I6 p.r.length) w']), (15, [Rv (Instr.indexAt 71 (Sl gq (p.r.length + 1) (p.r.length + 1)) (I6 p.r.length)) ((Po gq (0 + p.r.length * 2))) w']), (17, [w'.cell? ⟨gq, 0 + p.r.length * 2, none⟩ = some (I6 77)])]) [2, 3, 7, 11, 12, 13, 206] [8] hS (fun _ => by kernel_rfl) ?_ ?_ ?_
     ·intro e w' hw
      refine (.c ?_ (.c ?_ (.c ?_ (.c ?_ (.c ?_ (.c ?_ (.c ?_ (.c ?_ (.c ?_ (.c ?_ .nil))))))))))
      ·exact fun _ _ => (.c (ixs 73 2 i) .nil)
      ·intro h1 h2
       obtain rfl := Nat.le_antisymm h2 h1
       obtain rfl : w' = wl129.drew := hw.trans (by kernel_rfl)
       exact (.c ((hB132.drew : OwnR wl129.drew 73 2 gp (S.ps.length + 1) (S.ps.length + 1) (pcells qs ++ markP)).cellAt _ ((prow_at (k := 1) hqi hqc (by omega)))) .nil)
      ·intro h1 h2
       obtain rfl := Nat.le_antisymm h2 h1
       obtain rfl : w' = wl129.drew := hw.trans (by kernel_rfl)
       exact (.c ((hB136.drew : Blk wl129.drew wl77.heap.size 73 (#[I6 p.l, p.rv])).cell 1 rfl) .nil)
      ·exact fun _ _ => (.c (rlr 61 (hG.right p hpm)) .nil)
      ·exact fun _ _ => (.c ((by rw [show (↑p.r.length + 1 : Int) = ((p.r.length + 1 : Nat) : Int) from by omega]; exact as_i64 (by omega))) .nil)
      ·exact fun _ _ => (.c (sl_h (E := 61) (size := 2) (h := (p.r.length + 1)) (by kernel_rfl) (by kernel_rfl) rfl (by omega)) .nil)
      ·intro h1 h2
       obtain rfl := Nat.le_antisymm h2 h1
       obtain rfl : w' = wl129.drew := hw.trans (by kernel_rfl)
       exact (.c ((hB136.drew : Blk wl129.drew wl77.heap.size 73 (#[I6 p.l, p.rv])).cell 1 rfl) .nil)
      ·exact fun _ _ => (.c (rlr 61 (hG.right p hpm)) .nil)
      ·exact fun _ _ => (.c (ixs 61 2 p.r.length) .nil)
      ·intro h1 h2
       obtain rfl := Nat.le_antisymm h2 h1
       obtain rfl : w' = wl129.drew := hw.trans (by kernel_rfl)
       exact (.c ((hB135.drew : OwnR wl129.drew 61 2 gq (p.r.length + 1) (p.r.length + 1) (ycells p.r ++ markY)).cellAt _ ((row_mark (j := 0) (ycells_len _)))) .nil)
     ·refine .nil
     rintro a w152 hS hw153
     replace hw153 : w152 = wl129.drew := hw153.trans (by kernel_rfl)
     have hE161 : Ext [] wl56 w152 := by rw [hw153]; exact hEl129.drew
     replace hS := hS.kp [(2, (Pv w.heap.size)), (3, (Pv w2.heap.size)), (7, Sl gp (S.ps.length + 1) (S.ps.length + 1)), (11, I6 i), (12, (Pv wl77.heap.size)), (13, I6 k), (206, .bool false), (8, .bool true)]
     refine inBlock_normal <| hK86 _ _ <| rgn 3 <| sd ww [.p, .as (I6 (↑i + 1)), .p] [_] [(11, I6 (↑i + 1))] [] 3 0 hS (as6 (↑i + 1)) fun a hS => seg_end ?_
     exact ⟨i + 1, ⟨hS.kp [(2, (Pv w.heap.size)), (3, (Pv w2.heap.size)), (7, Sl gp (S.ps.length + 1) (S.ps.length + 1)), (8, .bool true), (11, I6 (↑i + 1))], hE161, by omega⟩, by omega⟩
   ·
    replace hb85 := of_decide_eq_false hb85
    have hEl77 : Ext [] w wl77 := hEl56.trans0 hXl77
    refine xt2 <| hK75 _ _ <| sdq 2 [.p, .p] [] [(4, .bool true)] [] hS .nil fun a hS => wpIn_ret ?_
    refine ret1 hS Tryd.results20 rfl ?_
    exact ⟨rfl, hEl77⟩
end Go.Proofs.YtkkpghlcmcaoiaaDoor
