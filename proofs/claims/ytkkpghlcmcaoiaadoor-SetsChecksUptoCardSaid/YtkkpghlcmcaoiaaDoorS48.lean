import Derived.Test.YtkkpghlcmcaoiaaDoorS47
import Derived.Test.YtkkpghlcmcaoiaaDoorS43
import Derived.Test.YtkkpghlcmcaoiaaDoorSa
import Derived.Test.YtkkpghlcmcaoiaaDoorS29
import Derived.Test.YtkkpghlcmcaoiaaDoorS21
namespace Go.Proofs.YtkkpghlcmcaoiaaDoor
open Go.Vc Go.Gm

theorem Lend_any2 {w0 w : World} {S : Sp} (hG : SpOk w0 S) (hb : Ext [] w0 w) (hX : ∃ xs, PatOk w0 S xs) : Calls Tryd.prog 13 #[.agg S.ca] w fun e w' => ∃ S2 : Sp, e = .returned (.agg #[S2.lv, S2.nv, I6 S2.st, S2.pv]) ∧ SpOk w' S2 ∧ Same S S2 ∧ (∀ w2, Ext [] w' w2 → Calls Tryd.prog 20 #[.agg #[S2.lv, S2.nv, I6 S2.st, S2.pv], .agg S.ca] w2 fun e w3 => e = .returned (.bool true) ∧ Ext [] w2 w3) ∧ Ext [] w w' := by
 obtain ⟨xs, hX⟩ := hX
 refine (Lend_any hG hb hX).mono ?_
 rintro e w' ⟨gl, gn, gp, ls, qs, rfl, hL, hE⟩
 refine ⟨lentS S gl gn gp ls qs, rfl, hL.sp hG, hL.same hX, fun w2 h2 => ?_, hE⟩
 have hk := Kept_any hG ((hb.trans0 hE).trans0 h2) hX (hL.ext0 h2)
 have hc := hL.ca
 unfold Sp.ca at hc
 rw [hc]; exact hk
theorem check_z {w0 w : World} {S : Sp} (hG : SpOk w0 S) (hb : Ext [] w0 w) {z : Int × Int} (hz : ChkR S z) : Calls Tryd.prog 36 #[.agg S.ca] w fun e w' => e = .returned (.agg #[I6 z.1, I6 z.2, .string ⟨#[]⟩]) ∧ Ext [] w w' := by
 refine (check_any hG hb).mono ?_
 rintro e w' ⟨z', rfl, h, hE⟩
 rw [h.same hz]; exact ⟨rfl, hE⟩
theorem Nullable_z {w0 w : World} {S : Sp} (hG : SpOk w0 S) (hb : Ext [] w0 w) {z : Int × Int} (hz : ChkR S z) (h0 : z.1 ≠ 0) : Calls Tryd.prog 14 #[.agg S.ca] w fun e w' => e = .returned (.tuple #[.slice none 0 0, .agg #[I6 z.1, I6 z.2, .string ⟨#[]⟩]]) ∧ Ext [] w w' := by
 refine (Nullable_any hG hb).mono ?_
 rintro e w' ⟨z', h, h1 | h1, hE⟩
 ·obtain rfl := h.same hz; exact ⟨h1.2, hE⟩
 ·obtain rfl := h.same hz; exact absurd h1.1 h0
theorem First_z {w0 w : World} {S : Sp} (hG : SpOk w0 S) (hb : Ext [] w0 w) (hT : Tab w0) {z : Int × Int} (hz : ChkR S z) (h0 : z.1 ≠ 0) : Calls Tryd.prog 15 #[.agg S.ca] w fun e w' => e = .returned (.tuple #[.slice none 0 0, .agg #[I6 z.1, I6 z.2, .string ⟨#[]⟩]]) ∧ Ext [] w w' := by
 refine (First_any hG hb hT).mono ?_
 rintro e w' ⟨z', h, h1 | h1, hE⟩
 ·obtain rfl := h.same hz; exact ⟨h1.2, hE⟩
 ·obtain rfl := h.same hz; exact absurd h1.1 h0
theorem Follow_z {w0 w : World} {S : Sp} (hG : SpOk w0 S) (hb : Ext [] w0 w) (hT : Tab w0) {z : Int × Int} (hz : ChkR S z) (h0 : z.1 ≠ 0) : Calls Tryd.prog 16 #[.agg S.ca] w fun e w' => e = .returned (.tuple #[.slice none 0 0, .agg #[I6 z.1, I6 z.2, .string ⟨#[]⟩]]) ∧ Ext [] w w' := by
 refine (Follow_any hG hb hT).mono ?_
 rintro e w' ⟨z', h, h1 | h1, hE⟩
 ·obtain rfl := h.same hz; exact ⟨h1.2, hE⟩
 ·obtain rfl := h.same hz; exact absurd h1.1 h0
theorem Yields_z {w0 w : World} {S : Sp} (hG : SpOk w0 S) (hb : Ext [] w0 w) {z : Int × Int} (hz : ChkR S z) (h0 : z.1 ≠ 0) : Calls Tryd.prog 17 #[.agg S.ca] w fun e w' => e = .returned (.tuple #[.slice none 0 0, .agg #[I6 z.1, I6 z.2, .string ⟨#[]⟩]]) ∧ Ext [] w w' := by
 refine (Yields_any hG hb).mono ?_
 rintro e w' ⟨z', h, h1 | h1, hE⟩
 ·obtain rfl := h.same hz; exact ⟨h1.2, hE⟩
 ·obtain rfl := h.same hz; exact absurd h1.1 h0
theorem Heads_z {w0 w : World} {S : Sp} (hG : SpOk w0 S) (hb : Ext [] w0 w) (hT : Tab w0) {z : Int × Int} (hz : ChkR S z) (h0 : z.1 ≠ 0) : Calls Tryd.prog 33 #[.agg S.ca, .slice none 0 0, .slice none 0 0] w fun e w' => e = .returned (.tuple #[.slice none 0 0, .agg #[I6 z.1, I6 z.2, .string ⟨#[]⟩]]) ∧ Ext [] w w' := by
 refine (Heads_any hG hb hT (r := []) (.inl ⟨_, _, rfl, rfl, rfl⟩) (by simp) (nn := 0) (ts := []) (.inl ⟨_, _, rfl, rfl, rfl⟩) (by simp)).mono ?_
 rintro e w' ⟨z', h, h1 | h1, hE⟩
 ·obtain rfl := h.same hz; exact ⟨h1.2, hE⟩
 ·obtain rfl := h.same hz; exact absurd h1.1 h0
theorem Check_z {w0 w : World} {S : Sp} (hG : SpOk w0 S) (hb : Ext [] w0 w) : Calls Tryd.prog 11 #[.agg S.ca] w fun e w' => ∃ z : Int × Int, e = .returned (.tuple #[I6 z.2, I6 z.1]) ∧ ChkR S z ∧ Ext [] w w' := by
 refine (Check_r hG hb).mono ?_
 rintro e w' ⟨z, h1, h2, h3⟩
 exact ⟨z, h2, h1, h3⟩
/-- specs, one behind the other -/
def scells (l : List Sp) : List Value := l.flatMap Sp.cells
theorem scells_at {l : List Sp} {j i : Nat} {x : Sp} (h : l[j]? = some x) (hi : i < 4) : (scells l)[j * 4 + i]? = x.cells[i]? := flat_at (k := 4) (fun _ => rfl) l j i x h hi

theorem fault_any {w : World} {z : Int × Int} (h : z.1 = 0 → z = (0, 0)) :
  Calls Tryd.prog 19 #[I6 z.2, I6 z.1] w fun e w' => e = .returned (.agg #[I6 z.1, I6 z.2, .string ⟨#[]⟩]) ∧ Ext [] w w' := by
 refine cbd 11 [(0, I6 z.2), (1, I6 z.1)] Tryd.func19 rfl fun a hS => ?_
 have hE0 : Ext [] w w := Ext.refl _ _
 refine sq fun K1 hK1 => rgn 1 <| ebx 0 #[I6 0, I6 0, .string ⟨#[]⟩] 34 (some 4) hS fun a w2 hw3 hS => ?_
 have hB4 := Blk.nw hw3
 have hs5 : w.heap.size ≤ w.heap.size := hE0.size
 have hE6 := hE0.al hw3
 refine seg_end <| hK1 _ _ <| sq fun K7 hK7 => sq fun K8 hK8 => ?_
 rcases (show (z.1 = 0) ∨ (z.1 ≠ 0) from by omega) with h0 | h0
 ·
  refine rgn 2 <| sd ww [.p, .as (.bool true)] [Value.bool (((z.1 : Int) == 0)) = .bool true] [(6, .bool true)] [] 2 0 hS (.cons (as_eq_t (by omega)) .nil) fun a hS => seg_end <| hK8 _ _ ?_
  refine cond_t hS rfl ?_
  refine sq fun K9 hK9 => rgn 2 <| sd ww [.p] [] [(7, .agg #[I6 0, I6 0, .string ⟨#[]⟩])] [] 1 1 hS .nil fun a hS => est 0 w.heap.size 0 [I6 0, I6 0, .string ⟨#[]⟩] hS hB4 fun a w10 hw11 hS => ?_
  have hB12 : Blk w10 w.heap.size 34 (#[I6 0, I6 0, .string ⟨#[]⟩]) := hB4.up hw11
  have hE13 := hE6.ui hw11 hs5
  refine seg_end <| hK9 _ _ <| wpIn_ret <| then_ret ?_
  refine retA1 hS Tryd.results19 (by kernel_rfl) (by kernel_rfl) rfl hB12 ?_
  exact ⟨by rw [h h0], hE13⟩
 ·
  refine rgn 2 <| sd ww [.p, .as (.bool false)] [Value.bool (((z.1 : Int) == 0)) = .bool false] [(6, .bool false)] [] 2 0 hS (.cons (as_eq_f (by omega)) .nil) fun a hS => seg_end <| hK8 _ _ ?_
  refine cond_f hS rfl ?_
  refine wpIn_skip <| hK7 _ _ <| sq fun K14 hK14 => rgn 4 <| sd ww [.p, .p, .p] [] [(10, .agg #[I6 z.1, I6 z.2, .string ⟨#[]⟩])] [] 3 1 hS .nil fun a hS => est 0 w.heap.size 0 [I6 z.1, I6 z.2, .string ⟨#[]⟩] hS hB4 fun a w15 hw16 hS => ?_
  have hB17 : Blk w15 w.heap.size 34 (#[I6 z.1, I6 z.2, .string ⟨#[]⟩]) := hB4.up hw16
  have hE18 := hE6.ui hw16 hs5
  refine seg_end <| hK14 _ _ <| wpIn_ret ?_
  refine retA1 hS Tryd.results19 (by kernel_rfl) (by kernel_rfl) rfl hB17 ?_
  exact ⟨rfl, hE18⟩

set_option maxHeartbeats 1000000 in
theorem SetsChecks_any {w0 w : World} (hb : Ext [] w0 w) (hT : Tab w0) {sv : Value} {Ss : List Sp} (hs : RdV w0 4 sv Ss.length (scells Ss)) (hGs : ∀ S ∈ Ss, SpOk w0 S ∧ ∃ xs, PatOk w0 S xs) (hm : Ss.length ≤ 1048576) :
  Calls Tryd.prog 8 #[sv] w fun e w' => e = .returned (.bool true) ∧ Ext [] w w' := by
 refine cbd 119 [(0, sv)] Tryd.func8 rfl fun a hS => ?_
 have hE0 : Ext [] w w := Ext.refl _ _
 refine sq fun K1 hK1 => rgn 1 <| sg ww [.p] [] [(0, sv), (2, .bool false)] 1 0 hS .nil fun a hS => seg_end <| hK1 _ _ <| sq fun K2 hK2 => sq fun K3 hK3 => rgn 1 <| sg ww [.p] [] [(0, sv), (2, .bool false), (3, I6 0)] 1 0 hS .nil fun a hS => seg_end <| hK3 _ _ <| wpIn_block ?_
 have hbl4 : Ext [] w0 w := (hb.trans0 hE0)
 refine loop_ghost (fun (i : Nat) a' w' => St 119 [] [(0, sv), (3, I6 ↑i)] a' ∧ Ext [] w w' ∧ i ≤ Ss.length) (fun (i : Nat) => Ss.length - i) 0 ⟨hS.keepTo [0, 3] (by kernel_rfl), Ext.refl _ _, by omega⟩ ?_
 rintro i a wl4 ⟨hS, hXl4, hi⟩
 refine sq fun K5 hK5 => sq fun K6 hK6 => rgn 4 <| sg ww [.p, .p, .run (I6 ↑Ss.length), .p] [Ru Tryd.prog (vS (Builtin.len_ #[83] 3 #[sv])) (I6 ↑Ss.length) wl4] [(0, sv), (3, I6 ↑i), (21, .bool (decide ((↑i : Int) < ↑Ss.length)))] 4 0 hS (.cons (rlr 26 hs) .nil) fun a hS => seg_end <| hK6 _ _ ?_
 refine cond_b hS rfl (fun hb7 => ?_) (fun hb7 => ?_)
 ·
  replace hb7 := of_decide_eq_true hb7
  obtain ⟨S, hSi⟩ : ∃ S, Ss[i]? = some S := ⟨_, List.getElem?_eq_getElem (by omega)⟩
  obtain ⟨hG, hX⟩ := hGs S (List.mem_of_getElem? hSi)
  refine wpIn_skip <| hK5 _ _ <| sq fun K8 hK8 => wpIn_block <| sq fun K9 hK9 => rgn 7 <| sd ww [.p, .p, .run ((Po (bof sv) (oof sv + i * 4))), .lds [S.lv, S.nv, I6 S.st, S.pv]] [Ru Tryd.prog (vS (Instr.indexAt 83 (sv) (I6 ↑i))) ((Po (bof sv) (oof sv + i * 4))) wl4, wl4.cell? ⟨bof sv, oof sv + i * 4, none⟩ = some (S.lv), wl4.cell? ⟨bof sv, oof sv + i * 4 + 1, none⟩ = some (S.nv), wl4.cell? ⟨bof sv, oof sv + i * 4 + 2, none⟩ = some (I6 S.st), wl4.cell? ⟨bof sv, oof sv + i * 4 + 3, none⟩ = some (S.pv)] [(27, .agg S.ca)] [] 4 3 hS (.cons (ixr 26 i hs) (.cons ((hs.ext0 (hbl4.trans0 hXl4)).cellAt (i * 4 + 0) (by omega) (scells_at (i := 0) hSi (by omega))) (.cons ((hs.ext0 (hbl4.trans0 hXl4)).cellAt (i * 4 + 1) (by omega) (scells_at (i := 1) hSi (by omega))) (.cons ((hs.ext0 (hbl4.trans0 hXl4)).cellAt (i * 4 + 2) (by omega) (scells_at (i := 2) hSi (by omega))) (.cons ((hs.ext0 (hbl4.trans0 hXl4)).cellAt (i * 4 + 3) (by omega) (scells_at (i := 3) hSi (by omega))) .nil))))) fun a hS => ecl 2 (some 28) hS Tryd.call13 #[.agg S.ca] (Lend_any2 hG (hbl4.trans0 hXl4) (hX.imp fun _ h => h)) ?_
  rintro _ wlt ⟨S2, rfl, hG2, hSm, hKp, hElt⟩
  refine ⟨_, rfl, fun a hS => ?_⟩
  have hE11 := hXl4.trans0 hElt
  have hbr12 : Ext [] w0 wlt := (hbl4.trans0 hE11)
  have hEr12 : Ext [] wlt wlt := Ext.refl _ _
  refine ebx 1 #[.slice none 0 0, .slice none 0 0, I6 0, .slice none 0 0] 26 (some 4) hS fun a w13 hw14 hS => ?_
  have hB15 := Blk.nw hw14
  have hs16 : wlt.heap.size ≤ wlt.heap.size := hEr12.size
  have hE17 := hEr12.al hw14
  refine est 0 wlt.heap.size 0 [S2.lv, S2.nv, I6 S2.st, S2.pv] hS hB15 fun a w18 hw19 hS => ?_
  have hB20 : Blk w18 wlt.heap.size 26 (#[S2.lv, S2.nv, I6 S2.st, S2.pv]) := hB15.up hw19
  have hE21 := hE17.ui hw19 hs16
  refine seg_end <| hK9 _ _ <| sq fun K22 hK22 => rgn 10 <| sd ww [.p, .p, .run ((Po (bof sv) (oof sv + i * 4))), .lds [S.lv, S.nv, I6 S.st, S.pv]] [Ru Tryd.prog (vS (Instr.indexAt 83 (sv) (I6 ↑i))) ((Po (bof sv) (oof sv + i * 4))) w18, w18.cell? ⟨bof sv, oof sv + i * 4, none⟩ = some (S.lv), w18.cell? ⟨bof sv, oof sv + i * 4 + 1, none⟩ = some (S.nv), w18.cell? ⟨bof sv, oof sv + i * 4 + 2, none⟩ = some (I6 S.st), w18.cell? ⟨bof sv, oof sv + i * 4 + 3, none⟩ = some (S.pv)] [(33, .agg S.ca)] [] 4 6 hS (.cons (ixr 26 i hs) (.cons ((hs.ext0 (hbr12.trans0 hE21)).cellAt (i * 4 + 0) (by omega) (scells_at (i := 0) hSi (by omega))) (.cons ((hs.ext0 (hbr12.trans0 hE21)).cellAt (i * 4 + 1) (by omega) (scells_at (i := 1) hSi (by omega))) (.cons ((hs.ext0 (hbr12.trans0 hE21)).cellAt (i * 4 + 2) (by omega) (scells_at (i := 2) hSi (by omega))) (.cons ((hs.ext0 (hbr12.trans0 hE21)).cellAt (i * 4 + 3) (by omega) (scells_at (i := 3) hSi (by omega))) .nil))))) fun a hS => ecl 5 (some 34) hS Tryd.call11 #[.agg S.ca] (Check_z hG (hbr12.trans0 hE21)) ?_
  rintro _ wc23 ⟨z23, rfl, hZ23, hEc23⟩
  refine ⟨_, rfl, fun a hS => ?_⟩
  have hB24 := hB20.ext hEc23 (by simp)
  have hE25 := hE21.trans0 hEc23
  have hZ2 := hSm.chk hZ23
  refine sd ww [.p, .p, .p, .p, .p] [] [(5, I6 z23.2), (6, I6 z23.1)] [] 10 0 hS .nil fun a hS => seg_end <| hK22 _ _ <| sq fun K26 hK26 => rgn 5 <| sd ww [.p, .p] [] [(37, I6 z23.2), (38, I6 z23.1)] [] 2 3 hS .nil fun a hS => ecl 2 (some 39) hS Tryd.call19 #[I6 z23.2, I6 z23.1] (fault_any hZ23.zero.1) ?_
  rintro _ wc27 ⟨rfl, hEc27⟩
  refine ⟨_, rfl, fun a hS => ?_⟩
  have hB28 := hB24.ext hEc27 (by simp)
  have hE29 := hE25.trans0 hEc27
  refine ebx 1 #[I6 0, I6 0, .string ⟨#[]⟩] 34 (some 7) hS fun a w30 hw31 hS => ?_
  have hn32 : wlt.heap.size ≠ wc27.heap.size := Nat.ne_of_lt hB28.lt
  have hB33 := Blk.at' hw31 (hB28.alloc _)
  have hB34 := Blk.nw hw31
  have hs35 : wlt.heap.size ≤ wc27.heap.size := hE29.size
  have hE36 := hE29.al hw31
  refine est 0 wc27.heap.size 0 [I6 z23.1, I6 z23.2, .string ⟨#[]⟩] hS hB34 fun a w37 hw38 hS => ?_
  have hB39 := Blk.at' hw38 (hB33.updNe (Ne.symm hn32) _ _)
  have hB40 : Blk w37 wc27.heap.size 34 (#[I6 z23.1, I6 z23.2, .string ⟨#[]⟩]) := hB34.up hw38
  have hE41 := hE36.ui hw38 hs35
  refine seg_end <| hK26 _ _ <| sq fun K42 hK42 => sq fun K43 hK43 => ?_
  refine region_gh2 (G := World) ww [.q (.lds [S2.lv, S2.nv, I6 S2.st, S2.pv]), .e, .q (.lds [I6 z23.1, I6 z23.2, .string ⟨#[]⟩]), .q (.run (.bool false))] [0, 0, 0, 1] [0, 0, 1, 1] [0, 1, 0, 7] [1] [(1, 0)] 1 (fun wc44 => ([(0, sv), (3, I6 ↑i), (21, .bool (decide ((↑i : Int) < ↑Ss.length))), (4, (Pv wlt.heap.size)), (5, I6 z23.2), (6, I6 z23.1), (7, (Pv wc27.heap.size)), (40, .agg #[S2.lv, S2.nv, I6 S2.st, S2.pv]), (41, .agg #[I6 z23.1, I6 z23.2, .string ⟨#[]⟩]), (42, .agg #[I6 z23.1, I6 z23.2, .string ⟨#[]⟩]), (43, .bool false)] : Fm)) (fun wc44 => [w37.drew, wc44]) (w37.drew) (fun e wc44 => hAt [True, (Ext [] w37.drew wc44) ∧ True] e) (fun wc44 w' => [(0, [w'.cell? ⟨wlt.heap.size, 0, none⟩ = some (S2.lv), w'.cell? ⟨wlt.heap.size, 1, none⟩ = some (S2.nv), w'.cell? ⟨wlt.heap.size, 2, none⟩ = some (I6 S2.st), w'.cell? ⟨wlt.heap.size, 3, none⟩ = some (S2.pv)]), (2, [w'.cell? ⟨wc27.heap.size, 0, none⟩ = some (I6 z23.1), w'.cell? ⟨wc27.heap.size, 1, none⟩ = some (I6 z23.2), w'.cell? ⟨wc27.heap.size, 2, none⟩ = some (.string ⟨#[]⟩)]), (3, [Ru Tryd.prog (vS (do eqGuard .neq 34 (.tmp 41) (.tmp 42) (.agg #[I6 z23.1, I6 z23.2, .string ⟨#[]⟩]) (.agg #[I6 z23.1, I6 z23.2, .string ⟨#[]⟩]); binOp .neq 34 (.agg #[I6 z23.1, I6 z23.2, .string ⟨#[]⟩]) (.agg #[I6 z23.1, I6 z23.2, .string ⟨#[]⟩]))) (.bool false) w'])]) w37.drew [0, 3, 21, 4, 5, 6, 7] [] hS (by kernel_rfl) (by kernel_rfl) (by kernel_rfl) (by kernel_rfl) (fun wc44 _ => by kernel_rfl) (by kernel_rfl) (by kernel_rfl) (by kernel_rfl) trivial ?_ (by kernel_rfl) ?_ ?_
  ·rintro e wc44 w' hw hH
   refine (.cons ?_ (.cons ?_ (.cons ?_ .nil)))
   ·intro h1 h2
    obtain rfl : e = 0 := Nat.le_antisymm h2 h1
    have hwe : w37.drew = w' := (hw.trans (by kernel_rfl)).symm
    subst hwe
    clear hH
    exact (.cons ((hB39.drew : Blk w37.drew wlt.heap.size 26 (#[S2.lv, S2.nv, I6 S2.st, S2.pv])).cell 0 rfl) (.cons ((hB39.drew : Blk w37.drew wlt.heap.size 26 (#[S2.lv, S2.nv, I6 S2.st, S2.pv])).cell 1 rfl) (.cons ((hB39.drew : Blk w37.drew wlt.heap.size 26 (#[S2.lv, S2.nv, I6 S2.st, S2.pv])).cell 2 rfl) (.cons ((hB39.drew : Blk w37.drew wlt.heap.size 26 (#[S2.lv, S2.nv, I6 S2.st, S2.pv])).cell 3 rfl) .nil))))
   ·intro h1 h2
    replace h1 : 0 ≤ e := h1
    replace h2 : e ≤ 1 := h2
    have he : e = 0 ∨ e = 1 := by omega
    rcases he with rfl | rfl
    ·have hwe : w37.drew = w' := (hw.trans (by kernel_rfl)).symm
     subst hwe
     clear hH
     exact (.cons ((hB40.drew : Blk w37.drew wc27.heap.size 34 (#[I6 z23.1, I6 z23.2, .string ⟨#[]⟩])).cell 0 rfl) (.cons ((hB40.drew : Blk w37.drew wc27.heap.size 34 (#[I6 z23.1, I6 z23.2, .string ⟨#[]⟩])).cell 1 rfl) (.cons ((hB40.drew : Blk w37.drew wc27.heap.size 34 (#[I6 z23.1, I6 z23.2, .string ⟨#[]⟩])).cell 2 rfl) .nil)))
    ·have hwe : wc44 = w' := (hw.trans (by kernel_rfl)).symm
     subst hwe
     obtain ⟨hEc44, _⟩ := hH
     exact (.cons (((hB40.drew : Blk w37.drew wc27.heap.size 34 (#[I6 z23.1, I6 z23.2, .string ⟨#[]⟩])).ext hEc44 (by simp) : Blk wc44 wc27.heap.size 34 (#[I6 z23.1, I6 z23.2, .string ⟨#[]⟩])).cell 0 rfl) (.cons (((hB40.drew : Blk w37.drew wc27.heap.size 34 (#[I6 z23.1, I6 z23.2, .string ⟨#[]⟩])).ext hEc44 (by simp) : Blk wc44 wc27.heap.size 34 (#[I6 z23.1, I6 z23.2, .string ⟨#[]⟩])).cell 1 rfl) (.cons (((hB40.drew : Blk w37.drew wc27.heap.size 34 (#[I6 z23.1, I6 z23.2, .string ⟨#[]⟩])).ext hEc44 (by simp) : Blk wc44 wc27.heap.size 34 (#[I6 z23.1, I6 z23.2, .string ⟨#[]⟩])).cell 2 rfl) .nil)))
   ·intro h1 h2
    obtain rfl : e = 1 := Nat.le_antisymm h2 h1
    have hwe : wc44 = w' := (hw.trans (by kernel_rfl)).symm
    subst hwe
    obtain ⟨hEc44, _⟩ := hH
    exact (.cons ((bin_agg_same (by kernel_rfl)).2) .nil)
  ·refine (.cons ?eq45_1 .nil)
   ·rintro wc44 hH
    clear hH
    refine eff_gh (w37.drew) (by kernel_rfl) ?_
    refine upon_call (f := 36) (vs := [.agg #[S2.lv, S2.nv, I6 S2.st, S2.pv]]) (cap := #[]) (d := (some 41)) (by kernel_rfl) Tryd.call36 #[.agg #[S2.lv, S2.nv, I6 S2.st, S2.pv]] (by kernel_rfl) (check_z (hG2.ext0 (hE41.trans0 ((Ext.refl [] _).drew))) (Ext.refl _ _) hZ2) ?_
    rintro _ wc44 ⟨rfl, hEc44⟩
    exact ⟨_, rfl, ⟨wc44, by kernel_rfl, by kernel_rfl, by kernel_rfl, ⟨hEc44, trivial⟩⟩⟩
  rintro wc44 a w46 hS hw47 hH
  obtain ⟨hEc44, _⟩ := hH
  replace hw47 : w46 = wc44 := hw47.trans (by kernel_rfl)
  have hB48 := Blk.at' hw47 ((hB39.drew : Blk w37.drew wlt.heap.size 26 (#[S2.lv, S2.nv, I6 S2.st, S2.pv])).ext hEc44 (by simp))
  have hB49 := Blk.at' hw47 ((hB40.drew : Blk w37.drew wc27.heap.size 34 (#[I6 z23.1, I6 z23.2, .string ⟨#[]⟩])).ext hEc44 (by simp))
  have hE50 : Ext [] wlt w46 := by rw [hw47]; exact (hE41.drew).trans0 hEc44
  replace hS := hS.kp [(0, sv), (3, I6 ↑i), (21, .bool (decide ((↑i : Int) < ↑Ss.length))), (4, (Pv wlt.heap.size)), (5, I6 z23.2), (6, I6 z23.1), (7, (Pv wc27.heap.size)), (43, .bool false)]
  refine hK43 _ _ ?_
  refine cond_f hS rfl ?_
  refine wpIn_skip <| hK42 _ _ <| sq fun K51 hK51 => sdq 2 [.p, .p] [] [(45, .bool ((z23.1 : Int) != 0))] [] hS .nil fun a hS => ?_
  refine cond_b hS rfl (fun hb53 => ?_) (fun hb53 => ?_)
  ·
   replace hb53 := test_ne_t hb53
   have hz0 : z23.1 ≠ 0 := by omega
   refine sq fun K54 hK54 => rgn 8 <| sd ww [.lds [S2.lv, S2.nv, I6 S2.st, S2.pv]] [_, _, _, _] [(47, .agg #[S2.lv, S2.nv, I6 S2.st, S2.pv])] [] 1 7 hS (.cons (hB48.cell 0 rfl) (.cons (hB48.cell 1 rfl) (.cons (hB48.cell 2 rfl) (.cons (hB48.cell 3 rfl) .nil)))) fun a hS => ecl 6 (some 48) hS Tryd.call14 #[.agg #[S2.lv, S2.nv, I6 S2.st, S2.pv]] (Nullable_z (hG2.ext0 hE50) (Ext.refl _ _) hZ2 hz0) ?_
   rintro _ wc55 ⟨rfl, hEc55⟩
   refine ⟨_, rfl, fun a hS => ?_⟩
   have hB56 := hB48.ext hEc55 (by simp)
   have hB57 := hB49.ext hEc55 (by simp)
   have hE58 := hE50.trans0 hEc55
   refine sg ww [.p, .p, .p] [] [(0, sv), (3, I6 ↑i), (21, .bool (decide ((↑i : Int) < ↑Ss.length))), (4, (Pv wlt.heap.size)), (5, I6 z23.2), (6, I6 z23.1), (7, (Pv wc27.heap.size)), (43, .bool false), (45, .bool ((z23.1 : Int) != 0)), (49, .slice none 0 0), (50, .agg #[I6 z23.1, I6 z23.2, .string ⟨#[]⟩])] 5 3 hS .nil fun a hS => ebx 2 #[I6 0, I6 0, .string ⟨#[]⟩] 34 (some 9) hS fun a w59 hw60 hS => ?_
   have hn61 : wlt.heap.size ≠ wc55.heap.size := Nat.ne_of_lt hB56.lt
   have hn62 : wc27.heap.size ≠ wc55.heap.size := Nat.ne_of_lt hB57.lt
   have hB63 := Blk.at' hw60 (hB56.alloc _)
   have hB64 := Blk.at' hw60 (hB57.alloc _)
   have hB65 := Blk.nw hw60
   have hs66 : wlt.heap.size ≤ wc55.heap.size := hE58.size
   have hE67 := hE58.al hw60
   refine sd ww [.p] [] [(8, .slice none 0 0)] [] 7 1 hS .nil fun a hS => est 0 wc55.heap.size 0 [I6 z23.1, I6 z23.2, .string ⟨#[]⟩] hS hB65 fun a w68 hw69 hS => ?_
   have hB70 := Blk.at' hw69 (hB63.updNe (Ne.symm hn61) _ _)
   have hB71 := Blk.at' hw69 (hB64.updNe (Ne.symm hn62) _ _)
   have hB72 : Blk w68 wc55.heap.size 34 (#[I6 z23.1, I6 z23.2, .string ⟨#[]⟩]) := hB65.up hw69
   have hE73 := hE67.ui hw69 hs66
   refine seg_end <| hK54 _ _ <| sq fun K74 hK74 => rgn 8 <| sd ww [.lds [S2.lv, S2.nv, I6 S2.st, S2.pv]] [_, _, _, _] [(52, .agg #[S2.lv, S2.nv, I6 S2.st, S2.pv])] [] 1 7 hS (.cons (hB70.cell 0 rfl) (.cons (hB70.cell 1 rfl) (.cons (hB70.cell 2 rfl) (.cons (hB70.cell 3 rfl) .nil)))) fun a hS => ecl 6 (some 53) hS Tryd.call15 #[.agg #[S2.lv, S2.nv, I6 S2.st, S2.pv]] (First_z (hG2.ext0 hE73) (Ext.refl _ _) (hT.ext0 (hbr12.trans0 hE73)) hZ2 hz0) ?_
   rintro _ wc75 ⟨rfl, hEc75⟩
   refine ⟨_, rfl, fun a hS => ?_⟩
   have hB76 := hB70.ext hEc75 (by simp)
   have hB77 := hB71.ext hEc75 (by simp)
   have hB78 := hB72.ext hEc75 (by simp)
   have hE79 := hE73.trans0 hEc75
   refine sd ww [.p, .p, .p] [] [(54, .slice none 0 0), (55, .agg #[I6 z23.1, I6 z23.2, .string ⟨#[]⟩])] [] 5 3 hS .nil fun a hS => ebx 2 #[I6 0, I6 0, .string ⟨#[]⟩] 34 (some 11) hS fun a w80 hw81 hS => ?_
   have hn82 : wlt.heap.size ≠ wc75.heap.size := Nat.ne_of_lt hB76.lt
   have hn83 : wc27.heap.size ≠ wc75.heap.size := Nat.ne_of_lt hB77.lt
   have hn84 : wc55.heap.size ≠ wc75.heap.size := Nat.ne_of_lt hB78.lt
   have hB85 := Blk.at' hw81 (hB76.alloc _)
   have hB86 := Blk.at' hw81 (hB77.alloc _)
   have hB87 := Blk.at' hw81 (hB78.alloc _)
   have hB88 := Blk.nw hw81
   have hs89 : wlt.heap.size ≤ wc75.heap.size := hE79.size
   have hE90 := hE79.al hw81
   refine sd ww [.p] [] [(10, .slice none 0 0)] [] 7 1 hS .nil fun a hS => est 0 wc75.heap.size 0 [I6 z23.1, I6 z23.2, .string ⟨#[]⟩] hS hB88 fun a w91 hw92 hS => ?_
   have hB93 := Blk.at' hw92 (hB85.updNe (Ne.symm hn82) _ _)
   have hB94 := Blk.at' hw92 (hB86.updNe (Ne.symm hn83) _ _)
   have hB95 := Blk.at' hw92 (hB87.updNe (Ne.symm hn84) _ _)
   have hB96 : Blk w91 wc75.heap.size 34 (#[I6 z23.1, I6 z23.2, .string ⟨#[]⟩]) := hB88.up hw92
   have hE97 := hE90.ui hw92 hs89
   refine seg_end <| hK74 _ _ <| sq fun K98 hK98 => rgn 8 <| sd ww [.lds [S2.lv, S2.nv, I6 S2.st, S2.pv]] [_, _, _, _] [(57, .agg #[S2.lv, S2.nv, I6 S2.st, S2.pv])] [] 1 7 hS (.cons (hB93.cell 0 rfl) (.cons (hB93.cell 1 rfl) (.cons (hB93.cell 2 rfl) (.cons (hB93.cell 3 rfl) .nil)))) fun a hS => ecl 6 (some 58) hS Tryd.call16 #[.agg #[S2.lv, S2.nv, I6 S2.st, S2.pv]] (Follow_z (hG2.ext0 hE97) (Ext.refl _ _) (hT.ext0 (hbr12.trans0 hE97)) hZ2 hz0) ?_
   rintro _ wc99 ⟨rfl, hEc99⟩
   refine ⟨_, rfl, fun a hS => ?_⟩
   have hB100 := hB93.ext hEc99 (by simp)
   have hB101 := hB94.ext hEc99 (by simp)
   have hB102 := hB95.ext hEc99 (by simp)
   have hB103 := hB96.ext hEc99 (by simp)
   have hE104 := hE97.trans0 hEc99
   refine sd ww [.p, .p, .p] [] [(59, .slice none 0 0), (60, .agg #[I6 z23.1, I6 z23.2, .string ⟨#[]⟩])] [] 5 3 hS .nil fun a hS => ebx 2 #[I6 0, I6 0, .string ⟨#[]⟩] 34 (some 13) hS fun a w105 hw106 hS => ?_
   have hn107 : wlt.heap.size ≠ wc99.heap.size := Nat.ne_of_lt hB100.lt
   have hn108 : wc27.heap.size ≠ wc99.heap.size := Nat.ne_of_lt hB101.lt
   have hn109 : wc55.heap.size ≠ wc99.heap.size := Nat.ne_of_lt hB102.lt
   have hn110 : wc75.heap.size ≠ wc99.heap.size := Nat.ne_of_lt hB103.lt
   have hB111 := Blk.at' hw106 (hB100.alloc _)
   have hB112 := Blk.at' hw106 (hB101.alloc _)
   have hB113 := Blk.at' hw106 (hB102.alloc _)
   have hB114 := Blk.at' hw106 (hB103.alloc _)
   have hB115 := Blk.nw hw106
   have hs116 : wlt.heap.size ≤ wc99.heap.size := hE104.size
   have hE117 := hE104.al hw106
   refine sg ww [.p] [] [(0, sv), (3, I6 ↑i), (21, .bool (decide ((↑i : Int) < ↑Ss.length))), (4, (Pv wlt.heap.size)), (5, I6 z23.2), (6, I6 z23.1), (7, (Pv wc27.heap.size)), (43, .bool false), (45, .bool ((z23.1 : Int) != 0)), (9, (Pv wc55.heap.size)), (8, .slice none 0 0), (11, (Pv wc75.heap.size)), (10, .slice none 0 0), (60, .agg #[I6 z23.1, I6 z23.2, .string ⟨#[]⟩]), (13, (Pv wc99.heap.size)), (12, .slice none 0 0)] 7 1 hS .nil fun a hS => est 0 wc99.heap.size 0 [I6 z23.1, I6 z23.2, .string ⟨#[]⟩] hS hB115 fun a w118 hw119 hS => ?_
   have hB120 := Blk.at' hw119 (hB111.updNe (Ne.symm hn107) _ _)
   have hB121 := Blk.at' hw119 (hB112.updNe (Ne.symm hn108) _ _)
   have hB122 := Blk.at' hw119 (hB113.updNe (Ne.symm hn109) _ _)
   have hB123 := Blk.at' hw119 (hB114.updNe (Ne.symm hn110) _ _)
   have hB124 : Blk w118 wc99.heap.size 34 (#[I6 z23.1, I6 z23.2, .string ⟨#[]⟩]) := hB115.up hw119
   have hE125 := hE117.ui hw119 hs116
   refine seg_end <| hK98 _ _ <| sq fun K126 hK126 => rgn 8 <| sd ww [.lds [S2.lv, S2.nv, I6 S2.st, S2.pv]] [_, _, _, _] [(62, .agg #[S2.lv, S2.nv, I6 S2.st, S2.pv])] [] 1 7 hS (.cons (hB120.cell 0 rfl) (.cons (hB120.cell 1 rfl) (.cons (hB120.cell 2 rfl) (.cons (hB120.cell 3 rfl) .nil)))) fun a hS => ecl 6 (some 63) hS Tryd.call33 #[.agg #[S2.lv, S2.nv, I6 S2.st, S2.pv], .slice none 0 0, .slice none 0 0] (Heads_z (hG2.ext0 hE125) (Ext.refl _ _) (hT.ext0 (hbr12.trans0 hE125)) hZ2 hz0) ?_
   rintro _ wc127 ⟨rfl, hEc127⟩
   refine ⟨_, rfl, fun a hS => ?_⟩
   have hB128 := hB120.ext hEc127 (by simp)
   have hB129 := hB121.ext hEc127 (by simp)
   have hB130 := hB122.ext hEc127 (by simp)
   have hB131 := hB123.ext hEc127 (by simp)
   have hB132 := hB124.ext hEc127 (by simp)
   have hE133 := hE125.trans0 hEc127
   refine sd ww [.p, .p, .p] [] [(64, .slice none 0 0), (65, .agg #[I6 z23.1, I6 z23.2, .string ⟨#[]⟩])] [] 5 3 hS .nil fun a hS => ebx 2 #[I6 0, I6 0, .string ⟨#[]⟩] 34 (some 15) hS fun a w134 hw135 hS => ?_
   have hn136 : wlt.heap.size ≠ wc127.heap.size := Nat.ne_of_lt hB128.lt
   have hn137 : wc27.heap.size ≠ wc127.heap.size := Nat.ne_of_lt hB129.lt
   have hn138 : wc55.heap.size ≠ wc127.heap.size := Nat.ne_of_lt hB130.lt
   have hn139 : wc75.heap.size ≠ wc127.heap.size := Nat.ne_of_lt hB131.lt
   have hn140 : wc99.heap.size ≠ wc127.heap.size := Nat.ne_of_lt hB132.lt
   have hB141 := Blk.at' hw135 (hB128.alloc _)
   have hB142 := Blk.at' hw135 (hB129.alloc _)
   have hB143 := Blk.at' hw135 (hB130.alloc _)
   have hB144 := Blk.at' hw135 (hB131.alloc _)
   have hB145 := Blk.at' hw135 (hB132.alloc _)
   have hB146 := Blk.nw hw135
   have hs147 : wlt.heap.size ≤ wc127.heap.size := hE133.size
   have hE148 := hE133.al hw135
   refine sd ww [.p] [] [(14, .slice none 0 0)] [] 7 1 hS .nil fun a hS => est 0 wc127.heap.size 0 [I6 z23.1, I6 z23.2, .string ⟨#[]⟩] hS hB146 fun a w149 hw150 hS => ?_
   have hB151 := Blk.at' hw150 (hB141.updNe (Ne.symm hn136) _ _)
   have hB152 := Blk.at' hw150 (hB142.updNe (Ne.symm hn137) _ _)
   have hB153 := Blk.at' hw150 (hB143.updNe (Ne.symm hn138) _ _)
   have hB154 := Blk.at' hw150 (hB144.updNe (Ne.symm hn139) _ _)
   have hB155 := Blk.at' hw150 (hB145.updNe (Ne.symm hn140) _ _)
   have hB156 : Blk w149 wc127.heap.size 34 (#[I6 z23.1, I6 z23.2, .string ⟨#[]⟩]) := hB146.up hw150
   have hE157 := hE148.ui hw150 hs147
   refine seg_end <| hK126 _ _ <| sq fun K158 hK158 => rgn 8 <| sd ww [.lds [S2.lv, S2.nv, I6 S2.st, S2.pv]] [_, _, _, _] [(67, .agg #[S2.lv, S2.nv, I6 S2.st, S2.pv])] [] 1 7 hS (.cons (hB151.cell 0 rfl) (.cons (hB151.cell 1 rfl) (.cons (hB151.cell 2 rfl) (.cons (hB151.cell 3 rfl) .nil)))) fun a hS => ecl 6 (some 68) hS Tryd.call17 #[.agg #[S2.lv, S2.nv, I6 S2.st, S2.pv]] (Yields_z (hG2.ext0 hE157) (Ext.refl _ _) hZ2 hz0) ?_
   rintro _ wc159 ⟨rfl, hEc159⟩
   refine ⟨_, rfl, fun a hS => ?_⟩
   have hB160 := hB151.ext hEc159 (by simp)
   have hB161 := hB152.ext hEc159 (by simp)
   have hB162 := hB153.ext hEc159 (by simp)
   have hB163 := hB154.ext hEc159 (by simp)
   have hB164 := hB155.ext hEc159 (by simp)
   have hB165 := hB156.ext hEc159 (by simp)
   have hE166 := hE157.trans0 hEc159
   refine sd ww [.p, .p, .p] [] [(69, .slice none 0 0), (70, .agg #[I6 z23.1, I6 z23.2, .string ⟨#[]⟩])] [] 5 3 hS .nil fun a hS => ebx 2 #[I6 0, I6 0, .string ⟨#[]⟩] 34 (some 17) hS fun a w167 hw168 hS => ?_
   have hn169 : wlt.heap.size ≠ wc159.heap.size := Nat.ne_of_lt hB160.lt
   have hn170 : wc27.heap.size ≠ wc159.heap.size := Nat.ne_of_lt hB161.lt
   have hn171 : wc55.heap.size ≠ wc159.heap.size := Nat.ne_of_lt hB162.lt
   have hn172 : wc75.heap.size ≠ wc159.heap.size := Nat.ne_of_lt hB163.lt
   have hn173 : wc99.heap.size ≠ wc159.heap.size := Nat.ne_of_lt hB164.lt
   have hn174 : wc127.heap.size ≠ wc159.heap.size := Nat.ne_of_lt hB165.lt
   have hB175 := Blk.at' hw168 (hB160.alloc _)
   have hB176 := Blk.at' hw168 (hB161.alloc _)
   have hB177 := Blk.at' hw168 (hB162.alloc _)
   have hB178 := Blk.at' hw168 (hB163.alloc _)
   have hB179 := Blk.at' hw168 (hB164.alloc _)
   have hB180 := Blk.at' hw168 (hB165.alloc _)
   have hB181 := Blk.nw hw168
   have hs182 : wlt.heap.size ≤ wc159.heap.size := hE166.size
   have hE183 := hE166.al hw168
   refine sd ww [.p] [] [(16, .slice none 0 0)] [] 7 1 hS .nil fun a hS => est 0 wc159.heap.size 0 [I6 z23.1, I6 z23.2, .string ⟨#[]⟩] hS hB181 fun a w184 hw185 hS => ?_
   have hB186 := Blk.at' hw185 (hB175.updNe (Ne.symm hn169) _ _)
   have hB187 := Blk.at' hw185 (hB176.updNe (Ne.symm hn170) _ _)
   have hB188 := Blk.at' hw185 (hB177.updNe (Ne.symm hn171) _ _)
   have hB189 := Blk.at' hw185 (hB178.updNe (Ne.symm hn172) _ _)
   have hB190 := Blk.at' hw185 (hB179.updNe (Ne.symm hn173) _ _)
   have hB191 := Blk.at' hw185 (hB180.updNe (Ne.symm hn174) _ _)
   have hB192 : Blk w184 wc159.heap.size 34 (#[I6 z23.1, I6 z23.2, .string ⟨#[]⟩]) := hB181.up hw185
   have hE193 := hE183.ui hw185 hs182
   refine seg_end <| hK158 _ _ <| sq fun K194 hK194 => rgn 40 <| sg ww [.lds [I6 z23.1, I6 z23.2, .string ⟨#[]⟩], .lds [I6 z23.1, I6 z23.2, .string ⟨#[]⟩], .run (.bool false), .p, .lds [I6 z23.1, I6 z23.2, .string ⟨#[]⟩], .lds [I6 z23.1, I6 z23.2, .string ⟨#[]⟩], .run (.bool false), .p, .p, .lds [I6 z23.1, I6 z23.2, .string ⟨#[]⟩], .lds [I6 z23.1, I6 z23.2, .string ⟨#[]⟩], .run (.bool false), .p, .p, .lds [I6 z23.1, I6 z23.2, .string ⟨#[]⟩], .lds [I6 z23.1, I6 z23.2, .string ⟨#[]⟩], .run (.bool false), .p, .p, .lds [I6 z23.1, I6 z23.2, .string ⟨#[]⟩], .lds [I6 z23.1, I6 z23.2, .string ⟨#[]⟩], .run (.bool false), .p, .p, .p, .p, .p, .p, .p, .p, .p, .p, .p, .p, .p, .p, .p, .p, .p, .p] [_, _, _, _, _, _, Ru Tryd.prog (vS (do eqGuard .neq 34 (.tmp 71) (.tmp 72) (.agg #[I6 z23.1, I6 z23.2, .string ⟨#[]⟩]) (.agg #[I6 z23.1, I6 z23.2, .string ⟨#[]⟩]); binOp .neq 34 (.agg #[I6 z23.1, I6 z23.2, .string ⟨#[]⟩]) (.agg #[I6 z23.1, I6 z23.2, .string ⟨#[]⟩]))) (.bool false) w184, _, _, _, _, _, _, Ru Tryd.prog (vS (do eqGuard .neq 34 (.tmp 75) (.tmp 76) (.agg #[I6 z23.1, I6 z23.2, .string ⟨#[]⟩]) (.agg #[I6 z23.1, I6 z23.2, .string ⟨#[]⟩]); binOp .neq 34 (.agg #[I6 z23.1, I6 z23.2, .string ⟨#[]⟩]) (.agg #[I6 z23.1, I6 z23.2, .string ⟨#[]⟩]))) (.bool false) w184, _, _, _, _, _, _, Ru Tryd.prog (vS (do eqGuard .neq 34 (.tmp 80) (.tmp 81) (.agg #[I6 z23.1, I6 z23.2, .string ⟨#[]⟩]) (.agg #[I6 z23.1, I6 z23.2, .string ⟨#[]⟩]); binOp .neq 34 (.agg #[I6 z23.1, I6 z23.2, .string ⟨#[]⟩]) (.agg #[I6 z23.1, I6 z23.2, .string ⟨#[]⟩]))) (.bool false) w184, _, _, _, _, _, _, Ru Tryd.prog (vS (do eqGuard .neq 34 (.tmp 85) (.tmp 86) (.agg #[I6 z23.1, I6 z23.2, .string ⟨#[]⟩]) (.agg #[I6 z23.1, I6 z23.2, .string ⟨#[]⟩]); binOp .neq 34 (.agg #[I6 z23.1, I6 z23.2, .string ⟨#[]⟩]) (.agg #[I6 z23.1, I6 z23.2, .string ⟨#[]⟩]))) (.bool false) w184, _, _, _, _, _, _, Ru Tryd.prog (vS (do eqGuard .neq 34 (.tmp 90) (.tmp 91) (.agg #[I6 z23.1, I6 z23.2, .string ⟨#[]⟩]) (.agg #[I6 z23.1, I6 z23.2, .string ⟨#[]⟩]); binOp .neq 34 (.agg #[I6 z23.1, I6 z23.2, .string ⟨#[]⟩]) (.agg #[I6 z23.1, I6 z23.2, .string ⟨#[]⟩]))) (.bool false) w184] [(0, sv), (3, I6 ↑i), (21, .bool (decide ((↑i : Int) < ↑Ss.length))), (4, (Pv wlt.heap.size)), (5, I6 z23.2), (6, I6 z23.1), (7, (Pv wc27.heap.size)), (43, .bool false), (45, .bool ((z23.1 : Int) != 0)), (9, (Pv wc55.heap.size)), (8, .slice none 0 0), (11, (Pv wc75.heap.size)), (10, .slice none 0 0), (13, (Pv wc99.heap.size)), (12, .slice none 0 0), (15, (Pv wc127.heap.size)), (14, .slice none 0 0), (17, (Pv wc159.heap.size)), (16, .slice none 0 0), (110, .bool false)] 40 0 hS (.cons (hB188.cell 0 rfl) (.cons (hB188.cell 1 rfl) (.cons (hB188.cell 2 rfl) (.cons (hB187.cell 0 rfl) (.cons (hB187.cell 1 rfl) (.cons (hB187.cell 2 rfl) (.cons ((bin_agg_same (by kernel_rfl)).2) (.cons (hB189.cell 0 rfl) (.cons (hB189.cell 1 rfl) (.cons (hB189.cell 2 rfl) (.cons (hB187.cell 0 rfl) (.cons (hB187.cell 1 rfl) (.cons (hB187.cell 2 rfl) (.cons ((bin_agg_same (by kernel_rfl)).2) (.cons (hB190.cell 0 rfl) (.cons (hB190.cell 1 rfl) (.cons (hB190.cell 2 rfl) (.cons (hB187.cell 0 rfl) (.cons (hB187.cell 1 rfl) (.cons (hB187.cell 2 rfl) (.cons ((bin_agg_same (by kernel_rfl)).2) (.cons (hB191.cell 0 rfl) (.cons (hB191.cell 1 rfl) (.cons (hB191.cell 2 rfl) (.cons (hB187.cell 0 rfl) (.cons (hB187.cell 1 rfl) (.cons (hB187.cell 2 rfl) (.cons ((bin_agg_same (by kernel_rfl)).2) (.cons (hB192.cell 0 rfl) (.cons (hB192.cell 1 rfl) (.cons (hB192.cell 2 rfl) (.cons (hB187.cell 0 rfl) (.cons (hB187.cell 1 rfl) (.cons (hB187.cell 2 rfl) (.cons ((bin_agg_same (by kernel_rfl)).2) .nil))))))))))))))))))))))))))))))))))) fun a hS => ?_
   refine seg_end <| hK194 _ _ ?_
   refine cond_f hS rfl ?_
   refine wpIn_skip <| hK51 _ _ <| sq fun K195 hK195 => ?_
   refine region_gh2 (G := World) ww [.q (.lds [S2.lv, S2.nv, I6 S2.st, S2.pv]), .q .p, .q .p, .q (.run ((Po (bof sv) (oof sv + i * 4)))), .q (.lds [S.lv, S.nv, I6 S.st, S.pv]), .e, .q .p] [0, 0, 0, 0, 0, 0, 1] [0, 0, 0, 0, 0, 0, 1] [0, 0, 0, 6, 14, 31, 63] [5] [(5, 0)] 1 (fun wc196 => ([(0, sv), (3, I6 ↑i), (21, .bool (decide ((↑i : Int) < ↑Ss.length))), (4, (Pv wlt.heap.size)), (5, I6 z23.2), (6, I6 z23.1), (7, (Pv wc27.heap.size)), (43, .bool false), (45, .bool ((z23.1 : Int) != 0)), (9, (Pv wc55.heap.size)), (8, .slice none 0 0), (11, (Pv wc75.heap.size)), (10, .slice none 0 0), (13, (Pv wc99.heap.size)), (12, .slice none 0 0), (15, (Pv wc127.heap.size)), (14, .slice none 0 0), (17, (Pv wc159.heap.size)), (16, .slice none 0 0), (110, .bool false), (111, .agg #[S2.lv, S2.nv, I6 S2.st, S2.pv]), (112, sv), (113, I6 ↑i), (114, (Po (bof sv) (oof sv + i * 4))), (115, .agg S.ca), (116, .bool true), (117, .bool false)] : Fm)) (fun wc196 => [w184.drew, wc196]) (w184.drew) (fun e wc196 => hAt [True, (Ext [] w184.drew wc196) ∧ True] e) (fun wc196 w' => [(0, [w'.cell? ⟨wlt.heap.size, 0, none⟩ = some (S2.lv), w'.cell? ⟨wlt.heap.size, 1, none⟩ = some (S2.nv), w'.cell? ⟨wlt.heap.size, 2, none⟩ = some (I6 S2.st), w'.cell? ⟨wlt.heap.size, 3, none⟩ = some (S2.pv)]), (3, [Ru Tryd.prog (vS (Instr.indexAt 83 (sv) (I6 ↑i))) ((Po (bof sv) (oof sv + i * 4))) w']), (4, [w'.cell? ⟨bof sv, oof sv + i * 4, none⟩ = some (S.lv), w'.cell? ⟨bof sv, oof sv + i * 4 + 1, none⟩ = some (S.nv), w'.cell? ⟨bof sv, oof sv + i * 4 + 2, none⟩ = some (I6 S.st), w'.cell? ⟨bof sv, oof sv + i * 4 + 3, none⟩ = some (S.pv)])]) w184.drew [0, 3, 21, 4, 5, 6, 7, 43, 45, 9, 8, 11, 10, 13, 12, 15, 14, 17, 16, 110] [] hS (by kernel_rfl) (by kernel_rfl) (by kernel_rfl) (by kernel_rfl) (fun wc196 _ => by kernel_rfl) (by kernel_rfl) (by kernel_rfl) (by kernel_rfl) trivial ?_ (by kernel_rfl) ?_ ?_
   ·rintro e wc196 w' hw hH
    refine (.cons ?_ (.cons ?_ (.cons ?_ .nil)))
    ·intro h1 h2
     obtain rfl : e = 0 := Nat.le_antisymm h2 h1
     have hwe : w184.drew = w' := (hw.trans (by kernel_rfl)).symm
     subst hwe
     clear hH
     exact (.cons ((hB186.drew : Blk w184.drew wlt.heap.size 26 (#[S2.lv, S2.nv, I6 S2.st, S2.pv])).cell 0 rfl) (.cons ((hB186.drew : Blk w184.drew wlt.heap.size 26 (#[S2.lv, S2.nv, I6 S2.st, S2.pv])).cell 1 rfl) (.cons ((hB186.drew : Blk w184.drew wlt.heap.size 26 (#[S2.lv, S2.nv, I6 S2.st, S2.pv])).cell 2 rfl) (.cons ((hB186.drew : Blk w184.drew wlt.heap.size 26 (#[S2.lv, S2.nv, I6 S2.st, S2.pv])).cell 3 rfl) .nil))))
    ·intro h1 h2
     obtain rfl : e = 0 := Nat.le_antisymm h2 h1
     have hwe : w184.drew = w' := (hw.trans (by kernel_rfl)).symm
     subst hwe
     clear hH
     exact (.cons (ixr 26 i hs) .nil)
    ·intro h1 h2
     obtain rfl : e = 0 := Nat.le_antisymm h2 h1
     have hwe : w184.drew = w' := (hw.trans (by kernel_rfl)).symm
     subst hwe
     clear hH
     exact (.cons ((hs.ext0 ((hbr12.trans0 hE193).trans0 (by first | exact (Ext.refl [] _).drew | exact Ext.refl [] _))).cellAt (i * 4 + 0) (by omega) (scells_at (i := 0) hSi (by omega))) (.cons ((hs.ext0 ((hbr12.trans0 hE193).trans0 (by first | exact (Ext.refl [] _).drew | exact Ext.refl [] _))).cellAt (i * 4 + 1) (by omega) (scells_at (i := 1) hSi (by omega))) (.cons ((hs.ext0 ((hbr12.trans0 hE193).trans0 (by first | exact (Ext.refl [] _).drew | exact Ext.refl [] _))).cellAt (i * 4 + 2) (by omega) (scells_at (i := 2) hSi (by omega))) (.cons ((hs.ext0 ((hbr12.trans0 hE193).trans0 (by first | exact (Ext.refl [] _).drew | exact Ext.refl [] _))).cellAt (i * 4 + 3) (by omega) (scells_at (i := 3) hSi (by omega))) .nil))))
   ·refine (.cons ?eq197_5 .nil)
    ·rintro wc196 hH
     clear hH
     refine eff_gh (w184.drew) (by kernel_rfl) ?_
     refine upon_call (f := 20) (vs := [.agg #[S2.lv, S2.nv, I6 S2.st, S2.pv], .agg S.ca]) (cap := #[]) (d := (some 116)) (by kernel_rfl) Tryd.call20 #[.agg #[S2.lv, S2.nv, I6 S2.st, S2.pv], .agg S.ca] (by kernel_rfl) (hKp _ (hE193.trans0 ((Ext.refl [] _).drew))) ?_
     rintro _ wc196 ⟨rfl, hEc196⟩
     exact ⟨_, rfl, ⟨wc196, by kernel_rfl, by kernel_rfl, by kernel_rfl, ⟨hEc196, trivial⟩⟩⟩
   rintro wc196 a w198 hS hw199 hH
   obtain ⟨hEc196, _⟩ := hH
   replace hw199 : w198 = wc196 := hw199.trans (by kernel_rfl)
   have hE207 : Ext [] wlt w198 := by rw [hw199]; exact (hE193.drew).trans0 hEc196
   replace hS := hS.kp [(0, sv), (3, I6 ↑i), (21, .bool (decide ((↑i : Int) < ↑Ss.length))), (4, (Pv wlt.heap.size)), (5, I6 z23.2), (6, I6 z23.1), (7, (Pv wc27.heap.size)), (43, .bool false), (45, .bool ((z23.1 : Int) != 0)), (9, (Pv wc55.heap.size)), (8, .slice none 0 0), (11, (Pv wc75.heap.size)), (10, .slice none 0 0), (13, (Pv wc99.heap.size)), (12, .slice none 0 0), (15, (Pv wc127.heap.size)), (14, .slice none 0 0), (17, (Pv wc159.heap.size)), (16, .slice none 0 0), (110, .bool false), (117, .bool false)]
   refine hK195 _ _ ?_
   refine cond_f hS rfl ?_
   refine wpIn_skip <| inBlock_normal <| hK8 _ _ <| rgn 3 <| sd ww [.p, .as (I6 (↑i + 1)), .p] [Value.int .i64 (IntKind.i64.wrap (↑i + 1)) = I6 (↑i + 1)] [(3, I6 (↑i + 1))] [] 3 0 hS (.cons (as_i64 (by omega)) .nil) fun a hS => seg_end ?_
   have hExB := (hE11.trans0 hE207)
   exact ⟨i + 1, ⟨hS.kp [(0, sv), (3, I6 (↑i + 1))], hExB, by omega⟩, by omega⟩
  ·
   replace hb53 := test_ne_f hb53
   refine wpIn_skip <| hK51 _ _ <| sq fun K208 hK208 => ?_
   refine region_gh2 (G := World) ww [.q (.lds [S2.lv, S2.nv, I6 S2.st, S2.pv]), .q .p, .q .p, .q (.run ((Po (bof sv) (oof sv + i * 4)))), .q (.lds [S.lv, S.nv, I6 S.st, S.pv]), .e, .q .p] [0, 0, 0, 0, 0, 0, 1] [0, 0, 0, 0, 0, 0, 1] [0, 0, 0, 6, 14, 31, 63] [5] [(5, 0)] 1 (fun wc209 => ([(0, sv), (3, I6 ↑i), (21, .bool (decide ((↑i : Int) < ↑Ss.length))), (4, (Pv wlt.heap.size)), (5, I6 z23.2), (6, I6 z23.1), (7, (Pv wc27.heap.size)), (43, .bool false), (45, .bool ((z23.1 : Int) != 0)), (111, .agg #[S2.lv, S2.nv, I6 S2.st, S2.pv]), (112, sv), (113, I6 ↑i), (114, (Po (bof sv) (oof sv + i * 4))), (115, .agg S.ca), (116, .bool true), (117, .bool false)] : Fm)) (fun wc209 => [w46.drew, wc209]) (w46.drew) (fun e wc209 => hAt [True, (Ext [] w46.drew wc209) ∧ True] e) (fun wc209 w' => [(0, [w'.cell? ⟨wlt.heap.size, 0, none⟩ = some (S2.lv), w'.cell? ⟨wlt.heap.size, 1, none⟩ = some (S2.nv), w'.cell? ⟨wlt.heap.size, 2, none⟩ = some (I6 S2.st), w'.cell? ⟨wlt.heap.size, 3, none⟩ = some (S2.pv)]), (3, [Ru Tryd.prog (vS (Instr.indexAt 83 (sv) (I6 ↑i))) ((Po (bof sv) (oof sv + i * 4))) w']), (4, [w'.cell? ⟨bof sv, oof sv + i * 4, none⟩ = some (S.lv), w'.cell? ⟨bof sv, oof sv + i * 4 + 1, none⟩ = some (S.nv), w'.cell? ⟨bof sv, oof sv + i * 4 + 2, none⟩ = some (I6 S.st), w'.cell? ⟨bof sv, oof sv + i * 4 + 3, none⟩ = some (S.pv)])]) w46.drew [0, 3, 21, 4, 5, 6, 7, 43, 45] [] hS (by kernel_rfl) (by kernel_rfl) (by kernel_rfl) (by kernel_rfl) (fun wc209 _ => by kernel_rfl) (by kernel_rfl) (by kernel_rfl) (by kernel_rfl) trivial ?_ (by kernel_rfl) ?_ ?_
   ·rintro e wc209 w' hw hH
    refine (.cons ?_ (.cons ?_ (.cons ?_ .nil)))
    ·intro h1 h2
     obtain rfl : e = 0 := Nat.le_antisymm h2 h1
     have hwe : w46.drew = w' := (hw.trans (by kernel_rfl)).symm
     subst hwe
     clear hH
     exact (.cons ((hB48.drew : Blk w46.drew wlt.heap.size 26 (#[S2.lv, S2.nv, I6 S2.st, S2.pv])).cell 0 rfl) (.cons ((hB48.drew : Blk w46.drew wlt.heap.size 26 (#[S2.lv, S2.nv, I6 S2.st, S2.pv])).cell 1 rfl) (.cons ((hB48.drew : Blk w46.drew wlt.heap.size 26 (#[S2.lv, S2.nv, I6 S2.st, S2.pv])).cell 2 rfl) (.cons ((hB48.drew : Blk w46.drew wlt.heap.size 26 (#[S2.lv, S2.nv, I6 S2.st, S2.pv])).cell 3 rfl) .nil))))
    ·intro h1 h2
     obtain rfl : e = 0 := Nat.le_antisymm h2 h1
     have hwe : w46.drew = w' := (hw.trans (by kernel_rfl)).symm
     subst hwe
     clear hH
     exact (.cons (ixr 26 i hs) .nil)
    ·intro h1 h2
     obtain rfl : e = 0 := Nat.le_antisymm h2 h1
     have hwe : w46.drew = w' := (hw.trans (by kernel_rfl)).symm
     subst hwe
     clear hH
     exact (.cons ((hs.ext0 ((hbr12.trans0 hE50).trans0 (by first | exact (Ext.refl [] _).drew | exact Ext.refl [] _))).cellAt (i * 4 + 0) (by omega) (scells_at (i := 0) hSi (by omega))) (.cons ((hs.ext0 ((hbr12.trans0 hE50).trans0 (by first | exact (Ext.refl [] _).drew | exact Ext.refl [] _))).cellAt (i * 4 + 1) (by omega) (scells_at (i := 1) hSi (by omega))) (.cons ((hs.ext0 ((hbr12.trans0 hE50).trans0 (by first | exact (Ext.refl [] _).drew | exact Ext.refl [] _))).cellAt (i * 4 + 2) (by omega) (scells_at (i := 2) hSi (by omega))) (.cons ((hs.ext0 ((hbr12.trans0 hE50).trans0 (by first | exact (Ext.refl [] _).drew | exact Ext.refl [] _))).cellAt (i * 4 + 3) (by omega) (scells_at (i := 3) hSi (by omega))) .nil))))
   ·refine (.cons ?eq210_5 .nil)
    ·rintro wc209 hH
     clear hH
     refine eff_gh (w46.drew) (by kernel_rfl) ?_
     refine upon_call (f := 20) (vs := [.agg #[S2.lv, S2.nv, I6 S2.st, S2.pv], .agg S.ca]) (cap := #[]) (d := (some 116)) (by kernel_rfl) Tryd.call20 #[.agg #[S2.lv, S2.nv, I6 S2.st, S2.pv], .agg S.ca] (by kernel_rfl) (hKp _ (hE50.trans0 ((Ext.refl [] _).drew))) ?_
     rintro _ wc209 ⟨rfl, hEc209⟩
     exact ⟨_, rfl, ⟨wc209, by kernel_rfl, by kernel_rfl, by kernel_rfl, ⟨hEc209, trivial⟩⟩⟩
   rintro wc209 a w211 hS hw212 hH
   obtain ⟨hEc209, _⟩ := hH
   replace hw212 : w211 = wc209 := hw212.trans (by kernel_rfl)
   have hE215 : Ext [] wlt w211 := by rw [hw212]; exact (hE50.drew).trans0 hEc209
   replace hS := hS.kp [(0, sv), (3, I6 ↑i), (21, .bool (decide ((↑i : Int) < ↑Ss.length))), (4, (Pv wlt.heap.size)), (5, I6 z23.2), (6, I6 z23.1), (7, (Pv wc27.heap.size)), (43, .bool false), (45, .bool ((z23.1 : Int) != 0)), (117, .bool false)]
   refine hK208 _ _ ?_
   refine cond_f hS rfl ?_
   refine wpIn_skip <| inBlock_normal <| hK8 _ _ <| rgn 3 <| sd ww [.p, .as (I6 (↑i + 1)), .p] [Value.int .i64 (IntKind.i64.wrap (↑i + 1)) = I6 (↑i + 1)] [(3, I6 (↑i + 1))] [] 3 0 hS (.cons (as_i64 (by omega)) .nil) fun a hS => seg_end ?_
   have hExB := (hE11.trans0 hE215)
   exact ⟨i + 1, ⟨hS.kp [(0, sv), (3, I6 (↑i + 1))], hExB, by omega⟩, by omega⟩
 ·
  replace hb7 := of_decide_eq_false hb7
  have hEl4 : Ext [] w wl4 := hE0.trans0 hXl4
  refine wpIn_exit <| then_exit <| then_exit <| inBlock_hit <| hK2 _ _ <| sq fun K216 hK216 => rgn 2 <| ecl 1 (some 118) hS Tryd.call12 #[] (Head_any (hT.ext0 (hb.trans0 hEl4))) ?_
  rintro _ wc217 ⟨rfl, hEc217⟩
  refine ⟨_, rfl, fun a hS => ?_⟩
  have hE218 := hEl4.trans0 hEc217
  refine sg ww [.p] [] [(0, sv), (3, I6 ↑i), (2, .bool true)] 2 0 hS .nil fun a hS => seg_end <| hK216 _ _ <| wpIn_ret ?_
  refine ret1 hS Tryd.results8 rfl ?_
  exact ⟨rfl, hE218⟩

end Go.Proofs.YtkkpghlcmcaoiaaDoor
