import Derived.Test.YtehlippmnkkaiaaProg
import Derived.Test.YtehlippmnkkaiaaVs
namespace Go.Proofs.Ytehlippmnkkaiaa
open Go.Vc

/-- the numbers and their words -/
def tabl : List (Int × ByteArray) := [(0, ⟨#[111, 107]⟩),
  (1, ⟨#[97, 114, 103]⟩),
  (2, ⟨#[108, 111, 110, 103]⟩),
  (3, ⟨#[114, 97, 110, 103, 101]⟩),
  (4, ⟨#[118, 101, 114, 115, 105, 111, 110]⟩),
  (5, ⟨#[110, 101, 115, 116]⟩),
  (6, ⟨#[102, 117, 108, 108]⟩),
  (20, ⟨#[101, 120, 112, 114]⟩),
  (21, ⟨#[112, 111, 115, 105, 116, 105, 111, 110, 115]⟩),
  (22, ⟨#[112, 97, 116, 116, 101, 114, 110]⟩),
  (23, ⟨#[101, 110, 100, 115]⟩),
  (24, ⟨#[98, 114, 97, 99, 101, 115]⟩),
  (30, ⟨#[115, 101, 116, 115]⟩),
  (31, ⟨#[101, 109, 112, 116, 121]⟩),
  (50, ⟨#[108, 101, 97, 118, 101, 115]⟩),
  (51, ⟨#[101, 100, 105, 116]⟩),
  (60, ⟨#[115, 112, 101, 99]⟩),
  (61, ⟨#[116, 119, 105, 99, 101]⟩),
  (62, ⟨#[117, 110, 107, 110, 111, 119, 110]⟩),
  (63, ⟨#[115, 116, 97, 114, 116]⟩),
  (64, ⟨#[115, 108, 97, 115, 104]⟩),
  (65, ⟨#[112, 114, 105, 110, 116]⟩),
  (70, ⟨#[105, 110, 100, 101, 120]⟩),
  (71, ⟨#[116, 114, 105, 118, 105, 97]⟩),
  (72, ⟨#[117, 110, 114, 101, 97, 99, 104, 101, 100]⟩),
  (73, ⟨#[117, 110, 112, 114, 111, 100, 117, 99, 116, 105, 118, 101]⟩),
  (74, ⟨#[116, 101, 114, 109, 105, 110, 97, 108]⟩),
  (80, ⟨#[115, 116, 97, 116, 101, 115]⟩),
  (81, ⟨#[115, 116, 97, 116, 101]⟩),
  (90, ⟨#[99, 111, 110, 102, 108, 105, 99, 116]⟩),
  (100, ⟨#[107, 105, 100, 115]⟩),
  (101, ⟨#[107, 105, 110, 100]⟩),
  (110, ⟨#[108, 101, 97, 102]⟩),
  (111, ⟨#[103, 111, 101, 115]⟩),
  (120, ⟨#[102, 114, 111, 109]⟩),
  (140, ⟨#[113, 117, 101, 114, 121]⟩),
  (141, ⟨#[113, 117, 101, 114, 121, 110, 97, 109, 101]⟩),
  (142, ⟨#[99, 97, 112, 116, 117, 114, 101]⟩),
  (143, ⟨#[116, 114, 105, 101, 115]⟩),
  (150, ⟨#[111, 112]⟩),
  (151, ⟨#[112, 108, 97, 99, 101]⟩),
  (160, ⟨#[115, 116, 121, 108, 101]⟩),
  (170, ⟨#[108, 97, 121, 111, 117, 116]⟩),
  (171, ⟨#[103, 108, 117, 101]⟩),
  (172, ⟨#[98, 114, 111, 107, 101, 110]⟩),
  (180, ⟨#[112, 97, 99, 107]⟩),
  (181, ⟨#[115, 117, 109]⟩),
  (182, ⟨#[99, 117, 116]⟩),
  (190, ⟨#[115, 101, 115, 115, 105, 111, 110]⟩),
  (191, ⟨#[100, 111, 99]⟩),
  (192, ⟨#[117, 110, 100, 111]⟩),
  (193, ⟨#[98, 97, 116, 99, 104]⟩),
  (194, ⟨#[115, 104, 117, 116]⟩),
  (200, ⟨#[99, 111, 109, 109, 97, 110, 100]⟩),
  (201, ⟨#[110, 111, 110, 101]⟩)]
def errw : ByteArray := ⟨#[101, 114, 114, 111, 114]⟩
def tcells : List (Int × ByteArray) → List Value
  | [] => []
  | q :: l => .int .i64 q.1 :: .string q.2 :: tcells l
def tno (k : Nat) : Int := match tabl[k]? with
  | some q => q.1
  | none => 0
def twd (k : Nat) : ByteArray := match tabl[k]? with
  | some q => q.2
  | none => errw
def lookup : List (Int × ByteArray) → Int → ByteArray
  | [], _ => errw
  | q :: l, e => if q.1 = e then q.2 else lookup l e
theorem tlen : tabl.length = 55 := by rfl
theorem tcells_take : ∀ (l : List (Int × ByteArray)) (k : Nat) (q : Int × ByteArray), l[k]? = some q → ((tcells l).drop (k * 2)).take 2 = [.int .i64 q.1, .string q.2]
  | [], k, q, h => by simp at h
  | x :: l, 0, q, h => by simp at h; subst h; simp [tcells]
  | x :: l, k + 1, q, h => by
    have ih := tcells_take l k q (by simpa using h)
    rw [show (k + 1) * 2 = k * 2 + 1 + 1 by omega]
    simpa [tcells] using ih
theorem tget {k : Nat} (hk : k < 55) : tabl[k]? = some (tno k, twd k) := by
  have h : k < tabl.length := by rw [tlen]; exact hk
  rw [List.getElem?_eq_getElem h]
  simp [tno, twd, List.getElem?_eq_getElem h]
theorem tcells_at {k : Nat} (hk : k < 55) : (tcells tabl).toArray.extract (k * 2) (k * 2 + 2) = #[.int .i64 (tno k), .string (twd k)] := by
  have h := tcells_take tabl k _ (tget hk)
  apply Array.ext'
  simp only [Array.toList_extract, List.extract]
  rw [show k * 2 + 2 - k * 2 = 2 by omega]
  exact h
theorem tdrop {k : Nat} (hk : k < 55) : tabl.drop k = (tno k, twd k) :: tabl.drop (k + 1) := by
  have h : k < tabl.length := by rw [tlen]; exact hk
  rw [List.drop_eq_getElem_cons h]
  congr 1
  have := tget hk
  rw [List.getElem?_eq_getElem h] at this
  simpa using this

set_option maxHeartbeats 4000000 in
set_option maxRecDepth 100000 in
theorem Error_any (e_ : Int) (w : World) :
    Calls Try.prog 4 #[.int .i64 e_] w fun e w' => e = .returned (.string (lookup tabl e_)) ∧ Ext [] w w' := by
  refine calls_body 71 [(0, .int .i64 e_)] Try.func4 rfl (by kernel_rfl) (by kernel_rfl) (by kernel_rfl) fun a hS => ?_
  have hE0 : Ext [] w w := Ext.refl _ _
  refine wpIn_seq_k fun K1 hK1 => ?_
  refine region 1 (by kernel_rfl) ?_
  refine seg wide_wide [.p] [0, 2] [] [(0, .int .i64 e_), (2, .string ⟨#[]⟩)] 1 0 hS (by kernel_rfl) (by kernel_rfl) (by kernel_rfl) .nil fun a hS => ?_
  refine seg_end ?_
  refine hK1 _ _ ?_
  refine wpIn_seq_k fun K2 hK2 => ?_
  refine wpIn_seq_k fun K3 hK3 => ?_
  refine region 57 (by kernel_rfl) ?_
  refine seg wide_wide [.p, .p, .p, .p, .p, .p, .p, .p, .p, .p, .p, .p, .p, .p, .p, .p, .p, .p, .p, .p, .p, .p, .p, .p, .p, .p, .p, .p, .p, .p, .p, .p, .p, .p, .p, .p, .p, .p, .p, .p, .p, .p, .p, .p, .p, .p, .p, .p, .p, .p, .p, .p, .p, .p, .p, .p, .p] [0, 2, 60, 61] [] [(0, .int .i64 e_), (2, .string ⟨#[]⟩), (60, .agg #[.int .i64 0, .string ⟨#[111, 107]⟩, .int .i64 1, .string ⟨#[97, 114, 103]⟩, .int .i64 2, .string ⟨#[108, 111, 110, 103]⟩, .int .i64 3, .string ⟨#[114, 97, 110, 103, 101]⟩, .int .i64 4, .string ⟨#[118, 101, 114, 115, 105, 111, 110]⟩, .int .i64 5, .string ⟨#[110, 101, 115, 116]⟩, .int .i64 6, .string ⟨#[102, 117, 108, 108]⟩, .int .i64 20, .string ⟨#[101, 120, 112, 114]⟩, .int .i64 21, .string ⟨#[112, 111, 115, 105, 116, 105, 111, 110, 115]⟩, .int .i64 22, .string ⟨#[112, 97, 116, 116, 101, 114, 110]⟩, .int .i64 23, .string ⟨#[101, 110, 100, 115]⟩, .int .i64 24, .string ⟨#[98, 114, 97, 99, 101, 115]⟩, .int .i64 30, .string ⟨#[115, 101, 116, 115]⟩, .int .i64 31, .string ⟨#[101, 109, 112, 116, 121]⟩, .int .i64 50, .string ⟨#[108, 101, 97, 118, 101, 115]⟩, .int .i64 51, .string ⟨#[101, 100, 105, 116]⟩, .int .i64 60, .string ⟨#[115, 112, 101, 99]⟩, .int .i64 61, .string ⟨#[116, 119, 105, 99, 101]⟩, .int .i64 62, .string ⟨#[117, 110, 107, 110, 111, 119, 110]⟩, .int .i64 63, .string ⟨#[115, 116, 97, 114, 116]⟩, .int .i64 64, .string ⟨#[115, 108, 97, 115, 104]⟩, .int .i64 65, .string ⟨#[112, 114, 105, 110, 116]⟩, .int .i64 70, .string ⟨#[105, 110, 100, 101, 120]⟩, .int .i64 71, .string ⟨#[116, 114, 105, 118, 105, 97]⟩, .int .i64 72, .string ⟨#[117, 110, 114, 101, 97, 99, 104, 101, 100]⟩, .int .i64 73, .string ⟨#[117, 110, 112, 114, 111, 100, 117, 99, 116, 105, 118, 101]⟩, .int .i64 74, .string ⟨#[116, 101, 114, 109, 105, 110, 97, 108]⟩, .int .i64 80, .string ⟨#[115, 116, 97, 116, 101, 115]⟩, .int .i64 81, .string ⟨#[115, 116, 97, 116, 101]⟩, .int .i64 90, .string ⟨#[99, 111, 110, 102, 108, 105, 99, 116]⟩, .int .i64 100, .string ⟨#[107, 105, 100, 115]⟩, .int .i64 101, .string ⟨#[107, 105, 110, 100]⟩, .int .i64 110, .string ⟨#[108, 101, 97, 102]⟩, .int .i64 111, .string ⟨#[103, 111, 101, 115]⟩, .int .i64 120, .string ⟨#[102, 114, 111, 109]⟩, .int .i64 140, .string ⟨#[113, 117, 101, 114, 121]⟩, .int .i64 141, .string ⟨#[113, 117, 101, 114, 121, 110, 97, 109, 101]⟩, .int .i64 142, .string ⟨#[99, 97, 112, 116, 117, 114, 101]⟩, .int .i64 143, .string ⟨#[116, 114, 105, 101, 115]⟩, .int .i64 150, .string ⟨#[111, 112]⟩, .int .i64 151, .string ⟨#[112, 108, 97, 99, 101]⟩, .int .i64 160, .string ⟨#[115, 116, 121, 108, 101]⟩, .int .i64 170, .string ⟨#[108, 97, 121, 111, 117, 116]⟩, .int .i64 171, .string ⟨#[103, 108, 117, 101]⟩, .int .i64 172, .string ⟨#[98, 114, 111, 107, 101, 110]⟩, .int .i64 180, .string ⟨#[112, 97, 99, 107]⟩, .int .i64 181, .string ⟨#[115, 117, 109]⟩, .int .i64 182, .string ⟨#[99, 117, 116]⟩, .int .i64 190, .string ⟨#[115, 101, 115, 115, 105, 111, 110]⟩, .int .i64 191, .string ⟨#[100, 111, 99]⟩, .int .i64 192, .string ⟨#[117, 110, 100, 111]⟩, .int .i64 193, .string ⟨#[98, 97, 116, 99, 104]⟩, .int .i64 194, .string ⟨#[115, 104, 117, 116]⟩, .int .i64 200, .string ⟨#[99, 111, 109, 109, 97, 110, 100]⟩, .int .i64 201, .string ⟨#[110, 111, 110, 101]⟩]), (61, .int .i64 0)] 57 0 hS (by kernel_rfl) (by kernel_rfl) (by kernel_rfl) .nil fun a hS => ?_
  refine seg_end ?_
  refine hK3 _ _ ?_
  refine wpIn_block ?_
  have hS0 := hS.keepTo [0, 60, 61] (m' := [(0, .int .i64 e_), (60, (.agg (tcells tabl).toArray)), (61, .int .i64 ((0 : Nat) : Int))]) (by kernel_rfl)
  clear hS
  have hS := hS0
  refine loop_ghost (fun (k : Nat) a' w' => St 71 [] [(0, .int .i64 e_), (60, (.agg (tcells tabl).toArray)), (61, .int .i64 ↑k)] a' ∧ k ≤ 55 ∧ lookup tabl e_ = lookup (tabl.drop k) e_ ∧ Ext [] w w') (fun (k : Nat) => 55 - k) 0 ⟨hS.keepTo [0, 60, 61] (by kernel_rfl), by omega, rfl, hE0⟩ ?_
  rintro k a w1 ⟨hS, hkl, hlk, hEx⟩
  refine wpIn_seq_k fun K4 hK4 => ?_
  refine region 1 (by kernel_rfl) ?_
  refine seg wide_wide [.p] [0, 60, 61, 62] [] [(0, .int .i64 e_), (60, (.agg (tcells tabl).toArray)), (61, .int .i64 ↑k), (62, .bool (decide ((↑k : Int) < 55)))] 1 0 hS (by kernel_rfl) (by kernel_rfl) (by kernel_rfl) .nil fun a hS => ?_
  refine seg_end ?_
  refine hK4 _ _ ?_
  refine wpIn_seq_k fun K5 hK5 => ?_
  refine cond_b hS rfl (fun hb6 => ?_) (fun hb6 => ?_)
  · -- decide ((↑k : Int) < 55) is true
    replace hb6 := of_decide_eq_true hb6
    have hk : k < 55 := by omega
    refine wpIn_skip ?_
    refine hK5 _ _ ?_
    refine wpIn_seq_k fun K7 hK7 => ?_
    refine wpIn_block ?_
    refine wpIn_seq_k fun K8 hK8 => ?_
    refine region 3 (by kernel_rfl) ?_
    refine seg wide_wide [.run (.agg #[.int .i64 (tno k), .string (twd k)])] [0, 60, 61, 63] [Sem.run Try.prog (vS (Instr.index 29 ((.agg (tcells tabl).toArray)) (.int .i64 ↑k))) w1 = .ok (.value (.agg #[.int .i64 (tno k), .string (twd k)])) w1] [(0, .int .i64 e_), (60, (.agg (tcells tabl).toArray)), (61, .int .i64 ↑k), (63, .agg #[.int .i64 (tno k), .string (twd k)])] 1 2 hS (by kernel_rfl) (by kernel_rfl) (by kernel_rfl) (.cons (ix_arr (e := 28) (k := k) (by kernel_rfl) (by kernel_rfl) (by kernel_rfl) rfl hk (tcells_at hk)) .nil) fun a hS => ?_
    refine eff_box wide_wide (r := 1) (cs := #[.int .i64 0, .string ⟨#[]⟩]) (T := 28) (d := (some 4)) hS (by kernel_rfl) fun a w9 hw10 hS => ?_
    have hB11 : Blk w9 (w1.heap.size) 28 #[.int .i64 0, .string ⟨#[]⟩] := by rw [hw10]; exact Blk.new _ _ _
    have hs12 : w.heap.size ≤ w1.heap.size := hEx.size
    have hE13 : Ext [] w w9 := by rw [hw10]; exact hEx.alloc _
    refine eff_store wide_wide (r := 0) (b := w1.heap.size) (off := 0) (vs := [.int .i64 (tno k), .string (twd k)]) hS (by kernel_rfl) hB11 (by simp) fun a w14 hw15 hS => ?_
    have hB16 : Blk w14 w1.heap.size 28 (#[.int .i64 (tno k), .string (twd k)]) := by rw [hw15]; exact hB11.upd _ _
    have hE17 : Ext [] w w14 := by rw [hw15]; exact hE13.updIn (.inr hs12) _ _
    refine seg_end ?_
    refine hK8 _ _ ?_
    refine wpIn_seq_k fun K18 hK18 => ?_
    refine region 4 (by kernel_rfl) ?_
    refine seg wide_wide [.p, .ld (.int .i64 (tno k)), .p, .p] [0, 60, 61, 4, 67] [w14.cell? ⟨w1.heap.size, 0, none⟩ = some (.int .i64 (tno k))] [(0, .int .i64 e_), (60, (.agg (tcells tabl).toArray)), (61, .int .i64 ↑k), (4, .pointer (some ⟨w1.heap.size, 0, none⟩)), (67, .bool (((tno k) : Int) == e_))] 4 0 hS (by kernel_rfl) (by kernel_rfl) (by kernel_rfl) (.cons (hB16.cell 0 rfl) .nil) fun a hS => ?_
    refine seg_end ?_
    refine hK18 _ _ ?_
    refine cond_b hS rfl (fun hb19 => ?_) (fun hb19 => ?_)
    · -- (((tno k) : Int) == e_) is true
      replace hb19 := test_eq_t hb19
      refine wpIn_seq_k fun K20 hK20 => ?_
      refine region 3 (by kernel_rfl) ?_
      refine seg wide_wide [.p, .ld (.string (twd k)), .p] [0, 60, 61, 4, 2] [w14.cell? ⟨w1.heap.size, 1, none⟩ = some (.string (twd k))] [(0, .int .i64 e_), (60, (.agg (tcells tabl).toArray)), (61, .int .i64 ↑k), (4, .pointer (some ⟨w1.heap.size, 0, none⟩)), (2, .string (twd k))] 3 0 hS (by kernel_rfl) (by kernel_rfl) (by kernel_rfl) (.cons (hB16.cell 1 rfl) .nil) fun a hS => ?_
      refine seg_end ?_
      refine hK20 _ _ ?_
      refine wpIn_ret ?_
      refine inBlock_ret ?_
      refine then_ret ?_
      refine then_ret ?_
      refine inBlock_ret ?_
      refine then_ret ?_
      refine ret1 hS Try.results4 rfl ?_
      exact ⟨by rw [hlk, tdrop hk]; simp [lookup, hb19], hE17⟩
    · -- (((tno k) : Int) == e_) is false
      replace hb19 := test_eq_f hb19
      refine wpIn_skip ?_
      refine inBlock_normal ?_
      refine hK7 _ _ ?_
      refine region 2 (by kernel_rfl) ?_
      refine seg wide_wide [.as (.int .i64 (↑k + 1)), .p] [0, 60, 61, 4] [Value.int .i64 (IntKind.i64.wrap (↑k + 1)) = .int .i64 (↑k + 1)] [(0, .int .i64 e_), (60, (.agg (tcells tabl).toArray)), (61, .int .i64 (↑k + 1)), (4, .pointer (some ⟨w1.heap.size, 0, none⟩))] 2 0 hS (by kernel_rfl) (by kernel_rfl) (by kernel_rfl) (.cons (as_i64 (by omega)) .nil) fun a hS => ?_
      refine seg_end ?_
      exact ⟨k + 1, ⟨hS.keepTo [0, 60, 61] (by kernel_rfl), by omega, by rw [hlk, tdrop hk]; simp [lookup, hb19], hE17⟩, by omega⟩
  · -- decide ((↑k : Int) < 55) is false
    replace hb6 := of_decide_eq_false hb6
    obtain rfl : k = 55 := by omega
    refine wpIn_exit ?_
    refine then_exit ?_
    refine then_exit ?_
    refine inBlock_hit ?_
    refine hK2 _ _ ?_
    refine wpIn_seq_k fun K21 hK21 => ?_
    refine region 1 (by kernel_rfl) ?_
    refine seg wide_wide [.p] [0, 60, 2] [] [(0, .int .i64 e_), (60, (.agg (tcells tabl).toArray)), (2, .string ⟨#[101, 114, 114, 111, 114]⟩)] 1 0 hS (by kernel_rfl) (by kernel_rfl) (by kernel_rfl) .nil fun a hS => ?_
    refine seg_end ?_
    refine hK21 _ _ ?_
    refine wpIn_ret ?_
    refine ret1 hS Try.results4 rfl ?_
    exact ⟨by rw [hlk]; rfl, hEx⟩

def names : Array Value := #[.int .i64 0, .int .i64 1, .int .i64 2, .int .i64 3, .int .i64 4, .int .i64 5, .int .i64 6, .int .i64 20, .int .i64 21, .int .i64 22, .int .i64 23, .int .i64 24, .int .i64 30, .int .i64 31, .int .i64 50, .int .i64 51, .int .i64 60, .int .i64 61, .int .i64 62, .int .i64 63, .int .i64 64, .int .i64 65, .int .i64 70, .int .i64 71, .int .i64 72, .int .i64 73, .int .i64 74, .int .i64 80, .int .i64 81, .int .i64 90, .int .i64 100, .int .i64 101, .int .i64 110, .int .i64 111, .int .i64 120, .int .i64 140, .int .i64 141, .int .i64 142, .int .i64 143, .int .i64 150, .int .i64 151, .int .i64 160, .int .i64 170, .int .i64 171, .int .i64 172, .int .i64 180, .int .i64 181, .int .i64 182, .int .i64 190, .int .i64 191, .int .i64 192, .int .i64 193, .int .i64 194, .int .i64 200, .int .i64 201, .int .i64 16777216, .int .i64 262144, .int .i64 64, .int .i64 4096, .int .i64 1000, .int .i64 4096, .int .i64 64, .int .i64 64, .int .i64 128, .int .i64 512, .int .i64 16, .int .i64 65536, .int .i64 2048, .int .i64 256, .int .i64 4194304, .int .i64 4096, .int .i64 1024, .int .i64 16777216, .int .i64 4096, .int .i64 4096, .int .i64 1048576, .int .i64 64, .int .i64 64, .int .i64 16, .int .i64 16, .int .i64 4096, .int .i64 67108864, .int .i64 65536, .int .i64 512, .int .i64 1, .int .i64 2, .int .i64 3, .int .i64 4, .int .i64 1, .int .i64 2, .int .i64 3, .int .i64 (-1), .int .i64 (-2), .int .i64 1, .int .i64 2, .int .i64 3, .int .i64 4, .int .i64 5, .int .i64 0, .int .i64 1, .int .i64 2, .int .i64 3, .int .i64 1, .int .i64 2, .int .i64 3, .int .i64 1, .int .i64 2, .int .i64 3, .int .i64 4, .int .i64 5, .int .i64 1, .int .i64 2, .int .i64 3, .int .i64 4, .int .i64 5, .int .i64 6, .int .i64 7, .int .i64 8, .int .i64 9, .int .i64 10]
set_option maxHeartbeats 1000000 in
set_option maxRecDepth 100000 in
theorem Numbers_f (w : World) :
    Calls Try.prog 5 #[] w fun e w' => e = .returned (.agg names) ∧ Ext [] w w' := by
  refine calls_body 2 [] Try.func5 rfl (by kernel_rfl) (by kernel_rfl) (by kernel_rfl) fun a hS => ?_
  have hE0 : Ext [] w w := Ext.refl _ _
  refine wpIn_seq_k fun K1 hK1 => ?_
  refine region 1 (by kernel_rfl) ?_
  refine eff_box wide_wide (r := 0) (cs := #[.int .i64 0, .int .i64 0, .int .i64 0, .int .i64 0, .int .i64 0, .int .i64 0, .int .i64 0, .int .i64 0, .int .i64 0, .int .i64 0, .int .i64 0, .int .i64 0, .int .i64 0, .int .i64 0, .int .i64 0, .int .i64 0, .int .i64 0, .int .i64 0, .int .i64 0, .int .i64 0, .int .i64 0, .int .i64 0, .int .i64 0, .int .i64 0, .int .i64 0, .int .i64 0, .int .i64 0, .int .i64 0, .int .i64 0, .int .i64 0, .int .i64 0, .int .i64 0, .int .i64 0, .int .i64 0, .int .i64 0, .int .i64 0, .int .i64 0, .int .i64 0, .int .i64 0, .int .i64 0, .int .i64 0, .int .i64 0, .int .i64 0, .int .i64 0, .int .i64 0, .int .i64 0, .int .i64 0, .int .i64 0, .int .i64 0, .int .i64 0, .int .i64 0, .int .i64 0, .int .i64 0, .int .i64 0, .int .i64 0, .int .i64 0, .int .i64 0, .int .i64 0, .int .i64 0, .int .i64 0, .int .i64 0, .int .i64 0, .int .i64 0, .int .i64 0, .int .i64 0, .int .i64 0, .int .i64 0, .int .i64 0, .int .i64 0, .int .i64 0, .int .i64 0, .int .i64 0, .int .i64 0, .int .i64 0, .int .i64 0, .int .i64 0, .int .i64 0, .int .i64 0, .int .i64 0, .int .i64 0, .int .i64 0, .int .i64 0, .int .i64 0, .int .i64 0, .int .i64 0, .int .i64 0, .int .i64 0, .int .i64 0, .int .i64 0, .int .i64 0, .int .i64 0, .int .i64 0, .int .i64 0, .int .i64 0, .int .i64 0, .int .i64 0, .int .i64 0, .int .i64 0, .int .i64 0, .int .i64 0, .int .i64 0, .int .i64 0, .int .i64 0, .int .i64 0, .int .i64 0, .int .i64 0, .int .i64 0, .int .i64 0, .int .i64 0, .int .i64 0, .int .i64 0, .int .i64 0, .int .i64 0, .int .i64 0, .int .i64 0, .int .i64 0, .int .i64 0, .int .i64 0, .int .i64 0, .int .i64 0]) (T := 25) (d := (some 0)) hS (by kernel_rfl) fun a w2 hw3 hS => ?_
  have hB4 : Blk w2 (w.heap.size) 25 #[.int .i64 0, .int .i64 0, .int .i64 0, .int .i64 0, .int .i64 0, .int .i64 0, .int .i64 0, .int .i64 0, .int .i64 0, .int .i64 0, .int .i64 0, .int .i64 0, .int .i64 0, .int .i64 0, .int .i64 0, .int .i64 0, .int .i64 0, .int .i64 0, .int .i64 0, .int .i64 0, .int .i64 0, .int .i64 0, .int .i64 0, .int .i64 0, .int .i64 0, .int .i64 0, .int .i64 0, .int .i64 0, .int .i64 0, .int .i64 0, .int .i64 0, .int .i64 0, .int .i64 0, .int .i64 0, .int .i64 0, .int .i64 0, .int .i64 0, .int .i64 0, .int .i64 0, .int .i64 0, .int .i64 0, .int .i64 0, .int .i64 0, .int .i64 0, .int .i64 0, .int .i64 0, .int .i64 0, .int .i64 0, .int .i64 0, .int .i64 0, .int .i64 0, .int .i64 0, .int .i64 0, .int .i64 0, .int .i64 0, .int .i64 0, .int .i64 0, .int .i64 0, .int .i64 0, .int .i64 0, .int .i64 0, .int .i64 0, .int .i64 0, .int .i64 0, .int .i64 0, .int .i64 0, .int .i64 0, .int .i64 0, .int .i64 0, .int .i64 0, .int .i64 0, .int .i64 0, .int .i64 0, .int .i64 0, .int .i64 0, .int .i64 0, .int .i64 0, .int .i64 0, .int .i64 0, .int .i64 0, .int .i64 0, .int .i64 0, .int .i64 0, .int .i64 0, .int .i64 0, .int .i64 0, .int .i64 0, .int .i64 0, .int .i64 0, .int .i64 0, .int .i64 0, .int .i64 0, .int .i64 0, .int .i64 0, .int .i64 0, .int .i64 0, .int .i64 0, .int .i64 0, .int .i64 0, .int .i64 0, .int .i64 0, .int .i64 0, .int .i64 0, .int .i64 0, .int .i64 0, .int .i64 0, .int .i64 0, .int .i64 0, .int .i64 0, .int .i64 0, .int .i64 0, .int .i64 0, .int .i64 0, .int .i64 0, .int .i64 0, .int .i64 0, .int .i64 0, .int .i64 0, .int .i64 0, .int .i64 0] := by rw [hw3]; exact Blk.new _ _ _
  have hs5 : w.heap.size ≤ w.heap.size := hE0.size
  have hE6 : Ext [] w w2 := by rw [hw3]; exact hE0.alloc _
  refine seg_end ?_
  refine hK1 _ _ ?_
  refine wpIn_seq_k fun K7 hK7 => ?_
  refine region 2 (by kernel_rfl) ?_
  refine seg wide_wide [.p] [0, 1] [] [(0, .pointer (some ⟨w.heap.size, 0, none⟩)), (1, .agg #[.int .i64 0, .int .i64 1, .int .i64 2, .int .i64 3, .int .i64 4, .int .i64 5, .int .i64 6, .int .i64 20, .int .i64 21, .int .i64 22, .int .i64 23, .int .i64 24, .int .i64 30, .int .i64 31, .int .i64 50, .int .i64 51, .int .i64 60, .int .i64 61, .int .i64 62, .int .i64 63, .int .i64 64, .int .i64 65, .int .i64 70, .int .i64 71, .int .i64 72, .int .i64 73, .int .i64 74, .int .i64 80, .int .i64 81, .int .i64 90, .int .i64 100, .int .i64 101, .int .i64 110, .int .i64 111, .int .i64 120, .int .i64 140, .int .i64 141, .int .i64 142, .int .i64 143, .int .i64 150, .int .i64 151, .int .i64 160, .int .i64 170, .int .i64 171, .int .i64 172, .int .i64 180, .int .i64 181, .int .i64 182, .int .i64 190, .int .i64 191, .int .i64 192, .int .i64 193, .int .i64 194, .int .i64 200, .int .i64 201, .int .i64 16777216, .int .i64 262144, .int .i64 64, .int .i64 4096, .int .i64 1000, .int .i64 4096, .int .i64 64, .int .i64 64, .int .i64 128, .int .i64 512, .int .i64 16, .int .i64 65536, .int .i64 2048, .int .i64 256, .int .i64 4194304, .int .i64 4096, .int .i64 1024, .int .i64 16777216, .int .i64 4096, .int .i64 4096, .int .i64 1048576, .int .i64 64, .int .i64 64, .int .i64 16, .int .i64 16, .int .i64 4096, .int .i64 67108864, .int .i64 65536, .int .i64 512, .int .i64 1, .int .i64 2, .int .i64 3, .int .i64 4, .int .i64 1, .int .i64 2, .int .i64 3, .int .i64 (-1), .int .i64 (-2), .int .i64 1, .int .i64 2, .int .i64 3, .int .i64 4, .int .i64 5, .int .i64 0, .int .i64 1, .int .i64 2, .int .i64 3, .int .i64 1, .int .i64 2, .int .i64 3, .int .i64 1, .int .i64 2, .int .i64 3, .int .i64 4, .int .i64 5, .int .i64 1, .int .i64 2, .int .i64 3, .int .i64 4, .int .i64 5, .int .i64 6, .int .i64 7, .int .i64 8, .int .i64 9, .int .i64 10])] 1 1 hS (by kernel_rfl) (by kernel_rfl) (by kernel_rfl) .nil fun a hS => ?_
  refine eff_store wide_wide (r := 0) (b := w.heap.size) (off := 0) (vs := [.int .i64 0, .int .i64 1, .int .i64 2, .int .i64 3, .int .i64 4, .int .i64 5, .int .i64 6, .int .i64 20, .int .i64 21, .int .i64 22, .int .i64 23, .int .i64 24, .int .i64 30, .int .i64 31, .int .i64 50, .int .i64 51, .int .i64 60, .int .i64 61, .int .i64 62, .int .i64 63, .int .i64 64, .int .i64 65, .int .i64 70, .int .i64 71, .int .i64 72, .int .i64 73, .int .i64 74, .int .i64 80, .int .i64 81, .int .i64 90, .int .i64 100, .int .i64 101, .int .i64 110, .int .i64 111, .int .i64 120, .int .i64 140, .int .i64 141, .int .i64 142, .int .i64 143, .int .i64 150, .int .i64 151, .int .i64 160, .int .i64 170, .int .i64 171, .int .i64 172, .int .i64 180, .int .i64 181, .int .i64 182, .int .i64 190, .int .i64 191, .int .i64 192, .int .i64 193, .int .i64 194, .int .i64 200, .int .i64 201, .int .i64 16777216, .int .i64 262144, .int .i64 64, .int .i64 4096, .int .i64 1000, .int .i64 4096, .int .i64 64, .int .i64 64, .int .i64 128, .int .i64 512, .int .i64 16, .int .i64 65536, .int .i64 2048, .int .i64 256, .int .i64 4194304, .int .i64 4096, .int .i64 1024, .int .i64 16777216, .int .i64 4096, .int .i64 4096, .int .i64 1048576, .int .i64 64, .int .i64 64, .int .i64 16, .int .i64 16, .int .i64 4096, .int .i64 67108864, .int .i64 65536, .int .i64 512, .int .i64 1, .int .i64 2, .int .i64 3, .int .i64 4, .int .i64 1, .int .i64 2, .int .i64 3, .int .i64 (-1), .int .i64 (-2), .int .i64 1, .int .i64 2, .int .i64 3, .int .i64 4, .int .i64 5, .int .i64 0, .int .i64 1, .int .i64 2, .int .i64 3, .int .i64 1, .int .i64 2, .int .i64 3, .int .i64 1, .int .i64 2, .int .i64 3, .int .i64 4, .int .i64 5, .int .i64 1, .int .i64 2, .int .i64 3, .int .i64 4, .int .i64 5, .int .i64 6, .int .i64 7, .int .i64 8, .int .i64 9, .int .i64 10]) hS (by kernel_rfl) hB4 (by simp) fun a w8 hw9 hS => ?_
  have hB10 : Blk w8 w.heap.size 25 (#[.int .i64 0, .int .i64 1, .int .i64 2, .int .i64 3, .int .i64 4, .int .i64 5, .int .i64 6, .int .i64 20, .int .i64 21, .int .i64 22, .int .i64 23, .int .i64 24, .int .i64 30, .int .i64 31, .int .i64 50, .int .i64 51, .int .i64 60, .int .i64 61, .int .i64 62, .int .i64 63, .int .i64 64, .int .i64 65, .int .i64 70, .int .i64 71, .int .i64 72, .int .i64 73, .int .i64 74, .int .i64 80, .int .i64 81, .int .i64 90, .int .i64 100, .int .i64 101, .int .i64 110, .int .i64 111, .int .i64 120, .int .i64 140, .int .i64 141, .int .i64 142, .int .i64 143, .int .i64 150, .int .i64 151, .int .i64 160, .int .i64 170, .int .i64 171, .int .i64 172, .int .i64 180, .int .i64 181, .int .i64 182, .int .i64 190, .int .i64 191, .int .i64 192, .int .i64 193, .int .i64 194, .int .i64 200, .int .i64 201, .int .i64 16777216, .int .i64 262144, .int .i64 64, .int .i64 4096, .int .i64 1000, .int .i64 4096, .int .i64 64, .int .i64 64, .int .i64 128, .int .i64 512, .int .i64 16, .int .i64 65536, .int .i64 2048, .int .i64 256, .int .i64 4194304, .int .i64 4096, .int .i64 1024, .int .i64 16777216, .int .i64 4096, .int .i64 4096, .int .i64 1048576, .int .i64 64, .int .i64 64, .int .i64 16, .int .i64 16, .int .i64 4096, .int .i64 67108864, .int .i64 65536, .int .i64 512, .int .i64 1, .int .i64 2, .int .i64 3, .int .i64 4, .int .i64 1, .int .i64 2, .int .i64 3, .int .i64 (-1), .int .i64 (-2), .int .i64 1, .int .i64 2, .int .i64 3, .int .i64 4, .int .i64 5, .int .i64 0, .int .i64 1, .int .i64 2, .int .i64 3, .int .i64 1, .int .i64 2, .int .i64 3, .int .i64 1, .int .i64 2, .int .i64 3, .int .i64 4, .int .i64 5, .int .i64 1, .int .i64 2, .int .i64 3, .int .i64 4, .int .i64 5, .int .i64 6, .int .i64 7, .int .i64 8, .int .i64 9, .int .i64 10]) := by rw [hw9]; exact hB4.upd _ _
  have hE11 : Ext [] w w8 := by rw [hw9]; exact hE6.updIn (.inr hs5) _ _
  refine seg_end ?_
  refine hK7 _ _ ?_
  refine wpIn_ret ?_
  refine retA1 hS Try.results5 (by kernel_rfl) (by kernel_rfl) rfl hB10 ?_
  exact ⟨rfl, hE11⟩

set_option maxHeartbeats 1000000 in
set_option maxRecDepth 100000 in
theorem Given_f (w : World) :
    Calls Try.prog 6 #[] w fun e w' => e = .returned (.agg names) ∧ Ext [] w w' := by
  refine calls_body 2 [] Try.func6 rfl (by kernel_rfl) (by kernel_rfl) (by kernel_rfl) fun a hS => ?_
  have hE0 : Ext [] w w := Ext.refl _ _
  refine wpIn_seq_k fun K1 hK1 => ?_
  refine region 1 (by kernel_rfl) ?_
  refine eff_box wide_wide (r := 0) (cs := #[.int .i64 0, .int .i64 0, .int .i64 0, .int .i64 0, .int .i64 0, .int .i64 0, .int .i64 0, .int .i64 0, .int .i64 0, .int .i64 0, .int .i64 0, .int .i64 0, .int .i64 0, .int .i64 0, .int .i64 0, .int .i64 0, .int .i64 0, .int .i64 0, .int .i64 0, .int .i64 0, .int .i64 0, .int .i64 0, .int .i64 0, .int .i64 0, .int .i64 0, .int .i64 0, .int .i64 0, .int .i64 0, .int .i64 0, .int .i64 0, .int .i64 0, .int .i64 0, .int .i64 0, .int .i64 0, .int .i64 0, .int .i64 0, .int .i64 0, .int .i64 0, .int .i64 0, .int .i64 0, .int .i64 0, .int .i64 0, .int .i64 0, .int .i64 0, .int .i64 0, .int .i64 0, .int .i64 0, .int .i64 0, .int .i64 0, .int .i64 0, .int .i64 0, .int .i64 0, .int .i64 0, .int .i64 0, .int .i64 0, .int .i64 0, .int .i64 0, .int .i64 0, .int .i64 0, .int .i64 0, .int .i64 0, .int .i64 0, .int .i64 0, .int .i64 0, .int .i64 0, .int .i64 0, .int .i64 0, .int .i64 0, .int .i64 0, .int .i64 0, .int .i64 0, .int .i64 0, .int .i64 0, .int .i64 0, .int .i64 0, .int .i64 0, .int .i64 0, .int .i64 0, .int .i64 0, .int .i64 0, .int .i64 0, .int .i64 0, .int .i64 0, .int .i64 0, .int .i64 0, .int .i64 0, .int .i64 0, .int .i64 0, .int .i64 0, .int .i64 0, .int .i64 0, .int .i64 0, .int .i64 0, .int .i64 0, .int .i64 0, .int .i64 0, .int .i64 0, .int .i64 0, .int .i64 0, .int .i64 0, .int .i64 0, .int .i64 0, .int .i64 0, .int .i64 0, .int .i64 0, .int .i64 0, .int .i64 0, .int .i64 0, .int .i64 0, .int .i64 0, .int .i64 0, .int .i64 0, .int .i64 0, .int .i64 0, .int .i64 0, .int .i64 0, .int .i64 0, .int .i64 0, .int .i64 0, .int .i64 0]) (T := 25) (d := (some 0)) hS (by kernel_rfl) fun a w2 hw3 hS => ?_
  have hB4 : Blk w2 (w.heap.size) 25 #[.int .i64 0, .int .i64 0, .int .i64 0, .int .i64 0, .int .i64 0, .int .i64 0, .int .i64 0, .int .i64 0, .int .i64 0, .int .i64 0, .int .i64 0, .int .i64 0, .int .i64 0, .int .i64 0, .int .i64 0, .int .i64 0, .int .i64 0, .int .i64 0, .int .i64 0, .int .i64 0, .int .i64 0, .int .i64 0, .int .i64 0, .int .i64 0, .int .i64 0, .int .i64 0, .int .i64 0, .int .i64 0, .int .i64 0, .int .i64 0, .int .i64 0, .int .i64 0, .int .i64 0, .int .i64 0, .int .i64 0, .int .i64 0, .int .i64 0, .int .i64 0, .int .i64 0, .int .i64 0, .int .i64 0, .int .i64 0, .int .i64 0, .int .i64 0, .int .i64 0, .int .i64 0, .int .i64 0, .int .i64 0, .int .i64 0, .int .i64 0, .int .i64 0, .int .i64 0, .int .i64 0, .int .i64 0, .int .i64 0, .int .i64 0, .int .i64 0, .int .i64 0, .int .i64 0, .int .i64 0, .int .i64 0, .int .i64 0, .int .i64 0, .int .i64 0, .int .i64 0, .int .i64 0, .int .i64 0, .int .i64 0, .int .i64 0, .int .i64 0, .int .i64 0, .int .i64 0, .int .i64 0, .int .i64 0, .int .i64 0, .int .i64 0, .int .i64 0, .int .i64 0, .int .i64 0, .int .i64 0, .int .i64 0, .int .i64 0, .int .i64 0, .int .i64 0, .int .i64 0, .int .i64 0, .int .i64 0, .int .i64 0, .int .i64 0, .int .i64 0, .int .i64 0, .int .i64 0, .int .i64 0, .int .i64 0, .int .i64 0, .int .i64 0, .int .i64 0, .int .i64 0, .int .i64 0, .int .i64 0, .int .i64 0, .int .i64 0, .int .i64 0, .int .i64 0, .int .i64 0, .int .i64 0, .int .i64 0, .int .i64 0, .int .i64 0, .int .i64 0, .int .i64 0, .int .i64 0, .int .i64 0, .int .i64 0, .int .i64 0, .int .i64 0, .int .i64 0, .int .i64 0, .int .i64 0, .int .i64 0] := by rw [hw3]; exact Blk.new _ _ _
  have hs5 : w.heap.size ≤ w.heap.size := hE0.size
  have hE6 : Ext [] w w2 := by rw [hw3]; exact hE0.alloc _
  refine seg_end ?_
  refine hK1 _ _ ?_
  refine wpIn_seq_k fun K7 hK7 => ?_
  refine region 2 (by kernel_rfl) ?_
  refine seg wide_wide [.p] [0, 1] [] [(0, .pointer (some ⟨w.heap.size, 0, none⟩)), (1, .agg #[.int .i64 0, .int .i64 1, .int .i64 2, .int .i64 3, .int .i64 4, .int .i64 5, .int .i64 6, .int .i64 20, .int .i64 21, .int .i64 22, .int .i64 23, .int .i64 24, .int .i64 30, .int .i64 31, .int .i64 50, .int .i64 51, .int .i64 60, .int .i64 61, .int .i64 62, .int .i64 63, .int .i64 64, .int .i64 65, .int .i64 70, .int .i64 71, .int .i64 72, .int .i64 73, .int .i64 74, .int .i64 80, .int .i64 81, .int .i64 90, .int .i64 100, .int .i64 101, .int .i64 110, .int .i64 111, .int .i64 120, .int .i64 140, .int .i64 141, .int .i64 142, .int .i64 143, .int .i64 150, .int .i64 151, .int .i64 160, .int .i64 170, .int .i64 171, .int .i64 172, .int .i64 180, .int .i64 181, .int .i64 182, .int .i64 190, .int .i64 191, .int .i64 192, .int .i64 193, .int .i64 194, .int .i64 200, .int .i64 201, .int .i64 16777216, .int .i64 262144, .int .i64 64, .int .i64 4096, .int .i64 1000, .int .i64 4096, .int .i64 64, .int .i64 64, .int .i64 128, .int .i64 512, .int .i64 16, .int .i64 65536, .int .i64 2048, .int .i64 256, .int .i64 4194304, .int .i64 4096, .int .i64 1024, .int .i64 16777216, .int .i64 4096, .int .i64 4096, .int .i64 1048576, .int .i64 64, .int .i64 64, .int .i64 16, .int .i64 16, .int .i64 4096, .int .i64 67108864, .int .i64 65536, .int .i64 512, .int .i64 1, .int .i64 2, .int .i64 3, .int .i64 4, .int .i64 1, .int .i64 2, .int .i64 3, .int .i64 (-1), .int .i64 (-2), .int .i64 1, .int .i64 2, .int .i64 3, .int .i64 4, .int .i64 5, .int .i64 0, .int .i64 1, .int .i64 2, .int .i64 3, .int .i64 1, .int .i64 2, .int .i64 3, .int .i64 1, .int .i64 2, .int .i64 3, .int .i64 4, .int .i64 5, .int .i64 1, .int .i64 2, .int .i64 3, .int .i64 4, .int .i64 5, .int .i64 6, .int .i64 7, .int .i64 8, .int .i64 9, .int .i64 10])] 1 1 hS (by kernel_rfl) (by kernel_rfl) (by kernel_rfl) .nil fun a hS => ?_
  refine eff_store wide_wide (r := 0) (b := w.heap.size) (off := 0) (vs := [.int .i64 0, .int .i64 1, .int .i64 2, .int .i64 3, .int .i64 4, .int .i64 5, .int .i64 6, .int .i64 20, .int .i64 21, .int .i64 22, .int .i64 23, .int .i64 24, .int .i64 30, .int .i64 31, .int .i64 50, .int .i64 51, .int .i64 60, .int .i64 61, .int .i64 62, .int .i64 63, .int .i64 64, .int .i64 65, .int .i64 70, .int .i64 71, .int .i64 72, .int .i64 73, .int .i64 74, .int .i64 80, .int .i64 81, .int .i64 90, .int .i64 100, .int .i64 101, .int .i64 110, .int .i64 111, .int .i64 120, .int .i64 140, .int .i64 141, .int .i64 142, .int .i64 143, .int .i64 150, .int .i64 151, .int .i64 160, .int .i64 170, .int .i64 171, .int .i64 172, .int .i64 180, .int .i64 181, .int .i64 182, .int .i64 190, .int .i64 191, .int .i64 192, .int .i64 193, .int .i64 194, .int .i64 200, .int .i64 201, .int .i64 16777216, .int .i64 262144, .int .i64 64, .int .i64 4096, .int .i64 1000, .int .i64 4096, .int .i64 64, .int .i64 64, .int .i64 128, .int .i64 512, .int .i64 16, .int .i64 65536, .int .i64 2048, .int .i64 256, .int .i64 4194304, .int .i64 4096, .int .i64 1024, .int .i64 16777216, .int .i64 4096, .int .i64 4096, .int .i64 1048576, .int .i64 64, .int .i64 64, .int .i64 16, .int .i64 16, .int .i64 4096, .int .i64 67108864, .int .i64 65536, .int .i64 512, .int .i64 1, .int .i64 2, .int .i64 3, .int .i64 4, .int .i64 1, .int .i64 2, .int .i64 3, .int .i64 (-1), .int .i64 (-2), .int .i64 1, .int .i64 2, .int .i64 3, .int .i64 4, .int .i64 5, .int .i64 0, .int .i64 1, .int .i64 2, .int .i64 3, .int .i64 1, .int .i64 2, .int .i64 3, .int .i64 1, .int .i64 2, .int .i64 3, .int .i64 4, .int .i64 5, .int .i64 1, .int .i64 2, .int .i64 3, .int .i64 4, .int .i64 5, .int .i64 6, .int .i64 7, .int .i64 8, .int .i64 9, .int .i64 10]) hS (by kernel_rfl) hB4 (by simp) fun a w8 hw9 hS => ?_
  have hB10 : Blk w8 w.heap.size 25 (#[.int .i64 0, .int .i64 1, .int .i64 2, .int .i64 3, .int .i64 4, .int .i64 5, .int .i64 6, .int .i64 20, .int .i64 21, .int .i64 22, .int .i64 23, .int .i64 24, .int .i64 30, .int .i64 31, .int .i64 50, .int .i64 51, .int .i64 60, .int .i64 61, .int .i64 62, .int .i64 63, .int .i64 64, .int .i64 65, .int .i64 70, .int .i64 71, .int .i64 72, .int .i64 73, .int .i64 74, .int .i64 80, .int .i64 81, .int .i64 90, .int .i64 100, .int .i64 101, .int .i64 110, .int .i64 111, .int .i64 120, .int .i64 140, .int .i64 141, .int .i64 142, .int .i64 143, .int .i64 150, .int .i64 151, .int .i64 160, .int .i64 170, .int .i64 171, .int .i64 172, .int .i64 180, .int .i64 181, .int .i64 182, .int .i64 190, .int .i64 191, .int .i64 192, .int .i64 193, .int .i64 194, .int .i64 200, .int .i64 201, .int .i64 16777216, .int .i64 262144, .int .i64 64, .int .i64 4096, .int .i64 1000, .int .i64 4096, .int .i64 64, .int .i64 64, .int .i64 128, .int .i64 512, .int .i64 16, .int .i64 65536, .int .i64 2048, .int .i64 256, .int .i64 4194304, .int .i64 4096, .int .i64 1024, .int .i64 16777216, .int .i64 4096, .int .i64 4096, .int .i64 1048576, .int .i64 64, .int .i64 64, .int .i64 16, .int .i64 16, .int .i64 4096, .int .i64 67108864, .int .i64 65536, .int .i64 512, .int .i64 1, .int .i64 2, .int .i64 3, .int .i64 4, .int .i64 1, .int .i64 2, .int .i64 3, .int .i64 (-1), .int .i64 (-2), .int .i64 1, .int .i64 2, .int .i64 3, .int .i64 4, .int .i64 5, .int .i64 0, .int .i64 1, .int .i64 2, .int .i64 3, .int .i64 1, .int .i64 2, .int .i64 3, .int .i64 1, .int .i64 2, .int .i64 3, .int .i64 4, .int .i64 5, .int .i64 1, .int .i64 2, .int .i64 3, .int .i64 4, .int .i64 5, .int .i64 6, .int .i64 7, .int .i64 8, .int .i64 9, .int .i64 10]) := by rw [hw9]; exact hB4.upd _ _
  have hE11 : Ext [] w w8 := by rw [hw9]; exact hE6.updIn (.inr hs5) _ _
  refine seg_end ?_
  refine hK7 _ _ ?_
  refine wpIn_ret ?_
  refine retA1 hS Try.results6 (by kernel_rfl) (by kernel_rfl) rfl hB10 ?_
  exact ⟨rfl, hE11⟩

end Go.Proofs.Ytehlippmnkkaiaa
