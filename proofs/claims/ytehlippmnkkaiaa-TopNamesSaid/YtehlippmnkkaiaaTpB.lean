import Derived.Test.YtehlippmnkkaiaaTpA
namespace Go.Proofs.Ytehlippmnkkaiaa
open Go.Vc

def wds : ByteArray := ⟨#[111, 107, 58, 48, 58, 32, 97, 114, 103, 58, 49, 58, 32, 108, 111, 110, 103, 58, 50, 58, 32, 114, 97, 110, 103, 101, 58, 51, 58, 32, 118, 101, 114, 115, 105, 111, 110, 58, 52, 58, 32, 110, 101, 115, 116, 58, 53, 58, 32, 102, 117, 108, 108, 58, 54, 58, 32, 101, 120, 112, 114, 58, 50, 48, 58, 32, 112, 111, 115, 105, 116, 105, 111, 110, 115, 58, 50, 49, 58, 32, 112, 97, 116, 116, 101, 114, 110, 58, 50, 50, 58, 32, 101, 110, 100, 115, 58, 50, 51, 58, 32, 98, 114, 97, 99, 101, 115, 58, 50, 52, 58, 32, 115, 101, 116, 115, 58, 51, 48, 58, 32, 101, 109, 112, 116, 121, 58, 51, 49, 58, 32, 108, 101, 97, 118, 101, 115, 58, 53, 48, 58, 32, 101, 100, 105, 116, 58, 53, 49, 58, 32, 115, 112, 101, 99, 58, 54, 48, 58, 32, 116, 119, 105, 99, 101, 58, 54, 49, 58, 32, 117, 110, 107, 110, 111, 119, 110, 58, 54, 50, 58, 32, 115, 116, 97, 114, 116, 58, 54, 51, 58, 32, 115, 108, 97, 115, 104, 58, 54, 52, 58, 32, 112, 114, 105, 110, 116, 58, 54, 53, 58, 32, 105, 110, 100, 101, 120, 58, 55, 48, 58, 32, 116, 114, 105, 118, 105, 97, 58, 55, 49, 58, 32, 117, 110, 114, 101, 97, 99, 104, 101, 100, 58, 55, 50, 58, 32, 117, 110, 112, 114, 111, 100, 117, 99, 116, 105, 118, 101, 58, 55, 51, 58, 32, 116, 101, 114, 109, 105, 110, 97, 108, 58, 55, 52, 58, 32, 115, 116, 97, 116, 101, 115, 58, 56, 48, 58, 32, 115, 116, 97, 116, 101, 58, 56, 49, 58, 32, 99, 111, 110, 102, 108, 105, 99, 116, 58, 57, 48, 58, 32, 107, 105, 100, 115, 58, 49, 48, 48, 58, 32, 107, 105, 110, 100, 58, 49, 48, 49, 58, 32, 108, 101, 97, 102, 58, 49, 49, 48, 58, 32, 103, 111, 101, 115, 58, 49, 49, 49, 58, 32, 102, 114, 111, 109, 58, 49, 50, 48, 58, 32, 113, 117, 101, 114, 121, 58, 49, 52, 48, 58, 32, 113, 117, 101, 114, 121, 110, 97, 109, 101, 58, 49, 52, 49, 58, 32, 99, 97, 112, 116, 117, 114, 101, 58, 49, 52, 50, 58, 32, 116, 114, 105, 101, 115, 58, 49, 52, 51, 58, 32, 111, 112, 58, 49, 53, 48, 58, 32, 112, 108, 97, 99, 101, 58, 49, 53, 49, 58, 32, 115, 116, 121, 108, 101, 58, 49, 54, 48, 58, 32, 108, 97, 121, 111, 117, 116, 58, 49, 55, 48, 58, 32, 103, 108, 117, 101, 58, 49, 55, 49, 58, 32, 98, 114, 111, 107, 101, 110, 58, 49, 55, 50, 58, 32, 112, 97, 99, 107, 58, 49, 56, 48, 58, 32, 115, 117, 109, 58, 49, 56, 49, 58, 32, 99, 117, 116, 58, 49, 56, 50, 58, 32, 115, 101, 115, 115, 105, 111, 110, 58, 49, 57, 48, 58, 32, 100, 111, 99, 58, 49, 57, 49, 58, 32, 117, 110, 100, 111, 58, 49, 57, 50, 58, 32, 98, 97, 116, 99, 104, 58, 49, 57, 51, 58, 32, 115, 104, 117, 116, 58, 49, 57, 52, 58, 32, 99, 111, 109, 109, 97, 110, 100, 58, 50, 48, 48, 58, 32, 110, 111, 110, 101, 58, 50, 48, 49, 58]⟩
def wdl : List Nat := [111, 107, 58, 48, 58, 32, 97, 114, 103, 58, 49, 58, 32, 108, 111, 110, 103, 58, 50, 58, 32, 114, 97, 110, 103, 101, 58, 51, 58, 32, 118, 101, 114, 115, 105, 111, 110, 58, 52, 58, 32, 110, 101, 115, 116, 58, 53, 58, 32, 102, 117, 108, 108, 58, 54, 58, 32, 101, 120, 112, 114, 58, 50, 48, 58, 32, 112, 111, 115, 105, 116, 105, 111, 110, 115, 58, 50, 49, 58, 32, 112, 97, 116, 116, 101, 114, 110, 58, 50, 50, 58, 32, 101, 110, 100, 115, 58, 50, 51, 58, 32, 98, 114, 97, 99, 101, 115, 58, 50, 52, 58, 32, 115, 101, 116, 115, 58, 51, 48, 58, 32, 101, 109, 112, 116, 121, 58, 51, 49, 58, 32, 108, 101, 97, 118, 101, 115, 58, 53, 48, 58, 32, 101, 100, 105, 116, 58, 53, 49, 58, 32, 115, 112, 101, 99, 58, 54, 48, 58, 32, 116, 119, 105, 99, 101, 58, 54, 49, 58, 32, 117, 110, 107, 110, 111, 119, 110, 58, 54, 50, 58, 32, 115, 116, 97, 114, 116, 58, 54, 51, 58, 32, 115, 108, 97, 115, 104, 58, 54, 52, 58, 32, 112, 114, 105, 110, 116, 58, 54, 53, 58, 32, 105, 110, 100, 101, 120, 58, 55, 48, 58, 32, 116, 114, 105, 118, 105, 97, 58, 55, 49, 58, 32, 117, 110, 114, 101, 97, 99, 104, 101, 100, 58, 55, 50, 58, 32, 117, 110, 112, 114, 111, 100, 117, 99, 116, 105, 118, 101, 58, 55, 51, 58, 32, 116, 101, 114, 109, 105, 110, 97, 108, 58, 55, 52, 58, 32, 115, 116, 97, 116, 101, 115, 58, 56, 48, 58, 32, 115, 116, 97, 116, 101, 58, 56, 49, 58, 32, 99, 111, 110, 102, 108, 105, 99, 116, 58, 57, 48, 58, 32, 107, 105, 100, 115, 58, 49, 48, 48, 58, 32, 107, 105, 110, 100, 58, 49, 48, 49, 58, 32, 108, 101, 97, 102, 58, 49, 49, 48, 58, 32, 103, 111, 101, 115, 58, 49, 49, 49, 58, 32, 102, 114, 111, 109, 58, 49, 50, 48, 58, 32, 113, 117, 101, 114, 121, 58, 49, 52, 48, 58, 32, 113, 117, 101, 114, 121, 110, 97, 109, 101, 58, 49, 52, 49, 58, 32, 99, 97, 112, 116, 117, 114, 101, 58, 49, 52, 50, 58, 32, 116, 114, 105, 101, 115, 58, 49, 52, 51, 58, 32, 111, 112, 58, 49, 53, 48, 58, 32, 112, 108, 97, 99, 101, 58, 49, 53, 49, 58, 32, 115, 116, 121, 108, 101, 58, 49, 54, 48, 58, 32, 108, 97, 121, 111, 117, 116, 58, 49, 55, 48, 58, 32, 103, 108, 117, 101, 58, 49, 55, 49, 58, 32, 98, 114, 111, 107, 101, 110, 58, 49, 55, 50, 58, 32, 112, 97, 99, 107, 58, 49, 56, 48, 58, 32, 115, 117, 109, 58, 49, 56, 49, 58, 32, 99, 117, 116, 58, 49, 56, 50, 58, 32, 115, 101, 115, 115, 105, 111, 110, 58, 49, 57, 48, 58, 32, 100, 111, 99, 58, 49, 57, 49, 58, 32, 117, 110, 100, 111, 58, 49, 57, 50, 58, 32, 98, 97, 116, 99, 104, 58, 49, 57, 51, 58, 32, 115, 104, 117, 116, 58, 49, 57, 52, 58, 32, 99, 111, 109, 109, 97, 110, 100, 58, 50, 48, 48, 58, 32, 110, 111, 110, 101, 58, 50, 48, 49, 58]
def emp : ByteArray := ⟨#[]⟩
def sameB (x y : ByteArray) : Bool := x.data.toList == y.data.toList
theorem sameB_eq (x y : ByteArray) : (x == y) = sameB x y := by rw [Go.beq_toListBytes, ByteArray.toList_eq, ByteArray.toList_eq]; rfl
def bat (i : Nat) : Nat := wdl.getD i 0
theorem wds_eq : wds.data.toList.map UInt8.toNat = wdl := by kernel_rfl
theorem bat_ok {k : Nat} (hk : k < 578) : (wds[k]?).map UInt8.toNat = some (bat k) := by
  have hs : wds.size = 578 := by kernel_rfl
  have h : k < wds.size := by rw [hs]; exact hk
  rw [getElem?_pos wds k h]
  have h2 : k < wds.data.toList.length := h
  have h3 : (wds.data.toList.map UInt8.toNat)[k]? = some (wds.data.toList[k]).toNat := by simp [List.getElem?_eq_getElem h2]
  rw [wds_eq] at h3
  simp only [Option.map_some, bat, List.getD_eq_getElem?_getD, h3, Option.getD_some]
  rfl
abbrev St3 := Nat × ByteArray × Int
def stepF (s : St3) (i : Nat) : St3 := match Nat.beq (bat i) 58 with
  | true => (match sameB s.2.1 emp with
    | true => (s.1, wds.extract s.1 i, 0)
    | false => (s.1, emp, s.2.2))
  | false => match Nat.beq (bat i) 32 with
    | true => (i + 1, s.2.1, s.2.2)
    | false => match sameB s.2.1 emp with
      | true => s
      | false => (s.1, s.2.1, 10 * s.2.2 + ((bat i : Int) - 48))
def stt : Nat → St3
  | 0 => (0, emp, 0)
  | i + 1 => stepF (stt i) i
def okS (s : St3) (i : Nat) : Bool := Nat.ble s.1 i && (decide (0 ≤ s.2.2) && decide (s.2.2 ≤ 1000)) && match Nat.beq (bat i) 58 with
  | true => sameB s.2.1 emp || sameB (lookup tabl s.2.2) s.2.1
  | false => match Nat.beq (bat i) 32 with
    | true => true
    | false => sameB s.2.1 emp || (Nat.ble 48 (bat i) && Nat.ble (bat i) 57)
def okFrom : Nat → Nat → St3 → Bool
  | 0, _, _ => true
  | f + 1, i, s => okS s i && okFrom f (i + 1) (stepF s i)
theorem okAll : okFrom 578 0 (0, emp, 0) = true := by kernel_rfl
theorem ok_at : ∀ (f i : Nat), okFrom f i (stt i) = true → ∀ j, i ≤ j → j < i + f → okS (stt j) j = true
  | 0, i, _, j, h1, h2 => by omega
  | f + 1, i, h, j, h1, h2 => by
    simp only [okFrom, Bool.and_eq_true] at h
    rcases Nat.eq_or_lt_of_le h1 with rfl | hlt
    · exact h.1
    · exact ok_at f (i + 1) h.2 j (by omega) (by omega)
theorem okS_cases {fr i : Nat} {wo : ByteArray} {n_ : Int} (h : okS (fr, wo, n_) i = true) : fr ≤ i ∧ 0 ≤ n_ ∧ n_ ≤ 1000 ∧
    ((bat i = 58 ∧ sameB wo emp = true) ∨ (bat i = 58 ∧ sameB wo emp = false ∧ sameB (lookup tabl n_) wo = true) ∨ bat i = 32 ∨ (bat i ≠ 58 ∧ bat i ≠ 32 ∧ sameB wo emp = false ∧ 48 ≤ bat i ∧ bat i ≤ 57) ∨ (bat i ≠ 58 ∧ bat i ≠ 32 ∧ sameB wo emp = true)) := by
  simp only [okS, Bool.and_eq_true, decide_eq_true_eq] at h
  obtain ⟨⟨h1, h2, h3⟩, h4⟩ := h
  refine ⟨Nat.le_of_ble_eq_true h1, h2, h3, ?_⟩
  cases hb : Nat.beq (bat i) 58 with
  | true =>
    have hb' := Nat.eq_of_beq_eq_true hb
    rw [hb] at h4
    cases hw : sameB wo emp with
    | true => exact .inl ⟨hb', rfl⟩
    | false => simp [hw] at h4; exact .inr (.inl ⟨hb', rfl, h4⟩)
  | false =>
    have hb' := Nat.ne_of_beq_eq_false hb
    rw [hb] at h4
    cases hc : Nat.beq (bat i) 32 with
    | true => exact .inr (.inr (.inl (Nat.eq_of_beq_eq_true hc)))
    | false =>
      have hc' := Nat.ne_of_beq_eq_false hc
      rw [hc] at h4
      cases hw : sameB wo emp with
      | true => exact .inr (.inr (.inr (.inr ⟨hb', hc', rfl⟩)))
      | false =>
        simp only [hw, Bool.false_or, Bool.and_eq_true] at h4
        exact .inr (.inr (.inr (.inl ⟨hb', hc', rfl, Nat.le_of_ble_eq_true h4.1, Nat.le_of_ble_eq_true h4.2⟩)))
theorem beq_t {a b : Nat} (h : a = b) : Nat.beq a b = true := by subst h; exact Nat.beq_refl a
theorem beq_f {a b : Nat} (h : a ≠ b) : Nat.beq a b = false := by
  cases hb : Nat.beq a b with
  | false => rfl
  | true => exact absurd (Nat.eq_of_beq_eq_true hb) h

set_option maxHeartbeats 4000000 in
set_option maxRecDepth 100000 in
theorem TopNames_any (w : World) :
    Calls Try.prog 3 #[] w fun e w' => e = .returned (.bool true) ∧ Ext [] w w' := by
  refine calls_body 63 [] Try.func3 rfl (by kernel_rfl) (by kernel_rfl) (by kernel_rfl) fun a hS => ?_
  have hE0 : Ext [] w w := Ext.refl _ _
  refine wpIn_seq_k fun K1 hK1 => ?_
  refine region 1 (by kernel_rfl) ?_
  refine seg wide_wide [.p] [0] [] [(0, .bool false)] 1 0 hS (by kernel_rfl) (by kernel_rfl) (by kernel_rfl) .nil fun a hS => ?_
  refine seg_end ?_
  refine hK1 _ _ ?_
  refine wpIn_seq_k fun K2 hK2 => ?_
  refine region 1 (by kernel_rfl) ?_
  refine seg wide_wide [.p] [0, 1] [] [(0, .bool false), (1, .string ⟨#[111, 107, 58, 48, 58, 32, 97, 114, 103, 58, 49, 58, 32, 108, 111, 110, 103, 58, 50, 58, 32, 114, 97, 110, 103, 101, 58, 51, 58, 32, 118, 101, 114, 115, 105, 111, 110, 58, 52, 58, 32, 110, 101, 115, 116, 58, 53, 58, 32, 102, 117, 108, 108, 58, 54, 58, 32, 101, 120, 112, 114, 58, 50, 48, 58, 32, 112, 111, 115, 105, 116, 105, 111, 110, 115, 58, 50, 49, 58, 32, 112, 97, 116, 116, 101, 114, 110, 58, 50, 50, 58, 32, 101, 110, 100, 115, 58, 50, 51, 58, 32, 98, 114, 97, 99, 101, 115, 58, 50, 52, 58, 32, 115, 101, 116, 115, 58, 51, 48, 58, 32, 101, 109, 112, 116, 121, 58, 51, 49, 58, 32, 108, 101, 97, 118, 101, 115, 58, 53, 48, 58, 32, 101, 100, 105, 116, 58, 53, 49, 58, 32, 115, 112, 101, 99, 58, 54, 48, 58, 32, 116, 119, 105, 99, 101, 58, 54, 49, 58, 32, 117, 110, 107, 110, 111, 119, 110, 58, 54, 50, 58, 32, 115, 116, 97, 114, 116, 58, 54, 51, 58, 32, 115, 108, 97, 115, 104, 58, 54, 52, 58, 32, 112, 114, 105, 110, 116, 58, 54, 53, 58, 32, 105, 110, 100, 101, 120, 58, 55, 48, 58, 32, 116, 114, 105, 118, 105, 97, 58, 55, 49, 58, 32, 117, 110, 114, 101, 97, 99, 104, 101, 100, 58, 55, 50, 58, 32, 117, 110, 112, 114, 111, 100, 117, 99, 116, 105, 118, 101, 58, 55, 51, 58, 32, 116, 101, 114, 109, 105, 110, 97, 108, 58, 55, 52, 58, 32, 115, 116, 97, 116, 101, 115, 58, 56, 48, 58, 32, 115, 116, 97, 116, 101, 58, 56, 49, 58, 32, 99, 111, 110, 102, 108, 105, 99, 116, 58, 57, 48, 58, 32, 107, 105, 100, 115, 58, 49, 48, 48, 58, 32, 107, 105, 110, 100, 58, 49, 48, 49, 58, 32, 108, 101, 97, 102, 58, 49, 49, 48, 58, 32, 103, 111, 101, 115, 58, 49, 49, 49, 58, 32, 102, 114, 111, 109, 58, 49, 50, 48, 58, 32, 113, 117, 101, 114, 121, 58, 49, 52, 48, 58, 32, 113, 117, 101, 114, 121, 110, 97, 109, 101, 58, 49, 52, 49, 58, 32, 99, 97, 112, 116, 117, 114, 101, 58, 49, 52, 50, 58, 32, 116, 114, 105, 101, 115, 58, 49, 52, 51, 58, 32, 111, 112, 58, 49, 53, 48, 58, 32, 112, 108, 97, 99, 101, 58, 49, 53, 49, 58, 32, 115, 116, 121, 108, 101, 58, 49, 54, 48, 58, 32, 108, 97, 121, 111, 117, 116, 58, 49, 55, 48, 58, 32, 103, 108, 117, 101, 58, 49, 55, 49, 58, 32, 98, 114, 111, 107, 101, 110, 58, 49, 55, 50, 58, 32, 112, 97, 99, 107, 58, 49, 56, 48, 58, 32, 115, 117, 109, 58, 49, 56, 49, 58, 32, 99, 117, 116, 58, 49, 56, 50, 58, 32, 115, 101, 115, 115, 105, 111, 110, 58, 49, 57, 48, 58, 32, 100, 111, 99, 58, 49, 57, 49, 58, 32, 117, 110, 100, 111, 58, 49, 57, 50, 58, 32, 98, 97, 116, 99, 104, 58, 49, 57, 51, 58, 32, 115, 104, 117, 116, 58, 49, 57, 52, 58, 32, 99, 111, 109, 109, 97, 110, 100, 58, 50, 48, 48, 58, 32, 110, 111, 110, 101, 58, 50, 48, 49, 58]⟩)] 1 0 hS (by kernel_rfl) (by kernel_rfl) (by kernel_rfl) .nil fun a hS => ?_
  refine seg_end ?_
  refine hK2 _ _ ?_
  refine wpIn_seq_k fun K3 hK3 => ?_
  refine region 1 (by kernel_rfl) ?_
  refine seg wide_wide [.p] [0, 1, 2] [] [(0, .bool false), (1, .string ⟨#[111, 107, 58, 48, 58, 32, 97, 114, 103, 58, 49, 58, 32, 108, 111, 110, 103, 58, 50, 58, 32, 114, 97, 110, 103, 101, 58, 51, 58, 32, 118, 101, 114, 115, 105, 111, 110, 58, 52, 58, 32, 110, 101, 115, 116, 58, 53, 58, 32, 102, 117, 108, 108, 58, 54, 58, 32, 101, 120, 112, 114, 58, 50, 48, 58, 32, 112, 111, 115, 105, 116, 105, 111, 110, 115, 58, 50, 49, 58, 32, 112, 97, 116, 116, 101, 114, 110, 58, 50, 50, 58, 32, 101, 110, 100, 115, 58, 50, 51, 58, 32, 98, 114, 97, 99, 101, 115, 58, 50, 52, 58, 32, 115, 101, 116, 115, 58, 51, 48, 58, 32, 101, 109, 112, 116, 121, 58, 51, 49, 58, 32, 108, 101, 97, 118, 101, 115, 58, 53, 48, 58, 32, 101, 100, 105, 116, 58, 53, 49, 58, 32, 115, 112, 101, 99, 58, 54, 48, 58, 32, 116, 119, 105, 99, 101, 58, 54, 49, 58, 32, 117, 110, 107, 110, 111, 119, 110, 58, 54, 50, 58, 32, 115, 116, 97, 114, 116, 58, 54, 51, 58, 32, 115, 108, 97, 115, 104, 58, 54, 52, 58, 32, 112, 114, 105, 110, 116, 58, 54, 53, 58, 32, 105, 110, 100, 101, 120, 58, 55, 48, 58, 32, 116, 114, 105, 118, 105, 97, 58, 55, 49, 58, 32, 117, 110, 114, 101, 97, 99, 104, 101, 100, 58, 55, 50, 58, 32, 117, 110, 112, 114, 111, 100, 117, 99, 116, 105, 118, 101, 58, 55, 51, 58, 32, 116, 101, 114, 109, 105, 110, 97, 108, 58, 55, 52, 58, 32, 115, 116, 97, 116, 101, 115, 58, 56, 48, 58, 32, 115, 116, 97, 116, 101, 58, 56, 49, 58, 32, 99, 111, 110, 102, 108, 105, 99, 116, 58, 57, 48, 58, 32, 107, 105, 100, 115, 58, 49, 48, 48, 58, 32, 107, 105, 110, 100, 58, 49, 48, 49, 58, 32, 108, 101, 97, 102, 58, 49, 49, 48, 58, 32, 103, 111, 101, 115, 58, 49, 49, 49, 58, 32, 102, 114, 111, 109, 58, 49, 50, 48, 58, 32, 113, 117, 101, 114, 121, 58, 49, 52, 48, 58, 32, 113, 117, 101, 114, 121, 110, 97, 109, 101, 58, 49, 52, 49, 58, 32, 99, 97, 112, 116, 117, 114, 101, 58, 49, 52, 50, 58, 32, 116, 114, 105, 101, 115, 58, 49, 52, 51, 58, 32, 111, 112, 58, 49, 53, 48, 58, 32, 112, 108, 97, 99, 101, 58, 49, 53, 49, 58, 32, 115, 116, 121, 108, 101, 58, 49, 54, 48, 58, 32, 108, 97, 121, 111, 117, 116, 58, 49, 55, 48, 58, 32, 103, 108, 117, 101, 58, 49, 55, 49, 58, 32, 98, 114, 111, 107, 101, 110, 58, 49, 55, 50, 58, 32, 112, 97, 99, 107, 58, 49, 56, 48, 58, 32, 115, 117, 109, 58, 49, 56, 49, 58, 32, 99, 117, 116, 58, 49, 56, 50, 58, 32, 115, 101, 115, 115, 105, 111, 110, 58, 49, 57, 48, 58, 32, 100, 111, 99, 58, 49, 57, 49, 58, 32, 117, 110, 100, 111, 58, 49, 57, 50, 58, 32, 98, 97, 116, 99, 104, 58, 49, 57, 51, 58, 32, 115, 104, 117, 116, 58, 49, 57, 52, 58, 32, 99, 111, 109, 109, 97, 110, 100, 58, 50, 48, 48, 58, 32, 110, 111, 110, 101, 58, 50, 48, 49, 58]⟩), (2, .int .i64 0)] 1 0 hS (by kernel_rfl) (by kernel_rfl) (by kernel_rfl) .nil fun a hS => ?_
  refine seg_end ?_
  refine hK3 _ _ ?_
  refine wpIn_seq_k fun K4 hK4 => ?_
  refine region 1 (by kernel_rfl) ?_
  refine seg wide_wide [.p] [0, 1, 2, 3] [] [(0, .bool false), (1, .string ⟨#[111, 107, 58, 48, 58, 32, 97, 114, 103, 58, 49, 58, 32, 108, 111, 110, 103, 58, 50, 58, 32, 114, 97, 110, 103, 101, 58, 51, 58, 32, 118, 101, 114, 115, 105, 111, 110, 58, 52, 58, 32, 110, 101, 115, 116, 58, 53, 58, 32, 102, 117, 108, 108, 58, 54, 58, 32, 101, 120, 112, 114, 58, 50, 48, 58, 32, 112, 111, 115, 105, 116, 105, 111, 110, 115, 58, 50, 49, 58, 32, 112, 97, 116, 116, 101, 114, 110, 58, 50, 50, 58, 32, 101, 110, 100, 115, 58, 50, 51, 58, 32, 98, 114, 97, 99, 101, 115, 58, 50, 52, 58, 32, 115, 101, 116, 115, 58, 51, 48, 58, 32, 101, 109, 112, 116, 121, 58, 51, 49, 58, 32, 108, 101, 97, 118, 101, 115, 58, 53, 48, 58, 32, 101, 100, 105, 116, 58, 53, 49, 58, 32, 115, 112, 101, 99, 58, 54, 48, 58, 32, 116, 119, 105, 99, 101, 58, 54, 49, 58, 32, 117, 110, 107, 110, 111, 119, 110, 58, 54, 50, 58, 32, 115, 116, 97, 114, 116, 58, 54, 51, 58, 32, 115, 108, 97, 115, 104, 58, 54, 52, 58, 32, 112, 114, 105, 110, 116, 58, 54, 53, 58, 32, 105, 110, 100, 101, 120, 58, 55, 48, 58, 32, 116, 114, 105, 118, 105, 97, 58, 55, 49, 58, 32, 117, 110, 114, 101, 97, 99, 104, 101, 100, 58, 55, 50, 58, 32, 117, 110, 112, 114, 111, 100, 117, 99, 116, 105, 118, 101, 58, 55, 51, 58, 32, 116, 101, 114, 109, 105, 110, 97, 108, 58, 55, 52, 58, 32, 115, 116, 97, 116, 101, 115, 58, 56, 48, 58, 32, 115, 116, 97, 116, 101, 58, 56, 49, 58, 32, 99, 111, 110, 102, 108, 105, 99, 116, 58, 57, 48, 58, 32, 107, 105, 100, 115, 58, 49, 48, 48, 58, 32, 107, 105, 110, 100, 58, 49, 48, 49, 58, 32, 108, 101, 97, 102, 58, 49, 49, 48, 58, 32, 103, 111, 101, 115, 58, 49, 49, 49, 58, 32, 102, 114, 111, 109, 58, 49, 50, 48, 58, 32, 113, 117, 101, 114, 121, 58, 49, 52, 48, 58, 32, 113, 117, 101, 114, 121, 110, 97, 109, 101, 58, 49, 52, 49, 58, 32, 99, 97, 112, 116, 117, 114, 101, 58, 49, 52, 50, 58, 32, 116, 114, 105, 101, 115, 58, 49, 52, 51, 58, 32, 111, 112, 58, 49, 53, 48, 58, 32, 112, 108, 97, 99, 101, 58, 49, 53, 49, 58, 32, 115, 116, 121, 108, 101, 58, 49, 54, 48, 58, 32, 108, 97, 121, 111, 117, 116, 58, 49, 55, 48, 58, 32, 103, 108, 117, 101, 58, 49, 55, 49, 58, 32, 98, 114, 111, 107, 101, 110, 58, 49, 55, 50, 58, 32, 112, 97, 99, 107, 58, 49, 56, 48, 58, 32, 115, 117, 109, 58, 49, 56, 49, 58, 32, 99, 117, 116, 58, 49, 56, 50, 58, 32, 115, 101, 115, 115, 105, 111, 110, 58, 49, 57, 48, 58, 32, 100, 111, 99, 58, 49, 57, 49, 58, 32, 117, 110, 100, 111, 58, 49, 57, 50, 58, 32, 98, 97, 116, 99, 104, 58, 49, 57, 51, 58, 32, 115, 104, 117, 116, 58, 49, 57, 52, 58, 32, 99, 111, 109, 109, 97, 110, 100, 58, 50, 48, 48, 58, 32, 110, 111, 110, 101, 58, 50, 48, 49, 58]⟩), (2, .int .i64 0), (3, .string ⟨#[]⟩)] 1 0 hS (by kernel_rfl) (by kernel_rfl) (by kernel_rfl) .nil fun a hS => ?_
  refine seg_end ?_
  refine hK4 _ _ ?_
  refine wpIn_seq_k fun K5 hK5 => ?_
  refine region 1 (by kernel_rfl) ?_
  refine seg wide_wide [.p] [0, 1, 2, 3, 4] [] [(0, .bool false), (1, .string ⟨#[111, 107, 58, 48, 58, 32, 97, 114, 103, 58, 49, 58, 32, 108, 111, 110, 103, 58, 50, 58, 32, 114, 97, 110, 103, 101, 58, 51, 58, 32, 118, 101, 114, 115, 105, 111, 110, 58, 52, 58, 32, 110, 101, 115, 116, 58, 53, 58, 32, 102, 117, 108, 108, 58, 54, 58, 32, 101, 120, 112, 114, 58, 50, 48, 58, 32, 112, 111, 115, 105, 116, 105, 111, 110, 115, 58, 50, 49, 58, 32, 112, 97, 116, 116, 101, 114, 110, 58, 50, 50, 58, 32, 101, 110, 100, 115, 58, 50, 51, 58, 32, 98, 114, 97, 99, 101, 115, 58, 50, 52, 58, 32, 115, 101, 116, 115, 58, 51, 48, 58, 32, 101, 109, 112, 116, 121, 58, 51, 49, 58, 32, 108, 101, 97, 118, 101, 115, 58, 53, 48, 58, 32, 101, 100, 105, 116, 58, 53, 49, 58, 32, 115, 112, 101, 99, 58, 54, 48, 58, 32, 116, 119, 105, 99, 101, 58, 54, 49, 58, 32, 117, 110, 107, 110, 111, 119, 110, 58, 54, 50, 58, 32, 115, 116, 97, 114, 116, 58, 54, 51, 58, 32, 115, 108, 97, 115, 104, 58, 54, 52, 58, 32, 112, 114, 105, 110, 116, 58, 54, 53, 58, 32, 105, 110, 100, 101, 120, 58, 55, 48, 58, 32, 116, 114, 105, 118, 105, 97, 58, 55, 49, 58, 32, 117, 110, 114, 101, 97, 99, 104, 101, 100, 58, 55, 50, 58, 32, 117, 110, 112, 114, 111, 100, 117, 99, 116, 105, 118, 101, 58, 55, 51, 58, 32, 116, 101, 114, 109, 105, 110, 97, 108, 58, 55, 52, 58, 32, 115, 116, 97, 116, 101, 115, 58, 56, 48, 58, 32, 115, 116, 97, 116, 101, 58, 56, 49, 58, 32, 99, 111, 110, 102, 108, 105, 99, 116, 58, 57, 48, 58, 32, 107, 105, 100, 115, 58, 49, 48, 48, 58, 32, 107, 105, 110, 100, 58, 49, 48, 49, 58, 32, 108, 101, 97, 102, 58, 49, 49, 48, 58, 32, 103, 111, 101, 115, 58, 49, 49, 49, 58, 32, 102, 114, 111, 109, 58, 49, 50, 48, 58, 32, 113, 117, 101, 114, 121, 58, 49, 52, 48, 58, 32, 113, 117, 101, 114, 121, 110, 97, 109, 101, 58, 49, 52, 49, 58, 32, 99, 97, 112, 116, 117, 114, 101, 58, 49, 52, 50, 58, 32, 116, 114, 105, 101, 115, 58, 49, 52, 51, 58, 32, 111, 112, 58, 49, 53, 48, 58, 32, 112, 108, 97, 99, 101, 58, 49, 53, 49, 58, 32, 115, 116, 121, 108, 101, 58, 49, 54, 48, 58, 32, 108, 97, 121, 111, 117, 116, 58, 49, 55, 48, 58, 32, 103, 108, 117, 101, 58, 49, 55, 49, 58, 32, 98, 114, 111, 107, 101, 110, 58, 49, 55, 50, 58, 32, 112, 97, 99, 107, 58, 49, 56, 48, 58, 32, 115, 117, 109, 58, 49, 56, 49, 58, 32, 99, 117, 116, 58, 49, 56, 50, 58, 32, 115, 101, 115, 115, 105, 111, 110, 58, 49, 57, 48, 58, 32, 100, 111, 99, 58, 49, 57, 49, 58, 32, 117, 110, 100, 111, 58, 49, 57, 50, 58, 32, 98, 97, 116, 99, 104, 58, 49, 57, 51, 58, 32, 115, 104, 117, 116, 58, 49, 57, 52, 58, 32, 99, 111, 109, 109, 97, 110, 100, 58, 50, 48, 48, 58, 32, 110, 111, 110, 101, 58, 50, 48, 49, 58]⟩), (2, .int .i64 0), (3, .string ⟨#[]⟩), (4, .int .i64 0)] 1 0 hS (by kernel_rfl) (by kernel_rfl) (by kernel_rfl) .nil fun a hS => ?_
  refine seg_end ?_
  refine hK5 _ _ ?_
  refine wpIn_seq_k fun K6 hK6 => ?_
  refine wpIn_seq_k fun K7 hK7 => ?_
  refine region 1 (by kernel_rfl) ?_
  refine seg wide_wide [.p] [0, 1, 2, 3, 4, 5] [] [(0, .bool false), (1, .string ⟨#[111, 107, 58, 48, 58, 32, 97, 114, 103, 58, 49, 58, 32, 108, 111, 110, 103, 58, 50, 58, 32, 114, 97, 110, 103, 101, 58, 51, 58, 32, 118, 101, 114, 115, 105, 111, 110, 58, 52, 58, 32, 110, 101, 115, 116, 58, 53, 58, 32, 102, 117, 108, 108, 58, 54, 58, 32, 101, 120, 112, 114, 58, 50, 48, 58, 32, 112, 111, 115, 105, 116, 105, 111, 110, 115, 58, 50, 49, 58, 32, 112, 97, 116, 116, 101, 114, 110, 58, 50, 50, 58, 32, 101, 110, 100, 115, 58, 50, 51, 58, 32, 98, 114, 97, 99, 101, 115, 58, 50, 52, 58, 32, 115, 101, 116, 115, 58, 51, 48, 58, 32, 101, 109, 112, 116, 121, 58, 51, 49, 58, 32, 108, 101, 97, 118, 101, 115, 58, 53, 48, 58, 32, 101, 100, 105, 116, 58, 53, 49, 58, 32, 115, 112, 101, 99, 58, 54, 48, 58, 32, 116, 119, 105, 99, 101, 58, 54, 49, 58, 32, 117, 110, 107, 110, 111, 119, 110, 58, 54, 50, 58, 32, 115, 116, 97, 114, 116, 58, 54, 51, 58, 32, 115, 108, 97, 115, 104, 58, 54, 52, 58, 32, 112, 114, 105, 110, 116, 58, 54, 53, 58, 32, 105, 110, 100, 101, 120, 58, 55, 48, 58, 32, 116, 114, 105, 118, 105, 97, 58, 55, 49, 58, 32, 117, 110, 114, 101, 97, 99, 104, 101, 100, 58, 55, 50, 58, 32, 117, 110, 112, 114, 111, 100, 117, 99, 116, 105, 118, 101, 58, 55, 51, 58, 32, 116, 101, 114, 109, 105, 110, 97, 108, 58, 55, 52, 58, 32, 115, 116, 97, 116, 101, 115, 58, 56, 48, 58, 32, 115, 116, 97, 116, 101, 58, 56, 49, 58, 32, 99, 111, 110, 102, 108, 105, 99, 116, 58, 57, 48, 58, 32, 107, 105, 100, 115, 58, 49, 48, 48, 58, 32, 107, 105, 110, 100, 58, 49, 48, 49, 58, 32, 108, 101, 97, 102, 58, 49, 49, 48, 58, 32, 103, 111, 101, 115, 58, 49, 49, 49, 58, 32, 102, 114, 111, 109, 58, 49, 50, 48, 58, 32, 113, 117, 101, 114, 121, 58, 49, 52, 48, 58, 32, 113, 117, 101, 114, 121, 110, 97, 109, 101, 58, 49, 52, 49, 58, 32, 99, 97, 112, 116, 117, 114, 101, 58, 49, 52, 50, 58, 32, 116, 114, 105, 101, 115, 58, 49, 52, 51, 58, 32, 111, 112, 58, 49, 53, 48, 58, 32, 112, 108, 97, 99, 101, 58, 49, 53, 49, 58, 32, 115, 116, 121, 108, 101, 58, 49, 54, 48, 58, 32, 108, 97, 121, 111, 117, 116, 58, 49, 55, 48, 58, 32, 103, 108, 117, 101, 58, 49, 55, 49, 58, 32, 98, 114, 111, 107, 101, 110, 58, 49, 55, 50, 58, 32, 112, 97, 99, 107, 58, 49, 56, 48, 58, 32, 115, 117, 109, 58, 49, 56, 49, 58, 32, 99, 117, 116, 58, 49, 56, 50, 58, 32, 115, 101, 115, 115, 105, 111, 110, 58, 49, 57, 48, 58, 32, 100, 111, 99, 58, 49, 57, 49, 58, 32, 117, 110, 100, 111, 58, 49, 57, 50, 58, 32, 98, 97, 116, 99, 104, 58, 49, 57, 51, 58, 32, 115, 104, 117, 116, 58, 49, 57, 52, 58, 32, 99, 111, 109, 109, 97, 110, 100, 58, 50, 48, 48, 58, 32, 110, 111, 110, 101, 58, 50, 48, 49, 58]⟩), (2, .int .i64 0), (3, .string ⟨#[]⟩), (4, .int .i64 0), (5, .int .i64 0)] 1 0 hS (by kernel_rfl) (by kernel_rfl) (by kernel_rfl) .nil fun a hS => ?_
  refine seg_end ?_
  refine hK7 _ _ ?_
  refine wpIn_block ?_
  have hS0 := hS.keepTo [1, 2, 3, 4, 5] (m' := [(1, .string wds), (2, .int .i64 (((stt 0).1 : Nat) : Int)), (3, .string ((stt 0).2.1)), (4, .int .i64 ((stt 0).2.2)), (5, .int .i64 ((0 : Nat) : Int))]) (by kernel_rfl)
  clear hS
  have hS := hS0
  refine loop_ghost (fun (i : Nat) a' w' => St 63 [] [(1, .string wds), (2, .int .i64 ((stt i).1 : Int)), (3, .string ((stt i).2.1)), (4, .int .i64 ((stt i).2.2)), (5, .int .i64 ↑i)] a' ∧ Ext [] w w') (fun (i : Nat) => 578 - i) 0 ⟨hS.keepTo [1, 2, 3, 4, 5] (by kernel_rfl), hE0⟩ ?_
  rintro i a w1 ⟨hS, hEx⟩
  refine wpIn_seq_k fun K8 hK8 => ?_
  refine wpIn_seq_k fun K9 hK9 => ?_
  refine region 4 (by kernel_rfl) ?_
  refine seg wide_wide [.p, .p, .p, .p] [1, 2, 3, 4, 5, 9] [] [(1, .string wds), (2, .int .i64 ((stt i).1 : Int)), (3, .string ((stt i).2.1)), (4, .int .i64 ((stt i).2.2)), (5, .int .i64 ↑i), (9, .bool (decide ((↑i : Int) < ↑(ByteArray.size wds))))] 4 0 hS (by kernel_rfl) (by kernel_rfl) (by kernel_rfl) .nil fun a hS => ?_
  refine seg_end ?_
  refine hK9 _ _ ?_
  refine cond_b hS rfl (fun hb10 => ?_) (fun hb10 => ?_)
  · -- decide ((↑i : Int) < ↑(ByteArray.size wds)) is true
    replace hb10 := of_decide_eq_true hb10
    have hi : i < 578 := by
      have hsz : ByteArray.size wds = 578 := by kernel_rfl
      rw [hsz] at hb10
      omega
    have hok := ok_at 578 0 okAll i (by omega) (by omega)
    obtain ⟨fr, wo, n_, hst⟩ : ∃ fr wo n_, stt i = (fr, wo, n_) := ⟨_, _, _, rfl⟩
    rw [hst] at hS hok
    obtain ⟨hfr, hn1, hn2, hcase⟩ := okS_cases hok
    have hnext : stt (i + 1) = stepF (fr, wo, n_) i := by rw [← hst]; rfl
    have hwsz : i ≤ wds.size := by
      have hsz : ByteArray.size wds = 578 := by kernel_rfl
      omega
    replace hS := hS.keepTo [1, 2, 3, 4, 5] (m' := [(1, .string wds), (2, .int .i64 ↑fr), (3, .string wo), (4, .int .i64 n_), (5, .int .i64 ↑i)]) (by kernel_rfl)
    refine wpIn_skip ?_
    refine hK8 _ _ ?_
    refine wpIn_seq_k fun K11 hK11 => ?_
    refine wpIn_block ?_
    refine wpIn_block ?_
    refine wpIn_seq_k fun K12 hK12 => ?_
    rcases hcase with ⟨h1, h2⟩ | ⟨h1, h2, h3⟩ | h1 | ⟨h1, h2, h3, h4, h5⟩ | ⟨h1, h2, h3⟩
    · -- an alternative
      have hsx : stepF (fr, wo, n_) i = (fr, wds.extract fr i, 0) := by simp [stepF, beq_t h1, h2]
      refine region 9 (by kernel_rfl) ?_
      refine seg wide_wide [.p, .p, .run (.int .u8 (↑(bat i))), .as (.bool true), .p, .p, .run (.bool true), .p, .p] [1, 2, 3, 4, 5, 12] [Sem.run Try.prog (vS (Instr.index 9 (.string wds) (.int .i64 ↑i))) w1 = .ok (.value (.int .u8 (↑(bat i)))) w1, Value.bool (((↑(bat i) : Int) == 58)) = .bool true, Sem.run Try.prog (vS (do eqGuard .eql 9 (.tmp 18) (.const (.string ⟨#[]⟩)) (.string wo) (.string ⟨#[]⟩); binOp .eql 9 (.string wo) (.string ⟨#[]⟩))) w1 = .ok (.value (.bool true)) w1] [(1, .string wds), (2, .int .i64 ↑fr), (3, .string wo), (4, .int .i64 n_), (5, .int .i64 ↑i), (12, .bool true)] 9 0 hS (by kernel_rfl) (by kernel_rfl) (by kernel_rfl) (.cons (ix_str (k := i) (by kernel_rfl) rfl (bat_ok hi)) (.cons (as_eq_t (by omega)) (.cons (bin_str_eql (by rw [sameB_eq]; exact h2)) .nil))) fun a hS => ?_
      refine seg_end ?_
      refine hK12 _ _ ?_
      refine cond_t hS rfl ?_
      refine wpIn_seq_k fun K13 hK13 => ?_
      refine region 5 (by kernel_rfl) ?_
      refine seg wide_wide [.p, .p, .p, .run (.string (wds.extract fr i)), .p] [1, 2, 3, 4, 5, 12] [Sem.run Try.prog (vS (Instr.sliceAt 9 (.string wds) (some (.int .i64 ↑fr)) (some (.int .i64 ↑i)) none)) w1 = .ok (.value (.string (wds.extract fr i))) w1] [(1, .string wds), (2, .int .i64 ↑fr), (3, .string (wds.extract fr i)), (4, .int .i64 n_), (5, .int .i64 ↑i), (12, .bool true)] 5 0 hS (by kernel_rfl) (by kernel_rfl) (by kernel_rfl) (.cons (sl_str (i := fr) (j := i) (by kernel_rfl) rfl rfl hfr hwsz) .nil) fun a hS => ?_
      refine seg_end ?_
      refine hK13 _ _ ?_
      refine region 1 (by kernel_rfl) ?_
      refine seg wide_wide [.p] [1, 2, 3, 4, 5, 12] [] [(1, .string wds), (2, .int .i64 ↑fr), (3, .string (wds.extract fr i)), (4, .int .i64 0), (5, .int .i64 ↑i), (12, .bool true)] 1 0 hS (by kernel_rfl) (by kernel_rfl) (by kernel_rfl) .nil fun a hS => ?_
      refine seg_end ?_
      refine inBlock_normal ?_
      refine inBlock_normal ?_
      refine hK11 _ _ ?_
      refine region 3 (by kernel_rfl) ?_
      refine seg wide_wide [.p, .as (.int .i64 (↑i + 1)), .p] [1, 2, 3, 4, 5, 12] [Value.int .i64 (IntKind.i64.wrap (↑i + 1)) = .int .i64 (↑i + 1)] [(1, .string wds), (2, .int .i64 ↑fr), (3, .string (wds.extract fr i)), (4, .int .i64 0), (5, .int .i64 (↑i + 1)), (12, .bool true)] 3 0 hS (by kernel_rfl) (by kernel_rfl) (by kernel_rfl) (.cons (as_i64 (by omega)) .nil) fun a hS => ?_
      refine seg_end ?_
      exact ⟨i + 1, ⟨by rw [hnext, hsx]; exact hS.keepTo [1, 2, 3, 4, 5] (by kernel_rfl), hEx⟩, by omega⟩
    · -- an alternative
      have hsx : stepF (fr, wo, n_) i = (fr, emp, n_) := by simp [stepF, beq_t h1, h2]
      refine region 9 (by kernel_rfl) ?_
      refine seg wide_wide [.p, .p, .run (.int .u8 (↑(bat i))), .as (.bool true), .p, .p, .run (.bool false), .p, .p] [1, 2, 3, 4, 5, 12] [Sem.run Try.prog (vS (Instr.index 9 (.string wds) (.int .i64 ↑i))) w1 = .ok (.value (.int .u8 (↑(bat i)))) w1, Value.bool (((↑(bat i) : Int) == 58)) = .bool true, Sem.run Try.prog (vS (do eqGuard .eql 9 (.tmp 18) (.const (.string ⟨#[]⟩)) (.string wo) (.string ⟨#[]⟩); binOp .eql 9 (.string wo) (.string ⟨#[]⟩))) w1 = .ok (.value (.bool false)) w1] [(1, .string wds), (2, .int .i64 ↑fr), (3, .string wo), (4, .int .i64 n_), (5, .int .i64 ↑i), (12, .bool false)] 9 0 hS (by kernel_rfl) (by kernel_rfl) (by kernel_rfl) (.cons (ix_str (k := i) (by kernel_rfl) rfl (bat_ok hi)) (.cons (as_eq_t (by omega)) (.cons (bin_str_eql (by rw [sameB_eq]; exact h2)) .nil))) fun a hS => ?_
      refine seg_end ?_
      refine hK12 _ _ ?_
      refine cond_f hS rfl ?_
      refine wpIn_seq_k fun K14 hK14 => ?_
      refine region 5 (by kernel_rfl) ?_
      refine seg wide_wide [.p, .p, .run (.int .u8 (↑(bat i))), .as (.bool true), .p] [1, 2, 3, 4, 5, 12, 25] [Sem.run Try.prog (vS (Instr.index 9 (.string wds) (.int .i64 ↑i))) w1 = .ok (.value (.int .u8 (↑(bat i)))) w1, Value.bool (((↑(bat i) : Int) == 58)) = .bool true] [(1, .string wds), (2, .int .i64 ↑fr), (3, .string wo), (4, .int .i64 n_), (5, .int .i64 ↑i), (12, .bool false), (25, .bool true)] 5 0 hS (by kernel_rfl) (by kernel_rfl) (by kernel_rfl) (.cons (ix_str (k := i) (by kernel_rfl) rfl (bat_ok hi)) (.cons (as_eq_t (by omega)) .nil)) fun a hS => ?_
      refine seg_end ?_
      refine hK14 _ _ ?_
      refine cond_t hS rfl ?_
      refine wpIn_seq_k fun K15 hK15 => ?_
      refine wpIn_seq_k fun K16 hK16 => ?_
      refine region 4 (by kernel_rfl) ?_
      refine seg wide_wide [.p] [1, 2, 3, 4, 5, 12, 25, 30] [] [(1, .string wds), (2, .int .i64 ↑fr), (3, .string wo), (4, .int .i64 n_), (5, .int .i64 ↑i), (12, .bool false), (25, .bool true), (30, .int .i64 n_)] 1 3 hS (by kernel_rfl) (by kernel_rfl) (by kernel_rfl) .nil fun a hS => ?_
      refine eff_call wide_wide (r := 2) (f := 4) (vs := [.int .i64 n_]) (cap := #[]) (d := (some 31)) hS (by kernel_rfl) Try.call4 #[.int .i64 n_] (by kernel_rfl) (Error_any n_ w1) ?_
      rintro _ we17 ⟨rfl, hEe17⟩
      refine ⟨_, rfl, fun a hS => ?_⟩
      have hEe17x := hEx.trans0 hEe17
      refine seg wide_wide [.p, .run (.bool false)] [1, 2, 3, 4, 5, 12, 25, 33] [Sem.run Try.prog (vS (do eqGuard .neq 9 (.tmp 31) (.tmp 32) (.string (lookup tabl n_)) (.string wo); binOp .neq 9 (.string (lookup tabl n_)) (.string wo))) we17 = .ok (.value (.bool false)) we17] [(1, .string wds), (2, .int .i64 ↑fr), (3, .string wo), (4, .int .i64 n_), (5, .int .i64 ↑i), (12, .bool false), (25, .bool true), (33, .bool false)] 4 0 hS (by kernel_rfl) (by kernel_rfl) (by kernel_rfl) (.cons (bin_str_neq (by rw [sameB_eq, h3]; rfl)) .nil) fun a hS => ?_
      refine seg_end ?_
      refine hK16 _ _ ?_
      refine cond_f hS rfl ?_
      refine wpIn_skip ?_
      refine hK15 _ _ ?_
      refine region 1 (by kernel_rfl) ?_
      refine seg wide_wide [.p] [1, 2, 3, 4, 5, 12, 25, 33] [] [(1, .string wds), (2, .int .i64 ↑fr), (3, .string ⟨#[]⟩), (4, .int .i64 n_), (5, .int .i64 ↑i), (12, .bool false), (25, .bool true), (33, .bool false)] 1 0 hS (by kernel_rfl) (by kernel_rfl) (by kernel_rfl) .nil fun a hS => ?_
      refine seg_end ?_
      refine inBlock_normal ?_
      refine inBlock_normal ?_
      refine hK11 _ _ ?_
      refine region 3 (by kernel_rfl) ?_
      refine seg wide_wide [.p, .as (.int .i64 (↑i + 1)), .p] [1, 2, 3, 4, 5, 12, 25, 33] [Value.int .i64 (IntKind.i64.wrap (↑i + 1)) = .int .i64 (↑i + 1)] [(1, .string wds), (2, .int .i64 ↑fr), (3, .string ⟨#[]⟩), (4, .int .i64 n_), (5, .int .i64 (↑i + 1)), (12, .bool false), (25, .bool true), (33, .bool false)] 3 0 hS (by kernel_rfl) (by kernel_rfl) (by kernel_rfl) (.cons (as_i64 (by omega)) .nil) fun a hS => ?_
      refine seg_end ?_
      exact ⟨i + 1, ⟨by rw [hnext, hsx]; exact hS.keepTo [1, 2, 3, 4, 5] (by kernel_rfl), hEe17x⟩, by omega⟩
    · -- an alternative
      have hsx : stepF (fr, wo, n_) i = (i + 1, wo, n_) := by simp [stepF, beq_f (show bat i ≠ 58 by omega), beq_t h1]
      refine region 9 (by kernel_rfl) ?_
      refine seg wide_wide [.p, .p, .run (.int .u8 (↑(bat i))), .as (.bool false), .p, .no, .no, .p, .p] [1, 2, 3, 4, 5, 12] [Sem.run Try.prog (vS (Instr.index 9 (.string wds) (.int .i64 ↑i))) w1 = .ok (.value (.int .u8 (↑(bat i)))) w1, Value.bool (((↑(bat i) : Int) == 58)) = .bool false] [(1, .string wds), (2, .int .i64 ↑fr), (3, .string wo), (4, .int .i64 n_), (5, .int .i64 ↑i), (12, .bool false)] 9 0 hS (by kernel_rfl) (by kernel_rfl) (by kernel_rfl) (.cons (ix_str (k := i) (by kernel_rfl) rfl (bat_ok hi)) (.cons (as_eq_f (by omega)) .nil)) fun a hS => ?_
      refine seg_end ?_
      refine hK12 _ _ ?_
      refine cond_f hS rfl ?_
      refine wpIn_seq_k fun K18 hK18 => ?_
      refine region 5 (by kernel_rfl) ?_
      refine seg wide_wide [.p, .p, .run (.int .u8 (↑(bat i))), .as (.bool false), .p] [1, 2, 3, 4, 5, 12, 25] [Sem.run Try.prog (vS (Instr.index 9 (.string wds) (.int .i64 ↑i))) w1 = .ok (.value (.int .u8 (↑(bat i)))) w1, Value.bool (((↑(bat i) : Int) == 58)) = .bool false] [(1, .string wds), (2, .int .i64 ↑fr), (3, .string wo), (4, .int .i64 n_), (5, .int .i64 ↑i), (12, .bool false), (25, .bool false)] 5 0 hS (by kernel_rfl) (by kernel_rfl) (by kernel_rfl) (.cons (ix_str (k := i) (by kernel_rfl) rfl (bat_ok hi)) (.cons (as_eq_f (by omega)) .nil)) fun a hS => ?_
      refine seg_end ?_
      refine hK18 _ _ ?_
      refine cond_f hS rfl ?_
      refine wpIn_seq_k fun K19 hK19 => ?_
      refine region 5 (by kernel_rfl) ?_
      refine seg wide_wide [.p, .p, .run (.int .u8 (↑(bat i))), .as (.bool true), .p] [1, 2, 3, 4, 5, 12, 25, 34] [Sem.run Try.prog (vS (Instr.index 9 (.string wds) (.int .i64 ↑i))) w1 = .ok (.value (.int .u8 (↑(bat i)))) w1, Value.bool (((↑(bat i) : Int) == 32)) = .bool true] [(1, .string wds), (2, .int .i64 ↑fr), (3, .string wo), (4, .int .i64 n_), (5, .int .i64 ↑i), (12, .bool false), (25, .bool false), (34, .bool true)] 5 0 hS (by kernel_rfl) (by kernel_rfl) (by kernel_rfl) (.cons (ix_str (k := i) (by kernel_rfl) rfl (bat_ok hi)) (.cons (as_eq_t (by omega)) .nil)) fun a hS => ?_
      refine seg_end ?_
      refine hK19 _ _ ?_
      refine cond_t hS rfl ?_
      refine region 3 (by kernel_rfl) ?_
      refine seg wide_wide [.p, .as (.int .i64 (↑i + 1)), .p] [1, 2, 3, 4, 5, 12, 25, 34] [Value.int .i64 (IntKind.i64.wrap (↑i + 1)) = .int .i64 (↑i + 1)] [(1, .string wds), (2, .int .i64 (↑i + 1)), (3, .string wo), (4, .int .i64 n_), (5, .int .i64 ↑i), (12, .bool false), (25, .bool false), (34, .bool true)] 3 0 hS (by kernel_rfl) (by kernel_rfl) (by kernel_rfl) (.cons (as_i64 (by omega)) .nil) fun a hS => ?_
      refine seg_end ?_
      refine inBlock_normal ?_
      refine inBlock_normal ?_
      refine hK11 _ _ ?_
      refine region 3 (by kernel_rfl) ?_
      refine seg wide_wide [.p, .as (.int .i64 (↑i + 1)), .p] [1, 2, 3, 4, 5, 12, 25, 34] [Value.int .i64 (IntKind.i64.wrap (↑i + 1)) = .int .i64 (↑i + 1)] [(1, .string wds), (2, .int .i64 (↑i + 1)), (3, .string wo), (4, .int .i64 n_), (5, .int .i64 (↑i + 1)), (12, .bool false), (25, .bool false), (34, .bool true)] 3 0 hS (by kernel_rfl) (by kernel_rfl) (by kernel_rfl) (.cons (as_i64 (by omega)) .nil) fun a hS => ?_
      refine seg_end ?_
      exact ⟨i + 1, ⟨by rw [hnext, hsx]; exact hS.keepTo [1, 2, 3, 4, 5] (by kernel_rfl), hEx⟩, by omega⟩
    · -- an alternative
      have hsx : stepF (fr, wo, n_) i = (fr, wo, 10 * n_ + ((bat i : Int) - 48)) := by simp [stepF, beq_f h1, beq_f h2, h3]
      refine region 9 (by kernel_rfl) ?_
      refine seg wide_wide [.p, .p, .run (.int .u8 (↑(bat i))), .as (.bool false), .p, .no, .no, .p, .p] [1, 2, 3, 4, 5, 12] [Sem.run Try.prog (vS (Instr.index 9 (.string wds) (.int .i64 ↑i))) w1 = .ok (.value (.int .u8 (↑(bat i)))) w1, Value.bool (((↑(bat i) : Int) == 58)) = .bool false] [(1, .string wds), (2, .int .i64 ↑fr), (3, .string wo), (4, .int .i64 n_), (5, .int .i64 ↑i), (12, .bool false)] 9 0 hS (by kernel_rfl) (by kernel_rfl) (by kernel_rfl) (.cons (ix_str (k := i) (by kernel_rfl) rfl (bat_ok hi)) (.cons (as_eq_f (by omega)) .nil)) fun a hS => ?_
      refine seg_end ?_
      refine hK12 _ _ ?_
      refine cond_f hS rfl ?_
      refine wpIn_seq_k fun K20 hK20 => ?_
      refine region 5 (by kernel_rfl) ?_
      refine seg wide_wide [.p, .p, .run (.int .u8 (↑(bat i))), .as (.bool false), .p] [1, 2, 3, 4, 5, 12, 25] [Sem.run Try.prog (vS (Instr.index 9 (.string wds) (.int .i64 ↑i))) w1 = .ok (.value (.int .u8 (↑(bat i)))) w1, Value.bool (((↑(bat i) : Int) == 58)) = .bool false] [(1, .string wds), (2, .int .i64 ↑fr), (3, .string wo), (4, .int .i64 n_), (5, .int .i64 ↑i), (12, .bool false), (25, .bool false)] 5 0 hS (by kernel_rfl) (by kernel_rfl) (by kernel_rfl) (.cons (ix_str (k := i) (by kernel_rfl) rfl (bat_ok hi)) (.cons (as_eq_f (by omega)) .nil)) fun a hS => ?_
      refine seg_end ?_
      refine hK20 _ _ ?_
      refine cond_f hS rfl ?_
      refine wpIn_seq_k fun K21 hK21 => ?_
      refine region 5 (by kernel_rfl) ?_
      refine seg wide_wide [.p, .p, .run (.int .u8 (↑(bat i))), .as (.bool false), .p] [1, 2, 3, 4, 5, 12, 25, 34] [Sem.run Try.prog (vS (Instr.index 9 (.string wds) (.int .i64 ↑i))) w1 = .ok (.value (.int .u8 (↑(bat i)))) w1, Value.bool (((↑(bat i) : Int) == 32)) = .bool false] [(1, .string wds), (2, .int .i64 ↑fr), (3, .string wo), (4, .int .i64 n_), (5, .int .i64 ↑i), (12, .bool false), (25, .bool false), (34, .bool false)] 5 0 hS (by kernel_rfl) (by kernel_rfl) (by kernel_rfl) (.cons (ix_str (k := i) (by kernel_rfl) rfl (bat_ok hi)) (.cons (as_eq_f (by omega)) .nil)) fun a hS => ?_
      refine seg_end ?_
      refine hK21 _ _ ?_
      refine cond_f hS rfl ?_
      refine wpIn_seq_k fun K22 hK22 => ?_
      refine region 3 (by kernel_rfl) ?_
      refine seg wide_wide [.p, .run (.bool true), .p] [1, 2, 3, 4, 5, 12, 25, 34, 41] [Sem.run Try.prog (vS (do eqGuard .neq 9 (.tmp 42) (.const (.string ⟨#[]⟩)) (.string wo) (.string ⟨#[]⟩); binOp .neq 9 (.string wo) (.string ⟨#[]⟩))) w1 = .ok (.value (.bool true)) w1] [(1, .string wds), (2, .int .i64 ↑fr), (3, .string wo), (4, .int .i64 n_), (5, .int .i64 ↑i), (12, .bool false), (25, .bool false), (34, .bool false), (41, .bool true)] 3 0 hS (by kernel_rfl) (by kernel_rfl) (by kernel_rfl) (.cons (bin_str_neq (by rw [sameB_eq]; exact (by simpa [emp] using h3 : (!(sameB wo emp)) = true))) .nil) fun a hS => ?_
      refine seg_end ?_
      refine hK22 _ _ ?_
      refine cond_t hS rfl ?_
      refine region 9 (by kernel_rfl) ?_
      refine seg wide_wide [.p, .as (.int .i64 (10 * n_)), .p, .p, .run (.int .u8 (↑(bat i))), .as (.int .u8 ((↑(bat i)) - 48)), .as (.int .i64 ((↑(bat i)) - 48)), .as (.int .i64 ((10 * n_) + ((↑(bat i)) - 48))), .p] [1, 2, 3, 4, 5, 12, 25, 34, 41] [Value.int .i64 (IntKind.i64.wrap (10 * n_)) = .int .i64 (10 * n_), Sem.run Try.prog (vS (Instr.index 9 (.string wds) (.int .i64 ↑i))) w1 = .ok (.value (.int .u8 (↑(bat i)))) w1, Value.int .u8 (IntKind.u8.wrap ((↑(bat i)) - 48)) = .int .u8 ((↑(bat i)) - 48), Value.int .i64 (IntKind.i64.wrap ((↑(bat i)) - 48)) = .int .i64 ((↑(bat i)) - 48), Value.int .i64 (IntKind.i64.wrap ((10 * n_) + ((↑(bat i)) - 48))) = .int .i64 ((10 * n_) + ((↑(bat i)) - 48))] [(1, .string wds), (2, .int .i64 ↑fr), (3, .string wo), (4, .int .i64 ((10 * n_) + ((↑(bat i)) - 48))), (5, .int .i64 ↑i), (12, .bool false), (25, .bool false), (34, .bool false), (41, .bool true)] 9 0 hS (by kernel_rfl) (by kernel_rfl) (by kernel_rfl) (.cons (as_i64 (by omega)) (.cons (ix_str (k := i) (by kernel_rfl) rfl (bat_ok hi)) (.cons (as_u8 (by omega)) (.cons (as_i64 (by omega)) (.cons (as_i64 (by omega)) .nil))))) fun a hS => ?_
      refine seg_end ?_
      refine inBlock_normal ?_
      refine inBlock_normal ?_
      refine hK11 _ _ ?_
      refine region 3 (by kernel_rfl) ?_
      refine seg wide_wide [.p, .as (.int .i64 (↑i + 1)), .p] [1, 2, 3, 4, 5, 12, 25, 34, 41] [Value.int .i64 (IntKind.i64.wrap (↑i + 1)) = .int .i64 (↑i + 1)] [(1, .string wds), (2, .int .i64 ↑fr), (3, .string wo), (4, .int .i64 ((10 * n_) + ((↑(bat i)) - 48))), (5, .int .i64 (↑i + 1)), (12, .bool false), (25, .bool false), (34, .bool false), (41, .bool true)] 3 0 hS (by kernel_rfl) (by kernel_rfl) (by kernel_rfl) (.cons (as_i64 (by omega)) .nil) fun a hS => ?_
      refine seg_end ?_
      exact ⟨i + 1, ⟨by rw [hnext, hsx]; exact hS.keepTo [1, 2, 3, 4, 5] (by kernel_rfl), hEx⟩, by omega⟩
    · -- an alternative
      have hsx : stepF (fr, wo, n_) i = (fr, wo, n_) := by simp [stepF, beq_f h1, beq_f h2, h3]
      refine region 9 (by kernel_rfl) ?_
      refine seg wide_wide [.p, .p, .run (.int .u8 (↑(bat i))), .as (.bool false), .p, .no, .no, .p, .p] [1, 2, 3, 4, 5, 12] [Sem.run Try.prog (vS (Instr.index 9 (.string wds) (.int .i64 ↑i))) w1 = .ok (.value (.int .u8 (↑(bat i)))) w1, Value.bool (((↑(bat i) : Int) == 58)) = .bool false] [(1, .string wds), (2, .int .i64 ↑fr), (3, .string wo), (4, .int .i64 n_), (5, .int .i64 ↑i), (12, .bool false)] 9 0 hS (by kernel_rfl) (by kernel_rfl) (by kernel_rfl) (.cons (ix_str (k := i) (by kernel_rfl) rfl (bat_ok hi)) (.cons (as_eq_f (by omega)) .nil)) fun a hS => ?_
      refine seg_end ?_
      refine hK12 _ _ ?_
      refine cond_f hS rfl ?_
      refine wpIn_seq_k fun K23 hK23 => ?_
      refine region 5 (by kernel_rfl) ?_
      refine seg wide_wide [.p, .p, .run (.int .u8 (↑(bat i))), .as (.bool false), .p] [1, 2, 3, 4, 5, 12, 25] [Sem.run Try.prog (vS (Instr.index 9 (.string wds) (.int .i64 ↑i))) w1 = .ok (.value (.int .u8 (↑(bat i)))) w1, Value.bool (((↑(bat i) : Int) == 58)) = .bool false] [(1, .string wds), (2, .int .i64 ↑fr), (3, .string wo), (4, .int .i64 n_), (5, .int .i64 ↑i), (12, .bool false), (25, .bool false)] 5 0 hS (by kernel_rfl) (by kernel_rfl) (by kernel_rfl) (.cons (ix_str (k := i) (by kernel_rfl) rfl (bat_ok hi)) (.cons (as_eq_f (by omega)) .nil)) fun a hS => ?_
      refine seg_end ?_
      refine hK23 _ _ ?_
      refine cond_f hS rfl ?_
      refine wpIn_seq_k fun K24 hK24 => ?_
      refine region 5 (by kernel_rfl) ?_
      refine seg wide_wide [.p, .p, .run (.int .u8 (↑(bat i))), .as (.bool false), .p] [1, 2, 3, 4, 5, 12, 25, 34] [Sem.run Try.prog (vS (Instr.index 9 (.string wds) (.int .i64 ↑i))) w1 = .ok (.value (.int .u8 (↑(bat i)))) w1, Value.bool (((↑(bat i) : Int) == 32)) = .bool false] [(1, .string wds), (2, .int .i64 ↑fr), (3, .string wo), (4, .int .i64 n_), (5, .int .i64 ↑i), (12, .bool false), (25, .bool false), (34, .bool false)] 5 0 hS (by kernel_rfl) (by kernel_rfl) (by kernel_rfl) (.cons (ix_str (k := i) (by kernel_rfl) rfl (bat_ok hi)) (.cons (as_eq_f (by omega)) .nil)) fun a hS => ?_
      refine seg_end ?_
      refine hK24 _ _ ?_
      refine cond_f hS rfl ?_
      refine wpIn_seq_k fun K25 hK25 => ?_
      refine region 3 (by kernel_rfl) ?_
      refine seg wide_wide [.p, .run (.bool false), .p] [1, 2, 3, 4, 5, 12, 25, 34, 41] [Sem.run Try.prog (vS (do eqGuard .neq 9 (.tmp 42) (.const (.string ⟨#[]⟩)) (.string wo) (.string ⟨#[]⟩); binOp .neq 9 (.string wo) (.string ⟨#[]⟩))) w1 = .ok (.value (.bool false)) w1] [(1, .string wds), (2, .int .i64 ↑fr), (3, .string wo), (4, .int .i64 n_), (5, .int .i64 ↑i), (12, .bool false), (25, .bool false), (34, .bool false), (41, .bool false)] 3 0 hS (by kernel_rfl) (by kernel_rfl) (by kernel_rfl) (.cons (bin_str_neq (by rw [sameB_eq]; exact (by simpa [emp] using h3 : (!(sameB wo emp)) = false))) .nil) fun a hS => ?_
      refine seg_end ?_
      refine hK25 _ _ ?_
      refine cond_f hS rfl ?_
      refine wpIn_skip ?_
      refine inBlock_normal ?_
      refine inBlock_normal ?_
      refine hK11 _ _ ?_
      refine region 3 (by kernel_rfl) ?_
      refine seg wide_wide [.p, .as (.int .i64 (↑i + 1)), .p] [1, 2, 3, 4, 5, 12, 25, 34, 41] [Value.int .i64 (IntKind.i64.wrap (↑i + 1)) = .int .i64 (↑i + 1)] [(1, .string wds), (2, .int .i64 ↑fr), (3, .string wo), (4, .int .i64 n_), (5, .int .i64 (↑i + 1)), (12, .bool false), (25, .bool false), (34, .bool false), (41, .bool false)] 3 0 hS (by kernel_rfl) (by kernel_rfl) (by kernel_rfl) (.cons (as_i64 (by omega)) .nil) fun a hS => ?_
      refine seg_end ?_
      exact ⟨i + 1, ⟨by rw [hnext, hsx]; exact hS.keepTo [1, 2, 3, 4, 5] (by kernel_rfl), hEx⟩, by omega⟩
  · -- decide ((↑i : Int) < ↑(ByteArray.size wds)) is false
    replace hb10 := of_decide_eq_false hb10
    refine wpIn_exit ?_
    refine then_exit ?_
    refine then_exit ?_
    refine inBlock_hit ?_
    refine hK6 _ _ ?_
    refine wpIn_seq_k fun K26 hK26 => ?_
    refine region 12 (by kernel_rfl) ?_
    refine eff_call wide_wide (r := 11) (f := 4) (vs := [.int .i64 999]) (cap := #[]) (d := (some 52)) hS (by kernel_rfl) Try.call4 #[.int .i64 999] (by kernel_rfl) (Error_any 999 w1) ?_
    rintro _ we27 ⟨rfl, hEe27⟩
    refine ⟨_, rfl, fun a hS => ?_⟩
    have hEe27x := hEx.trans0 hEe27
    refine seg wide_wide [.run (.bool true), .p] [54] [Sem.run Try.prog (vS (do eqGuard .eql 9 (.tmp 52) (.const (.string ⟨#[101, 114, 114, 111, 114]⟩)) (.string (lookup tabl 999)) (.string ⟨#[101, 114, 114, 111, 114]⟩); binOp .eql 9 (.string (lookup tabl 999)) (.string ⟨#[101, 114, 114, 111, 114]⟩))) we27 = .ok (.value (.bool true)) we27] [(54, .bool true)] 3 9 hS (by kernel_rfl) (by kernel_rfl) (by kernel_rfl) (.cons (bin_str_eql (by rw [sameB_eq]; kernel_rfl)) .nil) fun a hS => ?_
    refine eff_call wide_wide (r := 8) (f := 4) (vs := [.int .i64 (-1)]) (cap := #[]) (d := (some 55)) hS (by kernel_rfl) Try.call4 #[.int .i64 (-1)] (by kernel_rfl) (Error_any (-1) we27) ?_
    rintro _ we28 ⟨rfl, hEe28⟩
    refine ⟨_, rfl, fun a hS => ?_⟩
    have hEe28x := hEe27x.trans0 hEe28
    refine seg wide_wide [.run (.bool true), .p, .p] [58] [Sem.run Try.prog (vS (do eqGuard .eql 9 (.tmp 55) (.const (.string ⟨#[101, 114, 114, 111, 114]⟩)) (.string (lookup tabl (-1))) (.string ⟨#[101, 114, 114, 111, 114]⟩); binOp .eql 9 (.string (lookup tabl (-1))) (.string ⟨#[101, 114, 114, 111, 114]⟩))) we28 = .ok (.value (.bool true)) we28] [(58, .bool true)] 7 5 hS (by kernel_rfl) (by kernel_rfl) (by kernel_rfl) (.cons (bin_str_eql (by rw [sameB_eq]; kernel_rfl)) .nil) fun a hS => ?_
    refine eff_call wide_wide (r := 4) (f := 5) (vs := []) (cap := #[]) (d := (some 59)) hS (by kernel_rfl) Try.call5 #[] (by kernel_rfl) (Numbers_f we28) ?_
    rintro _ we29 ⟨rfl, hEe29⟩
    refine ⟨_, rfl, fun a hS => ?_⟩
    have hEe29x := hEe28x.trans0 hEe29
    refine eff_call wide_wide (r := 3) (f := 6) (vs := []) (cap := #[]) (d := (some 60)) hS (by kernel_rfl) Try.call6 #[] (by kernel_rfl) (Given_f we29) ?_
    rintro _ we30 ⟨rfl, hEe30⟩
    refine ⟨_, rfl, fun a hS => ?_⟩
    have hEe30x := hEe29x.trans0 hEe30
    refine seg wide_wide [.run (.bool true), .p, .p] [0] [Sem.run Try.prog (vS (do eqGuard .eql 25 (.tmp 59) (.tmp 60) (.agg names) (.agg names); binOp .eql 25 (.agg names) (.agg names))) we30 = .ok (.value (.bool true)) we30] [(0, .bool true)] 12 0 hS (by kernel_rfl) (by kernel_rfl) (by kernel_rfl) (.cons ((bin_agg_self (by kernel_rfl) (by kernel_rfl)).1) .nil) fun a hS => ?_
    refine seg_end ?_
    refine hK26 _ _ ?_
    refine wpIn_ret ?_
    refine ret1 hS Try.results3 rfl ?_
    exact ⟨rfl, hEe30x⟩

end Go.Proofs.Ytehlippmnkkaiaa
