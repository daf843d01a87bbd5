import Derived.Test.YtkkpghlcmcaoiaaDoorVd
import Derived.Test.YtkkpghlcmcaoiaaDoorVh
import Derived.Test.YtkkpghlcmcaoiaaDoorS53
import Derived.Test.YtkkpghlcmcaoiaaDoorS48
import Derived.Test.YtkkpghlcmcaoiaaDoorS29
import Derived.Test.YtkkpghlcmcaoiaaDoorOa
import Derived.Test.YtkkpghlcmcaoiaaDoorS21
namespace Go.Vc
open Go
section
variable {F : Fence} {P : Program} {ops : Array Oper} {Q : Exit → Act → World → Prop} {a : Act} {w : World} {n : Nat} {ds : List Deferred} {m : Fm}
abbrev Gap := Nat × Option Addr × Nat × Option Addr × Nat
theorem ob_n (b : Option Addr) (n n' c c' : Nat) : ob (.slice b n c) = ob (.slice b n' c') := by cases b <;> rfl
theorem setS_of {D : Nat → Bool} {i j : Nat} (h : Nat.beq j i = false) : setS D i j = D j := by simp [setS, h]
theorem region_app (hW : Wide F) {id : Nat} (items : List Item) (ms : List Nat) (iA iB iC : Nat) (σ : Gap → Fm) (O : World → Prop) (obls : Gap → World → List (Nat × List Prop)) (ks oks : List Nat)
  {wB : World} {e t ty size bytes n1 k : Nat} {z : Array Value} {v0 u : Value} {xs news : List Value} {dA dC : Option Nat}
  (hS : St n ds m a) (hB0 : Ext [] wB w) (hO0 : O w) (hv0 : OwnV w e size v0 0 []) (hn0 : ∀ x ∈ ob v0, wB.heap.size ≤ x)
  (hOx : ∀ (w1 w2 : World) (v : Value) (n : Nat) (ys : List Value), O w1 → OwnV w1 e size v n ys → Ext (ob v) w1 w2 → O w2)
  (hu : ∀ w', Ext [] wB w' → RdV w' size u n1 xs) (hx1 : oneAll xs = true) (hnl : news.length = k * size) (hn1 : oneAll news = true) (hk0 : 0 < k) (hsz : 0 < size)
  (hmax : n1 + k ≤ maxLen) (hmax' : n1 + k ≤ 140737488355328) (hby : (n1 + k) * bytes ≤ 140737488355328)
  (ht : P.underlying t = some (.slice e)) (hinf : infoOf P e = some (size, bytes, z)) (hzs : z.size = size)
  (hm : P.follows .mixedOrders = true)
  (hc : chkS ops ⟨items.map itemEff, [], [], ms⟩ (fkeep m oks) = true) (hN : Nat.beq items.length ops.size = true) (hD : dstsOk ops n = true)
  (hq : ∀ g w, qAll P w (em ops ⟨items.map itemEff, [], [], ms⟩ (fkeep m oks) (σ g)) ops items 0 = some (obls g w, sVals (σ g) ops items 0))
  (hE : (List.range ops.size).filter (Plan.isEff ⟨items.map itemEff, [], [], ms⟩) = [iA, iB, iC])
  (hlive : fkeep m ks = fdrop (isDst ops) (σ (0, none, 0, none, 0)))
  (hAB : Nat.beq iA iB = false) (hAC : Nat.beq iA iC = false) (hBC : Nat.beq iB iC = false) (hBA : Nat.beq iB iA = false) (hCA : Nat.beq iC iA = false) (hCB : Nat.beq iC iB = false)
  (hdA : (ms.getD iC 0).testBit iA = true) (hdB : (ms.getD iC 0).testBit iB = true)
  (hobl : ∀ g w', Ext [] wB w' → O w' → ∀ x ∈ obls g w', AllP x.2)
  (rA : ∀ g, runOf ops n (em ops ⟨items.map itemEff, [], [], ms⟩ (fkeep m oks) (σ g) iA) iA = some (vS (Builtin.append_ #[t, t] ty #[v0, u]), dA))
  (rB : ∀ g nb w, w.heap.size = nb → ∀ Post : Value → World → Prop, Post (.slice (some ⟨nb, 0, none⟩) k k) (w.alloc (.cells news.toArray e)) → UponAt P ops n (em ops ⟨items.map itemEff, [], [], ms⟩ (fkeep m oks) (σ g) iB) iB w Post)
  (rC : ∀ b b1 c1 b2 c2, runOf ops n (em ops ⟨items.map itemEff, [], [], ms⟩ (fkeep m oks) (σ (b, b1, c1, b2, c2)) iC) iC = some (vS (Builtin.append_ #[t, t] ty #[.slice b1 n1 c1, .slice (some ⟨b, 0, none⟩) k k]), dC))
  (sA : ∀ b b1 c1 b2 c2 b1' c1', fdrop (late ops ⟨items.map itemEff, [], [], ms⟩ iA) (σ (b, b1, c1, b2, c2)) = fdrop (late ops ⟨items.map itemEff, [], [], ms⟩ iA) (σ (b, b1', c1', b2, c2)))
  (gA : ∀ b b1 c1 b2 c2, dstGet ops (σ (b, b1, c1, b2, c2)) iA (.slice b1 n1 c1) = some (.slice b1 n1 c1))
  (sB : ∀ b b1 c1 b2 c2 b', fdrop (late ops ⟨items.map itemEff, [], [], ms⟩ iB) (σ (b, b1, c1, b2, c2)) = fdrop (late ops ⟨items.map itemEff, [], [], ms⟩ iB) (σ (b', b1, c1, b2, c2)))
  (gB : ∀ b b1 c1 b2 c2, dstGet ops (σ (b, b1, c1, b2, c2)) iB (.slice (some ⟨b, 0, none⟩) k k) = some (.slice (some ⟨b, 0, none⟩) k k))
  (sC : ∀ b b1 c1 b2 c2 b2' c2', fdrop (late ops ⟨items.map itemEff, [], [], ms⟩ iC) (σ (b, b1, c1, b2, c2)) = fdrop (late ops ⟨items.map itemEff, [], [], ms⟩ iC) (σ (b, b1, c1, b2', c2')))
  (gC : ∀ b b1 c1 b2 c2, dstGet ops (σ (b, b1, c1, b2, c2)) iC (.slice b2 (n1 + k) c2) = some (.slice b2 (n1 + k) c2))
  (hk : ∀ b b1 c1 b2 c2 a' w', St n ds (σ (b, b1, c1, b2, c2)) a' → Ext [] wB w' → O w' → OwnV w' e size (.slice b2 (n1 + k) c2) (n1 + k) (xs ++ news) → (∀ x ∈ ob (.slice b2 (n1 + k) c2), wB.heap.size ≤ x) → Q .normal a' w') :
  (Code.region id ops true).wpIn F 0 P Q a w := by
 have hOe : ∀ w1 w2, O w1 → Ext [] w1 w2 → O w2 := fun w1 w2 h1 h2 => hOx w1 w2 (.slice none 0 0) 0 [] h1 (OwnV.nil _ _ _) (by simpa [ob] using h2)
 let T : (Nat → Bool) → Gap → World → Prop := fun D g w' => Ext [] wB w' ∧ O w' ∧
  (D iB = true → D iC = false → Blk w' g.1 e news.toArray ∧ wB.heap.size ≤ g.1 ∧ (D iA = false → g.1 ∉ ob v0) ∧ (D iA = true → g.1 ∉ ob (.slice g.2.1 n1 g.2.2.1))) ∧
  (D iA = false → OwnV w' e size v0 0 []) ∧
  (D iA = true → D iC = false → OwnV w' e size (.slice g.2.1 n1 g.2.2.1) n1 xs ∧ ∀ x ∈ ob (.slice g.2.1 n1 g.2.2.1), wB.heap.size ≤ x) ∧
  (D iC = true → OwnV w' e size (.slice g.2.2.2.1 (n1 + k) g.2.2.2.2) (n1 + k) (xs ++ news) ∧ ∀ x ∈ ob (.slice g.2.2.2.1 (n1 + k) g.2.2.2.2), wB.heap.size ≤ x)
 refine region_set hW items ms [iA, iB, iC] σ T obls (0, none, 0, none, 0) ks oks hS hm hc hN hD hq hE hlive ⟨hB0.drew, hOe _ _ hO0 ((Ext.refl [] _).drew), fun h => (by cases h), fun _ => hv0.drew, fun h => (by cases h), fun h => by cases h⟩ ?_ (.cons ?_ (.cons ?_ (.cons ?_ .nil))) ?_
 ·exact fun D g w' h x hx _ _ => hobl g w' h.1 h.2.1 x hx
 ·rintro D ⟨b, b1, c1, b2, c2⟩ w' ⟨hE, hO, hB, hA0, _, _⟩ hDi _ hnd
  have hDc : D iC = false := hnd iC (by simp) hdA
  have hA := hA0 hDi
  obtain ⟨bsN, capN, wN, hra, hP⟩ := append_rd (P := P) (w := w') (t := t) (ty := ty) (e := e) (size := size) (bytes := bytes) (n := 0) (k := n1) (z := z) (v := v0) (u := u) (xs := []) (news := xs) ht hinf (by rw [hzs]; exact Nat.beq_refl size) hA (hu _ hE) hx1 (by omega) (Nat.le_trans (Nat.mul_le_mul_right _ (by omega)) hby)
  rw [Nat.zero_add] at hra
  have hOn : OwnV wN e size (.slice bsN n1 capN) n1 xs := by have h := hP.own; simpa using h
  have hfr := hP.fresh
  rw [Nat.zero_add] at hfr
  have hnn : ∀ x ∈ ob (.slice bsN n1 capN), wB.heap.size ≤ x := fun x hx => by
   rcases hfr x hx with h | h
   ·exact hn0 x h
   ·exact Nat.le_trans hE.size h
  refine upon_run (s := vS (Builtin.append_ #[t, t] ty #[v0, u])) (d := dA) (v := .slice bsN n1 capN) (rA _) (vS_run hra) ⟨(b, bsN, capN, b2, c2), sA _ _ _ _ _ _ _, gA _ _ _ _ _, hE.trans hP.ext (fun x hx => .inr (hn0 x hx)), hOx _ _ _ _ _ hO hA hP.ext, fun h1 h2 => ?_, fun h => ?_, fun _ _ => ⟨hOn, hnn⟩, fun h => ?_⟩
  ·rw [setS_of hBA] at h1
   obtain ⟨q1, q2, q3, _⟩ := hB h1 hDc
   refine ⟨q1.ext hP.ext (q3 hDi), q2, fun h => ?_, fun _ hm => ?_⟩
   ·rw [setS_self] at h; cases h
   ·rcases hfr _ hm with h | h
    ·exact q3 hDi h
    ·exact Nat.lt_irrefl _ (Nat.lt_of_lt_of_le q1.lt h)
  ·rw [setS_self] at h; cases h
  ·rw [setS_of hCA, hDc] at h; cases h
 ·rintro D ⟨b, b1, c1, b2, c2⟩ w' ⟨hE, hO, hB, hA0, hA1, _⟩ hDi _ hnd
  have hDc : D iC = false := hnd iC (by simp) hdB
  have hX : Ext [] w' (w'.alloc (.cells news.toArray e)) := (Ext.refl _ _).alloc _
  refine rB _ _ w' rfl _ ⟨(w'.heap.size, b1, c1, b2, c2), sB _ _ _ _ _ _, gB _ _ _ _ _, hE.trans0 hX, hOe _ _ hO hX, fun _ _ => ⟨Blk.new _ _ _, hE.size, fun h hm => ?_, fun h hm => ?_⟩, fun h => ?_, fun h _ => ?_, fun h => ?_⟩
  ·rw [setS_of hAB] at h
   exact Nat.lt_irrefl _ ((hA0 h).lie _ hm)
  ·rw [setS_of hAB] at h
   exact Nat.lt_irrefl _ ((hA1 h hDc).1.lie _ hm)
  ·rw [setS_of hAB] at h
   exact (hA0 h).ext hX (by simp)
  ·rw [setS_of hAB] at h
   exact ⟨(hA1 h hDc).1.ext hX (by simp), (hA1 h hDc).2⟩
  ·rw [setS_of hCB, hDc] at h; cases h
 ·rintro D ⟨b, b1, c1, b2, c2⟩ w' ⟨hE, hO, hB, hA0, hA1, _⟩ hDi hdp _
  have hDa : D iA = true := hdp iA (by simp) hdA
  have hDb : D iB = true := hdp iB (by simp) hdB
  obtain ⟨q1, q2, _, q4⟩ := hB hDb hDi
  obtain ⟨r1, r2⟩ := hA1 hDa hDi
  obtain ⟨g, cap, wN, hra, hOn, hEn, hFn⟩ := append_any (P := P) (w := w') (t := t) (ty := ty) (e := e) (size := size) (bytes := bytes) (n := n1) (b := b) (off := 0) (k := k) (c := k) (z := z) (v := .slice b1 n1 c1) (xs := xs) (news := news) ht hinf hzs hsz r1 hnl (fun j u hu => by rw [Nat.zero_add]; exact q1.cell j (by simpa using hu)) hn1 hk0 hmax hby
  refine upon_run (s := vS (Builtin.append_ #[t, t] ty #[.slice b1 n1 c1, .slice (some ⟨b, 0, none⟩) k k])) (d := dC) (v := .slice (some ⟨g, 0, none⟩) (n1 + k) cap) (rC _ _ _ _ _) (vS_run hra) ⟨(b, b1, c1, some ⟨g, 0, none⟩, cap), sC _ _ _ _ _ _ _, gC _ _ _ _ _, hE.trans hEn (fun x hx => .inr (r2 x hx)), hOx _ _ _ _ _ hO r1 hEn, fun _ h => ?_, fun h => ?_, fun _ h => ?_, fun _ => ⟨hOn.v, fun x hx => ?_⟩⟩
  ·rw [setS_self] at h; cases h
  ·rw [setS_of hAC, hDa] at h; cases h
  ·rw [setS_self] at h; cases h
  ·have hx' : x = g := by simpa [ob] using hx
   rw [hx']
   rcases hFn g (by simp) with h | h
   ·exact r2 _ h
   ·exact Nat.le_trans hE.size h
 ·rintro D ⟨b, b1, c1, b2, c2⟩ a' w' hS' hall ⟨hE, hO, _, _, _, hC⟩
  obtain ⟨h1, h2⟩ := hC (hall iC (by simp))
  exact hk _ _ _ _ _ a' w' hS' hE hO h1 h2
end
end Go.Vc
namespace Go.Proofs.YtkkpghlcmcaoiaaDoor
open Go.Vc Go.Gm
def HdsF (Q : List Nat → Prop) (S : Sp) (r : List Sy) (ts : List Int) (f : Int × Int) (l : List Nat) : Prop :=
 ∃ z : Int × Int, ChkR S z ∧ ((z.1 ≠ 0 ∧ f = z ∧ l = []) ∨ (z.1 = 0 ∧ (((hdE S r ts).1 ≠ 0 ∧ f = hdE S r ts ∧ l = []) ∨ ((hdE S r ts).1 = 0 ∧ f = (0, 0) ∧ Q l))))
theorem Heads_u {w0 w : World} {S : Sp} (hG : SpOk w0 S) (hb : Ext [] w0 w) (hT : Tab w0) {rv : Value} {r : List Sy} (hr : RdV w0 2 rv r.length (ycells r)) (hrm : r.length ≤ 1048576) {nv : Value} {nn : Nat} {ts : List Int} (hn : RdV w0 1 nv nn (its ts)) (hnm : nn ≤ 1048576) :
  Calls Tryd.prog 33 #[.agg S.ca, rv, nv] w fun e w' => ∃ bs n cp l, ∃ f : Int × Int, e = .returned (.tuple #[.slice bs n cp, .agg #[I6 f.1, I6 f.2, .string ⟨#[]⟩]]) ∧ OwnV w' 3 1 (.slice bs n cp) n (ivs l) ∧ (∀ x ∈ ob (.slice bs n cp), w.heap.size ≤ x) ∧ HdsF (HdsR S r ts) S r ts f l ∧ Ext [] w w' := by
 refine (Heads_any hG hb hT hr hrm hn hnm).mono ?_
 rintro e w' ⟨z, hz, h, hE⟩
 rcases h with ⟨h0, rfl⟩ | ⟨h0, ⟨h1, rfl⟩ | ⟨h1, bs, n, cp, l, rfl, hR, hl⟩⟩
 ·exact ⟨none, 0, 0, [], z, rfl, OwnV.nil _ _ _, fun x hx => by simp [ob] at hx, ⟨z, hz, .inl ⟨h0, rfl, rfl⟩⟩, hE⟩
 ·exact ⟨none, 0, 0, [], hdE S r ts, rfl, OwnV.nil _ _ _, fun x hx => by simp [ob] at hx, ⟨z, hz, .inr ⟨h0, .inl ⟨h1, rfl, rfl⟩⟩⟩, hE⟩
 ·exact ⟨bs, n, cp, l, (0, 0), rfl, hR.own, hR.new, ⟨z, hz, .inr ⟨h0, .inr ⟨h1, rfl, hl⟩⟩⟩, hE⟩
theorem Heads_ru {w0 w : World} {S : Sp} (hG : SpOk w0 S) (hb : Ext [] w0 w) {rv : Value} {r : List Sy} (hr : RdV w0 2 rv r.length (ycells r)) (hrm : r.length ≤ 1048576) {nv : Value} {nn : Nat} {ts : List Int} (hn : RdV w0 1 nv nn (its ts)) (hnm : nn ≤ 1048576) :
  Calls Tryd.prog 34 #[.agg S.ca, rv, nv] w fun e w' => ∃ bs n cp l, ∃ f : Int × Int, e = .returned (.tuple #[.slice bs n cp, I6 f.2, I6 f.1]) ∧ OwnV w' 3 1 (.slice bs n cp) n (ivs l) ∧ (∀ x ∈ ob (.slice bs n cp), w.heap.size ≤ x) ∧ HdsF (HdsQ S r ts) S r ts f l ∧ Ext [] w w' := by
 refine (Heads_r hG hb hr hrm hn hnm).mono ?_
 rintro e w' ⟨z, hz, h, hE⟩
 rcases h with ⟨h0, rfl⟩ | ⟨h0, ⟨h1, rfl⟩ | ⟨h1, bs, n, cp, l, rfl, hR, hl⟩⟩
 ·exact ⟨none, 0, 0, [], z, rfl, OwnV.nil _ _ _, fun x hx => by simp [ob] at hx, ⟨z, hz, .inl ⟨h0, rfl, rfl⟩⟩, hE⟩
 ·exact ⟨none, 0, 0, [], hdE S r ts, rfl, OwnV.nil _ _ _, fun x hx => by simp [ob] at hx, ⟨z, hz, .inr ⟨h0, .inl ⟨h1, rfl, rfl⟩⟩⟩, hE⟩
 ·exact ⟨bs, n, cp, l, (0, 0), rfl, hR.own, hR.new, ⟨z, hz, .inr ⟨h0, .inr ⟨h1, rfl, hl⟩⟩⟩, hE⟩
structure HdW (S : Sp) (r : List Sy) (ts : List Int) (N : Nat) (w : World) (bs : Option Addr) (n cp : Nat) (l : List Nat) (f : Int × Int) : Prop where
 own : OwnV w 3 1 (.slice bs n cp) n (ivs l)
 new : ∀ x ∈ ob (.slice bs n cp), N ≤ x
 hf : HdsF (HdsR S r ts) S r ts f l
theorem HdW.ext0 {S : Sp} {r : List Sy} {ts : List Int} {N : Nat} {w w' : World} {bs : Option Addr} {n cp : Nat} {l : List Nat} {f : Int × Int} (h : HdW S r ts N w bs n cp l f) (hE : Ext [] w w') : HdW S r ts N w' bs n cp l f := ⟨h.own.ext hE (by simp), h.new, h.hf⟩
theorem HdW.updT {S : Sp} {r : List Sy} {ts : List Int} {N : Nat} {w : World} {bs : Option Addr} {n cp : Nat} {l : List Nat} {f : Int × Int} (h : HdW S r ts N w bs n cp l f) {b T : Nat} {cs : Array Value} (hB : Blk w b T cs) (hT : 3 ≠ T) (cs' : Array Value) : HdW S r ts N (upd w b T cs') bs n cp l f :=
 ⟨h.own.updNe (h.own.ne hB hT) _ _, h.new, h.hf⟩
theorem HdsF.both {S S2 : Sp} (hs : Same S S2) {r : List Sy} {ts : List Int} {f f' : Int × Int} {l l' : List Nat} (h : HdsF (HdsR S2 r ts) S2 r ts f l) (h' : HdsF (HdsQ S r ts) S r ts f' l') : f = f' ∧ l = l' ∧ (f'.1 = 0 → f' = (0, 0)) ∧ l.length ≤ 128 := by
 obtain ⟨z, hz, h⟩ := h
 obtain ⟨z', hz', h'⟩ := h'
 obtain rfl := hz.same (hs.chk hz')
 rw [hs.hdE] at h
 have h0 := hz'.zero.1
 rcases h with ⟨h1, h2, h3⟩ | ⟨h1, ⟨h2, h3, h4⟩ | ⟨h2, h3, h4⟩⟩ <;> rcases h' with ⟨g1, g2, g3⟩ | ⟨g1, ⟨g2, g3, g4⟩ | ⟨g2, g3, g4⟩⟩
 ·exact ⟨by rw [h2, g2], by rw [h3, g3], by rw [g2]; exact h0, by rw [h3]; simp⟩
 ·exact absurd g1 h1
 ·exact absurd g1 h1
 ·exact absurd h1 g1
 ·exact ⟨by rw [h3, g3], by rw [h4, g4], by rw [g3]; exact fun q => absurd q g2, by rw [h4]; simp⟩
 ·exact absurd g2 h2
 ·exact absurd h1 g1
 ·exact absurd h2 g2
 ·exact ⟨by rw [h3, g3], (g4.same (hs.hdsR h4)).symm, by rw [g3]; exact fun _ => rfl, h4.max⟩
theorem fault_eq {w : World} {f f' : Int × Int} (h : f = f') (h0 : f'.1 = 0 → f' = (0, 0)) : Calls Tryd.prog 19 #[I6 f'.2, I6 f'.1] w fun e w' => e = .returned (.agg #[I6 f.1, I6 f.2, .string ⟨#[]⟩]) ∧ Ext [] w w' := by
 subst h; exact fault_any h0
theorem SameInts_l {w : World} {v u : Value} {n m : Nat} {xs ys : List Nat} (h : xs = ys) (hv : RdV w 1 v n (ivs xs)) (hu : RdV w 1 u m (ivs ys)) (hn : xs.length ≤ 128) : Calls Tryd.prog 35 #[v, u] w fun e w' => e = .returned (.bool true) ∧ Ext [] w w' := by
 subst h; exact SameInts_eq hv hu (by have := hv.len; rw [ivs_len] at this; omega)
theorem its_len (ts : List Int) : (its ts).length = ts.length := by simp [its]
theorem its_one : ∀ ts : List Int, oneAll (its ts) = true
 | [] => rfl
 | t :: ts => by simp only [its, List.map_cons, oneAll]; exact its_one ts
theorem apl {xs ys : List Value} {i j : Nat} {u : Value} (hl : xs.length = i) (h : ys[j]? = some u) : (xs ++ ys)[i + j]? = some u := by subst hl; rw [List.getElem?_append_right (by omega), Nat.add_sub_cancel_left]; exact h
theorem apl0 {xs ys : List Value} {j : Nat} {u : Value} (h : xs[j]? = some u) : (xs ++ ys)[j]? = some u := by rw [List.getElem?_append_left (List.getElem?_eq_some_iff.1 h).1]; exact h
theorem OwnV.cut0 {w : World} {e : TypeId} {size n k cp : Nat} {bs : Option Addr} {xs ys : List Value} (h : OwnV w e size (.slice bs (n + k) cp) (n + k) (xs ++ ys)) (hl : xs.length = n * size) : RdV w size (.slice bs n cp) n xs := by
 have h1 := (h.take (k := n) (by omega)).rd
 rw [← hl, List.take_left] at h1
 exact h1
theorem SameIts_eq {w : World} {v u : Value} {n m : Nat} {xs ys : List Int} (hxy : xs = ys) (hv : RdV w 1 v n (its xs)) (hu : RdV w 1 u m (its ys)) (hn : n ≤ 1048576) :
  Calls Tryd.prog 35 #[v, u] w fun e w' => e = .returned (.bool true) ∧ Ext [] w w' := by
 have hlx : xs.length = n := by have := hv.len; rw [its_len] at this; omega
 have hly : ys.length = m := by have := hu.len; rw [its_len] at this; omega
 have hnm : n = m := by rw [← hlx, ← hly, hxy]
 refine cbd 26 [(0, v), (1, u)] Tryd.func35 rfl fun a hS => ?_
 have hE0 : Ext [] w w := Ext.refl _ _
 refine sq fun K1 hK1 => rgn 1 <| sg ww [.p] [] [(0, v), (1, u), (4, .bool false)] 1 0 hS .nil fun a hS => sge hK1 <| sq fun K2 hK2 => sdq 5 [.p, .run (I6 n), .p, .run (I6 m), .as (.bool false)] [Rv (Builtin.len_ #[51] 3 #[v]) (I6 n) w, Rv (Builtin.len_ #[51] 3 #[u]) (I6 m) w, Value.bool (((↑n : Int) != ↑m)) = .bool false] [(10, .bool false)] [] hS (.c (rlr 3 hv) (.c (rlr 3 hu) (.c (as_ne_f (by omega)) .nil))) fun a hS => ?_
 refine cond_f hS rfl ?_
 refine wpIn_skip <| hK2 _ _ <| sq fun K4 hK4 => sdq 1 [.p] [] [(5, I6 0)] [] hS .nil fun a hS => wpIn_block ?_
 refine loop_ghost (fun (i : Nat) a' w' => St 26 [] [(0, v), (1, u), (5, I6 i)] a' ∧ Ext [] w w' ∧ i ≤ n) (fun (i : Nat) => n - i) 0 ⟨hS.keepTo [0, 1, 5] (by kernel_rfl), hE0, by omega⟩ ?_
 rintro i a wl6 ⟨hS, hXl6, hi⟩
 refine sq fun K7 hK7 => sdq 4 [.p, .p, .run (I6 n), .p] [Rv (Builtin.len_ #[51] 3 #[v]) (I6 n) wl6] [(14, .bool (decide ((↑i : Int) < ↑n)))] [] hS (.c (rlr 3 hv) .nil) fun a hS => ?_
 refine cond_b hS rfl (fun hb9 => ?_) (fun hb9 => ?_)
 ·
  replace hb9 := of_decide_eq_true hb9
  obtain ⟨x, hx⟩ : ∃ x, xs[i]? = some x := ⟨_, List.getElem?_eq_getElem (by omega)⟩
  have hy : ys[i]? = some x := hxy ▸ hx
  refine wpIn_skip <| hK7 _ _ <| sq fun K10 hK10 => wpIn_block <| sq fun K11 hK11 => ?_
  refine fn3 [.q .p, .q .p, .q (.run ((Po (bof v) (oof v + i * 1)))), .q (.ld (I6 x)), .q .p, .q .p, .q (.run ((Po (bof u) (oof u + i * 1)))), .q (.ld (I6 x)), .q (.as (.bool false))] [0, 0, 0, 0, 0, 0, 0, 0, 0] [0, 0, 0, 0, 0, 0, 0, 0, 0] [0, 0, 3, 7, 0, 0, 48, 112, 255] [] 0 ([(0, v), (1, u), (5, I6 i), (14, .bool (decide ((↑i : Int) < ↑n))), (17, v), (18, I6 i), (19, (Po (bof v) (oof v + i * 1))), (20, I6 x), (21, u), (22, I6 i), (23, (Po (bof u) (oof u + i * 1))), (24, I6 x), (25, .bool false)]) [wl6.drew] wl6.drew (fun w' => [(2, [Rv (Instr.indexAt 51 (v) (I6 i)) ((Po (bof v) (oof v + i * 1))) w']), (3, [w'.cell? ⟨bof v, oof v + i * 1, none⟩ = some (I6 x)]), (6, [Rv (Instr.indexAt 51 (u) (I6 i)) ((Po (bof u) (oof u + i * 1))) w']), (7, [w'.cell? ⟨bof u, oof u + i * 1, none⟩ = some (I6 x)]), (8, [Value.bool (((x : Int) != x)) = .bool false])]) [0, 1, 5, 14] [] hS (fun _ => by kernel_rfl) ?_ ?_ ?_
  ·intro e w' hw
   refine (.c ?_ (.c ?_ (.c ?_ (.c ?_ (.c ?_ .nil)))))
   ·exact fun _ _ => (.c (ixr 3 i hv) .nil)
   ·intro h1 h2
    obtain rfl : e = 0 := Nat.le_antisymm h2 h1
    obtain rfl : w' = wl6.drew := hw.trans (by kernel_rfl)
    exact (.c ((hv.ext0 (hXl6.trans0 (by first | exact (Ext.refl [] _).drew | exact Ext.refl [] _))).cellAt (i * 1) (by omega) (its_at hx)) .nil)
   ·exact fun _ _ => (.c (ixr 3 i hu) .nil)
   ·intro h1 h2
    obtain rfl : e = 0 := Nat.le_antisymm h2 h1
    obtain rfl : w' = wl6.drew := hw.trans (by kernel_rfl)
    exact (.c ((hu.ext0 (hXl6.trans0 (by first | exact (Ext.refl [] _).drew | exact Ext.refl [] _))).cellAt (i * 1) (by omega) (its_at hy)) .nil)
   ·exact fun _ _ => (.c (as_ne_f (by omega)) .nil)
  ·refine .nil
  rintro a w13 hS hw14
  replace hw14 : w13 = wl6.drew := hw14.trans (by kernel_rfl)
  have hE15 : Ext [] w w13 := by rw [hw14]; exact hXl6.drew
  replace hS := hS.kp [(0, v), (1, u), (5, I6 i), (14, .bool (decide ((↑i : Int) < ↑n))), (25, .bool false)]
  refine hK11 _ _ ?_
  refine cond_f hS rfl ?_
  refine wpIn_skip <| inBlock_normal <| hK10 _ _ <| rgn 3 <| sd ww [.p, .as (I6 (↑i + 1)), .p] [_] [(5, I6 (↑i + 1))] [] 3 0 hS (as6 (↑i + 1)) fun a hS => seg_end ?_
  exact ⟨i + 1, ⟨hS.kp [(0, v), (1, u), (5, I6 (↑i + 1))], hE15, by omega⟩, by omega⟩
 ·
  replace hb9 := of_decide_eq_false hb9
  refine wpIn_exit <| then_exit <| then_exit <| inBlock_hit <| hK4 _ _ <| sdq 1 [.p] [] [(4, .bool true)] [] hS .nil fun a hS => wpIn_ret ?_
  refine ret1 hS Tryd.results35 rfl ?_
  exact ⟨rfl, hXl6⟩
end Go.Proofs.YtkkpghlcmcaoiaaDoor
