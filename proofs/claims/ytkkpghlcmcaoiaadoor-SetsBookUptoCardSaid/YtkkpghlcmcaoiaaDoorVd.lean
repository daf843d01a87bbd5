import Derived.Test.YtkkpghlcmcaoiaaDoorVc
namespace Go.Vc
open Go
section
variable {F : Fence} {P : Program} {ops : Array Oper} {Q : Exit → Act → World → Prop} {a : Act} {w : World} {n : Nat} {ds : List Deferred} {m : Fm}
def chkOpS (ops : Array Oper) (p : Plan) (om : Fm) (i : Nat) (o : Oper) : Bool :=
 (edgesOf o).all (fun j => Nat.blt j i) &&
 (List.range ops.size).all (fun j => match ops[j]? with
  | some oj =>
   (match o.dst, oj.dst with | some d, some d' => (Nat.beq i j || !Nat.beq d d') | _, _ => true) &&
   (match oj.dst with | some d' => (!(looks ops o).contains d' || p.dep i j || (p.dep j i && hasKey om d')) | none => true) &&
   (!p.dep i j || (edgesOf o).any (fun k => Nat.beq j k || p.dep k j))
  | none => true)
def chkS (ops : Array Oper) (p : Plan) (om : Fm) : Bool := (List.range ops.size).all (fun i => match ops[i]? with
 | some o => chkOpS ops p om i o
 | none => false)
structure OkS (ops : Array Oper) (p : Plan) (om : Fm) (i : Nat) (o : Oper) : Prop where
 edge : ∀ j ∈ edgesOf o, j < i
 uniq : ∀ (j : Nat) (oj : Oper), ops[j]? = some oj → ∀ d, o.dst = some d → oj.dst = some d → i = j
 look : ∀ (j : Nat) (oj : Oper), ops[j]? = some oj → ∀ d, oj.dst = some d → d ∈ looks ops o → p.dep i j = true ∨ (p.dep j i = true ∧ ∃ v, fget om d = some v)
 clos : ∀ (j : Nat) (oj : Oper), ops[j]? = some oj → p.dep i j = true → ∃ k ∈ edgesOf o, j = k ∨ p.dep k j = true
theorem chkS_ok {p : Plan} {om : Fm} (h : chkS ops p om = true) {i : Nat} {o : Oper} (ho : ops[i]? = some o) : OkS ops p om i o := by
 simp only [chkS, List.all_eq_true, List.mem_range] at h
 have h := h i (Array.getElem?_eq_some_iff.1 ho).1
 rw [ho] at h
 simp only [chkOpS, Bool.and_eq_true, List.all_eq_true, List.mem_range] at h
 obtain ⟨h1, h2⟩ := h
 have g : ∀ (j : Nat) (oj : Oper), ops[j]? = some oj → _ := fun j oj hj => by
  have hlt : j < ops.size := (Array.getElem?_eq_some_iff.1 hj).1
  have := h2 j hlt
  rw [hj] at this
  simp only [Bool.and_eq_true] at this
  exact this
 refine ⟨fun j hj => by simpa using h1 j hj, ?_, ?_, ?_⟩
 ·intro j oj hj d hd hd'
  have := (g j oj hj).1.1
  rw [hd, hd'] at this
  simpa using this
 ·intro j oj hj d hd hl
  have := (g j oj hj).1.2
  rw [hd] at this
  have hl' : (looks ops o).contains d = true := by simpa using hl
  simp only [hl', Bool.not_true, Bool.false_or, Bool.or_eq_true, Bool.and_eq_true] at this
  exact this.imp id fun h => ⟨h.1, hasKey_spec h.2⟩
 ·intro j oj hj hd
  have := (g j oj hj).2
  simp only [hd, Bool.not_true, Bool.false_or, List.any_eq_true, Bool.or_eq_true] at this
  obtain ⟨k, hk, h5⟩ := this
  exact ⟨k, hk, by simpa using h5⟩
structure InvS (ops : Array Oper) (n : Nat) (ds : List Deferred) (om : Fm) (listed : Array Bool) (s : Fm) (a : Act) : Prop where
 len : listed.size = ops.size
 size : a.tmps.size = n
 defers : a.defers = ds
 closed : ∀ (i : Nat) (o : Oper), ops[i]? = some o → listed[i]? = some true → ∀ j ∈ edgesOf o, listed[j]? = some true
 agree : ∀ t v, (∀ (j : Nat) (oj : Oper), ops[j]? = some oj → oj.dst = some t → listed[j]? = some true) → fget s t = some v → a.tmps[t]? = some v
 old : ∀ (t : Nat) (v : Value) (j : Nat) (oj : Oper), ops[j]? = some oj → oj.dst = some t → listed[j]? = some false → fget om t = some v → a.tmps[t]? = some v
theorem closureS {p : Plan} {om : Fm} (hc : chkS ops p om = true) {listed : Array Bool}
  (hcl : ∀ (i : Nat) (o : Oper), ops[i]? = some o → listed[i]? = some true → ∀ j ∈ edgesOf o, listed[j]? = some true) :
  ∀ (i : Nat) (o : Oper), ops[i]? = some o → (∀ j ∈ edgesOf o, listed[j]? = some true) → ∀ (j : Nat) (oj : Oper), ops[j]? = some oj → p.dep i j = true → listed[j]? = some true := by
 intro i
 induction i using Nat.strongRecOn with
 | _ i ih =>
  intro o ho he j oj hj hd
  obtain ⟨k, hk, h1⟩ := (chkS_ok hc ho).clos j oj hj hd
  rcases h1 with rfl | h1
  ·exact he _ hk
  ·have hlt := (chkS_ok hc ho).edge k hk
   have hkN : k < ops.size := Nat.lt_trans hlt (Array.getElem?_eq_some_iff.1 ho).1
   have hok : ops[k]? = some ops[k] := Array.getElem?_eq_getElem hkN
   exact ih k hlt _ hok (hcl k _ hok (he k hk)) j oj hj h1
theorem readyS_nil {p : Plan} {om : Fm} (hc : chkS ops p om = true) {listed : Array Bool} (hlen : listed.size = ops.size) (h : Region.ready .any ops listed = []) : ∀ i, i < ops.size → listed[i]? = some true := by
 intro i
 induction i using Nat.strongRecOn with
 | _ i ih =>
  intro hi
  cases hl : listed[i]? with
  | none => rw [Array.getElem?_eq_none_iff] at hl; omega
  | some b =>
   cases b with
   | true => rfl
   | false =>
    exfalso
    have hmem : i ∈ Region.ready .any ops listed := by
     simp only [Region.ready, List.mem_filter, List.mem_range, Bool.and_eq_true, Bool.not_eq_true']
     refine ⟨hi, by simp [Array.getD_eq_getD_getElem?, hl], ?_⟩
     rw [Array.getElem?_eq_getElem hi]
     simp only [Option.map_some, Option.getD_some, Array.all_eq_true_iff_forall_mem]
     intro x hx
     cases hb : Region.binds .any x with
     | false => simp
     | true =>
      have he : x.on ∈ edgesOf ops[i] := by
       simp only [edgesOf, List.mem_map, List.mem_filter, Array.mem_toList_iff]
       exact ⟨x, ⟨hx, hb⟩, rfl⟩
      have hlt := (chkS_ok hc (Array.getElem?_eq_getElem hi)).edge _ he
      have := ih x.on hlt (by omega)
      simp [Array.getD_eq_getD_getElem?, this]
    rw [h] at hmem
    cases hmem
theorem InvS.st {om : Fm} {listed : Array Bool} {s : Fm} (h : InvS ops n ds om listed s a) : St n ds (fapp (fonly (hidden ops listed) om) (fdrop (hidden ops listed) s)) a := by
 refine ⟨h.size, h.defers, fun t v ht => ?_⟩
 cases hh : hidden ops listed t with
 | false =>
  rw [fapp_none _ om _ t hh, fdrop_get _ s t hh] at ht
  exact h.agree t v (hidden_false hh) ht
 | true =>
  rcases fonly_some _ om _ t v hh ht with h1 | h1
  ·obtain ⟨j, oj, hj, hd, hl⟩ := hidden_true h.len hh
   exact h.old t v j oj hj hd hl h1
  ·rw [fdrop_hid _ s t hh] at h1; cases h1
def doneS (p : Plan) (listed : Array Bool) (j : Nat) : Bool := p.isEff j && listed.getD j false
def setS (D : Nat → Bool) (i : Nat) (j : Nat) : Bool := match Nat.beq j i with
 | true => true
 | false => D j
def EffPostS {G : Type} (ops : Array Oper) (p : Plan) (σ : G → Fm) (W : (Nat → Bool) → G → World → Prop) (D : Nat → Bool) (i : Nat) (g : G) (v : Value) (w' : World) : Prop :=
 ∃ g', fdrop (late ops p i) (σ g) = fdrop (late ops p i) (σ g') ∧ dstGet ops (σ g') i v = some v ∧ W (setS D i) g' w'
theorem InvS.step {p : Plan} {om : Fm} {listed : Array Bool} {s s' : Fm} (hc : chkS ops p om = true) (h : InvS ops n ds om listed s a) {i : Nat} {o : Oper} (ho : ops[i]? = some o)
  (hl : listed[i]? = some false) (he : ∀ j ∈ edgesOf o, listed[j]? = some true) (v : Value) (hdst : dstOk n o.dst = true)
  (hs' : fdrop (late ops p i) s = fdrop (late ops p i) s') (hv : ∀ d u, o.dst = some d → fget s' d = some u → u = v) :
  InvS ops n ds om (listed.setIfInBounds i true) s' (a.put o.dst v) := by
 have hok := chkS_ok hc ho
 have hiN : i < ops.size := (Array.getElem?_eq_some_iff.1 ho).1
 have hil : i < listed.size := by rw [h.len]; exact hiN
 have hget : ∀ j, j ≠ i → (listed.setIfInBounds i true)[j]? = listed[j]? := fun j hj => Array.getElem?_setIfInBounds_ne (Ne.symm hj)
 have hself : (listed.setIfInBounds i true)[i]? = some true := Array.getElem?_setIfInBounds_self_of_lt hil
 have hmono : ∀ j, listed[j]? = some true → (listed.setIfInBounds i true)[j]? = some true := fun j hj => by
  by_cases e : j = i
  ·subst e; exact hself
  ·rw [hget j e]; exact hj
 refine ⟨by simp [h.len], ?_, ?_, ?_, ?_, ?_⟩
 ·cases o.dst <;> simp [Act.put, h.size]
 ·cases o.dst <;> simp [Act.put, h.defers]
 ·intro j oj hj hlj k hk
  by_cases e : j = i
  ·subst e
   rw [ho] at hj; cases hj
   exact hmono k (he k hk)
  ·rw [hget j e] at hlj
   exact hmono k (h.closed j oj hj hlj k hk)
 ·intro t u hw ht
  by_cases hd : o.dst = some t
  ·have hu := hv t u hd ht
   subst hu
   have hlt : t < n := by rw [hd] at hdst; simpa [dstOk, Nat.blt_eq] using hdst
   rw [hd]
   simp only [Act.put]
   exact Array.getElem?_setIfInBounds_self_of_lt (by rw [h.size]; exact hlt)
  ·have hw' : ∀ (j : Nat) (oj : Oper), ops[j]? = some oj → oj.dst = some t → listed[j]? = some true := fun j oj hj hdj => by
    have ej : j ≠ i := fun e => by subst e; rw [ho] at hj; cases hj; exact hd hdj
    have := hw j oj hj hdj
    rwa [hget j ej] at this
   have hlate : late ops p i t = false := by
    simp only [late, List.any_eq_false, List.mem_range]
    intro j hj
    obtain ⟨oj, hjo⟩ : ∃ o, ops[j]? = some o := ⟨_, Array.getElem?_eq_getElem hj⟩
    rw [hjo]
    simp only
    cases hdj : oj.dst with
    | none => simp
    | some d =>
     simp only [Bool.and_eq_true, not_and]
     intro hor hb
     have hdt := Nat.eq_of_beq_eq_true hb
     subst hdt
     simp only [Bool.or_eq_true] at hor
     rcases hor with h1 | h1
     ·have := Nat.eq_of_beq_eq_true h1
      subst this
      rw [ho] at hjo; cases hjo
      exact hd hdj
     ·have hlj := hw' j _ hjo hdj
      have := closureS hc h.closed j _ hjo (h.closed j _ hjo hlj) i o ho h1
      rw [hl] at this; cases this
   have hts : fget s t = some u := by
    rw [← fdrop_get _ s t hlate, hs', fdrop_get _ s' t hlate]
    exact ht
   have := h.agree t u hw' hts
   cases hdo : o.dst with
   | none => exact this
   | some d =>
    have hne : d ≠ t := fun e => hd (by rw [hdo, e])
    simp only [Act.put]
    rw [Array.getElem?_setIfInBounds_ne hne]
    exact this
 ·intro t u j oj hj hdj hlj hu
  have ej : j ≠ i := fun e => by subst e; rw [hself] at hlj; cases hlj
  rw [hget j ej] at hlj
  have := h.old t u j oj hj hdj hlj hu
  cases hdo : o.dst with
  | none => exact this
  | some d =>
   have hne : d ≠ t := fun e => ej ((chkS_ok hc hj).uniq i o ho t hdj (by rw [hdo, e]))
   simp only [Act.put]
   rw [Array.getElem?_setIfInBounds_ne hne]
   exact this
theorem doneS_q {p : Plan} {listed : Array Bool} {i : Nat} (h : p.isEff i = false) : doneS p (listed.setIfInBounds i true) = doneS p listed := by
 funext j
 simp only [doneS]
 by_cases e : j = i
 ·subst e; rw [h]; rfl
 ·rw [Array.getD_eq_getD_getElem?, Array.getD_eq_getD_getElem?, Array.getElem?_setIfInBounds_ne (Ne.symm e)]
theorem doneS_e {p : Plan} {listed : Array Bool} {i : Nat} (h : p.isEff i = true) (hl : i < listed.size) : doneS p (listed.setIfInBounds i true) = setS (doneS p listed) i := by
 funext j
 simp only [doneS, setS]
 by_cases e : j = i
 ·subst e
  rw [h, Array.getD_eq_getD_getElem?, Array.getElem?_setIfInBounds_self_of_lt hl]; simp
 ·have : Nat.beq j i = false := by
   cases hb : Nat.beq j i with
   | false => rfl
   | true => exact absurd (Nat.eq_of_beq_eq_true hb) e
  rw [this, Array.getD_eq_getD_getElem?, Array.getD_eq_getD_getElem?, Array.getElem?_setIfInBounds_ne (Ne.symm e)]
inductive AllI : List (Nat × List Prop) → Prop
 | nil : AllI []
 | cons {i : Nat} {ps : List Prop} {l : List (Nat × List Prop)} : AllP ps → AllI l → AllI ((i, ps) :: l)
theorem AllI.c {i : Nat} {ps : List Prop} {l : List (Nat × List Prop)} (h : AllP ps) (hs : AllI l) : AllI ((i, ps) :: l) := .cons h hs
theorem AllI.mem : ∀ {l : List (Nat × List Prop)}, AllI l → ∀ x ∈ l, AllP x.2
 | _, .nil, x, h => by cases h
 | _, .cons h hs, x, hx => by
  rcases List.mem_cons.1 hx with rfl | hx
  ·exact h
  ·exact hs.mem x hx
theorem setS_self (D : Nat → Bool) (i : Nat) : setS D i i = true := by simp [setS]
theorem region_set {G : Type} (hW : Wide F) {id : Nat} (items : List Item) (ms effs : List Nat) (σ : G → Fm) (W : (Nat → Bool) → G → World → Prop) (obls : G → World → List (Nat × List Prop)) (g₀ : G) (ks oks : List Nat)
  (hS : St n ds m a) (hm : P.follows .mixedOrders = true)
  (hc : chkS ops ⟨items.map itemEff, [], [], ms⟩ (fkeep m oks) = true) (hN : Nat.beq items.length ops.size = true) (hD : dstsOk ops n = true)
  (hq : ∀ g w, qAll P w (em ops ⟨items.map itemEff, [], [], ms⟩ (fkeep m oks) (σ g)) ops items 0 = some (obls g w, sVals (σ g) ops items 0))
  (hE : (List.range ops.size).filter (Plan.isEff ⟨items.map itemEff, [], [], ms⟩) = effs)
  (hlive : fkeep m ks = fdrop (isDst ops) (σ g₀))
  (h0 : W (fun _ => false) g₀ w.drew)
  (hobl : ∀ D g w, W D g w → ∀ x ∈ obls g w, (∀ j ∈ effs, (ms.getD x.1 0).testBit j = true → D j = true) → (∀ j ∈ effs, (ms.getD j 0).testBit x.1 = true → D j = false) → AllP x.2)
  (heff : AllN (fun i => ∀ D g w, W D g w → D i = false → (∀ j ∈ effs, (ms.getD i 0).testBit j = true → D j = true) → (∀ j ∈ effs, (ms.getD j 0).testBit i = true → D j = false) →
   UponAt P ops n (em ops ⟨items.map itemEff, [], [], ms⟩ (fkeep m oks) (σ g) i) i w (EffPostS ops ⟨items.map itemEff, [], [], ms⟩ σ W D i g)) effs)
  (hend : ∀ D g a' w', St n ds (σ g) a' → (∀ j ∈ effs, D j = true) → W D g w' → Q .normal a' w') : (Code.region id ops true).wpIn F 0 P Q a w := by
 have hN' := Nat.eq_of_beq_eq_true hN
 generalize hp : (⟨items.map itemEff, [], [], ms⟩ : Plan) = p at *
 obtain ⟨om, hom⟩ : ∃ om, fkeep m oks = om := ⟨_, rfl⟩
 rw [hom] at hc
 simp only [hom] at hq heff
 have hdep : ∀ i j, p.dep i j = (ms.getD i 0).testBit j := fun i j => by subst hp; rfl
 have heffi : ∀ i, p.isEff i = (match items[i]? with | some it => itemEff it | none => false) := fun i => by
  subst hp
  simp only [Plan.isEff, List.getD_eq_getElem?_getD, List.getElem?_map]
  cases items[i]? <;> rfl
 have hd : ∀ (i : Nat) (o : Oper), ops[i]? = some o → dstOk n o.dst = true ∧ opOk o = true := fun i o ho => by
  simp only [dstsOk, List.all_eq_true, List.mem_range] at hD
  have := hD i (Array.getElem?_eq_some_iff.1 ho).1
  rw [ho] at this
  simpa using this
 have heffs : ∀ j ∈ effs, j < ops.size ∧ p.isEff j = true := fun j hj => by
  rw [← hE] at hj
  simpa using hj
 refine wpIn_region_any hm ?_
 have key : ∀ fuel listed a w g, InvS ops n ds om listed (σ g) a → W (doneS p listed) g w → listed.toList.count false ≤ fuel → wpAnyIn F 0 P .any ops Q fuel listed a w := by
  intro fuel
  have fin : ∀ listed a w g, InvS ops n ds om listed (σ g) a → W (doneS p listed) g w → (∀ i, i < ops.size → listed[i]? = some true) → Q .normal a w := by
   intro listed a w g hI hw hall
   refine hend _ g a w ⟨hI.size, hI.defers, fun t v ht => hI.agree t v (fun j oj hj _ => hall j (Array.getElem?_eq_some_iff.1 hj).1) ht⟩ (fun j hj => ?_) hw
   obtain ⟨h1, h2⟩ := heffs j hj
   simp [doneS, h2, Array.getD_eq_getD_getElem?, hall j h1]
  have step : ∀ (K : Act → World → Prop) listed a w g, InvS ops n ds om listed (σ g) a → W (doneS p listed) g w →
    ∀ i ∈ Region.ready .any ops listed, (∀ a' w' g', InvS ops n ds om (listed.setIfInBounds i true) (σ g') a' → W (doneS p (listed.setIfInBounds i true)) g' w' → K a' w') → wpOpIn F 0 P ops Q i K a w := by
   intro K listed a w g hI hw i hi hK
   obtain ⟨o, ho, hl, hed⟩ := ready_spec hi
   have hiN : i < ops.size := (Array.getElem?_eq_some_iff.1 ho).1
   have hil : i < listed.size := by rw [hI.len]; exact hiN
   have hl' : listed[i]? = some false := by
    rw [Array.getD_eq_getD_getElem?, Array.getElem?_eq_getElem hil] at hl
    rw [Array.getElem?_eq_getElem hil]
    simpa using hl
   have hed' : ∀ j ∈ edgesOf o, listed[j]? = some true := fun j hj => by
    have := hed j hj
    rw [Array.getD_eq_getD_getElem?] at this
    cases hh : listed[j]? with
    | none => simp [hh] at this
    | some b => simp [hh] at this; rw [this]
   have hdn : ∀ j ∈ effs, (ms.getD i 0).testBit j = true → doneS p listed j = true := fun j hj hb => by
    obtain ⟨h1, h2⟩ := heffs j hj
    have := closureS hc hI.closed i o ho hed' j _ (Array.getElem?_eq_getElem h1) (by rw [hdep]; exact hb)
    simp [doneS, h2, Array.getD_eq_getD_getElem?, this]
   have hnd : ∀ j ∈ effs, (ms.getD j 0).testBit i = true → doneS p listed j = false := fun j hj hb => by
    obtain ⟨h1, h2⟩ := heffs j hj
    have hjl : j < listed.size := by rw [hI.len]; exact h1
    cases hlj : listed[j] with
    | false => simp [doneS, Array.getD_eq_getD_getElem?, Array.getElem?_eq_getElem hjl, hlj]
    | true =>
     have hlt : listed[j]? = some true := by rw [Array.getElem?_eq_getElem hjl, hlj]
     have := closureS hc hI.closed j _ (Array.getElem?_eq_getElem h1) (hI.closed j _ (Array.getElem?_eq_getElem h1) hlt) i o ho (by rw [hdep]; exact hb)
     rw [hl'] at this; cases this
   have hav : ∀ t ∈ looks ops o, fget (fapp (fonly (hidden ops listed) om) (fdrop (hidden ops listed) (σ g))) t = fget (em ops p om (σ g) i) t := fun t ht => by
    cases hh : hidden ops listed t with
    | true =>
     obtain ⟨j, oj, hj, hdj, hlj⟩ := hidden_true hI.len hh
     rcases (chkS_ok hc ho).look j oj hj t hdj ht with h1 | ⟨h1, v, hv⟩
     ·have := closureS hc hI.closed i o ho hed' j oj hj h1
      rw [hlj] at this; cases this
     ·have he : early ops p i t = true := by
       simp only [early, List.any_eq_true, List.mem_range]
       exact ⟨j, (Array.getElem?_eq_some_iff.1 hj).1, by rw [hj]; simp [h1, hdj]⟩
      rw [fapp_some _ om _ t v hh hv]
      exact (fapp_some _ om _ t v he hv).symm
    | false =>
     rw [fapp_none _ om _ t hh, fdrop_get _ _ t hh]
     have he : early ops p i t = false := by
      cases hx : early ops p i t with
      | false => rfl
      | true =>
       exfalso
       simp only [early, List.any_eq_true, List.mem_range] at hx
       obtain ⟨j, hj, hx⟩ := hx
       have hjo : ops[j]? = some ops[j] := Array.getElem?_eq_getElem hj
       rw [hjo] at hx
       simp only [Bool.and_eq_true] at hx
       obtain ⟨hx1, hx2⟩ := hx
       cases hd : (ops[j]).dst with
       | none => rw [hd] at hx2; cases hx2
       | some d =>
        rw [hd] at hx2
        have := Nat.eq_of_beq_eq_true hx2
        subst this
        have hlj := hidden_false hh j _ hjo hd
        have := closureS hc hI.closed j _ hjo (hI.closed j _ hjo hlj) i o ho hx1
        rw [hl'] at this; cases this
     exact (fapp_none _ om _ t he).symm
   have hS' := hI.st
   obtain ⟨hdo, hoo⟩ := hd i o ho
   unfold wpOpIn
   rw [ho]
   simp only
   cases hie : p.isEff i with
   | false =>
    have hit : ∃ c, items[i]? = some (.q c) := by
     have hlt : i < items.length := by omega
     have := heffi i
     rw [hie, List.getElem?_eq_getElem hlt] at this
     rw [List.getElem?_eq_getElem hlt]
     cases hx : items[i] with
     | q c => exact ⟨c, rfl⟩
     | e => rw [hx] at this; simp [itemEff] at this
    obtain ⟨c, hcq⟩ := hit
    obtain ⟨ps, hq1, hor⟩ := qAll_spec items 0 _ _ (hq g w) rfl i c hcq
    rw [Nat.zero_add] at hq1 hor
    have hall : AllP ps := by
     rcases hor with rfl | hm'
     ·exact .nil
     ·exact hobl _ g w hw _ hm' hdn hnd
    unfold qOne at hq1
    rw [ho] at hq1
    simp only at hq1
    have hdv : ∀ d u, o.dst = some d → fget (σ g) d = some u → u = dstVal ops (σ g) i := fun d u hd hu => by
     simp [dstVal, ho, hd, hu]
    split at hq1
    ·cases hq1
    ·rename_i hwn
     rw [← wants_congr hav] at hwn
     rw [wants_spec (a := a) hS' hwn]
     split at hq1
     ·simp only [Option.some.injEq, Prod.mk.injEq] at hq1
      refine ⟨about_any hW o _ w, ?_⟩
      exact hK _ _ _ (hI.step hc ho hl' hed' undef hdo rfl (fun d u h1 h2 => (hdv d u h1 h2).trans hq1.2.symm)) (by rw [doneS_q hie]; exact hw)
     ·cases hq1
    ·rename_i hwn
     rw [← wants_congr hav] at hwn
     rw [wants_spec (a := a) hS' hwn]
     split at hq1
     ·cases hq1
     ·rename_i hf
      have hf' : opFine (fapp (fonly (hidden ops listed) om) (fdrop (hidden ops listed) (σ g))) o = true := by rw [opFine_congr hav]; exact hf
      have hrun := evC_run hq1 hall
      rw [← exec_congr hav hf'] at hrun
      rw [if_pos rfl]
      exact op_value hW hS' hf' hrun (hK _ _ _ (hI.step hc ho hl' hed' (dstVal ops (σ g) i) hdo rfl hdv) (by rw [doneS_q hie]; exact hw))
   | true =>
    have hin : i ∈ effs := by rw [← hE]; simp [hiN, hie]
    have hDi : doneS p listed i = false := by simp [doneS, Array.getD_eq_getD_getElem?, hl']
    have := heff.mem i hin _ g w hw hDi hdn hnd
    obtain ⟨o', ho', hu⟩ := this
    obtain ⟨h1, h2, h3, h4⟩ := effOf_spec ho'
    rw [ho] at h1; cases h1
    rw [← wants_congr hav] at h2
    have hf' : opFine (fapp (fonly (hidden ops listed) om) (fdrop (hidden ops listed) (σ g))) o = true := by rw [opFine_congr hav]; exact h3
    rw [wants_spec (a := a) hS' h2, if_pos rfl]
    refine upon_wp hW hu ?_ ?_
    ·rw [sem_eq F.round hS' hf', exec_congr hav hf']
    ·rintro v w' ⟨g', h5, h6, h7⟩
     exact hK _ _ _ (hI.step (s' := σ g') hc ho hl' hed' v hdo h5 (fun d u hd hu => dstGet_spec h6 o d u ho hd hu)) (by rw [doneS_e hie hil]; exact h7)
  induction fuel with
  | zero =>
   intro listed a w g hI hw hcnt
   have hall : ∀ i, i < ops.size → listed[i]? = some true := fun i hi => by
    have hil : i < listed.size := by rw [hI.len]; exact hi
    rw [Array.getElem?_eq_getElem hil]
    cases hb : listed[i] with
    | true => rfl
    | false =>
     have : false ∈ listed.toList := by rw [← hb]; simp
     have := List.count_pos_iff.2 this
     omega
   refine ⟨?_, fin listed a w g hI hw hall⟩
   simp only [Region.ready, List.filter_eq_nil_iff, List.mem_range]
   intro i hi
   simp [Array.getD_eq_getD_getElem?, hall i hi]
  | succ fuel ih =>
   intro listed a w g hI hw hcnt
   refine ⟨fun hr => fin listed a w g hI hw (readyS_nil hc hI.len hr), fun i hi => ?_⟩
   refine step _ listed a w g hI hw i hi fun a' w' g' hI' hw' => ih _ a' w' g' hI' hw' ?_
   obtain ⟨o, ho, hl, _⟩ := ready_spec hi
   have hil : i < listed.size := by rw [hI.len]; exact (Array.getElem?_eq_some_iff.1 ho).1
   have hl' : listed.toList[i]? = some false := by
    rw [Array.getD_eq_getD_getElem?, Array.getElem?_eq_getElem hil] at hl
    simp only [Array.getElem?_toList]
    rw [Array.getElem?_eq_getElem hil]
    simpa using hl
   have := count_set listed.toList i hl'
   simp only [Array.toList_setIfInBounds]
   omega
 refine key ops.size (Array.replicate ops.size false) a _ g₀ ?_ ?_ ?_
 ·refine ⟨by simp, hS.size, hS.defers, ?_, ?_, fun t v j oj _ _ _ hv => hS.get t v (fkeep_get m oks t v (by rw [hom]; exact hv))⟩
  ·intro i o ho hl
   simp [Array.getElem?_replicate] at hl
  ·intro t v hw' ht
   have hnd : isDst ops t = false := by
    simp only [isDst, List.any_eq_false, List.mem_range]
    intro j hj
    obtain ⟨oj, hjo⟩ : ∃ o, ops[j]? = some o := ⟨_, Array.getElem?_eq_getElem hj⟩
    rw [hjo]
    simp only
    cases hdj : oj.dst with
    | none => simp
    | some d =>
     simp only
     intro hb
     have := Nat.eq_of_beq_eq_true hb
     subst this
     have := hw' j _ hjo hdj
     simp [Array.getElem?_replicate] at this
   rw [← fdrop_get _ _ t hnd, ← hlive] at ht
   exact hS.get t v (fkeep_get m ks t v ht)
 ·have : doneS p (Array.replicate ops.size false) = fun _ => false := by
   funext j
   simp only [doneS, Array.getD_eq_getD_getElem?, Array.getElem?_replicate]
   split <;> simp
  rw [this]; exact h0
 ·simp
end
end Go.Vc
