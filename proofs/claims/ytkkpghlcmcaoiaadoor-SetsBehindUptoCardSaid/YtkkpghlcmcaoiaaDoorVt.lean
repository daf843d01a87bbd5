/- region_set again, where what the quiet operations tell depends on what was drawn. It states nothing of any program. -/
import Derived.Test.YtkkpghlcmcaoiaaDoorVd
namespace Go.Vc
open Go

section
variable {F : Fence} {P : Program} {ops : Array Oper} {Q : Exit → Act → World → Prop} {a : Act} {w : World} {n : Nat} {ds : List Deferred} {m : Fm}

/-- **a region that draws its order**, the world told by what is done -/
theorem region_setI {G : Type} (hW : Wide F) {id : Nat} (its : List Bool) (items : G → List Item) (ms effs : List Nat) (σ : G → Fm) (W : (Nat → Bool) → G → World → Prop) (obls : G → World → List (Nat × List Prop)) (g₀ : G) (ks oks : List Nat)
    (hS : St n ds m a) (hm : P.follows .mixedOrders = true)
    (hc : chkS ops ⟨its, [], [], ms⟩ (fkeep m oks) = true) (hN : Nat.beq its.length ops.size = true) (hD : dstsOk ops n = true)
    (hq : ∀ g w, qAll P w (em ops ⟨its, [], [], ms⟩ (fkeep m oks) (σ g)) ops (items g) 0 = some (obls g w, sVals (σ g) ops (items g) 0))
    (hits : ∀ g, (items g).map itemEff = its)
    (hE : (List.range ops.size).filter (Plan.isEff ⟨its, [], [], ms⟩) = effs)
    (hlive : fkeep m ks = fdrop (isDst ops) (σ g₀))
    (h0 : W (fun _ => false) g₀ w.drew)
    (hobl : ∀ D g w, W D g w → ∀ x ∈ obls g w, (∀ j ∈ effs, (ms.getD x.1 0).testBit j = true → D j = true) → (∀ j ∈ effs, (ms.getD j 0).testBit x.1 = true → D j = false) → AllP x.2)
    (heff : AllN (fun i => ∀ D g w, W D g w → D i = false → (∀ j ∈ effs, (ms.getD i 0).testBit j = true → D j = true) → (∀ j ∈ effs, (ms.getD j 0).testBit i = true → D j = false) →
      UponAt P ops n (em ops ⟨its, [], [], ms⟩ (fkeep m oks) (σ g) i) i w (EffPostS ops ⟨its, [], [], ms⟩ σ W D i g)) effs)
    (hend : ∀ D g a' w', St n ds (σ g) a' → (∀ j ∈ effs, D j = true) → W D g w' → Q .normal a' w') : (Code.region id ops true).wpIn F 0 P Q a w := by
  have hN' := Nat.eq_of_beq_eq_true hN
  generalize hp : (⟨its, [], [], ms⟩ : Plan) = p at *
  obtain ⟨om, hom⟩ : ∃ om, fkeep m oks = om := ⟨_, rfl⟩
  rw [hom] at hc
  simp only [hom] at hq heff
  have hdep : ∀ i j, p.dep i j = (ms.getD i 0).testBit j := fun i j => by subst hp; rfl
  have heffi : ∀ g i, p.isEff i = (match (items g)[i]? with | some it => itemEff it | none => false) := fun g i => by
    subst hp
    simp only [Plan.isEff, List.getD_eq_getElem?_getD, ← hits g, List.getElem?_map]
    cases (items g)[i]? <;> rfl
  have hlen : ∀ g, (items g).length = ops.size := fun g => by rw [← hN', ← hits g, List.length_map]
  have hd : ∀ (i : Nat) (o : Oper), ops[i]? = some o → dstOk n o.dst = true ∧ opOk o = true := fun i o ho => by
    simp only [dstsOk, List.all_eq_true, List.mem_range] at hD
    have := hD i (Array.getElem?_eq_some_iff.1 ho).1
    rw [ho] at this
    simpa using this
  have heffs : ∀ j ∈ effs, j < ops.size ∧ p.isEff j = true := fun j hj => by
    rw [← hE] at hj
    simpa using hj
  refine wpIn_region_any hm ?_
  have key : ∀ fuel listed a w g, InvS ops n ds om listed (σ g) a → W (doneS p listed) g w → listed.toList.count false ≤ fuel → wpAnyIn F 0 P .any ops Q fuel listed a w := by
    intro fuel
    have fin : ∀ listed a w g, InvS ops n ds om listed (σ g) a → W (doneS p listed) g w → (∀ i, i < ops.size → listed[i]? = some true) → Q .normal a w := by
      intro listed a w g hI hw hall
      refine hend _ g a w ⟨hI.size, hI.defers, fun t v ht => hI.agree t v (fun j oj hj _ => hall j (Array.getElem?_eq_some_iff.1 hj).1) ht⟩ (fun j hj => ?_) hw
      obtain ⟨h1, h2⟩ := heffs j hj
      simp [doneS, h2, Array.getD_eq_getD_getElem?, hall j h1]
    have step : ∀ (K : Act → World → Prop) listed a w g, InvS ops n ds om listed (σ g) a → W (doneS p listed) g w →
        ∀ i ∈ Region.ready .any ops listed, (∀ a' w' g', InvS ops n ds om (listed.setIfInBounds i true) (σ g') a' → W (doneS p (listed.setIfInBounds i true)) g' w' → K a' w') → wpOpIn F 0 P ops Q i K a w := by
      intro K listed a w g hI hw i hi hK
      obtain ⟨o, ho, hl, hed⟩ := ready_spec hi
      have hiN : i < ops.size := (Array.getElem?_eq_some_iff.1 ho).1
      have hil : i < listed.size := by rw [hI.len]; exact hiN
      have hl' : listed[i]? = some false := by
        rw [Array.getD_eq_getD_getElem?, Array.getElem?_eq_getElem hil] at hl
        rw [Array.getElem?_eq_getElem hil]
        simpa using hl
      have hed' : ∀ j ∈ edgesOf o, listed[j]? = some true := fun j hj => by
        have := hed j hj
        rw [Array.getD_eq_getD_getElem?] at this
        cases hh : listed[j]? with
        | none => simp [hh] at this
        | some b => simp [hh] at this; rw [this]
      have hdn : ∀ j ∈ effs, (ms.getD i 0).testBit j = true → doneS p listed j = true := fun j hj hb => by
        obtain ⟨h1, h2⟩ := heffs j hj
        have := closureS hc hI.closed i o ho hed' j _ (Array.getElem?_eq_getElem h1) (by rw [hdep]; exact hb)
        simp [doneS, h2, Array.getD_eq_getD_getElem?, this]
      have hnd : ∀ j ∈ effs, (ms.getD j 0).testBit i = true → doneS p listed j = false := fun j hj hb => by
        obtain ⟨h1, h2⟩ := heffs j hj
        have hjl : j < listed.size := by rw [hI.len]; exact h1
        cases hlj : listed[j] with
        | false => simp [doneS, Array.getD_eq_getD_getElem?, Array.getElem?_eq_getElem hjl, hlj]
        | true =>
          have hlt : listed[j]? = some true := by rw [Array.getElem?_eq_getElem hjl, hlj]
          have := closureS hc hI.closed j _ (Array.getElem?_eq_getElem h1) (hI.closed j _ (Array.getElem?_eq_getElem h1) hlt) i o ho (by rw [hdep]; exact hb)
          rw [hl'] at this; cases this
      have hav : ∀ t ∈ looks ops o, fget (fapp (fonly (hidden ops listed) om) (fdrop (hidden ops listed) (σ g))) t = fget (em ops p om (σ g) i) t := fun t ht => by
        cases hh : hidden ops listed t with
        | true =>
          obtain ⟨j, oj, hj, hdj, hlj⟩ := hidden_true hI.len hh
          rcases (chkS_ok hc ho).look j oj hj t hdj ht with h1 | ⟨h1, v, hv⟩
          · have := closureS hc hI.closed i o ho hed' j oj hj h1
            rw [hlj] at this; cases this
          · have he : early ops p i t = true := by
              simp only [early, List.any_eq_true, List.mem_range]
              exact ⟨j, (Array.getElem?_eq_some_iff.1 hj).1, by rw [hj]; simp [h1, hdj]⟩
            rw [fapp_some _ om _ t v hh hv]
            exact (fapp_some _ om _ t v he hv).symm
        | false =>
          rw [fapp_none _ om _ t hh, fdrop_get _ _ t hh]
          have he : early ops p i t = false := by
            cases hx : early ops p i t with
            | false => rfl
            | true =>
              exfalso
              simp only [early, List.any_eq_true, List.mem_range] at hx
              obtain ⟨j, hj, hx⟩ := hx
              have hjo : ops[j]? = some ops[j] := Array.getElem?_eq_getElem hj
              rw [hjo] at hx
              simp only [Bool.and_eq_true] at hx
              obtain ⟨hx1, hx2⟩ := hx
              cases hd : (ops[j]).dst with
              | none => rw [hd] at hx2; cases hx2
              | some d =>
                rw [hd] at hx2
                have := Nat.eq_of_beq_eq_true hx2
                subst this
                have hlj := hidden_false hh j _ hjo hd
                have := closureS hc hI.closed j _ hjo (hI.closed j _ hjo hlj) i o ho hx1
                rw [hl'] at this; cases this
          exact (fapp_none _ om _ t he).symm
      have hS' := hI.st
      obtain ⟨hdo, hoo⟩ := hd i o ho
      unfold wpOpIn
      rw [ho]
      simp only
      cases hie : p.isEff i with
      | false =>
        have hit : ∃ c, (items g)[i]? = some (.q c) := by
          have hlt : i < (items g).length := by rw [hlen]; exact hiN
          have := heffi g i
          rw [hie, List.getElem?_eq_getElem hlt] at this
          rw [List.getElem?_eq_getElem hlt]
          cases hx : (items g)[i] with
          | q c => exact ⟨c, rfl⟩
          | e => rw [hx] at this; simp [itemEff] at this
        obtain ⟨c, hcq⟩ := hit
        obtain ⟨ps, hq1, hor⟩ := qAll_spec (items g) 0 _ _ (hq g w) rfl i c hcq
        rw [Nat.zero_add] at hq1 hor
        have hall : AllP ps := by
          rcases hor with rfl | hm'
          · exact .nil
          · exact hobl _ g w hw _ hm' hdn hnd
        unfold qOne at hq1
        rw [ho] at hq1
        simp only at hq1
        have hdv : ∀ d u, o.dst = some d → fget (σ g) d = some u → u = dstVal ops (σ g) i := fun d u hd hu => by
          simp [dstVal, ho, hd, hu]
        split at hq1
        · cases hq1
        · rename_i hwn
          rw [← wants_congr hav] at hwn
          rw [wants_spec (a := a) hS' hwn]
          split at hq1
          · simp only [Option.some.injEq, Prod.mk.injEq] at hq1
            refine ⟨about_any hW o _ w, ?_⟩
            exact hK _ _ _ (hI.step hc ho hl' hed' undef hdo rfl (fun d u h1 h2 => (hdv d u h1 h2).trans hq1.2.symm)) (by rw [doneS_q hie]; exact hw)
          · cases hq1
        · rename_i hwn
          rw [← wants_congr hav] at hwn
          rw [wants_spec (a := a) hS' hwn]
          split at hq1
          · cases hq1
          · rename_i hf
            have hf' : opFine (fapp (fonly (hidden ops listed) om) (fdrop (hidden ops listed) (σ g))) o = true := by rw [opFine_congr hav]; exact hf
            have hrun := evC_run hq1 hall
            rw [← exec_congr hav hf'] at hrun
            rw [if_pos rfl]
            exact op_value hW hS' hf' hrun (hK _ _ _ (hI.step hc ho hl' hed' (dstVal ops (σ g) i) hdo rfl hdv) (by rw [doneS_q hie]; exact hw))
      | true =>
        have hin : i ∈ effs := by rw [← hE]; simp [hiN, hie]
        have hDi : doneS p listed i = false := by simp [doneS, Array.getD_eq_getD_getElem?, hl']
        have := heff.mem i hin _ g w hw hDi hdn hnd
        obtain ⟨o', ho', hu⟩ := this
        obtain ⟨h1, h2, h3, h4⟩ := effOf_spec ho'
        rw [ho] at h1; cases h1
        rw [← wants_congr hav] at h2
        have hf' : opFine (fapp (fonly (hidden ops listed) om) (fdrop (hidden ops listed) (σ g))) o = true := by rw [opFine_congr hav]; exact h3
        rw [wants_spec (a := a) hS' h2, if_pos rfl]
        refine upon_wp hW hu ?_ ?_
        · rw [sem_eq F.round hS' hf', exec_congr hav hf']
        · rintro v w' ⟨g', h5, h6, h7⟩
          exact hK _ _ _ (hI.step (s' := σ g') hc ho hl' hed' v hdo h5 (fun d u hd hu => dstGet_spec h6 o d u ho hd hu)) (by rw [doneS_e hie hil]; exact h7)
    induction fuel with
    | zero =>
      intro listed a w g hI hw hcnt
      have hall : ∀ i, i < ops.size → listed[i]? = some true := fun i hi => by
        have hil : i < listed.size := by rw [hI.len]; exact hi
        rw [Array.getElem?_eq_getElem hil]
        cases hb : listed[i] with
        | true => rfl
        | false =>
          have : false ∈ listed.toList := by rw [← hb]; simp
          have := List.count_pos_iff.2 this
          omega
      refine ⟨?_, fin listed a w g hI hw hall⟩
      simp only [Region.ready, List.filter_eq_nil_iff, List.mem_range]
      intro i hi
      simp [Array.getD_eq_getD_getElem?, hall i hi]
    | succ fuel ih =>
      intro listed a w g hI hw hcnt
      refine ⟨fun hr => fin listed a w g hI hw (readyS_nil hc hI.len hr), fun i hi => ?_⟩
      refine step _ listed a w g hI hw i hi fun a' w' g' hI' hw' => ih _ a' w' g' hI' hw' ?_
      obtain ⟨o, ho, hl, _⟩ := ready_spec hi
      have hil : i < listed.size := by rw [hI.len]; exact (Array.getElem?_eq_some_iff.1 ho).1
      have hl' : listed.toList[i]? = some false := by
        rw [Array.getD_eq_getD_getElem?, Array.getElem?_eq_getElem hil] at hl
        simp only [Array.getElem?_toList]
        rw [Array.getElem?_eq_getElem hil]
        simpa using hl
      have := count_set listed.toList i hl'
      simp only [Array.toList_setIfInBounds]
      omega
  refine key ops.size (Array.replicate ops.size false) a _ g₀ ?_ ?_ ?_
  · refine ⟨by simp, hS.size, hS.defers, ?_, ?_, fun t v j oj _ _ _ hv => hS.get t v (fkeep_get m oks t v (by rw [hom]; exact hv))⟩
    · intro i o ho hl
      simp [Array.getElem?_replicate] at hl
    · intro t v hw' ht
      have hnd : isDst ops t = false := by
        simp only [isDst, List.any_eq_false, List.mem_range]
        intro j hj
        obtain ⟨oj, hjo⟩ : ∃ o, ops[j]? = some o := ⟨_, Array.getElem?_eq_getElem hj⟩
        rw [hjo]
        simp only
        cases hdj : oj.dst with
        | none => simp
        | some d =>
          simp only
          intro hb
          have := Nat.eq_of_beq_eq_true hb
          subst this
          have := hw' j _ hjo hdj
          simp [Array.getElem?_replicate] at this
      rw [← fdrop_get _ _ t hnd, ← hlive] at ht
      exact hS.get t v (fkeep_get m ks t v ht)
  · have : doneS p (Array.replicate ops.size false) = fun _ => false := by
      funext j
      simp only [doneS, Array.getD_eq_getD_getElem?, Array.getElem?_replicate]
      split <;> simp
    rw [this]; exact h0
  · simp
end
end Go.Vc
