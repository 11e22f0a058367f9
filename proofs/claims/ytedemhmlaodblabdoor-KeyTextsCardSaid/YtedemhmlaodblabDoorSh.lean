/- Symbolic execution: function values. -/
import Derived.Test.YtedemhmlaodblabDoorSr
namespace Go.SX
set_option linter.unusedSimpArgs false
set_option linter.unusedVariables false
open Go Go.RowKit
section
variable {P : Program} {R : List Hp} {n : Nat} {all : Array Oper} {Q : Exit → Act → World → Prop} {L : Env} {Γ : List Hp} {K : Act → World → Prop}
instance yMakeFunc {g : FuncId} {cs : List Operand} {vs : List Value} [hx : Evs L cs vs] : Y P R L Γ (.makeFunc (.func g) #[] cs.toArray) (.func (.func g) #[] vs.toArray) := ⟨fun C n a w _ _ _ _ _ k i => by
  have := hx.out n a k
  simp [execOp, Instr.makeFunc, this]⟩
/-- the arguments and what is captured -/
class Cat (vs cs : List Value) (xs : outParam (List Value)) : Prop where
  out : vs ++ cs = xs
instance catNil (cs : List Value) : Cat [] cs cs := ⟨rfl⟩
instance catCons (v : Value) (vs cs xs : List Value) [h : Cat vs cs xs] : Cat (v :: vs) cs (v :: xs) := ⟨by rw [List.cons_append, h.out]⟩
/-- a call of a function value -/
theorem v_callV {d g : Nat} {f : Operand} {xs : Array Operand} {ats : Array TypeId} {ty : TypeId} {pos : String} {af : Array Edge} {vs cs gs : List Value} {Rc Γc Γr : List Hp} {Post : Value → List Hp → Prop}
    [hl : Ev L f (.func (.func g) #[] cs.toArray)] [hf : Fn1 P g] [hx : Evs L xs.toList vs] [hd : Is (Nat.ble n d = false)] {M : List Nat} {w0 : World} {D : Bool} [hcat : Cat vs cs gs] (hs : SpecD D P g gs.toArray Rc Γc Post) [hp : Pick Γ Γc Γr] [hsub : Sub Rc R Γ] (ha : ∀ b ∈ keys Γc, b ∉ keys Rc)
    (h : ∀ v Γ', Post v Γ' → VK ⟨M, w0, D⟩ R n ((d, v) :: L) (Γ' ++ Γr) K) : VK ⟨M, w0, D⟩ R n L Γ (wp1 P all Q ⟨some d, .call ⟨.value f, xs, ats⟩, ty, pos, af, none⟩ K) := VK.mk fun a w k i => wp1.mk (by
  have hcat' := hcat.out
  subst hcat'
  have hd' : d < n := lt_of_ble hd.out
  have hargs : xs.map a.eval = vs.toArray := by
    have := hx.out n a k
    apply Array.ext'
    simpa using this
  have hfv := hl.out n a k
  have hrun : (execOp a.eval ⟨some d, .call ⟨.value f, xs, ats⟩, ty, pos, af, none⟩).run P w = .ok (.enter g (vs ++ cs).toArray) w := by
    have e : vs.toArray ++ cs.toArray = (vs ++ cs).toArray := by simp
    simp [execOp, resolve, Deferred.ofValue, invoke, hargs, hfv, e]
    have := hf.out (vs ++ cs).toArray w
    simpa using this
  simp only [Region.wanted, if_true]
  refine .inl ?_
  simp only [Oper.wp, hrun, Oper.upon]
  refine (hs w (i.callee hp.out hsub.out ha)).mono ?_
  rintro e w' ⟨v, Γ', rfl, hP, j⟩
  exact (h v Γ' hP).out _ _ (k.put hd') (i.back hp.out j))
theorem v_callVO {d g : Nat} {f : Operand} {xs : Array Operand} {ats : Array TypeId} {ty : TypeId} {pos : String} {af : Array Edge} {vs cs gs : List Value} {Γc Γr : List Hp} {Post : Value → List Hp → Prop}
    [hl : Ev L f (.func (.func g) #[] cs.toArray)] [hf : Fn1 P g] [hx : Evs L xs.toList vs] [hd : Is (Nat.ble n d = false)] {M : List Nat} {w0 : World} {D : Bool} [hcat : Cat vs cs gs] (hs : SpecD D P g gs.toArray [] Γc Post) [hp : Pick Γ Γc Γr]
    (h : ∀ v Γ', Post v Γ' → VK ⟨M, w0, D⟩ R n ((d, v) :: L) (Γ' ++ Γr) K) : VK ⟨M, w0, D⟩ R n L Γ (wp1 P all Q ⟨some d, .call ⟨.value f, xs, ats⟩, ty, pos, af, none⟩ K) := v_callV hs (fun _ _ hb => by cases hb) h
theorem v_callVR {d g : Nat} {f : Operand} {xs : Array Operand} {ats : Array TypeId} {ty : TypeId} {pos : String} {af : Array Edge} {vs cs gs : List Value} {Rc : List Hp} {Post : Value → List Hp → Prop}
    [hl : Ev L f (.func (.func g) #[] cs.toArray)] [hf : Fn1 P g] [hx : Evs L xs.toList vs] [hd : Is (Nat.ble n d = false)] {M : List Nat} {w0 : World} {D : Bool} [hcat : Cat vs cs gs] (hs : SpecD D P g gs.toArray Rc [] Post) [hsub : Sub Rc R Γ]
    (h : ∀ v Γ', Post v Γ' → VK ⟨M, w0, D⟩ R n ((d, v) :: L) (Γ' ++ Γ) K) : VK ⟨M, w0, D⟩ R n L Γ (wp1 P all Q ⟨some d, .call ⟨.value f, xs, ats⟩, ty, pos, af, none⟩ K) := v_callV hs (fun _ hb => by cases hb) h
theorem apart_of {C : Cx} {w : World} {Rc Γc Γr : List Hp} (i : Inv C R Γ w) (hp : Γ.flatten.Perm (Γc.flatten ++ Γr.flatten)) (hs : ∀ x ∈ Rc.flatten, x ∈ R.flatten ∨ x ∈ Γr.flatten) : ∀ b ∈ keys Γc, b ∉ keys Rc := fun b hb hc => by
  have hk : (keys Γ).Perm (keys Γc ++ keys Γr) := by simpa [keys] using hp.map (·.1)
  have hn := hk.nodup_iff.1 i.nodup
  obtain ⟨x, hx, rfl⟩ := List.mem_map.1 hc
  rcases hs x hx with h | h
  · exact i.apart _ (hk.mem_iff.2 (List.mem_append_left _ hb)) (List.mem_map.2 ⟨x, h, rfl⟩)
  · exact (List.nodup_append.1 hn).2.2 _ hb _ (List.mem_map.2 ⟨x, h, rfl⟩) rfl
/-- a call that changes a part of what is own and reads of the rest -/
theorem v_callB {K : Act → World → Prop} {d f : Nat} {xs : Array Operand} {ats : Array TypeId} {ty : TypeId} {pos : String} {af : Array Edge} {vs : List Value} {Rc Γc Γr : List Hp} {Post : Value → List Hp → Prop}
    [hf : Fn1 P f] [hx : Evs L xs.toList vs] [hd : Is (Nat.ble n d = false)] {M : List Nat} {w0 : World} {D : Bool} (hs : SpecD D P f vs.toArray Rc Γc Post) [hp : Pick Γ Γc Γr] [hsub : Sub Rc R Γr]
    (h : ∀ v Γ', Post v Γ' → VK ⟨M, w0, D⟩ R n ((d, v) :: L) (Γ' ++ Γr) K) : VK ⟨M, w0, D⟩ R n L Γ (wp1 P all Q ⟨some d, .call ⟨.value (.func f), xs, ats⟩, ty, pos, af, none⟩ K) := VK.mk fun a w k i =>
  (v_call hs (hsub := ⟨fun x hx => (hsub.out x hx).imp id fun h => hp.out.mem_iff.2 (List.mem_append_right _ h)⟩) (apart_of i hp.out hsub.out) h).out a w k i
theorem v_callVB {d g : Nat} {f : Operand} {xs : Array Operand} {ats : Array TypeId} {ty : TypeId} {pos : String} {af : Array Edge} {vs cs gs : List Value} {Rc Γc Γr : List Hp} {Post : Value → List Hp → Prop}
    [hl : Ev L f (.func (.func g) #[] cs.toArray)] [hf : Fn1 P g] [hx : Evs L xs.toList vs] [hd : Is (Nat.ble n d = false)] {M : List Nat} {w0 : World} {D : Bool} [hcat : Cat vs cs gs] (hs : SpecD D P g gs.toArray Rc Γc Post) [hp : Pick Γ Γc Γr] [hsub : Sub Rc R Γr]
    (h : ∀ v Γ', Post v Γ' → VK ⟨M, w0, D⟩ R n ((d, v) :: L) (Γ' ++ Γr) K) : VK ⟨M, w0, D⟩ R n L Γ (wp1 P all Q ⟨some d, .call ⟨.value f, xs, ats⟩, ty, pos, af, none⟩ K) := VK.mk fun a w k i =>
  (v_callV hs (hsub := ⟨fun x hx => (hsub.out x hx).imp id fun h => hp.out.mem_iff.2 (List.mem_append_right _ h)⟩) (apart_of i hp.out hsub.out) h).out a w k i
end
end Go.SX
