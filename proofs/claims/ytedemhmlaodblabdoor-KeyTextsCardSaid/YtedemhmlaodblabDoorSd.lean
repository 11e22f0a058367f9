/- Symbolic execution of a region that draws its order: a plan says in which order the operations are taken; one check says that no other order comes to anything else. -/
import Derived.Test.YtedemhmlaodblabDoorSe
import Derived.OrdersHeld
import Derived.Laws.Pointers
namespace Go.SX
set_option linter.unusedSimpArgs false
set_option linter.unusedVariables false
open Go

theorem wp1.out {P : Program} {all : Array Oper} {Q : Exit → Act → World → Prop} {o : Oper} {K : Act → World → Prop} {a : Act} {w : World} (h : wp1 P all Q o K a w) : if Region.wanted o (yielded all a.tmps) then o.wp P a w K Q ∨ (o.asks P a w ∧ LetsOut Q) else K (a.put o.dst undef) w := by
  unfold wp1 at h; exact h
theorem wp1.mk {P : Program} {all : Array Oper} {Q : Exit → Act → World → Prop} {o : Oper} {K : Act → World → Prop} {a : Act} {w : World} (h : if Region.wanted o (yielded all a.tmps) then o.wp P a w K Q ∨ (o.asks P a w ∧ LetsOut Q) else K (a.put o.dst undef) w) : wp1 P all Q o K a w := by
  unfold wp1; exact h
/-- a plan: 'take' an operation first that asks nothing of the others; 'act' where one alone can come; 'two', 'three' where one of several comes -/
inductive Pl where
  | done
  | take (i : Nat) (r : Pl)
  | act (i : Nat) (r : Pl)
  | two (i : Nat) (r : Pl) (j : Nat) (s : Pl)
  | three (i : Nat) (r : Pl) (j : Nat) (s : Pl) (k : Nat) (t : Pl)
/-- kl: the operation that ends what is stable for a while -/
def Pl.ok (all : Array Oper) (kl : Nat) : Nat → Array Bool → Pl → Bool
  | _, ls, .done => (Region.ready .any all ls).isEmpty
  | f + 1, ls, .take i r => (Region.ready .any all ls).contains i && Region.free .any all ls i && !Nat.beq i kl && Pl.ok all kl f (ls.setIfInBounds i true) r
  | f + 1, ls, .act i r => decide (Region.ready .any all ls = [i]) && Pl.ok all kl f (ls.setIfInBounds i true) r
  | f + 1, ls, .two i r j s => decide (Region.ready .any all ls = [i, j]) && Pl.ok all kl f (ls.setIfInBounds i true) r && Pl.ok all kl f (ls.setIfInBounds j true) s
  | f + 1, ls, .three i r j s k t => decide (Region.ready .any all ls = [i, j, k]) && Pl.ok all kl f (ls.setIfInBounds i true) r && Pl.ok all kl f (ls.setIfInBounds j true) s && Pl.ok all kl f (ls.setIfInBounds k true) t
  | 0, _, _ => false

/-! ### whatever order comes: what holds of the world hangs on what has come -/
section
variable {P : Program} {ops : Array Oper} {Q : Exit → Act → World → Prop} {md : Region.Mode} {S : Array Bool → World → Prop}
def wpAnyI (P : Program) (md : Region.Mode) (ops : Array Oper) (Q : Exit → Act → World → Prop) (S : Array Bool → World → Prop) : Nat → Array Bool → Act → World → Prop
  | 0, listed, a, w => Region.ready md ops listed = [] ∧ Q .normal a w
  | fuel + 1, listed, a, w =>
    (Region.ready md ops listed = [] → Q .normal a w) ∧
    ∀ i ∈ Region.ready md ops listed, wpOp P ops Q i (fun a' w' => S (listed.setIfInBounds i true) w' ∧ wpAnyI P md ops Q S fuel (listed.setIfInBounds i true) a' w') a w
theorem wpAny_of_I : ∀ (fuel : Nat) (listed : Array Bool) (a : Act) (w : World), wpAnyI P md ops Q S fuel listed a w → wpAny P md ops Q fuel listed a w
  | 0, _, _, _, h => h
  | fuel + 1, _, _, _, h => ⟨h.1, fun i hi => wpOp_mono (fun a' w' h' => wpAny_of_I fuel _ a' w' h'.2) (h.2 i hi)⟩
/-- what has come has all come that it waits for -/
def Closed (md : Region.Mode) (ops : Array Oper) (ls : Array Bool) : Prop := ∀ k o, ops[k]? = some o → ls.getD k false = true → ∀ e ∈ o.after, Region.binds md e = true → ls.getD e.on false = true
theorem Closed.set {ls : Array Bool} {j : Nat} (h : Closed md ops ls) (hj : j ∈ Region.ready md ops ls) : Closed md ops (ls.setIfInBounds j true) := fun k o hk hl e he hb => by
  by_cases hjk : j = k
  · subst hjk
    obtain ⟨_, oj, hoj, hall⟩ := mem_ready.1 hj
    rw [hk] at hoj
    obtain rfl := Option.some.inj hoj
    exact getD_set_true (hall e he hb)
  · rw [getD_set_ne false hjk] at hl
    exact getD_set_true (h k o hk hl e he hb)
theorem YieldsIf.weak {S1 S2 : World → Prop} {o : Oper} {v : Value} {a : Act} (h : YieldsIf P ops S1 o v a) (hs : ∀ w, S2 w → S1 w) : YieldsIf P ops S2 o v a := h.imp (fun ⟨x, y⟩ => ⟨x, fun w hw => y w (hs w hw)⟩) id
theorem wpAnyI_first {i : Nat} {oi : Oper} {v : Value} (hi : ops[i]? = some oi) (hsel : ∀ (j : Nat) (o : Oper) cs b, ops[j]? = some o → o.op ≠ .select cs b)
    (hQ : ∀ c a w, Q (.panic c) (a.put oi.dst v) w → Q (.panic c) a w) (hS : ∀ ls w, S (ls.setIfInBounds i true) w ↔ S ls w) (T : World → Prop) :
    ∀ (fuel : Nat) (listed : Array Bool) (a : Act) (w : World),
      (∀ j oj, ops[j]? = some oj → j ≠ i → listed.getD j true = false → (∀ e ∈ oj.after, Region.binds md e = true → e.on ≠ i) → oi.apart ops oj = true) →
      i ∈ Region.ready md ops listed → Closed md ops listed → (∀ ls' w, Closed md ops ls' → ls'.getD i false = false → S ls' w → T w) → YieldsIf P ops T oi v a → S listed w →
      wpAnyI P md ops Q S fuel (listed.setIfInBounds i true) (a.put oi.dst v) w → wpAnyI P md ops Q S (fuel + 1) listed a w := by
  have un : ∀ (ls : Array Bool), ls.getD i true = false → ls.getD i false = false := fun ls h => by
    rcases Nat.lt_or_ge i ls.size with h' | h'
    · simpa [h'] using h
    · simp [Array.getElem?_eq_none h'] at h
  intro fuel
  induction fuel with
  | zero =>
    intro listed a w _ hr hcl hT hy hSw H
    refine ⟨fun h => (by rw [h] at hr; cases hr), fun j hj => ?_⟩
    by_cases hji : j = i
    · subst hji; exact hy.wpOp hi (hT _ _ hcl (un _ (mem_ready.1 hr).1) hSw) ⟨(hS _ _).2 hSw, H⟩
    · have := ready_mono hj hji
      rw [H.1] at this
      cases this
  | succ fuel ih =>
    intro listed a w hfree hr hcl hT hy hSw H
    refine ⟨fun h => (by rw [h] at hr; cases hr), fun j hj => ?_⟩
    by_cases hji : j = i
    · subst hji; exact hy.wpOp hi (hT _ _ hcl (un _ (mem_ready.1 hr).1) hSw) ⟨(hS _ _).2 hSw, H⟩
    · have h1 := H.2 j (ready_mono hj hji)
      obtain ⟨hjun, oj, hoj, hall⟩ := mem_ready.1 hj
      have hnot : ∀ e ∈ oj.after, Region.binds md e = true → e.on ≠ i := fun e he hb heq => by
        have h1 := hall e he hb
        have h0 := (mem_ready.1 hr).1
        rw [heq] at h1
        rcases Nat.lt_or_ge i listed.size with h' | h'
        · simp [h'] at h0 h1; rw [h0] at h1; cases h1
        · simp [Array.getElem?_eq_none h'] at h1
      have h2 := wpOp_putIf hoj (hfree j oj hoj hji hjun hnot) (fun cs b => hsel i oi cs b hi) (fun cs b => hsel j oj cs b hoj) hQ hy h1
      have hfree' : ∀ k ok, ops[k]? = some ok → k ≠ i → (listed.setIfInBounds j true).getD k true = false →
          (∀ e ∈ ok.after, Region.binds md e = true → e.on ≠ i) → oi.apart ops ok = true := fun k ok hk hki hun hno => by
        refine hfree k ok hk hki ?_ hno
        by_cases hjk : j = k
        · subst hjk; exact hjun
        · rw [getD_set_ne true hjk] at hun; exact hun
      refine wpOp_mono (fun a' w' h3 => ?_) h2
      have h4 : S (listed.setIfInBounds j true) w' := by
        have := h3.2.1
        rw [Array.setIfInBounds_comm _ _ (Ne.symm hji)] at this
        exact (hS _ _).1 this
      refine ⟨h4, ih (listed.setIfInBounds j true) a' w' hfree' (ready_mono hr (Ne.symm hji)) (hcl.set hj) hT h3.1 h4 ?_⟩
      rw [Array.setIfInBounds_comm _ _ hji]
      exact h3.2.2
theorem wpAnyI_all {rs : List Nat} {fuel : Nat} {listed : Array Bool} {a : Act} {w : World} (hr : Region.ready md ops listed = rs) (hne : rs ≠ [])
    (h : ∀ i ∈ rs, wpOp P ops Q i (fun a' w' => S (listed.setIfInBounds i true) w' ∧ wpAnyI P md ops Q S fuel (listed.setIfInBounds i true) a' w') a w) : wpAnyI P md ops Q S (fuel + 1) listed a w :=
  ⟨fun h0 => absurd (hr ▸ h0) hne, hr ▸ h⟩
theorem wpAnyI_done {listed : Array Bool} {a : Act} {w : World} (hr : Region.ready md ops listed = []) (h : Q .normal a w) : ∀ fuel, wpAnyI P md ops Q S fuel listed a w
  | 0 => ⟨hr, h⟩
  | _ + 1 => ⟨fun _ => h, by rw [hr]; simp⟩
end

/-- these blocks are as they are -/
def Stab (Rs : List Hp) (w : World) : Prop := ∀ x ∈ Rs.flatten, w.heap[x.1]? = some x.2
/-- .. as long as the region runs (Rs), and till kl comes (Rt) -/
def Std (Rs : List Hp) (kl : Nat) (Rt : List Hp) (ls : Array Bool) (w : World) : Prop := Stab Rs w ∧ (ls.getD kl false = false → Stab Rt w)
theorem Std.iff {Rs : List Hp} {kl : Nat} {Rt : List Hp} {i : Nat} (h : i ≠ kl) (ls : Array Bool) (w : World) : Std Rs kl Rt (ls.setIfInBounds i true) w ↔ Std Rs kl Rt ls w := by
  unfold Std; rw [getD_set_ne false h]
class Mixed (P : Program) : Prop where
  out : P.follows .mixedOrders = true
/-- where it ends by a panic, the slots are nothing to it -/
class QP (Q : Exit → Act → World → Prop) : Prop where
  out : ∀ c a w d v, Q (.panic c) (a.put d v) w → Q (.panic c) a w
instance qpBody (P : Program) (fn : Func) (X : Ending → World → Prop) : QP (bodyPost P fn X) := ⟨fun c a w d v h => by
  cases d <;> exact h⟩
instance qpThen (K : Act → World → Prop) (Q : Exit → Act → World → Prop) [h : QP Q] : QP (Exit.then K Q) := ⟨fun c a w d v x => h.out c a w d v x⟩
instance qpBlock (id : Nat) (Q : Exit → Act → World → Prop) [h : QP Q] : QP (Exit.inBlock id Q) := ⟨fun c a w d v x => h.out c a w d v x⟩

section
variable {P : Program} {C : Cx} {R : List Hp} {n : Nat} {all : Array Oper} {Q : Exit → Act → World → Prop} {L : Env} {Γ : List Hp} {rest : List Oper} {w : World} {Rs : List Hp}
/-- the rest of a drawn region, by a plan; b: kl hasn't come yet -/
def KA (P : Program) (all : Array Oper) (Q : Exit → Act → World → Prop) (Rs : List Hp) (kl : Nat) (Rt : List Hp) (b : Bool) (pl : Pl) : Act → World → Prop := fun a w =>
  Region.noSelect all = true → ∀ (fuel : Nat) (ls : Array Bool), Pl.ok all kl fuel ls pl = true → Closed .any all ls → ls.size = all.size → (b = false → ls.getD kl false = true) → Std Rs kl Rt ls w → wpAnyI P .any all Q (Std Rs kl Rt) fuel ls a w
/-- .. behind operation i: the stable blocks are to be found again -/
def KS (P : Program) (all : Array Oper) (Q : Exit → Act → World → Prop) (Rs : List Hp) (kl : Nat) (Rt : List Hp) (b : Bool) (i : Nat) (pl : Pl) : Act → World → Prop := fun a w =>
  Stab Rs w ∧ (b = true → i ≠ kl → Stab Rt w) ∧ KA P all Q Rs kl Rt (b && !Nat.beq i kl) pl a w
/-- operation i, taken first -/
def FT (P : Program) (all : Array Oper) (Q : Exit → Act → World → Prop) (Rs : List Hp) (kl : Nat) (Rt : List Hp) (b : Bool) (i : Nat) (r : Pl) : Oper → Act → World → Prop := fun o a w =>
  all[i]? = some o → Region.noSelect all = true → ∀ (fuel : Nat) (ls : Array Bool), Pl.ok all kl (fuel + 1) ls (.take i r) = true → Closed .any all ls → ls.size = all.size → (b = false → ls.getD kl false = true) → Std Rs kl Rt ls w → wpAnyI P .any all Q (Std Rs kl Rt) (fuel + 1) ls a w
/-- operation i, carried out -/
def FD (P : Program) (all : Array Oper) (Q : Exit → Act → World → Prop) (Rs : List Hp) (kl : Nat) (Rt : List Hp) (b : Bool) (i : Nat) (r : Pl) : Oper → Act → World → Prop := fun o a w =>
  all[i]? = some o → Region.noSelect all = true → ∀ (fuel : Nat) (ls : Array Bool), Pl.ok all kl fuel (ls.setIfInBounds i true) r = true → Closed .any all (ls.setIfInBounds i true) → ls.size = all.size → (b = false → ls.getD kl false = true) → Std Rs kl Rt ls w →
    wpOp P all Q i (fun a' w' => Std Rs kl Rt (ls.setIfInBounds i true) w' ∧ wpAnyI P .any all Q (Std Rs kl Rt) fuel (ls.setIfInBounds i true) a' w') a w
/-- an operation whose guard is looked at first: o is the operation itself, or it without a guard that lets it pass -/
def KG (all : Array Oper) (F : Oper → Act → World → Prop) (o : Oper) : Act → World → Prop := fun a w =>
  ∀ o', (o' = o ∨ (o.guard = none ∧ ∃ g, o' = { o with guard := g } ∧ Region.wanted o' (yielded all a.tmps) = true)) → F o' a w
abbrev KT (P : Program) (all : Array Oper) (Q : Exit → Act → World → Prop) (Rs : List Hp) (kl : Nat) (Rt : List Hp) (b : Bool) (i : Nat) (o : Oper) (r : Pl) := KG all (FT P all Q Rs kl Rt b i r) o
abbrev KD (P : Program) (all : Array Oper) (Q : Exit → Act → World → Prop) (Rs : List Hp) (kl : Nat) (Rt : List Hp) (b : Bool) (i : Nat) (o : Oper) (r : Pl) := KG all (FD P all Q Rs kl Rt b i r) o

theorem v_drawn (kl : Nat) (pl : Pl) (Rs Rt : List Hp) {id : Nat} {ops : Array Oper} [hm : Mixed P] [hs : Sub Rs R Γ] [hst : Sub Rt R Γ] (hok : (Region.noSelect ops && Pl.ok ops kl ops.size (Array.replicate ops.size false) pl) = true)
    (h : VK C R n L Γ (KA P ops Q Rs kl Rt true pl)) : VK C R n L Γ (KC P (.region id ops true) Q) := VK.mk fun a w k i => KC.mk <| wp_region_any hm.out (wpAny_of_I (S := Std Rs kl Rt) _ _ _ _ (by
  rw [Bool.and_eq_true] at hok
  refine h.out a _ k (i.drew) hok.1 _ _ hok.2 (fun k o _ hl => ?_) (by simp) (fun h => by cases h) ⟨fun x hx => (hs.out x hx).elim (i.ro x) (i.own x), fun _ x hx => (hst.out x hx).elim (i.ro x) (i.own x)⟩
  exfalso
  rcases Nat.lt_or_ge k ops.size with h' | h'
  · simp [h'] at hl
  · simp [h'] at hl))
theorem ptee {P : Program} {t e : TypeId} (h : P.underlying t = some (.pointer e)) : P.underlying t = some (.pointer (P.pointee t)) := by
  have hp : P.pointee t = e := by simp [Program.pointee, h]
  rw [hp, h]
instance biPtrNil (P : Program) (t e : TypeId) (x : Addr) [h : Und P t (.pointer e)] : Bin P .eql t (.pointer (some x)) (.pointer none) (.bool false) := ⟨fun w => run_eql_pointer_nil w t _ (ptee h.out), fun _ p q w => by unfold eqGuard; simp⟩
instance biPtrNilN (P : Program) (t e : TypeId) (x : Addr) [h : Und P t (.pointer e)] : Bin P .neq t (.pointer (some x)) (.pointer none) (.bool true) := ⟨fun w => run_neq_pointer_nil w t _ (ptee h.out), fun _ p q w => by unfold eqGuard; simp⟩
instance (priority := high) pickEmpty (Γ Γc Γr : List Hp) [h : Pick Γ Γc Γr] : Pick Γ ([] :: Γc) Γr := ⟨by simpa using h.out⟩
/-- two memories, one behind the other -/
class App (R Γ : List Hp) (X : outParam (List Hp)) : Prop where
  out : X = R ++ Γ
instance appNil (Γ : List Hp) : App [] Γ Γ := ⟨rfl⟩
instance appCons (s : Hp) (R Γ X : List Hp) [h : App R Γ X] : App (s :: R) Γ (s :: X) := ⟨by rw [h.out]; rfl⟩
theorem App.sub {R Γ X : List Hp} (h : App R Γ X) : Sub X R Γ := ⟨fun x hx => by
  rw [h.out, List.flatten_append, List.mem_append] at hx; exact hx⟩
/-- all that is known stays as it is -/
theorem v_drawn0 (pl : Pl) {X : List Hp} {id : Nat} {ops : Array Oper} [hm : Mixed P] [hx : App R Γ X] (hok : (Region.noSelect ops && Pl.ok ops 1000000 ops.size (Array.replicate ops.size false) pl) = true)
    (h : VK C R n L Γ (KA P ops Q X 1000000 [] true pl)) : VK C R n L Γ (KC P (.region id ops true) Q) := v_drawn (hs := hx.sub) 1000000 pl X [] hok h
/-- .. till operation kl comes -/
theorem v_drawnK (kl : Nat) (pl : Pl) {X : List Hp} {id : Nat} {ops : Array Oper} [hm : Mixed P] [hx : App R Γ X] [hs : Sub R R Γ] (hok : (Region.noSelect ops && Pl.ok ops kl ops.size (Array.replicate ops.size false) pl) = true)
    (h : VK C R n L Γ (KA P ops Q R kl X true pl)) : VK C R n L Γ (KC P (.region id ops true) Q) := v_drawn (hst := hx.sub) kl pl R X hok h
variable {kl : Nat} {Rt : List Hp} {b : Bool}
theorem v_aDone (h : VK C R n L Γ (KE Q .normal)) : VK C R n L Γ (KA P all Q Rs kl Rt b .done) := VK.mk fun a w k i _ fuel ls hok _ _ _ _ =>
  wpAnyI_done (by cases fuel <;> simpa [Pl.ok] using hok) ((h.out a w k i).out) fuel
theorem v_aTake {i : Nat} {r : Pl} {o : Oper} (ho : all[i]? = some o) (h : VK C R n L Γ (KT P all Q Rs kl Rt b i o r)) : VK C R n L Γ (KA P all Q Rs kl Rt b (.take i r)) := VK.mk fun a w k j hn fuel ls hok hc hz hb hS => by
  cases fuel with
  | zero => simp [Pl.ok] at hok
  | succ f => exact (show KG all (FT P all Q Rs kl Rt b i r) o a w from h.out a w k j) o (.inl rfl) ho hn f ls hok hc hz hb hS
theorem fd_use {i : Nat} {r : Pl} {o : Oper} {a : Act} (k : Kn n L a) (j : Inv C R Γ w) (h : VK C R n L Γ (KD P all Q Rs kl Rt b i o r)) : FD P all Q Rs kl Rt b i r o a w :=
  (show KG all (FD P all Q Rs kl Rt b i r) o a w from h.out a w k j) o (.inl rfl)
theorem mem_of_eq {α : Type} {l m : List α} {x : α} (h : l = m) (hx : x ∈ m) : x ∈ l := h ▸ hx
theorem v_aAct {i : Nat} {r : Pl} {o : Oper} (ho : all[i]? = some o) (h : VK C R n L Γ (KD P all Q Rs kl Rt b i o r)) : VK C R n L Γ (KA P all Q Rs kl Rt b (.act i r)) := VK.mk fun a w k j hn fuel ls hok hc hz hb hS => by
  cases fuel with
  | zero => simp [Pl.ok] at hok
  | succ f =>
    simp only [Pl.ok, Bool.and_eq_true, decide_eq_true_eq] at hok
    exact wpAnyI_all hok.1 (by simp) (fun x hx => by
      have hm := mem_of_eq hok.1 hx
      obtain rfl := List.mem_singleton.1 hx
      exact fd_use k j h ho hn f ls hok.2 (hc.set hm) hz hb hS)
theorem v_aTwo {i j : Nat} {r s : Pl} {o u : Oper} (ho : all[i]? = some o) (hu : all[j]? = some u) (h : VK C R n L Γ (KD P all Q Rs kl Rt b i o r)) (h2 : VK C R n L Γ (KD P all Q Rs kl Rt b j u s)) : VK C R n L Γ (KA P all Q Rs kl Rt b (.two i r j s)) := VK.mk fun a w k v hn fuel ls hok hc hz hb hS => by
  cases fuel with
  | zero => simp [Pl.ok] at hok
  | succ f =>
    simp only [Pl.ok, Bool.and_eq_true, decide_eq_true_eq] at hok
    exact wpAnyI_all hok.1.1 (by simp) (fun x hx => by
      have hm := mem_of_eq hok.1.1 hx
      rcases List.mem_cons.1 hx with rfl | hx
      · exact fd_use k v h ho hn f ls hok.1.2 (hc.set hm) hz hb hS
      · obtain rfl := List.mem_singleton.1 hx
        exact fd_use k v h2 hu hn f ls hok.2 (hc.set hm) hz hb hS)
theorem v_aThree {i j m : Nat} {r s t : Pl} {o u y : Oper} (ho : all[i]? = some o) (hu : all[j]? = some u) (hy : all[m]? = some y) (h : VK C R n L Γ (KD P all Q Rs kl Rt b i o r)) (h2 : VK C R n L Γ (KD P all Q Rs kl Rt b j u s)) (h3 : VK C R n L Γ (KD P all Q Rs kl Rt b m y t)) :
    VK C R n L Γ (KA P all Q Rs kl Rt b (.three i r j s m t)) := VK.mk fun a w k v hn fuel ls hok hc hz hb hS => by
  cases fuel with
  | zero => simp [Pl.ok] at hok
  | succ f =>
    simp only [Pl.ok, Bool.and_eq_true, decide_eq_true_eq] at hok
    exact wpAnyI_all hok.1.1.1 (by simp) (fun x hx => by
      have hm := mem_of_eq hok.1.1.1 hx
      rcases List.mem_cons.1 hx with rfl | hx
      · exact fd_use k v h ho hn f ls hok.1.1.2 (hc.set hm) hz hb hS
      · rcases List.mem_cons.1 hx with rfl | hx
        · exact fd_use k v h2 hu hn f ls hok.1.2 (hc.set hm) hz hb hS
        · obtain rfl := List.mem_singleton.1 hx
          exact fd_use k v h3 hy hn f ls hok.2 (hc.set hm) hz hb hS)
theorem wanted_none {dst : Option Tmp} {op : Op} {ty : TypeId} {pos : String} {af : Array Edge} {y : Nat → Option Bool} : Region.wanted ⟨dst, op, ty, pos, af, none⟩ y = true := rfl
theorem wanted_yes {a : Act} {dst : Option Tmp} {op : Op} {ty : TypeId} {pos : String} {af : Array Edge} {j t : Nat} {b : Bool} (ht : (all[j]?).bind (·.dst) = some t) (hl : Lk L t (.bool b)) (k : Kn n L a) :
    Region.wanted ⟨dst, op, ty, pos, af, some (j, b)⟩ (yielded all a.tmps) = true := by
  simp only [Region.wanted, yielded, ht, Option.bind_some, k.slot hl.out, beq_self_eq_true]
theorem wanted_no {a : Act} {dst : Option Tmp} {op : Op} {ty : TypeId} {pos : String} {af : Array Edge} {j t : Nat} {b c : Bool} (ht : (all[j]?).bind (·.dst) = some t) (hl : Lk L t (.bool c)) (hne : c ≠ b) (k : Kn n L a) :
    Region.wanted ⟨dst, op, ty, pos, af, some (j, b)⟩ (yielded all a.tmps) = false := by
  simp only [Region.wanted, yielded, ht, Option.bind_some, k.slot hl.out]
  cases c <;> cases b <;> simp_all
theorem wanted_un {a : Act} {dst : Option Tmp} {op : Op} {ty : TypeId} {pos : String} {af : Array Edge} {j t : Nat} {b : Bool} (ht : (all[j]?).bind (·.dst) = some t) (hl : Lk L t undef) (k : Kn n L a) :
    Region.wanted ⟨dst, op, ty, pos, af, some (j, b)⟩ (yielded all a.tmps) = false := by
  simp only [Region.wanted, yielded, ht, Option.bind_some, k.slot hl.out]
  cases b <;> rfl
/-- the guard lets it pass -/
theorem v_gYes {F : Oper → Act → World → Prop} {dst : Option Tmp} {op : Op} {ty : TypeId} {pos : String} {af : Array Edge} {j t : Nat} {b : Bool} (ht : (all[j]?).bind (·.dst) = some t) [hl : Lk L t (.bool b)]
    (h : VK C R n L Γ (KG all F ⟨dst, op, ty, pos, af, none⟩)) : VK C R n L Γ (KG all F ⟨dst, op, ty, pos, af, some (j, b)⟩) := VK.mk fun a w k i o' ho => by
  rcases ho with rfl | ⟨h1, _⟩
  · exact h.out a w k i _ (.inr ⟨rfl, some (j, b), rfl, wanted_yes ht hl k⟩)
  · cases h1
theorem take_by {i : Nat} {r : Pl} {o : Oper} {d : Nat} {v : Value} {a : Act} {al : Bool} {T : World → Prop} (hd : o.dst = some d) (hdn : d < n) (k : Kn n L a) (iv : Inv C R Γ w) [hq : QP Q]
    (hT : ∀ ls' w, Closed .any all ls' → ls'.getD i false = false → Std Rs kl Rt ls' w → T w) (hy : YieldsIf P all T o v a) (h : VK C R n ((d, v) :: L) Γ (KA P all Q Rs kl Rt al r)) : FT P all Q Rs kl Rt al i r o a w := fun ho hn fuel ls hok hc hz hb hS => by
  simp only [Pl.ok, Bool.and_eq_true, Bool.not_eq_true', List.contains_eq_mem, decide_eq_true_eq] at hok
  have hne : i ≠ kl := Nat.ne_of_beq_eq_false hok.1.2
  refine wpAnyI_first (T := T) ho (Region.noSelect_spec hn) (fun c a w => hq.out c a w o.dst v) (Std.iff hne) fuel ls a w (Region.free_spec ho hok.1.1.2) hok.1.1.1 hc hT hy hS ?_
  rw [hd]
  exact h.out _ _ (k.put hdn) iv hn _ _ hok.2 (hc.set hok.1.1.1) (by simpa using hz) (fun e => getD_set_true (hb e)) ((Std.iff hne _ _).2 hS)
theorem fd_skip {i : Nat} {r : Pl} {o : Oper} {d : Nat} {a : Act} {al : Bool} (hd : o.dst = some d) (hdn : d < n) (k : Kn n L a) (iv : Inv C R Γ w) (hw : Region.wanted o (yielded all a.tmps) = false) (h : VK C R n ((d, undef) :: L) Γ (KS P all Q Rs kl Rt al i r)) : FD P all Q Rs kl Rt al i r o a w := fun ho hn fuel ls hok hc hz hb hS => by
  obtain ⟨h1, h2, h3⟩ := (show KS P all Q Rs kl Rt al i r _ _ from h.out _ _ (k.put hdn (v := undef)) iv)
  unfold wpOp
  simp only [ho, hw]
  rw [hd]
  have hS' : Std Rs kl Rt (ls.setIfInBounds i true) w := ⟨h1, fun e => hS.2 (by
    cases h : ls.getD kl false with
    | false => rfl
    | true => rw [getD_set_true h] at e; cases e)⟩
  have hil : i < ls.size := hz ▸ (Array.getElem?_eq_some_iff.1 ho).1
  exact ⟨hS', h3 hn _ _ hok hc (by simpa using hz) (fun e => by
    cases al with
    | false => exact getD_set_true (hb rfl)
    | true =>
      simp at e
      subst e
      simp [hil]) hS'⟩
/-- .. or doesn't: taken first, or carried out -/
theorem v_gNoT {i : Nat} {r : Pl} {d : Nat} {op : Op} {ty : TypeId} {pos : String} {af : Array Edge} {j t : Nat} {b al : Bool} (ht : (all[j]?).bind (·.dst) = some t) [hl : Lk L t (.bool (!b))] [hd : Is (Nat.ble n d = false)] [hq : QP Q]
    (h : VK C R n ((d, undef) :: L) Γ (KA P all Q Rs kl Rt al r)) : VK C R n L Γ (KT P all Q Rs kl Rt al i ⟨some d, op, ty, pos, af, some (j, b)⟩ r) := VK.mk fun a w k iv o' ho => by
  rcases ho with rfl | ⟨h1, _⟩
  · exact take_by rfl (lt_of_ble hd.out) k iv (T := fun _ => True) (fun _ _ _ _ _ => trivial) (.inr ⟨wanted_no ht hl (by cases b <;> simp) k, rfl⟩) h
  · cases h1
theorem v_gNoTT {i : Nat} {r : Pl} {d : Nat} {op : Op} {ty : TypeId} {pos : String} {af : Array Edge} {j t : Nat} {al : Bool} (ht : (all[j]?).bind (·.dst) = some t) [hl : Lk L t (.bool false)] [hd : Is (Nat.ble n d = false)] [hq : QP Q]
    (h : VK C R n ((d, undef) :: L) Γ (KA P all Q Rs kl Rt al r)) : VK C R n L Γ (KT P all Q Rs kl Rt al i ⟨some d, op, ty, pos, af, some (j, true)⟩ r) := v_gNoT (b := true) ht h
theorem v_gNoTF {i : Nat} {r : Pl} {d : Nat} {op : Op} {ty : TypeId} {pos : String} {af : Array Edge} {j t : Nat} {al : Bool} (ht : (all[j]?).bind (·.dst) = some t) [hl : Lk L t (.bool true)] [hd : Is (Nat.ble n d = false)] [hq : QP Q]
    (h : VK C R n ((d, undef) :: L) Γ (KA P all Q Rs kl Rt al r)) : VK C R n L Γ (KT P all Q Rs kl Rt al i ⟨some d, op, ty, pos, af, some (j, false)⟩ r) := v_gNoT (b := false) ht h
theorem v_gUnT {i : Nat} {r : Pl} {d : Nat} {op : Op} {ty : TypeId} {pos : String} {af : Array Edge} {j t : Nat} {b al : Bool} (ht : (all[j]?).bind (·.dst) = some t) [hl : Lk L t undef] [hd : Is (Nat.ble n d = false)] [hq : QP Q]
    (h : VK C R n ((d, undef) :: L) Γ (KA P all Q Rs kl Rt al r)) : VK C R n L Γ (KT P all Q Rs kl Rt al i ⟨some d, op, ty, pos, af, some (j, b)⟩ r) := VK.mk fun a w k iv o' ho => by
  rcases ho with rfl | ⟨h1, _⟩
  · exact take_by rfl (lt_of_ble hd.out) k iv (T := fun _ => True) (fun _ _ _ _ _ => trivial) (.inr ⟨wanted_un ht hl k, rfl⟩) h
  · cases h1
theorem v_gNoD {i : Nat} {r : Pl} {d : Nat} {op : Op} {ty : TypeId} {pos : String} {af : Array Edge} {j t : Nat} {b al : Bool} (ht : (all[j]?).bind (·.dst) = some t) [hl : Lk L t (.bool (!b))] [hd : Is (Nat.ble n d = false)]
    (h : VK C R n ((d, undef) :: L) Γ (KS P all Q Rs kl Rt al i r)) : VK C R n L Γ (KD P all Q Rs kl Rt al i ⟨some d, op, ty, pos, af, some (j, b)⟩ r) := VK.mk fun a w k iv o' ho => by
  rcases ho with rfl | ⟨h1, _⟩
  · exact fd_skip rfl (lt_of_ble hd.out) k iv (wanted_no ht hl (by cases b <;> simp) k) h
  · cases h1
theorem v_gNoDT {i : Nat} {r : Pl} {d : Nat} {op : Op} {ty : TypeId} {pos : String} {af : Array Edge} {j t : Nat} {al : Bool} (ht : (all[j]?).bind (·.dst) = some t) [hl : Lk L t (.bool false)] [hd : Is (Nat.ble n d = false)]
    (h : VK C R n ((d, undef) :: L) Γ (KS P all Q Rs kl Rt al i r)) : VK C R n L Γ (KD P all Q Rs kl Rt al i ⟨some d, op, ty, pos, af, some (j, true)⟩ r) := v_gNoD (b := true) ht h
theorem v_gNoDF {i : Nat} {r : Pl} {d : Nat} {op : Op} {ty : TypeId} {pos : String} {af : Array Edge} {j t : Nat} {al : Bool} (ht : (all[j]?).bind (·.dst) = some t) [hl : Lk L t (.bool true)] [hd : Is (Nat.ble n d = false)]
    (h : VK C R n ((d, undef) :: L) Γ (KS P all Q Rs kl Rt al i r)) : VK C R n L Γ (KD P all Q Rs kl Rt al i ⟨some d, op, ty, pos, af, some (j, false)⟩ r) := v_gNoD (b := false) ht h
theorem v_gUnD {i : Nat} {r : Pl} {d : Nat} {op : Op} {ty : TypeId} {pos : String} {af : Array Edge} {j t : Nat} {b al : Bool} (ht : (all[j]?).bind (·.dst) = some t) [hl : Lk L t undef] [hd : Is (Nat.ble n d = false)]
    (h : VK C R n ((d, undef) :: L) Γ (KS P all Q Rs kl Rt al i r)) : VK C R n L Γ (KD P all Q Rs kl Rt al i ⟨some d, op, ty, pos, af, some (j, b)⟩ r) := VK.mk fun a w k iv o' ho => by
  rcases ho with rfl | ⟨h1, _⟩
  · exact fd_skip rfl (lt_of_ble hd.out) k iv (wanted_un ht hl k) h
  · cases h1
/-- a guard that isn't known yet: both ways -/
theorem v_gSplit {F : Oper → Act → World → Prop} {o : Oper} {j t : Nat} {b : Bool} {p : Prop} [Decidable p] (_hg : o.guard = some (j, b)) (_ht : (all[j]?).bind (·.dst) = some t) [hl : Lk L t (.bool (decide p))]
    (h1 : p → VK C R n ((t, .bool true) :: L) Γ (KG all F o)) (h2 : ¬ p → VK C R n ((t, .bool false) :: L) Γ (KG all F o)) : VK C R n L Γ (KG all F o) := VK.mk fun a w k i => by
  by_cases hp : p
  · exact (h1 hp).out a w (k.know hl (by simp [hp])) i
  · exact (h2 hp).out a w (k.know hl (by simp [hp])) i
theorem v_gSplitB {F : Oper → Act → World → Prop} {o : Oper} {j t : Nat} {b c : Bool} (_hg : o.guard = some (j, b)) (_ht : (all[j]?).bind (·.dst) = some t) [hl : Lk L t (.bool c)]
    (h1 : c = true → VK C R n ((t, .bool true) :: L) Γ (KG all F o)) (h2 : c = false → VK C R n ((t, .bool false) :: L) Γ (KG all F o)) : VK C R n L Γ (KG all F o) := VK.mk fun a w k i => by
  cases c with
  | true => exact (h1 rfl).out a w (k.know hl rfl) i
  | false => exact (h2 rfl).out a w (k.know hl rfl) i
theorem v_gPickD {F : Oper → Act → World → Prop} {d t : Nat} {ty : TypeId} {x y : Operand} {p : Prop} [Decidable p] {pos : String} {af : Array Edge} [hl : Lk L t (.bool (decide p))]
    (h1 : p → VK C R n ((t, .bool true) :: L) Γ (KG all F ⟨some d, .pick (.tmp t) x y, ty, pos, af, none⟩)) (h2 : ¬ p → VK C R n ((t, .bool false) :: L) Γ (KG all F ⟨some d, .pick (.tmp t) x y, ty, pos, af, none⟩)) : VK C R n L Γ (KG all F ⟨some d, .pick (.tmp t) x y, ty, pos, af, none⟩) := VK.mk fun a w k i => by
  by_cases hp : p
  · exact (h1 hp).out a w (k.know hl (by simp [hp])) i
  · exact (h2 hp).out a w (k.know hl (by simp [hp])) i
theorem stab_inv {w : World} (h : Stab Rs w) : Inv ⟨[], w, false⟩ Rs [] w where
  dr := fun e => by cases e
  os := rfl
  tape := rfl
  output := rfl
  size := Nat.le_refl _
  ro := h
  own := by intro x hx; cases hx
  nodup := List.nodup_nil
  apart := by intro b hb; cases hb
  may := by intro b hb; cases hb
  frame := fun _ _ _ => rfl
theorem same_wanted {a : Act} {o o' : Oper} (hg : o.guard = none) (ho : o' = o ∨ (o.guard = none ∧ ∃ g, o' = { o with guard := g } ∧ Region.wanted o' (yielded all a.tmps) = true)) : Region.wanted o' (yielded all a.tmps) = true ∧ o'.dst = o.dst ∧ ∀ w, (execOp a.eval o').run P w = (execOp a.eval o).run P w := by
  rcases ho with rfl | ⟨_, g, rfl, hw⟩
  · exact ⟨by simp [Region.wanted, hg], rfl, fun _ => rfl⟩
  · exact ⟨hw, rfl, fun _ => rfl⟩
/-- taken first: what it gives stands in the slots and in the stable blocks -/
theorem v_tBy {i : Nat} {r : Pl} {d : Nat} {op : Op} {ty : TypeId} {pos : String} {af : Array Edge} {v : Value} {al : Bool} (hy : Y P Rs L [] op v) [hq : QP Q] [hd : Is (Nat.ble n d = false)] (h : VK C R n ((d, v) :: L) Γ (KA P all Q Rs kl Rt al r)) :
    VK C R n L Γ (KT P all Q Rs kl Rt al i ⟨some d, op, ty, pos, af, none⟩ r) := VK.mk fun a w k iv o' ho => by
  obtain ⟨hw, hdd, he⟩ := same_wanted (P := P) rfl ho
  exact take_by hdd (lt_of_ble hd.out) k iv (T := Stab Rs) (fun _ _ _ _ h => h.1) (.inl ⟨hw, fun w hS => (he w).trans (hy.out ⟨[], w, false⟩ n a w _ _ _ _ _ k (stab_inv hS))⟩) h
theorem v_tVal {i : Nat} {r : Pl} {d : Nat} {op : Op} {ty : TypeId} {pos : String} {af : Array Edge} {v : Value} {al : Bool} [hy : Y P Rs L [] op v] [hq : QP Q] [hd : Is (Nat.ble n d = false)] (h : VK C R n ((d, v) :: L) Γ (KA P all Q Rs kl Rt al r)) :
    VK C R n L Γ (KT P all Q Rs kl Rt al i ⟨some d, op, ty, pos, af, none⟩ r) := v_tBy hy h
/-- .. or in those that are stable till kl, which waits for it -/
def waitsFor (all : Array Oper) (kl i : Nat) : Bool := match all[kl]? with
  | some o => o.after.any fun e => Region.binds .any e && e.on == i
  | none => false
theorem v_tByT {i : Nat} {r : Pl} {d : Nat} {op : Op} {ty : TypeId} {pos : String} {af : Array Edge} {v : Value} (hy : Y P Rt L [] op v) (hk : waitsFor all kl i = true) [hq : QP Q] [hd : Is (Nat.ble n d = false)] (h : VK C R n ((d, v) :: L) Γ (KA P all Q Rs kl Rt true r)) :
    VK C R n L Γ (KT P all Q Rs kl Rt true i ⟨some d, op, ty, pos, af, none⟩ r) := VK.mk fun a w k iv o' ho => by
  obtain ⟨hw, hdd, he⟩ := same_wanted (P := P) rfl ho
  refine take_by hdd (lt_of_ble hd.out) k iv (T := Stab Rt) (fun ls' w hc hi hS => hS.2 ?_) (.inl ⟨hw, fun w hS => (he w).trans (hy.out ⟨[], w, false⟩ n a w _ _ _ _ _ k (stab_inv hS))⟩) h
  cases hkl : ls'.getD kl false with
  | false => rfl
  | true =>
    unfold waitsFor at hk
    cases ho : all[kl]? with
    | none => rw [ho] at hk; cases hk
    | some ok =>
      rw [ho] at hk
      obtain ⟨e, he, hb⟩ := Array.any_eq_true'.1 hk
      simp only [Bool.and_eq_true, beq_iff_eq] at hb
      have := hc kl ok ho hkl e he hb.1
      rw [hb.2, hi] at this
      cases this
theorem v_tValT {i : Nat} {r : Pl} {d : Nat} {op : Op} {ty : TypeId} {pos : String} {af : Array Edge} {v : Value} (hk : waitsFor all kl i = true) [hy : Y P Rt L [] op v] [hq : QP Q] [hd : Is (Nat.ble n d = false)] (h : VK C R n ((d, v) :: L) Γ (KA P all Q Rs kl Rt true r)) :
    VK C R n L Γ (KT P all Q Rs kl Rt true i ⟨some d, op, ty, pos, af, none⟩ r) := v_tByT hy hk h
theorem v_do {i : Nat} {r : Pl} {dst : Option Tmp} {op : Op} {ty : TypeId} {pos : String} {af : Array Edge} {al : Bool} (h : VK C R n L Γ (wp1 P all Q ⟨dst, op, ty, pos, af, none⟩ (KS P all Q Rs kl Rt al i r))) :
    VK C R n L Γ (KD P all Q Rs kl Rt al i ⟨dst, op, ty, pos, af, none⟩ r) := VK.mk fun a w k iv o' ho hi hn fuel ls hok hc hz hb hS => by
  have hw : Region.wanted o' (yielded all a.tmps) = true := by
    rcases ho with rfl | ⟨_, g, rfl, hw⟩
    · rfl
    · exact hw
  have h1 := wp1.out (h.out a w k iv)
  unfold wpOp
  simp only [hi, hw, if_true]
  have h2 : (Oper.wp P ⟨dst, op, ty, pos, af, none⟩ a w (KS P all Q Rs kl Rt al i r) Q ∨ (Oper.asks P ⟨dst, op, ty, pos, af, none⟩ a w ∧ LetsOut Q)) := by
    simpa only [Region.wanted, if_true] using h1
  have h3 : o'.wp P a w (KS P all Q Rs kl Rt al i r) Q ∨ (o'.asks P a w ∧ LetsOut Q) := by
    rcases ho with rfl | ⟨_, g, rfl, hw⟩
    · exact h2
    · exact h2
  have hil : i < ls.size := hz ▸ (Array.getElem?_eq_some_iff.1 hi).1
  refine h3.imp (Oper.wp_mono fun a' w' hk => ?_) id
  obtain ⟨k1, k2, k3⟩ := hk
  have hS' : Std Rs kl Rt (ls.setIfInBounds i true) w' := ⟨k1, fun e => by
    cases al with
    | false => rw [getD_set_true (hb rfl)] at e; cases e
    | true => exact k2 rfl (fun e2 => by subst e2; simp [hil] at e)⟩
  exact ⟨hS', k3 hn _ _ hok hc (by simpa using hz) (fun e => by
    cases al with
    | false => exact getD_set_true (hb rfl)
    | true =>
      simp at e
      subst e
      simp [hil]) hS'⟩
/-- what an operation gives that leaves the memory as it is -/
theorem v_1by {K : Act → World → Prop} {d : Nat} {op : Op} {ty : TypeId} {pos : String} {af : Array Edge} {v : Value} (hy : Y P R L Γ op v) [hd : Is (Nat.ble n d = false)] (h : VK C R n ((d, v) :: L) Γ K) :
    VK C R n L Γ (wp1 P all Q ⟨some d, op, ty, pos, af, none⟩ K) := VK.mk fun a w k i => wp1.mk (by
  simp only [Region.wanted, if_true]
  refine .inl ?_
  simp only [Oper.wp, hy.out C n a w _ _ _ _ _ k i, Oper.upon]
  exact h.out _ _ (k.put (lt_of_ble hd.out)) i)
theorem v_1val {K : Act → World → Prop} {d : Nat} {op : Op} {ty : TypeId} {pos : String} {af : Array Edge} {v : Value} [hy : Y P R L Γ op v] [hd : Is (Nat.ble n d = false)] (h : VK C R n ((d, v) :: L) Γ K) :
    VK C R n L Γ (wp1 P all Q ⟨some d, op, ty, pos, af, none⟩ K) := v_1by hy h
theorem v_stabA {i : Nat} {r : Pl} (hb : Nat.beq i kl = false) [hs : Sub Rs R Γ] [ht : Sub Rt R Γ] (h : VK C R n L Γ (KA P all Q Rs kl Rt true r)) : VK C R n L Γ (KS P all Q Rs kl Rt true i r) := VK.mk fun a w k v =>
  ⟨fun x hx => (hs.out x hx).elim (v.ro x) (v.own x), fun _ _ x hx => (ht.out x hx).elim (v.ro x) (v.own x), by rw [hb]; exact h.out a w k v⟩
theorem v_stabK {i : Nat} {r : Pl} (hb : Nat.beq i kl = true) [hs : Sub Rs R Γ] (h : VK C R n L Γ (KA P all Q Rs kl Rt false r)) : VK C R n L Γ (KS P all Q Rs kl Rt true i r) := VK.mk fun a w k v =>
  ⟨fun x hx => (hs.out x hx).elim (v.ro x) (v.own x), fun _ e => absurd (Nat.eq_of_beq_eq_true hb) e, by rw [hb]; exact h.out a w k v⟩
theorem v_stabD {i : Nat} {r : Pl} [hs : Sub Rs R Γ] (h : VK C R n L Γ (KA P all Q Rs kl Rt false r)) : VK C R n L Γ (KS P all Q Rs kl Rt false i r) := VK.mk fun a w k v =>
  ⟨fun x hx => (hs.out x hx).elim (v.ro x) (v.own x), fun e => (by cases e), h.out a w k v⟩
end
attribute [irreducible] KA KS FT FD KG Pl.ok
end Go.SX
