/- Symbolic execution: a range over a function whose iterator may change what it has captured. -/
import Derived.Test.YtedemhmlaodblaaDoorSh
import Derived.RangeFuncRecord
namespace Go.SX
set_option linter.unusedSimpArgs false
set_option linter.unusedVariables false
open Go Go.RowKit

/-! ### a region's operations under other fences, and with deferred calls behind -/
def nd : Op → Bool
  | .defer _ => false
  | _ => true
theorem nd_ne {o : Op} (h : nd o = true) : ∀ c, o ≠ .defer c := by rintro c rfl; cases h
def ndA (ops : Array Oper) : Bool := ops.toList.all fun o => nd o.op
theorem ndA_get {ops : Array Oper} (h : ndA ops = true) {i : Nat} {o : Oper} (ho : ops[i]? = some o) : nd o.op = true := by
  have h2 := List.all_eq_true.1 h o
  exact h2 (by rw [← Array.getElem?_toList] at ho; exact List.mem_of_getElem? ho)
/-- a fence that lets all in -/
structure Wd (F : Fence) : Prop where
  fn : ∀ f, F.fn f
  depth : F.depth = none
  calls : ∀ {P : Program} {f : FuncId} {args : Array Value} {w : World} {X : Ending → World → Prop} {m : Nat}, Calls P f args w X → CallsIn F m P f args w X
  rows : ∀ {P : Program} {r : String} {args : Array Value} {w : World} {X : Value → World → Prop} {m : Nat}, Rows P r args w X → RowsIn F m P r args w X
theorem wd_wide : Wd Fence.wide := ⟨fun _ => trivial, rfl, fun h => callsIn_wide.2 h, fun h c cs _ => let ⟨v, w', r, s⟩ := h c cs; ⟨v, w', r, stepsIn_wide.2 s⟩⟩
theorem wd_round (l : Nat) : Wd (Fence.wide.inRound l) := ⟨fun _ => trivial, rfl, fun h => (show CallsIn Fence.wide _ _ _ _ _ _ from callsIn_wide.2 h), fun h c cs _ => let ⟨v, w', r, s⟩ := h c cs; ⟨v, w', r, stepsIn_wide.2 s⟩⟩
section
variable {P : Program} {ops : Array Oper} {Q : Exit → Act → World → Prop} {F : Fence} {m : Nat}
theorem upon_in (hF : Wd F) {o : Oper} {a : Act} {next next' : Act → World → Prop} (hn : ∀ a w, next a w → next' a w) (r : Result Next) (h : o.upon P a next Q r) : o.uponIn F m P a next' Q r := by
  have hd : ∀ {p : Prop}, (F.depth.isSome = true → p) := fun h => by rw [hF.depth] at h; cases h
  cases r with
  | ok v w =>
    cases v with
    | value v => exact hn _ _ h
    | skip => exact hn _ _ h
    | defer d => exact hn _ _ h
    | enter f args =>
      refine ⟨hd, hF.calls (Calls.mono h fun e w' he => ?_)⟩
      cases e with
      | returned v => exact hn _ _ he
      | panicked c => exact he
      | outgrown => exact he
    | row r args => exact ⟨hd, hF.rows (Rows.mono h fun v w' he => hn _ _ he)⟩
    | _ => exact h.elim
  | halt e w =>
    cases e with
    | panic v => exact h
    | _ => exact h.elim
theorem ops_in (hF : Wd F) (hQ : ¬ LetsOut Q) (hnd : ndA ops = true) : ∀ (l : List Nat) (a : Act) (w : World), wpOps P ops Q l a w → wpOpsIn F m P ops Q l a w
  | [], _, _, h => h
  | i :: l, a, w, h => by
    simp only [wpOps] at h
    simp only [wpOpsIn]
    cases ho : ops[i]? with
    | none => rw [ho] at h; exact ops_in hF hQ hnd l a w h
    | some o =>
      rw [ho] at h
      simp only at h ⊢
      split
      · rename_i hw
        rw [if_pos hw] at h
        rcases h with h | h
        · refine ⟨fun f _ => hF.fn f, ?_⟩
          have e : o.semAt F.round a.eval = execOp a.eval o := Oper.semAt_eq _ _ _ (nd_ne (ndA_get hnd ho))
          rw [e]
          exact upon_in hF (ops_in hF hQ hnd l) _ h
        · exact absurd h.2 hQ
      · rename_i hw
        rw [if_neg hw] at h
        exact ⟨fun f _ => hF.fn f, ops_in hF hQ hnd l _ w h⟩
/-- .. the first of them alone, what follows by other rules -/
theorem list_pre (hF : Wd F) {all : Array Oper} {K : Act → World → Prop} {rest : List Oper} (hQ : ¬ LetsOut Q) (hK : ∀ a w, K a w → wpListIn F m P all Q rest a w) : ∀ (pre : List Oper) (hnd : pre.all (fun o => nd o.op) = true) (a : Act) (w : World),
    wpList P all (Exit.then K Q) pre a w → wpListIn F m P all Q (pre ++ rest) a w
  | [], _, _, _, h => hK _ _ h
  | o :: l, hnd, a, w, h => by
    rw [List.all_cons, Bool.and_eq_true] at hnd
    simp only [wpList] at h
    simp only [List.cons_append, wpListIn]
    split
    · rename_i hw
      rw [if_pos hw] at h
      rcases h with h | h
      · refine ⟨fun f _ => hF.fn f, ?_⟩
        have e : o.semAt F.round a.eval = execOp a.eval o := Oper.semAt_eq _ _ _ (nd_ne hnd.1)
        rw [e]
        have h2 : o.upon P a (wpList P all (Exit.then K Q) l) Q ((execOp a.eval o).run P w) := by
          simp only [Oper.wp] at h
          generalize (execOp a.eval o).run P w = r at h
          cases r with
          | ok v w => cases v <;> exact h
          | halt e w => cases e <;> exact h
        exact upon_in hF (list_pre hF hQ hK l hnd.2) _ h2
      · exact absurd h.2 hQ
    · rename_i hw
      rw [if_neg hw] at h
      exact ⟨fun f _ => hF.fn f, list_pre hF hQ hK l hnd.2 _ w h⟩
/-- the same with deferred calls ahead of which these stand -/
def Qd (ds : List Deferred) (Q : Exit → Act → World → Prop) : Exit → Act → World → Prop := fun e a w => Q e { a with defers := a.defers ++ ds } w
theorem ops_mk {ds : List Deferred} : ∀ (l : List Nat) (a : Act) (w : World), wpOps P ops (Qd ds Q) l a w → wpOps P ops Q l { a with defers := a.defers ++ ds } w
  | [], _, _, h => h
  | i :: l, a, w, h => by
    simp only [wpOps] at h ⊢
    cases ho : ops[i]? with
    | none => rw [ho] at h; exact ops_mk l a w h
    | some o =>
      rw [ho] at h
      simp only at h ⊢
      have hput : ∀ (x : Act) (d : Option Tmp) (v : Value), ({ x with defers := x.defers ++ ds } : Act).put d v = { x.put d v with defers := (x.put d v).defers ++ ds } := fun x d v => by cases d <;> rfl
      split
      · rename_i hw
        rw [if_pos hw] at h
        rcases h with h | h
        · refine .inl ?_
          simp only [Oper.wp] at h ⊢
          have he : ({ a with defers := a.defers ++ ds } : Act).eval = a.eval := rfl
          rw [he]
          generalize (execOp a.eval o).run P w = r at h
          cases r with
          | ok v w =>
            cases v with
            | value v => simp only [Oper.upon] at h ⊢; rw [hput]; exact ops_mk l _ _ h
            | skip => simp only [Oper.upon] at h ⊢; rw [hput]; exact ops_mk l _ _ h
            | defer d => 
              simp only [Oper.upon] at h ⊢
              have e2 : ({ a with defers := d :: (a.defers ++ ds) } : Act) = { ({ a with defers := d :: a.defers } : Act) with defers := (d :: a.defers) ++ ds } := rfl
              have := hput { a with defers := d :: a.defers } o.dst undef
              simp only [List.cons_append] at this
              rw [this]; exact ops_mk l _ _ h
            | enter f args =>
              refine Calls.mono h fun e w' he => ?_
              cases e with
              | returned v => simp only at he ⊢; rw [hput]; exact ops_mk l _ _ he
              | panicked c => exact he
              | outgrown => obtain ⟨a, w, h⟩ := he; exact ⟨_, w, h⟩
            | row r args => exact Rows.mono h fun v w' he => by rw [hput]; exact ops_mk l _ _ he
            | _ => exact h.elim
          | halt e w =>
            cases e with
            | panic v => exact h
            | _ => exact h.elim
        · obtain ⟨h1, a, w, h⟩ := h
          exact .inr ⟨h1, _, w, h⟩
      · rename_i hw
        rw [if_neg hw] at h
        have : wpOps P ops Q l ({ a with defers := a.defers ++ ds }.put o.dst undef) w := by rw [hput]; exact ops_mk l _ _ h
        exact this
/-- a region, in whatever order it is gone through -/
def KR (P : Program) (ops : Array Oper) (draw : Bool) (Q : Exit → Act → World → Prop) : Act → World → Prop := fun a w =>
  if draw then ∀ t, wpOps P ops Q (Region.schedule (P.follows .mixedOrders) ops t) a w.drew else wpOps P ops Q (List.range ops.size) a w
theorem KR.inn (hF : Wd F) (hQ : ¬ LetsOut Q) {draw : Bool} (hnd : ndA ops = true) {id : Nat} {a : Act} {w : World} (h : KR P ops draw Q a w) : (Code.region id ops draw).wpIn F m P Q a w := by
  cases draw with
  | true => exact wpIn_region_draw fun t => ops_in hF hQ hnd _ a _ (h t)
  | false => exact wpIn_region (ops_in hF hQ hnd _ a w h)
theorem KR.mk {ds : List Deferred} {draw : Bool} {id : Nat} {a : Act} {w : World} (h : KR P ops draw (Qd ds Q) a w) : (Code.region id ops draw).wp P Q { a with defers := a.defers ++ ds } w := by
  cases draw with
  | true => exact wp_region_draw fun t => ops_mk _ a _ (h t)
  | false => exact wp_region (ops_mk _ a w h)
end
section
variable {P : Program} {C : Cx} {R : List Hp} {n : Nat} {all : Array Oper} {Q : Exit → Act → World → Prop} {L : Env} {Γ : List Hp}
theorem v_kr {ops : List Oper} (h : VK C R n L Γ (KL P ops.toArray Q ops)) : VK C R n L Γ (KR P ops.toArray false Q) := VK.mk fun a w k i => by
  have e := wpOps_eq_wpList (P := P) (Q := Q) (ops := ops.toArray) ops 0 (fun j => by simp)
  have e2 : List.range ops.toArray.size = List.range' 0 ops.length := by simp [List.range_eq_range']
  show wpOps P ops.toArray Q (List.range ops.toArray.size) a w
  rw [e2, e]
  have := h.out a w k i
  unfold KL at this
  exact this
theorem v_krD (kl : Nat) (pl : Pl) (Rs Rt : List Hp) {ops : Array Oper} [hm : Mixed P] [hs : Sub Rs R Γ] [hst : Sub Rt R Γ] (hok : (Region.noSelect ops && Pl.ok ops kl ops.size (Array.replicate ops.size false) pl) = true)
    (h : VK C R n L Γ (KA P ops Q Rs kl Rt true pl)) : VK C R n L Γ (KR P ops true Q) := VK.mk fun a w k i => by
  show ∀ t, wpOps P ops Q (Region.schedule (P.follows .mixedOrders) ops t) a w.drew
  intro t
  simp only [Region.schedule, hm.out, Bool.true_or, if_true]
  refine wpAny_sound ops.size t _ a _ (wpAny_of_I (S := Std Rs kl Rt) _ _ _ _ ?_)
  rw [Bool.and_eq_true] at hok
  have h2 := h.out a _ k (i.drew)
  unfold KA at h2
  refine h2 hok.1 _ _ hok.2 (fun k o _ hl => ?_) (by simp) (fun h => by cases h) ⟨fun x hx => (hs.out x hx).elim (i.ro x) (i.own x), fun _ x hx => (hst.out x hx).elim (i.ro x) (i.own x)⟩
  exfalso
  rcases Nat.lt_or_ge k ops.size with h' | h'
  · simp [h'] at hl
  · simp [h'] at hl
theorem v_krD0 (pl : Pl) {X : List Hp} {ops : Array Oper} [hm : Mixed P] [hx : App R Γ X] (hok : (Region.noSelect ops && Pl.ok ops 1000000 ops.size (Array.replicate ops.size false) pl) = true)
    (h : VK C R n L Γ (KA P ops Q X 1000000 [] true pl)) : VK C R n L Γ (KR P ops true Q) := v_krD (hs := hx.sub) 1000000 pl X [] hok h
theorem v_krDK (kl : Nat) (pl : Pl) {X : List Hp} {ops : Array Oper} [hm : Mixed P] [hx : App R Γ X] [hs : Sub R R Γ] (hok : (Region.noSelect ops && Pl.ok ops kl ops.size (Array.replicate ops.size false) pl) = true)
    (h : VK C R n L Γ (KA P ops Q R kl X true pl)) : VK C R n L Γ (KR P ops true Q) := v_krD (hst := hx.sub) kl pl R X hok h
instance yXor {t : TypeId} {x : Operand} {i : Int} [h : Ev L x (.int .u64 i)] : Y P R L Γ (.unOp .xor t x) (.int .u64 (bits .xor .u64 18446744073709551615 i)) := ⟨fun C n a w _ _ _ _ _ k _ => by
  simp only [execOp, h.out n a k]; rfl⟩
/-- code in a round -/
def KI (l : Nat) (P : Program) (c : Code) (Q : Exit → Act → World → Prop) : Act → World → Prop := c.wpIn (Fence.wide.inRound l) 0 P Q
variable {l : Nat}
class NoOut (Q : Exit → Act → World → Prop) : Prop where
  out : ¬ LetsOut Q
instance noOutBody {fn : Func} {Post : Value → List Hp → Prop} {J : List Hp → World → Prop} : NoOut (bodyPost P fn fun e w' => ∃ v Γ', e = .returned v ∧ Post v Γ' ∧ J Γ' w') := ⟨fun ⟨a, w, v, Γ', h, _⟩ => by cases h⟩
instance noOutThen {K : Act → World → Prop} [h : NoOut Q] : NoOut (Exit.then K Q) := ⟨fun ⟨a, w, x⟩ => h.out ⟨a, w, x⟩⟩
instance noOutBlock {id : Nat} [h : NoOut Q] : NoOut (Exit.inBlock id Q) := ⟨fun ⟨a, w, x⟩ => h.out ⟨a, w, x⟩⟩
theorem vi_seq {x y : Code} (h : VK C R n L Γ (KI l P x (Exit.then (KI l P y Q) Q))) : VK C R n L Γ (KI l P (.seq x y) Q) := VK.mk fun a w k i => wpIn_seq (h.out a w k i)
theorem v_thenK {K : Act → World → Prop} (h : VK C R n L Γ K) : VK C R n L Γ (KE (Exit.then K Q) .normal) := VK.mk fun a w k i => KE.mk (h.out a w k i)
theorem vi_block {id : Nat} {c : Code} (h : VK C R n L Γ (KI l P c (Exit.inBlock id Q))) : VK C R n L Γ (KI l P (.block id c) Q) := VK.mk fun a w k i => wpIn_block (h.out a w k i)
theorem vi_exit {id : Nat} (h : VK C R n L Γ (KE Q (.exit id))) : VK C R n L Γ (KI l P (.exit id) Q) := VK.mk fun a w k i => wpIn_exit (h.out a w k i).out
theorem vi_skip (h : VK C R n L Γ (KE Q .normal)) : VK C R n L Γ (KI l P .skip Q) := VK.mk fun a w k i => wpIn_skip (h.out a w k i).out
theorem vi_region {id : Nat} {ops : Array Oper} {draw : Bool} [hQ : NoOut Q] (hnd : ndA ops = true) (h : VK C R n L Γ (KR P ops draw Q)) : VK C R n L Γ (KI l P (.region id ops draw) Q) :=
  VK.mk fun a w k i => KR.inn (wd_round l) hQ.out hnd (h.out a w k i)
theorem vi_condD {t : Nat} {p : Prop} [Decidable p] {x y : Code} [hl : Lk L t (.bool (decide p))] (h1 : p → VK C R n L Γ (KI l P x Q)) (h2 : ¬ p → VK C R n L Γ (KI l P y Q)) :
    VK C R n L Γ (KI l P (.cond (.tmp t) x y) Q) := VK.mk fun a w k i => by
  have e := (evTmp L t _).out n a k
  by_cases hp : p
  · exact wpIn_cond (t := true) (by rw [e]; simp [hp]) ((h1 hp).out a w k i)
  · exact wpIn_cond (t := false) (by rw [e]; simp [hp]) ((h2 hp).out a w k i)
variable {ds : List Deferred}
instance noOutQd [h : NoOut Q] : NoOut (Qd ds Q) := ⟨fun ⟨a, w, x⟩ => h.out ⟨_, w, x⟩⟩
theorem vd_blockX {id : Nat} (h : VK C R n L Γ (KE (Qd ds Q) .normal)) : VK C R n L Γ (KE (Qd ds (Exit.inBlock id Q)) (.exit id)) := VK.mk fun a w k i => KE.mk (by
  have := (h.out a w k i).out
  simp only [Qd, Exit.inBlock, if_true] at this ⊢; exact this)
theorem vd_blockN {id : Nat} (h : VK C R n L Γ (KE (Qd ds Q) .normal)) : VK C R n L Γ (KE (Qd ds (Exit.inBlock id Q)) .normal) := VK.mk fun a w k i => KE.mk ((h.out a w k i).out)
/-- the rest of the code, with deferred calls behind -/
def KCd (ds : List Deferred) (P : Program) (c : Code) (Q : Exit → Act → World → Prop) : Act → World → Prop := fun a w => c.wp P Q { a with defers := a.defers ++ ds } w
theorem vd_then {y : Code} (h : VK C R n L Γ (KCd ds P y Q)) : VK C R n L Γ (KE (Qd ds (Exit.then (y.wp P Q) Q)) .normal) := VK.mk fun a w k i => KE.mk (h.out a w k i)
theorem vd_seqR {id : Nat} {ops : Array Oper} {draw : Bool} {y : Code} (h : VK C R n L Γ (KR P ops draw (Exit.then (KCd ds P y Q) (Qd ds Q)))) : VK C R n L Γ (KCd ds P (.seq (.region id ops draw) y) Q) := VK.mk fun a w k i =>
  wp_seq (KR.mk (ds := ds) (Q := Exit.then (y.wp P Q) Q) (by
    have := h.out a w k i
    have e : (Exit.then (KCd ds P y Q) (Qd ds Q)) = Qd ds (Exit.then (y.wp P Q) Q) := by
      funext e a w; cases e <;> rfl
    rw [← e]; exact this))
theorem vd_ret (h : VK C R n L Γ (KE (Qd ds Q) .ret)) : VK C R n L Γ (KCd ds P .ret Q) := VK.mk fun a w k i => wp_ret (h.out a w k i).out
end
/-! ### yield, an iterator's contract, the statement -/
/-- a call of yield: its run, and what the round comes to -/
def SpecY (D : Bool) (P : Program) (l : Nat) (args : Array Value) (R Γ : List Hp) (Post : Value → List Hp → Prop) : Prop :=
  ∀ w, Inv ⟨keys Γ, w, D⟩ R Γ w → ∃ f tmps assign body, (Instr.yield l args).run P w = .ok (.round l f tmps assign body) w ∧
    RoundIn Fence.wide 0 P l f tmps assign body w (fun e w' => ∃ v Γ', e = .returned v ∧ Post v Γ' ∧ Inv ⟨keys Γ, w, D⟩ R Γ' w')
/-- an iterator with its own memory S0 gives the things of Xs, one behind the other; the rounds' memory is one segment -/
def IterC (D : Bool) (P : Program) (gf : FuncId) (lb : List Value) (Ri : List Hp) (S0 : Hp) {α : Type} (Xs : List α) (enc : α → Value) : Prop :=
  ∀ (R : List Hp), Sub Ri R [] → ∀ (l : Nat) (I J : List α → Hp → Prop) (sg : Hp), I [] sg →
    (∀ pre x suf sg, Xs = pre ++ x :: suf → I pre sg → SpecY D P l #[enc x] R [sg] (fun v Γ' => ∃ sg', Γ' = [sg'] ∧ ((v = .bool true ∧ I (pre ++ [x]) sg') ∨ (v = .bool false ∧ J (pre ++ [x]) sg')))) →
    SpecD D P gf (.func (.yield l) #[] #[] :: lb).toArray R [S0, sg] (fun _ Γ' => ∃ S' sg', Γ' = [S', sg'] ∧ (I Xs sg' ∨ ∃ pre, J pre sg'))
section
variable {P : Program} {R : List Hp} {n : Nat} {all : Array Oper} {Q : Exit → Act → World → Prop} {L : Env} {Γ : List Hp}
/-- the rest of a region's operations, yield among them -/
def KLi (P : Program) (all : Array Oper) (Q : Exit → Act → World → Prop) (rest : List Oper) : Act → World → Prop := wpListIn Fence.wide 0 P all Q rest
/-- the first k, and the rest -/
class Spl (k : Nat) (ops : List Oper) (pre rest : outParam (List Oper)) : Prop where
  out : ops = pre ++ rest
instance spl0 (l : List Oper) : Spl 0 l [] l := ⟨rfl⟩
instance splS (k : Nat) (o : Oper) (l a b : List Oper) [h : Spl k l a b] : Spl (k + 1) (o :: l) (o :: a) b := ⟨by rw [h.out]; rfl⟩
theorem v_regY {C : Cx} {id : Nat} {ops : List Oper} (k : Nat) {pre rest : List Oper} [he : Spl k ops pre rest] (hnd : pre.all (fun o => nd o.op) = true) [hQ : NoOut Q] (h : VK C R n L Γ (KL P ops.toArray (Exit.then (KLi P ops.toArray Q rest) Q) pre)) :
    VK C R n L Γ (KC P (.region id ops.toArray false) Q) := VK.mk fun a w k i => KC.mk (wpIn_wide (n := 0).1 (wpIn_region_lit (by
  have h2 := h.out a w k i
  unfold KL at h2
  have := list_pre (m := 0) wd_wide hQ.out (K := KLi P ops.toArray Q rest) (fun a w h => h) pre hnd a w h2
  rw [← he.out] at this
  exact this)))
theorem v_liL {C : Cx} {rest : List Oper} (hnd : rest.all (fun o => nd o.op) = true) [hQ : NoOut Q] (h : VK C R n L Γ (KL P all (Exit.then (KE Q .normal) Q) rest)) : VK C R n L Γ (KLi P all Q rest) := VK.mk fun a w k i => by
  have h2 := h.out a w k i
  unfold KL at h2
  have := list_pre (m := 0) (rest := []) wd_wide hQ.out (K := KE Q .normal) (fun a w h => KE.out h) rest hnd a w h2
  rw [List.append_nil] at this
  exact this
theorem v_yield {M : List Nat} {w0 : World} {D : Bool} {d l : Nat} {f : Operand} {xs : Array Operand} {ats : Array TypeId} {ty : TypeId} {pos : String} {af : Array Edge} {vs : List Value} {rest : List Oper} {Rc Γc Γr : List Hp} {Post : Value → List Hp → Prop}
    [hl : Ev L f (.func (.yield l) #[] #[])] [hx : Evs L xs.toList vs] [hd : Is (Nat.ble n d = false)] (hs : SpecY D P l vs.toArray Rc Γc Post) [hp : Pick Γ Γc Γr] (hsub : ∀ x ∈ Rc.flatten, x ∈ R.flatten)
    (h : ∀ v Γ', Post v Γ' → VK ⟨M, w0, D⟩ R n ((d, v) :: L) (Γ' ++ Γr) (KLi P all Q rest)) : VK ⟨M, w0, D⟩ R n L Γ (KLi P all Q (⟨some d, .call ⟨.value f, xs, ats⟩, ty, pos, af, none⟩ :: rest)) := VK.mk fun a w k i => by
  have hd' : d < n := lt_of_ble hd.out
  have hargs : xs.map a.eval = vs.toArray := by
    have := hx.out n a k
    apply Array.ext'
    simpa using this
  have hfv := hl.out n a k
  obtain ⟨fn, tmps, assign, body, hy, hr⟩ := hs w (i.callee hp.out (fun x hx => .inl (hsub x hx)) (apart_of i hp.out fun x hx => .inl (hsub x hx)))
  have hrun : (execOp a.eval ⟨some d, .call ⟨.value f, xs, ats⟩, ty, pos, af, none⟩).run P w = .ok (.round l fn tmps assign body) w := by
    simp [execOp, resolve, Deferred.ofValue, invoke, hargs, hfv]
    exact hy
  show wpListIn Fence.wide 0 P all Q _ a w
  simp only [wpListIn, Region.wanted, if_true]
  refine ⟨fun _ _ => trivial, ?_⟩
  rw [Oper.semAt_eq _ _ _ (by intro c hc; cases hc), hrun]
  refine ⟨fun h => (by cases h), hr.mono ?_⟩
  rintro e w' ⟨v, Γ', rfl, hP, j⟩
  exact (h v Γ' hP).out _ _ (k.put hd') (i.back hp.out j)
end
section
variable {P : Program} {R : List Hp} {n : Nat} {Q : Exit → Act → World → Prop} {L : Env} {Γ Γr : List Hp}
theorem Inv.hd {C : Cx} {w : World} {b : Nat} {o : Obj} (i : Inv C R ([(b, o)] :: Γ) w) : w.heap[b]? = some o := i.own (b, o) (by simp)
theorem pm1 {β : Type} (x y : β) (S A B : List β) : (S ++ x :: y :: A ++ B).Perm (x :: y :: (A ++ (S ++ B))) := by
  classical
  rw [List.perm_iff_count]; intro z
  simp only [List.count_append, List.count_cons]; omega
theorem pm2 {β : Type} (x y : β) (S A B : List β) : (x :: y :: (A ++ (S ++ B))).Perm ((y :: (A ++ B)) ++ (x :: S)) := by
  classical
  rw [List.perm_iff_count]; intro z
  simp only [List.count_append, List.count_cons]; omega
theorem pm3 {β : Type} (x y : β) (A : List β) : (x :: y :: A).Perm (A ++ [x, y]) := List.perm_append_comm (l₁ := [x, y])
theorem Inv.put {C : Cx} {w : World} {b : Nat} {o : Obj} (o' : Obj) (i : Inv C R ([(b, o)] :: Γ) w) : Inv C R ([(b, o')] :: Γ) (w.putObj b o') :=
  i.upd (updHere Γ b o) (World.putObj_heap_same (lt_of_own (x := (b, o)) (i.own (b, o) (by simp)))) (fun k hk => World.putObj_heap_other hk) (by simp) rfl rfl rfl rfl
theorem Inv.part {C : Cx} {w : World} (i : Inv C R Γ w) {Γc Γd : List Hp} (hp : Γ.flatten.Perm (Γc.flatten ++ Γd.flatten)) : Inv ⟨keys Γc, w, C.D⟩ R Γc w := i.callee hp (fun x hx => .inl hx) (fun b hb => i.apart b (by
  obtain ⟨x, hx, rfl⟩ := List.mem_map.1 hb
  exact List.mem_map.2 ⟨x, hp.mem_iff.2 (List.mem_append_left _ hx), rfl⟩))
variable {α G : Type}
/-- how a round's body is left: off its end, or by the exit id0 -/
def RPost (C : Cx) (R : List Hp) (mems : G → List Hp) (ok okx : G → Prop) (id0 : Nat) : Exit → Act → World → Prop
  | .normal, _, w => ∃ g, ok g ∧ Inv C R (mems g) w
  | .exit id, _, w => id = id0 ∧ ∃ g, okx g ∧ Inv C R (mems g) w
  | _, _, _ => False
/-- how the assignment to the left sides is left -/
def APost (C : Cx) (R : List Hp) (n : Nat) (Γ : List Hp) (L : Env) : Exit → Act → World → Prop := fun e a w => e = .normal ∧ Kn n L a ∧ Inv C R Γ w
instance noOutR {C : Cx} {mems : G → List Hp} {ok okx : G → Prop} {id0 : Nat} : NoOut (RPost C R mems ok okx id0) := ⟨fun ⟨a, w, x⟩ => x⟩
instance noOutA {C : Cx} : NoOut (APost C R n Γ L) := ⟨fun ⟨a, w, x⟩ => by cases x.1⟩
instance qpR {C : Cx} {mems : G → List Hp} {ok okx : G → Prop} {id0 : Nat} : QP (RPost C R mems ok okx id0) := ⟨fun c a w d v h => h⟩
instance qpD {ds : List Deferred} [h : QP Q] : QP (Qd ds Q) := ⟨fun c a w d v x => h.out c { a with defers := a.defers ++ ds } w d v (by cases d <;> exact x)⟩
theorem v_apost {C : Cx} : VK C R n L Γ (KE (APost C R n Γ L) .normal) := VK.mk fun a w k i => KE.mk ⟨rfl, k, i⟩
theorem v_round {C : Cx} {mems : G → List Hp} {ok okx : G → Prop} {id0 : Nat} {Γd : List Hp} (g : G) (h : ok g) (hp : Pick Γ (mems g) Γd) : VK C R n L Γ (KE (RPost C R mems ok okx id0) .normal) := VK.mk fun a w k i => KE.mk ⟨g, h, i.take hp.out⟩
theorem v_roundX {C : Cx} {mems : G → List Hp} {ok okx : G → Prop} {id0 : Nat} {Γd : List Hp} (g : G) (h : okx g) (hp : Pick Γ (mems g) Γd) : VK C R n L Γ (KE (RPost C R mems ok okx id0) (.exit id0)) := VK.mk fun a w k i => KE.mk ⟨rfl, g, h, i.take hp.out⟩
/-- the statement 'for x := range g { body }' whose body is left off its end or by the exit id0 -/
theorem v_range {M : List Nat} {w0 : World} {D : Bool} {g : Operand} {p aid : Nat} {aops : List Oper} {body : Code} {gf : FuncId} {lb : List Value} {Ri : List Hp} {S0 : Hp} {Xs : List α} {enc : α → Value}
    [hg : Ev L g (.func (.func gf) #[] lb.toArray)] [hfn : Fn1 P gf] [hpn : Is (Nat.ble n p = false)] [hri : Sub Ri R []] (it : IterC D P gf lb Ri S0 Xs enc) (mems : G → List Hp) (ok okx : List α → G → Prop) (g0 : G) (id0 : Nat) (L1 : α → Env)
    (hp : Pick Γ (S0 :: mems g0) Γr) (h0 : ok [] g0) (hnd : ndA aops.toArray = true)
    (hassign : ∀ x C Γ, VK C R n ((p, enc x) :: L) Γ (KR P aops.toArray false (APost C R n Γ (L1 x))))
    (hbody : ∀ pre x suf g l w1, Xs = pre ++ x :: suf → ok pre g → VK ⟨keys (mems g), w1, D⟩ R n (L1 x) (mems g) (KI l P body (RPost ⟨keys (mems g), w1, D⟩ R mems (ok (pre ++ [x])) (okx (pre ++ [x])) id0)))
    (hdone : ∀ g dl, ok Xs g → VK ⟨M, w0, D⟩ R n L ([(dl, .deferred (some []))] :: (mems g ++ Γr)) (KE (Qd [{ target := .collected dl, args := #[] }] Q) .normal))
    (hstop : ∀ pre g dl, okx pre g → VK ⟨M, w0, D⟩ R n L ([(dl, .deferred (some []))] :: (mems g ++ Γr)) (KE (Qd [{ target := .collected dl, args := #[] }] Q) (.exit id0))) :
    VK ⟨M, w0, D⟩ R n L Γ (KC P (.rangeFunc g #[p] (.region aid aops.toArray false) body) Q) := VK.mk fun a w k i => KC.mk ((wpIn_wide (n := 0)).1 (wpIn_rangeFunc fun fn _ => by
  have hgv := hg.out n a k
  obtain ⟨rec, hrec⟩ : ∃ rec : LoopState → Option Code → Loop, rec = fun st pe => { state := st, pending := pe, fn, tmps := a.tmps, params := #[p], assign := .region aid aops.toArray false, body, defers := w.heap.size } := ⟨_, rfl⟩
  obtain ⟨W1, hW1⟩ : ∃ W1, (w.alloc (.deferred (some []))).alloc (.loop (rec .ready none)) = W1 := ⟨_, rfl⟩
  obtain ⟨l, hlv⟩ : ∃ l, l = w.heap.size + 1 := ⟨_, rfl⟩
  obtain ⟨dl, hdl⟩ : ∃ dl, dl = w.heap.size := ⟨_, rfl⟩
  have i1 : Inv ⟨M, w0, D⟩ R ([(l, .loop (rec .ready none))] :: [(dl, .deferred (some []))] :: Γ) W1 := by
    have h2 := (i.new (.deferred (some []))).new (.loop (rec .ready none))
    rw [World.size_alloc] at h2
    rw [hlv, hdl, ← hW1]; exact h2
  have hdef : a.defers = [] := by
    have := k
    unfold Kn at this
    exact this.2.1
  refine ⟨l, [{ target := .collected dl, args := #[] }], W1, { target := .fn (.func gf) lb.toArray, args := #[.func (.yield l) #[] #[]] }, W1, gf, #[.func (.yield l) #[] #[]] ++ lb.toArray, W1, ?_, ?_, fun _ _ => trivial, ?_, fun h => (by cases h), ?_⟩
  · rw [← hW1, hrec, hlv, hdl]; exact run_enterLoop_outer _ _ _ _ _
  · simp only [resolve, hgv]
    simp [go_sem]
  · have e := hfn.out (#[.func (.yield l) #[] #[]] ++ lb.toArray) W1
    simp only [invoke]
    simpa [go_sem] using e
  · have eargs : #[Value.func (.yield l) #[] #[]] ++ lb.toArray = (Value.func (.yield l) #[] #[] :: lb).toArray := by simp
    rw [eargs]
    have S := it R hri l (fun pre sg => ∃ g, ok pre g ∧ sg = (l, .loop (rec .ready none)) :: (dl, .deferred (some [])) :: (mems g).flatten)
      (fun pre sg => ∃ g, okx pre g ∧ sg = (l, .loop (rec .done (some (.exit id0)))) :: (dl, .deferred (some [])) :: (mems g).flatten) _ ⟨g0, h0, rfl⟩ (by
        rintro pre x suf sg hX ⟨g, hok, rfl⟩ W iW
        have iA : Inv ⟨keys [(l, .loop (rec .ready none)) :: (dl, .deferred (some [])) :: (mems g).flatten], W, D⟩ R ([(l, .loop (rec .ready none))] :: [(dl, .deferred (some []))] :: mems g) W := iW.perm (by simp)
        have hl := iA.hd
        have hz : ((#[p].zip #[enc x]).foldl (fun tmps (t, v) => tmps.setIfInBounds t v) a.tmps) = a.tmps.setIfInBounds p (enc x) := by simp
        have hy := run_yield (P := P) (args := #[enc x]) hl (by rw [hrec]; rfl)
        refine ⟨_, _, _, _, hy, roundIn_of_wpIn (n := 0) trivial ?_⟩
        have e : ({ tmps := (((rec .ready none).params.zip #[enc x]).foldl (fun tmps (t, v) => tmps.setIfInBounds t v) (rec .ready none).tmps), defers := [] } : Act) = a.put (some p) (enc x) := by
          rw [hrec]; simp only []
          rw [hz]; simp [Act.put, hdef]
        rw [e]
        have kA : Kn n ((p, enc x) :: L) (a.put (some p) (enc x)) := k.put (lt_of_ble hpn.out)
        have hasg : (rec .ready none).assign = .region aid aops.toArray false := by rw [hrec]
        have hbd : (rec .ready none).body = body := by rw [hrec]
        rw [hasg, hbd]
        refine wpIn_mono (KR.inn (wd_round l) noOutA.out hnd ((hassign x _ _).out _ _ kA iA)) ?_
        rintro e a1 w1 ⟨rfl, k1, iB⟩
        have hl1 := iB.hd
        refine ⟨_, run_beginRound hl1 (by rw [hrec]), ?_⟩
        have iC := iB.put (.loop { rec .ready none with state := .busy })
        have iC' := (iC.part (Γc := mems g) (Γd := [[(l, .loop { rec .ready none with state := .busy })], [(dl, .deferred (some []))]]) (by
          have := pm3 (l, Obj.loop { rec .ready none with state := .busy }) (dl, Obj.deferred (some [])) (mems g).flatten
          simpa using this))
        refine wpIn_mono ((hbody pre x suf g l _ hX hok).out a1 _ k1 iC') ?_
        have hback : ∀ {g' : G} {w3 : World}, Inv ⟨keys (mems g), w1.putObj l (.loop { rec .ready none with state := .busy }), D⟩ R (mems g') w3 → Inv ⟨keys [(l, .loop (rec .ready none)) :: (dl, .deferred (some [])) :: (mems g).flatten], W, D⟩ R ([(l, .loop { rec .ready none with state := .busy })] :: [(dl, .deferred (some []))] :: mems g') w3 := fun {g'} {w3} j => by
          have := iC.back (Γc := mems g) (Γr := [[(l, .loop { rec .ready none with state := .busy })], [(dl, .deferred (some []))]]) (by
            have := pm3 (l, Obj.loop { rec .ready none with state := .busy }) (dl, Obj.deferred (some [])) (mems g).flatten
            simpa using this) j
          exact this.perm (by
            have := (pm3 (l, Obj.loop { rec .ready none with state := .busy }) (dl, Obj.deferred (some [])) (mems g').flatten).symm
            simpa using this)
        rintro e a2 w3 hq
        cases e with
        | normal =>
          obtain ⟨g', hok', j⟩ := hq
          have iE := hback j
          have hl3 := iE.hd
          refine ⟨_, _, run_endRound none hl3, .bool true, [(l, .loop (rec .ready none)) :: (dl, .deferred (some [])) :: (mems g').flatten], rfl, ⟨_, rfl, .inl ⟨rfl, g', hok', rfl⟩⟩, ?_⟩
          have iF := (iE.put (.loop (rec .ready none))).perm (Γ2 := [(l, .loop (rec .ready none)) :: (dl, .deferred (some [])) :: (mems g').flatten]) (by simp)
          rw [hrec] at iF ⊢; exact iF
        | exit id =>
          obtain ⟨rfl, g', hok', j⟩ := hq
          have iE := hback j
          have hl3 := iE.hd
          refine ⟨_, _, run_endRound (some (.exit id)) hl3, .bool false, [(l, .loop (rec .done (some (.exit id)))) :: (dl, .deferred (some [])) :: (mems g').flatten], rfl, ⟨_, rfl, .inr ⟨rfl, g', hok', rfl⟩⟩, ?_⟩
          have iF := (iE.put (.loop (rec .done (some (.exit id))))).perm (Γ2 := [(l, .loop (rec .done (some (.exit id)))) :: (dl, .deferred (some [])) :: (mems g').flatten]) (by simp)
          rw [hrec] at iF ⊢; exact iF
        | ret => exact hq.elim
        | goto t => exact hq.elim
        | panic c => exact hq.elim
        | outgrown => exact hq.elim)
    have hperm : ([(l, .loop (rec .ready none))] :: [(dl, .deferred (some []))] :: Γ).flatten.Perm ([S0, (l, .loop (rec .ready none)) :: (dl, .deferred (some [])) :: (mems g0).flatten].flatten ++ Γr.flatten) := by
      have h2 := hp.out
      simp only [List.flatten_cons, List.flatten_nil, List.append_nil, List.cons_append, List.nil_append] at h2 ⊢
      refine ((h2.cons _).cons _).trans ?_
      rw [List.append_assoc]
      refine List.Perm.trans ?_ (pm1 _ _ S0 _ _).symm
      refine List.Perm.cons _ (List.Perm.cons _ ?_)
      exact List.perm_append_comm_assoc _ _ _
    refine callsIn_wide.2 ((S W1 (i1.part hperm)).mono ?_)
    rintro e w' ⟨v, Γ', rfl, ⟨S', sg', rfl, hfin⟩, j⟩
    have i2 := i1.back hperm j
    have eds : ∀ d : Deferred, a.defers ++ [d] = [d] ++ a.defers := fun d => by rw [hdef]; rfl
    have fin : ∀ (g : G) (st : LoopState) (pe : Option Code), st ≠ .busy → Inv ⟨M, w0, D⟩ R ([S', (l, .loop (rec st pe)) :: (dl, .deferred (some [])) :: (mems g).flatten] ++ Γr) w' →
        ∃ w4, (Instr.endLoop l).run P w' = .ok pe w4 ∧ Inv ⟨M, w0, D⟩ R ([(dl, .deferred (some []))] :: (mems g ++ Γr)) w4 := fun g st pe hst i2 => by
      have i3 : Inv ⟨M, w0, D⟩ R ([(l, .loop (rec st pe))] :: [(dl, .deferred (some []))] :: (mems g ++ (S' :: Γr))) w' := i2.perm (by
        simp only [List.flatten_append, List.flatten_cons, List.flatten_nil, List.append_nil, List.cons_append, List.nil_append]
        have := pm1 (l, Obj.loop (rec st pe)) (dl, Obj.deferred (some [])) S' (mems g).flatten Γr.flatten
        simpa using this)
      have hl := i3.hd
      have hpe : (rec st pe).pending = pe := by rw [hrec]
      have hst2 : (rec st pe).state = st := by rw [hrec]
      have hrun := run_endLoop (P := P) hl (by rw [hst2]; exact hst)
      obtain ⟨ro, hro⟩ : ∃ ro, ro = Obj.loop { rec st pe with state := .exhausted } := ⟨_, rfl⟩
      have hrun : (Instr.endLoop l).run P w' = .ok (rec st pe).pending (w'.putObj l ro) := by rw [hro]; exact hrun
      rw [hpe] at hrun
      refine ⟨_, hrun, (i3.put ro).take (Γ2 := [(dl, .deferred (some []))] :: (mems g ++ Γr)) (Γd := [[(l, ro)], S']) ?_⟩
      simp only [List.flatten_append, List.flatten_cons, List.flatten_nil, List.append_nil, List.cons_append, List.nil_append]
      have := pm2 (l, ro) (dl, Obj.deferred (some [])) S' (mems g).flatten Γr.flatten
      simpa using this
    rcases hfin with ⟨g, hok, rfl⟩ | ⟨pre, g, hokx, rfl⟩
    · obtain ⟨w4, hrun, i4⟩ := fin g .ready none (by simp) i2
      refine ⟨_, _, hrun, ?_⟩
      have h4 := ((hdone g dl hok).out a _ k i4).out
      simp only [Qd] at h4
      rw [eds] at h4; exact h4
    · obtain ⟨w4, hrun, i4⟩ := fin g .done _ (by simp) i2
      refine ⟨_, _, hrun, ?_⟩
      have h4 := ((hstop pre g dl hokx).out a _ k i4).out
      simp only [Qd] at h4
      rw [eds] at h4; exact wpIn_exit h4))
end
section
variable {P : Program} {R : List Hp} {n : Nat} {Q : Exit → Act → World → Prop} {L : Env} {Γ Γr : List Hp} {α G : Type}
theorem v_range1 {M : List Nat} {w0 : World} {D : Bool} {g : Operand} {p d aid : Nat} {ty : TypeId} {sp : String} {af : Array Edge} {body : Code} {gf : FuncId} {lb : List Value} {Ri : List Hp} {S0 : Hp} {Xs : List α} {enc : α → Value}
    [hg : Ev L g (.func (.func gf) #[] lb.toArray)] [hfn : Fn1 P gf] [hpn : Is (Nat.ble n p = false)] [hdn : Is (Nat.ble n d = false)] [hri : Sub Ri R []] (it : IterC D P gf lb Ri S0 Xs enc) (mems : G → List Hp) (ok okx : List α → G → Prop) (g0 : G) (id0 : Nat)
    (hp : Pick Γ (S0 :: mems g0) Γr) (h0 : ok [] g0)
    (hbody : ∀ pre x suf g l w1, Xs = pre ++ x :: suf → ok pre g → VK ⟨keys (mems g), w1, D⟩ R n ((d, enc x) :: (p, enc x) :: L) (mems g) (KI l P body (RPost ⟨keys (mems g), w1, D⟩ R mems (ok (pre ++ [x])) (okx (pre ++ [x])) id0)))
    (hdone : ∀ g dl, ok Xs g → VK ⟨M, w0, D⟩ R n L ([(dl, .deferred (some []))] :: (mems g ++ Γr)) (KE (Qd [{ target := .collected dl, args := #[] }] Q) .normal))
    (hstop : ∀ pre g dl, okx pre g → VK ⟨M, w0, D⟩ R n L ([(dl, .deferred (some []))] :: (mems g ++ Γr)) (KE (Qd [{ target := .collected dl, args := #[] }] Q) (.exit id0))) :
    VK ⟨M, w0, D⟩ R n L Γ (KC P (.rangeFunc g #[p] (.region aid #[⟨some d, .assign (.tmp p), ty, sp, af, none⟩] false) body) Q) :=
  v_range (aops := [⟨some d, .assign (.tmp p), ty, sp, af, none⟩]) it mems ok okx g0 id0 (fun x => (d, enc x) :: (p, enc x) :: L) hp h0 rfl (fun x C Γ => v_kr (v_val (v_done v_apost))) hbody hdone hstop
end
/-! ### a function that holds such a statement -/
def PostM (P : Program) (fn : Func) (X : Ending → World → Prop) : Exit → Act → World → Prop
  | .normal, a, w | .ret, a, w => LeavesInM Fence.wide 0 P fn a.tmps X a.defers .returning w
  | _, _, _ => False
section
variable {P : Program} {R : List Hp} {n : Nat} {Q : Exit → Act → World → Prop} {L : Env} {Γ : List Hp} {C : Cx} {fn : Func} {X : Ending → World → Prop}
instance noOutM : NoOut (PostM P fn X) := ⟨fun ⟨a, w, x⟩ => x⟩
instance qpM : QP (PostM P fn X) := ⟨fun c a w d v h => h⟩
theorem calls_of_wpM {f : FuncId} {c : Code} {args : Array Value} {w : World} (hf : P.funcs[f]? = some fn) (hb : fn.body = some c)
    (h : c.wp P (PostM P fn X) { tmps := args ++ Array.replicate (fn.ntmps - args.size) undef, defers := [] } w) : Calls P f args w X :=
  callsIn_wide (n := 0).1 (callsIn_of_wp_marks hf hb trivial (wpIn_mono (wpIn_wide.2 h) fun e a w q => by
    cases e with
    | normal => exact q
    | ret => exact q
    | exit id => exact q.elim
    | goto t => exact q.elim
    | panic c => exact q.elim
    | outgrown => exact q.elim) rfl)
theorem v_toM (h : VK C R n L Γ (KE (bodyPost P fn X) .ret)) : VK C R n L Γ (KE (PostM P fn X) .ret) := VK.mk fun a w k i => KE.mk (by
  obtain ⟨hd, v, hr, hX⟩ := (h.out a w k i).out
  show LeavesInM Fence.wide 0 P fn a.tmps X a.defers .returning w
  rw [hd]
  exact ⟨v, hr, hX⟩)
theorem v_mark {dl : Nat} (h : VK C R n L ([(dl, .deferred none)] :: Γ) (KE (bodyPost P fn X) .ret)) : VK C R n L ([(dl, .deferred (some []))] :: Γ) (KE (Qd [{ target := .collected dl, args := #[] }] (PostM P fn X)) .ret) := VK.mk fun a w k i => KE.mk (by
  obtain ⟨hd, v, hr, hX⟩ := (h.out a _ k (i.put (.deferred none))).out
  show LeavesInM Fence.wide 0 P fn a.tmps X (a.defers ++ [{ target := .collected dl, args := #[] }]) .returning w
  rw [hd]
  exact ⟨by simp, .inl ⟨dl, _, rfl, run_takeDeferred i.hd, ⟨v, hr, hX⟩⟩⟩)
theorem Kn.of_begin {args : List Value} {L : Env} {m k : Nat} (hL : begin0 args = L) (hm : k = m) (hle : Nat.ble args.length m = true) : Kn m L ({ tmps := args.toArray ++ Array.replicate (k - args.toArray.size) undef, defers := [] } : Act) := by
  unfold Kn
  refine ⟨?_, rfl, fun t v ht => ?_⟩
  · have := Nat.le_of_ble_eq_true hle
    simp; omega
  · subst hL
    have : args[t]? = some v := by
      have key : ∀ (l : List Value) (k : Nat), ((l.zipIdx k).map fun x => (x.2, x.1)).lookup t = some v → k ≤ t ∧ l[t - k]? = some v := by
        intro l
        induction l with
        | nil => intro k h; simp at h
        | cons y l ih =>
          intro k h
          simp only [List.zipIdx_cons, List.map_cons, List.lookup] at h
          by_cases e : t = k
          · subst e; simp at h; exact ⟨Nat.le_refl _, by simpa using h⟩
          · have e2 : (t == k) = false := by simpa using e
            simp only [e2] at h
            obtain ⟨h1, h2⟩ := ih (k + 1) h
            refine ⟨by omega, ?_⟩
            rw [show t - k = (t - (k + 1)) + 1 by omega]
            simpa using h2
      simpa using (key args 0 ht).2
    have hlt : t < args.length := by
      rcases Nat.lt_or_ge t args.length with h | h
      · exact h
      · rw [List.getElem?_eq_none h] at this; cases this
    have e : args[t] = v := by rw [List.getElem?_eq_getElem hlt] at this; exact Option.some.inj this
    simp [Array.getElem?_append, hlt, e]
theorem spec_ofM {D : Bool} {f : FuncId} {c : Code} {args : List Value} {Post : Value → List Hp → Prop} {m : Nat} (hf : P.funcs[f]? = some fn) (hm : fn.ntmps = m) (hb : fn.body = some c) (hL : begin0 args = L) (hle : Nat.ble args.length m = true)
    (h : ∀ M w0, VK ⟨M, w0, D⟩ R m L Γ (KC P c (PostM P fn fun e w' => ∃ v Γ', e = .returned v ∧ Post v Γ' ∧ Inv ⟨M, w0, D⟩ R Γ' w'))) : SpecD D P f args.toArray R Γ Post := fun w i => by
  refine calls_of_wpM hf hb ((h _ _).out _ _ (Kn.of_begin hL hm hle) i).out
end
theorem spec_ofM2 {D : Bool} {P : Program} {R Γ : List Hp} {fn : Func} {f : FuncId} {c : Code} {v0 v1 : Value} {Post : Value → List Hp → Prop} {m : Nat} (hf : P.funcs[f]? = some fn) (hm : fn.ntmps = m) (hb : fn.body = some c) (hle : Nat.ble 2 m = true)
    (h : ∀ M w0, VK ⟨M, w0, D⟩ R m [(0, v0), (1, v1)] Γ (KC P c (PostM P fn fun e w' => ∃ v Γ', e = .returned v ∧ Post v Γ' ∧ Inv ⟨M, w0, D⟩ R Γ' w'))) : SpecD D P f #[v0, v1] R Γ Post :=
  spec_ofM (args := [v0, v1]) hf hm hb rfl hle h
section
variable {P : Program} {C : Cx} {R : List Hp} {n : Nat} {Q : Exit → Act → World → Prop} {L : Env} {Γ : List Hp}
/-- a cut at the end of a piece of code that is not in a pair with what follows -/
theorem v_cutT (tc tu : List Nat) {c y : Code} {α : Type} (vals : α → List Value) (Γs : α → List Hp) (ok : α → Prop) {us : List Value} [hu : Get L tu us] (hl : ∀ x, tc.length = (vals x).length) (h1 : VK C R n L Γ (KC P c (Exit.then (Cut C R n (tc ++ tu) (fun x => vals x ++ us) Γs ok) Q)))
    (h2 : ∀ x, ok x → VK C R n (zipE tc (vals x) ++ zipE tu us) (Γs x) (KC P y Q)) : VK C R n L Γ (KC P c (Exit.then (y.wp P Q) Q)) := VK.mk fun a w k i => KC.mk (Code.wp_mono (fun e a w h => by
  cases e with
  | normal =>
    obtain ⟨x, h0, hk, hi⟩ := h
    exact ((h2 x h0).out a w (by rw [← zipE_append (hl x), zipE_eq]; exact hk) hi).out
  | _ => exact h) ((h1.out a w k i).out))
end
attribute [irreducible] KLi KI KR KCd SpecY
end Go.SX
