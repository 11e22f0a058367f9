/- Symbolic execution: many steps by one search for instances; loops and cuts that carry along what they leave alone. -/
import Derived.Test.YtedemhmlaodblabDoorSn
namespace Go.SX
set_option linter.unusedSimpArgs false
set_option linter.unusedVariables false
open Go

/-- one step or more: G is what is left to show -/
class St1 (C : Cx) (R : List Hp) (n : Nat) (L : Env) (Γ : List Hp) (K : Act → World → Prop) (G : outParam Prop) : Prop where
  out : G → VK C R n L Γ K
/-- .. or none -/
class St (C : Cx) (R : List Hp) (n : Nat) (L : Env) (Γ : List Hp) (K : Act → World → Prop) (G : outParam Prop) : Prop where
  out : G → VK C R n L Γ K
section
variable {P : Program} {C : Cx} {R : List Hp} {n : Nat} {all : Array Oper} {Q : Exit → Act → World → Prop} {L : Env} {Γ : List Hp} {rest : List Oper} {w : World} {G G2 : Prop} {K : Act → World → Prop}
instance (priority := high) stGo [h : St1 C R n L Γ K G] : St C R n L Γ K G := ⟨h.out⟩
instance (priority := low) stStop : St C R n L Γ K (VK C R n L Γ K) := ⟨id⟩
theorem stp [h : St1 C R n L Γ K G] (g : G) : VK C R n L Γ K := h.out g

/-! ### code -/
instance stSeq {x y : Code} [h : St C R n L Γ (KC P x (Exit.then (y.wp P Q) Q)) G] : St1 C R n L Γ (KC P (.seq x y) Q) G := ⟨fun g => v_seq (h.out g)⟩
instance stReg {id : Nat} {ops : List Oper} [h : St C R n L Γ (KL P ops.toArray Q ops) G] : St1 C R n L Γ (KC P (.region id ops.toArray false) Q) G := ⟨fun g => v_reg (h.out g)⟩
instance stSkip [h : St C R n L Γ (KE Q .normal) G] : St1 C R n L Γ (KC P .skip Q) G := ⟨fun g => v_skip (h.out g)⟩
instance stExit {id : Nat} [h : St C R n L Γ (KE Q (.exit id)) G] : St1 C R n L Γ (KC P (.exit id) Q) G := ⟨fun g => v_exit (h.out g)⟩
instance stRet [h : St C R n L Γ (KE Q .ret) G] : St1 C R n L Γ (KC P .ret Q) G := ⟨fun g => v_ret (h.out g)⟩
instance stBlock {id : Nat} {c : Code} [h : St C R n L Γ (KC P c (Exit.inBlock id Q)) G] : St1 C R n L Γ (KC P (.block id c) Q) G := ⟨fun g => v_block (h.out g)⟩
instance stCondT {t : Nat} {x y : Code} [hl : Lk L t (.bool true)] [h : St C R n L Γ (KC P x Q) G] : St1 C R n L Γ (KC P (.cond (.tmp t) x y) Q) G := ⟨fun g => v_condT (h.out g)⟩
instance stCondF {t : Nat} {x y : Code} [hl : Lk L t (.bool false)] [h : St C R n L Γ (KC P y Q) G] : St1 C R n L Γ (KC P (.cond (.tmp t) x y) Q) G := ⟨fun g => v_condF (h.out g)⟩
instance stThen {y : Code} [h : St C R n L Γ (KC P y Q) G] : St1 C R n L Γ (KE (Exit.then (y.wp P Q) Q) .normal) G := ⟨fun g => v_then (h.out g)⟩
instance stThenX {X : Act → World → Prop} {e : Nat} [h : St C R n L Γ (KE Q (.exit e)) G] : St1 C R n L Γ (KE (Exit.then X Q) (.exit e)) G := ⟨fun g => v_thenX (h.out g)⟩
instance stThenR {X : Act → World → Prop} [h : St C R n L Γ (KE Q .ret) G] : St1 C R n L Γ (KE (Exit.then X Q) .ret) G := ⟨fun g => v_thenR (h.out g)⟩
instance stBlockN {id : Nat} [h : St C R n L Γ (KE Q .normal) G] : St1 C R n L Γ (KE (Exit.inBlock id Q) .normal) G := ⟨fun g => v_blockN (h.out g)⟩
instance stBlockR {id : Nat} [h : St C R n L Γ (KE Q .ret) G] : St1 C R n L Γ (KE (Exit.inBlock id Q) .ret) G := ⟨fun g => v_blockR (h.out g)⟩
instance (priority := high) stBlockX {id : Nat} [h : St C R n L Γ (KE Q .normal) G] : St1 C R n L Γ (KE (Exit.inBlock id Q) (.exit id)) G := ⟨fun g => v_blockX (h.out g)⟩
instance stBlockO {id e : Nat} [he : Is (Nat.beq e id = false)] [h : St C R n L Γ (KE Q (.exit e)) G] : St1 C R n L Γ (KE (Exit.inBlock id Q) (.exit e)) G := ⟨fun g => v_blockO (h.out g)⟩

instance stNormal {fn : Func} {X : Ending → World → Prop} [h : St C R n L Γ (KE (bodyPost P fn X) .ret) G] : St1 C R n L Γ (KE (bodyPost P fn X) .normal) G := ⟨fun g => v_normal (h.out g)⟩

/-! ### operations in the text's order -/
/-- the slot of an operation -/
class GtL (l : List Oper) (j : Nat) (t : outParam Nat) : Prop where
  out : (l[j]?).bind (·.dst) = some t
instance gtl0 {t : Nat} {op : Op} {ty : TypeId} {pos : String} {af : Array Edge} {g : Option (Nat × Bool)} {l : List Oper} : GtL (⟨some t, op, ty, pos, af, g⟩ :: l) 0 t := ⟨rfl⟩
instance gtlS {o : Oper} {l : List Oper} {j t : Nat} [h : GtL l j t] : GtL (o :: l) (j + 1) t := ⟨by simpa using h.out⟩
theorem GtL.arr {l : List Oper} {j t : Nat} (h : GtL l j t) : ((l.toArray)[j]?).bind (·.dst) = some t := by simpa using h.out
class OpL (l : List Oper) (j : Nat) (o : outParam Oper) : Prop where
  out : l[j]? = some o
instance opl0 {o : Oper} {l : List Oper} : OpL (o :: l) 0 o := ⟨rfl⟩
instance oplS {o o' : Oper} {l : List Oper} {j : Nat} [h : OpL l j o] : OpL (o' :: l) (j + 1) o := ⟨by simpa using h.out⟩
theorem OpL.arr {l : List Oper} {j : Nat} {o : Oper} (h : OpL l j o) : (l.toArray)[j]? = some o := by simpa using h.out

instance stDone [h : St C R n L Γ (KE Q .normal) G] : St1 C R n L Γ (KL P all Q []) G := ⟨fun g => v_done (h.out g)⟩
instance stCons {dst : Option Tmp} {op : Op} {ty : TypeId} {pos : String} {af : Array Edge} [h : St C R n L Γ (wp1 P all Q ⟨dst, op, ty, pos, af, none⟩ (KL P all Q rest)) G] : St1 C R n L Γ (KL P all Q (⟨dst, op, ty, pos, af, none⟩ :: rest)) G := ⟨fun g => v_cons (h.out g)⟩
instance stGY {l : List Oper} {dst : Option Tmp} {op : Op} {ty : TypeId} {pos : String} {af : Array Edge} {j t : Nat} {b : Bool} [ht : GtL l j t] [hl : Lk L t (.bool b)] [h : St C R n L Γ (KL P l.toArray Q (⟨dst, op, ty, pos, af, none⟩ :: rest)) G] :
    St1 C R n L Γ (KL P l.toArray Q (⟨dst, op, ty, pos, af, some (j, b)⟩ :: rest)) G := ⟨fun g => v_guardY ht.arr (h.out g)⟩
instance stGTF {l : List Oper} {d : Nat} {op : Op} {ty : TypeId} {pos : String} {af : Array Edge} {j t : Nat} [ht : GtL l j t] [hl : Lk L t (.bool false)] [hd : Is (Nat.ble n d = false)] [h : St C R n ((d, undef) :: L) Γ (KL P l.toArray Q rest) G] :
    St1 C R n L Γ (KL P l.toArray Q (⟨some d, op, ty, pos, af, some (j, true)⟩ :: rest)) G := ⟨fun g => v_guardTF ht.arr (h.out g)⟩
instance stGFT {l : List Oper} {d : Nat} {op : Op} {ty : TypeId} {pos : String} {af : Array Edge} {j t : Nat} [ht : GtL l j t] [hl : Lk L t (.bool true)] [hd : Is (Nat.ble n d = false)] [h : St C R n ((d, undef) :: L) Γ (KL P l.toArray Q rest) G] :
    St1 C R n L Γ (KL P l.toArray Q (⟨some d, op, ty, pos, af, some (j, false)⟩ :: rest)) G := ⟨fun g => v_guardFT ht.arr (h.out g)⟩
instance stGTFn {l : List Oper} {op : Op} {ty : TypeId} {pos : String} {af : Array Edge} {j t : Nat} [ht : GtL l j t] [hl : Lk L t (.bool false)] [h : St C R n L Γ (KL P l.toArray Q rest) G] :
    St1 C R n L Γ (KL P l.toArray Q (⟨none, op, ty, pos, af, some (j, true)⟩ :: rest)) G := ⟨fun g => v_guardTFn ht.arr (h.out g)⟩
instance stGFTn {l : List Oper} {op : Op} {ty : TypeId} {pos : String} {af : Array Edge} {j t : Nat} [ht : GtL l j t] [hl : Lk L t (.bool true)] [h : St C R n L Γ (KL P l.toArray Q rest) G] :
    St1 C R n L Γ (KL P l.toArray Q (⟨none, op, ty, pos, af, some (j, false)⟩ :: rest)) G := ⟨fun g => v_guardFTn ht.arr (h.out g)⟩
instance stGU {l : List Oper} {d : Nat} {op : Op} {ty : TypeId} {pos : String} {af : Array Edge} {j t : Nat} {b : Bool} [ht : GtL l j t] [hl : Lk L t undef] [hd : Is (Nat.ble n d = false)] [h : St C R n ((d, undef) :: L) Γ (KL P l.toArray Q rest) G] :
    St1 C R n L Γ (KL P l.toArray Q (⟨some d, op, ty, pos, af, some (j, b)⟩ :: rest)) G := ⟨fun g => v_guardU ht.arr (h.out g)⟩

/-! ### one operation -/
instance stY {d : Nat} {op : Op} {ty : TypeId} {pos : String} {af : Array Edge} {v : Value} [hy : Y P R L Γ op v] [hd : Is (Nat.ble n d = false)] [h : St C R n ((d, v) :: L) Γ K G] : St1 C R n L Γ (wp1 P all Q ⟨some d, op, ty, pos, af, none⟩ K) G := ⟨fun g => v_1by hy (h.out g)⟩
theorem v_1byN {op : Op} {ty : TypeId} {pos : String} {af : Array Edge} {v : Value} (hy : Y P R L Γ op v) (h : VK C R n L Γ K) : VK C R n L Γ (wp1 P all Q ⟨none, op, ty, pos, af, none⟩ K) := VK.mk fun a w k i => wp1.mk (by
  simp only [Region.wanted, if_true]
  refine .inl ?_
  simp only [Oper.wp, hy.out C n a w _ _ _ _ _ k i, Oper.upon]
  exact h.out _ _ k.putNone i)
instance stYN {op : Op} {ty : TypeId} {pos : String} {af : Array Edge} {v : Value} [hy : Y P R L Γ op v] [h : St C R n L Γ K G] : St1 C R n L Γ (wp1 P all Q ⟨none, op, ty, pos, af, none⟩ K) G := ⟨fun g => v_1byN hy (h.out g)⟩
instance stPC {d f : Nat} {xs : List Operand} {ats : Array TypeId} {ty : TypeId} {pos : String} {af : Array Edge} {vs : List Value} {v : Value} {M : List Nat} {w0 : World} {D : Bool} [hf : Fn1 P f] [hx : Evs L xs vs] [hs : PCx D P f vs.toArray v] [hd : Is (Nat.ble n d = false)] [h : St ⟨M, w0, D⟩ R n ((d, v) :: L) Γ K G] :
    St1 ⟨M, w0, D⟩ R n L Γ (wp1 P all Q ⟨some d, .call ⟨.value (.func f), xs.toArray, ats⟩, ty, pos, af, none⟩ K) G := ⟨fun g => v_pcall (hx := ⟨by simpa using hx.out⟩) (h.out g)⟩
instance stStore {t et b off m : Nat} {x y : Operand} {ty : TypeId} {pos : String} {af : Array Edge} {v : Value} {vs cs r : Array Value} {f : Obj → List Hp} [hx : Ev L x (.pointer (some ⟨b, off, none⟩))] [hy : Ev L y v] [hc : Cel v vs]
    [hm : Sz P t m] [hs : Siz vs m] [h1 : OneA vs] [hu : Upd Γ b (.cells cs et (0, 0)) f] [hp : Pt cs off vs r] [h : St C R n L (f (.cells r et (0, 0))) K G] : St1 C R n L Γ (wp1 P all Q ⟨none, .store t x y, ty, pos, af, none⟩ K) G := ⟨fun g => v_store (h.out g)⟩

/-! ### drawn regions -/
section
variable {Rs Rt : List Hp} {kl i j m : Nat} {b : Bool} {r s t' : Pl} {l : List Oper}
instance stATake {o : Oper} [ho : OpL l i o] [h : St C R n L Γ (KT P l.toArray Q Rs kl Rt b i o r) G] : St1 C R n L Γ (KA P l.toArray Q Rs kl Rt b (.take i r)) G := ⟨fun g => v_aTake ho.arr (h.out g)⟩
instance stAAct {o : Oper} [ho : OpL l i o] [h : St C R n L Γ (KD P l.toArray Q Rs kl Rt b i o r) G] : St1 C R n L Γ (KA P l.toArray Q Rs kl Rt b (.act i r)) G := ⟨fun g => v_aAct ho.arr (h.out g)⟩
instance stADone [h : St C R n L Γ (KE Q .normal) G] : St1 C R n L Γ (KA P all Q Rs kl Rt b .done) G := ⟨fun g => v_aDone (h.out g)⟩
instance stTY {d : Nat} {op : Op} {ty : TypeId} {pos : String} {af : Array Edge} {v : Value} [hy : Y P Rs L [] op v] [hq : QP Q] [hd : Is (Nat.ble n d = false)] [h : St C R n ((d, v) :: L) Γ (KA P all Q Rs kl Rt b r) G] :
    St1 C R n L Γ (KG all (FT P all Q Rs kl Rt b i r) ⟨some d, op, ty, pos, af, none⟩) G := ⟨fun g => v_tBy hy (h.out g)⟩
instance stDo {dst : Option Tmp} {op : Op} {ty : TypeId} {pos : String} {af : Array Edge} [h : St C R n L Γ (wp1 P all Q ⟨dst, op, ty, pos, af, none⟩ (KS P all Q Rs kl Rt b i r)) G] : St1 C R n L Γ (KG all (FD P all Q Rs kl Rt b i r) ⟨dst, op, ty, pos, af, none⟩) G := ⟨fun g => v_do (h.out g)⟩
instance stStabA [hb : Is (Nat.beq i kl = false)] [hs : Sub Rs R Γ] [ht : Sub Rt R Γ] [h : St C R n L Γ (KA P all Q Rs kl Rt true r) G] : St1 C R n L Γ (KS P all Q Rs kl Rt true i r) G := ⟨fun g => v_stabA hb.out (h.out g)⟩
instance stStabK [hb : Is (Nat.beq i kl = true)] [hs : Sub Rs R Γ] [h : St C R n L Γ (KA P all Q Rs kl Rt false r) G] : St1 C R n L Γ (KS P all Q Rs kl Rt true i r) G := ⟨fun g => v_stabK hb.out (h.out g)⟩
instance stStabD [hs : Sub Rs R Γ] [h : St C R n L Γ (KA P all Q Rs kl Rt false r) G] : St1 C R n L Γ (KS P all Q Rs kl Rt false i r) G := ⟨fun g => v_stabD (h.out g)⟩
instance stATwo {o u : Oper} [ho : OpL l i o] [hu : OpL l j u] [h : St C R n L Γ (KD P l.toArray Q Rs kl Rt b i o r) G] [h2 : St C R n L Γ (KD P l.toArray Q Rs kl Rt b j u s) G2] : St1 C R n L Γ (KA P l.toArray Q Rs kl Rt b (.two i r j s)) (G ∧ G2) := ⟨fun g => v_aTwo ho.arr hu.arr (h.out g.1) (h2.out g.2)⟩
instance stAThree {G3 : Prop} {o u y : Oper} [ho : OpL l i o] [hu : OpL l j u] [hy : OpL l m y] [h : St C R n L Γ (KD P l.toArray Q Rs kl Rt b i o r) G] [h2 : St C R n L Γ (KD P l.toArray Q Rs kl Rt b j u s) G2] [h3 : St C R n L Γ (KD P l.toArray Q Rs kl Rt b m y t') G3] : St1 C R n L Γ (KA P l.toArray Q Rs kl Rt b (.three i r j s m t')) (G ∧ G2 ∧ G3) := ⟨fun g => v_aThree ho.arr hu.arr hy.arr (h.out g.1) (h2.out g.2.1) (h3.out g.2.2)⟩
instance stGgY {F : Oper → Act → World → Prop} {dst : Option Tmp} {op : Op} {ty : TypeId} {pos : String} {af : Array Edge} {t : Nat} {c : Bool} [ht : GtL l j t] [hl : Lk L t (.bool c)] [h : St C R n L Γ (KG l.toArray F ⟨dst, op, ty, pos, af, none⟩) G] :
    St1 C R n L Γ (KG l.toArray F ⟨dst, op, ty, pos, af, some (j, c)⟩) G := ⟨fun g => v_gYes ht.arr (h.out g)⟩
instance stGgNTT {d : Nat} {op : Op} {ty : TypeId} {pos : String} {af : Array Edge} {t : Nat} [ht : GtL l j t] [hl : Lk L t (.bool false)] [hd : Is (Nat.ble n d = false)] [hq : QP Q] [h : St C R n ((d, undef) :: L) Γ (KA P l.toArray Q Rs kl Rt b r) G] :
    St1 C R n L Γ (KG l.toArray (FT P l.toArray Q Rs kl Rt b i r) ⟨some d, op, ty, pos, af, some (j, true)⟩) G := ⟨fun g => v_gNoTT ht.arr (h.out g)⟩
instance stGgNTF {d : Nat} {op : Op} {ty : TypeId} {pos : String} {af : Array Edge} {t : Nat} [ht : GtL l j t] [hl : Lk L t (.bool true)] [hd : Is (Nat.ble n d = false)] [hq : QP Q] [h : St C R n ((d, undef) :: L) Γ (KA P l.toArray Q Rs kl Rt b r) G] :
    St1 C R n L Γ (KG l.toArray (FT P l.toArray Q Rs kl Rt b i r) ⟨some d, op, ty, pos, af, some (j, false)⟩) G := ⟨fun g => v_gNoTF ht.arr (h.out g)⟩
instance stGgUT {d : Nat} {op : Op} {ty : TypeId} {pos : String} {af : Array Edge} {t : Nat} {c : Bool} [ht : GtL l j t] [hl : Lk L t undef] [hd : Is (Nat.ble n d = false)] [hq : QP Q] [h : St C R n ((d, undef) :: L) Γ (KA P l.toArray Q Rs kl Rt b r) G] :
    St1 C R n L Γ (KG l.toArray (FT P l.toArray Q Rs kl Rt b i r) ⟨some d, op, ty, pos, af, some (j, c)⟩) G := ⟨fun g => v_gUnT ht.arr (h.out g)⟩
instance stGgNDT {d : Nat} {op : Op} {ty : TypeId} {pos : String} {af : Array Edge} {t : Nat} [ht : GtL l j t] [hl : Lk L t (.bool false)] [hd : Is (Nat.ble n d = false)] [h : St C R n ((d, undef) :: L) Γ (KS P l.toArray Q Rs kl Rt b i r) G] :
    St1 C R n L Γ (KG l.toArray (FD P l.toArray Q Rs kl Rt b i r) ⟨some d, op, ty, pos, af, some (j, true)⟩) G := ⟨fun g => v_gNoDT ht.arr (h.out g)⟩
instance stGgNDF {d : Nat} {op : Op} {ty : TypeId} {pos : String} {af : Array Edge} {t : Nat} [ht : GtL l j t] [hl : Lk L t (.bool true)] [hd : Is (Nat.ble n d = false)] [h : St C R n ((d, undef) :: L) Γ (KS P l.toArray Q Rs kl Rt b i r) G] :
    St1 C R n L Γ (KG l.toArray (FD P l.toArray Q Rs kl Rt b i r) ⟨some d, op, ty, pos, af, some (j, false)⟩) G := ⟨fun g => v_gNoDF ht.arr (h.out g)⟩
instance stGgUD {d : Nat} {op : Op} {ty : TypeId} {pos : String} {af : Array Edge} {t : Nat} {c : Bool} [ht : GtL l j t] [hl : Lk L t undef] [hd : Is (Nat.ble n d = false)] [h : St C R n ((d, undef) :: L) Γ (KS P l.toArray Q Rs kl Rt b i r) G] :
    St1 C R n L Γ (KG l.toArray (FD P l.toArray Q Rs kl Rt b i r) ⟨some d, op, ty, pos, af, some (j, c)⟩) G := ⟨fun g => v_gUnD ht.arr (h.out g)⟩
end

/-! ### a test that isn't known: both ways -/
/-- the slot on which it hangs how it goes on -/
class SpT (K : Act → World → Prop) (t : outParam Nat) : Prop
instance spCond {t : Nat} {x y : Code} : SpT (KC P (.cond (.tmp t) x y) Q) t := ⟨⟩
instance spGuard {l : List Oper} {dst : Option Tmp} {op : Op} {ty : TypeId} {pos : String} {af : Array Edge} {j t : Nat} {b : Bool} [ht : GtL l j t] : SpT (KL P l.toArray Q (⟨dst, op, ty, pos, af, some (j, b)⟩ :: rest)) t := ⟨⟩
instance spPick {t : Nat} {x y : Operand} {dst : Option Tmp} {ty : TypeId} {pos : String} {af : Array Edge} {g : Option (Nat × Bool)} : SpT (wp1 P all Q ⟨dst, .pick (.tmp t) x y, ty, pos, af, g⟩ K) t := ⟨⟩
instance spGg {l : List Oper} {F : Oper → Act → World → Prop} {dst : Option Tmp} {op : Op} {ty : TypeId} {pos : String} {af : Array Edge} {j t : Nat} {b : Bool} [ht : GtL l j t] : SpT (KG l.toArray F ⟨dst, op, ty, pos, af, some (j, b)⟩) t := ⟨⟩
instance spGp {F : Oper → Act → World → Prop} {t : Nat} {x y : Operand} {dst : Option Tmp} {ty : TypeId} {pos : String} {af : Array Edge} : SpT (KG all F ⟨dst, .pick (.tmp t) x y, ty, pos, af, none⟩) t := ⟨⟩
theorem v_spD {t : Nat} {p : Prop} [hs : SpT K t] [Decidable p] [hl : Lk L t (.bool (decide p))] (h1 : p → VK C R n ((t, .bool true) :: L) Γ K) (h2 : ¬ p → VK C R n ((t, .bool false) :: L) Γ K) : VK C R n L Γ K := VK.mk fun a w k i => by
  by_cases hp : p
  · exact (h1 hp).out a w (k.know hl (by simp [hp])) i
  · exact (h2 hp).out a w (k.know hl (by simp [hp])) i
theorem v_spT {t : Nat} {p : Prop} [hs : SpT K t] [Decidable p] [hl : Lk L t (.bool (decide p))] (hp : p) (h1 : VK C R n ((t, .bool true) :: L) Γ K) : VK C R n L Γ K := v_spD (fun _ => h1) (fun h => absurd hp h)
theorem v_spF {t : Nat} {p : Prop} [hs : SpT K t] [Decidable p] [hl : Lk L t (.bool (decide p))] (hp : ¬ p) (h1 : VK C R n ((t, .bool false) :: L) Γ K) : VK C R n L Γ K := v_spD (fun h => absurd h hp) (fun _ => h1)
theorem v_spB {t : Nat} {c : Bool} [hs : SpT K t] [hl : Lk L t (.bool c)] (h1 : c = true → VK C R n ((t, .bool true) :: L) Γ K) (h2 : c = false → VK C R n ((t, .bool false) :: L) Γ K) : VK C R n L Γ K := VK.mk fun a w k i => by
  cases c with
  | true => exact (h1 rfl).out a w (k.know hl rfl) i
  | false => exact (h2 rfl).out a w (k.know hl rfl) i

/-! ### operations on a condition -/
class YC (P : Program) (R : List Hp) (L : Env) (Γ : List Hp) (op : Op) (c : outParam Prop) (v : outParam (c → Value)) : Prop where
  out : ∀ h : c, Y P R L Γ op (v h)
theorem v_yc {d : Nat} {op : Op} {ty : TypeId} {pos : String} {af : Array Edge} {c : Prop} {v : c → Value} [hy : YC P R L Γ op c v] [hd : Is (Nat.ble n d = false)] (hc : c) (h : VK C R n ((d, v hc) :: L) Γ K) : VK C R n L Γ (wp1 P all Q ⟨some d, op, ty, pos, af, none⟩ K) := v_1by (hy.out hc) h
theorem v_tyc {Rs Rt : List Hp} {kl i : Nat} {al : Bool} {r : Pl} {d : Nat} {op : Op} {ty : TypeId} {pos : String} {af : Array Edge} {c : Prop} {v : c → Value} [hy : YC P Rs L [] op c v] [hq : QP Q] [hd : Is (Nat.ble n d = false)] (hc : c) (h : VK C R n ((d, v hc) :: L) Γ (KA P all Q Rs kl Rt al r)) :
    VK C R n L Γ (KG all (FT P all Q Rs kl Rt al i r) ⟨some d, op, ty, pos, af, none⟩) := v_tBy (hy.out hc) h
theorem v_tycT {Rs Rt : List Hp} {kl i : Nat} {r : Pl} {d : Nat} {op : Op} {ty : TypeId} {pos : String} {af : Array Edge} {c : Prop} {v : c → Value} (hk : waitsFor all kl i = true) [hy : YC P Rt L [] op c v] [hq : QP Q] [hd : Is (Nat.ble n d = false)] (hc : c) (h : VK C R n ((d, v hc) :: L) Γ (KA P all Q Rs kl Rt true r)) :
    VK C R n L Γ (KG all (FT P all Q Rs kl Rt true i r) ⟨some d, op, ty, pos, af, none⟩) := v_tByT (hy.out hc) hk h
instance ycAdd {t ty : TypeId} {x y : Operand} {a b : Int} [hx : Ev L x (.int .i64 a)] [hy : Ev L y (.int .i64 b)] : YC P R L Γ (.binOp .add t x y ty) (-9223372036854775808 ≤ a + b ∧ a + b < 9223372036854775808) (fun _ => .int .i64 (a + b)) := ⟨fun h => y_add h.1 h.2⟩
instance ycSub {t ty : TypeId} {x y : Operand} {a b : Int} [hx : Ev L x (.int .i64 a)] [hy : Ev L y (.int .i64 b)] : YC P R L Γ (.binOp .sub t x y ty) (-9223372036854775808 ≤ a - b ∧ a - b < 9223372036854775808) (fun _ => .int .i64 (a - b)) := ⟨fun h => y_sub h.1 h.2⟩
theorem y_mul {t ty : TypeId} {x y : Operand} {a b : Int} [hx : Ev L x (.int .i64 a)] [hy : Ev L y (.int .i64 b)] (h1 : -9223372036854775808 ≤ a * b) (h2 : a * b < 9223372036854775808) : Y P R L Γ (.binOp .mul t x y ty) (.int .i64 (a * b)) := by
  have := yBin (P := P) (R := R) (L := L) (Γ := Γ) .mul t ty x y (.int .i64 a) (.int .i64 b) _ (h3 := biMul t a b)
  rwa [show RowKit.wrap64 (a * b) = a * b by unfold RowKit.wrap64; omega] at this
instance ycMul {t ty : TypeId} {x y : Operand} {a b : Int} [hx : Ev L x (.int .i64 a)] [hy : Ev L y (.int .i64 b)] : YC P R L Γ (.binOp .mul t x y ty) (-9223372036854775808 ≤ a * b ∧ a * b < 9223372036854775808) (fun _ => .int .i64 (a * b)) := ⟨fun h => y_mul h.1 h.2⟩
/-- .. and what wraps -/
class YW (P : Program) (R : List Hp) (L : Env) (Γ : List Hp) (op : Op) (v : outParam Value) : Prop where
  out : Y P R L Γ op v
instance ywAdd {t yt : TypeId} {x y : Operand} {a b : Int} [hx : Ev L x (.int .i64 a)] [hy : Ev L y (.int .i64 b)] : YW P R L Γ (.binOp .add t x y yt) (.int .i64 (RowKit.wrap64 (a + b))) := ⟨yBin (h3 := biAdd t a b) ..⟩
instance ywSub {t yt : TypeId} {x y : Operand} {a b : Int} [hx : Ev L x (.int .i64 a)] [hy : Ev L y (.int .i64 b)] : YW P R L Γ (.binOp .sub t x y yt) (.int .i64 (RowKit.wrap64 (a - b))) := ⟨yBin (h3 := biSub t a b) ..⟩
instance ywMul {t yt : TypeId} {x y : Operand} {a b : Int} [hx : Ev L x (.int .i64 a)] [hy : Ev L y (.int .i64 b)] : YW P R L Γ (.binOp .mul t x y yt) (.int .i64 (RowKit.wrap64 (a * b))) := ⟨yBin (h3 := biMul t a b) ..⟩
theorem v_yw {d : Nat} {op : Op} {ty : TypeId} {pos : String} {af : Array Edge} {v : Value} [hy : YW P R L Γ op v] [hd : Is (Nat.ble n d = false)] (h : VK C R n ((d, v) :: L) Γ K) : VK C R n L Γ (wp1 P all Q ⟨some d, op, ty, pos, af, none⟩ K) := v_1by hy.out h
theorem v_tyw {Rs Rt : List Hp} {kl i : Nat} {al : Bool} {r : Pl} {d : Nat} {op : Op} {ty : TypeId} {pos : String} {af : Array Edge} {v : Value} [hy : YW P Rs L [] op v] [hq : QP Q] [hd : Is (Nat.ble n d = false)] (h : VK C R n ((d, v) :: L) Γ (KA P all Q Rs kl Rt al r)) :
    VK C R n L Γ (KG all (FT P all Q Rs kl Rt al i r) ⟨some d, op, ty, pos, af, none⟩) := v_tBy hy.out h
instance ycShl {t yt : TypeId} {x y : Operand} {k j : IntKind} {vx vy : Int} [hx : Ev L x (.int k vx)] [hy : Ev L y (.int j vy)] : YC P R L Γ (.binOp .shl t x y yt) (0 ≤ vy) (fun _ => .int k (shlI k vx vy)) := ⟨fun h => y_shl h⟩
instance ycShr {t yt : TypeId} {x y : Operand} {k j : IntKind} {vx vy : Int} [hx : Ev L x (.int k vx)] [hy : Ev L y (.int j vy)] : YC P R L Γ (.binOp .shr t x y yt) (0 ≤ vy) (fun _ => .int k (shrI k vx vy)) := ⟨fun h => y_shr h⟩
instance ycQuo {t yt : TypeId} {x y : Operand} {k : IntKind} {vx vy : Int} [hx : Ev L x (.int k vx)] [hy : Ev L y (.int k vy)] : YC P R L Γ (.binOp .quo t x y yt) (vy ≠ 0) (fun _ => .int k (k.wrap (vx.tdiv vy))) := ⟨fun h => y_quo h⟩
instance ycRem {t yt : TypeId} {x y : Operand} {k : IntKind} {vx vy : Int} [hx : Ev L x (.int k vx)] [hy : Ev L y (.int k vy)] : YC P R L Γ (.binOp .rem t x y yt) (vy ≠ 0) (fun _ => .int k (vx.tmod vy)) := ⟨fun h => y_rem h⟩
instance ycIdx {T e b off m c sz : Nat} {x ix : Operand} {k : IntKind} {i : Int} [hx : Ev L x (.slice (some ⟨b, off, none⟩) m c)] [hi : Ev L ix (.int k i)] [ht : Und P T (.slice e)] [hs : Sz P e sz] : YC P R L Γ (.indexAddr T x ix) (0 ≤ i ∧ i < (m : Int)) (fun _ => .pointer (some ⟨b, off + i.toNat * sz, none⟩)) := ⟨fun h => y_idx h.1 h.2⟩
instance ycIdxA {T e b off m sz : Nat} {x ix : Operand} {k : IntKind} {i : Int} [hx : Ev L x (.pointer (some ⟨b, off, none⟩))] [hi : Ev L ix (.int k i)] [ht : Und P T (.array m e)] [hs : Sz P e sz] : YC P R L Γ (.indexAddr T x ix) (0 ≤ i ∧ i < (m : Int)) (fun _ => .pointer (some ⟨b, off + i.toNat * sz, none⟩)) := ⟨fun h => y_idxA h.1 h.2⟩
instance ycIdxS {T : Nat} {s : ByteArray} {x ix : Operand} {k : IntKind} {i : Int} [hx : Ev L x (.string s)] [hi : Ev L ix (.int k i)] [ht : Und P T .string] : YC P R L Γ (.index T x ix) (0 ≤ i ∧ i < (s.size : Int)) (fun _ => .int .u8 (bt s i)) := ⟨fun h => y_idxS h.1 h.2⟩
instance ycSliceS {T : Nat} {s : ByteArray} {x lo hi : Operand} {k j : IntKind} {l h' : Int} [hx : Ev L x (.string s)] [hl : Ev L lo (.int k l)] [hh : Ev L hi (.int j h')] [ht : Und P T .string] : YC P R L Γ (.slice T x (some lo) (some hi) none) (0 ≤ l ∧ l ≤ h' ∧ h' ≤ (s.size : Int)) (fun _ => .string (s.extract l.toNat h'.toNat)) := ⟨fun h => y_sliceS h.1 h.2.1 h.2.2⟩
instance ycSliceSl {T : Nat} {s : ByteArray} {x lo : Operand} {k : IntKind} {l : Int} [hx : Ev L x (.string s)] [hl : Ev L lo (.int k l)] [ht : Und P T .string] : YC P R L Γ (.slice T x (some lo) none none) (0 ≤ l ∧ l ≤ (s.size : Int)) (fun _ => .string (s.extract l.toNat s.size)) := ⟨fun h => y_sliceSl h.1 h.2⟩
instance ycSliceSh {T : Nat} {s : ByteArray} {x hi : Operand} {j : IntKind} {h' : Int} [hx : Ev L x (.string s)] [hh : Ev L hi (.int j h')] [ht : Und P T .string] : YC P R L Γ (.slice T x none (some hi) none) (0 ≤ h' ∧ h' ≤ (s.size : Int)) (fun _ => .string (s.extract 0 h'.toNat)) := ⟨fun h => y_sliceSh h.1 h.2⟩
section
variable {e sz : Nat} {α : Type} {cv : α → List Value} {av : α → Value} {l : List α} {v : Value} {s : Hp}
class IsCast (i : Int) (j : outParam Nat) : Prop where
  out : i = (j : Int)
instance isCast (j : Nat) : IsCast (Nat.cast j) j := ⟨rfl⟩
instance (priority := high) ycIdxN {T j : Nat} {x ix : Operand} {k : IntKind} {i : Int} [hx : Ev L x v] [hi : Ev L ix (.int k i)] [hj : IsCast i j] [ht : Und P T (.slice e)] [hs : AtS v e α sz cv l s] [hz : Sz P e sz] : YC P R L Γ (.indexAddr T x ix) (j < l.length) (fun _ => .pointer (some ⟨slb v, slo v + j * sz, none⟩)) := ⟨fun h => y_idxN (hi := hj.out ▸ hi) h⟩
instance ycIdxC {T : Nat} {x ix : Operand} {k : IntKind} {i : Int} [hx : Ev L x v] [hi : Ev L ix (.int k i)] [ht : Und P T (.slice e)] [hs : AtS v e α sz cv l s] [hz : Sz P e sz] : YC P R L Γ (.indexAddr T x ix) (0 ≤ i ∧ i < (l.length : Int)) (fun _ => .pointer (some ⟨slb v, slo v + i.toNat * sz, none⟩)) := ⟨fun h => y_idxC h.1 h.2⟩
instance ycElemG {t i : Nat} {p : Operand} [hp : Ev L p (.pointer (some ⟨slb v, slo v + i * sz, none⟩))] [hs : AtS v t α sz cv l s] [hg : Seg R Γ s] [he : ElT P t α sz cv av] : YC P R L Γ (.load t p) (i < l.length) (fun h => av l[i]) := ⟨fun h => y_elemG h⟩
class GetF {α : Type} (cv : α → List Value) (fo : Nat) (f : outParam (α → Value)) : Prop where
  out : ∀ x, (cv x)[fo]? = some (f x)
instance ycElemF {t i fo : Nat} {p : Operand} {f : α → Value} [hp : Ev L p (.pointer (some ⟨slb v, slo v + i * sz + fo, none⟩))] [hs : AtS v e α sz cv l s] [hg : Seg R Γ s] [hE : ElT P e α sz cv av] [hsc : Sc P t] [hu : GetF cv fo f] : YC P R L Γ (.load t p) (i < l.length) (fun h => f l[i]) := ⟨fun h => y_elemF h (hu := ⟨hu.out _⟩)⟩
/-- a part of a slice -/
class Sb (P : Program) (R : List Hp) (L : Env) (Γ : List Hp) (op : Op) (c : outParam Prop) (A : outParam (Value → Prop)) : Prop where
  out : c → ∃ v, A v ∧ Y P R L Γ op v
theorem v_sb {d : Nat} {op : Op} {ty : TypeId} {pos : String} {af : Array Edge} {c : Prop} {A : Value → Prop} [hy : Sb P R L Γ op c A] [hd : Is (Nat.ble n d = false)] (hc : c) (h : ∀ u, A u → VK C R n ((d, u) :: L) Γ K) : VK C R n L Γ (wp1 P all Q ⟨some d, op, ty, pos, af, none⟩ K) := by
  obtain ⟨u, hu, y⟩ := hy.out hc
  exact v_1by y (h u hu)
theorem v_tsb {Rs Rt : List Hp} {kl i : Nat} {al : Bool} {r : Pl} {d : Nat} {op : Op} {ty : TypeId} {pos : String} {af : Array Edge} {c : Prop} {A : Value → Prop} [hy : Sb P Rs L [] op c A] [hq : QP Q] [hd : Is (Nat.ble n d = false)] (hc : c) (h : ∀ u, A u → VK C R n ((d, u) :: L) Γ (KA P all Q Rs kl Rt al r)) :
    VK C R n L Γ (KG all (FT P all Q Rs kl Rt al i r) ⟨some d, op, ty, pos, af, none⟩) := by
  obtain ⟨u, hu, y⟩ := hy.out hc
  exact v_tBy y (h u hu)
instance sbB {T : Nat} {x lo hi : Operand} {k k' : IntKind} {i j : Int} [hx : Ev L x v] [hlo : Ev L lo (.int k i)] [hhi : Ev L hi (.int k' j)] [ht : Und P T (.slice e)] [hs : AtS v e α sz cv l s] [hz : Sz P e sz] [hE : ElT P e α sz cv av] :
    Sb P R L Γ (.slice T x (some lo) (some hi) none) (0 ≤ i ∧ i ≤ j ∧ j ≤ l.length) (fun u => AtS u e α sz cv ((l.take j.toNat).drop i.toNat) s ∧ (((l.take j.toNat).drop i.toNat).length : Int) = j - i) := ⟨fun h => ⟨_, ⟨hs.sub hE.len (lo := i.toNat) (hi := j.toNat) (by omega) (by omega), by simp only [List.length_drop, List.length_take]; omega⟩, y_subB h.1 h.2.1 h.2.2⟩⟩
instance sbL {T : Nat} {x lo : Operand} {k : IntKind} {i : Int} [hx : Ev L x v] [hlo : Ev L lo (.int k i)] [ht : Und P T (.slice e)] [hs : AtS v e α sz cv l s] [hz : Sz P e sz] [hE : ElT P e α sz cv av] :
    Sb P R L Γ (.slice T x (some lo) none none) (0 ≤ i ∧ i ≤ l.length) (fun u => AtS u e α sz cv (l.drop i.toNat) s ∧ ((l.drop i.toNat).length : Int) = l.length - i) := ⟨fun h => ⟨_, ⟨by simpa using hs.sub hE.len (lo := i.toNat) (hi := l.length) (by omega) (by omega), by simp only [List.length_drop]; omega⟩, y_subL h.1 h.2⟩⟩
instance sbH {T : Nat} {x hi : Operand} {k' : IntKind} {j : Int} [hx : Ev L x v] [hhi : Ev L hi (.int k' j)] [ht : Und P T (.slice e)] [hs : AtS v e α sz cv l s] [hz : Sz P e sz] [hE : ElT P e α sz cv av] :
    Sb P R L Γ (.slice T x none (some hi) none) (0 ≤ j ∧ j ≤ l.length) (fun u => AtS u e α sz cv (l.take j.toNat) s ∧ ((l.take j.toNat).length : Int) = j) := ⟨fun h => ⟨_, ⟨by simpa using hs.sub hE.len (lo := 0) (hi := j.toNat) (by omega) (by omega), by simp only [List.length_take]; omega⟩, y_subH h.1 h.2⟩⟩
end
end

/-- a lookup that takes the zero value where the key isn't there -/
instance yLkD {P : Program} {R : List Hp} {L : Env} {Γ : List Hp} {α β : Type} [DecidableEq α] {kv : α → Value} {vv : β → Value} {m : List (α × β)} {s : Hp} {b T kt et : Nat} {x ix : Operand} {u z : Value} {k : α} {z0 : β} [hx : Ev L x (.map (some b))] [hi : Ev L ix u] [ht : Und P T (.map kt et)] [hm : OwnM b α β kv vv m s] [hk : KeyT P kt α kv] [hu : Kvt kv u k] [hz : Zr P et z] [hv : Vvt vv z z0] [hs : Seg R Γ s] :
    Y P R L Γ (.lookup T x ix false) (vv ((mget m k).getD z0)) := by
  have e := hu.out
  subst e
  cases hg : mget m k with
  | some v => exact y_lookS (kt := kt) (et := et) hm.out hg
  | none => rw [Option.getD_none, hv.out]; exact y_lookN (kt := kt) (et := et) hm.out hg
/-! ### loops and cuts -/
section
variable {P : Program} {C : Cx} {R : List Hp} {n : Nat} {Q : Exit → Act → World → Prop} {L : Env} {Γ : List Hp}
theorem zip_lookup_append : ∀ {ts us : List Nat} {vs ws : List Value}, ts.length = vs.length → ∀ t, ((ts ++ us).zip (vs ++ ws)).lookup t = ((ts.zip vs).lookup t).or ((us.zip ws).lookup t) := by
  intro ts us vs ws h t
  rw [List.zip_append h]
  induction ts generalizing vs with
  | nil => simp
  | cons a ts ih => cases vs with
    | nil => simp at h
    | cons b vs =>
      simp only [List.zip_cons_cons, List.cons_append, List.lookup]
      cases t == a with
      | true => simp
      | false => exact ih (by simpa using h)
theorem Get.append {ts us : List Nat} {vs ws : List Value} (h1 : Get L ts vs) (h2 : Get L us ws) : Get L (ts ++ us) (vs ++ ws) := ⟨by simp [h1.out.1, h2.out.1], fun t v h => by
  rw [zip_lookup_append h1.out.1] at h
  cases h3 : (ts.zip vs).lookup t with
  | some x => rw [h3] at h; simp at h; exact h ▸ h1.out.2 t x h3
  | none => rw [h3] at h; simp at h; exact h2.out.2 t v h⟩
theorem zipE_append : ∀ {ts us : List Nat} {vs ws : List Value}, ts.length = vs.length → zipE (ts ++ us) (vs ++ ws) = zipE ts vs ++ zipE us ws := by
  intro ts us vs ws h
  rw [zipE_eq, zipE_eq, zipE_eq, List.zip_append h]
/-- a loop: tc are the slots that it changes, tu those that it leaves; Γs is the memory that it changes -/
theorem v_lp (tc tu : List Nat) {α : Type} (vals : α → List Value) (Γs : α → List Hp) (ok : α → Prop) (μ : α → Nat) (x0 : α) {vs us : List Value} {Γd : List Hp} {body : Code} [hg : Get L tc vs] [hu : Get L tu us] (hl : ∀ x, tc.length = (vals x).length) (hv : vs = vals x0) (hp : Pick Γ (Γs x0) Γd) (h0 : ok x0)
    (round' : ∀ x, ok x → VK C R n (zipE tc (vals x) ++ zipE tu us) (Γs x ++ Γd) (KC P body (Exit.then (Again C R n (tc ++ tu) (fun x => vals x ++ us) (fun x => Γs x ++ Γd) ok μ (μ x)) Q))) : VK C R n L Γ (KC P (.loop body) Q) :=
  v_loop (hg := hg.append hu) (tc ++ tu) (fun x => vals x ++ us) (fun x => Γs x ++ Γd) ok μ x0 (by rw [hv]) (Γd := []) ⟨by simpa using hp.out⟩ h0 (fun x hx => zipE_append (hl x) ▸ round' x hx)
/-- a cut -/
theorem v_ct (tc tu : List Nat) {x y : Code} {α : Type} (vals : α → List Value) (Γs : α → List Hp) (ok : α → Prop) {us : List Value} [hu : Get L tu us] (hl : ∀ x, tc.length = (vals x).length) (h1 : VK C R n L Γ (KC P x (Exit.then (Cut C R n (tc ++ tu) (fun x => vals x ++ us) Γs ok) Q)))
    (h2 : ∀ x, ok x → VK C R n (zipE tc (vals x) ++ zipE tu us) (Γs x) (KC P y Q)) : VK C R n L Γ (KC P (.seq x y) Q) := v_cut (tc ++ tu) (fun x => vals x ++ us) Γs ok h1 (fun x hx => zipE_append (hl x) ▸ h2 x hx)
/-- this piece of code is the block, the loop, the choice that is looked for -/
class IsB (id : Nat) (c : Code) : Prop
instance isB1 {id : Nat} {c : Code} : IsB id (.block id c) := ⟨⟩
instance isB2 {id j : Nat} {ops : Array Oper} {d : Bool} {c : Code} [h : IsB id c] : IsB id (.seq (.region j ops d) c) := ⟨⟩
class IsR (id : Nat) (c : Code) : Prop
instance isR1 {id : Nat} {ops : Array Oper} {d : Bool} : IsR id (.region id ops d) := ⟨⟩
class IsI (t : Nat) (c : Code) : Prop
instance isI1 {t : Nat} {x y : Code} : IsI t (.cond (.tmp t) x y) := ⟨⟩
instance isI2 {t j : Nat} {ops : Array Oper} {d : Bool} {c : Code} [h : IsI t c] : IsI t (.seq (.region j ops d) c) := ⟨⟩
theorem v_ctB (id : Nat) (tc tu : List Nat) {x y : Code} [hb : IsB id x] {α : Type} (vals : α → List Value) (Γs : α → List Hp) (ok : α → Prop) {us : List Value} [hu : Get L tu us] (hl : ∀ x, tc.length = (vals x).length) (h1 : VK C R n L Γ (KC P x (Exit.then (Cut C R n (tc ++ tu) (fun x => vals x ++ us) Γs ok) Q)))
    (h2 : ∀ x, ok x → VK C R n (zipE tc (vals x) ++ zipE tu us) (Γs x) (KC P y Q)) : VK C R n L Γ (KC P (.seq x y) Q) := v_ct tc tu vals Γs ok hl h1 h2
theorem v_ctR (id : Nat) (tc tu : List Nat) {x y : Code} [hb : IsR id x] {α : Type} (vals : α → List Value) (Γs : α → List Hp) (ok : α → Prop) {us : List Value} [hu : Get L tu us] (hl : ∀ x, tc.length = (vals x).length) (h1 : VK C R n L Γ (KC P x (Exit.then (Cut C R n (tc ++ tu) (fun x => vals x ++ us) Γs ok) Q)))
    (h2 : ∀ x, ok x → VK C R n (zipE tc (vals x) ++ zipE tu us) (Γs x) (KC P y Q)) : VK C R n L Γ (KC P (.seq x y) Q) := v_ct tc tu vals Γs ok hl h1 h2
theorem v_ctI (t : Nat) (tc tu : List Nat) {x y : Code} [hb : IsI t x] {α : Type} (vals : α → List Value) (Γs : α → List Hp) (ok : α → Prop) {us : List Value} [hu : Get L tu us] (hl : ∀ x, tc.length = (vals x).length) (h1 : VK C R n L Γ (KC P x (Exit.then (Cut C R n (tc ++ tu) (fun x => vals x ++ us) Γs ok) Q)))
    (h2 : ∀ x, ok x → VK C R n (zipE tc (vals x) ++ zipE tu us) (Γs x) (KC P y Q)) : VK C R n L Γ (KC P (.seq x y) Q) := v_ct tc tu vals Γs ok hl h1 h2
/-- a place where the steps stop -/
def Stopped (p : Prop) : Prop := p
theorem Stopped.go {p : Prop} (h : p) : Stopped p := h
theorem stopB (P : Program) (id : Nat) {C : Cx} {R : List Hp} {n : Nat} {Q : Exit → Act → World → Prop} {L : Env} {Γ : List Hp} {x y : Code} [IsB id x] : St C R n L Γ (KC P (.seq x y) Q) (Stopped (VK C R n L Γ (KC P (.seq x y) Q))) := ⟨fun h => h⟩
theorem stopR (P : Program) (id : Nat) {C : Cx} {R : List Hp} {n : Nat} {Q : Exit → Act → World → Prop} {L : Env} {Γ : List Hp} {x y : Code} [IsR id x] : St C R n L Γ (KC P (.seq x y) Q) (Stopped (VK C R n L Γ (KC P (.seq x y) Q))) := ⟨fun h => h⟩
theorem stopI (P : Program) (t : Nat) {C : Cx} {R : List Hp} {n : Nat} {Q : Exit → Act → World → Prop} {L : Env} {Γ : List Hp} {x y : Code} [IsI t x] : St C R n L Γ (KC P (.seq x y) Q) (Stopped (VK C R n L Γ (KC P (.seq x y) Q))) := ⟨fun h => h⟩
end
attribute [irreducible] Stopped
end Go.SX
