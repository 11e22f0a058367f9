/- Texts in one: what the law's walk needs, part 5: contracts by symbolic execution; no condition. -/
import Derived.Lib.SlicesDelete
import Derived.Shelf.SlIterI.Nil
import Derived.Shelf.SortM.Plain
import Derived.Shelf.SortM.SortNone
import Derived.Ground.GgzProg
import Derived.Ground.SlgmProg
import Derived.Test.YtdfoijfjlhjeaaaGreatProg
import Derived.Test.YtdfoijfjlhjeaaaGreatRows
import Derived.Test.YtdfoijfjlhjeaaaGreatJd
set_option linter.unusedSimpArgs false
set_option linter.unusedVariables false
/- spy.pot: its steps, one by one. -/
namespace Go.Proofs.YtdfoijfjlhjeaaaGreat
open Go Go.SX Go.RowKit
set_option maxRecDepth 100000
set_option maxHeartbeats 0
set_option synthInstance.maxSize 100000
set_option synthInstance.maxHeartbeats 400000
structure CookM where
  Kind : Int
  N : Int
  M : Int
  Box : ApiBox
  Text : List UInt8
abbrev ckC (c : CookM) : Array Value := #[.int .i64 c.Kind, .int .i64 c.N, .int .i64 c.M, .int .i64 c.Box.Under.Base, .int .i64 c.Box.Under.Step, .int .i64 c.Box.Load.Base, .int .i64 c.Box.Load.Step, str c.Text]
abbrev ckV (c : CookM) : Value := .agg (ckC c)
abbrev potC (sv : Value) (k e : Int) (v1 v2 v3 : Value) (q1 q2 : Int) (a b c : Int) (x y z : ApiBox) (f : Int) (u : ApiKey) (t : List UInt8) : Array Value :=
  #[sv, .int .i64 k, .int .i64 e, v1, v2, v3, .int .i64 q1, .int .i64 q2, .int .i64 a, .int .i64 b, .int .i64 c, .int .i64 x.Under.Base, .int .i64 x.Under.Step, .int .i64 x.Load.Base, .int .i64 x.Load.Step, .int .i64 y.Under.Base, .int .i64 y.Under.Step, .int .i64 y.Load.Base, .int .i64 y.Load.Step, .int .i64 z.Under.Base, .int .i64 z.Under.Step, .int .i64 z.Load.Base, .int .i64 z.Load.Step, .int .i64 f, .int .i64 u.Base, .int .i64 u.Step, str t]
/-- the pot at b holds the message m -/
def PotA (b : Nat) (sv : Value) (m : MsgM) (Γ : List Hp) : Prop := ∃ v1 s1 v2 s2 v3 s3 x y z, m.Reply.Path = [x, y, z] ∧ OwnS v1 162 ApiSeat 2 cvApiSeat m.Rekey.Leaves s1 ∧ OwnS v2 162 ApiSeat 2 cvApiSeat m.Rekey.Joins s2 ∧ OwnS v3 62 ApiItem 6 cvApiItem m.Rekey.Items s3 ∧
  Γ = [[(b, .cells (potC sv m.Kind m.Rekey.Epoch v1 v2 v3 m.Who m.Epoch m.Reply.Who m.Reply.Slot m.Reply.Epoch x y z m.Sealed.Epoch m.Sealed.Under m.Sealed.Text) 77 (0, 0))], s1, s2, s3]
/-- how much a message holds -/
structure MsgB (m : MsgM) (n : Nat) : Prop where
  h1 : m.Rekey.Leaves.length ≤ n
  h2 : m.Rekey.Joins.length ≤ n
  h3 : m.Rekey.Items.length ≤ n
/-- what a step comes to -/
inductive St1 where
  | ok (m : MsgM)
  | err (e : Int)
def PotS (f : FuncId) (g : MsgM → CookM → St1) : Prop := ∀ (b : Nat) (sv : Value) (m : MsgM) (c : CookM) (Γ : List Hp), PotA b sv m Γ → MsgB m 1099511627776 → SX.Spec Tryz.prog f #[pt b, ckV c] [] Γ fun v Γ' =>
  (∃ m', g m c = .ok m' ∧ v = .int .i64 0 ∧ PotA b sv m' Γ') ∨ (∃ e, g m c = .err e ∧ e ≠ 0 ∧ v = .int .i64 e ∧ PotA b sv m Γ')
def setEp (m : MsgM) (n : Int) : MsgM := if m.Kind = 1 then { m with Rekey := { m.Rekey with Epoch := n } } else if m.Kind = 2 then { m with Epoch := n } else if m.Kind = 3 then { m with Reply := { m.Reply with Epoch := n } } else if m.Kind = 4 then { m with Sealed := { m.Sealed with Epoch := n } } else m
def gEp (m : MsgM) (c : CookM) : St1 := .ok (setEp m c.N)
theorem pepoch_s : PotS 103 gEp := by
  rintro pb pv ⟨k, ⟨e, l1, l2, l3⟩, q1, q2, ⟨a, b, c, p⟩, ⟨f, u, t⟩⟩ ⟨ck, cn, cm, cb, ct⟩ Γ ⟨v1, s1, v2, s2, v3, s3, x, y, z, hp, o1, o2, o3, rfl⟩ ⟨hb1, hb2, hb3⟩; dsimp only [ckV, ckC] at hp o1 o2 o3 hb1 hb2 hb3 ⊢; subst hp
  refine spec_of2 Tryz.func103 Tryz.ntmps103 rfl rfl (fun M w0 => ?_)
  repeat' (first | refine stp ?_|refine v_spD (fun hc=>?_) (fun hc=>?_)|refine v_box (fun bb=>?_)|fail)
  · refine v_o1 Tryz.results103 (.inl ⟨⟨k, ⟨cn, l1, l2, l3⟩, q1, q2, ⟨a, b, c, [x, y, z]⟩, ⟨f, u, t⟩⟩, by simp [gEp, setEp, hc], rfl, v1, s1, v2, s2, v3, s3, x, y, z, rfl, o1, o2, o3, rfl⟩) ⟨_, inferInstance⟩
  · refine v_o1 Tryz.results103 (.inl ⟨⟨k, ⟨e, l1, l2, l3⟩, q1, cn, ⟨a, b, c, [x, y, z]⟩, ⟨f, u, t⟩⟩, by simp [gEp, setEp, hc], rfl, v1, s1, v2, s2, v3, s3, x, y, z, rfl, o1, o2, o3, rfl⟩) ⟨_, inferInstance⟩
  · refine v_o1 Tryz.results103 (.inl ⟨⟨k, ⟨e, l1, l2, l3⟩, q1, q2, ⟨a, b, cn, [x, y, z]⟩, ⟨f, u, t⟩⟩, by simp [gEp, setEp, hc], rfl, v1, s1, v2, s2, v3, s3, x, y, z, rfl, o1, o2, o3, rfl⟩) ⟨_, inferInstance⟩
  · refine v_o1 Tryz.results103 (.inl ⟨⟨k, ⟨e, l1, l2, l3⟩, q1, q2, ⟨a, b, c, [x, y, z]⟩, ⟨cn, u, t⟩⟩, by simp [gEp, setEp, hc], rfl, v1, s1, v2, s2, v3, s3, x, y, z, rfl, o1, o2, o3, rfl⟩) ⟨_, inferInstance⟩
  · refine v_o1 Tryz.results103 (.inl ⟨⟨k, ⟨e, l1, l2, l3⟩, q1, q2, ⟨a, b, c, [x, y, z]⟩, ⟨f, u, t⟩⟩, by simp [gEp, setEp, *], rfl, v1, s1, v2, s2, v3, s3, x, y, z, rfl, o1, o2, o3, rfl⟩) ⟨_, inferInstance⟩
def gAsker (m : MsgM) (c : CookM) : St1 := .ok { m with Who := c.N, Epoch := c.M }
theorem pasker_s : PotS 104 gAsker := by
  rintro pb pv ⟨k, ⟨e, l1, l2, l3⟩, q1, q2, ⟨a, b, c, p⟩, ⟨f, u, t⟩⟩ ⟨ck, cn, cm, cb, ct⟩ Γ ⟨v1, s1, v2, s2, v3, s3, x, y, z, hp, o1, o2, o3, rfl⟩ ⟨hb1, hb2, hb3⟩; dsimp only [ckV, ckC] at hp o1 o2 o3 hb1 hb2 hb3 ⊢; subst hp
  refine spec_of2 Tryz.func104 Tryz.ntmps104 rfl rfl (fun M w0 => ?_)
  repeat' (first | refine stp ?_|refine v_box (fun bb=>?_)|fail)
  refine v_o1 Tryz.results104 (.inl ⟨_, rfl, rfl, v1, s1, v2, s2, v3, s3, x, y, z, rfl, o1, o2, o3, rfl⟩) ⟨_, inferInstance⟩
def gAsked (m : MsgM) (c : CookM) : St1 := .ok { m with Reply := { m.Reply with Who := c.N, Slot := c.M } }
theorem pasked_s : PotS 105 gAsked := by
  rintro pb pv ⟨k, ⟨e, l1, l2, l3⟩, q1, q2, ⟨a, b, c, p⟩, ⟨f, u, t⟩⟩ ⟨ck, cn, cm, cb, ct⟩ Γ ⟨v1, s1, v2, s2, v3, s3, x, y, z, hp, o1, o2, o3, rfl⟩ ⟨hb1, hb2, hb3⟩; dsimp only [ckV, ckC] at hp o1 o2 o3 hb1 hb2 hb3 ⊢; subst hp
  refine spec_of2 Tryz.func105 Tryz.ntmps105 rfl rfl (fun M w0 => ?_)
  repeat' (first | refine stp ?_|refine v_box (fun bb=>?_)|refine ⟨?_,?_,?_⟩|refine ⟨?_,?_⟩|fail)
  refine v_drawn (id:=1) 10 pl105_1 [[(bb, .cells #[.int .i64 ck, .int .i64 cn, .int .i64 cm, .int .i64 cb.Under.Base, .int .i64 cb.Under.Step, .int .i64 cb.Load.Base, .int .i64 cb.Load.Step, str ct] 32 (0, 0))]] [] (by kernel_rfl) ?_
  repeat' (first | refine stp ?_|refine v_box (fun bb=>?_)|refine ⟨?_,?_,?_⟩|refine ⟨?_,?_⟩|refine v_drawnK (id:=1) 10 pl105_1 (by kernel_rfl) ?_|fail)
  refine v_o1 Tryz.results105 (.inl ⟨_, rfl, rfl, v1, s1, v2, s2, v3, s3, x, y, z, rfl, o1, o2, o3, rfl⟩) ⟨_, inferInstance⟩
def gText (m : MsgM) (c : CookM) : St1 := .ok { m with Sealed := { m.Sealed with Text := c.Text, Under := c.Box.Under } }
theorem ptext_s : PotS 113 gText := by
  rintro pb pv ⟨k, ⟨e, l1, l2, l3⟩, q1, q2, ⟨a, b, c, p⟩, ⟨f, u, t⟩⟩ ⟨ck, cn, cm, cb, ct⟩ Γ ⟨v1, s1, v2, s2, v3, s3, x, y, z, hp, o1, o2, o3, rfl⟩ ⟨hb1, hb2, hb3⟩; dsimp only [ckV, ckC] at hp o1 o2 o3 hb1 hb2 hb3 ⊢; subst hp
  refine spec_of2 Tryz.func113 Tryz.ntmps113 rfl rfl (fun M w0 => ?_)
  repeat' (first | refine stp ?_|refine v_box (fun bb=>?_)|refine ⟨?_,?_,?_⟩|refine ⟨?_,?_⟩|fail)
  refine v_drawn (id:=1) 11 pl113_1 [[(bb, .cells #[.int .i64 ck, .int .i64 cn, .int .i64 cm, .int .i64 cb.Under.Base, .int .i64 cb.Under.Step, .int .i64 cb.Load.Base, .int .i64 cb.Load.Step, str ct] 32 (0, 0))]] [] (by kernel_rfl) ?_
  repeat' (first | refine stp ?_|refine v_box (fun bb=>?_)|refine ⟨?_,?_,?_⟩|refine ⟨?_,?_⟩|refine v_drawnK (id:=1) 11 pl113_1 (by kernel_rfl) ?_|fail)
  refine v_o1 Tryz.results113 (.inl ⟨_, rfl, rfl, v1, s1, v2, s2, v3, s3, x, y, z, rfl, o1, o2, o3, rfl⟩) ⟨_, inferInstance⟩
def inL (n : Int) (l : Nat) : Prop := 0 ≤ n ∧ n < l
instance (n : Int) (l : Nat) : Decidable (inL n l) := by unfold inL; infer_instance
instance in_pc (n : Int) (l : Int) : PC Tryz.prog 142 #[.int .i64 n, .int .i64 l] (.bool (decide (0 ≤ n ∧ n < l))) := ⟨by
  refine spec_of2 Tryz.func142 Tryz.ntmps142 rfl rfl (fun M w0 => ?_)
  repeat' (first | refine stp ?_|refine v_spD (fun hc=>?_) (fun hc=>?_)|fail)
  all_goals refine v_out1 (Γk := []) Tryz.results142 ⟨?_, rfl⟩
  all_goals first | (refine bD ?_; omega) | (refine bF ?_; omega) | (refine bT ?_; omega)⟩
def gItem (m : MsgM) (c : CookM) : St1 := .ok { m with Rekey := { m.Rekey with Items := m.Rekey.Items ++ [⟨c.N, c.M, c.Box⟩] } }
theorem pitem_s : PotS 108 gItem := by
  rintro pb pv ⟨k, ⟨e, l1, l2, l3⟩, q1, q2, ⟨a, b, c, p⟩, ⟨f, u, t⟩⟩ ⟨ck, cn, cm, cb, ct⟩ Γ ⟨v1, s1, v2, s2, v3, s3, x, y, z, hp, o1, o2, o3, rfl⟩ ⟨hb1, hb2, hb3⟩; dsimp only [ckV, ckC] at hp o1 o2 o3 hb1 hb2 hb3 ⊢; subst hp
  have hle := AtS.le (ownAt (h := o3))
  refine spec_of2 Tryz.func108 Tryz.ntmps108 rfl rfl (fun M w0 => ?_)
  repeat' (first | refine stp ?_|refine v_box (fun bb=>?_)|refine v_lit (fun bl=>?_)|(refine v_push ?_ (fun sv ss hs hln=>?_);omega)|refine ⟨?_,?_,?_⟩|refine ⟨?_,?_⟩|refine v_tValT (by decide +kernel) ?_|fail)
  refine v_drawnE (id:=1) 20 plE108_1 [s3] (by kernel_rfl) ?_
  repeat' (first | refine stp ?_|refine v_box (fun bb=>?_)|refine v_lit (fun bl=>?_)|(refine v_push ?_ (fun sv ss hs hln=>?_);omega)|refine ⟨?_,?_,?_⟩|refine ⟨?_,?_⟩|refine v_tValT (by decide +kernel) ?_|fail)
  have hs' : OwnS sv 62 ApiItem 6 cvApiItem (l3 ++ [⟨cn, cm, cb⟩]) ss := hs
  refine v_o1 Tryz.results108 (.inl ⟨_, rfl, rfl, v1, s1, v2, s2, sv, ss, x, y, z, rfl, o1, o2, hs', rfl⟩) ⟨_, inferInstance⟩
def gLeave (m : MsgM) (c : CookM) : St1 := .ok { m with Rekey := { m.Rekey with Leaves := m.Rekey.Leaves ++ [⟨c.N, c.M⟩] } }
theorem pleave_s : PotS 111 gLeave := by
  rintro pb pv ⟨k, ⟨e, l1, l2, l3⟩, q1, q2, ⟨a, b, c, p⟩, ⟨f, u, t⟩⟩ ⟨ck, cn, cm, cb, ct⟩ Γ ⟨v1, s1, v2, s2, v3, s3, x, y, z, hp, o1, o2, o3, rfl⟩ ⟨hb1, hb2, hb3⟩; dsimp only [ckV, ckC] at hp o1 o2 o3 hb1 hb2 hb3 ⊢; subst hp
  refine spec_of2 Tryz.func111 Tryz.ntmps111 rfl rfl (fun M w0 => ?_)
  repeat' (first | refine stp ?_|refine v_box (fun bb=>?_)|refine v_lit (fun bl=>?_)|(refine v_push ?_ (fun sv ss hs hln=>?_);omega)|refine ⟨?_,?_,?_⟩|refine ⟨?_,?_⟩|refine v_tValT (by decide +kernel) ?_|fail)
  refine v_drawnE (id:=1) 18 plE111_1 [s1] (by kernel_rfl) ?_
  repeat' (first | refine stp ?_|refine v_box (fun bb=>?_)|refine v_lit (fun bl=>?_)|(refine v_push ?_ (fun sv ss hs hln=>?_);omega)|refine ⟨?_,?_,?_⟩|refine ⟨?_,?_⟩|refine v_tValT (by decide +kernel) ?_|fail)
  have hs' : OwnS sv 162 ApiSeat 2 cvApiSeat (l1 ++ [⟨cn, cm⟩]) ss := hs
  refine v_o1 Tryz.results111 (.inl ⟨_, rfl, rfl, sv, ss, v2, s2, v3, s3, x, y, z, rfl, hs', o2, o3, rfl⟩) ⟨_, inferInstance⟩
def gJoin (m : MsgM) (c : CookM) : St1 := .ok { m with Rekey := { m.Rekey with Joins := m.Rekey.Joins ++ [⟨c.N, c.M⟩] } }
theorem pjoin_s : PotS 112 gJoin := by
  rintro pb pv ⟨k, ⟨e, l1, l2, l3⟩, q1, q2, ⟨a, b, c, p⟩, ⟨f, u, t⟩⟩ ⟨ck, cn, cm, cb, ct⟩ Γ ⟨v1, s1, v2, s2, v3, s3, x, y, z, hp, o1, o2, o3, rfl⟩ ⟨hb1, hb2, hb3⟩; dsimp only [ckV, ckC] at hp o1 o2 o3 hb1 hb2 hb3 ⊢; subst hp
  refine spec_of2 Tryz.func112 Tryz.ntmps112 rfl rfl (fun M w0 => ?_)
  repeat' (first | refine stp ?_|refine v_box (fun bb=>?_)|refine v_lit (fun bl=>?_)|(refine v_push ?_ (fun sv ss hs hln=>?_);omega)|refine ⟨?_,?_,?_⟩|refine ⟨?_,?_⟩|refine v_tValT (by decide +kernel) ?_|fail)
  refine v_drawnE (id:=1) 18 plE112_1 [s2] (by kernel_rfl) ?_
  repeat' (first | refine stp ?_|refine v_box (fun bb=>?_)|refine v_lit (fun bl=>?_)|(refine v_push ?_ (fun sv ss hs hln=>?_);omega)|refine ⟨?_,?_,?_⟩|refine ⟨?_,?_⟩|refine v_tValT (by decide +kernel) ?_|fail)
  have hs' : OwnS sv 162 ApiSeat 2 cvApiSeat (l2 ++ [⟨cn, cm⟩]) ss := hs
  refine v_o1 Tryz.results112 (.inl ⟨_, rfl, rfl, v1, s1, sv, ss, v3, s3, x, y, z, rfl, o1, hs', o3, rfl⟩) ⟨_, inferInstance⟩
def gItemBox (m : MsgM) (c : CookM) : St1 := if h : 0 ≤ c.N ∧ c.N < m.Rekey.Items.length then .ok { m with Rekey := { m.Rekey with Items := m.Rekey.Items.set c.N.toNat { m.Rekey.Items[c.N.toNat]'(by omega) with Box := c.Box } } } else .err 23
theorem pitemBox_s : PotS 109 gItemBox := by
  rintro pb pv ⟨k, ⟨e, l1, l2, l3⟩, q1, q2, ⟨a, b, c, p⟩, ⟨f, u, t⟩⟩ ⟨ck, cn, cm, cb, ct⟩ Γ ⟨v1, s1, v2, s2, v3, s3, x, y, z, hp, o1, o2, o3, rfl⟩ ⟨hb1, hb2, hb3⟩; dsimp only [ckV, ckC] at hp o1 o2 o3 hb1 hb2 hb3 ⊢; subst hp
  refine spec_of2 Tryz.func109 Tryz.ntmps109 rfl rfl (fun M w0 => ?_)
  repeat' (first | refine stp ?_|refine v_spD (fun hc=>?_) (fun hc=>?_)|refine v_box (fun bb=>?_)|refine ⟨?_,?_,?_⟩|refine ⟨?_,?_⟩|(refine v_tyc ?_ ?_;omega)|refine v_tValT (by decide +kernel) ?_|refine v_drawn0 (id:=1) pl109_1 (by kernel_rfl) ?_|refine v_drawnK (id:=3) 12 pl109_3 (by kernel_rfl) ?_|fail)
  · refine v_o1 Tryz.results109 (.inr ⟨_, dif_neg hc, (by decide), rfl, v1, s1, v2, s2, v3, s3, x, y, z, rfl, o1, o2, o3, rfl⟩) ⟨_, inferInstance⟩
  · have hc' := Decidable.not_not.1 hc
    have hlt : cn.toNat < l3.length := by omega
    refine v_setF (z := ⟨l3[cn.toNat].Node, l3[cn.toNat].From, cb⟩) hlt rfl (by show 2 + 4 ≤ 6; decide) ⟨rfl⟩ ?_
    intro ss hs hln
    repeat' (first | refine stp ?_|refine v_spD (fun hc=>?_) (fun hc=>?_)|refine v_box (fun bb=>?_)|refine ⟨?_,?_,?_⟩|refine ⟨?_,?_⟩|(refine v_tyc ?_ ?_;omega)|refine v_tValT (by decide +kernel) ?_|refine v_drawn0 (id:=1) pl109_1 (by kernel_rfl) ?_|refine v_drawnK (id:=3) 12 pl109_3 (by kernel_rfl) ?_|fail)
    refine v_o1 Tryz.results109 (.inl ⟨⟨k, ⟨e, l1, l2, l3.set cn.toNat ⟨l3[cn.toNat].Node, l3[cn.toNat].From, cb⟩⟩, q1, q2, ⟨a, b, c, [x, y, z]⟩, ⟨f, u, t⟩⟩, dif_pos hc', rfl, v1, s1, v2, s2, v3, ss, x, y, z, rfl, o1, o2, hs, rfl⟩) ⟨_, inferInstance⟩
def gSwap (m : MsgM) (c : CookM) : St1 := if h : (0 ≤ c.N ∧ c.N < m.Rekey.Items.length) ∧ (0 ≤ c.M ∧ c.M < m.Rekey.Items.length) then .ok { m with Rekey := { m.Rekey with Items := (m.Rekey.Items.set c.N.toNat (m.Rekey.Items[c.M.toNat]'(by omega))).set c.M.toNat (m.Rekey.Items[c.N.toNat]'(by omega)) } } else .err 23
theorem pswap_s : PotS 107 gSwap := by
  rintro pb pv ⟨k, ⟨e, l1, l2, l3⟩, q1, q2, ⟨a, b, c, p⟩, ⟨f, u, t⟩⟩ ⟨ck, cn, cm, cb, ct⟩ Γ ⟨v1, s1, v2, s2, v3, s3, x, y, z, hp, o1, o2, o3, rfl⟩ ⟨hb1, hb2, hb3⟩; dsimp only [ckV, ckC] at hp o1 o2 o3 hb1 hb2 hb3 ⊢; subst hp
  refine spec_of2 Tryz.func107 Tryz.ntmps107 rfl rfl (fun M w0 => ?_)
  repeat' (first | refine stp ?_|refine v_spD (fun hc=>?_) (fun hc=>?_)|(refine v_yc ?_ ?_;omega)|refine v_box (fun bb=>?_)|(refine v_set ?_ (fun ss hs hln=>?_);omega)|refine ⟨?_,?_,?_⟩|refine ⟨?_,?_⟩|(refine v_tyc ?_ ?_;omega)|(refine v_tycT (by decide +kernel) ?_ ?_;omega)|fail)
  · refine v_o1 Tryz.results107 (.inr ⟨_, dif_neg (fun h => hc h.1), (by decide), rfl, v1, s1, v2, s2, v3, s3, x, y, z, rfl, o1, o2, o3, rfl⟩) ⟨_, inferInstance⟩
  · refine v_o1 Tryz.results107 (.inr ⟨_, dif_neg (fun h => hc h.2), (by decide), rfl, v1, s1, v2, s2, v3, s3, x, y, z, rfl, o1, o2, o3, rfl⟩) ⟨_, inferInstance⟩
  · rename_i h1
    have hc1 := Decidable.not_not.1 h1
    have hc2 := Decidable.not_not.1 hc
    refine v_drawn (id:=4) 17 pl107_4 [[(bb, .cells #[.int .i64 ck, .int .i64 cn, .int .i64 cm, .int .i64 cb.Under.Base, .int .i64 cb.Under.Step, .int .i64 cb.Load.Base, .int .i64 cb.Load.Step, str ct] 32 (0, 0))]] [s3] (by kernel_rfl) ?_
    repeat' (first | refine stp ?_|refine v_spD (fun hc=>?_) (fun hc=>?_)|(refine v_yc ?_ ?_;omega)|refine v_box (fun bb=>?_)|(refine v_set ?_ (fun ss hs hln=>?_);omega)|refine ⟨?_,?_,?_⟩|refine ⟨?_,?_⟩|(refine v_tyc ?_ ?_;omega)|(refine v_tycT (by decide +kernel) ?_ ?_;omega)|refine v_drawnK (id:=4) 17 pl107_4 (by kernel_rfl) ?_|fail)
    refine v_o1 Tryz.results107 (.inl ⟨⟨k, ⟨e, l1, l2, (l3.set cn.toNat (l3[cm.toNat]'(by omega))).set cm.toNat (l3[cn.toNat]'(by omega))⟩, q1, q2, ⟨a, b, c, [x, y, z]⟩, ⟨f, u, t⟩⟩, dif_pos ⟨hc1, hc2⟩, rfl, v1, s1, v2, s2, v3, ss, x, y, z, rfl, o1, o2, hs, rfl⟩) ⟨_, inferInstance⟩
def gPathBox (m : MsgM) (c : CookM) : St1 := if 0 ≤ c.N ∧ c.N < 3 then .ok { m with Reply := { m.Reply with Path := m.Reply.Path.set c.N.toNat c.Box } } else .err 23
theorem ppathBox_s : PotS 110 gPathBox := by
  rintro pb pv ⟨k, ⟨e, l1, l2, l3⟩, q1, q2, ⟨a, b, c, p⟩, ⟨f, u, t⟩⟩ ⟨ck, cn, cm, cb, ct⟩ Γ ⟨v1, s1, v2, s2, v3, s3, x, y, z, hp, o1, o2, o3, rfl⟩ ⟨hb1, hb2, hb3⟩; dsimp only [ckV, ckC] at hp o1 o2 o3 hb1 hb2 hb3 ⊢; subst hp
  refine spec_of2 Tryz.func110 Tryz.ntmps110 rfl rfl (fun M w0 => ?_)
  repeat' (first | refine stp ?_|refine v_spD (fun hc=>?_) (fun hc=>?_)|refine v_box (fun bb=>?_)|refine ⟨?_,?_,?_⟩|refine ⟨?_,?_⟩|(refine v_tyc ?_ ?_;omega)|refine v_tValT (by decide +kernel) ?_|refine v_drawnK (id:=3) 10 pl110_3 (by kernel_rfl) ?_|fail)
  · refine v_o1 Tryz.results110 (.inr ⟨_, if_neg hc, (by decide), rfl, v1, s1, v2, s2, v3, s3, x, y, z, rfl, o1, o2, o3, rfl⟩) ⟨_, inferInstance⟩
  · have hc' := Decidable.not_not.1 hc
    have h3 : cn = 0 ∨ cn = 1 ∨ cn = 2 := by omega
    rcases h3 with rfl | rfl | rfl
    · rw [show 1 + 7 + 3 + Int.toNat 0 * 4 = 11 from rfl]
      repeat' (first | refine stp ?_|refine v_spD (fun hc=>?_) (fun hc=>?_)|refine v_box (fun bb=>?_)|refine ⟨?_,?_,?_⟩|refine ⟨?_,?_⟩|(refine v_tyc ?_ ?_;omega)|refine v_tValT (by decide +kernel) ?_|refine v_drawnK (id:=3) 10 pl110_3 (by kernel_rfl) ?_|fail)
      refine v_o1 Tryz.results110 (.inl ⟨⟨k, ⟨e, l1, l2, l3⟩, q1, q2, ⟨a, b, c, [cb, y, z]⟩, ⟨f, u, t⟩⟩, if_pos hc', rfl, v1, s1, v2, s2, v3, s3, cb, y, z, rfl, o1, o2, o3, rfl⟩) ⟨_, inferInstance⟩
    · rw [show 1 + 7 + 3 + Int.toNat 1 * 4 = 15 from rfl]
      repeat' (first | refine stp ?_|refine v_spD (fun hc=>?_) (fun hc=>?_)|refine v_box (fun bb=>?_)|refine ⟨?_,?_,?_⟩|refine ⟨?_,?_⟩|(refine v_tyc ?_ ?_;omega)|refine v_tValT (by decide +kernel) ?_|refine v_drawnK (id:=3) 10 pl110_3 (by kernel_rfl) ?_|fail)
      refine v_o1 Tryz.results110 (.inl ⟨⟨k, ⟨e, l1, l2, l3⟩, q1, q2, ⟨a, b, c, [x, cb, z]⟩, ⟨f, u, t⟩⟩, if_pos hc', rfl, v1, s1, v2, s2, v3, s3, x, cb, z, rfl, o1, o2, o3, rfl⟩) ⟨_, inferInstance⟩
    · rw [show 1 + 7 + 3 + Int.toNat 2 * 4 = 19 from rfl]
      repeat' (first | refine stp ?_|refine v_spD (fun hc=>?_) (fun hc=>?_)|refine v_box (fun bb=>?_)|refine ⟨?_,?_,?_⟩|refine ⟨?_,?_⟩|(refine v_tyc ?_ ?_;omega)|refine v_tValT (by decide +kernel) ?_|refine v_drawnK (id:=3) 10 pl110_3 (by kernel_rfl) ?_|fail)
      refine v_o1 Tryz.results110 (.inl ⟨⟨k, ⟨e, l1, l2, l3⟩, q1, q2, ⟨a, b, c, [x, y, cb]⟩, ⟨f, u, t⟩⟩, if_pos hc', rfl, v1, s1, v2, s2, v3, s3, x, y, cb, rfl, o1, o2, o3, rfl⟩) ⟨_, inferInstance⟩
end Go.Proofs.YtdfoijfjlhjeaaaGreat

/- Symbolic execution: slices as they stand in memory, shortened in place: slicing up to the capacity, append in place, clear. Of whatever program. -/
namespace Go.SX
set_option linter.unusedSimpArgs false
set_option linter.unusedVariables false
open Go Go.RowKit
/-- the cells ahead of a part -/
def rs (sz c lo : Nat) : Nat := if c = lo then 0 else lo * sz
section
variable {P : Program} {C : Cx} {R : List Hp} {n : Nat} {all : Array Oper} {Q : Exit → Act → World → Prop} {L : Env} {Γ : List Hp} {e sz b off m c : Nat} {w : World}
theorem sub_eq (sz b off c lo hi k : Nat) : (Value.slice (if k = lo then some (⟨b, off, none⟩ : Addr) else some ⟨b, off + lo * sz, none⟩) hi k) = .slice (some ⟨b, off + (if k = lo then 0 else lo * sz), none⟩) hi k := by
  by_cases h : k = lo <;> simp [h]
instance ycRawB {T : Nat} {x lo hi : Operand} {k k' : IntKind} {i j : Int} [hx : Ev L x (.slice (some ⟨b, off, none⟩) m c)] [hlo : Ev L lo (.int k i)] [hhi : Ev L hi (.int k' j)] [ht : Und P T (.slice e)] [hz : Sz P e sz] :
    YC P R L Γ (.slice T x (some lo) (some hi) none) (0 ≤ i ∧ i ≤ j ∧ j ≤ (c : Int)) (fun _ => .slice (some ⟨b, off + rs sz c i.toNat, none⟩) (j.toNat - i.toNat) (c - i.toNat)) := ⟨fun h => ⟨fun C n a w _ _ _ _ _ kn _ => by
  obtain ⟨h0, h1, h2⟩ := h
  obtain ⟨i, rfl⟩ : ∃ q : Nat, i = q := ⟨i.toNat, by omega⟩
  obtain ⟨j, rfl⟩ : ∃ q : Nat, j = q := ⟨j.toNat, by omega⟩
  have h3 : i ≤ j := by omega
  have h4 : j ≤ c := by omega
  by_cases hc : c = i
  · subst hc
    simp [execOp, Instr.sliceAt, Instr.slice, Instr.sliceBounds, Instr.sliceBound, asIntOf, run_underlying ht.out, hz.out, hx.out n a kn, hlo.out n a kn, hhi.out n a kn, h0, h1, h2, h3, h4, rs]
  · simp [execOp, Instr.sliceAt, Instr.slice, Instr.sliceBounds, Instr.sliceBound, asIntOf, run_underlying ht.out, hz.out, hx.out n a kn, hlo.out n a kn, hhi.out n a kn, h0, h1, h2, h3, h4, rs, hc, add_at]⟩⟩
instance ycRawL {T : Nat} {x lo : Operand} {k : IntKind} {i : Int} [hx : Ev L x (.slice (some ⟨b, off, none⟩) m c)] [hlo : Ev L lo (.int k i)] [ht : Und P T (.slice e)] [hz : Sz P e sz] :
    YC P R L Γ (.slice T x (some lo) none none) (0 ≤ i ∧ i ≤ (m : Int)) (fun _ => .slice (some ⟨b, off + rs sz c i.toNat, none⟩) (m - i.toNat) (c - i.toNat)) := ⟨fun h => ⟨fun C n a w _ _ _ _ _ kn _ => by
  obtain ⟨h0, h1⟩ := h
  obtain ⟨i, rfl⟩ : ∃ q : Nat, i = q := ⟨i.toNat, by omega⟩
  have h3 : i ≤ m := by omega
  by_cases hc : c = i
  · subst hc
    simp [execOp, Instr.sliceAt, Instr.slice, Instr.sliceBounds, Instr.sliceBound, asIntOf, run_underlying ht.out, hz.out, hx.out n a kn, hlo.out n a kn, h0, h1, h3, rs]
  · simp [execOp, Instr.sliceAt, Instr.slice, Instr.sliceBounds, Instr.sliceBound, asIntOf, run_underlying ht.out, hz.out, hx.out n a kn, hlo.out n a kn, h0, h1, h3, rs, hc, add_at]⟩⟩
instance ycRawH {T : Nat} {x hi : Operand} {k' : IntKind} {j : Int} [hx : Ev L x (.slice (some ⟨b, off, none⟩) m c)] [hhi : Ev L hi (.int k' j)] [ht : Und P T (.slice e)] [hz : Sz P e sz] :
    YC P R L Γ (.slice T x none (some hi) none) (0 ≤ j ∧ j ≤ (c : Int)) (fun _ => .slice (some ⟨b, off, none⟩) j.toNat c) := ⟨fun h => ⟨fun C n a w _ _ _ _ _ kn _ => by
  obtain ⟨h0, h1⟩ := h
  obtain ⟨j, rfl⟩ : ∃ q : Nat, j = q := ⟨j.toNat, by omega⟩
  have h3 : j ≤ c := by omega
  simp [execOp, Instr.sliceAt, Instr.slice, Instr.sliceBounds, Instr.sliceBound, asIntOf, run_underlying ht.out, hz.out, hx.out n a kn, hhi.out n a kn, h0, h1, h3, add_at]⟩⟩
instance ycRaw3 {T : Nat} {x lo hi mx : Operand} {k k' k'' : IntKind} {i j q : Int} [hx : Ev L x (.slice (some ⟨b, off, none⟩) m c)] [hlo : Ev L lo (.int k i)] [hhi : Ev L hi (.int k' j)] [hmx : Ev L mx (.int k'' q)] [ht : Und P T (.slice e)] [hz : Sz P e sz] :
    YC P R L Γ (.slice T x (some lo) (some hi) (some mx)) (0 ≤ i ∧ i ≤ j ∧ j ≤ q ∧ q ≤ (c : Int)) (fun _ => .slice (some ⟨b, off + rs sz q.toNat i.toNat, none⟩) (j.toNat - i.toNat) (q.toNat - i.toNat)) := ⟨fun h => ⟨fun C n a w _ _ _ _ _ kn _ => by
  obtain ⟨h0, h1, h2, h5⟩ := h
  obtain ⟨i, rfl⟩ : ∃ q : Nat, i = q := ⟨i.toNat, by omega⟩
  obtain ⟨j, rfl⟩ : ∃ q : Nat, j = q := ⟨j.toNat, by omega⟩
  obtain ⟨q, rfl⟩ : ∃ r : Nat, q = r := ⟨q.toNat, by omega⟩
  have h3 : i ≤ j := by omega
  have h4 : j ≤ q := by omega
  have h6 : q ≤ c := by omega
  by_cases hc : q = i
  · subst hc
    simp [execOp, Instr.sliceAt, Instr.slice, Instr.sliceBounds, Instr.sliceBound, asIntOf, run_underlying ht.out, hz.out, hx.out n a kn, hlo.out n a kn, hhi.out n a kn, hmx.out n a kn, h0, h1, h2, h3, h4, h6, rs]
  · simp [execOp, Instr.sliceAt, Instr.slice, Instr.sliceBounds, Instr.sliceBound, asIntOf, run_underlying ht.out, hz.out, hx.out n a kn, hlo.out n a kn, hhi.out n a kn, hmx.out n a kn, h0, h1, h2, h3, h4, h6, rs, hc, add_at]⟩⟩
/-- a part of a slice behind another part of it, in place -/
theorem v_catK {K : Act → World → Prop} {d T bytes b' off' i k c' : Nat} {eb : TypeId} {x y : Operand} {cur : Array Value} {ty : TypeId} {pos : String} {af : Array Edge} {Γ' : List Hp} (news : List Value) [hx : Ev L x (.slice (some ⟨b, off, none⟩) i c)] [hy : Ev L y (.slice (some ⟨b', off', none⟩) k c')] [ht : Und P T (.slice e)] [he : El P e sz bytes] [hd : Is (Nat.ble n d = false)]
    [hdel : Del Γ [(b, .cells cur eb (0, 0))] Γ'] (hl : news.length = k * sz) (hb : b' = b) (hn : ∀ j u, news[j]? = some u → cur[off' + j]? = some u) (h1 : ∀ u ∈ news, u.oneCell' = true) (hroom : i + k ≤ c) (hfit : off + i * sz + news.length ≤ cur.size)
    (h : VK C R n ((d, .slice (some ⟨b, off, none⟩) (i + k) c) :: L) ([(b, .cells (cur.toList.take (off + i * sz) ++ news ++ cur.toList.drop (off + i * sz + news.length)).toArray eb (0, 0))] :: Γ') K) :
    VK C R n L Γ (wp1 P all Q ⟨some d, .call ⟨.builtin .append, #[x, y], #[T, T]⟩, ty, pos, af, none⟩ K) := VK.mk fun a w kn i' => wp1.mk (by
  have hd' : d < n := lt_of_ble hd.out
  subst hb
  have ip : Inv C R ([(b', .cells cur eb (0, 0))] :: Γ') w := i'.perm (by simpa using hdel.out)
  have hg := ip.own (b', .cells cur eb (0, 0)) (by simp)
  obtain ⟨inf, z, hi, hz, hsz, hby, hzs, hpos⟩ := he.out
  subst hsz
  have hnews : ∀ j u, news[j]? = some u → w.cell? ((⟨b', off', none⟩ : Addr).add j) = some u := fun j u hu => by
    rw [add_at, cell_of hg]; simpa using hn j u hu
  have hr := run_append_roomO (P := P) (w := w) T ty e inf ht.out hi b' off i c cur hg ⟨b', off', none⟩ k c' news hl hnews h1 hroom hfit
  have hrun : (execOp a.eval ⟨some d, .call ⟨.builtin .append, #[x, y], #[T, T]⟩, ty, pos, af, none⟩).run P w = .ok (.value (.slice (some ⟨b', off, none⟩) (i + k) c)) (w.setRow b' (cur.toList.take (off + i * inf.size) ++ news ++ cur.toList.drop (off + i * inf.size + news.length)).toArray) := by
    simp [execOp, resolve, invoke, builtin, hx.out n a kn, hy.out n a kn, hr]
  simp only [Region.wanted, if_true]
  refine .inl ?_
  simp only [Oper.wp, hrun, Oper.upon]
  exact h.out _ _ (kn.put hd') (ip.upd (updHere Γ' b' (.cells cur eb (0, 0))) (setRow_heap w b' cur _ eb (0, 0) hg) (fun j hj => setRow_other w b' j _ hj) (by simp) rfl rfl rfl rfl))
/-- the cells of a part made zero -/
theorem v_clear {K : Act → World → Prop} {T k c' : Nat} {eb : TypeId} {x : Operand} {z : Value} {cur : Array Value} {ty : TypeId} {pos : String} {af : Array Edge} {Γ' : List Hp} [hx : Ev L x (.slice (some ⟨b, off, none⟩) k c')] [ht : Und P T (.slice e)] [hz : Zr P e z]
    [hdel : Del Γ [(b, .cells cur eb (0, 0))] Γ'] (hk : 0 < k) (hzs : z.cells.size = sz) (h1 : ∀ u ∈ z.cells, u.oneCell' = true) (hfit : off + k * sz ≤ cur.size)
    (h : ∀ cs : Array Value, cs.size = cur.size → cs.toList.take off = cur.toList.take off → VK C R n L ([(b, .cells cs eb (0, 0))] :: Γ') K) :
    VK C R n L Γ (wp1 P all Q ⟨none, .call ⟨.builtin .clear, #[x], #[T]⟩, ty, pos, af, none⟩ K) := VK.mk fun a w kn i' => wp1.mk (by
  have ip : Inv C R ([(b, .cells cur eb (0, 0))] :: Γ') w := i'.perm (by simpa using hdel.out)
  have hg := ip.own (b, .cells cur eb (0, 0)) (by simp)
  have hlen : (Builtin.zeroCells z.cells k).toList.length = k * sz := by rw [Array.length_toList, size_zeroCells, hzs]
  have hone : ∀ u ∈ (Builtin.zeroCells z.cells k).toList, u.oneCell' = true := fun u hu => by
    rcases Nat.eq_zero_or_pos sz with h0 | h0
    · have h2 : (Builtin.zeroCells z.cells k).toList = [] := List.eq_nil_of_length_eq_zero (by rw [hlen, h0, Nat.mul_zero])
      rw [h2] at hu; cases hu
    · rw [Array.mem_toList_iff] at hu
      unfold Builtin.zeroCells at hu
      obtain ⟨q, _, rfl⟩ := Array.mem_map.1 hu
      have hq : q % z.cells.size < z.cells.size := Nat.mod_lt _ (by omega)
      rw [getElem!_pos z.cells _ hq]
      exact h1 _ (Array.getElem_mem hq)
  have hst := run_storeCells_at (P := P) b off eb (Builtin.zeroCells z.cells k).toList 0 cur w hg (by rw [hlen]; simpa using hfit) hone
  simp only [Nat.add_zero] at hst
  obtain ⟨k, rfl⟩ : ∃ q, k = q + 1 := ⟨k - 1, by omega⟩
  have hrun : (execOp a.eval ⟨none, .call ⟨.builtin .clear, #[x], #[T]⟩, ty, pos, af, none⟩).run P w = .ok (.value (.tuple #[])) (w.setRow b (cur.toList.take off ++ (Builtin.zeroCells z.cells (k + 1)).toList ++ cur.toList.drop (off + (Builtin.zeroCells z.cells (k + 1)).toList.length)).toArray) := by
    simp [execOp, resolve, invoke, builtin, Builtin.clear_, run_underlying ht.out, hz.out, hx.out n a kn, hst]
  simp only [Region.wanted, if_true]
  refine .inl ?_
  simp only [Oper.wp, hrun, Oper.upon]
  have hl0 : (cur.toList.take off).length = off := by rw [List.length_take, Array.length_toList]; omega
  refine (h _ ?_ ?_).out _ _ kn.putNone (ip.upd (updHere Γ' b (.cells cur eb (0, 0))) (setRow_heap w b cur _ eb (0, 0) hg) (fun j hj => setRow_other w b j _ hj) (by simp) rfl rfl rfl rfl)
  · rw [List.size_toArray, List.length_append, List.length_append, hl0, List.length_drop, Array.length_toList (xs := cur), hlen]; omega
  · rw [List.append_assoc, List.take_left' hl0])
end
end Go.SX

/- slices.Delete at []api.Item: one item less, in place. -/
namespace Go.Proofs.YtdfoijfjlhjeaaaGreat
open Go Go.SX Go.RowKit
set_option maxRecDepth 100000
set_option maxHeartbeats 0
set_option synthInstance.maxSize 100000
set_option synthInstance.maxHeartbeats 400000
theorem del_cells {α : Type} {cv : α → List Value} {sz : Nat} (hE : ∀ x, (cv x).length = sz) (l : List α) (i : Nat) (hi : i < l.length) (D : List Value) (hD : D.take (l.length * sz) = cvs cv l) : D.take (i * sz) ++ (D.drop ((i + 1) * sz)).take ((l.length - (i + 1)) * sz) = cvs cv (l.eraseIdx i) := by
  have h1 := cvs_sub hE l 0 i (Nat.zero_le _) (by omega)
  have h2 := cvs_sub hE l (i + 1) l.length (by omega) (Nat.le_refl _)
  have m1 : i * sz ≤ l.length * sz := Nat.mul_le_mul_right _ (by omega)
  have m2 : (i + 1) * sz + (l.length - (i + 1)) * sz = l.length * sz := by rw [← Nat.add_mul]; congr 1; omega
  rw [List.eraseIdx_eq_take_drop_succ, cvs_append]
  simp only [List.drop_zero, Nat.zero_mul, Nat.sub_zero, List.take_length] at h1 h2
  rw [h1, h2, ← hD, List.take_take, Nat.min_eq_left m1, List.drop_take, List.take_take]
  congr 2
  omega
theorem del_s {v : Value} {l : List ApiItem} {s : Hp} (h : OwnS v 62 ApiItem 6 cvApiItem l s) (i : Nat) (hi : i < l.length) (hb : l.length ≤ 1099511627776) : SX.Spec Tryz.prog 143 #[v, .int .i64 i, .int .i64 ((i : Int) + 1)] [] [s] fun V Γ => ∃ s', OwnS V 62 ApiItem 6 cvApiItem (l.eraseIdx i) s' ∧ Γ = [s'] := by
  obtain ⟨hlen, ⟨_, h0, _⟩ | ⟨b, off, cap, cur, eb, rfl, rfl, hnc, hcm, hsz, hcur⟩⟩ := h.out
  · omega
  clear h
  generalize hn : l.length = n at *
  refine spec_of3 Tryz.func143 Tryz.ntmps143 rfl rfl (fun M w0 => ?_)
  repeat' (first | refine stp ?_|(refine v_spF ?_ ?_;omega)|(refine v_yc ?_ ?_;omega)|refine ⟨?_,?_,?_⟩|refine ⟨?_,?_⟩|(refine v_tyc ?_ ?_;omega)|refine v_drawnK (id:=5) 6 pl143_5 (by kernel_rfl) ?_|fail)
  rw [show ((i : Int) + 1).toNat = i + 1 by omega, show (i : Int).toNat = i by omega]
  obtain ⟨news, hnews⟩ : ∃ z, z = (cur.toList.drop (off + (i + 1) * 6)).take ((n - (i + 1)) * 6) := ⟨_, rfl⟩
  have hnl : news.length = (n - (i + 1)) * 6 := by
    rw [hnews, List.length_take, List.length_drop, Array.length_toList]; omega
  have hce := del_cells (cv := cvApiItem) (sz := 6) (fun x => rfl) l i (by omega) (cur.toList.drop off) (by rw [hn]; exact hcur)
  rw [hn, List.drop_drop, ← hnews] at hce
  have hone : ∀ u ∈ news, u.oneCell' = true := fun u hu => by
    have h2 : u ∈ cvs cvApiItem (l.eraseIdx i) := by rw [← hce]; exact List.mem_append_right _ hu
    exact cvs_one' (inferInstance : ElT Tryz.prog 62 ApiItem 6 cvApiItem _) _ u h2
  have hget : ∀ j u, news[j]? = some u → cur[off + rs 6 cap (i + 1) + j]? = some u := fun j u hu => by
    have hj : j < news.length := (List.getElem?_eq_some_iff.1 hu).1
    have e : rs 6 cap (i + 1) = (i + 1) * 6 := if_neg (by omega)
    rw [hnews, List.getElem?_take, if_pos (by omega), List.getElem?_drop, Array.getElem?_toList] at hu
    rw [e]; exact hu
  refine v_catK (cur := cur) (eb := eb) news hnl rfl hget hone (by omega) (by omega) ?_
  repeat' (first | refine stp ?_|(refine v_spF ?_ ?_;omega)|(refine v_yc ?_ ?_;omega)|refine ⟨?_,?_,?_⟩|refine ⟨?_,?_⟩|(refine v_tyc ?_ ?_;omega)|refine v_drawnK (id:=5) 6 pl143_5 (by kernel_rfl) ?_|fail)
  obtain ⟨cu, hcu⟩ : ∃ z, z = (cur.toList.take (off + i * 6) ++ news ++ cur.toList.drop (off + i * 6 + news.length)).toArray := ⟨_, rfl⟩
  have hl0 : (cur.toList.take (off + i * 6)).length = off + i * 6 := by rw [List.length_take, Array.length_toList]; omega
  have hsz2 : cu.size = cur.size := by
    rw [hcu, List.size_toArray, List.length_append, List.length_append, hl0, List.length_drop, Array.length_toList (xs := cur)]; omega
  have hl1 : (cur.toList.take off).length = off := by rw [List.length_take, Array.length_toList]; omega
  have hcd : (cu.toList.take (off + (n - 1) * 6)).drop off = cvs cvApiItem (l.eraseIdx i) := by
    rw [← hce, hcu]
    have e1 : cur.toList.take (off + i * 6) = cur.toList.take off ++ (cur.toList.drop off).take (i * 6) := List.take_add
    have e2 : ((cur.toList.drop off).take (i * 6)).length = i * 6 := by rw [List.length_take, List.length_drop, Array.length_toList]; omega
    simp only []
    rw [e1, List.append_assoc, List.append_assoc, List.take_append, List.drop_append]
    simp only [hl1, Nat.add_sub_cancel_left, Nat.sub_self, List.drop_zero]
    rw [List.drop_eq_nil_of_le (by rw [List.length_take, hl1]; omega), List.nil_append]
    rw [show (cur.toList.take off).take (off + (n - 1) * 6) = cur.toList.take off from List.take_of_length_le (by rw [hl1]; omega), hl1, Nat.sub_self, List.drop_zero]
    rw [← List.append_assoc, List.take_left' (by rw [List.length_append, e2, hnl]; omega)]
  rw [← hcu, show ((i + (n - (i + 1)) : Nat) : Int).toNat = n - 1 by omega, show (n : Int).toNat = n by omega, show rs 6 cap (n - 1) = (n - 1) * 6 from if_neg (by omega)]
  refine v_clear (sz := 6) (z := .agg #[.int .i64 0, .int .i64 0, .int .i64 0, .int .i64 0, .int .i64 0, .int .i64 0]) (cur := cu) (eb := eb) (by omega) rfl (fun u hu => by simp [Value.cells] at hu; subst hu; rfl) (by omega) ?_
  intro cs hcs1 hcs2
  repeat' (first | refine stp ?_|(refine v_spF ?_ ?_;omega)|(refine v_yc ?_ ?_;omega)|refine ⟨?_,?_,?_⟩|refine ⟨?_,?_⟩|(refine v_tyc ?_ ?_;omega)|refine v_drawnK (id:=5) 6 pl143_5 (by kernel_rfl) ?_|fail)
  have hel : (l.eraseIdx i).length = n - 1 := by rw [List.length_eraseIdx_of_lt (by omega), hn]
  refine v_o1 Tryz.results143 ⟨_, ⟨⟨cvs_len (cv := cvApiItem) (sz := 6) (fun x => rfl) _, .inr ⟨b, off, cap, cs, eb, ?_, rfl, by omega, hcm, by omega, ?_⟩⟩⟩, rfl⟩ ⟨_, inferInstance⟩
  · rw [hel, show i + (n - (i + 1)) = n - 1 by omega]
  · rw [hel, ← hcd, ← hcs2, List.drop_take, Nat.add_sub_cancel_left]
end Go.Proofs.YtdfoijfjlhjeaaaGreat

/- spy.steps, spy.pot.do. -/
namespace Go.Proofs.YtdfoijfjlhjeaaaGreat
open Go Go.SX Go.RowKit
set_option maxRecDepth 100000
set_option maxHeartbeats 0
set_option synthInstance.maxSize 100000
set_option synthInstance.maxHeartbeats 400000
abbrev fnV (f : Nat) : Value := .func (.func f) #[] #[]
/-- what each kind of step does, by kinds of messages -/
def tbl (k : Int) : List (Int × Value) :=
  if k = 3 then [(0, fnV 103)] else if k = 4 then [(2, fnV 104), (3, fnV 105)] else if k = 5 then [(1, fnV 106)] else if k = 6 then [(1, fnV 107)]
  else if k = 7 then [(1, fnV 108)] else if k = 8 then [(1, fnV 109), (3, fnV 110)] else if k = 9 then [(1, fnV 111)] else if k = 10 then [(1, fnV 112)] else if k = 11 then [(4, fnV 113)] else []
theorem steps_s (k : Int) : SX.Spec Tryz.prog 61 #[.int .i64 k] [] [] fun v Γ => (3 ≤ k ∧ k ≤ 11 ∧ ∃ b s, v = .map (some b) ∧ OwnM b Int Value ik vid (tbl k) s ∧ Γ = [s]) ∨ (¬ (3 ≤ k ∧ k ≤ 11) ∧ v = .map none ∧ Γ = []) := by
  refine spec_of1 Tryz.func61 Tryz.ntmps61 rfl rfl (fun M w0 => ?_)
  repeat' (first | refine stp ?_|refine v_spD (fun hc=>?_) (fun hc=>?_)|refine v_makeMap (fun bm=>?_)|refine v_ins (fun sm hm=>?_)|fail)
  rotate_right
  · refine v_o1 Tryz.results61 (.inr ⟨by omega, rfl, rfl⟩) ⟨_, inferInstance⟩
  all_goals have h0 : OwnM bm Int Value ik vid [] [(bm, .map #[] 0)] := ⟨MpAt.new _⟩
  repeat' (first | refine stp ?_|refine v_spD (fun hc=>?_) (fun hc=>?_)|refine v_makeMap (fun bm=>?_)|refine v_ins (fun sm hm=>?_)|fail)
  all_goals subst hc
  all_goals refine v_o1 Tryz.results61 (.inl ⟨by decide, by decide, bm, sm, rfl, hm, rfl⟩) ⟨_, inferInstance⟩
abbrev okey : ApiKey := ⟨32768, 0⟩
abbrev obox : ApiBox := ⟨okey, okey⟩
def blankM (k : Int) : MsgM := if k = 1 then ⟨1, ⟨1, [], [], []⟩, 0, 0, rp0, sl0⟩ else if k = 2 then ⟨2, rk0, 0, 1, rp0, sl0⟩ else if k = 3 then ⟨3, rk0, 0, 0, ⟨0, 0, 1, [obox, obox, obox]⟩, sl0⟩ else ⟨4, rk0, 0, 0, rp0, ⟨1, okey, []⟩⟩
abbrev zM (k : Int) : MsgM := ⟨k, rk0, 0, 0, rp0, sl0⟩
theorem potZ (b : Nat) (pv : Value) (k : Int) : PotA b pv (zM k) [[(b, .cells (potC pv k 0 (.slice none 0 0) (.slice none 0 0) (.slice none 0 0) 0 0 0 0 0 b0 b0 b0 0 k0 []) 77 (0, 0))], [], [], []] :=
  ⟨_, _, _, _, _, _, b0, b0, b0, rfl, OwnS.nil, OwnS.nil, OwnS.nil, rfl⟩
theorem epochZ (pb : Nat) (pv : Value) (k : Int) : SX.Spec Tryz.prog 103 #[pt pb, ckV ⟨0, 1, 0, b0, []⟩] [] [[(pb, .cells (potC pv k 0 (.slice none 0 0) (.slice none 0 0) (.slice none 0 0) 0 0 0 0 0 b0 b0 b0 0 k0 []) 77 (0, 0))]] fun v Γ' => v = .int .i64 0 ∧ PotA pb pv (setEp (zM k) 1) Γ' := by
  have h := (pepoch_s pb pv (zM k) ⟨0, 1, 0, b0, []⟩ _ (potZ pb pv k) ⟨Nat.zero_le _, Nat.zero_le _, Nat.zero_le _⟩).weak (Post' := fun v Γ' => v = .int .i64 0 ∧ PotA pb pv (setEp (zM k) 1) Γ') fun v Γ' hh => by
    rcases hh with ⟨m', h1, h2, h3⟩ | ⟨e, h1, _⟩
    · cases h1; exact ⟨h2, h3⟩
    · cases h1
  exact fun w0 i => h w0 (i.perm (by simp))
/-- a reply whose path is begun -/
@[reducible] def repP : Nat → ApiBox × ApiBox × ApiBox
  | 0 => (b0, b0, b0)
  | 1 => (obox, b0, b0)
  | 2 => (obox, obox, b0)
  | _ => (obox, obox, obox)
theorem pblank_s (pb : Nat) (pv : Value) (m : MsgM) (kd : Int) (Γ : List Hp) (h : PotA pb pv m Γ) : SX.Spec Tryz.prog 60 #[pt pb, .int .i64 kd] [] Γ fun v Γ' => ((1 ≤ kd ∧ kd ≤ 4) ∧ v = .int .i64 0 ∧ PotA pb pv (blankM kd) Γ') ∨ (¬ (1 ≤ kd ∧ kd ≤ 4) ∧ v = .int .i64 33 ∧ PotA pb pv m Γ') := by
  obtain ⟨k, ⟨e, l1, l2, l3⟩, q1, q2, ⟨a, b, c, p⟩, ⟨f, u, t⟩⟩ := m
  obtain ⟨v1, s1, v2, s2, v3, s3, x, y, z, hp, o1, o2, o3, rfl⟩ := h
  dsimp only at hp o1 o2 o3 ⊢
  subst hp
  refine spec_of2 Tryz.func60 Tryz.ntmps60 rfl rfl (fun M w0 => ?_)
  repeat' (first | refine stp ?_|(refine v_spT ?_ ?_;omega)|(refine v_spF ?_ ?_;omega)|refine v_spD (fun hc=>?_) (fun hc=>?_)|(refine v_yc ?_ ?_;omega)|refine v_alloc' (fun ba=>?_)|refine ⟨?_,?_,?_⟩|refine ⟨?_,?_⟩|(refine v_tyc ?_ ?_;omega)|refine v_tValT (by decide +kernel) ?_|refine v_drawnK (id:=11) 10 pl60_11 (by kernel_rfl) ?_|fail)
  · refine v_o1 Tryz.results60 (.inr ⟨by omega, rfl, v1, s1, v2, s2, v3, s3, x, y, z, rfl, o1, o2, o3, rfl⟩) ⟨_, inferInstance⟩
  · refine v_o1 Tryz.results60 (.inr ⟨by omega, rfl, v1, s1, v2, s2, v3, s3, x, y, z, rfl, o1, o2, o3, rfl⟩) ⟨_, inferInstance⟩
  have h4 : kd = 1 ∨ kd = 2 ∨ kd = 3 ∨ kd = 4 := by omega
  rcases h4 with rfl | rfl | rfl | rfl
  · refine v_callO (epochZ pb pv 1) ?_; rw [show setEp (zM 1) 1 = (⟨1, ⟨1, [], [], []⟩, 0, 0, rp0, sl0⟩ : MsgM) from rfl]; rintro v Γ' ⟨rfl, v1, s1, v2, s2, v3, s3, x, y, z, hp, o1, o2, o3, rfl⟩; dsimp only at hp o1 o2 o3 ⊢
    (try dsimp only [List.cons_append, List.nil_append])
    repeat' (first | refine stp ?_|(refine v_spT ?_ ?_;omega)|(refine v_spF ?_ ?_;omega)|refine v_spD (fun hc=>?_) (fun hc=>?_)|(refine v_yc ?_ ?_;omega)|refine v_alloc' (fun ba=>?_)|refine ⟨?_,?_,?_⟩|refine ⟨?_,?_⟩|(refine v_tyc ?_ ?_;omega)|refine v_tValT (by decide +kernel) ?_|refine v_drawnK (id:=11) 10 pl60_11 (by kernel_rfl) ?_|fail)
    refine v_o1 Tryz.results60 (.inl ⟨by omega, rfl, (show PotA pb pv (⟨1, ⟨1, [], [], []⟩, 0, 0, rp0, sl0⟩ : MsgM) _ from ⟨v1, s1, v2, s2, v3, s3, x, y, z, hp, o1, o2, o3, rfl⟩)⟩) ⟨_, inferInstance⟩
  · refine v_callO (epochZ pb pv 2) ?_; rw [show setEp (zM 2) 1 = (⟨2, rk0, 0, 1, rp0, sl0⟩ : MsgM) from rfl]; rintro v Γ' ⟨rfl, v1, s1, v2, s2, v3, s3, x, y, z, hp, o1, o2, o3, rfl⟩; dsimp only at hp o1 o2 o3 ⊢
    (try dsimp only [List.cons_append, List.nil_append])
    repeat' (first | refine stp ?_|(refine v_spT ?_ ?_;omega)|(refine v_spF ?_ ?_;omega)|refine v_spD (fun hc=>?_) (fun hc=>?_)|(refine v_yc ?_ ?_;omega)|refine v_alloc' (fun ba=>?_)|refine ⟨?_,?_,?_⟩|refine ⟨?_,?_⟩|(refine v_tyc ?_ ?_;omega)|refine v_tValT (by decide +kernel) ?_|refine v_drawnK (id:=11) 10 pl60_11 (by kernel_rfl) ?_|fail)
    refine v_o1 Tryz.results60 (.inl ⟨by omega, rfl, (show PotA pb pv (⟨2, rk0, 0, 1, rp0, sl0⟩ : MsgM) _ from ⟨v1, s1, v2, s2, v3, s3, x, y, z, hp, o1, o2, o3, rfl⟩)⟩) ⟨_, inferInstance⟩
  · refine v_callO (epochZ pb pv 3) ?_; rw [show setEp (zM 3) 1 = (⟨3, rk0, 0, 0, ⟨0, 0, 1, [b0, b0, b0]⟩, sl0⟩ : MsgM) from rfl]; rintro v Γ' ⟨rfl, v1, s1, v2, s2, v3, s3, x, y, z, hp, o1, o2, o3, rfl⟩; dsimp only at hp o1 o2 o3 ⊢
    obtain ⟨rfl, rfl, rfl⟩ : x = b0 ∧ y = b0 ∧ z = b0 := by
      have hq : [b0, b0, b0] = [x, y, z] := hp
      simp only [List.cons.injEq, and_true] at hq
      exact ⟨hq.1.symm, hq.2.1.symm, hq.2.2.symm⟩
    (try dsimp only [List.cons_append, List.nil_append])
    repeat' (first | refine stp ?_|(refine v_spT ?_ ?_;omega)|(refine v_spF ?_ ?_;omega)|refine v_spD (fun hc=>?_) (fun hc=>?_)|(refine v_yc ?_ ?_;omega)|refine v_alloc' (fun ba=>?_)|refine ⟨?_,?_,?_⟩|refine ⟨?_,?_⟩|(refine v_tyc ?_ ?_;omega)|refine v_tValT (by decide +kernel) ?_|refine v_drawnK (id:=11) 10 pl60_11 (by kernel_rfl) ?_|fail)
    refine v_lp [25] [0, 5] (fun i : Nat => [.int .i64 i]) (fun i => [[(pb, .cells (potC pv 3 0 v1 v2 v3 0 0 0 0 1 (repP i).1 (repP i).2.1 (repP i).2.2 0 k0 []) 77 (0, 0))]]) (fun i => i ≤ 3) (fun i => 3 - i) 0 (fun _ => rfl) rfl inferInstance (Nat.zero_le _) ?_
    rintro i hi
    have h4 : i = 0 ∨ i = 1 ∨ i = 2 ∨ i = 3 := by omega
    rcases h4 with rfl | rfl | rfl | rfl
    · (try dsimp only [zipE_c, zipE_n, List.cons_append, List.nil_append])
      rw [show ((0 : Nat) : Int) = 0 from rfl]
      simp only [repP]
      repeat' (first | refine stp ?_|(refine v_spT ?_ ?_;omega)|(refine v_spF ?_ ?_;omega)|refine v_spD (fun hc=>?_) (fun hc=>?_)|(refine v_yc ?_ ?_;omega)|refine v_alloc' (fun ba=>?_)|refine ⟨?_,?_,?_⟩|refine ⟨?_,?_⟩|(refine v_tyc ?_ ?_;omega)|refine v_tValT (by decide +kernel) ?_|refine v_drawnK (id:=11) 10 pl60_11 (by kernel_rfl) ?_|fail)
      rw [show 1 + 7 + 3 + Int.toNat 0 * 4 = 11 from rfl]
      repeat' (first | refine stp ?_|(refine v_spT ?_ ?_;omega)|(refine v_spF ?_ ?_;omega)|refine v_spD (fun hc=>?_) (fun hc=>?_)|(refine v_yc ?_ ?_;omega)|refine v_alloc' (fun ba=>?_)|refine ⟨?_,?_,?_⟩|refine ⟨?_,?_⟩|(refine v_tyc ?_ ?_;omega)|refine v_tValT (by decide +kernel) ?_|refine v_drawnK (id:=11) 10 pl60_11 (by kernel_rfl) ?_|fail)
      exact v_again 1 (by omega) rfl inferInstance (by omega)
    · (try dsimp only [zipE_c, zipE_n, List.cons_append, List.nil_append])
      rw [show ((1 : Nat) : Int) = 1 from rfl]
      simp only [repP]
      repeat' (first | refine stp ?_|(refine v_spT ?_ ?_;omega)|(refine v_spF ?_ ?_;omega)|refine v_spD (fun hc=>?_) (fun hc=>?_)|(refine v_yc ?_ ?_;omega)|refine v_alloc' (fun ba=>?_)|refine ⟨?_,?_,?_⟩|refine ⟨?_,?_⟩|(refine v_tyc ?_ ?_;omega)|refine v_tValT (by decide +kernel) ?_|refine v_drawnK (id:=11) 10 pl60_11 (by kernel_rfl) ?_|fail)
      rw [show 1 + 7 + 3 + Int.toNat 1 * 4 = 15 from rfl]
      repeat' (first | refine stp ?_|(refine v_spT ?_ ?_;omega)|(refine v_spF ?_ ?_;omega)|refine v_spD (fun hc=>?_) (fun hc=>?_)|(refine v_yc ?_ ?_;omega)|refine v_alloc' (fun ba=>?_)|refine ⟨?_,?_,?_⟩|refine ⟨?_,?_⟩|(refine v_tyc ?_ ?_;omega)|refine v_tValT (by decide +kernel) ?_|refine v_drawnK (id:=11) 10 pl60_11 (by kernel_rfl) ?_|fail)
      exact v_again 2 (by omega) rfl inferInstance (by omega)
    · (try dsimp only [zipE_c, zipE_n, List.cons_append, List.nil_append])
      rw [show ((2 : Nat) : Int) = 2 from rfl]
      simp only [repP]
      repeat' (first | refine stp ?_|(refine v_spT ?_ ?_;omega)|(refine v_spF ?_ ?_;omega)|refine v_spD (fun hc=>?_) (fun hc=>?_)|(refine v_yc ?_ ?_;omega)|refine v_alloc' (fun ba=>?_)|refine ⟨?_,?_,?_⟩|refine ⟨?_,?_⟩|(refine v_tyc ?_ ?_;omega)|refine v_tValT (by decide +kernel) ?_|refine v_drawnK (id:=11) 10 pl60_11 (by kernel_rfl) ?_|fail)
      rw [show 1 + 7 + 3 + Int.toNat 2 * 4 = 19 from rfl]
      repeat' (first | refine stp ?_|(refine v_spT ?_ ?_;omega)|(refine v_spF ?_ ?_;omega)|refine v_spD (fun hc=>?_) (fun hc=>?_)|(refine v_yc ?_ ?_;omega)|refine v_alloc' (fun ba=>?_)|refine ⟨?_,?_,?_⟩|refine ⟨?_,?_⟩|(refine v_tyc ?_ ?_;omega)|refine v_tValT (by decide +kernel) ?_|refine v_drawnK (id:=11) 10 pl60_11 (by kernel_rfl) ?_|fail)
      exact v_again 3 (by omega) rfl inferInstance (by omega)
    · (try dsimp only [zipE_c, zipE_n, List.cons_append, List.nil_append])
      rw [show ((3 : Nat) : Int) = 3 from rfl]
      simp only [repP]
      repeat' (first | refine stp ?_|(refine v_spT ?_ ?_;omega)|(refine v_spF ?_ ?_;omega)|refine v_spD (fun hc=>?_) (fun hc=>?_)|(refine v_yc ?_ ?_;omega)|refine v_alloc' (fun ba=>?_)|refine ⟨?_,?_,?_⟩|refine ⟨?_,?_⟩|(refine v_tyc ?_ ?_;omega)|refine v_tValT (by decide +kernel) ?_|refine v_drawnK (id:=11) 10 pl60_11 (by kernel_rfl) ?_|fail)
      refine v_o1 Tryz.results60 (.inl ⟨by omega, rfl, (show PotA pb pv (⟨3, rk0, 0, 0, ⟨0, 0, 1, [obox, obox, obox]⟩, sl0⟩ : MsgM) _ from ⟨v1, s1, v2, s2, v3, s3, obox, obox, obox, rfl, o1, o2, o3, rfl⟩)⟩) ⟨_, inferInstance⟩
  · refine v_callO (epochZ pb pv 4) ?_; rw [show setEp (zM 4) 1 = (⟨4, rk0, 0, 0, rp0, ⟨1, k0, []⟩⟩ : MsgM) from rfl]; rintro v Γ' ⟨rfl, v1, s1, v2, s2, v3, s3, x, y, z, hp, o1, o2, o3, rfl⟩; dsimp only at hp o1 o2 o3 ⊢
    (try dsimp only [List.cons_append, List.nil_append])
    repeat' (first | refine stp ?_|(refine v_spT ?_ ?_;omega)|(refine v_spF ?_ ?_;omega)|refine v_spD (fun hc=>?_) (fun hc=>?_)|(refine v_yc ?_ ?_;omega)|refine v_alloc' (fun ba=>?_)|refine ⟨?_,?_,?_⟩|refine ⟨?_,?_⟩|(refine v_tyc ?_ ?_;omega)|refine v_tValT (by decide +kernel) ?_|refine v_drawnK (id:=11) 10 pl60_11 (by kernel_rfl) ?_|fail)
    refine v_o1 Tryz.results60 (.inl ⟨by omega, rfl, (show PotA pb pv (⟨4, rk0, 0, 0, rp0, ⟨1, okey, []⟩⟩ : MsgM) _ from ⟨v1, s1, v2, s2, v3, s3, x, y, z, hp, o1, o2, o3, rfl⟩)⟩) ⟨_, inferInstance⟩
end Go.Proofs.YtdfoijfjlhjeaaaGreat

/- spy.pot.take. -/
namespace Go.Proofs.YtdfoijfjlhjeaaaGreat
open Go Go.SX Go.RowKit
set_option maxRecDepth 100000
set_option maxHeartbeats 0
set_option synthInstance.maxSize 100000
set_option synthInstance.maxHeartbeats 400000
/-- the first place where it holds, or -1 -/
def fidxP (p : ApiPacket → Bool) (l : List ApiPacket) : Int := match l.findIdx? p with
  | some i => i
  | none => -1
theorem indexP_s {D : Bool} {v : Value} {l : List ApiPacket} {s : Hp} (h : AtS v 26 ApiPacket 3 cvApiPacket l s) {g : Nat} [Fn1 Tryz.prog g] (cs : List Value) {Rc : List Hp} (p : ApiPacket → Bool)
    (hp : ∀ x : ApiPacket, SpecD D Tryz.prog g (avApiPacket x :: cs).toArray Rc [] fun u Γ => u = .bool (p x) ∧ Γ = []) : SpecD D Tryz.prog 101 #[v, .func (.func g) #[] cs.toArray] (s :: Rc) [] fun u Γ => u = .int .i64 (fidxP p l) ∧ Γ = [] := by
  have hle := h.le
  have hsub : ∀ Γ, SX.Sub Rc (s :: Rc) Γ := fun Γ => ⟨fun x hx => .inl (by rw [List.flatten_cons, List.mem_append]; exact .inr hx)⟩
  refine spec_of2 Tryz.func101 Tryz.ntmps101 rfl rfl (fun M w0 => ?_)
  repeat' (first | refine stp ?_|(refine v_spT ?_ ?_;omega)|(refine v_spF ?_ ?_;omega)|refine v_spB (fun hc=>?_) (fun hc=>?_)|(refine v_yc ?_ ?_;omega)|fail)
  refine v_lp [8] [0, 1, 7] (fun i : Nat => [.int .i64 i]) (fun _ => []) (fun i => i ≤ l.length ∧ ∀ y ∈ l.take i, p y = false) (fun i => l.length - i) 0 (fun _ => rfl) rfl inferInstance ⟨Nat.zero_le _, by simp⟩ ?_
  rintro i ⟨hi, hn⟩
  (try dsimp only [zipE_c, zipE_n, List.cons_append, List.nil_append])
  rcases Nat.lt_or_ge i l.length with hlt | hge
  · repeat' (first | refine stp ?_|(refine v_spT ?_ ?_;omega)|(refine v_spF ?_ ?_;omega)|refine v_spB (fun hc=>?_) (fun hc=>?_)|(refine v_yc ?_ ?_;omega)|fail)
    refine v_callVR (hp l[i]) ?_
    rintro u Γ' ⟨rfl, rfl⟩
    (try dsimp only [List.cons_append, List.nil_append])
    repeat' (first | refine stp ?_|(refine v_spT ?_ ?_;omega)|(refine v_spF ?_ ?_;omega)|refine v_spB (fun hc=>?_) (fun hc=>?_)|(refine v_yc ?_ ?_;omega)|fail)
    · refine v_o1 Tryz.results101 ⟨iI ?_, rfl⟩ ⟨_, inferInstance⟩
      have : l.findIdx? p = some i := by
        rw [List.findIdx?_eq_some_iff_getElem]
        exact ⟨hlt, hc, fun j hj => by simpa using hn l[j] (List.mem_take_iff_getElem.2 ⟨j, by omega, rfl⟩)⟩
      unfold fidxP; rw [this]
    · refine v_again (i + 1) (by omega) rfl inferInstance ⟨hlt, fun y hy => ?_⟩
      rw [List.take_add_one, List.getElem?_eq_getElem hlt, Option.toList_some, List.mem_append, List.mem_singleton] at hy
      rcases hy with hy | rfl
      · exact hn y hy
      · exact hc
  · repeat' (first | refine stp ?_|(refine v_spT ?_ ?_;omega)|(refine v_spF ?_ ?_;omega)|refine v_spB (fun hc=>?_) (fun hc=>?_)|(refine v_yc ?_ ?_;omega)|fail)
    refine v_o1 Tryz.results101 ⟨iI ?_, rfl⟩ ⟨_, inferInstance⟩
    rw [List.take_of_length_le hge] at hn
    have : l.findIdx? p = none := by
      rw [List.findIdx?_eq_none_iff]
      exact hn
    unfold fidxP; rw [this]
/-- the message of the first packet with this number -/
def tk (l : List ApiPacket) (n : Int) : St1 := match l.find? (fun p => decide (p.N = n)) with
  | none => .err 26
  | some p => match decP p.Bytes.data.toList with
    | none => .err 13
    | some x => .ok x.msg
theorem take1_s {D : Bool} (n : Int) (B : Nat) (x : ApiPacket) : SpecD D Tryz.prog 102 #[avApiPacket x, pt B] [[(B, .cells #[.int .i64 n] 3 (0, 0))]] [] fun u Γ => u = .bool (decide (x.N = n)) ∧ Γ = [] := by
  refine spec_of2 Tryz.func102 Tryz.ntmps102 rfl rfl (fun M w0 => ?_)
  repeat' (first | refine stp ?_|refine v_box (fun bb=>?_)|fail)
  refine v_o1 Tryz.results102 ⟨rfl, rfl⟩ ⟨_, inferInstance⟩
theorem ptake_s (pb : Nat) (pv : Value) (l : List ApiPacket) (t : Hp) (hv : AtS pv 26 ApiPacket 3 cvApiPacket l t) (hsz : ∀ x ∈ l, x.Bytes.size ≤ 34359738368) (m : MsgM) (n : Int) (Γ : List Hp) (h : PotA pb pv m Γ) : SX.Spec Tryz.prog 59 #[pt pb, .int .i64 n] [t] Γ fun v Γ' =>
    (∃ m', tk l n = .ok m' ∧ v = .int .i64 0 ∧ PotA pb pv m' Γ') ∨ (∃ e, tk l n = .err e ∧ e ≠ 0 ∧ v = .int .i64 e ∧ PotA pb pv m Γ') := by
  obtain ⟨k, ⟨e, l1, l2, l3⟩, q1, q2, ⟨a, b, c, p⟩, ⟨f, u, tt⟩⟩ := m
  obtain ⟨v1, s1, v2, s2, v3, s3, x, y, z, hp, o1, o2, o3, rfl⟩ := h
  dsimp only at hp o1 o2 o3 ⊢
  subst hp
  have hle := AtS.le hv
  refine spec_of2 Tryz.func59 Tryz.ntmps59 rfl rfl (fun M w0 => ?_)
  repeat' (first | refine stp ?_|(refine v_spT ?_ ?_;omega)|(refine v_spF ?_ ?_;omega)|(refine v_yc ?_ ?_;omega)|refine v_alloc' (fun ba=>?_)|refine v_box (fun bb=>?_)|fail)
  refine v_callR (indexP_s hv [.pointer (some ⟨bb, 0, none⟩)] (fun x => decide (x.N = n)) (take1_s n bb)) ?_
  rintro r Γ' ⟨rfl, rfl⟩
  (try dsimp only [List.cons_append, List.nil_append])
  cases hf : l.findIdx? (fun x => decide (x.N = n)) with
  | none =>
    have hi : fidxP (fun x => decide (x.N = n)) l = -1 := by unfold fidxP; rw [hf]
    rw [hi]
    repeat' (first | refine stp ?_|(refine v_spT ?_ ?_;omega)|(refine v_spF ?_ ?_;omega)|(refine v_yc ?_ ?_;omega)|refine v_alloc' (fun ba=>?_)|refine v_box (fun bb=>?_)|fail)
    have htk : tk l n = .err 26 := by
      unfold tk
      rw [List.find?_eq_none.2 (fun x hx => by rw [List.findIdx?_eq_none_iff.1 hf x hx]; decide)]
    refine v_o1 Tryz.results59 (.inr ⟨26, htk, by decide, rfl, v1, s1, v2, s2, v3, s3, x, y, z, rfl, o1, o2, o3, rfl⟩) ⟨_, inferInstance⟩
  | some i =>
    have hi : fidxP (fun x => decide (x.N = n)) l = (i : Int) := by unfold fidxP; rw [hf]
    rw [hi]
    obtain ⟨hlt, h1, h2⟩ := List.findIdx?_eq_some_iff_getElem.1 hf
    have hfd : l.find? (fun x => decide (x.N = n)) = some l[i] := by
      rw [List.find?_eq_some_iff_getElem]
      exact ⟨h1, i, hlt, rfl, fun j hj => by simpa using h2 j hj⟩
    have hln : l[i].Bytes.data.toList.length ≤ 34359738368 := by
      have := hsz l[i] (List.getElem_mem hlt)
      rw [Array.length_toList]; exact this
    repeat' (first | refine stp ?_|(refine v_spT ?_ ?_;omega)|(refine v_spF ?_ ?_;omega)|(refine v_yc ?_ ?_;omega)|refine v_alloc' (fun ba=>?_)|refine v_box (fun bb=>?_)|fail)
    rw [bs_of l[i].Bytes]
    refine v_callR (dec_s l[i].Bytes.data.toList (by omega)) ?_
    rintro r Γ' (⟨w, cs, hw, ⟨v1', s1', v2', s2', v3', s3', ⟨p1, p2, p3, hp, rfl⟩, o1', o2', o3', rfl⟩, rfl⟩ | ⟨hn, rfl, rfl⟩)
    · have htk : tk l n = .ok w.msg := by unfold tk; rw [hfd]; show (match decP l[i].Bytes.data.toList with | none => _ | some x => _) = _; rw [hw]
      (try dsimp only [List.cons_append, List.nil_append])
      repeat' (first | refine stp ?_|(refine v_spT ?_ ?_;omega)|(refine v_spF ?_ ?_;omega)|(refine v_yc ?_ ?_;omega)|refine v_alloc' (fun ba=>?_)|refine v_box (fun bb=>?_)|fail)
      refine v_o1 Tryz.results59 (.inl ⟨w.msg, htk, rfl, v1', s1', v2', s2', v3', s3', p1, p2, p3, hp, o1', o2', o3', rfl⟩) ⟨_, inferInstance⟩
    · have htk : tk l n = .err 13 := by unfold tk; rw [hfd]; show (match decP l[i].Bytes.data.toList with | none => _ | some x => _) = _; rw [hn]
      (try dsimp only [List.cons_append, List.nil_append])
      repeat' (first | refine stp ?_|(refine v_spT ?_ ?_;omega)|(refine v_spF ?_ ?_;omega)|(refine v_yc ?_ ?_;omega)|refine v_alloc' (fun ba=>?_)|refine v_box (fun bb=>?_)|fail)
      refine v_o1 Tryz.results59 (.inr ⟨13, htk, by decide, rfl, v1, s1, v2, s2, v3, s3, x, y, z, rfl, o1, o2, o3, rfl⟩) ⟨_, inferInstance⟩
end Go.Proofs.YtdfoijfjlhjeaaaGreat

/- spy.pot.do, spy.Cook. -/
namespace Go.Proofs.YtdfoijfjlhjeaaaGreat
open Go Go.SX Go.RowKit
set_option maxRecDepth 100000
set_option maxHeartbeats 0
set_option synthInstance.maxSize 100000
set_option synthInstance.maxHeartbeats 400000
def gDrop (m : MsgM) (c : CookM) : St1 := if 0 ≤ c.N ∧ c.N < m.Rekey.Items.length then .ok { m with Rekey := { m.Rekey with Items := m.Rekey.Items.eraseIdx c.N.toNat } } else .err 23
def chg (m : MsgM) (c : CookM) : St1 :=
  if m.Kind = 0 then .err 33
  else if c.Kind = 3 then gEp m c
  else if c.Kind = 4 ∧ m.Kind = 2 then gAsker m c
  else if c.Kind = 4 ∧ m.Kind = 3 then gAsked m c
  else if c.Kind = 5 ∧ m.Kind = 1 then gDrop m c
  else if c.Kind = 6 ∧ m.Kind = 1 then gSwap m c
  else if c.Kind = 7 ∧ m.Kind = 1 then gItem m c
  else if c.Kind = 8 ∧ m.Kind = 1 then gItemBox m c
  else if c.Kind = 8 ∧ m.Kind = 3 then gPathBox m c
  else if c.Kind = 9 ∧ m.Kind = 1 then gLeave m c
  else if c.Kind = 10 ∧ m.Kind = 1 then gJoin m c
  else if c.Kind = 11 ∧ m.Kind = 4 then gText m c
  else .err 33
def stepC (l : List ApiPacket) (m : MsgM) (c : CookM) : St1 := if c.Kind = 1 then tk l c.N else if c.Kind = 2 then (if 1 ≤ c.N ∧ c.N ≤ 4 then .ok (blankM c.N) else .err 33) else chg m c
instance : Fn1 Tryz.prog 103 := ⟨fun args w => by kernel_rfl⟩
instance : Fn1 Tryz.prog 104 := ⟨fun args w => by kernel_rfl⟩
instance : Fn1 Tryz.prog 105 := ⟨fun args w => by kernel_rfl⟩
instance : Fn1 Tryz.prog 106 := ⟨fun args w => by kernel_rfl⟩
instance : Fn1 Tryz.prog 107 := ⟨fun args w => by kernel_rfl⟩
instance : Fn1 Tryz.prog 108 := ⟨fun args w => by kernel_rfl⟩
instance : Fn1 Tryz.prog 109 := ⟨fun args w => by kernel_rfl⟩
instance : Fn1 Tryz.prog 110 := ⟨fun args w => by kernel_rfl⟩
instance : Fn1 Tryz.prog 111 := ⟨fun args w => by kernel_rfl⟩
instance : Fn1 Tryz.prog 112 := ⟨fun args w => by kernel_rfl⟩
instance : Fn1 Tryz.prog 113 := ⟨fun args w => by kernel_rfl⟩
theorem tbl3 : tbl 3 = [(0, fnV 103)] := by simp [tbl]
theorem tbl4 : tbl 4 = [(2, fnV 104), (3, fnV 105)] := by simp [tbl]
theorem tbl5 : tbl 5 = [(1, fnV 106)] := by simp [tbl]
theorem tbl6 : tbl 6 = [(1, fnV 107)] := by simp [tbl]
theorem tbl7 : tbl 7 = [(1, fnV 108)] := by simp [tbl]
theorem tbl8 : tbl 8 = [(1, fnV 109), (3, fnV 110)] := by simp [tbl]
theorem tbl9 : tbl 9 = [(1, fnV 111)] := by simp [tbl]
theorem tbl10 : tbl 10 = [(1, fnV 112)] := by simp [tbl]
theorem tbl11 : tbl 11 = [(4, fnV 113)] := by simp [tbl]
theorem tbl_get {ck k : Int} {lv : Value} (hc : 3 ≤ ck ∧ ck ≤ 11) (hk : k ≠ 0) (h : mget (tbl ck) k = some lv ∨ (mget (tbl ck) k = none ∧ mget (tbl ck) 0 = some lv)) (hd : ck = 5 → PotS 106 gDrop) :
    ∃ f g, lv = fnV f ∧ Fn1 Tryz.prog f ∧ PotS f g ∧ ∀ m c, m.Kind = k → c.Kind = ck → chg m c = g m c := by
  have hcs : ck = 3 ∨ ck = 4 ∨ ck = 5 ∨ ck = 6 ∨ ck = 7 ∨ ck = 8 ∨ ck = 9 ∨ ck = 10 ∨ ck = 11 := by omega
  rcases hcs with rfl | rfl | rfl | rfl | rfl | rfl | rfl | rfl | rfl
  · rw [tbl3] at h
    simp [mget, hk] at h
    exact ⟨_, gEp, h.symm, inferInstance, pepoch_s, fun m c h1 h2 => by simp [chg, h1, h2, hk]⟩
  · rw [tbl4] at h
    by_cases e2 : k = 2
    · subst e2
      simp [mget] at h
      exact ⟨_, gAsker, h.symm, inferInstance, pasker_s, fun m c h1 h2 => by simp [chg, h1, h2]⟩
    by_cases e3 : k = 3
    · subst e3
      simp [mget] at h
      exact ⟨_, gAsked, h.symm, inferInstance, pasked_s, fun m c h1 h2 => by simp [chg, h1, h2]⟩
    · exfalso; simp [mget, e2, e3] at h
  · rw [tbl5] at h
    by_cases e1 : k = 1
    · subst e1
      simp [mget] at h
      exact ⟨_, gDrop, h.symm, inferInstance, (hd rfl), fun m c h1 h2 => by simp [chg, h1, h2]⟩
    · exfalso; simp [mget, e1] at h
  · rw [tbl6] at h
    by_cases e1 : k = 1
    · subst e1
      simp [mget] at h
      exact ⟨_, gSwap, h.symm, inferInstance, pswap_s, fun m c h1 h2 => by simp [chg, h1, h2]⟩
    · exfalso; simp [mget, e1] at h
  · rw [tbl7] at h
    by_cases e1 : k = 1
    · subst e1
      simp [mget] at h
      exact ⟨_, gItem, h.symm, inferInstance, pitem_s, fun m c h1 h2 => by simp [chg, h1, h2]⟩
    · exfalso; simp [mget, e1] at h
  · rw [tbl8] at h
    by_cases e1 : k = 1
    · subst e1
      simp [mget] at h
      exact ⟨_, gItemBox, h.symm, inferInstance, pitemBox_s, fun m c h1 h2 => by simp [chg, h1, h2]⟩
    by_cases e3 : k = 3
    · subst e3
      simp [mget] at h
      exact ⟨_, gPathBox, h.symm, inferInstance, ppathBox_s, fun m c h1 h2 => by simp [chg, h1, h2]⟩
    · exfalso; simp [mget, e1, e3] at h
  · rw [tbl9] at h
    by_cases e1 : k = 1
    · subst e1
      simp [mget] at h
      exact ⟨_, gLeave, h.symm, inferInstance, pleave_s, fun m c h1 h2 => by simp [chg, h1, h2]⟩
    · exfalso; simp [mget, e1] at h
  · rw [tbl10] at h
    by_cases e1 : k = 1
    · subst e1
      simp [mget] at h
      exact ⟨_, gJoin, h.symm, inferInstance, pjoin_s, fun m c h1 h2 => by simp [chg, h1, h2]⟩
    · exfalso; simp [mget, e1] at h
  · rw [tbl11] at h
    by_cases e4 : k = 4
    · subst e4
      simp [mget] at h
      exact ⟨_, gText, h.symm, inferInstance, ptext_s, fun m c h1 h2 => by simp [chg, h1, h2]⟩
    · exfalso; simp [mget, e4] at h
theorem tbl_none {ck k : Int} (hc : 3 ≤ ck ∧ ck ≤ 11) (h1 : mget (tbl ck) k = none) (h2 : mget (tbl ck) 0 = none) (m : MsgM) (c : CookM) (hm : m.Kind = k) (hck : c.Kind = ck) : chg m c = .err 33 := by
  have hcs : ck = 3 ∨ ck = 4 ∨ ck = 5 ∨ ck = 6 ∨ ck = 7 ∨ ck = 8 ∨ ck = 9 ∨ ck = 10 ∨ ck = 11 := by omega
  rcases hcs with rfl | rfl | rfl | rfl | rfl | rfl | rfl | rfl | rfl
  · rw [tbl3] at h2
    simp [mget] at h2
  · rw [tbl4] at h1
    by_cases e1 : k = 2
    · subst e1; simp [mget] at h1
    by_cases e2 : k = 3
    · subst e2; simp [mget] at h1
    · simp [chg, hm, hck, e1, e2]
  · rw [tbl5] at h1
    simp [mget] at h1
    simp [chg, hm, hck, h1]
  · rw [tbl6] at h1
    simp [mget] at h1
    simp [chg, hm, hck, h1]
  · rw [tbl7] at h1
    simp [mget] at h1
    simp [chg, hm, hck, h1]
  · rw [tbl8] at h1
    by_cases e1 : k = 1
    · subst e1; simp [mget] at h1
    by_cases e2 : k = 3
    · subst e2; simp [mget] at h1
    · simp [chg, hm, hck, e1, e2]
  · rw [tbl9] at h1
    simp [mget] at h1
    simp [chg, hm, hck, h1]
  · rw [tbl10] at h1
    simp [mget] at h1
    simp [chg, hm, hck, h1]
  · rw [tbl11] at h1
    simp [mget] at h1
    simp [chg, hm, hck, h1]
theorem chg_no (m : MsgM) (c : CookM) (h : ¬ (3 ≤ c.Kind ∧ c.Kind ≤ 11)) : chg m c = .err 33 := by
  unfold chg
  rw [if_neg (by omega : ¬ c.Kind = 3)]
  repeat' (first | rw [if_neg (by omega)] | (split; rfl) | rfl)
theorem pdo_s (pb : Nat) (pv : Value) (l : List ApiPacket) (t : Hp) (hv : AtS pv 26 ApiPacket 3 cvApiPacket l t) (hsz : ∀ x ∈ l, x.Bytes.size ≤ 34359738368) (m : MsgM) (c : CookM) (Γ : List Hp) (h : PotA pb pv m Γ) (hb : MsgB m 1099511627776) (hd : c.Kind = 5 → PotS 106 gDrop) :
    SX.Spec Tryz.prog 23 #[pt pb, ckV c] [t] Γ fun v Γ' => (∃ m', stepC l m c = .ok m' ∧ v = .int .i64 0 ∧ PotA pb pv m' Γ') ∨ (∃ e, stepC l m c = .err e ∧ e ≠ 0 ∧ v = .int .i64 e ∧ PotA pb pv m Γ') := by
  have h' := h
  have hm' := hb
  obtain ⟨k, ⟨e, l1, l2, l3⟩, q1, q2, ⟨a, b, c0, p⟩, ⟨f, u, tt⟩⟩ := m
  obtain ⟨ck, cn, cm, cb, ct⟩ := c
  obtain ⟨v1, s1, v2, s2, v3, s3, x, y, z, hp, o1, o2, o3, rfl⟩ := h
  dsimp only [ckV, ckC] at hp o1 o2 o3 hd h' ⊢
  subst hp
  refine spec_of2 Tryz.func23 Tryz.ntmps23 rfl rfl (fun M w0 => ?_)
  repeat' (first | refine stp ?_|refine v_spD (fun hc=>?_) (fun hc=>?_)|refine v_box (fun bb=>?_)|refine v_1lk (fun lv hlk=>?_) (fun hlk=>?_)|fail)
  · refine v_callB (ptake_s pb pv l t hv hsz _ cn _ h') ?_
    rintro r Γ' hr
    have hst : stepC l ⟨k, ⟨e, l1, l2, l3⟩, q1, q2, ⟨a, b, c0, [x, y, z]⟩, ⟨f, u, tt⟩⟩ ⟨ck, cn, cm, cb, ct⟩ = tk l cn := if_pos hc
    rcases hr with ⟨m', g1, rfl, w1, r1, w2, r2, w3, r3, y1, y2, y3, hp', n1, n2, n3, rfl⟩ | ⟨er, g1, g2, rfl, w1, r1, w2, r2, w3, r3, y1, y2, y3, hp', n1, n2, n3, rfl⟩ <;> (try dsimp only [List.cons_append, List.nil_append]) <;> (repeat' (first | refine stp ?_|refine v_spD (fun hc=>?_) (fun hc=>?_)|refine v_box (fun bb=>?_)|refine v_1lk (fun lv hlk=>?_) (fun hlk=>?_)|fail)) <;> first | (refine v_o1 Tryz.results23 (.inl ⟨m', hst.trans g1, rfl, w1, r1, w2, r2, w3, r3, y1, y2, y3, hp', n1, n2, n3, rfl⟩) ⟨_, inferInstance⟩) | (refine v_o1 Tryz.results23 (.inr ⟨er, hst.trans g1, g2, rfl, w1, r1, w2, r2, w3, r3, y1, y2, y3, hp', n1, n2, n3, rfl⟩) ⟨_, inferInstance⟩)
  · refine v_callO (pblank_s pb pv _ cn _ h') ?_
    rename_i h1
    rintro r Γ' hr
    rcases hr with ⟨g0, rfl, w1, r1, w2, r2, w3, r3, y1, y2, y3, hp', n1, n2, n3, rfl⟩ | ⟨g0, rfl, w1, r1, w2, r2, w3, r3, y1, y2, y3, hp', n1, n2, n3, rfl⟩
    · (try dsimp only [List.cons_append, List.nil_append])
      repeat' (first | refine stp ?_|refine v_spD (fun hc=>?_) (fun hc=>?_)|refine v_box (fun bb=>?_)|refine v_1lk (fun lv hlk=>?_) (fun hlk=>?_)|fail)
      refine v_o1 Tryz.results23 (.inl ⟨blankM cn, (if_neg h1).trans ((if_pos hc).trans (if_pos g0)), rfl, w1, r1, w2, r2, w3, r3, y1, y2, y3, hp', n1, n2, n3, rfl⟩) ⟨_, inferInstance⟩
    · (try dsimp only [List.cons_append, List.nil_append])
      repeat' (first | refine stp ?_|refine v_spD (fun hc=>?_) (fun hc=>?_)|refine v_box (fun bb=>?_)|refine v_1lk (fun lv hlk=>?_) (fun hlk=>?_)|fail)
      refine v_o1 Tryz.results23 (.inr ⟨33, (if_neg h1).trans ((if_pos hc).trans (if_neg g0)), by decide, rfl, w1, r1, w2, r2, w3, r3, y1, y2, y3, hp', n1, n2, n3, rfl⟩) ⟨_, inferInstance⟩
  · rename_i h1
    have hst : stepC l ⟨k, ⟨e, l1, l2, l3⟩, q1, q2, ⟨a, b, c0, [x, y, z]⟩, ⟨f, u, tt⟩⟩ ⟨ck, cn, cm, cb, ct⟩ = chg ⟨k, ⟨e, l1, l2, l3⟩, q1, q2, ⟨a, b, c0, [x, y, z]⟩, ⟨f, u, tt⟩⟩ ⟨ck, cn, cm, cb, ct⟩ := (if_neg h1).trans (if_neg hc)
    refine v_callR (steps_s ck) ?_
    rintro r Γ' (⟨g1, g2, bm, sm, rfl, hm, rfl⟩ | ⟨hno, rfl, rfl⟩)
    · have hk : ck = 3 ∨ ck = 4 ∨ ck = 5 ∨ ck = 6 ∨ ck = 7 ∨ ck = 8 ∨ ck = 9 ∨ ck = 10 ∨ ck = 11 := by omega
      (try dsimp only [List.cons_append, List.nil_append])
      have hch := fun (h0 : k = 0) => (show chg ⟨k, ⟨e, l1, l2, l3⟩, q1, q2, ⟨a, b, c0, [x, y, z]⟩, ⟨f, u, tt⟩⟩ ⟨ck, cn, cm, cb, ct⟩ = .err 33 from if_pos h0)
      repeat' (first | refine stp ?_|refine v_spD (fun hc=>?_) (fun hc=>?_)|refine v_box (fun bb=>?_)|refine v_1lk (fun lv hlk=>?_) (fun hlk=>?_)|fail)
      · refine v_o1 Tryz.results23 (.inr ⟨33, hst.trans (hch hc), by decide, rfl, v1, s1, v2, s2, v3, s3, x, y, z, rfl, o1, o2, o3, rfl⟩) ⟨_, inferInstance⟩
      · obtain ⟨ff, g, rfl, hfn, hps, hcg⟩ := tbl_get ⟨g1, g2⟩ hc (.inl hlk) hd
        rw [hcg _ _ rfl rfl] at hst
        refine v_callVO (hps pb pv _ ⟨ck, cn, cm, cb, ct⟩ _ h' hm') ?_
        rintro r Γ' hr
        rcases hr with ⟨m', g1, rfl, w1, r1, w2, r2, w3, r3, y1, y2, y3, hp', n1, n2, n3, rfl⟩ | ⟨er, g1, g2, rfl, w1, r1, w2, r2, w3, r3, y1, y2, y3, hp', n1, n2, n3, rfl⟩ <;> (try dsimp only [List.cons_append, List.nil_append]) <;> (repeat' (first | refine stp ?_|refine v_spD (fun hc=>?_) (fun hc=>?_)|refine v_box (fun bb=>?_)|refine v_1lk (fun lv hlk=>?_) (fun hlk=>?_)|fail)) <;> first | (refine v_o1 Tryz.results23 (.inl ⟨m', hst.trans g1, rfl, w1, r1, w2, r2, w3, r3, y1, y2, y3, hp', n1, n2, n3, rfl⟩) ⟨_, inferInstance⟩) | (refine v_o1 Tryz.results23 (.inr ⟨er, hst.trans g1, g2, rfl, w1, r1, w2, r2, w3, r3, y1, y2, y3, hp', n1, n2, n3, rfl⟩) ⟨_, inferInstance⟩)
      · refine v_o1 Tryz.results23 (.inr ⟨33, hst.trans (hch hc), by decide, rfl, v1, s1, v2, s2, v3, s3, x, y, z, rfl, o1, o2, o3, rfl⟩) ⟨_, inferInstance⟩
      · rename_i hn1
        obtain ⟨ff, g, rfl, hfn, hps, hcg⟩ := tbl_get ⟨g1, g2⟩ hc (.inr ⟨hn1, hlk⟩) hd
        rw [hcg _ _ rfl rfl] at hst
        refine v_callVO (hps pb pv _ ⟨ck, cn, cm, cb, ct⟩ _ h' hm') ?_
        rintro r Γ' hr
        rcases hr with ⟨m', g1, rfl, w1, r1, w2, r2, w3, r3, y1, y2, y3, hp', n1, n2, n3, rfl⟩ | ⟨er, g1, g2, rfl, w1, r1, w2, r2, w3, r3, y1, y2, y3, hp', n1, n2, n3, rfl⟩ <;> (try dsimp only [List.cons_append, List.nil_append]) <;> (repeat' (first | refine stp ?_|refine v_spD (fun hc=>?_) (fun hc=>?_)|refine v_box (fun bb=>?_)|refine v_1lk (fun lv hlk=>?_) (fun hlk=>?_)|fail)) <;> first | (refine v_o1 Tryz.results23 (.inl ⟨m', hst.trans g1, rfl, w1, r1, w2, r2, w3, r3, y1, y2, y3, hp', n1, n2, n3, rfl⟩) ⟨_, inferInstance⟩) | (refine v_o1 Tryz.results23 (.inr ⟨er, hst.trans g1, g2, rfl, w1, r1, w2, r2, w3, r3, y1, y2, y3, hp', n1, n2, n3, rfl⟩) ⟨_, inferInstance⟩)
      · rename_i hn1
        refine v_o1 Tryz.results23 (.inr ⟨33, hst.trans (tbl_none ⟨g1, g2⟩ hn1 hlk _ _ rfl rfl), by decide, rfl, v1, s1, v2, s2, v3, s3, x, y, z, rfl, o1, o2, o3, rfl⟩) ⟨_, inferInstance⟩
    · (try dsimp only [List.cons_append, List.nil_append])
      repeat' (first | refine stp ?_|refine v_spD (fun hc=>?_) (fun hc=>?_)|refine v_box (fun bb=>?_)|refine v_1lk (fun lv hlk=>?_) (fun hlk=>?_)|fail)
      refine v_o1 Tryz.results23 (.inr ⟨33, hst.trans (chg_no _ _ hno), by decide, rfl, v1, s1, v2, s2, v3, s3, x, y, z, rfl, o1, o2, o3, rfl⟩) ⟨_, inferInstance⟩
end Go.Proofs.YtdfoijfjlhjeaaaGreat

/- spy.Cook. -/
namespace Go.Proofs.YtdfoijfjlhjeaaaGreat
open Go Go.SX Go.RowKit
set_option maxRecDepth 100000
set_option maxHeartbeats 0
set_option synthInstance.maxSize 100000
set_option synthInstance.maxHeartbeats 400000
@[reducible] def toCk (c : ApiCook) : CookM := ⟨c.Kind, c.N, c.M, c.Box, c.Text.data.toList⟩
def cookF (l : List ApiPacket) : MsgM → List CookM → St1
  | m, [] => .ok m
  | m, c :: cs => match stepC l m c with
    | .ok m' => cookF l m' cs
    | .err e => .err e
theorem cookF_snoc (l : List ApiPacket) (c : CookM) : ∀ (cs : List CookM) (m : MsgM), cookF l m (cs ++ [c]) = match cookF l m cs with
    | .ok m' => stepC l m' c
    | .err e => .err e
  | [], m => by
    show (match stepC l m c with | .ok m' => cookF l m' [] | .err e => .err e) = stepC l m c
    cases stepC l m c <;> rfl
  | d :: cs, m => by
    show (match stepC l m d with | .ok m' => cookF l m' (cs ++ [c]) | .err e => .err e) = match (match stepC l m d with | .ok m' => cookF l m' cs | .err e => .err e) with | .ok m' => stepC l m' c | .err e => .err e
    cases stepC l m d with
    | ok m' => exact cookF_snoc l c cs m'
    | err e => rfl
theorem cookF_err (l : List ApiPacket) (e : Int) : ∀ (cs ds : List CookM) (m : MsgM), cookF l m cs = .err e → cookF l m (cs ++ ds) = .err e
  | [], _, m, h => by cases h
  | d :: cs, ds, m, h => by
    show (match stepC l m d with | .ok m' => cookF l m' (cs ++ ds) | .err e => .err e) = _
    have h' : (match stepC l m d with | .ok m' => cookF l m' cs | .err e => .err e) = .err e := h
    cases hs : stepC l m d with
    | ok m' => rw [hs] at h'; exact cookF_err l e cs ds m' h'
    | err e' => rw [hs] at h'; exact h'
theorem MsgB.le {m : MsgM} {n k : Nat} (h : MsgB m n) (hk : n ≤ k) : MsgB m k := ⟨Nat.le_trans h.h1 hk, Nat.le_trans h.h2 hk, Nat.le_trans h.h3 hk⟩
theorem msgB_dec {u : List UInt8} {x : Body} (h : decP u = some x) : MsgB x.msg 2047 := by
  have ho := (dec_ok h).2
  have p7 : (2 : Int) ^ 7 = 128 := rfl
  have hi := (bxs_len h).2
  cases x with
  | rekey r =>
    obtain ⟨⟨⟨_, h1, _⟩, h2, _⟩, _⟩ := ho
    have e1 := h1.2
    have e2 := h2.2
    exact ⟨by show r.Leaves.length ≤ _; omega, by show r.Joins.length ≤ _; omega, hi⟩
  | _ => exact ⟨Nat.zero_le _, Nat.zero_le _, Nat.zero_le _⟩
theorem msgB_tk {l : List ApiPacket} {n : Int} {m : MsgM} (h : tk l n = .ok m) : MsgB m 2047 := by
  unfold tk at h
  split at h
  · cases h
  · split at h
    · cases h
    · rename_i hx
      cases h
      exact msgB_dec hx
theorem mb_ep {m : MsgM} {n : Int} {k : Nat} (hb : MsgB m k) : MsgB (setEp m n) k := by
  obtain ⟨h1, h2, h3⟩ := hb
  unfold setEp
  by_cases e1 : m.Kind = 1
  · rw [if_pos e1]; exact ⟨h1, h2, h3⟩
  rw [if_neg e1]
  by_cases e2 : m.Kind = 2
  · rw [if_pos e2]; exact ⟨h1, h2, h3⟩
  rw [if_neg e2]
  by_cases e3 : m.Kind = 3
  · rw [if_pos e3]; exact ⟨h1, h2, h3⟩
  rw [if_neg e3]
  by_cases e4 : m.Kind = 4
  · rw [if_pos e4]; exact ⟨h1, h2, h3⟩
  · rw [if_neg e4]; exact ⟨h1, h2, h3⟩
theorem mb_blank {kd : Int} {k : Nat} : MsgB (blankM kd) k := by
  unfold blankM
  by_cases e1 : kd = 1
  · rw [if_pos e1]; exact ⟨Nat.zero_le _, Nat.zero_le _, Nat.zero_le _⟩
  rw [if_neg e1]
  by_cases e2 : kd = 2
  · rw [if_pos e2]; exact ⟨Nat.zero_le _, Nat.zero_le _, Nat.zero_le _⟩
  rw [if_neg e2]
  by_cases e3 : kd = 3
  · rw [if_pos e3]; exact ⟨Nat.zero_le _, Nat.zero_le _, Nat.zero_le _⟩
  · rw [if_neg e3]; exact ⟨Nat.zero_le _, Nat.zero_le _, Nat.zero_le _⟩
theorem ite_ok {p : Prop} [Decidable p] {a b : St1} {m : MsgM} (h : (if p then a else b) = .ok m) : (p ∧ a = .ok m) ∨ (¬ p ∧ b = .ok m) := by
  by_cases hp : p
  · rw [if_pos hp] at h; exact .inl ⟨hp, h⟩
  · rw [if_neg hp] at h; exact .inr ⟨hp, h⟩
theorem msgB_step {l : List ApiPacket} {m m' : MsgM} {c : CookM} {n : Nat} (h : stepC l m c = .ok m') (hb : MsgB m n) (hn : 2047 ≤ n) : MsgB m' (n + 1) := by
  have hb' : MsgB m (n + 1) := hb.le (Nat.le_succ n)
  obtain ⟨h1, h2, h3⟩ := hb
  obtain ⟨g1, g2, g3⟩ := hb'
  rcases ite_ok h with ⟨_, h⟩ | ⟨_, h⟩
  · exact (msgB_tk h).le (by omega)
  rcases ite_ok h with ⟨_, h⟩ | ⟨_, h⟩
  · rcases ite_ok h with ⟨_, h⟩ | ⟨_, h⟩
    · cases h; exact mb_blank
    · cases h
  rcases ite_ok h with ⟨_, h⟩ | ⟨_, h⟩
  · cases h
  rcases ite_ok h with ⟨_, h⟩ | ⟨_, h⟩
  · cases h; exact mb_ep ⟨g1, g2, g3⟩
  rcases ite_ok h with ⟨_, h⟩ | ⟨_, h⟩
  · cases h; exact ⟨g1, g2, g3⟩
  rcases ite_ok h with ⟨_, h⟩ | ⟨_, h⟩
  · cases h; exact ⟨g1, g2, g3⟩
  rcases ite_ok h with ⟨_, h⟩ | ⟨_, h⟩
  · rcases ite_ok h with ⟨_, h⟩ | ⟨_, h⟩
    · cases h
      exact ⟨g1, g2, Nat.le_trans (List.length_eraseIdx_le m.Rekey.Items c.N.toNat) g3⟩
    · cases h
  rcases ite_ok h with ⟨_, h⟩ | ⟨_, h⟩
  · unfold gSwap at h
    by_cases hc : (0 ≤ c.N ∧ c.N < m.Rekey.Items.length) ∧ (0 ≤ c.M ∧ c.M < m.Rekey.Items.length)
    · rw [dif_pos hc] at h; cases h; exact ⟨g1, g2, by dsimp only; rw [List.length_set, List.length_set]; exact g3⟩
    · rw [dif_neg hc] at h; cases h
  rcases ite_ok h with ⟨_, h⟩ | ⟨_, h⟩
  · cases h; exact ⟨g1, g2, by dsimp only; rw [List.length_append]; simp only [List.length_cons, List.length_nil]; omega⟩
  rcases ite_ok h with ⟨_, h⟩ | ⟨_, h⟩
  · unfold gItemBox at h
    by_cases hc : 0 ≤ c.N ∧ c.N < m.Rekey.Items.length
    · rw [dif_pos hc] at h; cases h; exact ⟨g1, g2, by dsimp only; rw [List.length_set]; exact g3⟩
    · rw [dif_neg hc] at h; cases h
  rcases ite_ok h with ⟨_, h⟩ | ⟨_, h⟩
  · rcases ite_ok h with ⟨_, h⟩ | ⟨_, h⟩
    · cases h; exact ⟨g1, g2, g3⟩
    · cases h
  rcases ite_ok h with ⟨_, h⟩ | ⟨_, h⟩
  · cases h; exact ⟨by dsimp only; rw [List.length_append]; simp only [List.length_cons, List.length_nil]; omega, g2, g3⟩
  rcases ite_ok h with ⟨_, h⟩ | ⟨_, h⟩
  · cases h; exact ⟨g1, by dsimp only; rw [List.length_append]; simp only [List.length_cons, List.length_nil]; omega, g3⟩
  rcases ite_ok h with ⟨_, h⟩ | ⟨_, h⟩
  · cases h; exact ⟨g1, g2, g3⟩
  · cases h
/-- what Cook answers -/
def CookR (l : List ApiPacket) (cs : List CookM) (V : Value) : Prop :=
  (∃ e, cookF l (zM 0) cs = .err e ∧ e ≠ 0 ∧ V = .tuple #[str [], .int .i64 e]) ∨ (∃ m, cookF l (zM 0) cs = .ok m ∧ ((m.Kind = 0 ∧ V = .tuple #[str [], .int .i64 33]) ∨ (¬ m.Kind = 0 ∧ ¬ GoodM m ∧ V = .tuple #[str [], .int .i64 13]) ∨ (¬ m.Kind = 0 ∧ ∃ x u, m = x.msg ∧ GoodM x.msg ∧ Packs (wBody x) u ∧ V = .tuple #[str u, .int .i64 0])))
structure CkG where
  i : Nat
  m : MsgM
  v1 : Value
  s1 : Hp
  v2 : Value
  s2 : Hp
  v3 : Value
  s3 : Hp
  x : ApiBox
  y : ApiBox
  z : ApiBox
structure CkOk (l : List ApiPacket) (r : List ApiCook) (g : CkG) : Prop where
  le : g.i ≤ r.length
  eq : cookF l (zM 0) ((r.take g.i).map toCk) = .ok g.m
  mb : MsgB g.m (2047 + g.i)
  hp : g.m.Reply.Path = [g.x, g.y, g.z]
  o1 : OwnS g.v1 162 ApiSeat 2 cvApiSeat g.m.Rekey.Leaves g.s1
  o2 : OwnS g.v2 162 ApiSeat 2 cvApiSeat g.m.Rekey.Joins g.s2
  o3 : OwnS g.v3 62 ApiItem 6 cvApiItem g.m.Rekey.Items g.s3
theorem cook_s (pv : Value) (l : List ApiPacket) (t : Hp) (hv : AtS pv 26 ApiPacket 3 cvApiPacket l t) (hsz : ∀ x ∈ l, x.Bytes.size ≤ 34359738368) (rv : Value) (r : List ApiCook) (q : Hp) (hr : AtS rv 32 ApiCook 8 cvApiCook r q) (hrl : r.length ≤ 1073741824) (hd : (∃ c ∈ r, c.Kind = 5) → PotS 106 gDrop) :
    SX.Spec Tryz.prog 8 #[pv, rv] [t, q] [] fun V Γ => CookR l (r.map toCk) V ∧ Γ = [] := by
  have hle := AtS.le hr
  refine spec_of2 Tryz.func8 Tryz.ntmps8 rfl rfl (fun M w0 => ?_)
  repeat' (first | refine stp ?_|(refine v_spT ?_ ?_;omega)|(refine v_spF ?_ ?_;omega)|refine v_spD (fun hc=>?_) (fun hc=>?_)|(refine v_yc ?_ ?_;omega)|refine v_alloc' (fun ba=>?_)|refine v_box (fun bb=>?_)|fail)
  refine v_lp [15] [6, 13, 14] (fun g : CkG => [.int .i64 g.i]) (fun g => [[(bb, .cells (potC pv g.m.Kind g.m.Rekey.Epoch g.v1 g.v2 g.v3 g.m.Who g.m.Epoch g.m.Reply.Who g.m.Reply.Slot g.m.Reply.Epoch g.x g.y g.z g.m.Sealed.Epoch g.m.Sealed.Under g.m.Sealed.Text) 77 (0, 0))], g.s1, g.s2, g.s3]) (CkOk l r) (fun g => r.length - g.i) ⟨0, zM 0, .slice none 0 0, [], .slice none 0 0, [], .slice none 0 0, [], b0, b0, b0⟩ (fun _ => rfl) rfl inferInstance ⟨Nat.zero_le _, rfl, ⟨Nat.zero_le _, Nat.zero_le _, Nat.zero_le _⟩, rfl, OwnS.nil, OwnS.nil, OwnS.nil⟩ ?_
  rintro ⟨i, m, v1, s1, v2, s2, v3, s3, x, y, z⟩ ⟨hi, heq, hmb, hp, o1, o2, o3⟩
  dsimp only at hi heq hmb hp o1 o2 o3 ⊢
  (try dsimp only [zipE_c, zipE_n, List.cons_append, List.nil_append])
  rcases Nat.lt_or_ge i r.length with hlt | hge
  · repeat' (first | refine stp ?_|(refine v_spT ?_ ?_;omega)|(refine v_spF ?_ ?_;omega)|refine v_spD (fun hc=>?_) (fun hc=>?_)|(refine v_yc ?_ ?_;omega)|refine v_alloc' (fun ba=>?_)|refine v_box (fun bb=>?_)|fail)
    rw [bs_of r[i].Text]
    refine v_callB (pdo_s bb pv l t hv hsz m (toCk r[i]) _ ⟨v1, s1, v2, s2, v3, s3, x, y, z, hp, o1, o2, o3, rfl⟩ (hmb.le (by omega)) (fun h5 => hd ⟨r[i], List.getElem_mem hlt, h5⟩)) ?_
    have hsn : cookF l (zM 0) ((r.take (i + 1)).map toCk) = stepC l m (toCk r[i]) := by
      rw [map_take1 toCk hlt, cookF_snoc, heq]
    rintro u Γ' (⟨m', g1, rfl, w1, r1, w2, r2, w3, r3, y1, y2, y3, hp', n1, n2, n3, rfl⟩ | ⟨er, g1, g2, rfl, w1, r1, w2, r2, w3, r3, y1, y2, y3, hp', n1, n2, n3, rfl⟩)
    · (try dsimp only [List.cons_append, List.nil_append])
      repeat' (first | refine stp ?_|(refine v_spT ?_ ?_;omega)|(refine v_spF ?_ ?_;omega)|refine v_spD (fun hc=>?_) (fun hc=>?_)|(refine v_yc ?_ ?_;omega)|refine v_alloc' (fun ba=>?_)|refine v_box (fun bb=>?_)|fail)
      refine v_again ⟨i + 1, m', w1, r1, w2, r2, w3, r3, y1, y2, y3⟩ (by dsimp only; omega) rfl inferInstance ⟨hlt, hsn.trans g1, (msgB_step g1 hmb (by omega)).le (by dsimp only; omega), hp', n1, n2, n3⟩
    · have hall : cookF l (zM 0) (r.map toCk) = .err er := by
        have e1 : r.map toCk = (r.take (i + 1)).map toCk ++ (r.drop (i + 1)).map toCk := by rw [← List.map_append, List.take_append_drop]
        rw [e1]
        exact cookF_err l er _ _ _ (hsn.trans g1)
      (try dsimp only [List.cons_append, List.nil_append])
      repeat' (first | refine stp ?_|(refine v_spT ?_ ?_;omega)|(refine v_spF ?_ ?_;omega)|refine v_spD (fun hc=>?_) (fun hc=>?_)|(refine v_yc ?_ ?_;omega)|refine v_alloc' (fun ba=>?_)|refine v_box (fun bb=>?_)|fail)
      refine v_o2 Tryz.results8 ⟨.inl ⟨er, hall, g2, rfl⟩, rfl⟩ ⟨_, inferInstance⟩
  · obtain rfl : i = r.length := by omega
    rw [List.take_length] at heq
    repeat' (first | refine stp ?_|(refine v_spT ?_ ?_;omega)|(refine v_spF ?_ ?_;omega)|refine v_spD (fun hc=>?_) (fun hc=>?_)|(refine v_yc ?_ ?_;omega)|refine v_alloc' (fun ba=>?_)|refine v_box (fun bb=>?_)|fail)
    · refine v_o2 Tryz.results8 ⟨.inr ⟨m, heq, .inl ⟨hc, rfl⟩⟩, rfl⟩ ⟨_, inferInstance⟩
    · have hb1 := hmb.h1
      have hb2 := hmb.h2
      have hb3 := hmb.h3
      refine v_callR (enc_s m v1 v2 v3 s1 s2 s3 _ ⟨x, y, z, hp, rfl⟩ o1 o2 o3 (by omega)) ?_
      rintro u Γ' ⟨rfl, ⟨x', u', hm', hg, hpk, rfl⟩ | ⟨hg, rfl⟩⟩
      · (try dsimp only [List.cons_append, List.nil_append])
        repeat' (first | refine stp ?_|(refine v_spT ?_ ?_;omega)|(refine v_spF ?_ ?_;omega)|refine v_spD (fun hc=>?_) (fun hc=>?_)|(refine v_yc ?_ ?_;omega)|refine v_alloc' (fun ba=>?_)|refine v_box (fun bb=>?_)|fail)
        refine v_o2 Tryz.results8 ⟨.inr ⟨m, heq, .inr (.inr ⟨hc, x', u', hm', hg, hpk, rfl⟩)⟩, rfl⟩ ⟨_, inferInstance⟩
      · (try dsimp only [List.cons_append, List.nil_append])
        repeat' (first | refine stp ?_|(refine v_spT ?_ ?_;omega)|(refine v_spF ?_ ?_;omega)|refine v_spD (fun hc=>?_) (fun hc=>?_)|(refine v_yc ?_ ?_;omega)|refine v_alloc' (fun ba=>?_)|refine v_box (fun bb=>?_)|fail)
        refine v_o2 Tryz.results8 ⟨.inr ⟨m, heq, .inr (.inl ⟨hc, hg, rfl⟩)⟩, rfl⟩ ⟨_, inferInstance⟩
end Go.Proofs.YtdfoijfjlhjeaaaGreat

/- spy.drop. -/
namespace Go.Proofs.YtdfoijfjlhjeaaaGreat
open Go Go.SX Go.RowKit
set_option maxRecDepth 100000
set_option maxHeartbeats 0
set_option synthInstance.maxSize 100000
set_option synthInstance.maxHeartbeats 400000
theorem pdrop_s : PotS 106 gDrop := by
  rintro pb pv ⟨k, ⟨e, l1, l2, l3⟩, q1, q2, ⟨a, b, c, p⟩, ⟨f, u, t⟩⟩ ⟨ck, cn, cm, cb, ct⟩ Γ ⟨v1, s1, v2, s2, v3, s3, x, y, z, hp, o1, o2, o3, rfl⟩ ⟨hb1, hb2, hb3⟩; dsimp only [ckV, ckC] at hp o1 o2 o3 hb1 hb2 hb3 ⊢; subst hp
  refine spec_of2 Tryz.func106 Tryz.ntmps106 rfl rfl (fun M w0 => ?_)
  repeat' (first | refine stp ?_|refine v_spD (fun hc=>?_) (fun hc=>?_)|refine v_box (fun bb=>?_)|refine ⟨?_,?_,?_⟩|refine ⟨?_,?_⟩|(refine v_tyc ?_ ?_;omega)|refine v_tValT (by decide +kernel) ?_|refine v_drawn0 (id:=1) pl106_1 (by kernel_rfl) ?_|fail)
  · refine v_o1 Tryz.results106 (.inr ⟨_, if_neg hc, (by decide), rfl, v1, s1, v2, s2, v3, s3, x, y, z, rfl, o1, o2, o3, rfl⟩) ⟨_, inferInstance⟩
  · have hc' := Decidable.not_not.1 hc
    obtain ⟨i, rfl⟩ : ∃ q : Nat, cn = q := ⟨cn.toNat, by omega⟩
    refine v_drawn (id:=3) 17 pl106_3 [[(bb, .cells #[.int .i64 ck, .int .i64 (i : Int), .int .i64 cm, .int .i64 cb.Under.Base, .int .i64 cb.Under.Step, .int .i64 cb.Load.Base, .int .i64 cb.Load.Step, str ct] 32 (0, 0))]] [[(pb, .cells (potC pv k e v1 v2 v3 q1 q2 a b c x y z f u t) 77 (0, 0))]] (by kernel_rfl) ?_
    repeat' (first | refine stp ?_|refine v_spD (fun hc=>?_) (fun hc=>?_)|refine v_box (fun bb=>?_)|refine ⟨?_,?_,?_⟩|refine ⟨?_,?_⟩|(refine v_tyc ?_ ?_;omega)|refine v_tValT (by decide +kernel) ?_|refine v_drawn0 (id:=1) pl106_1 (by kernel_rfl) ?_|refine v_drawnK (id:=3) 17 pl106_3 (by kernel_rfl) ?_|fail)
    refine v_callO (del_s o3 i (by omega) (by omega)) ?_
    rintro v Γ' ⟨s', hs', rfl⟩
    (try dsimp only [List.cons_append, List.nil_append])
    repeat' (first | refine stp ?_|refine v_spD (fun hc=>?_) (fun hc=>?_)|refine v_box (fun bb=>?_)|refine ⟨?_,?_,?_⟩|refine ⟨?_,?_⟩|(refine v_tyc ?_ ?_;omega)|refine v_tValT (by decide +kernel) ?_|refine v_drawn0 (id:=1) pl106_1 (by kernel_rfl) ?_|refine v_drawnK (id:=3) 17 pl106_3 (by kernel_rfl) ?_|fail)
    refine v_o1 Tryz.results106 (.inl ⟨⟨k, ⟨e, l1, l2, l3.eraseIdx i⟩, q1, q2, ⟨a, b, c, [x, y, z]⟩, ⟨f, u, t⟩⟩, if_pos hc', rfl, v1, s1, v2, s2, _, s', x, y, z, rfl, o1, o2, hs', rfl⟩) ⟨_, inferInstance⟩
end Go.Proofs.YtdfoijfjlhjeaaaGreat

/- coterieref21.own, blank, take, epoch. -/
namespace Go.Proofs.YtdfoijfjlhjeaaaGreat
open Go Go.SX Go.RowKit
set_option maxRecDepth 100000
set_option maxHeartbeats 0
set_option synthInstance.maxSize 100000
set_option synthInstance.maxHeartbeats 400000
instance rown_pc : PC Tryz.prog 69 #[] (.agg #[.int .i64 32768, .int .i64 0]) := ⟨by
  refine spec_of0 Tryz.func69 Tryz.ntmps69 rfl rfl (fun M w0 => ?_)
  repeat' (first | refine stp ?_|refine v_alloc' (fun ba=>?_)|fail)
  refine v_out1 (Γk := []) Tryz.results69 ⟨rfl, rfl⟩⟩
/-- a message without slices -/
abbrev msgN (m : MsgM) (x y z : ApiBox) : Array Value := msgC m.Kind m.Rekey.Epoch nilS nilS nilS m.Who m.Epoch m.Reply.Who m.Reply.Slot m.Reply.Epoch x y z m.Sealed.Epoch m.Sealed.Under m.Sealed.Text
theorem rblank_s (kd : Int) (h4 : 1 ≤ kd ∧ kd ≤ 4) : SX.Spec Tryz.prog 26 #[.int .i64 kd] [] [] fun V Γ => (∃ x y z, (blankM kd).Reply.Path = [x, y, z] ∧ V = .agg (msgN (blankM kd) x y z)) ∧ Γ = [] := by
  refine spec_of1 Tryz.func26 Tryz.ntmps26 rfl rfl (fun M w0 => ?_)
  have h4 : kd = 1 ∨ kd = 2 ∨ kd = 3 ∨ kd = 4 := by omega
  rcases h4 with rfl | rfl | rfl | rfl
  · repeat' (first | refine stp ?_|(refine v_spT ?_ ?_;omega)|(refine v_spF ?_ ?_;omega)|(refine v_yc ?_ ?_;omega)|refine v_alloc' (fun ba=>?_)|fail)
    refine v_o1 Tryz.results26 ⟨⟨b0, b0, b0, rfl, rfl⟩, rfl⟩ ⟨_, inferInstance⟩
  · repeat' (first | refine stp ?_|(refine v_spT ?_ ?_;omega)|(refine v_spF ?_ ?_;omega)|(refine v_yc ?_ ?_;omega)|refine v_alloc' (fun ba=>?_)|fail)
    refine v_o1 Tryz.results26 ⟨⟨b0, b0, b0, rfl, rfl⟩, rfl⟩ ⟨_, inferInstance⟩
  · repeat' (first | refine stp ?_|(refine v_spT ?_ ?_;omega)|(refine v_spF ?_ ?_;omega)|(refine v_yc ?_ ?_;omega)|refine v_alloc' (fun ba=>?_)|fail)
    refine v_lp [4] [2, 3] (fun i : Nat => [.int .i64 i]) (fun i => [[(ba, .cells (msgC 3 0 nilS nilS nilS 0 0 0 0 1 (repP i).1 (repP i).2.1 (repP i).2.2 0 k0 []) 49 (0, 0))]]) (fun i => i ≤ 3) (fun i => 3 - i) 0 (fun _ => rfl) rfl inferInstance (Nat.zero_le _) ?_
    rintro i hi
    have h4 : i = 0 ∨ i = 1 ∨ i = 2 ∨ i = 3 := by omega
    rcases h4 with rfl | rfl | rfl | rfl
    · (try dsimp only [zipE_c, zipE_n, List.cons_append, List.nil_append])
      rw [show ((0 : Nat) : Int) = 0 from rfl]
      simp only [repP]
      repeat' (first | refine stp ?_|(refine v_spT ?_ ?_;omega)|(refine v_spF ?_ ?_;omega)|(refine v_yc ?_ ?_;omega)|refine v_alloc' (fun ba=>?_)|fail)
      rw [show 7 + 3 + Int.toNat 0 * 4 = 10 from rfl]
      repeat' (first | refine stp ?_|(refine v_spT ?_ ?_;omega)|(refine v_spF ?_ ?_;omega)|(refine v_yc ?_ ?_;omega)|refine v_alloc' (fun ba=>?_)|fail)
      exact v_again 1 (by omega) rfl inferInstance (by omega)
    · (try dsimp only [zipE_c, zipE_n, List.cons_append, List.nil_append])
      rw [show ((1 : Nat) : Int) = 1 from rfl]
      simp only [repP]
      repeat' (first | refine stp ?_|(refine v_spT ?_ ?_;omega)|(refine v_spF ?_ ?_;omega)|(refine v_yc ?_ ?_;omega)|refine v_alloc' (fun ba=>?_)|fail)
      rw [show 7 + 3 + Int.toNat 1 * 4 = 14 from rfl]
      repeat' (first | refine stp ?_|(refine v_spT ?_ ?_;omega)|(refine v_spF ?_ ?_;omega)|(refine v_yc ?_ ?_;omega)|refine v_alloc' (fun ba=>?_)|fail)
      exact v_again 2 (by omega) rfl inferInstance (by omega)
    · (try dsimp only [zipE_c, zipE_n, List.cons_append, List.nil_append])
      rw [show ((2 : Nat) : Int) = 2 from rfl]
      simp only [repP]
      repeat' (first | refine stp ?_|(refine v_spT ?_ ?_;omega)|(refine v_spF ?_ ?_;omega)|(refine v_yc ?_ ?_;omega)|refine v_alloc' (fun ba=>?_)|fail)
      rw [show 7 + 3 + Int.toNat 2 * 4 = 18 from rfl]
      repeat' (first | refine stp ?_|(refine v_spT ?_ ?_;omega)|(refine v_spF ?_ ?_;omega)|(refine v_yc ?_ ?_;omega)|refine v_alloc' (fun ba=>?_)|fail)
      exact v_again 3 (by omega) rfl inferInstance (by omega)
    · (try dsimp only [zipE_c, zipE_n, List.cons_append, List.nil_append])
      rw [show ((3 : Nat) : Int) = 3 from rfl]
      simp only [repP]
      repeat' (first | refine stp ?_|(refine v_spT ?_ ?_;omega)|(refine v_spF ?_ ?_;omega)|(refine v_yc ?_ ?_;omega)|refine v_alloc' (fun ba=>?_)|fail)
      refine v_o1 Tryz.results26 ⟨⟨obox, obox, obox, rfl, rfl⟩, rfl⟩ ⟨_, inferInstance⟩
  · repeat' (first | refine stp ?_|(refine v_spT ?_ ?_;omega)|(refine v_spF ?_ ?_;omega)|(refine v_yc ?_ ?_;omega)|refine v_alloc' (fun ba=>?_)|fail)
    refine v_o1 Tryz.results26 ⟨⟨b0, b0, b0, rfl, rfl⟩, rfl⟩ ⟨_, inferInstance⟩
theorem repoch_s (m : MsgM) (v1 v2 v3 : Value) (cs : Array Value) (n : Int) (hm : MsgC m v1 v2 v3 cs) (h1 : One v1) (h2 : One v2) (h3 : One v3) : SX.Spec Tryz.prog 70 #[.agg cs, .int .i64 n] [] [] fun V Γ => (∃ cs', MsgC (setEp m n) v1 v2 v3 cs' ∧ V = .agg cs') ∧ Γ = [] := by
  obtain ⟨k, ⟨e, l1, l2, l3⟩, q1, q2, ⟨a, b, c, p⟩, ⟨f, u, t⟩⟩ := m
  obtain ⟨x, y, z, hp, rfl⟩ := hm
  dsimp only at hp ⊢
  subst hp
  refine spec_of2 Tryz.func70 Tryz.ntmps70 rfl rfl (fun M w0 => ?_)
  repeat' (first | refine stp ?_|refine v_spD (fun hc=>?_) (fun hc=>?_)|refine v_alloc' (fun ba=>?_)|refine v_box (fun bb=>?_)|fail)
  · refine v_o1 Tryz.results70 ⟨⟨_, ⟨x, y, z, by simp [setEp, hc], by simp [setEp, hc]⟩, rfl⟩, rfl⟩ ⟨_, inferInstance⟩
  · refine v_o1 Tryz.results70 ⟨⟨_, ⟨x, y, z, by simp [setEp, hc], by simp [setEp, hc]⟩, rfl⟩, rfl⟩ ⟨_, inferInstance⟩
  · refine v_o1 Tryz.results70 ⟨⟨_, ⟨x, y, z, by simp [setEp, hc], by simp [setEp, hc]⟩, rfl⟩, rfl⟩ ⟨_, inferInstance⟩
  · refine v_o1 Tryz.results70 ⟨⟨_, ⟨x, y, z, by simp [setEp, hc], by simp [setEp, hc]⟩, rfl⟩, rfl⟩ ⟨_, inferInstance⟩
  · refine v_o1 Tryz.results70 ⟨⟨_, ⟨x, y, z, by simp [setEp, *], by simp [setEp, *]⟩, rfl⟩, rfl⟩ ⟨_, inferInstance⟩
theorem rctake_s (pv : Value) (l : List ApiPacket) (t : Hp) (hv : AtS pv 26 ApiPacket 3 cvApiPacket l t) (hsz : ∀ x ∈ l, x.Bytes.size ≤ 34359738368) (n : Int) : SX.Spec Tryz.prog 25 #[pv, .int .i64 n] [t] [] fun v Γ' =>
    (∃ m' cs, tk l n = .ok m' ∧ MsgO m' cs Γ' ∧ v = .tuple #[.agg cs, .int .i64 0]) ∨ (∃ e, tk l n = .err e ∧ e ≠ 0 ∧ v = .tuple #[.agg (z26 0), .int .i64 e] ∧ Γ' = []) := by
  have hle := AtS.le hv
  refine spec_of2 Tryz.func25 Tryz.ntmps25 rfl rfl (fun M w0 => ?_)
  repeat' (first | refine stp ?_|(refine v_spT ?_ ?_;omega)|(refine v_spF ?_ ?_;omega)|refine v_spD (fun hc=>?_) (fun hc=>?_)|(refine v_yc ?_ ?_;omega)|refine v_alloc' (fun ba=>?_)|fail)
  refine v_lp [12] [1, 4, 10, 11] (fun i : Nat => [.int .i64 i]) (fun i => []) (fun i => i ≤ l.length ∧ ∀ y ∈ l.take i, y.N ≠ n) (fun i => l.length - i) 0 (fun _ => rfl) rfl inferInstance ⟨Nat.zero_le _, by simp⟩ ?_
  rintro i ⟨hi, hn⟩
  (try dsimp only [zipE_c, zipE_n, List.cons_append, List.nil_append])
  rcases Nat.lt_or_ge i l.length with hlt | hge
  · have hln : l[i].Bytes.data.toList.length ≤ 34359738368 := by
      have := hsz l[i] (List.getElem_mem hlt)
      rw [Array.length_toList]; exact this
    repeat' (first | refine stp ?_|(refine v_spT ?_ ?_;omega)|(refine v_spF ?_ ?_;omega)|refine v_spD (fun hc=>?_) (fun hc=>?_)|(refine v_yc ?_ ?_;omega)|refine v_alloc' (fun ba=>?_)|fail)
    · have hfd : l.find? (fun x => decide (x.N = n)) = some l[i] := by
        rw [List.find?_eq_some_iff_getElem]
        exact ⟨by simpa using hc, i, hlt, rfl, fun j hj => by simpa using hn l[j] (List.mem_take_iff_getElem.2 ⟨j, by omega, rfl⟩)⟩
      rw [bs_of l[i].Bytes]
      refine v_callR (rdec_s l[i].Bytes.data.toList (by omega)) ?_
      rintro V Γ' (⟨w, cs, hw, ⟨v1, s1, v2, s2, v3, s3, ⟨p1, p2, p3, hp, rfl⟩, o1, o2, o3, rfl⟩, rfl⟩ | ⟨hx, rfl, rfl⟩)
      · have htk : tk l n = .ok w.msg := by unfold tk; rw [hfd]; show (match decP l[i].Bytes.data.toList with | none => _ | some x => _) = _; rw [hw]
        (try dsimp only [List.cons_append, List.nil_append])
        repeat' (first | refine stp ?_|(refine v_spT ?_ ?_;omega)|(refine v_spF ?_ ?_;omega)|refine v_spD (fun hc=>?_) (fun hc=>?_)|(refine v_yc ?_ ?_;omega)|refine v_alloc' (fun ba=>?_)|fail)
        refine v_o2 Tryz.results25 (.inl ⟨w.msg, _, htk, ⟨v1, s1, v2, s2, v3, s3, ⟨p1, p2, p3, hp, rfl⟩, o1, o2, o3, rfl⟩, rfl⟩) ⟨_, inferInstance⟩
      · have htk : tk l n = .err 13 := by unfold tk; rw [hfd]; show (match decP l[i].Bytes.data.toList with | none => _ | some x => _) = _; rw [hx]
        (try dsimp only [List.cons_append, List.nil_append])
        repeat' (first | refine stp ?_|(refine v_spT ?_ ?_;omega)|(refine v_spF ?_ ?_;omega)|refine v_spD (fun hc=>?_) (fun hc=>?_)|(refine v_yc ?_ ?_;omega)|refine v_alloc' (fun ba=>?_)|fail)
        refine v_o2 Tryz.results25 (.inr ⟨13, htk, by decide, rfl, rfl⟩) ⟨_, inferInstance⟩
    · refine v_again (i + 1) (by omega) rfl inferInstance ⟨hlt, fun y hy => ?_⟩
      rw [List.take_add_one, List.getElem?_eq_getElem hlt, Option.toList_some, List.mem_append, List.mem_singleton] at hy
      rcases hy with hy | rfl
      · exact hn y hy
      · exact hc
  · repeat' (first | refine stp ?_|(refine v_spT ?_ ?_;omega)|(refine v_spF ?_ ?_;omega)|refine v_spD (fun hc=>?_) (fun hc=>?_)|(refine v_yc ?_ ?_;omega)|refine v_alloc' (fun ba=>?_)|fail)
    rw [List.take_of_length_le hge] at hn
    have htk : tk l n = .err 26 := by
      unfold tk
      rw [List.find?_eq_none.2 (fun x hx => by simpa using hn x hx)]
    refine v_o2 Tryz.results25 (.inr ⟨26, htk, by decide, rfl, rfl⟩) ⟨_, inferInstance⟩
end Go.Proofs.YtdfoijfjlhjeaaaGreat

/- coterieref21.items, change. -/
namespace Go.Proofs.YtdfoijfjlhjeaaaGreat
open Go Go.SX Go.RowKit
set_option maxRecDepth 100000
set_option maxHeartbeats 0
set_option synthInstance.maxSize 100000
set_option synthInstance.maxHeartbeats 400000
/-- a function of a message and a step: what it comes to -/
def RefS1 (f : FuncId) (g : MsgM → CookM → St1) (P : MsgM → CookM → Prop) : Prop := ∀ (m : MsgM) (c : CookM) (cs : Array Value) (Γ : List Hp), MsgO m cs Γ → MsgB m 1099511627776 → P m c → SX.Spec Tryz.prog f #[.agg cs, ckV c] [] Γ fun v Γ' =>
  (∃ m' cs', g m c = .ok m' ∧ MsgO m' cs' Γ' ∧ v = .tuple #[.agg cs', .int .i64 0]) ∨ (∃ e cs' , g m c = .err e ∧ e ≠ 0 ∧ MsgO m cs' Γ' ∧ v = .tuple #[.agg cs', .int .i64 e])
theorem ritem7_s : RefS1 71 chg (fun m c => m.Kind = 1 ∧ c.Kind = 7) := by
  rintro ⟨k, ⟨e, l1, l2, l3⟩, q1, q2, ⟨a, b, c, p⟩, ⟨f, u, t⟩⟩ ⟨ck, cn, cm, cb, ct⟩ cs Γ ⟨v1, s1, v2, s2, v3, s3, ⟨x, y, z, hp, rfl⟩, o1, o2, o3, rfl⟩ ⟨hb1, hb2, hb3⟩; dsimp only [ckV, ckC] at hp o1 o2 o3 hb1 hb2 hb3 ⊢; subst hp
  rintro ⟨rfl, rfl⟩
  have hle := AtS.le (ownAt (h := o3))
  refine spec_of2 Tryz.func71 Tryz.ntmps71 rfl rfl (fun M w0 => ?_)
  repeat' (first | refine stp ?_|(refine v_spT ?_ ?_;omega)|refine v_spD (fun hc=>?_) (fun hc=>?_)|refine v_alloc' (fun ba=>?_)|refine v_box (fun bb=>?_)|refine v_lit (fun bl=>?_)|(refine v_push ?_ (fun sv ss hs hln=>?_);omega)|(refine v_cat0 ?_ (fun sv ss hs=>?_);omega)|fail)
  all_goals rename OwnS sv _ _ _ _ _ _ => hs'
  all_goals refine v_o2 Tryz.results71 (.inl ⟨⟨1, ⟨e, l1, l2, l3 ++ [⟨cn, cm, cb⟩]⟩, q1, q2, ⟨a, b, c, [x, y, z]⟩, ⟨f, u, t⟩⟩, _, rfl, ⟨v1, s1, v2, s2, sv, ss, ⟨x, y, z, rfl, rfl⟩, o1, o2, hs', rfl⟩, rfl⟩) ⟨_, inferInstance⟩
theorem ritem9_s : RefS1 71 chg (fun m c => m.Kind = 1 ∧ c.Kind = 9) := by
  rintro ⟨k, ⟨e, l1, l2, l3⟩, q1, q2, ⟨a, b, c, p⟩, ⟨f, u, t⟩⟩ ⟨ck, cn, cm, cb, ct⟩ cs Γ ⟨v1, s1, v2, s2, v3, s3, ⟨x, y, z, hp, rfl⟩, o1, o2, o3, rfl⟩ ⟨hb1, hb2, hb3⟩; dsimp only [ckV, ckC] at hp o1 o2 o3 hb1 hb2 hb3 ⊢; subst hp
  rintro ⟨rfl, rfl⟩
  have hle := AtS.le (ownAt (h := o3))
  refine spec_of2 Tryz.func71 Tryz.ntmps71 rfl rfl (fun M w0 => ?_)
  repeat' (first | refine stp ?_|(refine v_spT ?_ ?_;omega)|(refine v_spF ?_ ?_;omega)|refine v_spD (fun hc=>?_) (fun hc=>?_)|refine v_alloc' (fun ba=>?_)|refine v_box (fun bb=>?_)|refine v_lit (fun bl=>?_)|(refine v_push ?_ (fun sv ss hs hln=>?_);omega)|(refine v_cat0 ?_ (fun sv ss hs=>?_);omega)|refine ⟨?_,?_,?_⟩|refine ⟨?_,?_⟩|refine v_tValT (by decide +kernel) ?_|fail)
  all_goals refine v_drawnE (id:=9) 13 plE71_9 [] (by kernel_rfl) ?_
  all_goals rename OwnS sv _ _ _ _ _ _ => h3
  all_goals obtain ⟨w3, hw3⟩ : ∃ w, w = sv := ⟨_, rfl⟩
  all_goals obtain ⟨r3, hr3⟩ : ∃ w, w = ss := ⟨_, rfl⟩
  all_goals subst hw3 hr3
  repeat' (first | refine stp ?_|(refine v_spT ?_ ?_;omega)|(refine v_spF ?_ ?_;omega)|refine v_spD (fun hc=>?_) (fun hc=>?_)|refine v_alloc' (fun ba=>?_)|refine v_box (fun bb=>?_)|refine v_lit (fun bl=>?_)|(refine v_push ?_ (fun sv ss hs hln=>?_);omega)|(refine v_cat0 ?_ (fun sv ss hs=>?_);omega)|refine ⟨?_,?_,?_⟩|refine ⟨?_,?_⟩|refine v_tValT (by decide +kernel) ?_|fail)
  all_goals refine v_o2 Tryz.results71 (.inl ⟨⟨1, ⟨e, l1 ++ [⟨cn, cm⟩], l2, l3⟩, q1, q2, ⟨a, b, c, [x, y, z]⟩, ⟨f, u, t⟩⟩, _, rfl, ⟨sv, ss, v2, s2, w3, r3, ⟨x, y, z, rfl, rfl⟩, hs, o2, h3, rfl⟩, rfl⟩) ⟨_, inferInstance⟩
theorem ritem10_s : RefS1 71 chg (fun m c => m.Kind = 1 ∧ c.Kind = 10) := by
  rintro ⟨k, ⟨e, l1, l2, l3⟩, q1, q2, ⟨a, b, c, p⟩, ⟨f, u, t⟩⟩ ⟨ck, cn, cm, cb, ct⟩ cs Γ ⟨v1, s1, v2, s2, v3, s3, ⟨x, y, z, hp, rfl⟩, o1, o2, o3, rfl⟩ ⟨hb1, hb2, hb3⟩; dsimp only [ckV, ckC] at hp o1 o2 o3 hb1 hb2 hb3 ⊢; subst hp
  rintro ⟨rfl, rfl⟩
  have hle := AtS.le (ownAt (h := o3))
  refine spec_of2 Tryz.func71 Tryz.ntmps71 rfl rfl (fun M w0 => ?_)
  repeat' (first | refine stp ?_|(refine v_spT ?_ ?_;omega)|(refine v_spF ?_ ?_;omega)|refine v_spD (fun hc=>?_) (fun hc=>?_)|refine v_alloc' (fun ba=>?_)|refine v_box (fun bb=>?_)|refine v_lit (fun bl=>?_)|(refine v_push ?_ (fun sv ss hs hln=>?_);omega)|(refine v_cat0 ?_ (fun sv ss hs=>?_);omega)|refine ⟨?_,?_,?_⟩|refine ⟨?_,?_⟩|refine v_tValT (by decide +kernel) ?_|fail)
  all_goals refine v_drawnE (id:=11) 13 plE71_11 [] (by kernel_rfl) ?_
  all_goals rename OwnS sv _ _ _ _ _ _ => h3
  all_goals obtain ⟨w3, hw3⟩ : ∃ w, w = sv := ⟨_, rfl⟩
  all_goals obtain ⟨r3, hr3⟩ : ∃ w, w = ss := ⟨_, rfl⟩
  all_goals subst hw3 hr3
  repeat' (first | refine stp ?_|(refine v_spT ?_ ?_;omega)|(refine v_spF ?_ ?_;omega)|refine v_spD (fun hc=>?_) (fun hc=>?_)|refine v_alloc' (fun ba=>?_)|refine v_box (fun bb=>?_)|refine v_lit (fun bl=>?_)|(refine v_push ?_ (fun sv ss hs hln=>?_);omega)|(refine v_cat0 ?_ (fun sv ss hs=>?_);omega)|refine ⟨?_,?_,?_⟩|refine ⟨?_,?_⟩|refine v_tValT (by decide +kernel) ?_|fail)
  all_goals refine v_o2 Tryz.results71 (.inl ⟨⟨1, ⟨e, l1, l2 ++ [⟨cn, cm⟩], l3⟩, q1, q2, ⟨a, b, c, [x, y, z]⟩, ⟨f, u, t⟩⟩, _, rfl, ⟨v1, s1, sv, ss, w3, r3, ⟨x, y, z, rfl, rfl⟩, o1, hs, h3, rfl⟩, rfl⟩) ⟨_, inferInstance⟩
theorem chg5 {m : MsgM} {c : CookM} (h1 : m.Kind = 1) (h2 : c.Kind = 5) : chg m c = gDrop m c := by unfold chg; simp [h1, h2]
theorem chg6 {m : MsgM} {c : CookM} (h1 : m.Kind = 1) (h2 : c.Kind = 6) : chg m c = gSwap m c := by unfold chg; simp [h1, h2]
theorem chg8 {m : MsgM} {c : CookM} (h1 : m.Kind = 1) (h2 : c.Kind = 8) : chg m c = gItemBox m c := by unfold chg; simp [h1, h2]
theorem chgno1 {m : MsgM} {c : CookM} (h1 : m.Kind = 1) (h2 : ¬ (3 ≤ c.Kind ∧ c.Kind ≤ 10 ∧ c.Kind ≠ 4)) : chg m c = .err 33 := by
  unfold chg
  rw [if_neg (by omega), if_neg (by omega), if_neg (by omega), if_neg (by omega), if_neg (by omega), if_neg (by omega), if_neg (by omega), if_neg (by omega), if_neg (by omega), if_neg (by omega), if_neg (by omega), if_neg (by omega)]
theorem ritem5_s : RefS1 71 chg (fun m c => m.Kind = 1 ∧ c.Kind = 5) := by
  rintro ⟨k, ⟨e, l1, l2, l3⟩, q1, q2, ⟨a, b, c, p⟩, ⟨f, u, t⟩⟩ ⟨ck, cn, cm, cb, ct⟩ cs Γ ⟨v1, s1, v2, s2, v3, s3, ⟨x, y, z, hp, rfl⟩, o1, o2, o3, rfl⟩ ⟨hb1, hb2, hb3⟩; dsimp only [ckV, ckC] at hp o1 o2 o3 hb1 hb2 hb3 ⊢; subst hp
  rintro ⟨rfl, rfl⟩
  have hle := AtS.le (ownAt (h := o3))
  refine spec_of2 Tryz.func71 Tryz.ntmps71 rfl rfl (fun M w0 => ?_)
  repeat' (first | refine stp ?_|(refine v_spT ?_ ?_;omega)|(refine v_spF ?_ ?_;omega)|refine v_spD (fun hc=>?_) (fun hc=>?_)|refine v_alloc' (fun ba=>?_)|refine v_box (fun bb=>?_)|refine v_lit (fun bl=>?_)|(refine v_cat ?_ (fun sv ss hs hln=>?_);omega)|(refine v_cat0 ?_ (fun sv ss hs=>?_);omega)|refine ⟨?_,?_,?_⟩|refine ⟨?_,?_⟩|(refine v_tyc ?_ ?_;omega)|(refine v_tsb ?_ (fun su (And.intro hs hln)=>?_);omega)|fail)
  · refine v_o2 Tryz.results71 (.inr ⟨_, _, (chg5 rfl rfl).trans (if_neg (fun h => hc h.2)), (by decide), ⟨v1, s1, v2, s2, v3, s3, ⟨x, y, z, rfl, rfl⟩, o1, o2, o3, rfl⟩, rfl⟩) ⟨_, inferInstance⟩
  · rename_i h0
    have hc' := Decidable.not_not.1 hc
    refine v_drawn (id:=15) 9 pl71_15 [[(ba, .cells #[.int .i64 e, v1, v2, v3] 40 (0, 0))], [(bb, .cells #[.int .i64 5, .int .i64 cn, .int .i64 cm, .int .i64 cb.Under.Base, .int .i64 cb.Under.Step, .int .i64 cb.Load.Base, .int .i64 cb.Load.Step, str ct] 32 (0, 0))]] [ss] (by kernel_rfl) ?_
    repeat' (first | refine stp ?_|(refine v_spT ?_ ?_;omega)|(refine v_spF ?_ ?_;omega)|refine v_spD (fun hc=>?_) (fun hc=>?_)|refine v_alloc' (fun ba=>?_)|refine v_box (fun bb=>?_)|refine v_lit (fun bl=>?_)|(refine v_cat ?_ (fun sv ss hs hln=>?_);omega)|(refine v_cat0 ?_ (fun sv ss hs=>?_);omega)|refine ⟨?_,?_,?_⟩|refine ⟨?_,?_⟩|(refine v_tyc ?_ ?_;omega)|(refine v_tsb ?_ (fun su (And.intro hs hln)=>?_);omega)|refine v_drawnK (id:=15) 9 pl71_15 (by kernel_rfl) ?_|fail)
    rw [show (cn + 1).toNat = cn.toNat + 1 by omega, ← List.eraseIdx_eq_take_drop_succ] at hs
    refine v_o2 Tryz.results71 (.inl ⟨⟨1, ⟨e, l1, l2, l3.eraseIdx cn.toNat⟩, q1, q2, ⟨a, b, c, [x, y, z]⟩, ⟨f, u, t⟩⟩, _, (chg5 rfl rfl).trans (if_pos ⟨h0, hc'⟩), ⟨v1, s1, v2, s2, sv, ss, ⟨x, y, z, rfl, rfl⟩, o1, o2, hs, rfl⟩, rfl⟩) ⟨_, inferInstance⟩
  · refine v_o2 Tryz.results71 (.inr ⟨_, _, (chg5 rfl rfl).trans (if_neg (fun h => hc h.1)), (by decide), ⟨v1, s1, v2, s2, v3, s3, ⟨x, y, z, rfl, rfl⟩, o1, o2, o3, rfl⟩, rfl⟩) ⟨_, inferInstance⟩
theorem ritem6_s : RefS1 71 chg (fun m c => m.Kind = 1 ∧ c.Kind = 6) := by
  rintro ⟨k, ⟨e, l1, l2, l3⟩, q1, q2, ⟨a, b, c, p⟩, ⟨f, u, t⟩⟩ ⟨ck, cn, cm, cb, ct⟩ cs Γ ⟨v1, s1, v2, s2, v3, s3, ⟨x, y, z, hp, rfl⟩, o1, o2, o3, rfl⟩ ⟨hb1, hb2, hb3⟩; dsimp only [ckV, ckC] at hp o1 o2 o3 hb1 hb2 hb3 ⊢; subst hp
  rintro ⟨rfl, rfl⟩
  have hle := AtS.le (ownAt (h := o3))
  refine spec_of2 Tryz.func71 Tryz.ntmps71 rfl rfl (fun M w0 => ?_)
  repeat' (first | refine stp ?_|(refine v_spT ?_ ?_;omega)|(refine v_spF ?_ ?_;omega)|refine v_spD (fun hc=>?_) (fun hc=>?_)|(refine v_yc ?_ ?_;omega)|refine v_alloc' (fun ba=>?_)|refine v_box (fun bb=>?_)|refine v_lit (fun bl=>?_)|(refine v_set ?_ (fun ss hs hln=>?_);omega)|(refine v_cat0 ?_ (fun sv ss hs=>?_);omega)|refine ⟨?_,?_,?_⟩|refine ⟨?_,?_⟩|(refine v_tyc ?_ ?_;omega)|(refine v_tycT (by decide +kernel) ?_ ?_;omega)|fail)
  · refine v_o2 Tryz.results71 (.inr ⟨_, _, (chg6 rfl rfl).trans (dif_neg (fun h => hc h.1.2)), (by decide), ⟨v1, s1, v2, s2, v3, s3, ⟨x, y, z, rfl, rfl⟩, o1, o2, o3, rfl⟩, rfl⟩) ⟨_, inferInstance⟩
  · refine v_o2 Tryz.results71 (.inr ⟨_, _, (chg6 rfl rfl).trans (dif_neg (fun h => absurd hc (Int.not_lt.2 h.2.1))), (by decide), ⟨v1, s1, v2, s2, v3, s3, ⟨x, y, z, rfl, rfl⟩, o1, o2, o3, rfl⟩, rfl⟩) ⟨_, inferInstance⟩
  · refine v_o2 Tryz.results71 (.inr ⟨_, _, (chg6 rfl rfl).trans (dif_neg (fun h => absurd hc (Int.not_le.2 h.2.2))), (by decide), ⟨v1, s1, v2, s2, v3, s3, ⟨x, y, z, rfl, rfl⟩, o1, o2, o3, rfl⟩, rfl⟩) ⟨_, inferInstance⟩
  · rename_i h0 h1 h2
    have hc1 : 0 ≤ cn ∧ cn < l3.length := ⟨h0, Decidable.not_not.1 h1⟩
    have hc2 : 0 ≤ cm ∧ cm < l3.length := ⟨by omega, by omega⟩
    refine v_drawn (id:=19) 17 pl71_19 [[(ba, .cells #[.int .i64 e, v1, v2, v3] 40 (0, 0))], [(bb, .cells #[.int .i64 6, .int .i64 cn, .int .i64 cm, .int .i64 cb.Under.Base, .int .i64 cb.Under.Step, .int .i64 cb.Load.Base, .int .i64 cb.Load.Step, str ct] 32 (0, 0))]] [ss] (by kernel_rfl) ?_
    repeat' (first | refine stp ?_|(refine v_spT ?_ ?_;omega)|(refine v_spF ?_ ?_;omega)|refine v_spD (fun hc=>?_) (fun hc=>?_)|(refine v_yc ?_ ?_;omega)|refine v_alloc' (fun ba=>?_)|refine v_box (fun bb=>?_)|refine v_lit (fun bl=>?_)|(refine v_set ?_ (fun ss hs hln=>?_);omega)|(refine v_cat0 ?_ (fun sv ss hs=>?_);omega)|refine ⟨?_,?_,?_⟩|refine ⟨?_,?_⟩|(refine v_tyc ?_ ?_;omega)|(refine v_tycT (by decide +kernel) ?_ ?_;omega)|refine v_drawnK (id:=19) 17 pl71_19 (by kernel_rfl) ?_|fail)
    refine v_o2 Tryz.results71 (.inl ⟨⟨1, ⟨e, l1, l2, (l3.set cn.toNat (l3[cm.toNat]'(by omega))).set cm.toNat (l3[cn.toNat]'(by omega))⟩, q1, q2, ⟨a, b, c, [x, y, z]⟩, ⟨f, u, t⟩⟩, _, (chg6 rfl rfl).trans (dif_pos ⟨hc1, hc2⟩), ⟨v1, s1, v2, s2, _, ss, ⟨x, y, z, rfl, rfl⟩, o1, o2, hs, rfl⟩, rfl⟩) ⟨_, inferInstance⟩
  · refine v_o2 Tryz.results71 (.inr ⟨_, _, (chg6 rfl rfl).trans (dif_neg (fun h => hc h.1.1)), (by decide), ⟨v1, s1, v2, s2, v3, s3, ⟨x, y, z, rfl, rfl⟩, o1, o2, o3, rfl⟩, rfl⟩) ⟨_, inferInstance⟩
theorem ritem8_s : RefS1 71 chg (fun m c => m.Kind = 1 ∧ c.Kind = 8) := by
  rintro ⟨k, ⟨e, l1, l2, l3⟩, q1, q2, ⟨a, b, c, p⟩, ⟨f, u, t⟩⟩ ⟨ck, cn, cm, cb, ct⟩ cs Γ ⟨v1, s1, v2, s2, v3, s3, ⟨x, y, z, hp, rfl⟩, o1, o2, o3, rfl⟩ ⟨hb1, hb2, hb3⟩; dsimp only [ckV, ckC] at hp o1 o2 o3 hb1 hb2 hb3 ⊢; subst hp
  rintro ⟨rfl, rfl⟩
  have hle := AtS.le (ownAt (h := o3))
  refine spec_of2 Tryz.func71 Tryz.ntmps71 rfl rfl (fun M w0 => ?_)
  repeat' (first | refine stp ?_|(refine v_spT ?_ ?_;omega)|(refine v_spF ?_ ?_;omega)|refine v_spD (fun hc=>?_) (fun hc=>?_)|(refine v_yc ?_ ?_;omega)|refine v_alloc' (fun ba=>?_)|refine v_box (fun bb=>?_)|refine v_lit (fun bl=>?_)|(refine v_cat0 ?_ (fun sv ss hs=>?_);omega)|fail)
  · refine v_o2 Tryz.results71 (.inr ⟨_, _, (chg8 rfl rfl).trans (dif_neg (fun h => hc h.2)), (by decide), ⟨v1, s1, v2, s2, v3, s3, ⟨x, y, z, rfl, rfl⟩, o1, o2, o3, rfl⟩, rfl⟩) ⟨_, inferInstance⟩
  · rename_i h0
    have hc1 : 0 ≤ cn ∧ cn < l3.length := ⟨h0, Decidable.not_not.1 hc⟩
    have hlt : cn.toNat < l3.length := by omega
    refine v_setF (z := ⟨l3[cn.toNat].Node, l3[cn.toNat].From, cb⟩) hlt rfl (by show 2 + 4 ≤ 6; decide) ⟨rfl⟩ ?_
    intro ss hs hln
    repeat' (first | refine stp ?_|(refine v_spT ?_ ?_;omega)|(refine v_spF ?_ ?_;omega)|refine v_spD (fun hc=>?_) (fun hc=>?_)|(refine v_yc ?_ ?_;omega)|refine v_alloc' (fun ba=>?_)|refine v_box (fun bb=>?_)|refine v_lit (fun bl=>?_)|(refine v_cat0 ?_ (fun sv ss hs=>?_);omega)|fail)
    refine v_o2 Tryz.results71 (.inl ⟨⟨1, ⟨e, l1, l2, l3.set cn.toNat ⟨l3[cn.toNat].Node, l3[cn.toNat].From, cb⟩⟩, q1, q2, ⟨a, b, c, [x, y, z]⟩, ⟨f, u, t⟩⟩, _, (chg8 rfl rfl).trans (dif_pos hc1), ⟨v1, s1, v2, s2, _, ss, ⟨x, y, z, rfl, rfl⟩, o1, o2, hs, rfl⟩, rfl⟩) ⟨_, inferInstance⟩
  · refine v_o2 Tryz.results71 (.inr ⟨_, _, (chg8 rfl rfl).trans (dif_neg (fun h => hc h.1)), (by decide), ⟨v1, s1, v2, s2, v3, s3, ⟨x, y, z, rfl, rfl⟩, o1, o2, o3, rfl⟩, rfl⟩) ⟨_, inferInstance⟩
theorem ritemx_s : RefS1 71 chg (fun m c => m.Kind = 1 ∧ ¬ (3 ≤ c.Kind ∧ c.Kind ≤ 10 ∧ c.Kind ≠ 4)) := by
  rintro ⟨k, ⟨e, l1, l2, l3⟩, q1, q2, ⟨a, b, c, p⟩, ⟨f, u, t⟩⟩ ⟨ck, cn, cm, cb, ct⟩ cs Γ ⟨v1, s1, v2, s2, v3, s3, ⟨x, y, z, hp, rfl⟩, o1, o2, o3, rfl⟩ ⟨hb1, hb2, hb3⟩; dsimp only [ckV, ckC] at hp o1 o2 o3 hb1 hb2 hb3 ⊢; subst hp
  rintro ⟨rfl, hk⟩
  have hle := AtS.le (ownAt (h := o3))
  refine spec_of2 Tryz.func71 Tryz.ntmps71 rfl rfl (fun M w0 => ?_)
  repeat' (first | refine stp ?_|(refine v_spF ?_ ?_;omega)|refine v_spD (fun hc=>?_) (fun hc=>?_)|refine v_alloc' (fun ba=>?_)|refine v_box (fun bb=>?_)|refine v_lit (fun bl=>?_)|(refine v_cat0 ?_ (fun sv ss hs=>?_);omega)|fail)
  all_goals refine v_o2 Tryz.results71 (.inr ⟨_, _, chgno1 rfl hk, (by decide), ⟨v1, s1, v2, s2, v3, s3, ⟨x, y, z, rfl, rfl⟩, o1, o2, o3, rfl⟩, rfl⟩) ⟨_, inferInstance⟩
theorem ritems_s : RefS1 71 chg (fun m c => m.Kind = 1 ∧ c.Kind ≠ 3) := by
  intro m c cs Γ h hb ⟨hk, h3⟩
  by_cases e5 : c.Kind = 5
  · exact ritem5_s m c cs Γ h hb ⟨hk, e5⟩
  by_cases e6 : c.Kind = 6
  · exact ritem6_s m c cs Γ h hb ⟨hk, e6⟩
  by_cases e7 : c.Kind = 7
  · exact ritem7_s m c cs Γ h hb ⟨hk, e7⟩
  by_cases e8 : c.Kind = 8
  · exact ritem8_s m c cs Γ h hb ⟨hk, e8⟩
  by_cases e9 : c.Kind = 9
  · exact ritem9_s m c cs Γ h hb ⟨hk, e9⟩
  by_cases e10 : c.Kind = 10
  · exact ritem10_s m c cs Γ h hb ⟨hk, e10⟩
  exact ritemx_s m c cs Γ h hb ⟨hk, by omega⟩
end Go.Proofs.YtdfoijfjlhjeaaaGreat

/- coterieref21.change, Cook. -/
namespace Go.Proofs.YtdfoijfjlhjeaaaGreat
open Go Go.SX Go.RowKit
set_option maxRecDepth 100000
set_option maxHeartbeats 0
set_option synthInstance.maxSize 100000
set_option synthInstance.maxHeartbeats 400000
theorem chgEp {m : MsgM} {c : CookM} (h0 : m.Kind ≠ 0) (h : c.Kind = 3) : chg m c = .ok (setEp m c.N) := by unfold chg gEp; simp [h0, h]
theorem chgPath {m : MsgM} {c : CookM} (h1 : m.Kind = 3) (h2 : c.Kind = 8) (h3 : ¬ (0 ≤ c.N ∧ c.N < 3)) : chg m c = .err 23 := by
  have e : chg m c = gPathBox m c := by unfold chg; simp [h1, h2]
  rw [e]; exact if_neg h3
theorem chgno2 {m : MsgM} {c : CookM} (h1 : m.Kind = 2) (h3 : ¬ c.Kind = 3) (h4 : ¬ c.Kind = 4) : chg m c = .err 33 := by
  unfold chg; simp [h1, h3, h4]
theorem rchange_s : RefS1 27 chg (fun m _ => m.Kind ≠ 0) := by
  rintro ⟨k, ⟨e, l1, l2, l3⟩, q1, q2, ⟨a, b, c, p⟩, ⟨f, u, t⟩⟩ ⟨ck, cn, cm, cb, ct⟩ cs Γ ⟨v1, s1, v2, s2, v3, s3, ⟨x, y, z, hp, rfl⟩, o1, o2, o3, rfl⟩ hb hk; dsimp only [ckV, ckC] at hp o1 o2 o3 hk ⊢; subst hp
  have hO : MsgO (⟨k, ⟨e, l1, l2, l3⟩, q1, q2, ⟨a, b, c, [x, y, z]⟩, ⟨f, u, t⟩⟩ : MsgM) _ _ := ⟨v1, s1, v2, s2, v3, s3, ⟨x, y, z, rfl, rfl⟩, o1, o2, o3, rfl⟩
  refine spec_of2 Tryz.func27 Tryz.ntmps27 rfl rfl (fun M w0 => ?_)
  repeat' (first | refine stp ?_|(refine v_spT ?_ ?_;omega)|(refine v_spF ?_ ?_;omega)|refine v_spD (fun hc=>?_) (fun hc=>?_)|(refine v_yc ?_ ?_;omega)|refine v_alloc' (fun ba=>?_)|refine v_box (fun bb=>?_)|refine ⟨?_,?_,?_⟩|refine ⟨?_,?_⟩|refine v_tValT (by decide +kernel) ?_|refine v_drawnK (id:=10) 6 pl27_10 (by kernel_rfl) ?_|refine v_drawnK (id:=18) 7 pl27_18 (by kernel_rfl) ?_|fail)
  · subst hc
    have hr := repoch_s (⟨k, ⟨e, l1, l2, l3⟩, q1, q2, ⟨a, b, c, [x, y, z]⟩, ⟨f, u, t⟩⟩ : MsgM) v1 v2 v3 _ cn ⟨x, y, z, rfl, rfl⟩ inferInstance inferInstance inferInstance
    refine v_callR hr ?_
    rintro v Γ' ⟨⟨cs', hc', rfl⟩, rfl⟩
    have hse : (setEp (⟨k, ⟨e, l1, l2, l3⟩, q1, q2, ⟨a, b, c, [x, y, z]⟩, ⟨f, u, t⟩⟩ : MsgM) cn).Rekey.Leaves = l1 ∧ (setEp (⟨k, ⟨e, l1, l2, l3⟩, q1, q2, ⟨a, b, c, [x, y, z]⟩, ⟨f, u, t⟩⟩ : MsgM) cn).Rekey.Joins = l2 ∧ (setEp (⟨k, ⟨e, l1, l2, l3⟩, q1, q2, ⟨a, b, c, [x, y, z]⟩, ⟨f, u, t⟩⟩ : MsgM) cn).Rekey.Items = l3 := by
      unfold setEp
      by_cases e1 : k = 1
      · simp [e1]
      by_cases e2 : k = 2
      · simp [e2]
      by_cases e3 : k = 3
      · simp [e3]
      by_cases e4 : k = 4
      · simp [e4]
      simp [e1, e2, e3, e4]
    obtain ⟨g1, g2, g3⟩ := hse
    have hce : chg (⟨k, ⟨e, l1, l2, l3⟩, q1, q2, ⟨a, b, c, [x, y, z]⟩, ⟨f, u, t⟩⟩ : MsgM) ⟨3, cn, cm, cb, ct⟩ = .ok (setEp (⟨k, ⟨e, l1, l2, l3⟩, q1, q2, ⟨a, b, c, [x, y, z]⟩, ⟨f, u, t⟩⟩ : MsgM) cn) := chgEp hk rfl
    generalize setEp (⟨k, ⟨e, l1, l2, l3⟩, q1, q2, ⟨a, b, c, [x, y, z]⟩, ⟨f, u, t⟩⟩ : MsgM) cn = m' at *
    obtain ⟨x', y', z', hp', rfl⟩ := hc'
    (try dsimp only [List.cons_append, List.nil_append])
    repeat' (first | refine stp ?_|(refine v_spT ?_ ?_;omega)|(refine v_spF ?_ ?_;omega)|refine v_spD (fun hc=>?_) (fun hc=>?_)|(refine v_yc ?_ ?_;omega)|refine v_alloc' (fun ba=>?_)|refine v_box (fun bb=>?_)|refine ⟨?_,?_,?_⟩|refine ⟨?_,?_⟩|refine v_tValT (by decide +kernel) ?_|refine v_drawnK (id:=10) 6 pl27_10 (by kernel_rfl) ?_|refine v_drawnK (id:=18) 7 pl27_18 (by kernel_rfl) ?_|fail)
    refine v_o2 Tryz.results27 (.inl ⟨m', _, hce, ⟨v1, s1, v2, s2, v3, s3, ⟨x', y', z', hp', rfl⟩, by rw [g1]; exact o1, by rw [g2]; exact o2, by rw [g3]; exact o3, rfl⟩, rfl⟩) ⟨_, inferInstance⟩
  · rename_i h3
    subst hc
    refine v_callO (ritems_s _ ⟨ck, cn, cm, cb, ct⟩ _ _ hO hb ⟨rfl, h3⟩) ?_
    rintro v Γ' (⟨m', cs', g1, ⟨w1, r1, w2, r2, w3, r3, ⟨x', y', z', hp', rfl⟩, n1, n2, n3, rfl⟩, rfl⟩ | ⟨er, cs', g1, g2, ⟨w1, r1, w2, r2, w3, r3, ⟨x', y', z', hp', rfl⟩, n1, n2, n3, rfl⟩, rfl⟩)
    · (try dsimp only [List.cons_append, List.nil_append])
      repeat' (first | refine stp ?_|(refine v_spT ?_ ?_;omega)|(refine v_spF ?_ ?_;omega)|refine v_spD (fun hc=>?_) (fun hc=>?_)|(refine v_yc ?_ ?_;omega)|refine v_alloc' (fun ba=>?_)|refine v_box (fun bb=>?_)|refine ⟨?_,?_,?_⟩|refine ⟨?_,?_⟩|refine v_tValT (by decide +kernel) ?_|refine v_drawnK (id:=10) 6 pl27_10 (by kernel_rfl) ?_|refine v_drawnK (id:=18) 7 pl27_18 (by kernel_rfl) ?_|fail)
      refine v_o2 Tryz.results27 (.inl ⟨m', _, g1, ⟨w1, r1, w2, r2, w3, r3, ⟨x', y', z', hp', rfl⟩, n1, n2, n3, rfl⟩, rfl⟩) ⟨_, inferInstance⟩
    · (try dsimp only [List.cons_append, List.nil_append])
      repeat' (first | refine stp ?_|(refine v_spT ?_ ?_;omega)|(refine v_spF ?_ ?_;omega)|refine v_spD (fun hc=>?_) (fun hc=>?_)|(refine v_yc ?_ ?_;omega)|refine v_alloc' (fun ba=>?_)|refine v_box (fun bb=>?_)|refine ⟨?_,?_,?_⟩|refine ⟨?_,?_⟩|refine v_tValT (by decide +kernel) ?_|refine v_drawnK (id:=10) 6 pl27_10 (by kernel_rfl) ?_|refine v_drawnK (id:=18) 7 pl27_18 (by kernel_rfl) ?_|fail)
      refine v_o2 Tryz.results27 (.inr ⟨_, _, g1, g2, ⟨w1, r1, w2, r2, w3, r3, ⟨x', y', z', hp', rfl⟩, n1, n2, n3, rfl⟩, rfl⟩) ⟨_, inferInstance⟩
  · refine v_o2 Tryz.results27 (.inl ⟨⟨k, ⟨e, l1, l2, l3⟩, cn, cm, ⟨a, b, c, [x, y, z]⟩, ⟨f, u, t⟩⟩, _, by simp [chg, gAsker, *], ⟨v1, s1, v2, s2, v3, s3, ⟨_, _, _, rfl, rfl⟩, o1, o2, o3, rfl⟩, rfl⟩) ⟨_, inferInstance⟩
  · refine v_o2 Tryz.results27 (.inr ⟨_, _, chgno2 (by assumption) (by assumption) (by assumption), (by decide), ⟨v1, s1, v2, s2, v3, s3, ⟨x, y, z, rfl, rfl⟩, o1, o2, o3, rfl⟩, rfl⟩) ⟨_, inferInstance⟩
  · refine v_o2 Tryz.results27 (.inl ⟨⟨k, ⟨e, l1, l2, l3⟩, q1, q2, ⟨cn, cm, c, [x, y, z]⟩, ⟨f, u, t⟩⟩, _, by simp [chg, gAsked, *], ⟨v1, s1, v2, s2, v3, s3, ⟨_, _, _, rfl, rfl⟩, o1, o2, o3, rfl⟩, rfl⟩) ⟨_, inferInstance⟩
  · refine v_o2 Tryz.results27 (.inl ⟨⟨k, ⟨e, l1, l2, l3⟩, q1, q2, ⟨cn, cm, c, [x, y, z]⟩, ⟨f, u, t⟩⟩, _, by simp [chg, gAsked, *], ⟨v1, s1, v2, s2, v3, s3, ⟨_, _, _, rfl, rfl⟩, o1, o2, o3, rfl⟩, rfl⟩) ⟨_, inferInstance⟩
  · have h5 : ¬ (0 ≤ cn ∧ cn < 3) := by omega
    refine v_o2 Tryz.results27 (.inr ⟨_, _, chgPath (by assumption) (by assumption) h5, (by decide), ⟨v1, s1, v2, s2, v3, s3, ⟨x, y, z, rfl, rfl⟩, o1, o2, o3, rfl⟩, rfl⟩) ⟨_, inferInstance⟩
  · have h5 : ¬ (0 ≤ cn ∧ cn < 3) := by omega
    refine v_o2 Tryz.results27 (.inr ⟨_, _, chgPath (by assumption) (by assumption) h5, (by decide), ⟨v1, s1, v2, s2, v3, s3, ⟨x, y, z, rfl, rfl⟩, o1, o2, o3, rfl⟩, rfl⟩) ⟨_, inferInstance⟩
  · have h3 : cn = 0 ∨ cn = 1 ∨ cn = 2 := by omega
    rcases h3 with rfl | rfl | rfl
    · rw [show 7 + 3 + Int.toNat 0 * 4 = 10 from rfl]
      repeat' (first | refine stp ?_|(refine v_spT ?_ ?_;omega)|(refine v_spF ?_ ?_;omega)|refine v_spD (fun hc=>?_) (fun hc=>?_)|(refine v_yc ?_ ?_;omega)|refine v_alloc' (fun ba=>?_)|refine v_box (fun bb=>?_)|refine ⟨?_,?_,?_⟩|refine ⟨?_,?_⟩|refine v_tValT (by decide +kernel) ?_|refine v_drawnK (id:=10) 6 pl27_10 (by kernel_rfl) ?_|refine v_drawnK (id:=18) 7 pl27_18 (by kernel_rfl) ?_|fail)
      refine v_o2 Tryz.results27 (.inl ⟨⟨k, ⟨e, l1, l2, l3⟩, q1, q2, ⟨a, b, c, [cb, y, z]⟩, ⟨f, u, t⟩⟩, _, by simp [chg, gPathBox, *], ⟨v1, s1, v2, s2, v3, s3, ⟨_, _, _, rfl, rfl⟩, o1, o2, o3, rfl⟩, rfl⟩) ⟨_, inferInstance⟩
    · rw [show 7 + 3 + Int.toNat 1 * 4 = 14 from rfl]
      repeat' (first | refine stp ?_|(refine v_spT ?_ ?_;omega)|(refine v_spF ?_ ?_;omega)|refine v_spD (fun hc=>?_) (fun hc=>?_)|(refine v_yc ?_ ?_;omega)|refine v_alloc' (fun ba=>?_)|refine v_box (fun bb=>?_)|refine ⟨?_,?_,?_⟩|refine ⟨?_,?_⟩|refine v_tValT (by decide +kernel) ?_|refine v_drawnK (id:=10) 6 pl27_10 (by kernel_rfl) ?_|refine v_drawnK (id:=18) 7 pl27_18 (by kernel_rfl) ?_|fail)
      refine v_o2 Tryz.results27 (.inl ⟨⟨k, ⟨e, l1, l2, l3⟩, q1, q2, ⟨a, b, c, [x, cb, z]⟩, ⟨f, u, t⟩⟩, _, by simp [chg, gPathBox, *], ⟨v1, s1, v2, s2, v3, s3, ⟨_, _, _, rfl, rfl⟩, o1, o2, o3, rfl⟩, rfl⟩) ⟨_, inferInstance⟩
    · rw [show 7 + 3 + Int.toNat 2 * 4 = 18 from rfl]
      repeat' (first | refine stp ?_|(refine v_spT ?_ ?_;omega)|(refine v_spF ?_ ?_;omega)|refine v_spD (fun hc=>?_) (fun hc=>?_)|(refine v_yc ?_ ?_;omega)|refine v_alloc' (fun ba=>?_)|refine v_box (fun bb=>?_)|refine ⟨?_,?_,?_⟩|refine ⟨?_,?_⟩|refine v_tValT (by decide +kernel) ?_|refine v_drawnK (id:=10) 6 pl27_10 (by kernel_rfl) ?_|refine v_drawnK (id:=18) 7 pl27_18 (by kernel_rfl) ?_|fail)
      refine v_o2 Tryz.results27 (.inl ⟨⟨k, ⟨e, l1, l2, l3⟩, q1, q2, ⟨a, b, c, [x, y, cb]⟩, ⟨f, u, t⟩⟩, _, by simp [chg, gPathBox, *], ⟨v1, s1, v2, s2, v3, s3, ⟨_, _, _, rfl, rfl⟩, o1, o2, o3, rfl⟩, rfl⟩) ⟨_, inferInstance⟩
  · refine v_o2 Tryz.results27 (.inr ⟨_, _, by simp [chg, *], (by decide), ⟨v1, s1, v2, s2, v3, s3, ⟨x, y, z, rfl, rfl⟩, o1, o2, o3, rfl⟩, rfl⟩) ⟨_, inferInstance⟩
  · refine v_o2 Tryz.results27 (.inl ⟨⟨k, ⟨e, l1, l2, l3⟩, q1, q2, ⟨a, b, c, [x, y, z]⟩, ⟨f, cb.Under, ct⟩⟩, _, by simp [chg, gText, *], ⟨v1, s1, v2, s2, v3, s3, ⟨_, _, _, rfl, rfl⟩, o1, o2, o3, rfl⟩, rfl⟩) ⟨_, inferInstance⟩
  · refine v_o2 Tryz.results27 (.inl ⟨⟨k, ⟨e, l1, l2, l3⟩, q1, q2, ⟨a, b, c, [x, y, z]⟩, ⟨f, cb.Under, ct⟩⟩, _, by simp [chg, gText, *], ⟨v1, s1, v2, s2, v3, s3, ⟨_, _, _, rfl, rfl⟩, o1, o2, o3, rfl⟩, rfl⟩) ⟨_, inferInstance⟩
  · refine v_o2 Tryz.results27 (.inr ⟨_, _, by simp [chg, *], (by decide), ⟨v1, s1, v2, s2, v3, s3, ⟨x, y, z, rfl, rfl⟩, o1, o2, o3, rfl⟩, rfl⟩) ⟨_, inferInstance⟩
  · refine v_o2 Tryz.results27 (.inr ⟨_, _, by simp [chg, *], (by decide), ⟨v1, s1, v2, s2, v3, s3, ⟨x, y, z, rfl, rfl⟩, o1, o2, o3, rfl⟩, rfl⟩) ⟨_, inferInstance⟩
end Go.Proofs.YtdfoijfjlhjeaaaGreat

/- coterieref21.Cook. -/
namespace Go.Proofs.YtdfoijfjlhjeaaaGreat
open Go Go.SX Go.RowKit
set_option maxRecDepth 100000
set_option maxHeartbeats 0
set_option synthInstance.maxSize 100000
set_option synthInstance.maxHeartbeats 400000
theorem blank_rk (k : Int) : (blankM k).Rekey.Leaves = [] ∧ (blankM k).Rekey.Joins = [] ∧ (blankM k).Rekey.Items = [] := by
  unfold blankM
  by_cases e1 : k = 1
  · rw [if_pos e1]; exact ⟨rfl, rfl, rfl⟩
  rw [if_neg e1]
  by_cases e2 : k = 2
  · rw [if_pos e2]; exact ⟨rfl, rfl, rfl⟩
  rw [if_neg e2]
  by_cases e3 : k = 3
  · rw [if_pos e3]; exact ⟨rfl, rfl, rfl⟩
  rw [if_neg e3]; exact ⟨rfl, rfl, rfl⟩
theorem rcook_s (pv : Value) (l : List ApiPacket) (t : Hp) (hv : AtS pv 26 ApiPacket 3 cvApiPacket l t) (hsz : ∀ x ∈ l, x.Bytes.size ≤ 34359738368) (rv : Value) (r : List ApiCook) (q : Hp) (hr : AtS rv 32 ApiCook 8 cvApiCook r q) (hrl : r.length ≤ 1073741824) :
    SX.Spec Tryz.prog 9 #[pv, rv] [t, q] [] fun V Γ => CookR l (r.map toCk) V ∧ Γ = [] := by
  have hle := AtS.le hr
  refine spec_of2 Tryz.func9 Tryz.ntmps9 rfl rfl (fun M w0 => ?_)
  repeat' (first | refine stp ?_|(refine v_spT ?_ ?_;omega)|(refine v_spF ?_ ?_;omega)|refine v_spD (fun hc=>?_) (fun hc=>?_)|(refine v_yc ?_ ?_;omega)|refine v_alloc' (fun ba=>?_)|fail)
  refine v_lp [14] [0, 6, 12, 13] (fun g : CkG => [.int .i64 g.i]) (fun g => [[(ba, .cells (msgC g.m.Kind g.m.Rekey.Epoch g.v1 g.v2 g.v3 g.m.Who g.m.Epoch g.m.Reply.Who g.m.Reply.Slot g.m.Reply.Epoch g.x g.y g.z g.m.Sealed.Epoch g.m.Sealed.Under g.m.Sealed.Text) 49 (0, 0))], g.s1, g.s2, g.s3]) (CkOk l r) (fun g => r.length - g.i) ⟨0, zM 0, .slice none 0 0, [], .slice none 0 0, [], .slice none 0 0, [], b0, b0, b0⟩ (fun _ => rfl) rfl inferInstance ⟨Nat.zero_le _, rfl, ⟨Nat.zero_le _, Nat.zero_le _, Nat.zero_le _⟩, rfl, OwnS.nil, OwnS.nil, OwnS.nil⟩ ?_
  rintro ⟨i, m, v1, s1, v2, s2, v3, s3, x, y, z⟩ ⟨hi, heq, hmb, hp, o1, o2, o3⟩
  dsimp only at hi heq hmb hp o1 o2 o3 ⊢
  (try dsimp only [zipE_c, zipE_n, List.cons_append, List.nil_append])
  rcases Nat.lt_or_ge i r.length with hlt | hge
  · obtain ⟨bo, hbo⟩ : ∃ z, z = ba := ⟨_, rfl⟩
    subst hbo
    have hsn : cookF l (zM 0) ((r.take (i + 1)).map toCk) = stepC l m (toCk r[i]) := by
      rw [map_take1 toCk hlt, cookF_snoc, heq]
    have hall : ∀ er, stepC l m (toCk r[i]) = .err er → cookF l (zM 0) (r.map toCk) = .err er := fun er he => by
      have e1 : r.map toCk = (r.take (i + 1)).map toCk ++ (r.drop (i + 1)).map toCk := by rw [← List.map_append, List.take_append_drop]
      rw [e1]
      exact cookF_err l er _ _ _ (hsn.trans he)
    have hok : ∀ m', stepC l m (toCk r[i]) = .ok m' → cookF l (zM 0) ((r.take (i + 1)).map toCk) = .ok m' ∧ MsgB m' (2047 + (i + 1)) := fun m' he => ⟨hsn.trans he, (msgB_step he hmb (by omega)).le (by omega)⟩
    repeat' (first | refine stp ?_|(refine v_spT ?_ ?_;omega)|(refine v_spF ?_ ?_;omega)|refine v_spD (fun hc=>?_) (fun hc=>?_)|(refine v_yc ?_ ?_;omega)|refine v_alloc' (fun ba=>?_)|fail)
    · refine v_callR (rctake_s pv l t hv hsz r[i].N) ?_
      rintro V Γ' (⟨m', cs, g1, ⟨w1, r1, w2, r2, w3, r3, ⟨x', y', z', hp', rfl⟩, n1, n2, n3, rfl⟩, rfl⟩ | ⟨er, g1, g2, rfl, rfl⟩)
      · have hst : stepC l m (toCk r[i]) = .ok m' := (if_pos hc).trans g1
        (try dsimp only [List.cons_append, List.nil_append])
        repeat' (first | refine stp ?_|(refine v_spT ?_ ?_;omega)|(refine v_spF ?_ ?_;omega)|refine v_spD (fun hc=>?_) (fun hc=>?_)|(refine v_yc ?_ ?_;omega)|refine v_alloc' (fun ba=>?_)|fail)
        exact v_again ⟨i + 1, m', w1, r1, w2, r2, w3, r3, x', y', z'⟩ (by dsimp only; omega) rfl inferInstance ⟨hlt, (hok _ hst).1, (hok _ hst).2, hp', n1, n2, n3⟩
      · have hst : stepC l m (toCk r[i]) = .err er := (if_pos hc).trans g1
        (try dsimp only [List.cons_append, List.nil_append])
        repeat' (first | refine stp ?_|(refine v_spT ?_ ?_;omega)|(refine v_spF ?_ ?_;omega)|refine v_spD (fun hc=>?_) (fun hc=>?_)|(refine v_yc ?_ ?_;omega)|refine v_alloc' (fun ba=>?_)|fail)
        refine v_o2 Tryz.results9 ⟨.inl ⟨er, hall er hst, g2, rfl⟩, rfl⟩ ⟨_, inferInstance⟩
    · rename_i h1 h2 h3
      have hst : stepC l m (toCk r[i]) = .ok (blankM r[i].N) := (if_neg h1).trans ((if_pos h2).trans (if_pos ⟨h3, hc⟩))
      refine v_callR (rblank_s r[i].N ⟨h3, hc⟩) ?_
      rintro V Γ' ⟨⟨x', y', z', hp', rfl⟩, rfl⟩
      obtain ⟨g1, g2, g3⟩ := blank_rk r[i].N
      (try dsimp only [List.cons_append, List.nil_append])
      repeat' (first | refine stp ?_|(refine v_spT ?_ ?_;omega)|(refine v_spF ?_ ?_;omega)|refine v_spD (fun hc=>?_) (fun hc=>?_)|(refine v_yc ?_ ?_;omega)|refine v_alloc' (fun ba=>?_)|fail)
      exact v_again ⟨i + 1, blankM r[i].N, nilS, [], nilS, [], nilS, [], x', y', z'⟩ (by dsimp only; omega) rfl inferInstance ⟨hlt, (hok _ hst).1, (hok _ hst).2, hp', by dsimp only; rw [g1]; exact OwnS.nil, by dsimp only; rw [g2]; exact OwnS.nil, by dsimp only; rw [g3]; exact OwnS.nil⟩
    · rename_i h1 h2 h3
      have hst : stepC l m (toCk r[i]) = .err 33 := (if_neg h1).trans ((if_pos h2).trans (if_neg (fun h => hc h.2)))
      refine v_o2 Tryz.results9 ⟨.inl ⟨33, hall 33 hst, by decide, rfl⟩, rfl⟩ ⟨_, inferInstance⟩
    · rename_i h1 h2
      have hst : stepC l m (toCk r[i]) = .err 33 := (if_neg h1).trans ((if_pos h2).trans (if_neg (fun h => hc h.1)))
      refine v_o2 Tryz.results9 ⟨.inl ⟨33, hall 33 hst, by decide, rfl⟩, rfl⟩ ⟨_, inferInstance⟩
    · rename_i h1 h2
      have hst : stepC l m (toCk r[i]) = .err 33 := (if_neg h1).trans ((if_neg h2).trans (if_pos hc))
      refine v_o2 Tryz.results9 ⟨.inl ⟨33, hall 33 hst, by decide, rfl⟩, rfl⟩ ⟨_, inferInstance⟩
    · rename_i h1 h2
      have hst : stepC l m (toCk r[i]) = chg m (toCk r[i]) := (if_neg h1).trans (if_neg h2)
      rw [bs_of r[i].Text]
      refine v_callO (rchange_s m (toCk r[i]) _ _ ⟨v1, s1, v2, s2, v3, s3, ⟨x, y, z, hp, rfl⟩, o1, o2, o3, rfl⟩ (hmb.le (by omega)) hc) ?_
      rintro V Γ' (⟨m', cs, g1, ⟨w1, r1, w2, r2, w3, r3, ⟨x', y', z', hp', rfl⟩, n1, n2, n3, rfl⟩, rfl⟩ | ⟨er, cs, g1, g2, ⟨w1, r1, w2, r2, w3, r3, ⟨x', y', z', hp', rfl⟩, n1, n2, n3, rfl⟩, rfl⟩)
      · (try dsimp only [List.cons_append, List.nil_append])
        repeat' (first | refine stp ?_|(refine v_spT ?_ ?_;omega)|(refine v_spF ?_ ?_;omega)|refine v_spD (fun hc=>?_) (fun hc=>?_)|(refine v_yc ?_ ?_;omega)|refine v_alloc' (fun ba=>?_)|fail)
        exact v_again ⟨i + 1, m', w1, r1, w2, r2, w3, r3, x', y', z'⟩ (by dsimp only; omega) rfl inferInstance ⟨hlt, (hok _ (hst.trans g1)).1, (hok _ (hst.trans g1)).2, hp', n1, n2, n3⟩
      · (try dsimp only [List.cons_append, List.nil_append])
        repeat' (first | refine stp ?_|(refine v_spT ?_ ?_;omega)|(refine v_spF ?_ ?_;omega)|refine v_spD (fun hc=>?_) (fun hc=>?_)|(refine v_yc ?_ ?_;omega)|refine v_alloc' (fun ba=>?_)|fail)
        refine v_o2 Tryz.results9 ⟨.inl ⟨er, hall er (hst.trans g1), g2, rfl⟩, rfl⟩ ⟨_, inferInstance⟩
  · obtain rfl : i = r.length := by omega
    rw [List.take_length] at heq
    repeat' (first | refine stp ?_|(refine v_spT ?_ ?_;omega)|(refine v_spF ?_ ?_;omega)|refine v_spD (fun hc=>?_) (fun hc=>?_)|(refine v_yc ?_ ?_;omega)|refine v_alloc' (fun ba=>?_)|fail)
    · refine v_o2 Tryz.results9 ⟨.inr ⟨m, heq, .inl ⟨hc, rfl⟩⟩, rfl⟩ ⟨_, inferInstance⟩
    · refine v_callR (renc_s m v1 v2 v3 s1 s2 s3 _ ⟨x, y, z, hp, rfl⟩ (ownAt (h := o1)) (ownAt (h := o2)) (ownAt (h := o3))) ?_
      rintro u Γ' ⟨rfl, ⟨x', u', hm', hg, hpk, rfl⟩ | ⟨hg, rfl⟩⟩
      · (try dsimp only [List.cons_append, List.nil_append])
        repeat' (first | refine stp ?_|(refine v_spT ?_ ?_;omega)|(refine v_spF ?_ ?_;omega)|refine v_spD (fun hc=>?_) (fun hc=>?_)|(refine v_yc ?_ ?_;omega)|refine v_alloc' (fun ba=>?_)|fail)
        refine v_o2 Tryz.results9 ⟨.inr ⟨m, heq, .inr (.inr ⟨hc, x', u', hm', hg, hpk, rfl⟩)⟩, rfl⟩ ⟨_, inferInstance⟩
      · (try dsimp only [List.cons_append, List.nil_append])
        repeat' (first | refine stp ?_|(refine v_spT ?_ ?_;omega)|(refine v_spF ?_ ?_;omega)|refine v_spD (fun hc=>?_) (fun hc=>?_)|(refine v_yc ?_ ?_;omega)|refine v_alloc' (fun ba=>?_)|fail)
        refine v_o2 Tryz.results9 ⟨.inr ⟨m, heq, .inr (.inl ⟨hc, hg, rfl⟩)⟩, rfl⟩ ⟨_, inferInstance⟩
theorem cookR_uniq {l : List ApiPacket} {cs : List CookM} {V V' : Value} (h : CookR l cs V) (h' : CookR l cs V') : V = V' := by
  rcases h with ⟨e, h1, h2, rfl⟩ | ⟨m, h1, h2⟩ <;> rcases h' with ⟨e', h1', h2', rfl⟩ | ⟨m', h1', h2'⟩
  · rw [h1] at h1'; cases h1'; rfl
  · rw [h1] at h1'; cases h1'
  · rw [h1] at h1'; cases h1'
  · rw [h1] at h1'; cases h1'
    rcases h2 with ⟨a, rfl⟩ | ⟨a, b, rfl⟩ | ⟨a, x, u, rfl, b, c, rfl⟩ <;> rcases h2' with ⟨a', rfl⟩ | ⟨a', b', rfl⟩ | ⟨a', x', u', hx, b', c', rfl⟩
    · rfl
    · exact absurd a a'
    · exact absurd a a'
    · exact absurd a' a
    · rfl
    · exact absurd (hx ▸ b') b
    · exact absurd a' a
    · exact absurd b b'
    · obtain rfl := msg_inj hx
      rw [packs_uniq c c']
end Go.Proofs.YtdfoijfjlhjeaaaGreat

/- coterielaw21.lives. -/
namespace Go.Proofs.YtdfoijfjlhjeaaaGreat
open Go Go.SX Go.RowKit
set_option maxRecDepth 100000
set_option maxHeartbeats 0
set_option synthInstance.maxSize 100000
set_option synthInstance.maxHeartbeats 400000
def lc1 : ApiCook := ⟨2, 2, 0, b0, ⟨#[]⟩⟩
def lc2 : ApiCook := ⟨4, 7, 3, b0, ⟨#[]⟩⟩
abbrev lq : Body := .request 7 3
theorem lives_cook : cookF [] (zM 0) ([lc1, lc2].map toCk) = .ok lq.msg := by
  show (match stepC [] (zM 0) ⟨2, 2, 0, b0, []⟩ with | .ok m' => cookF [] m' [⟨4, 7, 3, b0, []⟩] | .err e => .err e) = _
  have h1 : stepC [] (zM 0) ⟨2, 2, 0, b0, []⟩ = .ok ⟨2, rk0, 0, 1, rp0, sl0⟩ := rfl
  rw [h1]
  show (match stepC [] ⟨2, rk0, 0, 1, rp0, sl0⟩ ⟨4, 7, 3, b0, []⟩ with | .ok m' => cookF [] m' [] | .err e => .err e) = _
  have h2 : stepC [] ⟨2, rk0, 0, 1, rp0, sl0⟩ ⟨4, 7, 3, b0, []⟩ = .ok lq.msg := rfl
  rw [h2]
  rfl
theorem lives_good : GoodM lq.msg := .inr (.inl ⟨rfl, ⟨rfl, rfl, rfl, rfl⟩, ⟨⟨by decide, by decide⟩, by decide, by decide⟩, ⟨rfl, rfl, rfl, rfl⟩, rfl, ⟨rfl, rfl⟩, rfl⟩)
abbrev gbg : List UInt8 := [103, 97, 114, 98, 97, 103, 101]
theorem gbg_no : decP gbg = none := by
  have : (decP gbg).isNone = true := by decide +kernel
  simpa using this
instance lives21_s : PC Tryz.prog 7 #[] (.bool true) := ⟨by
  refine spec_of0 Tryz.func7 Tryz.ntmps7 rfl rfl (fun M w0 => ?_)
  repeat' (first | refine stp ?_|(refine v_spT ?_ ?_;omega)|refine v_spD (fun hc=>?_) (fun hc=>?_)|refine v_alloc' (fun ba=>?_)|refine v_lit (fun bl=>?_)|fail)
  have hl : AtS (.slice (some ⟨bl, 0, none⟩) 2 2) 32 ApiCook 8 cvApiCook [lc1, lc2] [(bl, .cells #[.int .i64 2, .int .i64 2, .int .i64 0, .int .i64 0, .int .i64 0, .int .i64 0, .int .i64 0, .string ⟨#[]⟩, .int .i64 4, .int .i64 7, .int .i64 3, .int .i64 0, .int .i64 0, .int .i64 0, .int .i64 0, .string ⟨#[]⟩] 32 (0, 0))] := AtS.off [lc1, lc2] (fun _ => rfl) rfl (by decide) (by decide) rfl
  have hck := (cook_s (.slice none 0 0) [] [] (ownAt (h := OwnS.nil)) (by simp) _ [lc1, lc2] _ hl (by decide) (fun ⟨c, hc, h5⟩ => absurd h5 (by simp at hc; rcases hc with rfl | rfl <;> decide))).rd
  simp only [List.flatten_cons, List.flatten_nil, List.nil_append, List.append_nil] at hck
  refine v_callR hck ?_
  rintro V Γ' ⟨hV, rfl⟩
  obtain ⟨u, hpk, rfl⟩ : ∃ u, Packs (wBody lq) u ∧ V = .tuple #[str u, .int .i64 0] := by
    rcases hV with ⟨e, h1, _⟩ | ⟨m, h1, h2⟩
    · rw [lives_cook] at h1; cases h1
    · rw [lives_cook] at h1
      cases h1
      rcases h2 with ⟨h2, _⟩ | ⟨_, h2, _⟩ | ⟨_, x, u, h2, _, h3, h4⟩
      · exact absurd h2 (by decide)
      · exact absurd lives_good h2
      · obtain rfl := msg_inj h2; exact ⟨u, h3, h4⟩
  have hul : u.length = 3 := by have := hpk.len; rw [this]; rfl
  have hdec : decP u = some lq := (dec_iff rfl).2 ⟨lives_good, hpk⟩
  (try dsimp only [List.cons_append, List.nil_append])
  repeat' (first | refine stp ?_|(refine v_spT ?_ ?_;omega)|refine v_spD (fun hc=>?_) (fun hc=>?_)|refine v_alloc' (fun ba=>?_)|refine v_lit (fun bl=>?_)|fail)
  refine v_callR (rdec_s u (by omega)) ?_
  rintro V Γ' (⟨x, cs, hx, ⟨v1, s1, v2, s2, v3, s3, ⟨p1, p2, p3, hp, rfl⟩, o1, o2, o3, rfl⟩, rfl⟩ | ⟨hn, rfl, rfl⟩)
  · rw [hdec] at hx
    cases hx
    (try dsimp only [List.cons_append, List.nil_append])
    repeat' (first | refine stp ?_|(refine v_spT ?_ ?_;omega)|refine v_spD (fun hc=>?_) (fun hc=>?_)|refine v_alloc' (fun ba=>?_)|refine v_lit (fun bl=>?_)|fail)
    · refine v_callR knewS ?_
      rintro v Γ' ⟨bk, s, rfl, rfl, hK⟩
      (try dsimp only [List.cons_append, List.nil_append])
      repeat' (first | refine stp ?_|(refine v_spT ?_ ?_;omega)|refine v_spD (fun hc=>?_) (fun hc=>?_)|refine v_alloc' (fun ba=>?_)|refine v_lit (fun bl=>?_)|fail)
      refine v_callR (allowed_s hK gbg (by decide)) ?_
      rintro v Γ' ⟨rfl, rfl⟩
      (try dsimp only [List.cons_append, List.nil_append])
      repeat' (first | refine stp ?_|(refine v_spT ?_ ?_;omega)|refine v_spD (fun hc=>?_) (fun hc=>?_)|refine v_alloc' (fun ba=>?_)|refine v_lit (fun bl=>?_)|fail)
      refine v_out1 (Γk := []) Tryz.results7 ⟨(bT (show KnowM.zero.allows gbg from fun x hx => by rw [gbg_no] at hx; cases hx)).symm, rfl⟩
    · exact absurd ⟨rfl, rfl⟩ hc
  · rw [hdec] at hn; cases hn⟩
end Go.Proofs.YtdfoijfjlhjeaaaGreat

/- The shelf's contracts of maps.Keys, slices.Sorted, slices.Sort at int keys, laid at this program (printed by the kit's tools). -/
namespace Go.Proofs.YtdfoijfjlhjeaaaGreat
open Go.Shelf
def keysI_ren : Go.Shelf.Ren := ⟨fun | 7 => 51 | 10 => 95 | n => n, fun | 23 => 88 | 26 => 3 | 3 => 3 | 28 => 118 | 0 => 0 | 27 => 117 | 33 => 168 | 4 => 4 | n => n, fun | n => n⟩
theorem keysI : Go.Proofs.SlLaysZI.n7 Tryz.prog keysI_ren := {
  mixed := by kernel_rfl
  f7 := ⟨Tryz.f51.name, by decide, Tryz.func51.trans (congrArg some (by kernel_rfl))⟩
  f10 := ⟨Tryz.f95.name, by decide, Tryz.func95.trans (congrArg some (by kernel_rfl))⟩
  t0 := Tryz.underlying0
  a0 := Tryz.isAgg0
  z0 := Tryz.sizeOf0
  v0 := Tryz.zeroValue0
  t4 := Tryz.underlying4
  a4 := Tryz.isAgg4
  z4 := Tryz.sizeOf4
  v4 := Tryz.zeroValue4
  t23 := Tryz.underlying88
  a23 := Tryz.isAgg88
  z23 := Tryz.sizeOf88
  v23 := Tryz.zeroValue88
  t26 := Tryz.underlying3
  a26 := Tryz.isAgg3
  z26 := Tryz.sizeOf3
  v26 := Tryz.zeroValue3
  t27 := Tryz.underlying117
  a27 := Tryz.isAgg117
  z27 := Tryz.sizeOf117
  v27 := Tryz.zeroValue117
  t28 := Tryz.underlying118
  a28 := Tryz.isAgg118
  z28 := Tryz.sizeOf118
  v28 := Tryz.zeroValue118
  t33 := Tryz.underlying168
  a33 := Tryz.isAgg168
  z33 := Tryz.sizeOf168
  v33 := Tryz.zeroValue168 }
def sortedI_ren : Go.Shelf.Ren := ⟨fun | 6 => 50 | 8 => 93 | 9 => 94 | 11 => 139 | 13 => 141 | 12 => 140 | 23 => 164 | 24 => 165 | 14 => 155 | 15 => 156 | 16 => 157 | 17 => 158 | 18 => 159 | 19 => 160 | 20 => 161 | 21 => 162 | 22 => 163 | 25 => 169 | 26 => 170 | 27 => 171 | 28 => 172 | 29 => 173 | 30 => 174 | 31 => 177 | n => n, fun | 26 => 3 | 28 => 118 | 24 => 114 | 0 => 0 | 3 => 3 | 37 => 202 | 48 => 184 | 50 => 158 | 4 => 4 | 40 => 211 | 39 => 210 | 45 => 153 | 5 => 5 | 9 => 9 | 51 => 221 | 55 => 225 | 57 => 229 | 58 => 227 | 33 => 168 | n => n, fun | n => n⟩
theorem sortedI : Go.Proofs.SlLaysZI.n6 Tryz.prog sortedI_ren := {
  mixed := by kernel_rfl
  f6 := ⟨Tryz.f50.name, by decide, Tryz.func50.trans (congrArg some (by kernel_rfl))⟩
  f8 := ⟨Tryz.f93.name, by decide, Tryz.func93.trans (congrArg some (by kernel_rfl))⟩
  f11 := ⟨Tryz.f139.name, by decide, Tryz.func139.trans (congrArg some (by kernel_rfl))⟩
  t0 := Tryz.underlying0
  a0 := Tryz.isAgg0
  z0 := Tryz.sizeOf0
  v0 := Tryz.zeroValue0
  t24 := Tryz.underlying114
  a24 := Tryz.isAgg114
  z24 := Tryz.sizeOf114
  v24 := Tryz.zeroValue114
  t26 := Tryz.underlying3
  a26 := Tryz.isAgg3
  z26 := Tryz.sizeOf3
  v26 := Tryz.zeroValue3
  t28 := Tryz.underlying118
  a28 := Tryz.isAgg118
  z28 := Tryz.sizeOf118
  v28 := Tryz.zeroValue118
  i26 := by kernel_rfl }
def sortI_ren : Go.Shelf.Ren := ⟨fun | 5 => 94 | 8 => 141 | 7 => 140 | 19 => 164 | 20 => 165 | 10 => 155 | 11 => 156 | 12 => 157 | 13 => 158 | 14 => 159 | 15 => 160 | 16 => 161 | 17 => 162 | 18 => 163 | 30 => 169 | 31 => 170 | 32 => 171 | 33 => 172 | 34 => 173 | 35 => 174 | 40 => 177 | n => n, fun | 23 => 114 | 25 => 3 | 3 => 3 | 32 => 202 | 22 => 114 | 0 => 0 | 44 => 184 | 46 => 158 | 4 => 4 | 36 => 211 | 35 => 210 | 41 => 153 | 5 => 5 | 9 => 9 | 53 => 221 | 57 => 225 | 63 => 229 | 64 => 227 | n => n, fun | n => n⟩
theorem sortI : Go.Proofs.SlLaysM.n5 Tryz.prog sortI_ren := {
  mixed := by kernel_rfl
  f5 := ⟨Tryz.f94.name, by decide, Tryz.func94.trans (congrArg some (by kernel_rfl))⟩
  f7 := ⟨Tryz.f140.name, by decide, Tryz.func140.trans (congrArg some (by kernel_rfl))⟩
  f8 := Tryz.func141.trans (congrArg some (by kernel_rfl))
  f10 := ⟨Tryz.f155.name, by decide, Tryz.func155.trans (congrArg some (by kernel_rfl))⟩
  f11 := ⟨Tryz.f156.name, by decide, Tryz.func156.trans (congrArg some (by kernel_rfl))⟩
  f12 := ⟨Tryz.f157.name, by decide, Tryz.func157.trans (congrArg some (by kernel_rfl))⟩
  f13 := ⟨Tryz.f158.name, by decide, Tryz.func158.trans (congrArg some (by kernel_rfl))⟩
  f14 := ⟨Tryz.f159.name, by decide, Tryz.func159.trans (congrArg some (by kernel_rfl))⟩
  f15 := ⟨Tryz.f160.name, by decide, Tryz.func160.trans (congrArg some (by kernel_rfl))⟩
  f16 := ⟨Tryz.f161.name, by decide, Tryz.func161.trans (congrArg some (by kernel_rfl))⟩
  f17 := ⟨Tryz.f162.name, by decide, Tryz.func162.trans (congrArg some (by kernel_rfl))⟩
  f18 := ⟨Tryz.f163.name, by decide, Tryz.func163.trans (congrArg some (by kernel_rfl))⟩
  f19 := Tryz.func164.trans (congrArg some (by kernel_rfl))
  f20 := Tryz.func165.trans (congrArg some (by kernel_rfl))
  f30 := ⟨Tryz.f169.name, by decide, Tryz.func169.trans (congrArg some (by kernel_rfl))⟩
  f31 := Tryz.func170.trans (congrArg some (by kernel_rfl))
  f32 := Tryz.func171.trans (congrArg some (by kernel_rfl))
  f33 := ⟨Tryz.f172.name, by decide, Tryz.func172.trans (congrArg some (by kernel_rfl))⟩
  f34 := ⟨Tryz.f173.name, by decide, Tryz.func173.trans (congrArg some (by kernel_rfl))⟩
  f35 := ⟨Tryz.f174.name, by decide, Tryz.func174.trans (congrArg some (by kernel_rfl))⟩
  f40 := ⟨Tryz.f177.name, by decide, Tryz.func177.trans (congrArg some (by kernel_rfl))⟩
  t0 := Tryz.underlying0
  a0 := Tryz.isAgg0
  z0 := Tryz.sizeOf0
  v0 := Tryz.zeroValue0
  t3 := Tryz.underlying3
  a3 := Tryz.isAgg3
  z3 := Tryz.sizeOf3
  v3 := Tryz.zeroValue3
  t4 := Tryz.underlying4
  a4 := Tryz.isAgg4
  z4 := Tryz.sizeOf4
  v4 := Tryz.zeroValue4
  t5 := Tryz.underlying5
  a5 := Tryz.isAgg5
  z5 := Tryz.sizeOf5
  v5 := Tryz.zeroValue5
  t9 := Tryz.underlying9
  a9 := Tryz.isAgg9
  z9 := Tryz.sizeOf9
  v9 := Tryz.zeroValue9
  t22 := Tryz.underlying114
  a22 := Tryz.isAgg114
  z22 := Tryz.sizeOf114
  v22 := Tryz.zeroValue114
  t23 := Tryz.underlying114
  a23 := Tryz.isAgg114
  z23 := Tryz.sizeOf114
  v23 := Tryz.zeroValue114
  t25 := Tryz.underlying3
  a25 := Tryz.isAgg3
  z25 := Tryz.sizeOf3
  v25 := Tryz.zeroValue3
  t32 := Tryz.underlying202
  a32 := Tryz.isAgg202
  z32 := Tryz.sizeOf202
  v32 := Tryz.zeroValue202
  t35 := Tryz.underlying210
  a35 := Tryz.isAgg210
  z35 := Tryz.sizeOf210
  v35 := Tryz.zeroValue210
  t36 := Tryz.underlying211
  a36 := Tryz.isAgg211
  z36 := Tryz.sizeOf211
  v36 := Tryz.zeroValue211
  t41 := Tryz.underlying153
  a41 := Tryz.isAgg153
  z41 := Tryz.sizeOf153
  v41 := Tryz.zeroValue153
  t44 := Tryz.underlying184
  a44 := Tryz.isAgg184
  z44 := Tryz.sizeOf184
  v44 := Tryz.zeroValue184
  t46 := Tryz.underlying158
  a46 := Tryz.isAgg158
  z46 := Tryz.sizeOf158
  v46 := Tryz.zeroValue158
  t53 := Tryz.underlying221
  a53 := Tryz.isAgg221
  z53 := Tryz.sizeOf221
  v53 := Tryz.zeroValue221
  t57 := Tryz.underlying225
  a57 := Tryz.isAgg225
  z57 := Tryz.sizeOf225
  v57 := Tryz.zeroValue225
  t63 := Tryz.underlying229
  a63 := Tryz.isAgg229
  z63 := Tryz.sizeOf229
  v63 := Tryz.zeroValue229
  t64 := Tryz.underlying227
  a64 := Tryz.isAgg227
  z64 := Tryz.sizeOf227
  v64 := Tryz.zeroValue227 }
end Go.Proofs.YtdfoijfjlhjeaaaGreat

/- know: its least keys, in order (through maps.Keys and slices.Sorted, by the shelf's contracts). -/
namespace Go.Proofs.YtdfoijfjlhjeaaaGreat
open Go Go.SX Go.RowKit Go.Shelf Go.Maps
set_option maxRecDepth 100000
set_option maxHeartbeats 0
set_option synthInstance.maxSize 100000
set_option synthInstance.maxHeartbeats 400000
theorem sortsI (m : Nat) : AnyZI.SortsIn Tryz.prog sortedI_ren Fence.wide m :=
  ⟨fun blk off cap ss W hH hblk hsz => callsIn_wide.2 (AnyM.slices_Sort_int sortI blk off cap ss W hH hblk hsz), fun p cap W => callsIn_wide.2 (AnyM.slices_Sort_int_none sortI p cap W)⟩
abbrev seqV (B : Nat) : Value := .func (.func 95) #[] #[.pointer (some ⟨B, 0, none⟩)]
theorem keysF_s (b : Nat) : SX.Spec Tryz.prog 51 #[.map (some b)] [] [] fun v Γ => ∃ B, v = seqV B ∧ Γ = [[(B, .cells #[.map (some b)] 88 (0, 0))]] := fun w i => by
  refine ((callsIn_wide (n := 5)).1 (AnyZI.keys_in keysI Fence.wide 5 trivial rfl (some b) w)).mono ?_
  rintro e w' ⟨rfl, rfl⟩
  exact ⟨_, _, rfl, ⟨_, rfl, rfl⟩, i.new _⟩
theorem keyI {x : Int} (h : inI64 x) : keyOf Tryz.prog 3 (.int .i64 x) = some (.int .i64 x) := by
  have hk : Tryz.prog.underlying 3 = some (.int .i64) := (inferInstance : Und Tryz.prog 3 (.int .i64)).out
  have hw : (Lit.int .i64 x).wf = true := by
    unfold inI64 at h
    simp [Lit.wf, IntKind.min, IntKind.max, IntKind.bits, IntKind.signed]; omega
  simp [keyOf, hk, mapKey, hw]
theorem sortedF_s {b B : Nat} {m : List (Int × Int)} {s : Hp} (h : OwnM b Int Int ik ik m s) (hk : ∀ p ∈ m, inI64 p.1) (hl : m.length * 8 ≤ 140737488355328) :
    SX.Spec Tryz.prog 50 #[seqV B] [[(B, .cells #[.map (some b)] 88 (0, 0))], s] [] fun v Γ => ∃ l s', OwnS v 3 Int 1 ic l s' ∧ Γ = [s'] ∧ ∃ ss : List Int, ss.Perm (m.map (·.1)) ∧ l = ss.mergeSort (fun x y => decide (x ≤ y)) := fun w i => by
  obtain ⟨es, clk, rfl, h1, h2, h3, h4, h5⟩ := h.out
  have hb : w.heap[b]? = some (.map es clk) := i.ro (b, .map es clk) (by simp)
  have hB : w.heap[B]? = some (.cells #[.map (some b)] 88 (0, 0)) := i.ro (B, _) (by simp)
  have hBl : B < w.heap.size := (Array.getElem?_eq_some_iff.1 hB).1
  have hm : w.cell? ⟨B, 0, none⟩ = some (.map (some b)) := by rw [cell_of hB]; rfl
  have hsz : es.size = m.length := by have := congrArg List.length h1; simpa using this
  let R : Value → Option (DataW Unit × List MemPlace) := fun _ => some (.nil, [])
  have hrd : ∀ x ∈ es.toList, ∃ y, x.key = .int .i64 y ∧ WideElems.rd Tryz.prog 3 R x = some (.int .i64 y, .nil) := fun x hx => by
    have : x.key ∈ es.toList.map (·.key) := List.mem_map.2 ⟨x, hx, rfl⟩
    rw [h1] at this
    obtain ⟨p, hp, e⟩ := List.mem_map.1 this
    refine ⟨p.1, e.symm, ?_⟩
    simp [WideElems.rd, ← e, keyI (hk p hp), R]
  have hfit : WideElems.Fit Tryz.prog 3 R es clk := by
    refine ⟨by rw [hsz]; unfold maxLen; omega, ⟨h5, h4.imp (fun h => Nat.ne_of_lt h), ?_⟩, fun x hx => ?_⟩
    · rw [h1]
      refine List.pairwise_map.2 ((List.pairwise_map.1 h3).imp fun {a c} hac e => hac ?_)
      simpa using e
    · obtain ⟨y, _, hy⟩ := hrd x hx; exact ⟨_, hy⟩
  have hown : w.ownsMap Tryz.prog 3 R b es.size (.map ((es.toList.map (WideElems.rg Tryz.prog 3 R)).foldr DataW.insert [])) := ⟨es, clk, hb, hfit, Nat.le_refl _, rfl⟩
  have hkeys : (intKeys (.map ((es.toList.map (WideElems.rg Tryz.prog 3 R)).foldr DataW.insert [])) : List Int).Perm (m.map (·.1)) := by
    refine ((WideShapes.sorted_perm _).map fun p => _root_.Go.intOf p.1).trans ?_
    have : ((es.toList.map (WideElems.rg Tryz.prog 3 R)).map fun p => _root_.Go.intOf p.1).map (Value.int .i64) = (m.map (·.1)).map (Value.int .i64) := by
      rw [List.map_map, List.map_map, List.map_map]
      have e : (m.map fun p => ik p.1) = es.toList.map (·.key) := h1.symm
      show _ = m.map (fun p => ik p.1)
      rw [e]
      refine List.map_congr_left fun x hx => ?_
      obtain ⟨y, e1, e2⟩ := hrd x hx
      simp [WideElems.rg, e2, _root_.Go.intOf, e1]
    have := (List.map_inj_right (fun a c e => by simpa using e)).1 this
    rw [this]
  have hsize : Maps.size (.map ((es.toList.map (WideElems.rg Tryz.prog 3 R)).foldr DataW.insert [])) = m.length := by
    rw [Maps.size_eq, (WideShapes.sorted_perm _).length_eq]; simp [hsz]
  generalize (DataW.map ((es.toList.map (WideElems.rg Tryz.prog 3 R)).foldr DataW.insert [])) = D0 at hown hkeys hsize
  have hseq : SeqGives Fence.wide 2 Tryz.prog 95 #[.pointer (some ⟨B, 0, none⟩)] encZ (fun ss => ss.Perm (intKeys D0)) (Maps.size D0) w :=
    AnyZI.keys_gives (ρ := keysI_ren) { keysI with } Fence.wide _ trivial rfl (by omega) B b es.size D0 w hBl hm hown
  have cS := AnyZI.sorted_in sortedI Fence.wide 5 trivial trivial trivial trivial rfl (by omega) (sortsI _) (enters_of Tryz.func94 (by kernel_rfl) rfl) 95 #[.pointer (some ⟨B, 0, none⟩)] trivial (enters_of Tryz.func95 (by kernel_rfl) rfl) _ _ (by rw [hsize]; unfold maxLen; omega) (by rw [hsize]; exact hl) _ hseq
  refine ((callsIn_wide (n := 5)).1 cS).mono ?_
  rintro e w' ⟨v, ss, rfl, hS, hrow, _, hbel⟩
  have hkR : ∀ c ∈ keys [[(B, Obj.cells #[.map (some b)] 88 (0, 0))], [(b, .map es clk)]], c < w.heap.size := fun c hc => by
    obtain ⟨x, hx, rfl⟩ := List.mem_map.1 hc
    exact lt_of_own (i.ro x hx)
  have base : ∀ Γ : List Hp, (∀ x ∈ Γ.flatten, w'.heap[x.1]? = some x.2 ∧ w.heap.size ≤ x.1) → (keys Γ).Nodup → Inv ⟨keys [], w, false⟩ [[(B, Obj.cells #[.map (some b)] 88 (0, 0))], [(b, .map es clk)]] Γ w' := fun Γ hΓ hn =>
    ⟨hbel.os, hbel.tape, hbel.output, hbel.size, fun x hx => (hbel.block x.1 (hkR x.1 (List.mem_map.2 ⟨x, hx, rfl⟩))).trans (i.ro x hx), fun x hx => (hΓ x hx).1, hn, fun c hc hR => by
      obtain ⟨x, hx, rfl⟩ := List.mem_map.1 hc
      have := (hΓ x hx).2
      have := hkR _ hR
      omega, fun c hc => by
      obtain ⟨x, hx, rfl⟩ := List.mem_map.1 hc
      exact .inr (hΓ x hx).2, fun c hc _ => hbel.block c hc, fun e => by cases e⟩
  have hcv : ∀ l : List Int, cvs ic l = l.map encZ := fun l => by unfold cvs; induction l <;> simp_all
  have hml : (ss.mergeSort fun x y => decide (x ≤ y)).length = ss.length := (List.mergeSort_perm _ _).length_eq
  rcases hrow.2 with ⟨rfl, hz⟩ | ⟨g, cap, cur, rfl, hbase, hg, r1, r2, r3, r4⟩
  · obtain rfl := List.eq_nil_of_length_eq_zero hz
    exact ⟨_, [[]], rfl, ⟨[], [], OwnS.nil, rfl, [], hS.trans hkeys, by simp⟩, base _ (by simp) (by simp [keys])⟩
  · refine ⟨_, [[(g, .cells cur 3 (0, 0))]], rfl, ⟨_, _, ⟨?_⟩, rfl, ss, hS.trans hkeys, rfl⟩, base _ (by simp; exact ⟨hg, hbase⟩) (by simp [keys])⟩
    rw [hml, hcv]
    exact ⟨hrow.1, .inr ⟨g, 0, cap, cur, _, rfl, rfl, r1, r2, by omega, by rw [List.drop_zero]; exact r4⟩⟩
end Go.Proofs.YtdfoijfjlhjeaaaGreat

/- know: its least keys. -/
namespace Go.Proofs.YtdfoijfjlhjeaaaGreat
open Go Go.SX Go.RowKit
set_option maxRecDepth 100000
set_option maxHeartbeats 0
set_option synthInstance.maxSize 100000
set_option synthInstance.maxHeartbeats 400000
instance (priority := 2000) biBoolSame (P : Program) (t : TypeId) (x : Bool) [h : Und P t .bool] : Bin P .neq t (.bool x) (.bool x) (.bool false) := by
  have := biBoolN (P := P) t x x
  simpa using this
theorem incr_len : ∀ (l : List Int) (lo hi : Int), lo ≤ hi → l.Pairwise (· < ·) → (∀ x ∈ l, lo ≤ x ∧ x < hi) → (l.length : Int) ≤ hi - lo
  | [], lo, hi, h, _, _ => by simp; omega
  | x :: l, lo, hi, h, hp, hb => by
    rw [List.pairwise_cons] at hp
    have hx := hb x (by simp)
    have := incr_len l (x + 1) hi (by omega) hp.2 (fun y hy => ⟨by have := hp.1 y hy; omega, (hb y (by simp [hy])).2⟩)
    simp only [List.length_cons]; omega
theorem sort_incr {l : List Int} (h : l.Nodup) : (l.mergeSort fun x y => decide (x ≤ y)).Pairwise (· < ·) := by
  have tr : ∀ a b c : Int, decide (a ≤ b) = true → decide (b ≤ c) = true → decide (a ≤ c) = true := fun a b c h1 h2 => by simp only [decide_eq_true_eq] at *; omega
  have to : ∀ a b : Int, (decide (a ≤ b) || decide (b ≤ a)) = true := fun a b => by simp only [Bool.or_eq_true, decide_eq_true_eq]; omega
  have h1 := List.pairwise_mergeSort tr to l
  have h2 : (l.mergeSort fun x y => decide (x ≤ y)).Nodup := (List.mergeSort_perm _ _).nodup_iff.2 h
  exact (h1.and h2).imp fun {a b} ⟨h3, h4⟩ => by simp only [decide_eq_true_eq] at h3; omega
theorem keys_len {m : List (Int × Int)} (hn : (m.map (·.1)).Nodup) (hk : ∀ p ∈ m, 0 < p.1 ∧ p.1 < 32768) : m.length ≤ 32768 := by
  have h1 := sort_incr hn
  have hp := List.mergeSort_perm (m.map (·.1)) (fun x y => decide (x ≤ y))
  have := incr_len _ 0 32768 (by decide) h1 fun x hx => by
    obtain ⟨p, hp', rfl⟩ := List.mem_map.1 (hp.mem_iff.1 hx)
    have := hk p hp'; omega
  rw [hp.length_eq, List.length_map] at this
  omega
structure KkG where
  i : Nat
  ov : Value
  os : Hp
abbrev lk (m : List (Int × Int)) (b : Int) : ApiKey := ⟨b, (mget m b).getD 0⟩
structure KkOk (m : List (Int × Int)) (l : List Int) (g : KkG) : Prop where
  le : g.i ≤ l.length
  own : OwnS g.ov 28 ApiKey 2 cvApiKey ((l.take g.i).map (lk m)) g.os
theorem keys_s {bk : Nat} {K : KnowM} {Γ : List Hp} (h : KnowA bk K Γ) (hlo : ∀ a t, mget K.least a = some t → 0 < a ∧ a < 32768) : SX.Spec Tryz.prog 20 #[kptr bk] Γ [] fun v Γ' => ∃ l s, OwnS v 28 ApiKey 2 cvApiKey l s ∧ Γ' = [s] ∧ l.length ≤ 32768 ∧ (l.map (·.Base)).Pairwise (· < ·) ∧ ∀ x, x ∈ l ↔ mget K.least x.Base = some x.Step := by
  obtain ⟨b1, b2, b3, b4, s1, s2, s3, s4, zm, sh, rfl, h1, h2, h3, h4, h5⟩ := h
  have hnd : (K.least.map (·.1)).Nodup := by obtain ⟨_, _, _, _, _, h, _⟩ := h1.out; exact h
  have hk : ∀ p ∈ K.least, 0 < p.1 ∧ p.1 < 32768 := fun p hp => hlo p.1 p.2 (mem_mget hnd hp)
  have hml := keys_len hnd hk
  refine spec_of1 Tryz.func20 Tryz.ntmps20 rfl rfl (fun M w0 => ?_)
  repeat' (first | refine stp ?_|refine v_spD (fun hc=>?_) (fun hc=>?_)|(refine v_yc ?_ ?_;omega)|refine v_lit (fun bl=>?_)|(refine v_push ?_ (fun sv ss hs hln=>?_);omega)|fail)
  refine v_callO (keysF_s _) ?_
  rintro v Γ' ⟨B, rfl, rfl⟩
  (try dsimp only [List.cons_append, List.nil_append])
  repeat' (first | refine stp ?_|refine v_spD (fun hc=>?_) (fun hc=>?_)|(refine v_yc ?_ ?_;omega)|refine v_lit (fun bl=>?_)|(refine v_push ?_ (fun sv ss hs hln=>?_);omega)|fail)
  refine v_callR (sortedF_s h1 (fun p hp => by have := hk p hp; unfold inI64; omega) (by omega)) ?_
  rintro v Γ' ⟨l, sl, hl, rfl, ss, hss, hls⟩
  have hll : l.length = K.least.length := by rw [hls, (List.mergeSort_perm _ _).length_eq, hss.length_eq, List.length_map]
  have hinc : l.Pairwise (· < ·) := hls ▸ sort_incr (hss.nodup_iff.2 hnd)
  have hmem : ∀ x, x ∈ l ↔ x ∈ K.least.map (·.1) := fun x => by rw [hls, (List.mergeSort_perm _ _).mem_iff, hss.mem_iff]
  clear hls hss
  (try dsimp only [List.cons_append, List.nil_append])
  repeat' (first | refine stp ?_|refine v_spD (fun hc=>?_) (fun hc=>?_)|(refine v_yc ?_ ?_;omega)|refine v_lit (fun bl=>?_)|(refine v_push ?_ (fun sv ss hs hln=>?_);omega)|fail)
  refine v_lp [3, 13] [0, 11, 12] (fun g : KkG => [g.ov, .int .i64 g.i]) (fun g => [g.os]) (KkOk K.least l) (fun g => l.length - g.i) ⟨0, nilS, []⟩ (fun _ => rfl) rfl inferInstance ⟨Nat.zero_le _, OwnS.nil⟩ ?_
  rintro ⟨i, ov, os⟩ ⟨hi, how⟩
  dsimp only at hi how ⊢
  have hlt : ((l.take i).map (lk K.least)).length = i := by rw [List.length_map, List.length_take]; omega
  (try dsimp only [zipE_c, zipE_n, List.cons_append, List.nil_append])
  repeat' (first | refine stp ?_|refine v_spD (fun hc=>?_) (fun hc=>?_)|(refine v_yc ?_ ?_;omega)|refine v_lit (fun bl=>?_)|(refine v_push ?_ (fun sv ss hs hln=>?_);omega)|fail)
  · refine v_again ⟨i + 1, sv, ss⟩ (by dsimp only; omega) rfl inferInstance ⟨by dsimp only; omega, ?_⟩
    dsimp only
    rw [List.take_add_one, List.getElem?_eq_getElem (by omega), Option.toList_some, List.map_append]
    exact hs
  · obtain rfl : i = l.length := by omega
    rw [List.take_of_length_le (Nat.le_refl _)] at how
    refine v_o1 Tryz.results20 ⟨_, _, how, rfl, by rw [List.length_map]; omega, ?_, fun x => ?_⟩ ⟨_, inferInstance⟩
    · rw [List.map_map]
      have : ((fun x : ApiKey => x.Base) ∘ lk K.least) = id := rfl
      rw [this, List.map_id]; exact hinc
    · constructor
      · intro hx
        obtain ⟨b, hb, rfl⟩ := List.mem_map.1 hx
        obtain ⟨p, hp, rfl⟩ := List.mem_map.1 ((hmem b).1 hb)
        dsimp only [lk]
        rw [mem_mget hnd hp]; rfl
      · intro hx
        refine List.mem_map.2 ⟨x.Base, (hmem _).2 (List.mem_map.2 ⟨(x.Base, x.Step), mget_mem hx, rfl⟩), ?_⟩
        dsimp only [lk]
        rw [hx]; rfl
theorem keysS {bk : Nat} {G : RefM} {n : Nat} {K : KnowM} {s : Hp} (h : KnowS bk K s) (hg : KinG G n K) : SX.Spec Tryz.prog 20 #[kptr bk] [s] [] fun v Γ' => ∃ l s, OwnS v 28 ApiKey 2 cvApiKey l s ∧ Γ' = [s] ∧ l.length ≤ 32768 ∧ KeysOf G.told G.boxes l := by
  obtain ⟨Γ, rfl, h⟩ := h
  refine (keys_s h fun a t ht => ⟨(hg.w.lo a t ht).2.gd.1, (hg.w.lo a t ht).1⟩).rd.weak ?_
  rintro v Γ' ⟨l, s, h1, rfl, h2, h3, h4⟩
  refine ⟨l, s, h1, rfl, h2, h3, fun x => ?_⟩
  rw [h4]
  constructor
  · intro hx
    obtain ⟨g1, g2⟩ := hg.w.lo _ _ hx
    refine ⟨g1, g2, fun s hs => ?_⟩
    obtain ⟨_, h' | ⟨t, h', h''⟩⟩ := (hg.had _ _).2 hs
    · omega
    · rw [hx] at h'; cases h'; exact h''
  · rintro ⟨g1, g2, g3⟩
    obtain ⟨_, h' | ⟨t, h', h''⟩⟩ := (hg.had _ _).2 g2
    · omega
    · have := g3 t (hg.w.lo _ _ h').2
      rw [h']; congr 1; omega
end Go.Proofs.YtdfoijfjlhjeaaaGreat

/- SpyWatches: the walk. -/
namespace Go.Proofs.YtdfoijfjlhjeaaaGreat
open Go Go.SX Go.RowKit
set_option maxRecDepth 100000
set_option maxHeartbeats 0
set_option synthInstance.maxSize 100000
set_option synthInstance.maxHeartbeats 400000
abbrev bsO (o : Coterielaw21Op) : List UInt8 := o.Bytes.data.toList
def RefM.stp (G : RefM) (o : Coterielaw21Op) : RefM := (⟨tellKey G.told o.Key, G.boxes, G.texts⟩ : RefM).watch (bsO o)
theorem KinG.stp {G : RefM} {n : Nat} {K K1 K2 : KnowM} {o : Coterielaw21Op} (h : KinG G n K) (h1 : LearnR K [o.Key] K1) (h2 : WatchR K1 (bsO o) K2) (hn : n < 9223372036854775000) : KinG (G.stp o) (n + 1) K2 :=
  KinG.watch (G := ⟨tellKey G.told o.Key, G.boxes, G.texts⟩) (h.learn h1) h2 hn
/-- how much there is -/
structure RefB (G : RefM) (n : Nat) : Prop where
  td : G.told.length ≤ n
  bx : G.boxes.length ≤ 2047 * n
  tx : G.texts.length ≤ n
theorem RefB.stp {G : RefM} {n : Nat} (h : RefB G n) (o : Coterielaw21Op) : RefB (G.stp o) (n + 1) := by
  have h1 := tellKey_len G.told o.Key
  have h2 := h.td
  have h3 := h.bx
  have h4 := h.tx
  unfold RefM.stp RefM.watch
  split
  · exact ⟨by dsimp only; omega, by dsimp only; omega, by dsimp only; omega⟩
  · rename_i x hx
    have h5 := tellBox_len' (bxs x.msg) G.boxes
    have h6 := (bxs_len hx).1
    have h7 := tellText_len G.texts (slOf x.msg)
    exact ⟨by dsimp only; omega, by dsimp only; omega, by dsimp only; omega⟩
theorem tellKey_gd {l : List ApiKey} (h : ∀ x ∈ l, Gd x.Base x.Step) (k : ApiKey) : ∀ x ∈ tellKey l k, Gd x.Base x.Step := fun x hx => by
  rcases mem_tellKey.1 hx with hx | ⟨rfl, g⟩
  · exact h x hx
  · exact g
structure BoG where
  j : Nat
  G : RefM
  K : KnowM
  s : Hp
  r : Hp
structure BoOk (l : Nat) (bk br : Nat) (g : BoG) : Prop where
  le : g.j ≤ l
  tot : tot g.K.shut ≤ 2047 * g.j
  len : RefB g.G g.j
  kin : KinG g.G g.j g.K
  k : KnowS bk g.K g.s
  r : RefS br g.G g.r
theorem refZero21 (br : Nat) : RefS br RefM.zero [(br, .cells #[nilS, nilS, nilS] 112 (0, 0))] := ⟨KinG.zero.gd, _, rfl, nilS, nilS, nilS, [], [], [], rfl, OwnS.nil, OwnS.nil, OwnS.nil⟩
theorem both_s {uv : Value} {l : List Coterielaw21Op} {s : Hp} (hu : AtS uv 57 Coterielaw21Op 3 cvCoterielaw21Op l s) (hb : l.length ≤ 1048576) (hsz : ∀ o ∈ l, o.Bytes.size ≤ 1048576) : SX.Spec Tryz.prog 17 #[uv] [s] [] fun v Γ => ∃ bk br K G sk sr, v = .tuple #[kptr bk, rptr br] ∧ Γ = [sk, sr] ∧ KinG G l.length K ∧ KnowS bk K sk ∧ RefS br G sr := by
  have hle := AtS.le hu
  refine spec_of1 Tryz.func17 Tryz.ntmps17 rfl rfl (fun M w0 => ?_)
  repeat' (first | refine stp ?_|(refine v_spT ?_ ?_;omega)|(refine v_spF ?_ ?_;omega)|(refine v_yc ?_ ?_;omega)|refine v_alloc' (fun ba=>?_)|refine v_box (fun bb=>?_)|fail)
  refine v_callO knewS ?_
  rintro v Γ' ⟨bk, s1, rfl, rfl, hK⟩
  (try dsimp only [List.cons_append, List.nil_append])
  repeat' (first | refine stp ?_|(refine v_spT ?_ ?_;omega)|(refine v_spF ?_ ?_;omega)|(refine v_yc ?_ ?_;omega)|refine v_alloc' (fun ba=>?_)|refine v_box (fun bb=>?_)|fail)
  refine v_lp [13] [4, 5, 11, 12] (fun g : BoG => [.int .i64 g.j]) (fun g => [g.s, g.r]) (BoOk l.length bk bb) (fun g => l.length - g.j) ⟨0, RefM.zero, KnowM.zero, s1, _⟩ (fun _ => rfl) rfl inferInstance
    ⟨Nat.zero_le _, Nat.le_refl _, ⟨Nat.le_refl _, Nat.le_refl _, Nat.le_refl _⟩, KinG.zero, hK, refZero21 bb⟩ ?_
  clear hK s1
  rintro ⟨j, G, K0, s0, r0⟩ ⟨hj, ht, hlen, hkin, hK, hR⟩
  dsimp only at hj ht hlen hkin hK hR ⊢
  (try dsimp only [zipE_c, zipE_n, List.cons_append, List.nil_append])
  rcases Nat.lt_or_ge j l.length with hlt | hge
  · have htd := hlen.td
    have hbx := hlen.bx
    have htx := hlen.tx
    have hln : (bsO l[j]).length ≤ 1048576 := by
      have := hsz l[j] (List.getElem_mem hlt)
      rw [Array.length_toList]; exact this
    repeat' (first | refine stp ?_|(refine v_spT ?_ ?_;omega)|(refine v_spF ?_ ?_;omega)|(refine v_yc ?_ ?_;omega)|refine v_alloc' (fun ba=>?_)|refine v_box (fun bb=>?_)|fail)
    refine v_callO (learnS hK l[j].Key (by omega)) ?_
    rintro v Γ' ⟨K1, s1, rfl, rfl, h1, hK1⟩
    have ht1 := h1.tot
    (try dsimp only [List.cons_append, List.nil_append])
    repeat' (first | refine stp ?_|(refine v_spT ?_ ?_;omega)|(refine v_spF ?_ ?_;omega)|(refine v_yc ?_ ?_;omega)|refine v_alloc' (fun ba=>?_)|refine v_box (fun bb=>?_)|fail)
    refine v_callO (rlearnS hR l[j].Key ⟨tellKey_gd hR.1.td _, hR.1.bx⟩ (by omega)) ?_
    rintro v Γ' ⟨r1, rfl, rfl, hR1⟩
    (try dsimp only [List.cons_append, List.nil_append])
    repeat' (first | refine stp ?_|(refine v_spT ?_ ?_;omega)|(refine v_spF ?_ ?_;omega)|(refine v_yc ?_ ?_;omega)|refine v_alloc' (fun ba=>?_)|refine v_box (fun bb=>?_)|fail)
    rw [bs_of l[j].Bytes]
    refine v_callO (watch_s hK1 (bsO l[j]) (by omega) (by omega)) ?_
    rintro v Γ' ⟨K2, s2, rfl, rfl, h2, hK2⟩
    have ht2 := h2.tot
    (try dsimp only [List.cons_append, List.nil_append])
    repeat' (first | refine stp ?_|(refine v_spT ?_ ?_;omega)|(refine v_spF ?_ ?_;omega)|(refine v_yc ?_ ?_;omega)|refine v_alloc' (fun ba=>?_)|refine v_box (fun bb=>?_)|fail)
    rw [bs_of l[j].Bytes]
    refine v_callO (rwatch_s hR1 (bsO l[j]) (by omega) (by dsimp only; omega) (by dsimp only; omega)) ?_
    rintro v Γ' ⟨r2, rfl, rfl, hR2⟩
    (try dsimp only [List.cons_append, List.nil_append])
    repeat' (first | refine stp ?_|(refine v_spT ?_ ?_;omega)|(refine v_spF ?_ ?_;omega)|(refine v_yc ?_ ?_;omega)|refine v_alloc' (fun ba=>?_)|refine v_box (fun bb=>?_)|fail)
    exact v_again ⟨j + 1, G.stp l[j], K2, s2, r2⟩ (by dsimp only; omega) rfl inferInstance ⟨hlt, by dsimp only; omega, hlen.stp l[j], hkin.stp h1 h2 (by omega), hK2, hR2⟩
  · obtain rfl : j = l.length := by omega
    repeat' (first | refine stp ?_|(refine v_spT ?_ ?_;omega)|(refine v_spF ?_ ?_;omega)|(refine v_yc ?_ ?_;omega)|refine v_alloc' (fun ba=>?_)|refine v_box (fun bb=>?_)|fail)
    refine v_o2 Tryz.results17 ⟨bk, bb, K0, G, s0, r0, rfl, rfl, hkin, hK, hR⟩ ⟨_, inferInstance⟩
theorem watches_s {uv : Value} {l : List Coterielaw21Op} {s : Hp} (hu : AtS uv 57 Coterielaw21Op 3 cvCoterielaw21Op l s) (hb : l.length ≤ 1048576) (hsz : ∀ o ∈ l, o.Bytes.size ≤ 1048576) (w : List UInt8) (hw : w.length ≤ 1048576) : SX.Spec Tryz.prog 5 #[uv, str w] [s] [] fun v Γ => v = .bool true ∧ Γ = [] := by
  refine spec_of2 Tryz.func5 Tryz.ntmps5 rfl rfl (fun M w0 => ?_)
  repeat' (first | refine stp ?_|(refine v_spT ?_ ?_;omega)|refine v_spD (fun hc=>?_) (fun hc=>?_)|fail)
  refine v_callR (both_s hu hb hsz) ?_
  rintro v Γ' ⟨bk, br, K, G, sk, sr, rfl, rfl, hkin, hK, hR⟩
  (try dsimp only [List.cons_append, List.nil_append])
  repeat' (first | refine stp ?_|(refine v_spT ?_ ?_;omega)|refine v_spD (fun hc=>?_) (fun hc=>?_)|fail)
  refine v_callR (rkeysS hR) ?_
  rintro v Γ' ⟨ks', tk', hks', rfl, hk2, _⟩
  (try dsimp only [List.cons_append, List.nil_append])
  repeat' (first | refine stp ?_|(refine v_spT ?_ ?_;omega)|refine v_spD (fun hc=>?_) (fun hc=>?_)|fail)
  refine v_callR (keysS hK hkin) ?_
  rintro v Γ' ⟨ks, tk, hks, rfl, _, hk1⟩
  obtain rfl := hk1.uniq hk2
  (try dsimp only [List.cons_append, List.nil_append])
  repeat' (first | refine stp ?_|(refine v_spT ?_ ?_;omega)|refine v_spD (fun hc=>?_) (fun hc=>?_)|fail)
  refine v_callR (same_s (ownAt (h := hks)) (ownAt (h := hks'))) ?_
  rintro v Γ' ⟨rfl, rfl⟩
  (try dsimp only [List.cons_append, List.nil_append])
  repeat' (first | refine stp ?_|(refine v_spT ?_ ?_;omega)|refine v_spD (fun hc=>?_) (fun hc=>?_)|fail)
  · exact absurd rfl hc
  refine v_callR (allowed_s hK w (by omega)) ?_
  rintro v Γ' ⟨rfl, rfl⟩
  rw [decide_eq_decide.2 (hkin.allows w)]
  (try dsimp only [List.cons_append, List.nil_append])
  repeat' (first | refine stp ?_|(refine v_spT ?_ ?_;omega)|refine v_spD (fun hc=>?_) (fun hc=>?_)|fail)
  refine v_callR (rallowed_s hR w (by omega)) ?_
  rintro v Γ' ⟨rfl, rfl⟩
  (try dsimp only [List.cons_append, List.nil_append])
  repeat' (first | refine stp ?_|(refine v_spT ?_ ?_;omega)|refine v_spD (fun hc=>?_) (fun hc=>?_)|fail)
  · refine v_callR (allowed_s hK w (by omega)) ?_
    rintro v Γ' ⟨rfl, rfl⟩
    rw [decide_eq_decide.2 (hkin.allows w)]
    (try dsimp only [List.cons_append, List.nil_append])
    repeat' (first | refine stp ?_|(refine v_spT ?_ ?_;omega)|refine v_spD (fun hc=>?_) (fun hc=>?_)|fail)
    · refine v_callR (keysS hK hkin) ?_
      rintro v Γ' ⟨ks2, tk2, hks2, rfl, _, hk3⟩
      obtain rfl := hk3.uniq hk2
      (try dsimp only [List.cons_append, List.nil_append])
      repeat' (first | refine stp ?_|(refine v_spT ?_ ?_;omega)|refine v_spD (fun hc=>?_) (fun hc=>?_)|fail)
      refine v_callR (same_s (ownAt (h := hks2)) (ownAt (h := hks'))) ?_
      rintro v Γ' ⟨rfl, rfl⟩
      (try dsimp only [List.cons_append, List.nil_append])
      repeat' (first | refine stp ?_|(refine v_spT ?_ ?_;omega)|refine v_spD (fun hc=>?_) (fun hc=>?_)|fail)
      refine v_o1 Tryz.results5 ⟨(bT rfl).symm, rfl⟩ ⟨_, inferInstance⟩
  · exact absurd rfl hc
end Go.Proofs.YtdfoijfjlhjeaaaGreat

/- SpyGainsNothing: what is allowed adds nothing. -/
namespace Go.Proofs.YtdfoijfjlhjeaaaGreat
open Go Go.SX Go.RowKit
set_option maxRecDepth 100000
set_option maxHeartbeats 0
set_option synthInstance.maxSize 100000
set_option synthInstance.maxHeartbeats 400000
theorem mem_tellBox {l : List ApiBox} {x y : ApiBox} (h : y ∈ tellBox l x) : y ∈ l ∨ y = x := by
  unfold tellBox at h
  split at h
  · rcases List.mem_append.1 h with h | h
    · exact .inl h
    · exact .inr (List.mem_singleton.1 h)
  · exact .inl h
theorem sub_tellBox {l : List ApiBox} {x y : ApiBox} (h : y ∈ l) : y ∈ tellBox l x := by
  unfold tellBox
  split
  · exact List.mem_append_left _ h
  · exact h
theorem in_tellBox {l : List ApiBox} {x : ApiBox} (h : GdB x) : x ∈ tellBox l x := by
  unfold tellBox
  by_cases hx : x ∈ l
  · rw [if_neg (fun hh => hh.2 hx)]; exact hx
  · rw [if_pos ⟨h, hx⟩]; exact List.mem_append_right _ (List.mem_singleton_self _)
theorem sub_fold {y : ApiBox} : ∀ (l bs : List ApiBox), y ∈ bs → y ∈ l.foldl tellBox bs
  | [], _, h => h
  | _ :: l, _, h => sub_fold l _ (sub_tellBox h)
theorem in_fold {y : ApiBox} (hg : GdB y) : ∀ (l bs : List ApiBox), y ∈ l → y ∈ l.foldl tellBox bs
  | x :: l, bs, h => by
    rcases List.mem_cons.1 h with rfl | h
    · exact sub_fold l _ (in_tellBox hg)
    · exact in_fold hg l _ h
abbrev Mk (told : List ApiKey) (boxes : List ApiBox) (b : ApiBox) : Prop := GdB b ∧ (b ∈ boxes ∨ Cl told boxes b.Under.Base b.Under.Step ∧ Cl told boxes b.Load.Base b.Load.Step)
theorem cl_add {told : List ApiKey} {boxes : List ApiBox} {b : ApiBox} (hm : Mk told boxes b) {a s : Int} : Cl told (tellBox boxes b) a s ↔ Cl told boxes a s := by
  constructor
  · intro h
    induction h with
    | own g h => exact .own g h
    | told hx e hs g => exact .told hx e hs g
    | opens hb _ e hs g ih =>
      rcases mem_tellBox hb with hb | rfl
      · exact .opens hb ih e hs g
      · rcases hm.2 with hb | ⟨_, hl⟩
        · exact .opens hb ih e hs g
        · rw [e] at hl
          exact hl.up hs g.2.2.2
  · exact Cl.mono (fun _ h => h) (fun _ h => sub_tellBox h)
theorem mk_add {told : List ApiKey} {boxes : List ApiBox} {b c : ApiBox} (hm : Mk told boxes b) : Mk told (tellBox boxes b) c ↔ Mk told boxes c := by
  constructor
  · rintro ⟨g, h | ⟨h1, h2⟩⟩
    · rcases mem_tellBox h with h | rfl
      · exact ⟨g, .inl h⟩
      · exact hm
    · exact ⟨g, .inr ⟨(cl_add hm).1 h1, (cl_add hm).1 h2⟩⟩
  · rintro ⟨g, h | ⟨h1, h2⟩⟩
    · exact ⟨g, .inl (sub_tellBox h)⟩
    · exact ⟨g, .inr ⟨(cl_add hm).2 h1, (cl_add hm).2 h2⟩⟩
theorem fold_same {told : List ApiKey} : ∀ (l boxes : List ApiBox), (∀ b ∈ l, Mk told boxes b) → (∀ a s, Cl told (l.foldl tellBox boxes) a s ↔ Cl told boxes a s) ∧ ∀ c, Mk told (l.foldl tellBox boxes) c ↔ Mk told boxes c
  | [], _, _ => ⟨fun _ _ => Iff.rfl, fun _ => Iff.rfl⟩
  | x :: l, boxes, h => by
    have hx := h x (by simp)
    obtain ⟨h1, h2⟩ := fold_same l (tellBox boxes x) fun b hb => (mk_add hx).2 (h b (List.mem_cons_of_mem _ hb))
    exact ⟨fun a s => (h1 a s).trans (cl_add hx), fun c => (h2 c).trans (mk_add hx)⟩
theorem in_tellText {l : List ApiSealed} {x : ApiSealed} (h : GoodSl x) : x ∈ tellText l x := by
  unfold tellText
  by_cases hx : x ∈ l
  · rw [if_neg (fun hh => hh.2 hx)]; exact hx
  · rw [if_pos ⟨h, hx⟩]; exact List.mem_append_right _ (List.mem_singleton_self _)
theorem mem_tellText {l : List ApiSealed} {x y : ApiSealed} (h : y ∈ tellText l x) : y ∈ l ∨ y = x := by
  unfold tellText at h
  split at h
  · rcases List.mem_append.1 h with h | h
    · exact .inl h
    · exact .inr (List.mem_singleton.1 h)
  · exact .inl h
theorem sub_tellText {l : List ApiSealed} {x y : ApiSealed} (h : y ∈ l) : y ∈ tellText l x := by
  unfold tellText
  split
  · exact List.mem_append_left _ h
  · exact h
/-- the same to whoever asks -/
structure RefSame (G G' : RefM) : Prop where
  cl : ∀ a s, Cl G'.told G'.boxes a s ↔ Cl G.told G.boxes a s
  mks : ∀ b, G'.makes b ↔ G.makes b
  sl : ∀ t, G'.makesSl t ↔ G.makesSl t
theorem RefSame.allows {G G' : RefM} (h : RefSame G G') (l : List UInt8) : G'.allows l ↔ G.allows l :=
  ⟨fun a x hx => ⟨fun b hb => (h.mks b).1 ((a x hx).1 b hb), fun h4 => (h.sl _).1 ((a x hx).2 h4)⟩, fun a x hx => ⟨fun b hb => (h.mks b).2 ((a x hx).1 b hb), fun h4 => (h.sl _).2 ((a x hx).2 h4)⟩⟩
theorem RefSame.keys {G G' : RefM} (h : RefSame G G') {l : List ApiKey} (hk : KeysOf G'.told G'.boxes l) : KeysOf G.told G.boxes l :=
  ⟨hk.up, fun x => (hk.iff x).trans (by simp only [h.cl])⟩
theorem watch_same {G : RefM} {l : List UInt8} (ha : G.allows l) : RefSame G (G.watch l) := by
  cases e : decP l with
  | none =>
    have e2 : G.watch l = G := by unfold RefM.watch; rw [e]
    rw [e2]
    exact ⟨fun _ _ => Iff.rfl, fun _ => Iff.rfl, fun _ => Iff.rfl⟩
  | some x =>
    have e2 : G.watch l = ⟨G.told, (bxs x.msg).foldl tellBox G.boxes, tellText G.texts (slOf x.msg)⟩ := by unfold RefM.watch; rw [e]
    obtain ⟨h1, h2⟩ := ha x e
    obtain ⟨f1, f2⟩ := fold_same (told := G.told) (bxs x.msg) G.boxes h1
    rw [e2]
    refine ⟨f1, f2, fun t => ?_⟩
    constructor
    · rintro ⟨g, h | h⟩
      · rcases mem_tellText h with h | rfl
        · exact ⟨g, .inl h⟩
        · by_cases h4 : x.msg.Kind = 4
          · exact h2 h4
          · exact absurd g (sl_no h4)
      · exact ⟨g, .inr ((f1 _ _).1 h)⟩
    · rintro ⟨g, h | h⟩
      · exact ⟨g, .inl (sub_tellText h)⟩
      · exact ⟨g, .inr ((f1 _ _).2 h)⟩
theorem like_sh {K K' : KnowM} (h : K.like K') (k : Int) : K'.sh k = K.sh k := by unfold KnowM.sh; rw [h.shut]
theorem like_had {K K' : KnowM} (h : K.like K') (a s : Int) : K'.had a s ↔ K.had a s := by unfold KnowM.had; rw [h.least]
theorem kin_like {G : RefM} {n : Nat} {K K' : KnowM} (h : KinG G n K) (hl : K.like K') : KinG G n K' := by
  refine ⟨⟨by rw [hl.least]; exact h.w.lo, h.w.td, fun k b hb => ?_, fun b hb => ?_, fun x hx => ?_, h.w.gb, h.w.gt⟩, by rw [hl.boxes]; exact h.bx, by rw [hl.boxes]; exact h.b1, by rw [hl.texts]; exact h.tx, by rw [hl.texts]; exact h.t1, h.tg⟩
  · rw [like_sh hl] at hb; rw [like_had hl]; exact h.w.sh k b hb
  · rw [like_sh hl, like_had hl]; exact h.w.bx b hb
  · rw [like_had hl]; exact h.w.tl x hx
structure GnG where
  j : Nat
  G : RefM
  K : KnowM
  s : Hp
structure GnOk (l : Nat) (bk : Nat) (g : GnG) : Prop where
  le : g.j ≤ l
  tot : tot g.K.shut ≤ 2047 * g.j
  kin : KinG g.G g.j g.K
  k : KnowS bk g.K g.s
theorem gains_s {uv : Value} {l : List Coterielaw21Op} {s : Hp} (hu : AtS uv 57 Coterielaw21Op 3 cvCoterielaw21Op l s) (hb : l.length ≤ 1048576) (hsz : ∀ o ∈ l, o.Bytes.size ≤ 1048576) {wv : Value} {w : List ByteArray} {t : Hp} (hv : AtS wv 9 ByteArray 1 (fun x => [.string x]) w t) (hwb : w.length ≤ 1048576) (hwz : ∀ x ∈ w, x.size ≤ 1048576) : SX.Spec Tryz.prog 6 #[uv, wv] [s, t] [] fun v Γ => v = .bool true ∧ Γ = [] := by
  have hle := AtS.le hu
  have hlw := AtS.le hv
  refine spec_of2 Tryz.func6 Tryz.ntmps6 rfl rfl (fun M w0 => ?_)
  repeat' (first | refine stp ?_|(refine v_spT ?_ ?_;omega)|(refine v_spF ?_ ?_;omega)|refine v_spD (fun hc=>?_) (fun hc=>?_)|(refine v_yc ?_ ?_;omega)|refine v_alloc' (fun ba=>?_)|refine ⟨?_,?_,?_⟩|refine ⟨?_,?_⟩|refine v_drawn0 (id:=23) pl6_23 (by kernel_rfl) ?_|fail)
  refine v_callO knewS ?_
  rintro v Γ' ⟨bk, s1, rfl, rfl, hK⟩
  (try dsimp only [List.cons_append, List.nil_append])
  repeat' (first | refine stp ?_|(refine v_spT ?_ ?_;omega)|(refine v_spF ?_ ?_;omega)|refine v_spD (fun hc=>?_) (fun hc=>?_)|(refine v_yc ?_ ?_;omega)|refine v_alloc' (fun ba=>?_)|refine ⟨?_,?_,?_⟩|refine ⟨?_,?_⟩|refine v_drawn0 (id:=23) pl6_23 (by kernel_rfl) ?_|fail)
  refine v_lp [22] [0, 1, 5, 20, 21] (fun g : GnG => [.int .i64 g.j]) (fun g => [g.s]) (GnOk l.length bk) (fun g => l.length - g.j) ⟨0, RefM.zero, KnowM.zero, s1⟩ (fun _ => rfl) rfl inferInstance ⟨Nat.zero_le _, Nat.le_refl _, KinG.zero, hK⟩ ?_
  clear hK s1
  rintro ⟨j, G, K0, s0⟩ ⟨hj, ht, hkin, hK⟩
  dsimp only at hj ht hkin hK ⊢
  (try dsimp only [zipE_c, zipE_n, List.cons_append, List.nil_append])
  rcases Nat.lt_or_ge j l.length with hlt | hge
  · have hln : (bsO l[j]).length ≤ 1048576 := by
      have := hsz l[j] (List.getElem_mem hlt)
      rw [Array.length_toList]; exact this
    repeat' (first | refine stp ?_|(refine v_spT ?_ ?_;omega)|(refine v_spF ?_ ?_;omega)|refine v_spD (fun hc=>?_) (fun hc=>?_)|(refine v_yc ?_ ?_;omega)|refine v_alloc' (fun ba=>?_)|refine ⟨?_,?_,?_⟩|refine ⟨?_,?_⟩|refine v_drawn0 (id:=23) pl6_23 (by kernel_rfl) ?_|fail)
    refine v_callO (learnS hK l[j].Key (by omega)) ?_
    rintro v Γ' ⟨K1, s1, rfl, rfl, h1, hK1⟩
    have ht1 := h1.tot
    (try dsimp only [List.cons_append, List.nil_append])
    repeat' (first | refine stp ?_|(refine v_spT ?_ ?_;omega)|(refine v_spF ?_ ?_;omega)|refine v_spD (fun hc=>?_) (fun hc=>?_)|(refine v_yc ?_ ?_;omega)|refine v_alloc' (fun ba=>?_)|refine ⟨?_,?_,?_⟩|refine ⟨?_,?_⟩|refine v_drawn0 (id:=23) pl6_23 (by kernel_rfl) ?_|fail)
    rw [bs_of l[j].Bytes]
    refine v_callO (watch_s hK1 (bsO l[j]) (by omega) (by omega)) ?_
    rintro v Γ' ⟨K2, s2, rfl, rfl, h2, hK2⟩
    have ht2 := h2.tot
    (try dsimp only [List.cons_append, List.nil_append])
    repeat' (first | refine stp ?_|(refine v_spT ?_ ?_;omega)|(refine v_spF ?_ ?_;omega)|refine v_spD (fun hc=>?_) (fun hc=>?_)|(refine v_yc ?_ ?_;omega)|refine v_alloc' (fun ba=>?_)|refine ⟨?_,?_,?_⟩|refine ⟨?_,?_⟩|refine v_drawn0 (id:=23) pl6_23 (by kernel_rfl) ?_|fail)
    exact v_again ⟨j + 1, G.stp l[j], K2, s2⟩ (by dsimp only; omega) rfl inferInstance ⟨hlt, by dsimp only; omega, hkin.stp h1 h2 (by omega), hK2⟩
  · obtain rfl : j = l.length := by omega
    repeat' (first | refine stp ?_|(refine v_spT ?_ ?_;omega)|(refine v_spF ?_ ?_;omega)|refine v_spD (fun hc=>?_) (fun hc=>?_)|(refine v_yc ?_ ?_;omega)|refine v_alloc' (fun ba=>?_)|refine ⟨?_,?_,?_⟩|refine ⟨?_,?_⟩|refine v_drawn0 (id:=23) pl6_23 (by kernel_rfl) ?_|fail)
    refine v_lp [37] [0, 1, 5, 35, 36] (fun i : Nat => [.int .i64 i]) (fun i => []) (fun i => i ≤ w.length) (fun i => w.length - i) 0 (fun _ => rfl) rfl inferInstance (Nat.zero_le _) ?_
    rintro i hi
    (try dsimp only [zipE_c, zipE_n, List.cons_append, List.nil_append])
    rcases Nat.lt_or_ge i w.length with hlt | hge
    · have hln : w[i].data.toList.length ≤ 1048576 := by
        have := hwz w[i] (List.getElem_mem hlt)
        rw [Array.length_toList]; exact this
      obtain ⟨wi, hwi⟩ : ∃ wi, wi = w[i].data.toList := ⟨_, rfl⟩
      rw [← hwi] at hln
      have hws : Value.string w[i] = str wi := by rw [hwi]
      repeat' (first | refine stp ?_|(refine v_spT ?_ ?_;omega)|(refine v_spF ?_ ?_;omega)|refine v_spD (fun hc=>?_) (fun hc=>?_)|(refine v_yc ?_ ?_;omega)|refine v_alloc' (fun ba=>?_)|refine ⟨?_,?_,?_⟩|refine ⟨?_,?_⟩|refine v_drawn0 (id:=23) pl6_23 (by kernel_rfl) ?_|fail)
      rw [hws]
      refine v_callR (allowed_s hK wi (by omega)) ?_
      rintro v Γ' ⟨rfl, rfl⟩
      (try dsimp only [List.cons_append, List.nil_append])
      repeat' (first | refine stp ?_|(refine v_spT ?_ ?_;omega)|(refine v_spF ?_ ?_;omega)|refine v_spD (fun hc=>?_) (fun hc=>?_)|(refine v_yc ?_ ?_;omega)|refine v_alloc' (fun ba=>?_)|refine ⟨?_,?_,?_⟩|refine ⟨?_,?_⟩|refine v_drawn0 (id:=23) pl6_23 (by kernel_rfl) ?_|fail)
      · exact v_again (i + 1) (by omega) rfl inferInstance (by omega)
      have hal := (hkin.allows wi).1 (Decidable.not_not.1 hc)
      have hsm := watch_same hal
      refine v_callR (copyS hK (by omega)) ?_
      rintro v Γ' ⟨bk', K', s', rfl, rfl, hlk, hK'⟩
      have htl := hlk.tot
      (try dsimp only [List.cons_append, List.nil_append])
      repeat' (first | refine stp ?_|(refine v_spT ?_ ?_;omega)|(refine v_spF ?_ ?_;omega)|refine v_spD (fun hc=>?_) (fun hc=>?_)|(refine v_yc ?_ ?_;omega)|refine v_alloc' (fun ba=>?_)|refine ⟨?_,?_,?_⟩|refine ⟨?_,?_⟩|refine v_drawn0 (id:=23) pl6_23 (by kernel_rfl) ?_|fail)
      refine v_callO (watch_s hK' wi (by omega) (by omega)) ?_
      rintro v Γ' ⟨K3, s3, rfl, rfl, hw3, hK3⟩
      have hkin3 := KinG.watch (kin_like hkin hlk) hw3 (by omega)
      (try dsimp only [List.cons_append, List.nil_append])
      repeat' (first | refine stp ?_|(refine v_spT ?_ ?_;omega)|(refine v_spF ?_ ?_;omega)|refine v_spD (fun hc=>?_) (fun hc=>?_)|(refine v_yc ?_ ?_;omega)|refine v_alloc' (fun ba=>?_)|refine ⟨?_,?_,?_⟩|refine ⟨?_,?_⟩|refine v_drawn0 (id:=23) pl6_23 (by kernel_rfl) ?_|fail)
      refine v_callR (keysS hK3 hkin3) ?_
      rintro v Γ' ⟨ks, tk, hks, rfl, _, hk1⟩
      (try dsimp only [List.cons_append, List.nil_append])
      repeat' (first | refine stp ?_|(refine v_spT ?_ ?_;omega)|(refine v_spF ?_ ?_;omega)|refine v_spD (fun hc=>?_) (fun hc=>?_)|(refine v_yc ?_ ?_;omega)|refine v_alloc' (fun ba=>?_)|refine ⟨?_,?_,?_⟩|refine ⟨?_,?_⟩|refine v_drawn0 (id:=23) pl6_23 (by kernel_rfl) ?_|fail)
      refine v_callR (keysS hK hkin) ?_
      rintro v Γ' ⟨ks', tk', hks', rfl, _, hk2⟩
      obtain rfl := (hsm.keys hk1).uniq hk2
      (try dsimp only [List.cons_append, List.nil_append])
      repeat' (first | refine stp ?_|(refine v_spT ?_ ?_;omega)|(refine v_spF ?_ ?_;omega)|refine v_spD (fun hc=>?_) (fun hc=>?_)|(refine v_yc ?_ ?_;omega)|refine v_alloc' (fun ba=>?_)|refine ⟨?_,?_,?_⟩|refine ⟨?_,?_⟩|refine v_drawn0 (id:=23) pl6_23 (by kernel_rfl) ?_|fail)
      refine v_callR (same_s (ownAt (h := hks)) (ownAt (h := hks'))) ?_
      rintro v Γ' ⟨rfl, rfl⟩
      (try dsimp only [List.cons_append, List.nil_append])
      repeat' (first | refine stp ?_|(refine v_spT ?_ ?_;omega)|(refine v_spF ?_ ?_;omega)|refine v_spD (fun hc=>?_) (fun hc=>?_)|(refine v_yc ?_ ?_;omega)|refine v_alloc' (fun ba=>?_)|refine ⟨?_,?_,?_⟩|refine ⟨?_,?_⟩|refine v_drawn0 (id:=23) pl6_23 (by kernel_rfl) ?_|fail)
      · exact absurd rfl hc
      refine v_lp [60] [0, 1, 5, 10, 35, 36, 37, 58, 59] (fun i : Nat => [.int .i64 i]) (fun i => []) (fun i => i ≤ l.length) (fun i => l.length - i) 0 (fun _ => rfl) rfl inferInstance (Nat.zero_le _) ?_
      rintro q hq
      (try dsimp only [zipE_c, zipE_n, List.cons_append, List.nil_append])
      rcases Nat.lt_or_ge q l.length with hltq | hgeq
      · have hln2 : (bsO l[q]).length ≤ 1048576 := by
          have := hsz l[q] (List.getElem_mem hltq)
          rw [Array.length_toList]; exact this
        have hbs : Value.string l[q].Bytes = str (bsO l[q]) := by simp
        repeat' (first | refine stp ?_|(refine v_spT ?_ ?_;omega)|(refine v_spF ?_ ?_;omega)|refine v_spD (fun hc=>?_) (fun hc=>?_)|(refine v_yc ?_ ?_;omega)|refine v_alloc' (fun ba=>?_)|refine ⟨?_,?_,?_⟩|refine ⟨?_,?_⟩|refine v_drawn0 (id:=23) pl6_23 (by kernel_rfl) ?_|fail)
        rw [hbs]
        refine v_callR (allowed_s hK3 (bsO l[q]) (by omega)) ?_
        rintro v Γ' ⟨rfl, rfl⟩
        (try dsimp only [List.cons_append, List.nil_append])
        rw [decide_eq_decide.2 ((hkin3.allows _).trans (hsm.allows _))]
        repeat' (first | refine stp ?_|(refine v_spT ?_ ?_;omega)|(refine v_spF ?_ ?_;omega)|refine v_spD (fun hc=>?_) (fun hc=>?_)|(refine v_yc ?_ ?_;omega)|refine v_alloc' (fun ba=>?_)|refine ⟨?_,?_,?_⟩|refine ⟨?_,?_⟩|refine v_drawn0 (id:=23) pl6_23 (by kernel_rfl) ?_|fail)
        refine v_callR (allowed_s hK (bsO l[q]) (by omega)) ?_
        rintro v Γ' ⟨rfl, rfl⟩
        (try dsimp only [List.cons_append, List.nil_append])
        rw [decide_eq_decide.2 (hkin.allows _)]
        repeat' (first | refine stp ?_|(refine v_spT ?_ ?_;omega)|(refine v_spF ?_ ?_;omega)|refine v_spD (fun hc=>?_) (fun hc=>?_)|(refine v_yc ?_ ?_;omega)|refine v_alloc' (fun ba=>?_)|refine ⟨?_,?_,?_⟩|refine ⟨?_,?_⟩|refine v_drawn0 (id:=23) pl6_23 (by kernel_rfl) ?_|fail)
        exact v_again (q + 1) (by omega) rfl inferInstance (by omega)
      · repeat' (first | refine stp ?_|(refine v_spT ?_ ?_;omega)|(refine v_spF ?_ ?_;omega)|refine v_spD (fun hc=>?_) (fun hc=>?_)|(refine v_yc ?_ ?_;omega)|refine v_alloc' (fun ba=>?_)|refine ⟨?_,?_,?_⟩|refine ⟨?_,?_⟩|refine v_drawn0 (id:=23) pl6_23 (by kernel_rfl) ?_|fail)
        refine v_lp [76] [0, 1, 5, 10, 35, 36, 37, 74, 75] (fun i : Nat => [.int .i64 i]) (fun i => []) (fun i => i ≤ w.length) (fun i => w.length - i) 0 (fun _ => rfl) rfl inferInstance (Nat.zero_le _) ?_
        rintro p hp
        (try dsimp only [zipE_c, zipE_n, List.cons_append, List.nil_append])
        rcases Nat.lt_or_ge p w.length with hltp | hgep
        · have hln3 : w[p].data.toList.length ≤ 1048576 := by
            have := hwz w[p] (List.getElem_mem hltp)
            rw [Array.length_toList]; exact this
          obtain ⟨wj, hwj⟩ : ∃ wj, wj = w[p].data.toList := ⟨_, rfl⟩
          rw [← hwj] at hln3
          have hws3 : Value.string w[p] = str wj := by rw [hwj]
          repeat' (first | refine stp ?_|(refine v_spT ?_ ?_;omega)|(refine v_spF ?_ ?_;omega)|refine v_spD (fun hc=>?_) (fun hc=>?_)|(refine v_yc ?_ ?_;omega)|refine v_alloc' (fun ba=>?_)|refine ⟨?_,?_,?_⟩|refine ⟨?_,?_⟩|refine v_drawn0 (id:=23) pl6_23 (by kernel_rfl) ?_|fail)
          rw [hws3]
          refine v_callR (rdec_s wj (by omega)) ?_
          rintro V Γ' (⟨x, cs, hx, ⟨v1, s4, v2, s5, v3, s6, ⟨p1, p2, p3, hp, rfl⟩, o1, o2, o3, rfl⟩, rfl⟩ | ⟨hx, rfl, rfl⟩)
          · (try dsimp only [List.cons_append, List.nil_append])
            repeat' (first | refine stp ?_|(refine v_spT ?_ ?_;omega)|(refine v_spF ?_ ?_;omega)|refine v_spD (fun hc=>?_) (fun hc=>?_)|(refine v_yc ?_ ?_;omega)|refine v_alloc' (fun ba=>?_)|refine ⟨?_,?_,?_⟩|refine ⟨?_,?_⟩|refine v_drawn0 (id:=23) pl6_23 (by kernel_rfl) ?_|fail)
            · refine v_callR (allowed_s hK3 wj (by omega)) ?_
              rintro v Γ' ⟨rfl, rfl⟩
              (try dsimp only [List.cons_append, List.nil_append])
              rw [decide_eq_decide.2 ((hkin3.allows _).trans (hsm.allows _))]
              repeat' (first | refine stp ?_|(refine v_spT ?_ ?_;omega)|(refine v_spF ?_ ?_;omega)|refine v_spD (fun hc=>?_) (fun hc=>?_)|(refine v_yc ?_ ?_;omega)|refine v_alloc' (fun ba=>?_)|refine ⟨?_,?_,?_⟩|refine ⟨?_,?_⟩|refine v_drawn0 (id:=23) pl6_23 (by kernel_rfl) ?_|fail)
              refine v_callR (allowed_s hK wj (by omega)) ?_
              rintro v Γ' ⟨rfl, rfl⟩
              (try dsimp only [List.cons_append, List.nil_append])
              rw [decide_eq_decide.2 (hkin.allows _)]
              repeat' (first | refine stp ?_|(refine v_spT ?_ ?_;omega)|(refine v_spF ?_ ?_;omega)|refine v_spD (fun hc=>?_) (fun hc=>?_)|(refine v_yc ?_ ?_;omega)|refine v_alloc' (fun ba=>?_)|refine ⟨?_,?_,?_⟩|refine ⟨?_,?_⟩|refine v_drawn0 (id:=23) pl6_23 (by kernel_rfl) ?_|fail)
              exact v_again (p + 1) (by omega) rfl inferInstance (by omega)
            · exact v_again (p + 1) (by omega) rfl inferInstance (by omega)
          · (try dsimp only [List.cons_append, List.nil_append])
            repeat' (first | refine stp ?_|(refine v_spT ?_ ?_;omega)|(refine v_spF ?_ ?_;omega)|refine v_spD (fun hc=>?_) (fun hc=>?_)|(refine v_yc ?_ ?_;omega)|refine v_alloc' (fun ba=>?_)|refine ⟨?_,?_,?_⟩|refine ⟨?_,?_⟩|refine v_drawn0 (id:=23) pl6_23 (by kernel_rfl) ?_|fail)
            exact v_again (p + 1) (by omega) rfl inferInstance (by omega)
        · repeat' (first | refine stp ?_|(refine v_spT ?_ ?_;omega)|(refine v_spF ?_ ?_;omega)|refine v_spD (fun hc=>?_) (fun hc=>?_)|(refine v_yc ?_ ?_;omega)|refine v_alloc' (fun ba=>?_)|refine ⟨?_,?_,?_⟩|refine ⟨?_,?_⟩|refine v_drawn0 (id:=23) pl6_23 (by kernel_rfl) ?_|fail)
          exact v_again (i + 1) (by omega) rfl inferInstance (by omega)
    · repeat' (first | refine stp ?_|(refine v_spT ?_ ?_;omega)|(refine v_spF ?_ ?_;omega)|refine v_spD (fun hc=>?_) (fun hc=>?_)|(refine v_yc ?_ ?_;omega)|refine v_alloc' (fun ba=>?_)|refine ⟨?_,?_,?_⟩|refine ⟨?_,?_⟩|refine v_drawn0 (id:=23) pl6_23 (by kernel_rfl) ?_|fail)
      refine v_o1 Tryz.results6 ⟨rfl, rfl⟩ ⟨_, inferInstance⟩
end Go.Proofs.YtdfoijfjlhjeaaaGreat

/- SpySeen: what was watched is allowed, turned about too. -/
namespace Go.Proofs.YtdfoijfjlhjeaaaGreat
open Go Go.SX Go.RowKit
set_option maxRecDepth 100000
set_option maxHeartbeats 0
set_option synthInstance.maxSize 100000
set_option synthInstance.maxHeartbeats 400000
theorem good_bxs {x : Body} (h : GoodM x.msg) : ∀ b ∈ bxs x.msg, GdB b := by
  intro b hb
  cases x with
  | rekey r =>
    have hb' : b ∈ r.Items.map (·.Box) := hb
    obtain ⟨i, hi, rfl⟩ := List.mem_map.1 hb'
    exact ((gm1 h).2.2.2.1 i hi).2.2.2
  | request a c => cases hb
  | reply p =>
    have hb' : b ∈ p.Path := hb
    exact (gm3 h).2.2 b hb'
  | «sealed» t => cases hb
theorem good_sl {x : Body} (h : GoodM x.msg) (h4 : x.msg.Kind = 4) : GoodSl (slOf x.msg) := by
  cases x with
  | «sealed» t =>
    obtain ⟨a, c, d⟩ := gm4 h
    exact ⟨a, c, (by have e : (slOf (Body.sealed t).msg).Text.size = t.Text.length := rfl
                     rw [e]; exact d)⟩
  | rekey r => exact absurd h4 (by show ¬ (1 : Int) = 4; decide)
  | request a c => exact absurd h4 (by show ¬ (2 : Int) = 4; decide)
  | reply p => exact absurd h4 (by show ¬ (3 : Int) = 4; decide)
theorem watch_allows (G : RefM) (l : List UInt8) : (G.watch l).allows l := by
  intro x e
  have e2 : G.watch l = ⟨G.told, (bxs x.msg).foldl tellBox G.boxes, tellText G.texts (slOf x.msg)⟩ := by unfold RefM.watch; rw [e]
  have hg := (dec_ok e).1
  rw [e2]
  exact ⟨fun b hb => ⟨good_bxs hg b hb, .inl (in_fold (good_bxs hg b hb) _ _ hb)⟩, fun h4 => ⟨good_sl hg h4, .inl (in_tellText (good_sl hg h4))⟩⟩
/-- there is more -/
structure RefSub (G G' : RefM) : Prop where
  td : ∀ x ∈ G.told, x ∈ G'.told
  bx : ∀ x ∈ G.boxes, x ∈ G'.boxes
  tx : ∀ x ∈ G.texts, x ∈ G'.texts
theorem RefSub.allows {G G' : RefM} (h : RefSub G G') {l : List UInt8} (ha : G.allows l) : G'.allows l := by
  have hc : ∀ {a s : Int}, Cl G.told G.boxes a s → Cl G'.told G'.boxes a s := fun hc => Cl.mono h.td h.bx hc
  intro x e
  obtain ⟨h1, h2⟩ := ha x e
  refine ⟨fun b hb => ?_, fun h4 => ?_⟩
  · obtain ⟨g, hh | ⟨c1, c2⟩⟩ := h1 b hb
    · exact ⟨g, .inl (h.bx _ hh)⟩
    · exact ⟨g, .inr ⟨hc c1, hc c2⟩⟩
  · obtain ⟨g, hh | c1⟩ := h2 h4
    · exact ⟨g, .inl (h.tx _ hh)⟩
    · exact ⟨g, .inr (hc c1)⟩
theorem sub_watch (G : RefM) (l : List UInt8) : RefSub G (G.watch l) := by
  cases e : decP l with
  | none =>
    have e2 : G.watch l = G := by unfold RefM.watch; rw [e]
    rw [e2]; exact ⟨fun _ h => h, fun _ h => h, fun _ h => h⟩
  | some x =>
    have e2 : G.watch l = ⟨G.told, (bxs x.msg).foldl tellBox G.boxes, tellText G.texts (slOf x.msg)⟩ := by unfold RefM.watch; rw [e]
    rw [e2]; exact ⟨fun _ h => h, fun _ h => sub_fold _ _ h, fun _ h => sub_tellText h⟩
theorem sub_learn (G : RefM) (k : ApiKey) : RefSub G ⟨tellKey G.told k, G.boxes, G.texts⟩ := ⟨fun _ h => mem_tellKey.2 (.inl h), fun _ h => h, fun _ h => h⟩
theorem RefSub.trans {G G' G'' : RefM} (h : RefSub G G') (h' : RefSub G' G'') : RefSub G G'' := ⟨fun x hx => h'.td x (h.td x hx), fun x hx => h'.bx x (h.bx x hx), fun x hx => h'.tx x (h.tx x hx)⟩
/-- the items in another order -/
def turn : Body → Body
  | .rekey r => .rekey ⟨r.Epoch, r.Leaves, r.Joins, r.Items.reverse⟩
  | .request a b => .request a b
  | .reply p => .reply ⟨p.Who, p.Slot, 200, p.Path.reverse⟩
  | .sealed t => .sealed t
theorem turn_good {x : Body} (h : GoodM x.msg) : GoodM (turn x).msg := by
  cases x with
  | rekey r =>
    rcases h with ⟨_, ⟨h1, h2, h3, h4, h5⟩, h6⟩ | ⟨h, _⟩ | ⟨h, _⟩ | ⟨h, _⟩
    · exact .inl ⟨rfl, ⟨h1, h2, h3, fun i hi => h4 i (List.mem_reverse.1 hi), by show (r.Items.reverse.length : Int) ≤ 1536; rw [List.length_reverse]; exact h5⟩, h6⟩
    all_goals exact absurd h (by simp [Body.msg])
  | request a c => exact h
  | reply p =>
    rcases h with ⟨h, _⟩ | ⟨h, _⟩ | ⟨_, h1, h2, ⟨h3, h4, h5⟩, h6⟩ | ⟨h, _⟩
    · exact absurd h (by simp [Body.msg])
    · exact absurd h (by simp [Body.msg])
    · exact .inr (.inr (.inl ⟨rfl, h1, h2, ⟨h3, ⟨by show (1 : Int) ≤ 200; decide, by show (200 : Int) ≤ 200; decide⟩, fun b hb => h5 b (List.mem_reverse.1 hb)⟩, h6⟩))
    · exact absurd h (by simp [Body.msg])
  | «sealed» t => exact h
theorem turn_bxs (x : Body) (b : ApiBox) : b ∈ bxs (turn x).msg ↔ b ∈ bxs x.msg := by
  cases x with
  | rekey r =>
    show b ∈ r.Items.reverse.map (·.Box) ↔ b ∈ r.Items.map (·.Box)
    simp only [List.mem_map, List.mem_reverse]
  | request a c => exact Iff.rfl
  | reply p =>
    show b ∈ p.Path.reverse ↔ b ∈ p.Path
    rw [List.mem_reverse]
  | «sealed» t => exact Iff.rfl
theorem turn_sl {x : Body} : (turn x).msg.Kind = 4 → x.msg.Kind = 4 ∧ slOf (turn x).msg = slOf x.msg := by
  cases x with
  | rekey r => exact fun h => absurd h (by show ¬ (1 : Int) = 4; decide)
  | request a c => exact fun h => absurd h (by show ¬ (2 : Int) = 4; decide)
  | reply p => exact fun h => absurd h (by show ¬ (3 : Int) = 4; decide)
  | «sealed» t => exact fun h => ⟨h, rfl⟩
theorem turn_path {x : Body} (h : x.msg.Reply.Path.length = 3) : (turn x).msg.Reply.Path.length = 3 := by
  cases x with
  | reply p =>
    have h' : p.Path.length = 3 := h
    show p.Path.reverse.length = 3
    rw [List.length_reverse]; exact h'
  | _ => exact h
theorem turn_allows {G : RefM} {l u : List UInt8} {x : Body} (ha : G.allows l) (e : decP l = some x) (hp : x.msg.Reply.Path.length = 3) (hu : Packs (wBody (turn x)) u) : G.allows u := by
  have hd : decP u = some (turn x) := (dec_iff (turn_path hp)).2 ⟨turn_good (dec_ok e).1, hu⟩
  intro y hy
  rw [hd] at hy
  cases hy
  obtain ⟨h1, h2⟩ := ha x e
  exact ⟨fun b hb => h1 b ((turn_bxs x b).1 hb), fun h4 => by obtain ⟨h5, h6⟩ := turn_sl h4; rw [h6]; exact h2 h5⟩
structure SnG where
  j : Nat
  G : RefM
  K : KnowM
  s : Hp
structure SnOk (l : List Coterielaw21Op) (bk : Nat) (g : SnG) : Prop where
  le : g.j ≤ l.length
  tot : tot g.K.shut ≤ 2047 * g.j
  kin : KinG g.G g.j g.K
  all : ∀ o ∈ l.take g.j, g.G.allows (bsO o)
  k : KnowS bk g.K g.s
theorem turn_3 {x : Body} {a b c : ApiBox} (h : x.msg.Kind = 3) (hp : x.msg.Reply.Path = [a, b, c]) : (⟨x.msg.Kind, ⟨x.msg.Rekey.Epoch, x.msg.Rekey.Leaves, x.msg.Rekey.Joins, (x.msg.Rekey.Items.drop 0).reverse⟩, x.msg.Who, x.msg.Epoch, ⟨x.msg.Reply.Who, x.msg.Reply.Slot, 200, [c, b, a]⟩, x.msg.Sealed⟩ : MsgM) = (turn x).msg := by
  cases x with
  | reply p =>
    have hp' : p.Path = [a, b, c] := hp
    show _ = MsgM.mk 3 rk0 0 0 ⟨p.Who, p.Slot, 200, p.Path.reverse⟩ sl0
    rw [hp']; rfl
  | rekey r => exact absurd h (by show ¬ (1 : Int) = 3; decide)
  | request a c => exact absurd h (by show ¬ (2 : Int) = 3; decide)
  | «sealed» p => exact absurd h (by show ¬ (4 : Int) = 3; decide)
theorem turn_n {x : Body} (h : ¬ x.msg.Kind = 3) : (⟨x.msg.Kind, ⟨x.msg.Rekey.Epoch, x.msg.Rekey.Leaves, x.msg.Rekey.Joins, (x.msg.Rekey.Items.drop 0).reverse⟩, x.msg.Who, x.msg.Epoch, x.msg.Reply, x.msg.Sealed⟩ : MsgM) = (turn x).msg := by
  cases x with
  | reply p => exact absurd rfl h
  | rekey r => rfl
  | request a c => rfl
  | «sealed» p => rfl
theorem wBody_le {x : Body} (h : GoodM x.msg) (hp : x.msg.Reply.Path.length = 3) : (wBody x).length ≤ 100000 := by
  cases x with
  | rekey r =>
    obtain ⟨_, ⟨_, h2⟩, ⟨_, h3⟩, _, h4⟩ := gm1 h
    simp only [wBody, wRekey, List.length_append, wNum_len, wCntS_len, wCnt_len wItem_len]
    omega
  | request a c =>
    simp only [wBody, List.length_append, wNum_len]
    omega
  | reply p =>
    have hp' : p.Path.length = 3 := hp
    simp only [wBody, wReply, List.length_append, wNum_len, fmB_len]
    omega
  | «sealed» p =>
    obtain ⟨_, _, h4⟩ := gm4 h
    simp only [wBody, wSealed, List.length_append, wNum_len, wKey_len, wCnt_len wByte_len]
    omega
structure SbG where
  n : Nat
  v : Value
  s : Hp
theorem seen_s {uv : Value} {l : List Coterielaw21Op} {s : Hp} (hu : AtS uv 57 Coterielaw21Op 3 cvCoterielaw21Op l s) (hb : l.length ≤ 1048576) (hsz : ∀ o ∈ l, o.Bytes.size ≤ 1048576) : SX.Spec Tryz.prog 4 #[uv] [s] [] fun v Γ => v = .bool true ∧ Γ = [] := by
  have hle := AtS.le hu
  refine spec_of1 Tryz.func4 Tryz.ntmps4 rfl rfl (fun M w0 => ?_)
  repeat' (first | refine stp ?_|(refine v_spT ?_ ?_;omega)|(refine v_spF ?_ ?_;omega)|refine v_spD (fun hc=>?_) (fun hc=>?_)|(refine v_yc ?_ ?_;omega)|refine v_alloc' (fun ba=>?_)|refine v_lit (fun bl=>?_)|(refine v_push ?_ (fun sv ss hs hln=>?_);omega)|fail)
  refine v_callO knewS ?_
  rintro v Γ' ⟨bk, s1, rfl, rfl, hK⟩
  (try dsimp only [List.cons_append, List.nil_append])
  repeat' (first | refine stp ?_|(refine v_spT ?_ ?_;omega)|(refine v_spF ?_ ?_;omega)|refine v_spD (fun hc=>?_) (fun hc=>?_)|(refine v_yc ?_ ?_;omega)|refine v_alloc' (fun ba=>?_)|refine v_lit (fun bl=>?_)|(refine v_push ?_ (fun sv ss hs hln=>?_);omega)|fail)
  refine v_lp [18] [0, 3, 16, 17] (fun g : SnG => [.int .i64 g.j]) (fun g => [g.s]) (SnOk l bk) (fun g => l.length - g.j) ⟨0, RefM.zero, KnowM.zero, s1⟩ (fun _ => rfl) rfl inferInstance ⟨Nat.zero_le _, Nat.le_refl _, KinG.zero, by simp, hK⟩ ?_
  clear hK s1
  rintro ⟨j, G, K0, s0⟩ ⟨hj, ht, hkin, hall, hK⟩
  dsimp only at hj ht hkin hall hK ⊢
  (try dsimp only [zipE_c, zipE_n, List.cons_append, List.nil_append])
  rcases Nat.lt_or_ge j l.length with hlt | hge
  · have hln : (bsO l[j]).length ≤ 1048576 := by
      have := hsz l[j] (List.getElem_mem hlt)
      rw [Array.length_toList]; exact this
    have hbs : Value.string l[j].Bytes = str (bsO l[j]) := by simp
    repeat' (first | refine stp ?_|(refine v_spT ?_ ?_;omega)|(refine v_spF ?_ ?_;omega)|refine v_spD (fun hc=>?_) (fun hc=>?_)|(refine v_yc ?_ ?_;omega)|refine v_alloc' (fun ba=>?_)|refine v_lit (fun bl=>?_)|(refine v_push ?_ (fun sv ss hs hln=>?_);omega)|fail)
    rw [hbs]
    refine v_callO (watch_s hK (bsO l[j]) (by omega) (by omega)) ?_
    rintro v Γ' ⟨K2, s2, rfl, rfl, h2, hK2⟩
    have ht2 := h2.tot
    have hkin2 := KinG.watch hkin h2 (by omega)
    (try dsimp only [List.cons_append, List.nil_append])
    repeat' (first | refine stp ?_|(refine v_spT ?_ ?_;omega)|(refine v_spF ?_ ?_;omega)|refine v_spD (fun hc=>?_) (fun hc=>?_)|(refine v_yc ?_ ?_;omega)|refine v_alloc' (fun ba=>?_)|refine v_lit (fun bl=>?_)|(refine v_push ?_ (fun sv ss hs hln=>?_);omega)|fail)
    refine v_callR (allowed_s hK2 (bsO l[j]) (by omega)) ?_
    rintro v Γ' ⟨rfl, rfl⟩
    (try dsimp only [List.cons_append, List.nil_append])
    rw [decide_eq_true ((hkin2.allows _).2 (watch_allows G (bsO l[j])))]
    repeat' (first | refine stp ?_|(refine v_spT ?_ ?_;omega)|(refine v_spF ?_ ?_;omega)|refine v_spD (fun hc=>?_) (fun hc=>?_)|(refine v_yc ?_ ?_;omega)|refine v_alloc' (fun ba=>?_)|refine v_lit (fun bl=>?_)|(refine v_push ?_ (fun sv ss hs hln=>?_);omega)|fail)
    refine v_callO (learnS hK2 l[j].Key (by omega)) ?_
    rintro v Γ' ⟨K1, s1, rfl, rfl, h1, hK1⟩
    have ht1 := h1.tot
    (try dsimp only [List.cons_append, List.nil_append])
    repeat' (first | refine stp ?_|(refine v_spT ?_ ?_;omega)|(refine v_spF ?_ ?_;omega)|refine v_spD (fun hc=>?_) (fun hc=>?_)|(refine v_yc ?_ ?_;omega)|refine v_alloc' (fun ba=>?_)|refine v_lit (fun bl=>?_)|(refine v_push ?_ (fun sv ss hs hln=>?_);omega)|fail)
    refine v_again ⟨j + 1, ⟨tellKey (G.watch (bsO l[j])).told l[j].Key, (G.watch (bsO l[j])).boxes, (G.watch (bsO l[j])).texts⟩, K1, s1⟩ (by dsimp only; omega) rfl inferInstance ⟨hlt, by dsimp only; omega, Kin.learn hkin2 h1, ?_, hK1⟩
    dsimp only
    rw [List.take_succ_eq_append_getElem hlt]
    intro o ho
    rcases List.mem_append.1 ho with ho | ho
    · exact (sub_learn _ _).allows ((sub_watch _ _).allows (hall o ho))
    · rw [List.mem_singleton.1 ho]; exact (sub_learn _ _).allows (watch_allows _ _)
  · obtain rfl : j = l.length := by omega
    rw [List.take_length] at hall
    repeat' (first | refine stp ?_|(refine v_spT ?_ ?_;omega)|(refine v_spF ?_ ?_;omega)|refine v_spD (fun hc=>?_) (fun hc=>?_)|(refine v_yc ?_ ?_;omega)|refine v_alloc' (fun ba=>?_)|refine v_lit (fun bl=>?_)|(refine v_push ?_ (fun sv ss hs hln=>?_);omega)|fail)
    refine v_lp [38] [3, 36, 37] (fun i : Nat => [.int .i64 i]) (fun i => []) (fun i => i ≤ l.length) (fun i => l.length - i) 0 (fun _ => rfl) rfl inferInstance (Nat.zero_le _) ?_
    rintro i hi
    (try dsimp only [zipE_c, zipE_n, List.cons_append, List.nil_append])
    rcases Nat.lt_or_ge i l.length with hlt | hge
    · have hln : (bsO l[i]).length ≤ 1048576 := by
        have := hsz l[i] (List.getElem_mem hlt)
        rw [Array.length_toList]; exact this
      have hbs : Value.string l[i].Bytes = str (bsO l[i]) := by simp
      have hal := hall l[i] (List.getElem_mem hlt)
      generalize hwi : bsO l[i] = wi at *
      repeat' (first | refine stp ?_|(refine v_spT ?_ ?_;omega)|(refine v_spF ?_ ?_;omega)|refine v_spD (fun hc=>?_) (fun hc=>?_)|(refine v_yc ?_ ?_;omega)|refine v_alloc' (fun ba=>?_)|refine v_lit (fun bl=>?_)|(refine v_push ?_ (fun sv ss hs hln=>?_);omega)|fail)
      rw [hbs]
      refine v_callR (allowed_s hK wi (by omega)) ?_
      rintro v Γ' ⟨rfl, rfl⟩
      (try dsimp only [List.cons_append, List.nil_append])
      rw [decide_eq_true ((hkin.allows _).2 hal)]
      repeat' (first | refine stp ?_|(refine v_spT ?_ ?_;omega)|(refine v_spF ?_ ?_;omega)|refine v_spD (fun hc=>?_) (fun hc=>?_)|(refine v_yc ?_ ?_;omega)|refine v_alloc' (fun ba=>?_)|refine v_lit (fun bl=>?_)|(refine v_push ?_ (fun sv ss hs hln=>?_);omega)|fail)
      refine v_callR (rdec_s wi (by omega)) ?_
      rintro V Γ' (⟨x, cs, hx, ⟨v1, s4, v2, s5, v3, s6, ⟨p1, p2, p3, hp, rfl⟩, o1, o2, o3, rfl⟩, rfl⟩ | ⟨hx, rfl, rfl⟩)
      · have hgd := (dec_ok hx).1
        have hil := (bxs_len hx).2
        have hat := ownAt (h := o3)
        (try dsimp only [List.cons_append, List.nil_append])
        repeat' (first | refine stp ?_|(refine v_spT ?_ ?_;omega)|(refine v_spF ?_ ?_;omega)|refine v_spD (fun hc=>?_) (fun hc=>?_)|(refine v_yc ?_ ?_;omega)|refine v_alloc' (fun ba=>?_)|refine v_lit (fun bl=>?_)|(refine v_push ?_ (fun sv ss hs hln=>?_);omega)|fail)
        refine v_lp [10, 11] [3, 8, 36, 37, 38] (fun g : SbG => [g.v, .int .i64 ((g.n : Int) - 1)]) (fun g => [g.s]) (fun g => g.n ≤ x.msg.Rekey.Items.length ∧ OwnS g.v 62 ApiItem 6 cvApiItem (x.msg.Rekey.Items.drop g.n).reverse g.s) (fun g => g.n) ⟨x.msg.Rekey.Items.length, nilS, []⟩ (fun _ => rfl) rfl inferInstance ⟨Nat.le_refl _, by rw [List.drop_length]; exact OwnS.nil⟩ ?_
        rintro ⟨n, bv, sb⟩ ⟨hn, hbv⟩
        dsimp only at hn hbv ⊢
        (try dsimp only [zipE_c, zipE_n, List.cons_append, List.nil_append])
        rcases n with _ | n
        · repeat' (first | refine stp ?_|(refine v_spT ?_ ?_;omega)|(refine v_spF ?_ ?_;omega)|refine v_spD (fun hc=>?_) (fun hc=>?_)|(refine v_yc ?_ ?_;omega)|refine v_alloc' (fun ba=>?_)|refine v_lit (fun bl=>?_)|(refine v_push ?_ (fun sv ss hs hln=>?_);omega)|fail)
          · rw [show 7 + 3 + Int.toNat 2 * 4 = 18 from rfl]
            repeat' (first | refine stp ?_|(refine v_spT ?_ ?_;omega)|(refine v_spF ?_ ?_;omega)|refine v_spD (fun hc=>?_) (fun hc=>?_)|(refine v_yc ?_ ?_;omega)|refine v_alloc' (fun ba=>?_)|refine v_lit (fun bl=>?_)|(refine v_push ?_ (fun sv ss hs hln=>?_);omega)|fail)
            rw [show 7 + 3 + Int.toNat 0 * 4 = 10 from rfl]
            repeat' (first | refine stp ?_|(refine v_spT ?_ ?_;omega)|(refine v_spF ?_ ?_;omega)|refine v_spD (fun hc=>?_) (fun hc=>?_)|(refine v_yc ?_ ?_;omega)|refine v_alloc' (fun ba=>?_)|refine v_lit (fun bl=>?_)|(refine v_push ?_ (fun sv ss hs hln=>?_);omega)|fail)
            rw [show 7 + 3 + Int.toNat 0 * 4 = 10 from rfl]
            repeat' (first | refine stp ?_|(refine v_spT ?_ ?_;omega)|(refine v_spF ?_ ?_;omega)|refine v_spD (fun hc=>?_) (fun hc=>?_)|(refine v_yc ?_ ?_;omega)|refine v_alloc' (fun ba=>?_)|refine v_lit (fun bl=>?_)|(refine v_push ?_ (fun sv ss hs hln=>?_);omega)|fail)
            rw [show 7 + 3 + Int.toNat 2 * 4 = 18 from rfl]
            repeat' (first | refine stp ?_|(refine v_spT ?_ ?_;omega)|(refine v_spF ?_ ?_;omega)|refine v_spD (fun hc=>?_) (fun hc=>?_)|(refine v_yc ?_ ?_;omega)|refine v_alloc' (fun ba=>?_)|refine v_lit (fun bl=>?_)|(refine v_push ?_ (fun sv ss hs hln=>?_);omega)|fail)
            have hm' : (⟨x.msg.Kind, ⟨x.msg.Rekey.Epoch, x.msg.Rekey.Leaves, x.msg.Rekey.Joins, (x.msg.Rekey.Items.drop 0).reverse⟩, x.msg.Who, x.msg.Epoch, ⟨x.msg.Reply.Who, x.msg.Reply.Slot, 200, [p3, p2, p1]⟩, x.msg.Sealed⟩ : MsgM) = (turn x).msg := turn_3 hc hp
            refine v_callR (renc_s (turn x).msg v1 v2 bv s4 s5 sb _ (by rw [← hm']; exact ⟨p3, p2, p1, rfl, rfl⟩) (by rw [← hm']; exact ownAt (h := o1)) (by rw [← hm']; exact ownAt (h := o2)) (by rw [← hm']; exact ownAt (h := hbv))) ?_
            rintro r Γ' ⟨rfl, ⟨y, u, hy, hgu, hpk, rfl⟩ | ⟨hng, rfl⟩⟩
            · obtain rfl := msg_inj hy
              have hul := hpk.len
              have hwb := wBody_le (turn_good hgd) (turn_path (by rw [hp]; rfl))
              have hau : G.allows u := turn_allows hal hx (by rw [hp]; rfl) hpk
              (try dsimp only [List.cons_append, List.nil_append])
              repeat' (first | refine stp ?_|(refine v_spT ?_ ?_;omega)|(refine v_spF ?_ ?_;omega)|refine v_spD (fun hc=>?_) (fun hc=>?_)|(refine v_yc ?_ ?_;omega)|refine v_alloc' (fun ba=>?_)|refine v_lit (fun bl=>?_)|(refine v_push ?_ (fun sv ss hs hln=>?_);omega)|fail)
              refine v_callR (allowed_s hK u (by omega)) ?_
              rintro v Γ' ⟨rfl, rfl⟩
              (try dsimp only [List.cons_append, List.nil_append])
              rw [decide_eq_true ((hkin.allows _).2 hau)]
              repeat' (first | refine stp ?_|(refine v_spT ?_ ?_;omega)|(refine v_spF ?_ ?_;omega)|refine v_spD (fun hc=>?_) (fun hc=>?_)|(refine v_yc ?_ ?_;omega)|refine v_alloc' (fun ba=>?_)|refine v_lit (fun bl=>?_)|(refine v_push ?_ (fun sv ss hs hln=>?_);omega)|fail)
              exact v_again (i + 1) (by omega) rfl inferInstance (by omega)
            · exact absurd (turn_good hgd) hng
          · skip
            have hm' : (⟨x.msg.Kind, ⟨x.msg.Rekey.Epoch, x.msg.Rekey.Leaves, x.msg.Rekey.Joins, (x.msg.Rekey.Items.drop 0).reverse⟩, x.msg.Who, x.msg.Epoch, x.msg.Reply, x.msg.Sealed⟩ : MsgM) = (turn x).msg := turn_n hc
            refine v_callR (renc_s (turn x).msg v1 v2 bv s4 s5 sb _ (by rw [← hm']; exact ⟨p1, p2, p3, hp, rfl⟩) (by rw [← hm']; exact ownAt (h := o1)) (by rw [← hm']; exact ownAt (h := o2)) (by rw [← hm']; exact ownAt (h := hbv))) ?_
            rintro r Γ' ⟨rfl, ⟨y, u, hy, hgu, hpk, rfl⟩ | ⟨hng, rfl⟩⟩
            · obtain rfl := msg_inj hy
              have hul := hpk.len
              have hwb := wBody_le (turn_good hgd) (turn_path (by rw [hp]; rfl))
              have hau : G.allows u := turn_allows hal hx (by rw [hp]; rfl) hpk
              (try dsimp only [List.cons_append, List.nil_append])
              repeat' (first | refine stp ?_|(refine v_spT ?_ ?_;omega)|(refine v_spF ?_ ?_;omega)|refine v_spD (fun hc=>?_) (fun hc=>?_)|(refine v_yc ?_ ?_;omega)|refine v_alloc' (fun ba=>?_)|refine v_lit (fun bl=>?_)|(refine v_push ?_ (fun sv ss hs hln=>?_);omega)|fail)
              refine v_callR (allowed_s hK u (by omega)) ?_
              rintro v Γ' ⟨rfl, rfl⟩
              (try dsimp only [List.cons_append, List.nil_append])
              rw [decide_eq_true ((hkin.allows _).2 hau)]
              repeat' (first | refine stp ?_|(refine v_spT ?_ ?_;omega)|(refine v_spF ?_ ?_;omega)|refine v_spD (fun hc=>?_) (fun hc=>?_)|(refine v_yc ?_ ?_;omega)|refine v_alloc' (fun ba=>?_)|refine v_lit (fun bl=>?_)|(refine v_push ?_ (fun sv ss hs hln=>?_);omega)|fail)
              exact v_again (i + 1) (by omega) rfl inferInstance (by omega)
            · exact absurd (turn_good hgd) hng
        · have hnn : ((n + 1 : Nat) : Int) - 1 = n := by omega
          rw [hnn]
          have hlen : (x.msg.Rekey.Items.drop (n + 1)).reverse.length = x.msg.Rekey.Items.length - (n + 1) := by rw [List.length_reverse, List.length_drop]
          repeat' (first | refine stp ?_|(refine v_spT ?_ ?_;omega)|(refine v_spF ?_ ?_;omega)|refine v_spD (fun hc=>?_) (fun hc=>?_)|(refine v_yc ?_ ?_;omega)|refine v_alloc' (fun ba=>?_)|refine v_lit (fun bl=>?_)|(refine v_push ?_ (fun sv ss hs hln=>?_);omega)|fail)
          refine v_again ⟨n, sv, ss⟩ (by dsimp only; omega) rfl inferInstance ⟨by dsimp only; omega, ?_⟩
          dsimp only
          rw [List.drop_eq_getElem_cons (show n < x.msg.Rekey.Items.length by omega), List.reverse_cons]
          exact hs
      · (try dsimp only [List.cons_append, List.nil_append])
        repeat' (first | refine stp ?_|(refine v_spT ?_ ?_;omega)|(refine v_spF ?_ ?_;omega)|refine v_spD (fun hc=>?_) (fun hc=>?_)|(refine v_yc ?_ ?_;omega)|refine v_alloc' (fun ba=>?_)|refine v_lit (fun bl=>?_)|(refine v_push ?_ (fun sv ss hs hln=>?_);omega)|fail)
        exact v_again (i + 1) (by omega) rfl inferInstance (by omega)
    · repeat' (first | refine stp ?_|(refine v_spT ?_ ?_;omega)|(refine v_spF ?_ ?_;omega)|refine v_spD (fun hc=>?_) (fun hc=>?_)|(refine v_yc ?_ ?_;omega)|refine v_alloc' (fun ba=>?_)|refine v_lit (fun bl=>?_)|(refine v_push ?_ (fun sv ss hs hln=>?_);omega)|fail)
      refine v_o1 Tryz.results4 ⟨rfl, rfl⟩ ⟨_, inferInstance⟩
end Go.Proofs.YtdfoijfjlhjeaaaGreat

/- SpyCooks: the walk. -/
namespace Go.Proofs.YtdfoijfjlhjeaaaGreat
open Go Go.SX Go.RowKit
set_option maxRecDepth 100000
set_option maxHeartbeats 0
set_option synthInstance.maxSize 100000
set_option synthInstance.maxHeartbeats 400000
theorem same20_s {v1 v2 : Value} {l1 l2 : List ApiPacket} {s1 s2 : Hp} (h1 : AtS v1 26 ApiPacket 3 cvApiPacket l1 s1) (h2 : AtS v2 26 ApiPacket 3 cvApiPacket l2 s2) : SX.Spec Tryz.prog 10 #[v1, v2] [s1, s2] [] fun v Γ => v = .bool (decide (l1 = l2)) ∧ Γ = [] := by
  have e1 := AtS.le h1
  have e2 := AtS.le h2
  refine spec_of2 Tryz.func10 Tryz.ntmps10 rfl rfl (fun M w0 => ?_)
  repeat' (first | refine stp ?_|(refine v_spT ?_ ?_;omega)|(refine v_spF ?_ ?_;omega)|refine v_spD (fun hc=>?_) (fun hc=>?_)|(refine v_yc ?_ ?_;omega)|refine ⟨?_,?_,?_⟩|refine ⟨?_,?_⟩|(refine v_tyc ?_ ?_;omega)|refine v_drawn0 (id:=6) pl10_6 (by kernel_rfl) ?_|fail)
  · refine v_o1 Tryz.results10 ⟨bF (fun h => hc (by rw [h])), rfl⟩ ⟨_, inferInstance⟩
  have hl : l1.length = l2.length := by omega
  refine v_lp [13] [0, 1, 12] (fun i : Nat => [.int .i64 i]) (fun _ => []) (fun i => i ≤ l1.length ∧ l1.take i = l2.take i) (fun i => l1.length - i) 0 (fun _ => rfl) rfl inferInstance ⟨Nat.zero_le _, by simp⟩ ?_
  rintro i ⟨hi, hn⟩
  (try dsimp only [zipE_c, zipE_n, List.cons_append, List.nil_append])
  rcases Nat.lt_or_ge i l1.length with hlt | hge
  · have hlt2 : i < l2.length := by omega
    repeat' (first | refine stp ?_|(refine v_spT ?_ ?_;omega)|(refine v_spF ?_ ?_;omega)|refine v_spD (fun hc=>?_) (fun hc=>?_)|(refine v_yc ?_ ?_;omega)|refine ⟨?_,?_,?_⟩|refine ⟨?_,?_⟩|(refine v_tyc ?_ ?_;omega)|refine v_drawn0 (id:=6) pl10_6 (by kernel_rfl) ?_|fail)
    · refine v_o1 Tryz.results10 ⟨bF (fun h => hc (by subst h; exact ⟨rfl, rfl, rfl⟩)), rfl⟩ ⟨_, inferInstance⟩
    · refine v_again (i + 1) (by omega) rfl inferInstance ⟨hlt, ?_⟩
      rw [List.take_add_one, List.take_add_one, hn, List.getElem?_eq_getElem hlt, List.getElem?_eq_getElem hlt2]
      have : l1[i] = l2[i] := by
        obtain ⟨e1, e2, e3⟩ := Decidable.not_not.1 hc
        generalize l1[i] = x at *
        generalize l2[i] = y at *
        cases x; cases y
        simp_all
      rw [this]
  · repeat' (first | refine stp ?_|(refine v_spT ?_ ?_;omega)|(refine v_spF ?_ ?_;omega)|refine v_spD (fun hc=>?_) (fun hc=>?_)|(refine v_yc ?_ ?_;omega)|refine ⟨?_,?_,?_⟩|refine ⟨?_,?_⟩|(refine v_tyc ?_ ?_;omega)|refine v_drawn0 (id:=6) pl10_6 (by kernel_rfl) ?_|fail)
    refine v_o1 Tryz.results10 ⟨bT ?_, rfl⟩ ⟨_, inferInstance⟩
    rw [List.take_of_length_le hge, List.take_of_length_le (by omega)] at hn
    exact hn
theorem path_ep {m : MsgM} {n : Int} (hb : m.Reply.Path.length = 3) : (setEp m n).Reply.Path.length = 3 := by
  unfold setEp
  by_cases e1 : m.Kind = 1
  · rw [if_pos e1]; exact hb
  rw [if_neg e1]
  by_cases e2 : m.Kind = 2
  · rw [if_pos e2]; exact hb
  rw [if_neg e2]
  by_cases e3 : m.Kind = 3
  · rw [if_pos e3]; exact hb
  rw [if_neg e3]
  by_cases e4 : m.Kind = 4
  · rw [if_pos e4]; exact hb
  rw [if_neg e4]; exact hb
theorem path_chg {m m' : MsgM} {c : CookM} (h : chg m c = .ok m') (hb : m.Reply.Path.length = 3) : m'.Reply.Path.length = 3 := by
  unfold chg at h
  rcases ite_ok h with ⟨_, h⟩ | ⟨_, h⟩
  · cases h
  rcases ite_ok h with ⟨_, h⟩ | ⟨_, h⟩
  · cases h; exact path_ep hb
  rcases ite_ok h with ⟨_, h⟩ | ⟨_, h⟩
  · cases h; exact hb
  rcases ite_ok h with ⟨_, h⟩ | ⟨_, h⟩
  · cases h; exact hb
  rcases ite_ok h with ⟨_, h⟩ | ⟨_, h⟩
  · rcases ite_ok h with ⟨_, h⟩ | ⟨_, h⟩
    · cases h; exact hb
    · cases h
  rcases ite_ok h with ⟨_, h⟩ | ⟨_, h⟩
  · unfold gSwap at h
    by_cases hc : (0 ≤ c.N ∧ c.N < m.Rekey.Items.length) ∧ (0 ≤ c.M ∧ c.M < m.Rekey.Items.length)
    · rw [dif_pos hc] at h; cases h; exact hb
    · rw [dif_neg hc] at h; cases h
  rcases ite_ok h with ⟨_, h⟩ | ⟨_, h⟩
  · cases h; exact hb
  rcases ite_ok h with ⟨_, h⟩ | ⟨_, h⟩
  · unfold gItemBox at h
    by_cases hc : 0 ≤ c.N ∧ c.N < m.Rekey.Items.length
    · rw [dif_pos hc] at h; cases h; exact hb
    · rw [dif_neg hc] at h; cases h
  rcases ite_ok h with ⟨_, h⟩ | ⟨_, h⟩
  · rcases ite_ok h with ⟨_, h⟩ | ⟨_, h⟩
    · cases h; dsimp only; rw [List.length_set]; exact hb
    · cases h
  rcases ite_ok h with ⟨_, h⟩ | ⟨_, h⟩
  · cases h; exact hb
  rcases ite_ok h with ⟨_, h⟩ | ⟨_, h⟩
  · cases h; exact hb
  rcases ite_ok h with ⟨_, h⟩ | ⟨_, h⟩
  · cases h; exact hb
  · cases h
theorem path_dec {u : List UInt8} {x : Body} (h : decP u = some x) : x.msg.Reply.Path.length = 3 := by
  have ho := (dec_ok h).2
  cases x with
  | reply r => exact ho.2.1
  | _ => rfl
theorem path_step {l : List ApiPacket} {m m' : MsgM} {c : CookM} (h : stepC l m c = .ok m') (hb : m.Reply.Path.length = 3) : m'.Reply.Path.length = 3 := by
  unfold stepC at h
  rcases ite_ok h with ⟨_, h⟩ | ⟨_, h⟩
  · unfold tk at h
    split at h
    · cases h
    · split at h
      · cases h
      · rename_i hx
        cases h
        exact path_dec hx
  rcases ite_ok h with ⟨_, h⟩ | ⟨_, h⟩
  · rcases ite_ok h with ⟨_, h⟩ | ⟨_, h⟩
    · cases h
      unfold blankM
      by_cases e1 : c.N = 1
      · rw [if_pos e1]; rfl
      rw [if_neg e1]
      by_cases e2 : c.N = 2
      · rw [if_pos e2]; rfl
      rw [if_neg e2]
      by_cases e3 : c.N = 3
      · rw [if_pos e3]; rfl
      rw [if_neg e3]; rfl
    · cases h
  · exact path_chg h hb
theorem path_cook {l : List ApiPacket} : ∀ (cs : List CookM) (m m' : MsgM), cookF l m cs = .ok m' → m.Reply.Path.length = 3 → m'.Reply.Path.length = 3
  | [], m, m', h, hb => by cases h; exact hb
  | c :: cs, m, m', h, hb => by
    have h' : (match stepC l m c with | .ok m' => cookF l m' cs | .err e => .err e) = .ok m' := h
    cases hs : stepC l m c with
    | ok m1 => rw [hs] at h'; exact path_cook cs m1 m' h' (path_step hs hb)
    | err e => rw [hs] at h'; cases h'
theorem cookR_shape {l : List ApiPacket} {cs : List CookM} {V : Value} (h : CookR l cs V) : ∃ a e, V = .tuple #[str a, .int .i64 e] ∧ (e = 0 → (∃ x, decP a = some x) ∧ a.length ≤ 100000) := by
  rcases h with ⟨e, h1, h2, rfl⟩ | ⟨m, h1, ⟨_, rfl⟩ | ⟨_, _, rfl⟩ | ⟨_, x, u, rfl, hg, hp, rfl⟩⟩
  · exact ⟨[], e, rfl, fun h => absurd h h2⟩
  · exact ⟨[], 33, rfl, fun h => absurd h (by decide)⟩
  · exact ⟨[], 13, rfl, fun h => absurd h (by decide)⟩
  · have hpl := path_cook _ _ _ h1 rfl
    have hw := wBody_le hg hpl
    have hl := hp.len
    exact ⟨u, 0, rfl, fun _ => ⟨⟨x, (dec_iff hpl).2 ⟨hg, hp⟩⟩, by omega⟩⟩
theorem cooks_s {uv : Value} {l : List ApiPacket} {s : Hp} (hu : AtS uv 26 ApiPacket 3 cvApiPacket l s) (hb : l.length ≤ 1048576) (hsz : ∀ o ∈ l, o.Bytes.size ≤ 1048576) {wv : Value} {r : List ApiCook} {t : Hp} (hv : AtS wv 32 ApiCook 8 cvApiCook r t) (hwb : r.length ≤ 1048576) (_hwz : ∀ o ∈ r, o.Text.size ≤ 1048576) : SX.Spec Tryz.prog 3 #[uv, wv] [s, t] [] fun v Γ => v = .bool true ∧ Γ = [] := by
  have hle := AtS.le hu
  have hlw := AtS.le hv
  refine spec_of2 Tryz.func3 Tryz.ntmps3 rfl rfl (fun M w0 => ?_)
  repeat' (first | refine stp ?_|(refine v_spT ?_ ?_;omega)|(refine v_spF ?_ ?_;omega)|refine v_spD (fun hc=>?_) (fun hc=>?_)|(refine v_yc ?_ ?_;omega)|refine v_alloc' (fun ba=>?_)|refine v_lit (fun bl=>?_)|(refine v_push ?_ (fun sv ss hs hln=>?_);omega)|(refine v_cat0 ?_ (fun sv ss hs=>?_);omega)|(refine v_sb ?_ (fun su (And.intro hs hln)=>?_);omega)|refine ⟨?_,?_,?_⟩|refine ⟨?_,?_⟩|(refine v_tyc ?_ ?_;omega)|(refine v_tsb ?_ (fun su (And.intro hs hln)=>?_);omega)|refine v_drawn0 (id:=5) pl3_5 (by kernel_rfl) ?_|refine v_drawn0 (id:=12) pl3_12 (by kernel_rfl) ?_|fail)
  rename OwnS _ _ ApiPacket _ _ (List.take _ _) _ => ha
  rename OwnS _ _ ApiCook _ _ (List.take _ _) _ => hb2
  rw [show ((l.length : Int)).toNat = l.length by omega, List.take_left' rfl] at ha
  rw [show ((r.length : Int)).toNat = r.length by omega, List.take_left' rfl] at hb2
  have hsz' : ∀ x ∈ l, x.Bytes.size ≤ 34359738368 := fun x hx => Nat.le_trans (hsz x hx) (by decide)
  refine v_callR (cook_s _ l _ (ownAt (h := ha)) hsz' _ r _ (ownAt (h := hb2)) (by omega) (fun _ => pdrop_s)) ?_
  rintro V Γ' ⟨hV, rfl⟩
  obtain ⟨a, e, rfl, hdec⟩ := cookR_shape hV
  (try dsimp only [List.cons_append, List.nil_append])
  repeat' (first | refine stp ?_|(refine v_spT ?_ ?_;omega)|(refine v_spF ?_ ?_;omega)|refine v_spD (fun hc=>?_) (fun hc=>?_)|(refine v_yc ?_ ?_;omega)|refine v_alloc' (fun ba=>?_)|refine v_lit (fun bl=>?_)|(refine v_push ?_ (fun sv ss hs hln=>?_);omega)|(refine v_cat0 ?_ (fun sv ss hs=>?_);omega)|(refine v_sb ?_ (fun su (And.intro hs hln)=>?_);omega)|refine ⟨?_,?_,?_⟩|refine ⟨?_,?_⟩|(refine v_tyc ?_ ?_;omega)|(refine v_tsb ?_ (fun su (And.intro hs hln)=>?_);omega)|refine v_drawn0 (id:=5) pl3_5 (by kernel_rfl) ?_|refine v_drawn0 (id:=12) pl3_12 (by kernel_rfl) ?_|fail)
  refine v_callR (rcook_s uv l s hu hsz' wv r t hv (by omega)) ?_
  rintro V Γ' ⟨hV2, rfl⟩
  obtain rfl := cookR_uniq hV hV2
  (try dsimp only [List.cons_append, List.nil_append])
  repeat' (first | refine stp ?_|(refine v_spT ?_ ?_;omega)|(refine v_spF ?_ ?_;omega)|refine v_spD (fun hc=>?_) (fun hc=>?_)|(refine v_yc ?_ ?_;omega)|refine v_alloc' (fun ba=>?_)|refine v_lit (fun bl=>?_)|(refine v_push ?_ (fun sv ss hs hln=>?_);omega)|(refine v_cat0 ?_ (fun sv ss hs=>?_);omega)|(refine v_sb ?_ (fun su (And.intro hs hln)=>?_);omega)|refine ⟨?_,?_,?_⟩|refine ⟨?_,?_⟩|(refine v_tyc ?_ ?_;omega)|(refine v_tsb ?_ (fun su (And.intro hs hln)=>?_);omega)|refine v_drawn0 (id:=5) pl3_5 (by kernel_rfl) ?_|refine v_drawn0 (id:=12) pl3_12 (by kernel_rfl) ?_|fail)
  · exact absurd rfl hc
  rename OwnS _ _ ApiPacket _ _ (List.take _ _) _ => ha2
  rw [show ((l.length : Int)).toNat = l.length by omega, List.take_left' rfl] at ha2
  refine v_callR (same20_s (ownAt (h := ha2)) hu) ?_
  rintro V Γ' ⟨rfl, rfl⟩
  (try dsimp only [List.cons_append, List.nil_append])
  rw [show decide (l = l) = true by simp]
  repeat' (first | refine stp ?_|(refine v_spT ?_ ?_;omega)|(refine v_spF ?_ ?_;omega)|refine v_spD (fun hc=>?_) (fun hc=>?_)|(refine v_yc ?_ ?_;omega)|refine v_alloc' (fun ba=>?_)|refine v_lit (fun bl=>?_)|(refine v_push ?_ (fun sv ss hs hln=>?_);omega)|(refine v_cat0 ?_ (fun sv ss hs=>?_);omega)|(refine v_sb ?_ (fun su (And.intro hs hln)=>?_);omega)|refine ⟨?_,?_,?_⟩|refine ⟨?_,?_⟩|(refine v_tyc ?_ ?_;omega)|(refine v_tsb ?_ (fun su (And.intro hs hln)=>?_);omega)|refine v_drawn0 (id:=5) pl3_5 (by kernel_rfl) ?_|refine v_drawn0 (id:=12) pl3_12 (by kernel_rfl) ?_|fail)
  · exact absurd (by simp) hc
  · exact absurd (by simp) hc
  refine v_lp [82] [6, 7, 8, 80, 81] (fun i : Nat => [.int .i64 i]) (fun i => []) (fun i => i ≤ r.length) (fun i => r.length - i) 0 (fun _ => rfl) rfl inferInstance (Nat.zero_le _) ?_
  rintro i hi
  (try dsimp only [zipE_c, zipE_n, List.cons_append, List.nil_append])
  rcases Nat.lt_or_ge i r.length with hlt | hge
  · repeat' (first | refine stp ?_|(refine v_spT ?_ ?_;omega)|(refine v_spF ?_ ?_;omega)|refine v_spD (fun hc=>?_) (fun hc=>?_)|(refine v_yc ?_ ?_;omega)|refine v_alloc' (fun ba=>?_)|refine v_lit (fun bl=>?_)|(refine v_push ?_ (fun sv ss hs hln=>?_);omega)|(refine v_cat0 ?_ (fun sv ss hs=>?_);omega)|(refine v_sb ?_ (fun su (And.intro hs hln)=>?_);omega)|refine ⟨?_,?_,?_⟩|refine ⟨?_,?_⟩|(refine v_tyc ?_ ?_;omega)|(refine v_tsb ?_ (fun su (And.intro hs hln)=>?_);omega)|refine v_drawn0 (id:=5) pl3_5 (by kernel_rfl) ?_|refine v_drawn0 (id:=12) pl3_12 (by kernel_rfl) ?_|fail)
    · exact absurd (by rw [List.getElem_append_left hlt]; simp) hc
    · exact v_again (i + 1) (by omega) rfl inferInstance hlt
  · repeat' (first | refine stp ?_|(refine v_spT ?_ ?_;omega)|(refine v_spF ?_ ?_;omega)|refine v_spD (fun hc=>?_) (fun hc=>?_)|(refine v_yc ?_ ?_;omega)|refine v_alloc' (fun ba=>?_)|refine v_lit (fun bl=>?_)|(refine v_push ?_ (fun sv ss hs hln=>?_);omega)|(refine v_cat0 ?_ (fun sv ss hs=>?_);omega)|(refine v_sb ?_ (fun su (And.intro hs hln)=>?_);omega)|refine ⟨?_,?_,?_⟩|refine ⟨?_,?_⟩|(refine v_tyc ?_ ?_;omega)|(refine v_tsb ?_ (fun su (And.intro hs hln)=>?_);omega)|refine v_drawn0 (id:=5) pl3_5 (by kernel_rfl) ?_|refine v_drawn0 (id:=12) pl3_12 (by kernel_rfl) ?_|fail)
    · refine v_o1 Tryz.results3 ⟨rfl, rfl⟩ ⟨_, inferInstance⟩
    · obtain ⟨⟨x, hx⟩, hal⟩ := hdec (Decidable.not_not.1 hc)
      refine v_callR (rdec_s a (by omega)) ?_
      rintro V Γ' (⟨y, cs, hy, ⟨v1, s4, v2, s5, v3, s6, ⟨p1, p2, p3, hp, rfl⟩, o1, o2, o3, rfl⟩, rfl⟩ | ⟨hy, rfl, rfl⟩)
      · (try dsimp only [List.cons_append, List.nil_append])
        repeat' (first | refine stp ?_|(refine v_spT ?_ ?_;omega)|(refine v_spF ?_ ?_;omega)|refine v_spD (fun hc=>?_) (fun hc=>?_)|(refine v_yc ?_ ?_;omega)|refine v_alloc' (fun ba=>?_)|refine v_lit (fun bl=>?_)|(refine v_push ?_ (fun sv ss hs hln=>?_);omega)|(refine v_cat0 ?_ (fun sv ss hs=>?_);omega)|(refine v_sb ?_ (fun su (And.intro hs hln)=>?_);omega)|refine ⟨?_,?_,?_⟩|refine ⟨?_,?_⟩|(refine v_tyc ?_ ?_;omega)|(refine v_tsb ?_ (fun su (And.intro hs hln)=>?_);omega)|refine v_drawn0 (id:=5) pl3_5 (by kernel_rfl) ?_|refine v_drawn0 (id:=12) pl3_12 (by kernel_rfl) ?_|fail)
        refine v_o1 Tryz.results3 ⟨rfl, rfl⟩ ⟨_, inferInstance⟩
      · rw [hx] at hy; cases hy
end Go.Proofs.YtdfoijfjlhjeaaaGreat

/- From a row's data to typed things, with their weight. -/
namespace Go.SX
set_option linter.unusedSimpArgs false
set_option linter.unusedVariables false
open Go Go.Deep
open Go.Proofs.YtdfoijfjlhjeaaaGreat.Rows (uptoBulk uptoBulkAll)
theorem blk_mem {H : Type} {d : DataW H} : ∀ {l : List (DataW H)}, d ∈ l → uptoBulk d ≤ uptoBulkAll l
  | x :: l, h => by
    rcases List.mem_cons.1 h with rfl | h
    · simp only [uptoBulkAll]; omega
    · have := blk_mem h; simp only [uptoBulkAll]; omega
/-- whatever reads as data of type t is a thing, and weighs no more than the data -/
class OpnW (P : Program) (t : TypeId) (α : outParam Type) (cv : outParam (α → List Value)) (ok : outParam (α → Prop)) (wt : outParam (α → Nat)) : Prop where
  out : ∀ {H : Type} {enc : TypeId × Value → H} {w : World} {base : Nat} {spare : Nat → Bool} {held : Bool} {fuel : Nat} {cs : List Value} {x : DataW H × List MemPlace}, DataW.trod enc P w base spare held fuel t cs = some x → ∃ y, cs = cv y ∧ ok y ∧ wt y ≤ uptoBulk x.1
theorem opnStrW {P : Program} {t : TypeId} (ht : P.underlying t = some .string) : OpnW P t ByteArray (fun x => [.string x]) (fun x => x.size ≤ maxLen) (fun x => x.size) := ⟨fun h => by
  obtain ⟨n, rfl, hx, hs⟩ := DataW.trod_string ht h
  refine ⟨n, rfl, hs, ?_⟩
  rw [hx]
  simp only [uptoBulk]
  show n.size ≤ n.data.toList.length + 1
  rw [Array.length_toList]
  exact Nat.le_succ _⟩
theorem open_AtW {P : Program} {t e : TypeId} {α : Type} {sz : Nat} {cv : α → List Value} {av : α → Value} {ok : α → Prop} {wt : α → Nat} [hO : OpnW P e α cv ok wt] [hE : ElT P e α sz cv av] {H : Type} {enc : TypeId × Value → H} {w : World} {base : Nat} {spare : Nat → Bool} {held : Bool} {v : Value} {d : DataW H} {ps : List MemPlace}
    (hu : P.underlying t = some (.slice e)) (hc : P.cellsOf e = sz) (h0 : 0 < sz) (h : DataW.Trod enc P w base spare held t v d ps) (h1 : v.cells.toList = [v]) :
    ∃ (l : List α) (s : Hp), AtS v e α sz cv l s ∧ (∀ x ∈ l, ok x) ∧ (∀ x ∈ l, wt x ≤ uptoBulk d) ∧ (∀ x ∈ s, w.heap[x.1]? = some x.2) ∧ (l.length = 0 ∨ ∃ elems rest, d = .slice elems rest ∧ elems.length = l.length) := by
  obtain ⟨fuel, hf⟩ := h
  rw [h1] at hf
  rcases open_slice hu hf with ⟨hv, _⟩ | ⟨a, len, cap, m, n, D, Pl, hv, _, hl, hm, hmm, hx, hi⟩
  · simp at hv; subst hv
    exact ⟨[], [], ⟨⟨by simp [cvs], .inl ⟨.inl rfl, rfl⟩⟩⟩, by simp, by simp, by simp, .inl rfl⟩
  · simp at hv; subst hv
    have hlm : len ≤ m := by rw [hmm]; split <;> omega
    obtain ⟨l, hll, hlp⟩ := choose_list (p := fun i y => (ok y ∧ wt y ≤ uptoBulk (D i)) ∧ ∀ j, j < sz → w.cell? ((a.add (i * sz)).add j) = (cv y)[j]?) len (fun i hi' => by
      obtain ⟨cs', hc1, hc2⟩ := hi i (by omega)
      obtain ⟨y, rfl, hy1, hy2⟩ := hO.out hc2
      have hy := And.intro hy1 hy2
      rw [hc] at hc1
      obtain ⟨_, _, hcell⟩ := World.cells?_some hc1
      exact ⟨y, hy, hcell⟩)
    have hd : d = .slice ((List.range len).map D) ((List.range (m - len)).map fun j => D (len + j)) := congrArg Prod.fst hx
    by_cases hz : len = 0
    · subst hz
      obtain rfl := List.eq_nil_of_length_eq_zero hll
      exact ⟨[], [], ⟨⟨by simp [cvs], .inl ⟨.inr ⟨a, cap, rfl⟩, rfl⟩⟩⟩, by simp, by simp, by simp, .inl rfl⟩
    · have key : ∀ i, i < len → ∀ j, j < sz → w.cell? (a.add (i * sz + j)) = (cvs cv l)[i * sz + j]? := fun i hi' j hj => by
        have hi2 : i < l.length := by omega
        obtain ⟨_, hq⟩ := hlp i _ (List.getElem?_eq_getElem hi2)
        rw [cvs_idx hE.len l i j _ (List.getElem?_eq_getElem hi2) hj, ← hq j hj, add_add]
      have hlen := cvs_len hE.len l
      have key2 : ∀ k, k < len * sz → w.cell? (a.add k) = (cvs cv l)[k]? := fun k hk => by
        have e1 : k = k / sz * sz + k % sz := by rw [Nat.mul_comm]; exact (Nat.div_add_mod k sz).symm
        rw [e1]
        exact key _ (Nat.div_lt_of_lt_mul (by rwa [Nat.mul_comm])) _ (Nat.mod_lt _ h0)
      have hpos : 0 < len * sz := Nat.mul_pos (by omega) h0
      have k0 := key2 0 hpos
      have hlt : 0 < (cvs cv l).length := by rw [hlen, hll]; exact hpos
      rw [List.getElem?_eq_getElem hlt] at k0
      obtain ⟨b, off, spot⟩ := a
      have hadd : ∀ k, (Addr.add ⟨b, off, spot⟩ k).block = b := fun k => by unfold Addr.add; split <;> rfl
      have hb : ∃ c et fr, w.heap[b]? = some (.cells c et fr) ∧ spot = none := by
        unfold World.cell? at k0
        rw [hadd] at k0
        split at k0
        · rename_i c et fr hb
          split at k0
          · cases k0
          · rename_i hs
            refine ⟨c, et, fr, hb, ?_⟩
            have : (Addr.add ⟨b, off, spot⟩ 0).spot = spot := by unfold Addr.add; simp
            rw [this] at hs
            cases spot with
            | none => rfl
            | some _ => simp at hs
        · cases k0
      obtain ⟨c, et, fr, hb, rfl⟩ := hb
      have hcell : ∀ k, k < len * sz → c[off + k]? = (cvs cv l)[k]? := fun k hk => by
        have := key2 k hk
        rw [add_at, cell_of hb] at this
        rw [← Array.getElem?_toList]
        simpa using this
      refine ⟨l, [(b, .cells c et fr)], ⟨⟨hlen, .inr ⟨b, off, cap, c, et, fr, by rw [hll], rfl, by omega, hm, ?_, ?_⟩⟩⟩, fun x hx' => ?_, fun x hx' => ?_, by simpa using hb, .inr ⟨_, _, hd, by simp [hll]⟩⟩
      · have := hcell (len * sz - 1) (by omega)
        rw [List.getElem?_eq_getElem (by rw [hlen, hll]; omega)] at this
        have := (Array.getElem?_eq_some_iff.1 this).1
        rw [hll]; omega
      · refine List.ext_getElem? fun k => ?_
        by_cases hk : k < len * sz
        · rw [hll, List.getElem?_take, if_pos hk, List.getElem?_drop, Array.getElem?_toList]
          exact hcell k hk
        · rw [List.getElem?_eq_none (by rw [List.length_take, hll]; omega), List.getElem?_eq_none (by rw [hlen, hll]; omega)]
      · obtain ⟨i, hi', rfl⟩ := List.getElem_of_mem hx'
        exact (hlp i _ (List.getElem?_eq_getElem hi')).1.1
      · obtain ⟨i, hi', rfl⟩ := List.getElem_of_mem hx'
        refine Nat.le_trans (hlp i _ (List.getElem?_eq_getElem hi')).1.2 ?_
        rw [hd]
        have h1 := blk_mem (l := (List.range len).map D) (d := D i) (List.mem_map.2 ⟨i, List.mem_range.2 (by omega), rfl⟩)
        simp only [uptoBulk]; omega
end Go.SX

/- What arguments weigh. -/
namespace Go.SX
set_option linter.unusedSimpArgs false
set_option linter.unusedVariables false
open Go Go.Deep
open Go.Proofs.YtdfoijfjlhjeaaaGreat.Rows (uptoBulk uptoBulkAll)
theorem field_data2 {P : Program} {H : Type} {enc : TypeId × Value → H} {w : World} {base : Nat} {spare : Nat → Bool} {held : Bool} {n : Nat} {cs : List Value} {xs : List (DataW H × List MemPlace)} {fs : Array Field} (hf : ∀ (i : Nat) (f : Field), fs[i]? = some f → DataW.trod enc P w base spare held n f.type ((cs.drop f.offset).take (P.cellsOf f.type)) = xs[i]?)
    (i ft off sz : Nat) (h1 : (fs[i]?).map (fun f => (f.type, f.offset)) = some (ft, off)) (hc : P.cellsOf ft = sz) (hi : i < xs.length) : DataW.trod enc P w base spare held n ft ((cs.drop off).take sz) = some xs[i] := by
  cases hq : fs[i]? with
  | none => rw [hq] at h1; cases h1
  | some f =>
    rw [hq] at h1
    simp at h1
    have := hf i f hq
    rw [h1.1, h1.2, hc, List.getElem?_eq_getElem hi] at this
    exact this
theorem agg_le {H : Type} {xs : List (DataW H × List MemPlace)} {i : Nat} (hi : i < xs.length) {k : Nat} (h : k ≤ uptoBulk xs[i].1) : k ≤ uptoBulk (DataW.agg (xs.map (·.1))) := by
  have := blk_mem (l := xs.map (·.1)) (d := xs[i].1) (List.mem_map.2 ⟨_, List.getElem_mem hi, rfl⟩)
  simp only [uptoBulk]
  exact Nat.le_trans h (Nat.le_succ_of_le this)
theorem okWide_str {P : Program} {w : World} {r : Reach} {base : Nat} {t : TypeId} {v : Value} (hu : P.underlying t = some .string) (h : Value.okWide P w r base t v) : v.cells.toList = [v] := by
  unfold Value.okWide at h
  rw [hu] at h
  simp only [Cell.okWide, hu] at h
  unfold Cell.ok at h
  rw [hu] at h
  cases v <;> first | rfl | (exfalso; simp at h; done) | simp_all
theorem open_str {P : Program} {t : TypeId} (ht : P.underlying t = some .string) {H : Type} {enc : TypeId × Value → H} {w : World} {base : Nat} {spare : Nat → Bool} {held : Bool} {v : Value} {d : DataW H} {ps : List MemPlace} (h : DataW.Trod enc P w base spare held t v d ps) (h1 : v.cells.toList = [v]) :
    ∃ l : List UInt8, v = str l ∧ l.length ≤ uptoBulk d := by
  obtain ⟨fuel, hf⟩ := h
  rw [h1] at hf
  obtain ⟨y, e, _, hw⟩ := (opnStrW ht).out hf
  simp at e
  refine ⟨y.data.toList, by rw [e], ?_⟩
  rw [Array.length_toList]; exact hw
end Go.SX
namespace Go.Proofs.YtdfoijfjlhjeaaaGreat
open Go Go.SX Go.RowKit
set_option maxRecDepth 100000
open Rows (uptoBulk uptoBulkAll)
instance : OpnW Tryz.prog 57 Coterielaw21Op cvCoterielaw21Op okCoterielaw21Op (fun y => y.Bytes.size) := ⟨fun {_ _ _ _ _ _ _ cs _} h => by
  obtain ⟨xs, n, rfl, hxx, hl, hx, hf⟩ := DataW.trod_struct Tryz.underlying57 h
  rw [show Tryz.prog.cellsOf 57 = 3 by kernel_rfl] at hl
  replace hx : xs.length = 2 := hx
  obtain ⟨_, h0⟩ := field_data hf 0 28 0 2 rfl (by kernel_rfl) (by rw [hx]; decide)
  obtain ⟨y0, e0, k0⟩ := Opn.out (P := Tryz.prog) (t := 28) h0
  have h1 := field_data2 hf 1 9 2 1 rfl (by kernel_rfl) (by rw [hx]; decide)
  obtain ⟨y1, e1, k1, w1⟩ := (opnStrW Tryz.underlying9).out h1
  refine ⟨⟨y0, y1⟩, ?_, ⟨k0, k1⟩, by rw [hxx]; exact agg_le _ w1⟩
  match cs, hl with
  | [c0, c1, c2], _ =>
    replace e0 : [c0, c1] = _ := e0
    replace e1 : [c2] = _ := e1
    show [c0, c1] ++ [c2] = _
    rw [e0, e1]
    rfl⟩
instance : OpnW Tryz.prog 9 ByteArray (fun x => [.string x]) (fun x => x.size ≤ maxLen) (fun x => x.size) := opnStrW Tryz.underlying9
instance : OpnW Tryz.prog 26 ApiPacket cvApiPacket okApiPacket (fun y => y.Bytes.size) := ⟨fun {_ _ _ _ _ _ _ cs _} h => by
  obtain ⟨xs, n, rfl, hxx, hl, hx, hf⟩ := DataW.trod_struct Tryz.underlying26 h
  rw [show Tryz.prog.cellsOf 26 = 3 by kernel_rfl] at hl
  replace hx : xs.length = 3 := hx
  obtain ⟨_, h0⟩ := field_data hf 0 3 0 1 rfl (by kernel_rfl) (by rw [hx]; decide)
  obtain ⟨y0, e0, k0⟩ := Opn.out (P := Tryz.prog) (t := 3) h0
  obtain ⟨_, h1⟩ := field_data hf 1 3 1 1 rfl (by kernel_rfl) (by rw [hx]; decide)
  obtain ⟨y1, e1, k1⟩ := Opn.out (P := Tryz.prog) (t := 3) h1
  have h2 := field_data2 hf 2 9 2 1 rfl (by kernel_rfl) (by rw [hx]; decide)
  obtain ⟨y2, e2, k2, w2⟩ := (opnStrW Tryz.underlying9).out h2
  refine ⟨⟨y0, y1, y2⟩, ?_, ⟨k0, k1, k2⟩, by rw [hxx]; exact agg_le _ w2⟩
  match cs, hl with
  | [c0, c1, c2], _ =>
    replace e0 : [c0] = _ := e0
    replace e1 : [c1] = _ := e1
    replace e2 : [c2] = _ := e2
    show [c0] ++ [c1] ++ [c2] = _
    rw [e0, e1, e2]
    rfl⟩
instance : OpnW Tryz.prog 32 ApiCook cvApiCook okApiCook (fun y => y.Text.size) := ⟨fun {_ _ _ _ _ _ _ cs _} h => by
  obtain ⟨xs, n, rfl, hxx, hl, hx, hf⟩ := DataW.trod_struct Tryz.underlying32 h
  rw [show Tryz.prog.cellsOf 32 = 8 by kernel_rfl] at hl
  replace hx : xs.length = 5 := hx
  obtain ⟨_, h0⟩ := field_data hf 0 3 0 1 rfl (by kernel_rfl) (by rw [hx]; decide)
  obtain ⟨y0, e0, k0⟩ := Opn.out (P := Tryz.prog) (t := 3) h0
  obtain ⟨_, h1⟩ := field_data hf 1 3 1 1 rfl (by kernel_rfl) (by rw [hx]; decide)
  obtain ⟨y1, e1, k1⟩ := Opn.out (P := Tryz.prog) (t := 3) h1
  obtain ⟨_, h2⟩ := field_data hf 2 3 2 1 rfl (by kernel_rfl) (by rw [hx]; decide)
  obtain ⟨y2, e2, k2⟩ := Opn.out (P := Tryz.prog) (t := 3) h2
  obtain ⟨_, h3⟩ := field_data hf 3 30 3 4 rfl (by kernel_rfl) (by rw [hx]; decide)
  obtain ⟨y3, e3, k3⟩ := Opn.out (P := Tryz.prog) (t := 30) h3
  have h4 := field_data2 hf 4 9 7 1 rfl (by kernel_rfl) (by rw [hx]; decide)
  obtain ⟨y4, e4, k4, w4⟩ := (opnStrW Tryz.underlying9).out h4
  refine ⟨⟨y0, y1, y2, y3, y4⟩, ?_, ⟨k0, k1, k2, k3, k4⟩, by rw [hxx]; exact agg_le _ w4⟩
  match cs, hl with
  | [c0, c1, c2, c3, c4, c5, c6, c7], _ =>
    replace e0 : [c0] = _ := e0
    replace e1 : [c1] = _ := e1
    replace e2 : [c2] = _ := e2
    replace e3 : [c3, c4, c5, c6] = _ := e3
    replace e4 : [c7] = _ := e4
    show [c0] ++ [c1] ++ [c2] ++ [c3, c4, c5, c6] ++ [c7] = _
    rw [e0, e1, e2, e3, e4]
    rfl⟩
end Go.Proofs.YtdfoijfjlhjeaaaGreat

/- The walks, as the frames of the laws take them. -/
namespace Go.Proofs.YtdfoijfjlhjeaaaGreat
open Go Go.SX Go.RowKit
end Go.Proofs.YtdfoijfjlhjeaaaGreat

