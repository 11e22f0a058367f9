/- strconv.Itoa, strconv.Atoi, strings.CutPrefix, strings.Cut, by the shelf's contracts, as contracts here. -/
import Derived.Test.YtedemhmlaodblabDoorTy
import Derived.Test.YtedemhmlaodblabDoorSs
import Derived.Test.YtedemhmlaodblabDoorSo
import Derived.Test.YtedemhmlaodblabDoorKt
import Derived.Shelf.Strconv.AtoiAll
namespace Go.Proofs.YtedemhmlaodblabDoor
set_option linter.unusedSimpArgs false
set_option linter.unusedVariables false
set_option maxRecDepth 100000
set_option maxHeartbeats 0
set_option synthInstance.maxSize 100000
set_option synthInstance.maxHeartbeats 400000
open Go Go.SX Go.RowKit
instance : IsIfc Tryd.prog 71 := ⟨⟨_, Tryd.underlying71⟩⟩
/-- a package variable, as a segment -/
structure VarIs (name : String) (cs : Array Value) (s : Hp) : Prop where
  out : ∃ g et fr, Tryd.prog.globalNamed name = some g ∧ s = [(g, .cells cs et fr)]
theorem VarIs.var {name : String} {cs : Array Value} {s : Hp} {w : World} (h : VarIs name cs s) (hs : ∀ x ∈ s, w.heap[x.1]? = some x.2) : w.var? Tryd.prog name = some cs := by
  obtain ⟨g, et, fr, hg, rfl⟩ := h.out
  have := hs (g, .cells cs et fr) (by simp)
  simp only [World.var?, hg, Option.bind_some]
  rw [this]
theorem inv_below {C : Cx} {R : List Hp} {w w' : World} (hC : C = ⟨keys [], w, false⟩) (i : Inv C R [] w) (h : Below w.heap.size w w') : Inv C R [] w' := by
  subst hC
  exact ⟨h.os, h.tape, h.output, h.size, fun x hx => (h.block x.1 (lt_of_own (i.ro x hx))).trans (i.ro x hx), fun x hx => (by cases hx), List.nodup_nil, fun b hb => (by cases hb), fun b hb => (by cases hb), fun b hb _ => h.block b hb, fun e => (by cases e)⟩
theorem below_grow (w : World) (k : Nat) (os : Array Obj) : Below w.heap.size w (Sort.grow (w.drewN k) os) := ⟨rfl, rfl, rfl, by simp [Sort.grow, World.drewN], fun j hj => by
  show (_ ++ os)[j]? = _
  rw [Array.getElem?_append_left (by simpa [World.drewN] using hj)]
  rfl⟩
abbrev pow10C : Array Value := (Lib.pow10Tab.map fun z => Value.int .u64 z).toArray
theorem itoa_s {s : Hp} (hT : VarIs "internal/strconv.uint64pow10" pow10C s) {n : Int} (hn : inI64 n) : SX.Spec Tryd.prog 25 #[.int .i64 n] [s] [] fun u Γ => u = str (Lib.itoa n) ∧ Γ = [] := fun w i => by
  have hv := hT.var fun x hx => i.ro x (by simpa using hx)
  refine (Any.strconv_Itoa itoaL n hn.1 hn.2 w hv).mono ?_
  rintro e w' ⟨rfl, k, os, rfl⟩
  exact ⟨_, _, rfl, ⟨rfl, rfl⟩, inv_below rfl i (below_grow w k os)⟩
/-- what Atoi answers -/
def AtoiIs (l : List UInt8) (u : Value) : Prop := (∃ n, Lib.atoiAll l = .ok n ∧ u = .tuple #[.int .i64 n, .nilIface]) ∨ ((∀ n, Lib.atoiAll l ≠ .ok n) ∧ ∃ x t b, u = .tuple #[.int .i64 x, .iface t (.pointer (some b))])
theorem atoi_s {s1 s2 : Hp} {t1 t2 : TypeId} {p1 p2 : Value} (h1 : VarIs "strconv.ErrSyntax" #[.iface t1 p1] s1) (h2 : VarIs "strconv.ErrRange" #[.iface t2 p2] s2) {l : List UInt8} (hl : l.length ≤ 281474976710656) :
    SX.Spec Tryd.prog 29 #[str l] [s1, s2] [] fun u Γ => AtoiIs l u ∧ Γ = [] := fun w i => by
  have hv1 := h1.var fun x hx => i.ro x (by simp [hx])
  have hv2 := h2.var fun x hx => i.ro x (by simp [hx])
  have hsz := bs_size l
  cases h : Lib.atoiAll l with
  | ok n =>
    refine (Any.strconv_Atoi_ok atoiL ⟨l.toArray⟩ (by omega) n (by simpa using h) w).mono ?_
    rintro e w' ⟨rfl, hw⟩
    refine ⟨_, _, rfl, ⟨.inl ⟨n, h, rfl⟩, rfl⟩, ?_⟩
    rcases hw with rfl | ⟨t, rfl⟩
    · exact i
    · exact inv_below rfl i (Lib.bytesWorld_below _ _ _)
  | «syntax» =>
    refine (Any.strconv_Atoi_syntax_var atoiL ⟨l.toArray⟩ (by omega) (by simpa using h) t1 p1 w hv1).mono ?_
    rintro e w' ⟨N, rfl, _, _, hb⟩
    exact ⟨_, _, rfl, ⟨.inr ⟨fun n => (by rw [h]; simp), _, _, _, rfl⟩, rfl⟩, inv_below rfl i hb⟩
  | range =>
    refine (Any.strconv_Atoi_range_var atoiL ⟨l.toArray⟩ (by omega) (by simpa using h) t2 p2 w hv2).mono ?_
    rintro e w' ⟨N, rfl, _, _, hb⟩
    exact ⟨_, _, rfl, ⟨.inr ⟨fun n => (by rw [h]; simp), _, _, _, rfl⟩, rfl⟩, inv_below rfl i hb⟩
instance cutp_s (l p : List UInt8) : PC Tryd.prog 27 #[str l, str p] (.tuple #[str (Lib.trimPrefix l p), .bool (Lib.hasPrefix l p)]) := ⟨fun w i => by
  refine (Any.strings_CutPrefix cutPL ⟨l.toArray⟩ ⟨p.toArray⟩ w).mono ?_
  rintro e w' ⟨rfl, rfl⟩
  exact ⟨_, _, rfl, ⟨by simp, rfl⟩, i⟩⟩
instance index1_s (l : List UInt8) (c : UInt8) : PC Tryd.prog 62 #[str l, str [c]] (.int .i64 (Lib.indexByte l c)) := ⟨fun w i => by
  refine (Any.stringslite_Index_one indexL ⟨l.toArray⟩ c w).mono ?_
  rintro e w' ⟨rfl, rfl⟩
  exact ⟨_, _, rfl, ⟨by simp, rfl⟩, i⟩⟩
/-- cut at the first c -/
def cut1 (l : List UInt8) (c : UInt8) : List UInt8 × List UInt8 × Bool := if 0 ≤ Lib.indexByte l c then (l.take (Lib.indexByte l c).toNat, l.drop ((Lib.indexByte l c).toNat + 1), true) else (l, [], false)
theorem indexByte_lt (c : UInt8) : ∀ (l : List UInt8), Lib.indexByte l c < l.length
  | [] => (by decide : (-1 : Int) < 0)
  | b :: l => by
    have ih := indexByte_lt c l
    unfold Lib.indexByte
    rw [List.length_cons]
    split
    · omega
    · split <;> omega
instance cutS_s (l : List UInt8) (c : UInt8) [hl : Fact' (l.length ≤ 281474976710656)] : PC Tryd.prog 42 #[str l, str [c]] (.tuple #[str (cut1 l c).1, str (cut1 l c).2.1, .bool (cut1 l c).2.2]) := ⟨by
  have hi := indexByte_lt c l
  have hz := hl.out
  have hc1 : cut1 l c = if 0 ≤ Lib.indexByte l c then (l.take (Lib.indexByte l c).toNat, l.drop ((Lib.indexByte l c).toNat + 1), true) else (l, [], false) := rfl
  have hw : wrap64 (Lib.indexByte l c + (([c].length : Nat) : Int)) = Lib.indexByte l c + 1 := by
    have h1 : (([c].length : Nat) : Int) = 1 := rfl
    have h2 := Lib.indexByte_ge l c
    rw [h1]; unfold wrap64; omega
  refine spec_of2 Tryd.func42 Tryd.ntmps42 rfl rfl (fun M w0 => ?_)
  repeat' (first | refine stp ?_|(refine v_spT ?_ ?_;omega)|(refine v_spF ?_ ?_;omega)|refine v_spD (fun hc=>?_) (fun hc=>?_)|refine v_spB (fun hc=>?_) (fun hc=>?_)|(refine v_yc ?_ ?_;omega)|refine v_allocA (fun ba sal hal=>?_)|refine v_boxA (fun bb sba hba=>?_)|refine v_storeA (fun ss hs=>?_)|refine v_alloc' (fun ba=>?_)|refine v_box (fun bb=>?_)|refine v_lit (fun bl=>?_)|refine v_makeMap (fun bm=>?_)|(refine v_push ?_ (fun sv ss hs hln=>?_);omega)|(refine v_push0 ?_ (fun sv ss hs=>?_);omega)|(refine v_set ?_ (fun ss hs hln=>?_);omega)|(refine v_cat ?_ (fun sv ss hs hln=>?_);omega)|(refine v_cat0 ?_ (fun sv ss hs=>?_);omega)|(refine v_catN ?_ (fun sv ss hs=>?_);omega)|refine v_put (fun sm hm=>?_)|refine v_del (fun sm hm=>?_)|(refine v_sb ?_ (fun su (And.intro hs hln)=>?_);omega)|refine v_1lk (fun lv hlk=>?_) (fun hlk=>?_)|refine v_ment (fun st sm hm hst=>?_)|refine v_esto (fun sm hm=>?_)|refine v_rng (fun ri ti hit=>?_)|refine v_clone (fun bc sc hcl=>?_)|refine v_yw ?_|(refine v_make ?_ (fun sv ss hs hln=>?_);omega)|refine ⟨?_,?_,?_⟩|refine ⟨?_,?_⟩|(refine v_tyc ?_ ?_;omega)|(refine v_tycT (by decide +kernel) ?_ ?_;omega)|refine v_tValT (by decide +kernel) ?_|(refine v_tsb ?_ (fun su (And.intro hs hln)=>?_);omega)|refine v_tlk (fun lv hlk=>?_) (fun hlk=>?_)|refine v_tlkT (by decide +kernel) (fun lv hlk=>?_) (fun hlk=>?_)|refine v_tyw ?_|refine v_drawn0 (id:=3) pl42_3 (by kernel_rfl) ?_|fail)
  · refine v_o3 Tryd.results42 ⟨?_, rfl⟩ ⟨_, inferInstance⟩
    rw [hc1, if_pos hc, hw, show (Lib.indexByte l c + 1).toNat = (Lib.indexByte l c).toNat + 1 by omega]
  · refine v_o3 Tryd.results42 ⟨?_, rfl⟩ ⟨_, inferInstance⟩
    rw [hc1, if_neg hc]
⟩
instance cutT_s (l : List UInt8) (c : UInt8) [hl : Fact' (l.length ≤ 281474976710656)] : PC Tryd.prog 28 #[str l, str [c]] (.tuple #[str (cut1 l c).1, str (cut1 l c).2.1, .bool (cut1 l c).2.2]) := ⟨by
  refine spec_of2 Tryd.func28 Tryd.ntmps28 rfl rfl (fun M w0 => ?_)
  repeat' (first | refine stp ?_|(refine v_spT ?_ ?_;omega)|(refine v_spF ?_ ?_;omega)|refine v_spD (fun hc=>?_) (fun hc=>?_)|refine v_spB (fun hc=>?_) (fun hc=>?_)|(refine v_yc ?_ ?_;omega)|refine v_allocA (fun ba sal hal=>?_)|refine v_boxA (fun bb sba hba=>?_)|refine v_storeA (fun ss hs=>?_)|refine v_alloc' (fun ba=>?_)|refine v_box (fun bb=>?_)|refine v_lit (fun bl=>?_)|refine v_makeMap (fun bm=>?_)|(refine v_push ?_ (fun sv ss hs hln=>?_);omega)|(refine v_push0 ?_ (fun sv ss hs=>?_);omega)|(refine v_set ?_ (fun ss hs hln=>?_);omega)|(refine v_cat ?_ (fun sv ss hs hln=>?_);omega)|(refine v_cat0 ?_ (fun sv ss hs=>?_);omega)|(refine v_catN ?_ (fun sv ss hs=>?_);omega)|refine v_put (fun sm hm=>?_)|refine v_del (fun sm hm=>?_)|(refine v_sb ?_ (fun su (And.intro hs hln)=>?_);omega)|refine v_1lk (fun lv hlk=>?_) (fun hlk=>?_)|refine v_ment (fun st sm hm hst=>?_)|refine v_esto (fun sm hm=>?_)|refine v_rng (fun ri ti hit=>?_)|refine v_clone (fun bc sc hcl=>?_)|refine v_yw ?_|(refine v_make ?_ (fun sv ss hs hln=>?_);omega)|fail)
  refine v_o3 Tryd.results28 ⟨rfl, rfl⟩ ⟨_, inferInstance⟩⟩
end Go.Proofs.YtedemhmlaodblabDoor
