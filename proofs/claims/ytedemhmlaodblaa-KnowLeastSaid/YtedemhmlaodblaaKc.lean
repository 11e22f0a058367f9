/- know: what is had is what follows from what was told and seen (plain law). -/
import Derived.Test.YtedemhmlaodblaaKz
namespace Go.Proofs.Ytedemhmlaodblaa
open Go Go.SX Go.RowKit
set_option linter.unusedSimpArgs false
/-- what follows -/
inductive Cl (told : List ApiKey) (boxes : List ApiBox) : Int → Int → Prop
  | own {a s : Int} : Gd a s → 32768 ≤ a → Cl told boxes a s
  | told {a s : Int} {x : ApiKey} : x ∈ told → x.Base = a → x.Step ≤ s → Gd a s → Cl told boxes a s
  | opens {a s : Int} {b : ApiBox} : b ∈ boxes → Cl told boxes b.Under.Base b.Under.Step → b.Load.Base = a → b.Load.Step ≤ s → Gd a s → Cl told boxes a s
theorem Cl.gd {told : List ApiKey} {boxes : List ApiBox} {a s : Int} (h : Cl told boxes a s) : Gd a s := by cases h <;> assumption
theorem Cl.up {told : List ApiKey} {boxes : List ApiBox} {a s s' : Int} (h : Cl told boxes a s) (h1 : s ≤ s') (h2 : s' ≤ 255) : Cl told boxes a s' := by
  have hg : Gd a s' := by have := h.gd; unfold Gd at this ⊢; omega
  cases h with
  | own _ h => exact .own hg h
  | told hx e hs _ => exact .told hx e (by omega) hg
  | opens hb hu e hs _ => exact .opens hb hu e (by omega) hg
theorem Cl.mono {told told' : List ApiKey} {boxes boxes' : List ApiBox} (h1 : ∀ x ∈ told, x ∈ told') (h2 : ∀ b ∈ boxes, b ∈ boxes') {a s : Int} (h : Cl told boxes a s) : Cl told' boxes' a s := by
  induction h with
  | own g h => exact .own g h
  | told hx e hs g => exact .told (h1 _ hx) e hs g
  | opens hb _ e hs g ih => exact .opens (h2 _ hb) ih e hs g
def KnowM.sh (K : KnowM) (k : Int) : List ApiBox := (mget K.shut k).getD []
/-- the state of the work, with what is still to be learned -/
structure Wk (told : List ApiKey) (boxes : List ApiBox) (K : KnowM) (todo : List ApiKey) : Prop where
  lo : ∀ a t, mget K.least a = some t → a < 32768 ∧ Cl told boxes a t
  td : ∀ x ∈ todo, Gd x.Base x.Step → Cl told boxes x.Base x.Step
  sh : ∀ k, ∀ b ∈ K.sh k, b ∈ boxes ∧ b.Under.Base = k ∧ ¬ K.had b.Under.Base b.Under.Step
  bx : ∀ b ∈ boxes, K.had b.Load.Base b.Load.Step ∨ b.Load ∈ todo ∨ b ∈ K.sh b.Under.Base
  tl : ∀ x ∈ told, K.had x.Base x.Step ∨ x ∈ todo
  gb : ∀ b ∈ boxes, Gd b.Under.Base b.Under.Step ∧ Gd b.Load.Base b.Load.Step
  gt : ∀ x ∈ told, Gd x.Base x.Step
theorem Wk.sound {told : List ApiKey} {boxes : List ApiBox} {K : KnowM} {todo : List ApiKey} (h : Wk told boxes K todo) {a s : Int} (hh : K.had a s) : Cl told boxes a s := by
  obtain ⟨g, h1 | ⟨t, h1, h2⟩⟩ := hh
  · exact .own g h1
  · exact (h.lo a t h1).2.up h2 g.2.2.2
theorem Wk.skip {told : List ApiKey} {boxes : List ApiBox} {K : KnowM} {x : ApiKey} {l : List ApiKey} (h : Wk told boxes K (x :: l)) (hx : Gd x.Base x.Step → K.had x.Base x.Step) : Wk told boxes K l := ⟨h.lo, fun y hy => h.td y (List.mem_cons_of_mem _ hy), h.sh, fun b hb => by
  rcases h.bx b hb with h' | h' | h'
  · exact .inl h'
  · rcases List.mem_cons.1 h' with e | h'
    · exact .inl (e ▸ hx (e ▸ (h.gb b hb).2))
    · exact .inr (.inl h')
  · exact .inr (.inr h'), fun y hy => by
  rcases h.tl y hy with h' | h'
  · exact .inl h'
  · rcases List.mem_cons.1 h' with e | h'
    · exact .inl (e ▸ hx (e ▸ h.gt y hy))
    · exact .inr h', h.gb, h.gt⟩
theorem had_take {K : KnowM} {x : ApiKey} (hg : Gd x.Base x.Step) (hn : ¬ K.had x.Base x.Step) (a s : Int) : (K.take x).had a s ↔ K.had a s ∨ (a = x.Base ∧ x.Step ≤ s ∧ Gd a s) := by
  have hlo : x.Base < 32768 := by
    rcases Int.lt_or_le x.Base 32768 with h | h
    · exact h
    · exact absurd ⟨hg, .inl h⟩ hn
  have e : (K.take x).least = mput K.least x.Base x.Step := rfl
  unfold KnowM.had
  rw [e, mget_mput]
  by_cases ha : a = x.Base
  · subst ha
    simp only [if_true]
    constructor
    · rintro ⟨g, h | ⟨t, h1, h2⟩⟩
      · omega
      · simp at h1; subst h1; exact .inr ⟨trivial, h2, g⟩
    · rintro (⟨g, h | ⟨t, h1, h2⟩⟩ | ⟨_, h2, g⟩)
      · omega
      · refine ⟨g, .inr ⟨x.Step, rfl, ?_⟩⟩
        rcases Int.lt_or_le x.Step t with h | h
        · omega
        · exact absurd ⟨hg, .inr ⟨t, h1, h⟩⟩ hn
      · exact ⟨g, .inr ⟨x.Step, rfl, h2⟩⟩
  · simp only [if_neg ha]
    constructor
    · exact fun h => .inl h
    · rintro (h | ⟨h, _⟩)
      · exact h
      · exact absurd h ha
theorem Wk.take {told : List ApiKey} {boxes : List ApiBox} {K : KnowM} {x : ApiKey} {l : List ApiKey} (h : Wk told boxes K (x :: l)) (hg : Gd x.Base x.Step) (hn : ¬ K.had x.Base x.Step) : Wk told boxes (K.take x) (l ++ K.opened x) := by
  have hx : Cl told boxes x.Base x.Step := h.td x (List.mem_cons_self ..) hg
  have hlo : x.Base < 32768 := by
    rcases Int.lt_or_le x.Base 32768 with h | h
    · exact h
    · exact absurd ⟨hg, .inl h⟩ hn
  have ht := had_take hg hn
  have hxh : (K.take x).had x.Base x.Step := (ht _ _).2 (.inr ⟨rfl, Int.le_refl _, hg⟩)
  have hsh : ∀ k, (K.take x).sh k = if k = x.Base then kep x (K.sh x.Base) else K.sh k := fun k => by
    show (mget (mput K.shut x.Base (kep x ((mget K.shut x.Base).getD []))) k).getD [] = _
    rw [mget_mput]
    split
    · rfl
    · rfl
  refine ⟨fun a t hat => ?_, fun y hy hy2 => ?_, fun k b hb => ?_, fun b hb => ?_, fun y hy => ?_, h.gb, h.gt⟩
  · have hat' : mget (mput K.least x.Base x.Step) a = some t := hat
    rw [mget_mput] at hat'
    split at hat'
    · rename_i e; subst e; simp at hat'; subst hat'; exact ⟨hlo, hx⟩
    · exact h.lo a t hat'
  · rcases List.mem_append.1 hy with hy | hy
    · exact h.td y (List.mem_cons_of_mem _ hy) hy2
    · obtain ⟨b, hb, rfl⟩ := List.mem_map.1 hy
      obtain ⟨hb1, hb2⟩ := List.mem_filter.1 hb
      obtain ⟨g1, g2, _⟩ := h.sh x.Base b hb1
      have hgv := gv.1 (of_decide_eq_true hb2)
      exact .opens g1 (by rw [g2]; exact hx.up hgv.2.2.2 hgv.2.1.2.2.2) rfl (Int.le_refl _) hy2
  · rw [hsh] at hb
    split at hb
    · rename_i e; subst e
      obtain ⟨hb1, hb2⟩ := List.mem_filter.1 hb
      obtain ⟨g1, g2, g3⟩ := h.sh x.Base b hb1
      refine ⟨g1, g2, fun hh => ?_⟩
      rcases (ht _ _).1 hh with hh | ⟨_, h2, h3⟩
      · exact g3 hh
      · simp at hb2
        exact hb2 (gv.2 ⟨hg, h3, g2.symm, h2⟩)
    · rename_i e
      obtain ⟨g1, g2, g3⟩ := h.sh k b hb
      refine ⟨g1, g2, fun hh => ?_⟩
      rcases (ht _ _).1 hh with hh | ⟨h1, _⟩
      · exact g3 hh
      · exact e (g2 ▸ h1)
  · rcases h.bx b hb with h' | h' | h'
    · exact .inl ((ht _ _).2 (.inl h'))
    · rcases List.mem_cons.1 h' with e | h'
      · exact .inl (e ▸ hxh)
      · exact .inr (.inl (List.mem_append_left _ h'))
    · by_cases e : b.Under.Base = x.Base
      · rw [e] at h'
        by_cases hgv : Gv x.Base x.Step b.Under.Base b.Under.Step
        · refine .inr (.inl (List.mem_append_right _ (List.mem_map.2 ⟨b, List.mem_filter.2 ⟨h', by simpa using hgv⟩, rfl⟩)))
        · refine .inr (.inr ?_)
          rw [hsh, if_pos e]
          exact List.mem_filter.2 ⟨h', by simpa using hgv⟩
      · refine .inr (.inr ?_)
        rw [hsh, if_neg e]
        exact h'
  · rcases h.tl y hy with h' | h'
    · exact .inl ((ht _ _).2 (.inl h'))
    · rcases List.mem_cons.1 h' with e | h'
      · exact .inl (e ▸ hxh)
      · exact .inr (List.mem_append_left _ h')
theorem Wk.learn {told : List ApiKey} {boxes : List ApiBox} {K K' : KnowM} {l : List ApiKey} (h : LearnR K l K') (hw : Wk told boxes K l) : Wk told boxes K' [] := by
  induction h with
  | done => exact hw
  | skip h1 _ ih => exact ih (hw.skip h1)
  | take h1 h2 _ ih => exact ih (hw.take h1 h2)
/-- .. when all is done: just what follows is had -/
theorem Wk.iff {told : List ApiKey} {boxes : List ApiBox} {K : KnowM} (h : Wk told boxes K []) (a s : Int) : K.had a s ↔ Cl told boxes a s := by
  refine ⟨h.sound, fun hc => ?_⟩
  induction hc with
  | own g h => exact ⟨g, .inl h⟩
  | told hx e hs g =>
    rcases h.tl _ hx with h' | h'
    · obtain ⟨_, h1 | ⟨t, h1, h2⟩⟩ := h'
      · exact ⟨g, .inl (e ▸ h1)⟩
      · exact ⟨g, .inr ⟨t, e ▸ h1, by omega⟩⟩
    · cases h'
  | @opens a s b hb hu e hs g ih =>
    rcases h.bx _ hb with h' | h' | h'
    · obtain ⟨_, h1 | ⟨t, h1, h2⟩⟩ := h'
      · exact ⟨g, .inl (e ▸ h1)⟩
      · exact ⟨g, .inr ⟨t, e ▸ h1, by omega⟩⟩
    · cases h'
    · exact absurd ih (h.sh _ _ h').2.2
/-- the program's state, and what was told and seen -/
structure Kin (told : List ApiKey) (boxes : List ApiBox) (texts : List ApiSealed) (n : Nat) (K : KnowM) : Prop where
  w : Wk told boxes K []
  bx : ∀ b, 0 < (mget K.boxes b).getD 0 ↔ b ∈ boxes
  b1 : ∀ b c, mget K.boxes b = some c → c = 1
  tx : ∀ t, 0 < (mget K.texts t).getD 0 ↔ t ∈ texts
  t1 : ∀ t c, mget K.texts t = some c → 1 ≤ c ∧ c ≤ n
  tg : ∀ t ∈ texts, GoodSl t
theorem Kin.zero : Kin [] [] [] 0 KnowM.zero := ⟨⟨by simp [mget], by simp, by simp [KnowM.sh, mget], by simp, by simp, by simp, by simp⟩, by simp [mget], by simp [mget], by simp [mget], by simp [mget], by simp⟩
theorem LearnR.rest {K K' : KnowM} {l : List ApiKey} (h : LearnR K l K') : K'.boxes = K.boxes ∧ K'.texts = K.texts := by
  induction h with
  | done => exact ⟨rfl, rfl⟩
  | skip _ _ ih => exact ih
  | take _ _ _ ih => exact ih
theorem Kin.le {told : List ApiKey} {boxes : List ApiBox} {texts : List ApiSealed} {n m : Nat} {K : KnowM} (h : Kin told boxes texts n K) (hm : n ≤ m) : Kin told boxes texts m K := ⟨h.w, h.bx, h.b1, h.tx, fun t c hc => ⟨(h.t1 t c hc).1, by have := (h.t1 t c hc).2; omega⟩, h.tg⟩
/-- a key told -/
def tellKey (told : List ApiKey) (x : ApiKey) : List ApiKey := if Gd x.Base x.Step ∧ x ∉ told then told ++ [x] else told
theorem mem_tellKey {told : List ApiKey} {x y : ApiKey} : y ∈ tellKey told x ↔ y ∈ told ∨ (y = x ∧ Gd x.Base x.Step) := by
  unfold tellKey
  split
  · rename_i h; simp [h.1]
  · rename_i h
    constructor
    · exact .inl
    · rintro (h' | ⟨rfl, g⟩)
      · exact h'
      · exact Classical.byContradiction fun hc => h ⟨g, hc⟩
theorem Kin.learn {told : List ApiKey} {boxes : List ApiBox} {texts : List ApiSealed} {n : Nat} {K K' : KnowM} {x : ApiKey} (h : Kin told boxes texts n K) (hl : LearnR K [x] K') : Kin (tellKey told x) boxes texts n K' := by
  obtain ⟨e1, e2⟩ := hl.rest
  have hm : ∀ y ∈ told, y ∈ tellKey told x := fun y hy => mem_tellKey.2 (.inl hy)
  refine ⟨Wk.learn hl ⟨fun a t ht => ⟨(h.w.lo a t ht).1, (h.w.lo a t ht).2.mono hm (fun _ h => h)⟩, fun y hy g => ?_, h.w.sh, fun b hb => (h.w.bx b hb).imp id (Or.imp (fun h => by cases h) id), fun y hy => ?_, h.w.gb, fun y hy => ?_⟩, by rw [e1]; exact h.bx, by rw [e1]; exact h.b1, by rw [e2]; exact h.tx, by rw [e2]; exact h.t1, h.tg⟩
  · simp only [List.mem_singleton] at hy; subst hy
    exact .told (mem_tellKey.2 (.inr ⟨rfl, g⟩)) rfl (Int.le_refl _) g
  · rcases mem_tellKey.1 hy with hy | ⟨rfl, _⟩
    · exact .inl ((h.w.tl y hy).resolve_right (by simp))
    · exact .inr (List.mem_singleton_self _)
  · rcases mem_tellKey.1 hy with hy | ⟨rfl, g⟩
    · exact h.w.gt y hy
    · exact g
/-- a box seen -/
def tellBox (boxes : List ApiBox) (b : ApiBox) : List ApiBox := if (Gd b.Under.Base b.Under.Step ∧ Gd b.Load.Base b.Load.Step) ∧ b ∉ boxes then boxes ++ [b] else boxes
theorem Kin.see {told : List ApiKey} {boxes : List ApiBox} {texts : List ApiSealed} {n : Nat} {K K' : KnowM} {b : ApiBox} (h : Kin told boxes texts n K) (hl : SeeR K b K') : Kin told (tellBox boxes b) texts n K' := by
  unfold SeeR at hl
  split at hl
  · rename_i hn
    have : tellBox boxes b = boxes := by
      unfold tellBox
      rw [if_neg]
      rintro ⟨⟨g1, g2⟩, g3⟩
      rcases hn with hn | hn | hn
      · exact hn g1
      · exact hn g2
      · exact g3 ((h.bx b).1 hn)
    rw [this, hl]; exact h
  · rename_i hn
    have g1 : Gd b.Under.Base b.Under.Step := Classical.byContradiction fun h => hn (.inl h)
    have g2 : Gd b.Load.Base b.Load.Step := Classical.byContradiction fun h => hn (.inr (.inl h))
    have g3 : b ∉ boxes := fun hb => hn (.inr (.inr ((h.bx b).2 hb)))
    have e : tellBox boxes b = boxes ++ [b] := by unfold tellBox; rw [if_pos ⟨⟨g1, g2⟩, g3⟩]
    have hz : mget K.boxes b = none := by
      cases hz : mget K.boxes b with
      | none => rfl
      | some c => exact absurd ((h.bx b).1 (by rw [hz, h.b1 b c hz]; decide)) g3
    have hw1 : wrap64 ((mget K.boxes b).getD 0 + 1) = 1 := by rw [hz]; unfold wrap64; simp
    have hm : ∀ y ∈ boxes, y ∈ boxes ++ [b] := fun y hy => List.mem_append_left _ hy
    have cm : ∀ {a s : Int}, Cl told boxes a s → Cl told (boxes ++ [b]) a s := fun hc => hc.mono (fun _ h => h) hm
    have bxs : ∀ c, 0 < (mget (mput K.boxes b (wrap64 ((mget K.boxes b).getD 0 + 1))) c).getD 0 ↔ c ∈ boxes ++ [b] := fun c => by
      rw [mget_mput, hw1]
      by_cases hc : c = b
      · subst hc; simp
      · rw [if_neg hc, h.bx]; simp [hc]
    have b1s : ∀ c d, mget (mput K.boxes b (wrap64 ((mget K.boxes b).getD 0 + 1))) c = some d → d = 1 := fun c d hd => by
      rw [mget_mput, hw1] at hd
      split at hd
      · simp at hd; exact hd.symm
      · exact h.b1 c d hd
    have gbs : ∀ c ∈ boxes ++ [b], Gd c.Under.Base c.Under.Step ∧ Gd c.Load.Base c.Load.Step := fun c hc => by
      rcases List.mem_append.1 hc with hc | hc
      · exact h.w.gb c hc
      · simp only [List.mem_singleton] at hc; subst hc; exact ⟨g1, g2⟩
    rw [e]
    split at hl
    · rename_i hu
      obtain ⟨e1, e2⟩ := hl.rest
      refine ⟨Wk.learn hl ⟨fun a t ht => ⟨(h.w.lo a t ht).1, cm (h.w.lo a t ht).2⟩, fun y hy g => ?_, fun k c hc => ⟨hm c (h.w.sh k c hc).1, (h.w.sh k c hc).2⟩, fun c hc => ?_, fun y hy => .inl ((h.w.tl y hy).resolve_right (by simp)), gbs, h.w.gt⟩, by rw [e1]; exact bxs, by rw [e1]; exact b1s, by rw [e2]; exact h.tx, by rw [e2]; exact h.t1, h.tg⟩
      · simp only [List.mem_singleton] at hy; subst hy
        exact .opens (List.mem_append_right _ (List.mem_singleton_self _)) (cm (h.w.sound hu)) rfl (Int.le_refl _) g
      · rcases List.mem_append.1 hc with hc | hc
        · exact (h.w.bx c hc).imp id (Or.imp (fun h => by cases h) id)
        · simp only [List.mem_singleton] at hc; subst hc; exact .inr (.inl (List.mem_singleton_self _))
    · rename_i hu
      subst hl
      have hsh : ∀ k, (K.lay b).sh k = if k = b.Under.Base then K.sh b.Under.Base ++ [b] else K.sh k := fun k => by
        show (mget (mput K.shut b.Under.Base ((mget K.shut b.Under.Base).getD [] ++ [b])) k).getD [] = _
        rw [mget_mput]
        split <;> rfl
      refine ⟨⟨fun a t ht => ⟨(h.w.lo a t ht).1, cm (h.w.lo a t ht).2⟩, by simp, fun k c hc => ?_, fun c hc => ?_, fun y hy => .inl ((h.w.tl y hy).resolve_right (by simp)), gbs, h.w.gt⟩, bxs, b1s, h.tx, h.t1, h.tg⟩
      · rw [hsh] at hc
        split at hc
        · rename_i ek; subst ek
          rcases List.mem_append.1 hc with hc | hc
          · exact ⟨hm c (h.w.sh _ c hc).1, (h.w.sh _ c hc).2⟩
          · simp only [List.mem_singleton] at hc; subst hc
            exact ⟨List.mem_append_right _ (List.mem_singleton_self _), rfl, hu⟩
        · exact ⟨hm c (h.w.sh k c hc).1, (h.w.sh k c hc).2⟩
      · rcases List.mem_append.1 hc with hc | hc
        · rcases h.w.bx c hc with h' | h' | h'
          · exact .inl h'
          · cases h'
          · refine .inr (.inr ?_)
            rw [hsh]
            split
            · rename_i ek; exact List.mem_append_left _ (ek ▸ h')
            · exact h'
        · simp only [List.mem_singleton] at hc; subst hc
          refine .inr (.inr ?_)
          rw [hsh, if_pos rfl]
          exact List.mem_append_right _ (List.mem_singleton_self _)
/-- a text read -/
def tellText (texts : List ApiSealed) (t : ApiSealed) : List ApiSealed := if GoodSl t ∧ t ∉ texts then texts ++ [t] else texts
theorem Kin.read {told : List ApiKey} {boxes : List ApiBox} {texts : List ApiSealed} {n : Nat} {K : KnowM} (h : Kin told boxes texts n K) (t : ApiSealed) (hn : n < 9223372036854775000) : Kin told boxes (tellText texts t) (n + 1) (K.read t) := by
  unfold KnowM.read tellText
  by_cases hg : GoodSl t
  · rw [if_pos hg]
    have hv : 1 ≤ wrap64 ((mget K.texts t).getD 0 + 1) ∧ wrap64 ((mget K.texts t).getD 0 + 1) ≤ (n + 1 : Nat) := by
      cases hz : mget K.texts t with
      | none => simp only [Option.getD_none]; unfold wrap64; omega
      | some c => have := h.t1 t c hz; simp only [Option.getD_some]; unfold wrap64; omega
    have hsame : ∀ x, x ∈ (if GoodSl t ∧ t ∉ texts then texts ++ [t] else texts) ↔ x ∈ texts ∨ x = t := fun x => by
      split
      · simp
      · rename_i h'
        have : t ∈ texts := Classical.byContradiction fun hc => h' ⟨hg, hc⟩
        exact ⟨.inl, fun h => h.elim id (fun e => e ▸ this)⟩
    refine ⟨⟨h.w.lo, h.w.td, h.w.sh, h.w.bx, h.w.tl, h.w.gb, h.w.gt⟩, h.bx, h.b1, fun x => ?_, fun x c hc => ?_, fun x hx => ?_⟩
    · show 0 < (mget (mput K.texts t (wrap64 ((mget K.texts t).getD 0 + 1))) x).getD 0 ↔ _
      rw [mget_mput, hsame]
      by_cases hx : x = t
      · subst hx; simp; omega
      · rw [if_neg hx, h.tx]; simp [hx]
    · have hc' : mget (mput K.texts t (wrap64 ((mget K.texts t).getD 0 + 1))) x = some c := hc
      rw [mget_mput] at hc'
      split at hc'
      · simp at hc'; subst hc'; exact hv
      · have := h.t1 x c hc'; omega
    · rcases (hsame x).1 hx with hx | rfl
      · exact h.tg x hx
      · exact hg
  · rw [if_neg hg, if_neg (fun h => hg h.1)]
    exact h.le (by omega)
end Go.Proofs.Ytedemhmlaodblaa
