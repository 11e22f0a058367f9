/- Rosters: what Move makes, in plain Lean. -/
import Derived.Test.YtedemhmlaodblaaDoorRf
import Derived.Test.YtedemhmlaodblaaDoorRg
namespace Go.Proofs.YtedemhmlaodblaaDoor
open Go Go.SX Go.RowKit
/-! ### finding -/
theorem fnd_some {l : List ApiEntry} {w : Int} (h : 0 ≤ fnd l w) : ∃ i, ∃ hi : i < l.length, fnd l w = (i : Nat) ∧ Is1 w l[i] ∧ ∀ j, ∀ hj : j < i, ¬ Is1 w (l[j]'(by omega)) := by
  unfold fnd at h ⊢
  cases e : l.findIdx? fun x => decide (Is1 w x) with
  | none => rw [e] at h; simp at h
  | some i =>
    obtain ⟨hi, h1, h2⟩ := List.findIdx?_eq_some_iff_getElem.1 e
    exact ⟨i, hi, rfl, by simpa using h1, fun j hj => by simpa using h2 j hj⟩
theorem fnd_ge {l : List ApiEntry} {w : Int} {y : ApiEntry} (hy : y ∈ l) (h : Is1 w y) : 0 ≤ fnd l w := by
  unfold fnd
  cases e : l.findIdx? fun x => decide (Is1 w x) with
  | none =>
    have := List.findIdx?_eq_none_iff.1 e y hy
    simp [h] at this
  | some i => exact Int.natCast_nonneg i
theorem fnd_neg {l : List ApiEntry} {w : Int} : fnd l w < 0 ↔ ∀ y ∈ l, ¬ Is1 w y := by
  constructor
  · intro h y hy h1
    have := fnd_ge hy h1
    omega
  · intro h; rw [fnd_no h]; decide
theorem fnd_m1 {l : List ApiEntry} {w : Int} (h : fnd l w < 0) : fnd l w = -1 := fnd_no (fnd_neg.1 h)
theorem askE_ok {l : List ApiEntry} {on : Bool} {wrong : Int} (hwr : wrong ≠ 0) : ∀ {q p : List Int}, askE l on wrong p q = 0 → q.Nodup ∧ ∀ w ∈ q, w ∉ p ∧ (0 ≤ w ∧ w < 256) ∧ decide (0 ≤ fnd l w) = on
  | [], p, _ => ⟨List.nodup_nil, by simp⟩
  | w :: q, p, h => by
    unfold askE at h
    by_cases he : er l on wrong p w = 0
    · rw [if_neg (not_not_intro he)] at h
      obtain ⟨h1, h2⟩ := askE_ok hwr h
      have h3 : w ∉ p ∧ (0 ≤ w ∧ w < 256) ∧ decide (0 ≤ fnd l w) = on := by
        have hr := er_range he
        unfold er at he
        rw [if_neg (by omega)] at he
        by_cases hp : w ∈ p
        · rw [if_pos hp] at he; cases he
        · rw [if_neg hp] at he
          by_cases ho : decide (0 ≤ fnd l w) = on
          · exact ⟨hp, hr, ho⟩
          · rw [if_pos ho] at he; exact absurd he hwr
      refine ⟨List.nodup_cons.2 ⟨fun hm => (h2 w hm).1 (by simp), h1⟩, fun u hu => ?_⟩
      rcases List.mem_cons.1 hu with rfl | hu
      · exact h3
      · exact ⟨fun hp => (h2 u hu).1 (List.mem_append_left _ hp), (h2 u hu).2⟩
    · rw [if_pos he] at h; exact absurd h he
/-- a batch that fits -/
structure Fit (l : List ApiEntry) (lv jn : List Int) : Prop where
  ok : RosOk l
  nd1 : lv.Nodup
  on1 : ∀ w ∈ lv, 0 ≤ fnd l w
  nd2 : jn.Nodup
  in2 : ∀ w ∈ jn, w ∉ lv ∧ (0 ≤ w ∧ w < 256) ∧ fnd l w < 0
  room : (jn.length : Int) ≤ (64 - (tk l).count true : Int) + lv.length
theorem fit_of {l : List ApiEntry} {lv jn : List Int} (h : fitsE l lv jn = 0) : Fit l lv jn := by
  unfold fitsE at h
  by_cases h1 : RosOk l
  · rw [if_pos h1] at h
    by_cases h2 : askE l true 16 [] lv = 0
    · rw [if_neg (not_not_intro h2)] at h
      by_cases h3 : askE l false 17 lv jn = 0
      · rw [if_neg (not_not_intro h3)] at h
        obtain ⟨a1, a2⟩ := askE_ok (by decide) h2
        obtain ⟨b1, b2⟩ := askE_ok (by decide) h3
        refine ⟨h1, a1, fun w hw => by simpa using (a2 w hw).2.2, b1, fun w hw => ⟨(b2 w hw).1, (b2 w hw).2.1, by have := (b2 w hw).2.2; simp at this; omega⟩, ?_⟩
        by_cases h4 : (64 - (tk l).count true : Int) + lv.length < jn.length
        · rw [if_pos h4] at h; cases h
        · omega
      · rw [if_pos h3] at h; exact absurd h h3
    · rw [if_pos h2] at h; exact absurd h h2
  · rw [if_neg h1] at h; cases h
/-! ### leaving -/
def offs : List ApiEntry → List Int → List ApiEntry
  | r, [] => r
  | r, w :: q => offs (r.set (fnd r w).toNat e0) q
def lefts : List ApiEntry → List Int → List ApiSeat
  | _, [] => []
  | r, w :: q => ⟨w, fnd r w⟩ :: lefts (r.set (fnd r w).toNat e0) q
theorem offs_len : ∀ (q : List Int) (r : List ApiEntry), (offs r q).length = r.length
  | [], _ => rfl
  | w :: q, r => by rw [offs, offs_len q, List.length_set]
theorem offs_snoc : ∀ (q : List Int) (r : List ApiEntry) (w : Int), offs r (q ++ [w]) = (offs r q).set (fnd (offs r q) w).toNat e0
  | [], _, _ => rfl
  | u :: q, r, w => by rw [List.cons_append, offs, offs, offs_snoc q]
theorem lefts_snoc : ∀ (q : List Int) (r : List ApiEntry) (w : Int), lefts r (q ++ [w]) = lefts r q ++ [⟨w, fnd (offs r q) w⟩]
  | [], _, _ => rfl
  | u :: q, r, w => by rw [List.cons_append, lefts, lefts, offs, lefts_snoc q]; rfl
theorem lefts_len : ∀ (q : List Int) (r : List ApiEntry), (lefts r q).length = q.length
  | [], _ => rfl
  | w :: q, r => by rw [lefts, List.length_cons, lefts_len q]; rfl
theorem not_e0 (w : Int) : ¬ Is1 w e0 := fun h => h.1 rfl
/-- who else is on stays on its place -/
theorem fnd_off {r : List ApiEntry} {u w : Int} (hu : 0 ≤ fnd r u) (hne : w ≠ u) : fnd (r.set (fnd r u).toNat e0) w = fnd r w := by
  obtain ⟨i, hi, ei, h1, _⟩ := fnd_some hu
  rw [ei, Int.toNat_natCast]
  have hsame : ∀ j, ∀ hj : j < r.length, Is1 w ((r.set i e0)[j]'(by simpa using hj)) ↔ Is1 w r[j] := fun j hj => by
    rw [List.getElem_set]
    split
    · rename_i e
      subst e
      exact ⟨fun h => absurd h (not_e0 w), fun h => absurd (h.2.symm.trans h1.2) hne⟩
    · exact Iff.rfl
  by_cases hw : 0 ≤ fnd r w
  · obtain ⟨j, hj, ej, k1, k2⟩ := fnd_some hw
    rw [ej]
    refine fnd_at (by simpa using hj) ((hsame j hj).2 k1) fun y hy => ?_
    obtain ⟨m, hm, rfl⟩ := List.mem_take_iff_getElem.1 hy
    rw [hsame m (by omega)]
    exact k2 m (by omega)
  · rw [fnd_m1 (l := r) (w := w) (by omega)]
    refine fnd_no fun y hy => ?_
    obtain ⟨m, hm, rfl⟩ := List.getElem_of_mem hy
    rw [hsame m (by simpa using hm)]
    exact fnd_neg.1 (by omega) _ (List.getElem_mem _)
theorem fnd_offs : ∀ (q : List Int) (r : List ApiEntry) (w : Int), q.Nodup → (∀ u ∈ q, 0 ≤ fnd r u) → w ∉ q → fnd (offs r q) w = fnd r w
  | [], _, _, _, _, _ => rfl
  | u :: q, r, w, hn, ho, hw => by
    rw [List.nodup_cons] at hn
    rw [offs, fnd_offs q _ w hn.2 (fun x hx => ?_) (fun h => hw (List.mem_cons_of_mem _ h)), fnd_off (ho u (by simp)) (fun e => hw (by simp [e]))]
    rw [fnd_off (ho u (by simp)) (fun e => hn.1 (e ▸ hx))]
    exact ho x (List.mem_cons_of_mem _ hx)
theorem tk_set (r : List ApiEntry) (i : Nat) (x : ApiEntry) : tk (r.set i x) = (tk r).set i (decide (x.Base ≠ 0)) := by unfold tk; rw [List.map_set]
theorem tk_off {r : List ApiEntry} {u : Int} (hu : 0 ≤ fnd r u) : (tk (r.set (fnd r u).toNat e0)).count true + 1 = (tk r).count true := by
  obtain ⟨i, hi, ei, h1, _⟩ := fnd_some hu
  rw [ei, Int.toNat_natCast, tk_set]
  have hit : i < (tk r).length := by rw [tk_len]; exact hi
  have hg : (tk r)[i] = true := by
    have : (tk r)[i]? = some (decide (r[i].Base ≠ 0)) := by unfold tk; rw [List.getElem?_map, List.getElem?_eq_getElem hi]; rfl
    rw [List.getElem?_eq_getElem hit] at this
    rw [Option.some.inj this]; simpa using h1.1
  rw [List.count_set hit, hg]
  have : 0 < (tk r).count true := List.count_pos_iff.2 (hg ▸ List.getElem_mem hit)
  simp
  omega
theorem tk_offs : ∀ (q : List Int) (r : List ApiEntry), q.Nodup → (∀ u ∈ q, 0 ≤ fnd r u) → (tk (offs r q)).count true + q.length = (tk r).count true
  | [], _, _, _ => rfl
  | u :: q, r, hn, ho => by
    rw [List.nodup_cons] at hn
    have h1 := tk_off (ho u (by simp))
    have h2 := tk_offs q (r.set (fnd r u).toNat e0) hn.2 fun x hx => by
      rw [fnd_off (ho u (by simp)) (fun e => hn.1 (e ▸ hx))]
      exact ho x (List.mem_cons_of_mem _ hx)
    rw [offs, List.length_cons]
    omega
/-! ### joining -/
def ons (since : Int) : List ApiEntry → Int → List (Int × Int) → List ApiEntry
  | r, _, [] => r
  | r, b, (w, s) :: q => ons since (r.set s.toNat ⟨w, b, since⟩) (b + 1) q
def jnd (q : List (Int × Int)) : List ApiSeat := q.map fun x => ⟨x.1, x.2⟩
theorem ons_len (since : Int) : ∀ (q : List (Int × Int)) (r : List ApiEntry) (b : Int), (ons since r b q).length = r.length
  | [], _, _ => rfl
  | (w, s) :: q, r, b => by rw [ons, ons_len since q, List.length_set]
theorem ons_snoc (since : Int) : ∀ (q : List (Int × Int)) (r : List ApiEntry) (b w s : Int), ons since r b (q ++ [(w, s)]) = (ons since r b q).set s.toNat ⟨w, b + q.length, since⟩
  | [], r, b, w, s => by simp [ons]
  | (u, t) :: q, r, b, w, s => by
    rw [List.cons_append, ons, ons, ons_snoc since q, List.length_cons]
    congr 2; omega
/-- the free places -/
def frs (r : List ApiEntry) : List Nat := pos ((tk r).map not)
theorem frs_len (r : List ApiEntry) : (frs r).length + (tk r).count true = r.length := by
  unfold frs; rw [pos_len, count_not', tk_len]
where count_not' : ∀ {p : List Bool}, (p.map not).count true + p.count true = p.length
  | [] => rfl
  | b :: p => by
    have := @count_not' p
    cases b <;> simp <;> omega
theorem srt_ext : ∀ {a b : List Nat}, a.Pairwise (· < ·) → b.Pairwise (· < ·) → (∀ x, x ∈ a ↔ x ∈ b) → a = b
  | [], [], _, _, _ => rfl
  | [], y :: b, _, _, h => by have := (h y).2 (by simp); cases this
  | x :: a, [], _, _, h => by have := (h x).1 (by simp); cases this
  | x :: a, y :: b, ha, hb, h => by
    rw [List.pairwise_cons] at ha hb
    have hxy : x = y := by
      rcases List.mem_cons.1 ((h x).1 (by simp)) with e | e
      · exact e
      · rcases List.mem_cons.1 ((h y).2 (by simp)) with e2 | e2
        · exact e2.symm
        · have h1 := hb.1 x e
          have h2 := ha.1 y e2
          omega
    subst hxy
    rw [srt_ext ha.2 hb.2 fun z => ?_]
    constructor
    · intro hz
      rcases List.mem_cons.1 ((h z).1 (List.mem_cons_of_mem _ hz)) with e | e
      · have := ha.1 z hz; omega
      · exact e
    · intro hz
      rcases List.mem_cons.1 ((h z).2 (List.mem_cons_of_mem _ hz)) with e | e
      · have := hb.1 z hz; omega
      · exact e
theorem mem_frs {r : List ApiEntry} {x : Nat} : x ∈ frs r ↔ ∃ h : x < r.length, r[x].Base = 0 := by
  unfold frs tk
  rw [pos_mem, List.map_map, List.getElem?_map]
  constructor
  · intro h
    cases e : r[x]? with
    | none => rw [e] at h; cases h
    | some y =>
      rw [e] at h
      obtain ⟨hx, rfl⟩ := List.getElem?_eq_some_iff.1 e
      exact ⟨hx, by simpa using h⟩
  · rintro ⟨hx, h⟩
    rw [List.getElem?_eq_getElem hx]
    simp [h]
theorem frs_sorted (r : List ApiEntry) : (frs r).Pairwise (· < ·) := pos_sorted _
theorem frs_set {r : List ApiEntry} {s : Nat} {q : List Nat} {x : ApiEntry} (h : frs r = s :: q) (hx : x.Base ≠ 0) : frs (r.set s x) = q := by
  have hso := frs_sorted r
  rw [h, List.pairwise_cons] at hso
  refine srt_ext (frs_sorted _) hso.2 fun y => ?_
  rw [mem_frs]
  have hm := @mem_frs r y
  rw [h] at hm
  constructor
  · rintro ⟨hy, h2⟩
    rw [List.length_set] at hy
    rw [List.getElem_set] at h2
    split at h2
    · exact absurd h2 hx
    · rcases List.mem_cons.1 (hm.2 ⟨hy, h2⟩) with e | e
      · subst e; exact absurd rfl (by assumption)
      · exact e
  · intro hy
    obtain ⟨h1, h2⟩ := hm.1 (List.mem_cons_of_mem _ hy)
    refine ⟨by rw [List.length_set]; exact h1, ?_⟩
    rw [List.getElem_set, if_neg (by have := hso.1 y hy; omega)]
    exact h2
theorem frs_first {r : List ApiEntry} {s : Nat} {q : List Nat} (h : frs r = s :: q) {k : Nat} (hk : k < r.length) (h0 : r[k].Base = 0) (hb : ∀ j, ∀ hj : j < k, (r[j]'(by omega)).Base ≠ 0) : k = s := by
  have hso := frs_sorted r
  rw [h, List.pairwise_cons] at hso
  have h1 : k ∈ frs r := mem_frs.2 ⟨hk, h0⟩
  obtain ⟨h2, h3⟩ := mem_frs.1 (show s ∈ frs r by rw [h]; simp)
  rw [h] at h1
  rcases List.mem_cons.1 h1 with e | e
  · exact e
  · have := hso.1 k e
    exact absurd h3 (hb s this)
def ints' (l : List Nat) : List Int := l.map fun x : Nat => (x : Int)
/-- who joins, and where -/
def mvQ (r : List ApiEntry) (jn : List Int) : List (Int × Int) := jn.zip (ints' (frs r))
theorem mvQ_len {r : List ApiEntry} {jn : List Int} (h : jn.length ≤ (frs r).length) : (mvQ r jn).length = jn.length := by
  unfold mvQ ints'; rw [List.length_zip, List.length_map]; omega
theorem mvQ_get {r : List ApiEntry} {jn : List Int} {i : Nat} (h : i < jn.length) (h2 : i < (frs r).length) : (mvQ r jn)[i]? = some (jn[i], ((frs r)[i] : Int)) := by
  unfold mvQ ints'
  rw [List.getElem?_zip_eq_some]
  exact ⟨List.getElem?_eq_getElem h, by rw [List.getElem?_map, List.getElem?_eq_getElem h2]; rfl⟩
theorem mvQ_take {r : List ApiEntry} {jn : List Int} {i : Nat} (h : i < jn.length) (h2 : i < (frs r).length) : (mvQ r jn).take (i + 1) = (mvQ r jn).take i ++ [(jn[i], ((frs r)[i] : Int))] := by
  rw [List.take_add_one, mvQ_get h h2]; rfl
theorem ons_at {since base : Int} {r : List ApiEntry} {jn : List Int} {i : Nat} (h : i < jn.length) (h2 : i < (frs r).length) :
    ons since r base ((mvQ r jn).take (i + 1)) = (ons since r base ((mvQ r jn).take i)).set (frs r)[i] ⟨jn[i], base + i, since⟩ := by
  have hl : (mvQ r jn).length = min jn.length (frs r).length := by unfold mvQ ints'; rw [List.length_zip, List.length_map]
  rw [mvQ_take h h2, ons_snoc, List.length_take, Int.toNat_natCast]
  congr 2
  congr 1
  omega
theorem frs_ons {since base : Int} {r : List ApiEntry} {jn : List Int} (hb : 1 ≤ base) (hl : jn.length ≤ (frs r).length) : ∀ i, i ≤ jn.length → frs (ons since r base ((mvQ r jn).take i)) = (frs r).drop i
  | 0, _ => rfl
  | i + 1, h => by
    have ih := frs_ons (since := since) hb hl i (by omega)
    rw [List.drop_eq_getElem_cons (by omega)] at ih
    rw [ons_at h (by omega)]
    exact frs_set ih (by dsimp only; omega)
/-! ### what Move answers -/
def nmOk (l : List ApiEntry) (base n : Int) : Prop := n = 0 ∨ (1 ≤ base ∧ base ≤ 32768 - n) ∧ ∀ x ∈ l, ¬ (base ≤ x.Base ∧ x.Base < base + n)
instance (l : List ApiEntry) (base n : Int) : Decidable (nmOk l base n) := by unfold nmOk; infer_instance
def mvE (l : List ApiEntry) (lv jn : List Int) (since base : Int) : Int :=
  if fitsE l lv jn ≠ 0 then fitsE l lv jn else if since < 1 ∨ 200 < since then 19 else if nmOk l base jn.length then 0 else 3
def mvR (l : List ApiEntry) (lv jn : List Int) (since base : Int) : List ApiEntry :=
  if mvE l lv jn since base = 0 then ons since (offs l lv) base (mvQ (offs l lv) jn) else List.replicate 64 e0
def mvL (l : List ApiEntry) (lv jn : List Int) (since base : Int) : List ApiSeat := if mvE l lv jn since base = 0 then lefts l lv else []
def mvJ (l : List ApiEntry) (lv jn : List Int) (since base : Int) : List ApiSeat := if mvE l lv jn since base = 0 then jnd (mvQ (offs l lv) jn) else []
theorem mvR_len {l : List ApiEntry} {lv jn : List Int} {since base : Int} (h : l.length = 64) : (mvR l lv jn since base).length = 64 := by
  unfold mvR
  split
  · rw [ons_len, offs_len, h]
  · exact List.length_replicate
instance lenMv (l : List ApiEntry) [h : LenIs l 64] (lv jn : List Int) (since base : Int) : LenIs (mvR l lv jn since base) 64 := ⟨mvR_len h.out⟩
end Go.Proofs.YtedemhmlaodblaaDoor
