/- Contracts of functions of the program, each proved by a walk through its code; conditions stand in the statements. -/
import Derived.Test.YtmahghppojbeoaaSeAD
import Derived.Deep.Upon
import Derived.Deep.MidRow
namespace Go.Proofs.Ytmahghppojbeoaa
set_option linter.unusedSimpArgs false
set_option linter.unusedVariables false
set_option linter.unusedSectionVars false
open Go Go.RowKit Go.Tw
set_option linter.unusedVariables false
set_option maxRecDepth 20000
open Go.Sort
/-! ### a pair: speakers and a listener, words under way -/
structure SpS where
  o : Bool
  vs : List Int
  V : List (Int × List Int)
abbrev Wrd := Int × (Int × List Int)
def vwK (L : Lm) (k : Int) : Option (Int × Int × List Int) := (lookL L k).map fun o => (o.boot, o.heard, o.vs)
def wOf (q : List Wrd) (i : Int) : List (Int × List Int) := (q.filter fun m => m.1 == i).map (·.2)
theorem wOf_cons (m : Wrd) (q : List Wrd) (i : Int) : wOf (m :: q) i = if m.1 = i then m.2 :: wOf q i else wOf q i := by
  unfold wOf
  by_cases h : m.1 = i <;> simp [h]
theorem wOf_snoc (m : Wrd) (q : List Wrd) (i : Int) : wOf (q ++ [m]) i = if m.1 = i then wOf q i ++ [m.2] else wOf q i := by
  unfold wOf
  by_cases h : m.1 = i <;> simp [h]
theorem wOf_nil (i : Int) : wOf [] i = [] := rfl
theorem vwK_put {L : Lm} (k j : Int) (o : One) : vwK (putL L k o) j = if k = j then some (o.boot, o.heard, o.vs) else vwK L j := by
  unfold vwK; rw [al_look_put]
  by_cases e : k = j <;> simp [e]
inductive Loc (t tl : Int) (g : Bool) (o : Bool) (vs : List Int) (X D : List (Int × List Int)) (s : Option (Int × Int × List Int)) : Prop
  | n0 (hg : g = false) (ho : o = false) (hX : X = []) (hD : D = []) (hs : s = none) : Loc t tl g o vs X D s
  | n1 (ho : o = false) (hX : X = [(10, [5])]) (hD : D = []) (hs : s = none) : Loc t tl g o vs X D s
  | n2 (ho : o = false) (hX : X = []) (hD : D = [(11, [5])]) (h : Int) (x : List Int) (hs : s = some (5, h, x)) (ht : t ≤ h) (htl : tl ≤ h) : Loc t tl g o vs X D s
  | op (ho : o = true) (hD : D = []) (h : Int) (x : List Int) (hs : s = some (5, h, x)) (htl : tl ≤ h) (hw : ∀ m ∈ X, m.1 = 12 ∧ ∃ v, m.2 = 5 :: v ∧ vok v ∧ v.length ≤ 39) (he : X = [] → x = vs ∧ t ≤ h) (hl : X ≠ [] → X.getLast? = some (12, 5 :: vs)) : Loc t tl g o vs X D s
theorem okIn_open {k now : Int} (hm : muxB k = true) (ht : timB now = true) : okIn k 10 now [5] := ⟨hm, ht, by simp, rfl, vok_nil, by simp, .inr rfl⟩
theorem okIn_rts {k now : Int} {v : List Int} (hm : muxB k = true) (ht : timB now = true) (hv : vok v) (hl : v.length ≤ 39) : okIn k 12 now (5 :: v) := ⟨hm, ht, by simp, rfl, by simpa using hv, by simpa using hl, .inl rfl⟩
theorem Loc.recv {t tl now : Int} {g o : Bool} {vs : List Int} {m : Int × List Int} {X D : List (Int × List Int)} {L L' : Lm} {k : Int} {ans : Option (Int × Int)}
    (h : Loc t tl g o vs (m :: X) D (vwK L k)) (hm : muxB k = true) (ht : timB now = true) (htn : t ≤ now) (htl : tl ≤ now) (hz : RecvR L k m.1 now m.2 L' ans) :
    Loc t tl g o vs X (D ++ ans.toList.map (fun a => (a.1, [a.2]))) (vwK L' k) ∧ (∀ j, j ≠ k → vwK L' j = vwK L j) ∧ (m.1 = 12 → ans = none) ∧ (vwK L' k).isSome = true := by
  cases h with
  | n0 _ _ hX _ _ => cases hX
  | n1 ho hX hD hs =>
    obtain ⟨rfl, rfl⟩ := List.cons.inj hX
    obtain ⟨rfl, rfl⟩ := recv_opn (okIn_open hm ht) hz
    subst hD
    refine ⟨.n2 ho rfl (by simp) now [] (by rw [vwK_put, if_pos rfl]; rfl) htn htl, fun j hj => by rw [vwK_put, if_neg (Ne.symm hj)], by decide, by rw [vwK_put, if_pos rfl]; rfl⟩
  | n2 _ hX _ _ _ _ _ _ => cases hX
  | op ho hD h x hs htl' hw he hl =>
    obtain ⟨h1, v, h2, h3, h4⟩ := hw m (by simp)
    obtain ⟨mk, mn⟩ := m
    simp only at h1 h2 hz
    subst h1 h2 hD
    have hs1 : (lookL L k).isSome = true := by
      cases e : lookL L k with
      | none => unfold vwK at hs; rw [e] at hs; cases hs
      | some o => rfl
    have hb : (oneOf L k).boot = (5 :: v).headD 0 := by
      unfold oneOf
      cases e : lookL L k with
      | none => rw [e] at hs1; cases hs1
      | some o => unfold vwK at hs; rw [e] at hs; simp at hs; simp [hs.1]
    obtain ⟨⟨a, c, rfl⟩, rfl⟩ := recv_rts (okIn_rts hm ht h3 h4) hs1 hb hz
    refine ⟨.op ho rfl now v (by rw [vwK_put, if_pos rfl, hb]; rfl) htl (fun m' hm' => hw m' (List.mem_cons_of_mem _ hm')) (fun hX => ?_) (fun hX => ?_), fun j hj => by rw [vwK_put, if_neg (Ne.symm hj)], fun _ => rfl, by rw [vwK_put, if_pos rfl]; rfl⟩
    · subst hX
      have := hl (by simp)
      simp at this
      exact ⟨this, htn⟩
    · have := hl (by simp)
      rw [List.getLast?_cons] at this
      cases X with
      | nil => exact absurd rfl hX
      | cons a r => simpa [List.getLast?_cons] using this
theorem Loc.down {t tl : Int} {g o : Bool} {vs : List Int} {m : Int × List Int} {X D : List (Int × List Int)} {s : Option (Int × Int × List Int)} (h : Loc t tl g o vs X (m :: D) s) (hv : vok vs ∧ vs.length ≤ 39) :
    Loc t tl g (recvO 5 o m.1 m.2) vs (X ++ recvM 5 m.1 vs m.2) D s ∧ X = [] ∧ recvM 5 m.1 vs m.2 = [(12, 5 :: vs)] := by
  cases h with
  | n0 _ _ _ hD _ => cases hD
  | n1 _ _ hD _ => cases hD
  | n2 ho hX hD h x hs ht htl =>
    obtain ⟨rfl, rfl⟩ := List.cons.inj hD
    subst hX
    refine ⟨.op rfl rfl h x hs htl (fun m' hm' => ?_) (fun q => by cases q) (fun _ => rfl), rfl, rfl⟩
    simp [recvM] at hm'
    subst hm'
    exact ⟨rfl, vs, rfl, hv.1, hv.2⟩
  | op _ hD _ _ _ _ _ _ _ => cases hD
theorem Loc.tick4 {t tl now : Int} {g o : Bool} {vs : List Int} {X : List (Int × List Int)} {s : Option (Int × Int × List Int)} (h : Loc t tl g o vs X [] s) (hn : ∀ m ∈ X, m.1 = 12) (hv : vok vs ∧ vs.length ≤ 39) (ht : timB now = true) (h4 : Int.tmod now 4 = 0) :
    Loc now tl true o vs (X ++ tickV 5 o vs now) [] s := by
  unfold tickV
  rw [if_pos ⟨ht, h4⟩]
  cases h with
  | n0 hg ho hX hD hs => subst hX ho; exact .n1 rfl rfl rfl hs
  | n1 ho hX hD hs => subst hX; exact absurd (hn (10, [5]) (by simp)) (by decide)
  | n2 _ _ hD _ _ _ _ _ => cases hD
  | op ho hD h x hs htl hw he hl =>
    subst ho
    refine .op rfl rfl h x hs htl (fun m hm => ?_) (fun q => by simp at q) (fun _ => by simp)
    rw [if_pos rfl] at hm
    rcases List.mem_append.1 hm with hm | hm
    · exact hw m hm
    · rw [List.mem_singleton] at hm; subst hm; exact ⟨rfl, vs, rfl, hv.1, hv.2⟩
theorem tickV_no {o : Bool} {vs : List Int} {now : Int} (h4 : Int.tmod now 4 ≠ 0) : tickV 5 o vs now = [] := if_neg fun q => h4 q.2
theorem Loc.rest {t tl : Int} {g o : Bool} {vs : List Int} {s : Option (Int × Int × List Int)} (h : Loc t tl g o vs [] [] s) : Loc t t g o vs [] [] s := by
  cases h with
  | n0 hg ho hX hD hs => exact .n0 hg ho hX hD hs
  | n1 _ hX _ _ => cases hX
  | n2 _ _ hD _ _ _ _ _ => cases hD
  | op ho hD h x hs htl hw he hl => exact .op ho hD h x hs (he rfl).2 hw he hl
/-- announced anew -/
theorem Loc.ann {t tl : Int} {g o : Bool} {vs : List Int} {s : Option (Int × Int × List Int)} {A : List Int} (h : Loc t tl g o vs [] [] s) (hv : vok (annV A) ∧ (annV A).length ≤ 39) : Loc t tl g o (annV A) (annM 5 o vs A) [] s := by
  unfold annM
  cases h with
  | n0 hg ho hX hD hs => subst ho; rw [if_neg (fun q => by cases q.2)]; exact .n0 hg rfl rfl rfl hs
  | n1 _ hX _ _ => cases hX
  | n2 _ _ hD _ _ _ _ _ => cases hD
  | op ho hD h x hs htl hw he hl =>
    subst ho
    by_cases e : annV A = vs
    · rw [if_neg (fun q => q.1 e), e]; exact .op rfl rfl h x hs htl hw he hl
    · rw [if_pos ⟨e, rfl⟩]
      refine .op rfl rfl h x hs htl (fun m hm => ?_) (fun q => by cases q) (fun _ => rfl)
      rw [List.mem_singleton] at hm; subst hm; exact ⟨rfl, _, rfl, hv.1, hv.2⟩
structure PInv (T : Nat → Int) (tl : Int) (G : Nat → Bool) (S : List SpS) (L : Lm) (up dn : List Wrd) : Prop where
  len : S.length ≤ 8
  key : ∀ k, (vwK L k).isSome = true → ∃ i : Nat, i < S.length ∧ k = 32 + (i : Int)
  um : ∀ m ∈ up, ∃ i : Nat, i < S.length ∧ m.1 = (i : Int)
  dm : ∀ m ∈ dn, ∃ i : Nat, i < S.length ∧ m.1 = (i : Int)
  vk : ∀ σ ∈ S, vok σ.vs ∧ σ.vs.length ≤ 39
  loc : ∀ (i : Nat) σ, S[i]? = some σ → Loc (T i) tl (G i) σ.o σ.vs (wOf up i ++ σ.V) (wOf dn i) (vwK L (32 + (i : Int)))
theorem PInv.upd {T T' : Nat → Int} {tl : Int} {G G' : Nat → Bool} {S : List SpS} {L : Lm} {up dn up' dn' : List Wrd} (h : PInv T tl G S L up dn) {i : Nat} {σ σ' : SpS} (hi : S[i]? = some σ) (hu : ∀ m ∈ up', m ∈ up ∨ m.1 = (i : Int)) (hd : ∀ m ∈ dn', m ∈ dn ∨ m.1 = (i : Int)) (hv : vok σ'.vs ∧ σ'.vs.length ≤ 39)
    (hl : Loc (T' i) tl (G' i) σ'.o σ'.vs (wOf up' i ++ σ'.V) (wOf dn' i) (vwK L (32 + (i : Int)))) (ho : ∀ j : Nat, j ≠ i → T' j = T j ∧ G' j = G j ∧ wOf up' j = wOf up j ∧ wOf dn' j = wOf dn j) : PInv T' tl G' (S.set i σ') L up' dn' := by
  have hil := (List.getElem?_eq_some_iff.1 hi).1
  refine ⟨by rw [List.length_set]; exact h.len, fun k hk => by rw [List.length_set]; exact h.key k hk, fun m hm => ?_, fun m hm => ?_, fun s hs => ?_, fun j s hs => ?_⟩
  · rw [List.length_set]; exact (hu m hm).elim (h.um m) (fun e => ⟨i, hil, e⟩)
  · rw [List.length_set]; exact (hd m hm).elim (h.dm m) (fun e => ⟨i, hil, e⟩)
  · rcases List.mem_or_eq_of_mem_set hs with hs | rfl
    · exact h.vk s hs
    · exact hv
  · by_cases e : j = i
    · subst e; rw [List.getElem?_set_self hil] at hs; cases hs; exact hl
    · rw [List.getElem?_set_ne (Ne.symm e)] at hs
      obtain ⟨h1, h2, h3, h4⟩ := ho j e
      rw [h1, h2, h3, h4]; exact h.loc j s hs
theorem PInv.mvUp {T : Nat → Int} {tl : Int} {G : Nat → Bool} {S : List SpS} {L : Lm} {up dn : List Wrd} (h : PInv T tl G S L up dn) {i : Nat} {o : Bool} {vs : List Int} {m : Int × List Int} {r : List (Int × List Int)} (hi : S[i]? = some ⟨o, vs, m :: r⟩) :
    PInv T tl G (S.set i ⟨o, vs, r⟩) L (up ++ [((i : Int), m)]) dn := by
  have h1 := h.loc i _ hi
  refine h.upd hi (fun m' hm' => ?_) (fun m' hm' => .inl hm') (show vok vs ∧ vs.length ≤ 39 from h.vk ⟨o, vs, m :: r⟩ (List.mem_of_getElem? hi)) ?_ fun j hj => ⟨rfl, rfl, ?_, rfl⟩
  · rcases List.mem_append.1 hm' with hm' | hm'
    · exact .inl hm'
    · rw [List.mem_singleton] at hm'; subst hm'; exact .inr rfl
  · rw [wOf_snoc, if_pos rfl]; simpa using h1
  · rw [wOf_snoc, if_neg (fun e => hj (by simp at e; omega))]
theorem PInv.popUp {T : Nat → Int} {tl now : Int} {G : Nat → Bool} {S : List SpS} {L L' : Lm} {up dn : List Wrd} {m : Wrd} {ans : Option (Int × Int)} (h : PInv T tl G S L (m :: up) dn) (ht : timB now = true) (hT : ∀ i, T i ≤ now) (htl : tl ≤ now) (hz : RecvR L (32 + m.1) m.2.1 now m.2.2 L' ans) :
    PInv T tl G S L' up (dn ++ ans.toList.map (fun a => (m.1, (a.1, [a.2])))) ∧ (m.2.1 = 12 → ans = none) := by
  obtain ⟨i, hil, hmi⟩ := h.um m (by simp)
  obtain ⟨mi, mm⟩ := m
  simp only at hmi hz ⊢
  subst hmi
  obtain ⟨σ, hi⟩ : ∃ σ, S[i]? = some σ := ⟨_, List.getElem?_eq_getElem hil⟩
  have h1 := h.loc i σ hi
  rw [wOf_cons, if_pos rfl, List.cons_append] at h1
  have hm : muxB (32 + (i : Int)) = true := decide_eq_true (by have := h.len; omega)
  obtain ⟨h2, h3, h4, h5⟩ := h1.recv hm ht (hT i) htl hz
  refine ⟨⟨h.len, fun k hk => ?_, fun m' hm' => h.um m' (List.mem_cons_of_mem _ hm'), fun m' hm' => ?_, h.vk, fun j s hs => ?_⟩, h4⟩
  · by_cases e : k = 32 + (i : Int)
    · exact ⟨i, hil, e⟩
    · rw [h3 k e] at hk; exact h.key k hk
  · rcases List.mem_append.1 hm' with hm' | hm'
    · exact h.dm m' hm'
    · obtain ⟨a, _, rfl⟩ := List.mem_map.1 hm'; exact ⟨i, hil, rfl⟩
  · by_cases e : j = i
    · subst e; rw [hi] at hs; cases hs
      have e2 : wOf (dn ++ ans.toList.map (fun a => ((j : Int), (a.1, [a.2])))) j = wOf dn j ++ ans.toList.map (fun a => (a.1, [a.2])) := by
        cases ans with
        | none => simp
        | some a => simp only [Option.toList_some, List.map_cons, List.map_nil]; rw [wOf_snoc, if_pos rfl]
      rw [e2]; exact h2
    · have e2 : wOf (dn ++ ans.toList.map (fun a => ((i : Int), (a.1, [a.2])))) j = wOf dn j := by
        cases ans with
        | none => simp
        | some a => simp only [Option.toList_some, List.map_cons, List.map_nil]; rw [wOf_snoc, if_neg (fun q => e (by simp at q; omega))]
      have h6 := h.loc j s hs
      rw [wOf_cons, if_neg (fun q => e (by simp at q; omega))] at h6
      rw [e2, h3 _ (by omega)]; exact h6
theorem PInv.popDn {T : Nat → Int} {tl : Int} {G : Nat → Bool} {S : List SpS} {L : Lm} {up dn : List Wrd} {m : Wrd} (h : PInv T tl G S L up (m :: dn)) {i : Nat} (hm : m.1 = (i : Int)) {σ : SpS} (hi : S[i]? = some σ) :
    PInv T tl G (S.set i ⟨recvO 5 σ.o m.2.1 m.2.2, σ.vs, σ.V ++ recvM 5 m.2.1 σ.vs m.2.2⟩) L up dn ∧ σ.V = [] ∧ recvM 5 m.2.1 σ.vs m.2.2 = [(12, 5 :: σ.vs)] := by
  have h1 := h.loc i σ hi
  rw [wOf_cons, if_pos hm] at h1
  have hv := h.vk _ (List.mem_of_getElem? hi)
  obtain ⟨h2, h3, h4⟩ := h1.down hv
  refine ⟨h.upd hi (fun m' hm' => .inl hm') (fun m' hm' => .inl (List.mem_cons_of_mem _ hm')) hv (by simpa using h2) fun j hj => ⟨rfl, rfl, rfl, ?_⟩, (List.append_eq_nil_iff.1 h3).2, h4⟩
  rw [wOf_cons, if_neg (fun e => hj (by omega))]

theorem PInv.congr {T T' : Nat → Int} {tl : Int} {G G' : Nat → Bool} {S : List SpS} {L : Lm} {up dn : List Wrd} (h : PInv T tl G S L up dn) (hT : ∀ i, i < S.length → T' i = T i ∧ G' i = G i) : PInv T' tl G' S L up dn :=
  ⟨h.len, h.key, h.um, h.dm, h.vk, fun i σ hi => by obtain ⟨h1, h2⟩ := hT i (List.getElem?_eq_some_iff.1 hi).1; rw [h1, h2]; exact h.loc i σ hi⟩
theorem PInv.rest {t tl : Int} {g : Bool} {S : List SpS} {L : Lm} (h : PInv (fun _ => t) tl (fun _ => g) S L [] []) (hV : ∀ σ ∈ S, σ.V = []) : PInv (fun _ => t) t (fun _ => g) S L [] [] :=
  ⟨h.len, h.key, h.um, h.dm, h.vk, fun i σ hi => by
    have h1 := h.loc i σ hi
    rw [hV σ (List.mem_of_getElem? hi)] at h1 ⊢
    exact h1.rest⟩
/-- who has ticked already -/
def tkT (j : Nat) (t t' : Int) (i : Nat) : Int := if i < j then t' else t
def tkG (j : Nat) (g g' : Bool) (i : Nat) : Bool := if i < j then g' else g
def tkN (now t t' : Int) (g g' : Bool) : Prop := (Int.tmod now 4 = 0 ∧ t' = now ∧ g' = true) ∨ (Int.tmod now 4 ≠ 0 ∧ t' = t ∧ g' = g)
theorem PInv.tickS {t t' tl now : Int} {g g' : Bool} {j : Nat} {S : List SpS} {L : Lm} {σ : SpS} (h : PInv (tkT j t t') tl (tkG j g g') S L [] []) (hj : S[j]? = some σ) (hn : ∀ m ∈ σ.V, m.1 = 12) (ht : timB now = true) (h4 : tkN now t t' g g') :
    PInv (tkT (j + 1) t t') tl (tkG (j + 1) g g') (S.set j ⟨σ.o, σ.vs, σ.V ++ tickV 5 σ.o σ.vs now⟩) L [] [] := by
  have h1 := h.loc j σ hj
  have hv := h.vk _ (List.mem_of_getElem? hj)
  refine h.upd hj (fun m hm => .inl hm) (fun m hm => .inl hm) hv ?_ fun i hi => ⟨?_, ?_, rfl, rfl⟩
  · have e1 : tkT (j + 1) t t' j = t' := if_pos (by omega)
    have e2 : tkG (j + 1) g g' j = g' := if_pos (by omega)
    have e3 : tkT j t t' j = t := if_neg (by omega)
    have e4 : tkG j g g' j = g := if_neg (by omega)
    rw [e1, e2]
    rw [e3, e4] at h1
    simp only [wOf_nil, List.nil_append] at h1 ⊢
    rcases h4 with ⟨h5, rfl, rfl⟩ | ⟨h5, rfl, rfl⟩
    · exact h1.tick4 hn hv ht h5
    · rw [tickV_no h5, List.append_nil]; exact h1
  · unfold tkT; by_cases e : i < j
    · rw [if_pos e, if_pos (by omega)]
    · rw [if_neg e, if_neg (by omega)]
  · unfold tkG; by_cases e : i < j
    · rw [if_pos e, if_pos (by omega)]
    · rw [if_neg e, if_neg (by omega)]
theorem PInv.tick0 {t t' tl : Int} {g g' : Bool} {S : List SpS} {L : Lm} (h : PInv (fun _ => t) tl (fun _ => g) S L [] []) : PInv (tkT 0 t t') tl (tkG 0 g g') S L [] [] := h.congr fun i _ => ⟨if_neg (Nat.not_lt_zero i), if_neg (Nat.not_lt_zero i)⟩
theorem PInv.tickE {t t' tl : Int} {g g' : Bool} {j : Nat} {S : List SpS} {L : Lm} (h : PInv (tkT j t t') tl (tkG j g g') S L [] []) (hj : S.length ≤ j) : PInv (fun _ => t') tl (fun _ => g') S L [] [] := h.congr fun i hi => ⟨(if_pos (by omega)).symm, (if_pos (by omega)).symm⟩
theorem PInv.lst {T : Nat → Int} {tl now : Int} {G : Nat → Bool} {S : List SpS} {L : Lm} {up dn : List Wrd} (h : PInv T tl G S L up dn) (hT : now - tl ≤ 12) : tickR L now = L ∧ goneR L now = [] := by
  have hg : goneL L now = [] := by
    unfold goneL
    rw [List.filter_eq_nil_iff]
    intro k hk
    obtain ⟨o, ho, _⟩ := one_in hk
    have hv : vwK L k = some (o.boot, o.heard, o.vs) := by unfold vwK; rw [ho]; rfl
    obtain ⟨i, hil, rfl⟩ := h.key k (by rw [hv]; rfl)
    have h1 := h.loc i _ (List.getElem?_eq_getElem hil)
    rw [hv] at h1
    have h2 : tl ≤ o.heard := by
      cases h1 with
      | n0 _ _ _ _ hs => cases hs
      | n1 _ _ _ hs => cases hs
      | n2 _ _ _ h x hs _ htl => simp at hs; rw [hs.2.1]; exact htl
      | op _ _ h x hs htl _ _ _ => simp at hs; rw [hs.2.1]; exact htl
    unfold goneB oneOf
    rw [ho]
    simp
    omega
  have h2 : tickL L now = L := by
    unfold tickL tickK
    rw [List.take_of_length_le (by rw [sesL_len]; exact Nat.le_refl _)]
    have : (sesL L).filter (goneB L now) = [] := hg
    rw [this]; rfl
  exact ⟨by unfold tickR; split <;> first | exact h2 | rfl, by unfold goneR; split <;> first | exact hg | rfl⟩
theorem PInv.all {T : Nat → Int} {tl : Int} {S : List SpS} {L : Lm} (h : PInv T tl (fun _ => true) S L [] []) (hV : ∀ σ ∈ S, σ.V = []) {i : Nat} {σ : SpS} (hi : S[i]? = some σ) : σ.o = true ∧ ∃ q, vwK L (32 + (i : Int)) = some (5, q, σ.vs) := by
  have h1 := h.loc i σ hi
  rw [hV σ (List.mem_of_getElem? hi)] at h1
  cases h1 with
  | n0 hg _ _ _ _ => cases hg
  | n1 _ hX _ _ => cases hX
  | n2 _ _ hD _ _ _ _ _ => cases hD
  | op ho hD q x hs _ _ he _ => exact ⟨ho, q, by rw [hs, (he rfl).1]⟩
theorem PInv.count {T : Nat → Int} {tl : Int} {S : List SpS} {L : Lm} (h : PInv T tl (fun _ => true) S L [] []) (hV : ∀ σ ∈ S, σ.V = []) (hn : (L.map (·.1)).Nodup) : (sesL L).length = S.length := by
  rw [sesL_len]
  have h1 : L.length ≤ S.length := by
    have := nodup_sub_len (l := L.map (·.1)) (m := (List.range S.length).map fun (i : Nat) => 32 + (i : Int)) hn (fun k hk => by
      obtain ⟨p, hp, rfl⟩ := List.mem_map.1 hk
      obtain ⟨i, hi, e⟩ := h.key p.1 (by unfold vwK; rw [al_mem_look (k := p.1) (v := p.2) hn hp]; rfl)
      exact List.mem_map.2 ⟨i, List.mem_range.2 hi, e.symm⟩)
    simpa using this
  have h2 : S.length ≤ L.length := by
    have := nodup_sub_len (l := (List.range S.length).map fun (i : Nat) => 32 + (i : Int)) (m := L.map (·.1)) (by
      rw [List.Nodup, List.pairwise_map]
      exact List.nodup_range.imp fun hab e => hab (by omega)) (fun k hk => by
      obtain ⟨i, hi, rfl⟩ := List.mem_map.1 hk
      obtain ⟨_, q, hq⟩ := h.all hV (List.getElem?_eq_getElem (List.mem_range.1 hi))
      unfold vwK at hq
      cases e : lookL L (32 + (i : Int)) with
      | none => rw [e] at hq; cases hq
      | some o => exact List.mem_map.2 ⟨_, al_look_mem e, rfl⟩)
    simpa using this
  omega
theorem PInv.mux {T : Nat → Int} {tl : Int} {S : List SpS} {L : Lm} (h : PInv T tl (fun _ => true) S L [] []) (hV : ∀ σ ∈ S, σ.V = []) {i : Nat} {σ : SpS} (hi : S[i]? = some σ) {v : Int} (hv : v ∈ σ.vs) : (muxesL L v).contains (32 + (i : Int)) = true := by
  obtain ⟨_, q, hq⟩ := h.all hV hi
  unfold vwK at hq
  cases e : lookL L (32 + (i : Int)) with
  | none => rw [e] at hq; cases hq
  | some o =>
    rw [e] at hq
    simp at hq
    rw [List.contains_iff_mem]
    unfold muxesL
    rw [List.mem_filter]
    refine ⟨mem_sesL.2 ⟨o, al_look_mem e⟩, ?_⟩
    unfold oneOf
    rw [e]
    simp [hq.2.2, hv]
theorem PInv.annS {T : Nat → Int} {tl : Int} {G : Nat → Bool} {S : List SpS} {L : Lm} (h : PInv T tl G S L [] []) (hV : ∀ σ ∈ S, σ.V = []) {i : Nat} {σ : SpS} (hi : S[i]? = some σ) {A : List Int} (hA : vok (annV A) ∧ (annV A).length ≤ 39) :
    PInv T tl G (S.set i ⟨σ.o, annV A, σ.V ++ annM 5 σ.o σ.vs A⟩) L [] [] := by
  have h1 := h.loc i σ hi
  have e := hV σ (List.mem_of_getElem? hi)
  refine h.upd hi (fun m hm => .inl hm) (fun m hm => .inl hm) hA ?_ fun j _ => ⟨rfl, rfl, rfl, rfl⟩
  rw [e] at h1 ⊢
  exact h1.ann hA
theorem PInv.start {t tl : Int} {S : List SpS} (hS : S.length ≤ 8) (h : ∀ σ ∈ S, σ = ⟨false, [], []⟩) : PInv (fun _ => t) tl (fun _ => false) S [] [] [] :=
  ⟨hS, fun k hk => by simp [vwK, lookL] at hk, by simp, by simp, fun σ hs => by rw [h σ hs]; exact ⟨vok_nil, by simp⟩, fun i σ hi => by rw [h σ (List.mem_of_getElem? hi)]; exact .n0 rfl rfl rfl rfl rfl⟩
/-- who announced what last -/
def lastF (A : List (List Int)) (n i : Nat) : Nat → List Int
  | 0 => []
  | k + 1 => if k % n = i then A[k]?.getD [] else lastF A n i k
theorem lastF_jump {A : List (List Int)} {n i k : Nat} {x : List Int} (hk : k % n = i) (hx : A[k]? = some x) (hn : 0 < n) : ∀ d, d < n → lastF A n i (k + 1 + d) = x
  | 0, _ => by show (if k % n = i then A[k]?.getD [] else _) = x; rw [if_pos hk, hx]; rfl
  | d + 1, hd => by
    show (if (k + 1 + d) % n = i then A[k + 1 + d]?.getD [] else lastF A n i (k + 1 + d)) = x
    rw [if_neg, lastF_jump hk hx hn d (by omega)]
    intro e
    have hdm := Nat.div_add_mod k n
    rw [hk] at hdm
    have h1 : (k + 1 + d) % n = (i + (1 + d)) % n := by rw [show k + 1 + d = i + (1 + d) + n * (k / n) from by omega, Nat.add_mul_mod_self_left]
    rw [h1] at e
    have hi : i < n := by rw [← hk]; exact Nat.mod_lt _ hn
    by_cases q : i + (1 + d) < n
    · rw [Nat.mod_eq_of_lt q] at e; omega
    · rw [Nat.mod_eq_sub_mod (by omega), Nat.mod_eq_of_lt (by omega)] at e; omega
theorem lastF_none {A : List (List Int)} {n i : Nat} (hn : 0 < n) (hi : i < n) : ∀ k, k ≤ i → lastF A n i k = []
  | 0, _ => rfl
  | k + 1, hk => by
    show (if k % n = i then _ else lastF A n i k) = []
    rw [if_neg (by rw [Nat.mod_eq_of_lt (by omega)]; omega), lastF_none hn hi k (by omega)]
theorem lastF_past {A : List (List Int)} {n i : Nat} {k : Nat} (hk : A.length ≤ k) (h : k % n = i) (hn : 0 < n) : ∀ d, d < n → k = A.length + d → lastF A n i A.length = lastF A n i k
  | 0, _, e => by rw [show k = A.length from by omega]
  | d + 1, hd, e => by
    have key : ∀ q, q ≤ d + 1 → lastF A n i (A.length + q) = lastF A n i A.length := by
      intro q
      induction q with
      | zero => intro _; rfl
      | succ q ih =>
        intro hq
        show (if (A.length + q) % n = i then _ else lastF A n i (A.length + q)) = _
        rw [if_neg, ih (by omega)]
        intro e2
        have h1 : (A.length + (d + 1)) % n = (A.length + q) % n := by rw [e2, ← h, e]
        have h2 : (A.length + q + (d + 1 - q)) % n = (A.length + q) % n := by rw [← h1]; congr 1; omega
        have h3 := Nat.sub_mod_eq_zero_of_mod_eq h2
        rw [Nat.add_sub_cancel_left, Nat.mod_eq_of_lt (by omega)] at h3
        omega
    rw [e, key (d + 1) (Nat.le_refl _)]
/-! ### words under way -/
structure Wd where
  mux : Int
  kind : Int
  a : Option Addr
  c : Nat
  nums : List Int
def cellsW (m : Wd) : List Value := [.int .i64 m.mux, .int .i64 m.kind, .slice m.a m.nums.length m.c, .slice none 0 0]
theorem cellsW_len (m : Wd) : (cellsW m).length = 4 := rfl
theorem cellsW_one (m : Wd) : (cellsW m).all Value.oneCell' = true := rfl
def wdV (m : Wd) : Wrd := (m.mux, m.kind, m.nums)
def wsIn (w : World) (R : List Nat) (ms : List Wd) : Prop := (∀ m ∈ ms, Rd w 1 (Go.Tw.encI .i64) m.a m.nums ∧ (m.nums.length ≤ 64 ∧ m.nums.length ≤ m.c) ∧ ∀ b off, m.a = some ⟨b, off, none⟩ → b ∈ R) ∧ ∀ x ∈ R, x < w.heap.size
theorem wsIn.fr {w w' : World} {R G : List Nat} {ms : List Wd} (h : wsIn w R ms) (hf : Fr w w' G) (hd : ∀ x ∈ R, x ∉ G) : wsIn w' R ms :=
  ⟨fun m hm => ⟨(h.1 m hm).1.frN hf fun b off e => hd b ((h.1 m hm).2.2 b off e), (h.1 m hm).2⟩, fun x hx => Nat.lt_of_lt_of_le (h.2 x hx) hf.size⟩
theorem wsIn.mono {w : World} {R S : List Nat} {ms : List Wd} (h : wsIn w R ms) (hs : ∀ x ∈ R, x ∈ S) (hb : ∀ x ∈ S, x < w.heap.size) : wsIn w S ms := ⟨fun m hm => ⟨(h.1 m hm).1, (h.1 m hm).2.1, fun b off e => hs b ((h.1 m hm).2.2 b off e)⟩, hb⟩
theorem wsIn.sub {w : World} {R : List Nat} {ms ns : List Wd} (h : wsIn w R ms) (hs : ∀ m ∈ ns, m ∈ ms) : wsIn w R ns := ⟨fun m hm => h.1 m (hs m hm), h.2⟩
theorem wsIn.snoc {w : World} {R : List Nat} {ms : List Wd} {m : Wd} (h : wsIn w R ms) (h1 : Rd w 1 (Go.Tw.encI .i64) m.a m.nums) (h2 : m.nums.length ≤ 64) (h3 : m.nums.length ≤ m.c) (h4 : ∀ b off, m.a = some ⟨b, off, none⟩ → b ∈ R) : wsIn w R (ms ++ [m]) := by
  refine ⟨fun q hq => ?_, h.2⟩
  rcases List.mem_append.1 hq with hq | hq
  · exact h.1 q hq
  · simp at hq; subst hq; exact ⟨h1, ⟨h2, h3⟩, h4⟩
/-- a queue: a slice at whatever place of its block, with its words, and room behind them -/
structure qAt (w : World) (B : List Nat) (A : Option Addr) (n c : Nat) (ms : List Wd) : Prop where
  len : ms.length = n
  le : n ≤ c
  rd : Rd w 4 cellsW A ms
  lt : ∀ x ∈ B, x < w.heap.size
  room : c = 0 ∨ ∃ b off, A = some ⟨b, off, none⟩ ∧ b ∈ B ∧ ∀ j, j < c * 4 → (w.cell? ⟨b, off + j, none⟩).isSome = true ∧ w.frozen? ⟨b, off + j, none⟩ = false
theorem qAt_nil (w : World) : qAt w [] none 0 0 [] := ⟨rfl, Nat.le_refl _, Rd.nil _ _ _ _, by simp, .inl rfl⟩
theorem qAt.fr {w w' : World} {B G : List Nat} {A : Option Addr} {n c : Nat} {ms : List Wd} (h : qAt w B A n c ms) (hf : Fr w w' G) (hd : ∀ x ∈ B, x ∉ G) : qAt w' B A n c ms := by
  rcases h.room with hc | ⟨b, off, hA, hb, hr⟩
  · have h0 : ms = [] := List.eq_nil_of_length_eq_zero (by have := h.len; have := h.le; omega)
    subst h0
    exact ⟨h.len, h.le, Rd.nil _ _ _ _, fun x hx => Nat.lt_of_lt_of_le (h.lt x hx) hf.size, .inl hc⟩
  · have he : w'.heap[b]? = w.heap[b]? := hf.block b (h.lt b hb) (hd b hb)
    refine ⟨h.len, h.le, h.rd.frN hf fun b' off' e => ?_, fun x hx => Nat.lt_of_lt_of_le (h.lt x hx) hf.size, .inr ⟨b, off, hA, hb, fun j hj => ?_⟩⟩
    · rw [hA] at e; cases e; exact hd b hb
    · have h1 := hr j hj
      rw [World.cell?_of_block (w := w) (w' := w') (a := ⟨b, off + j, none⟩) he, World.frozen?_of_block (w := w) (w' := w') (a := ⟨b, off + j, none⟩) he]
      exact h1
theorem qAt.pop {w : World} {B : List Nat} {A : Option Addr} {n c : Nat} {m : Wd} {ms : List Wd} (h : qAt w B A n c (m :: ms)) : qAt w B (slcAt A 1 c 4) (n - 1) (c - 1) ms := by
  have hl := h.len
  rw [List.length_cons] at hl
  have hle := h.le
  refine ⟨by omega, by omega, ?_, h.lt, ?_⟩
  · have := Rd.slc h.rd 1 n c hle rfl
    rw [List.take_of_length_le (by rw [List.length_cons]; omega)] at this
    simpa using this
  · by_cases e : c = 1
    · left; omega
    · right
      rcases h.room with hc | ⟨b, off, hA, hb, hr⟩
      · omega
      · refine ⟨b, off + 4, ?_, hb, fun j hj => ?_⟩
        · subst hA; unfold slcAt; rw [if_neg e]; simp [Addr.add]
        · have := hr (4 + j) (by omega)
          rw [← Nat.add_assoc] at this; exact this
theorem setCells_size (b : Nat) : ∀ (vs : List Value) (o : Nat) (w : World), (w.setCells b o vs).heap.size = w.heap.size
  | [], _, _ => rfl
  | v :: r, o, w => by rw [World.setCells, setCells_size b r]; simp [World.setCell]
theorem setCells_tape (b : Nat) : ∀ (vs : List Value) (o : Nat) (w : World), (w.setCells b o vs).tape = w.tape
  | [], _, _ => rfl
  | v :: r, o, w => by rw [World.setCells, setCells_tape b r]; rfl
theorem fr_setCells {P : Program} {α : Type} {m : Sem α} {x : α} {w : World} {b o : Nat} {vs : List Value} (hr : m.run P w = .ok x (w.setCells b o vs)) : Fr w (w.setCells b o vs) [b] := by
  have hk := World.keptBut_setCells b (may := fun p => p.block = b) vs o w (fun _ _ => rfl)
  exact ⟨World.os_setCells w b o vs, setCells_tape b vs o w, World.output_setCells w b o vs, Nat.le_of_eq (setCells_size b vs o w).symm, fun k hk hn => World.heap_setCells_other w b o vs hk (by simpa using hn), fun _ => run_drawn _ _ _ _ hr⟩
theorem qAt.app {P : Program} {w : World} {B : List Nat} {A : Option Addr} {n c : Nat} {ms : List Wd} (h : qAt w B A n c ms) (t ty e bytes : Nat) (m : Wd) {g c1 : Nat} {T : TypeId} {fz : Nat × Nat} (hty : rowTy P t e 4 bytes = true) (hg : w.heap[g]? = some (.cells (cellsW m).toArray T fz)) (h63 : n + 1 ≤ 1048576) (hb : bytes ≤ 1048576) :
    ∃ A' c' B' w', (Builtin.append_ #[t, t] ty #[.slice A n c, .slice (some ⟨g, 0, none⟩) 1 c1]).run P w = .ok (.slice A' (n + 1) c') w' ∧ qAt w' B' A' (n + 1) c' (ms ++ [m]) ∧ Fr w w' B ∧ ∀ x ∈ B', x ∈ B ∨ w.heap.size ≤ x := by
  obtain ⟨hu, inf, z, hi, hz, hs, hbt, hzs, hpos⟩ := rowTy_spec hty
  have hnews : ∀ j u, (cellsW m)[j]? = some u → w.cell? ((⟨g, 0, none⟩ : Addr).add j) = some u := news_blk hg
  have hsrc : Src P inf.size t (.slice (some ⟨g, 0, none⟩) 1 c1) 1 (cellsW m) w := Src.ofSlice w hu _ 1 c1 _ (by rw [hs]; rfl) hnews (fun u hu => by simpa using (List.all_eq_true.1 (cellsW_one m)) u hu)
  have hl := h.len
  by_cases hroom : n + 1 ≤ c
  · rcases h.room with hc | ⟨b, off, hA, hbB, hr⟩
    · omega
    · subst hA
      have hcell : ∀ j, j < (cellsW m).length → (w.cell? ⟨b, off + n * 4 + j, none⟩).isSome = true := fun j hj => by
        have hj4 : j < 4 := hj
        have := (hr (n * 4 + j) (by omega)).1
        rw [← Nat.add_assoc] at this; exact this
      have hfz : ∀ j, j < (cellsW m).length → w.frozen? ⟨b, off + n * 4 + j, none⟩ = false := fun j hj => by
        have hj4 : j < 4 := hj
        have := (hr (n * 4 + j) (by omega)).2
        rw [← Nat.add_assoc] at this; exact this
      have hrun := run_append_room_src (P := P) w t t ty e inf hu hi b off n c _ 1 (cellsW m) hsrc hroom (by rw [hs]; exact hcell) (by rw [hs]; exact hfz)
      rw [hs] at hrun
      have hF := fr_setCells hrun
      refine ⟨_, _, B, _, hrun, ⟨by simp [hl], hroom, ⟨fun i x hx => ⟨b, off, rfl, fun j u hu => ?_⟩⟩, fun x hx => Nat.lt_of_lt_of_le (h.lt x hx) hF.size, .inr ⟨b, off, rfl, hbB, fun j hj => ?_⟩⟩, hF.mono (fun x hx => by simp at hx; subst hx; exact hbB), fun x hx => .inl hx⟩
      · have hj4 : j < 4 := by have := (List.getElem?_eq_some_iff.1 hu).1; rwa [cellsW_len] at this
        by_cases e : i = n
        · subst e
          rw [List.getElem?_append_right (by omega), hl, Nat.sub_self] at hx
          simp at hx; subst hx
          rw [World.cell?_setCells_in b _ _ w hcell j (by rw [cellsW_len]; exact hj4)]
          rw [← hu]; exact (List.getElem?_eq_getElem _).symm
        · have hin : i < n := by
            have := (List.getElem?_eq_some_iff.1 hx).1
            rw [List.length_append] at this; simp at this; omega
          rw [List.getElem?_append_left (by omega)] at hx
          obtain ⟨b2, off2, h1, h2⟩ := h.rd.at_ i x hx
          cases h1
          rw [World.cell?_setCells_out b _ _ w _ (fun _ _ => .inl (by show off + i * 4 + j < off + n * 4; omega))]
          exact h2 j u hu
      · obtain ⟨h1, h2⟩ := hr j hj
        exact ⟨World.isSome_setCells b _ _ w _ h1, by rw [World.frozen?_setCells]; exact h2⟩
  · have hnc : n = c := by have := h.le; omega
    have hold : (Builtin.firstCells inf.size n (.slice A n c)).run P w.drew = .ok (ms.flatMap cellsW).toArray w.drew := by
      rcases h.room with hc | ⟨b, off, hA, _, _⟩
      · have h0 : ms = [] := List.eq_nil_of_length_eq_zero (by omega)
        subst h0
        have hn0 : n = 0 := by omega
        subst hn0
        cases A with
        | none => exact run_firstCells_none w.drew _ _ _ _
        | some a => exact run_firstCells_some w.drew inf.size 0 a 0 c [] (by simp) (by simp)
      · subst hA
        refine run_firstCells_some w.drew inf.size n _ n c _ (by rw [hs]; simpa [hl] using flat_len cellsW_len ms) fun j v hv => ?_
        have hrd := h.rd.fr (Fr.drew w)
        have hs2 := hrd.src_all cellsW_len (by decide)
        rcases hs2 with ⟨ad, had, h2⟩ | ⟨h0, _, _⟩
        · cases had; exact h2 j v hv
        · cases h0
    have hrun := run_append_grow_src (P := P) w t t ty e inf z hu hi hz A n c (ms.flatMap cellsW) hold _ 1 (cellsW m) hsrc (by omega) (by omega) (growslice_fits (by omega) (by rw [hbt]; exact Nat.le_trans (Nat.mul_le_mul h63 hb) (by decide)))
    have hge := grownCap_ge w (n + 1) c e
    have hF : Fr w (w.drew.alloc (.cells ((ms.flatMap cellsW ++ cellsW m).toArray ++ Builtin.zeroCells z.cells (grownCap w (n + 1) c e - (n + 1))) e)) [] := (Fr.drew w).trans (Fr.alloc _ _) (by simp)
    refine ⟨_, _, [w.heap.size], _, hrun, ?_, hF.mono (by simp), fun x hx => .inr (by simp at hx; omega)⟩
    have hcells : ((ms.flatMap cellsW ++ cellsW m).toArray).size = (n + 1) * 4 := by
      have := flat_len cellsW_len (ms ++ [m])
      rw [List.flatMap_append] at this
      simp [hl] at this ⊢
      omega
    have hz4 : z.cells.size = 4 := hzs
    have hsz : ((ms.flatMap cellsW ++ cellsW m).toArray ++ Builtin.zeroCells z.cells (grownCap w (n + 1) c e - (n + 1))).size = grownCap w (n + 1) c e * 4 := by
      rw [Array.size_append, hcells, size_zeroCells, hz4, ← Nat.add_mul]; congr 1; omega
    have hblk : (w.drew.alloc (.cells ((ms.flatMap cellsW ++ cellsW m).toArray ++ Builtin.zeroCells z.cells (grownCap w (n + 1) c e - (n + 1))) e)).heap[w.heap.size]? = some (.cells ((ms.flatMap cellsW ++ cellsW m).toArray ++ Builtin.zeroCells z.cells (grownCap w (n + 1) c e - (n + 1))) e (0, 0)) := by
      show (w.heap.push _)[w.heap.size]? = _
      exact Array.getElem?_push_size
    refine ⟨by simp [hl], hge, ⟨fun i x hx => ⟨w.heap.size, 0, rfl, fun j u hu => ?_⟩⟩, fun x hx => by simp at hx; subst hx; exact lt_of_heap hblk, .inr ⟨w.heap.size, 0, rfl, by simp, fun j hj => ?_⟩⟩
    · have h1 : ((ms ++ [m]).flatMap cellsW)[i * 4 + j]? = some u := flat_get cellsW_len _ i x hx j u hu
      rw [List.flatMap_append] at h1
      simp only [List.flatMap_cons, List.flatMap_nil, List.append_nil] at h1
      have hlt := (List.getElem?_eq_some_iff.1 h1).1
      rw [Nat.zero_add]
      simp only [World.cell?, hblk]
      rw [Array.getElem?_append_left (by simpa using hlt)]
      simpa using h1
    · rw [Nat.zero_add]
      simp only [World.cell?, World.frozen?, hblk]
      constructor
      · rw [Array.getElem?_eq_getElem (by rw [hsz]; exact hj)]; rfl
      · simp

/-! ### the speakers, one beside the other -/
def spsAt (w : World) : List Nat → List Nat → List SpS → Prop
  | F, [], [] => F = []
  | F, p :: ps, σ :: S => ∃ F1 F2, F = F1 ++ F2 ∧ spAt 78 w F1 p 5 σ.o σ.vs σ.V ∧ spsAt w F2 ps S ∧ ∀ x ∈ F1, x ∉ F2
  | _, _, _ => False
theorem spsAt_lt {w : World} : ∀ {F ps S}, spsAt w F ps S → ∀ x ∈ F, x < w.heap.size
  | F, [], [], h, x, hx => by simp only [spsAt] at h; subst h; cases hx
  | F, p :: ps, σ :: S, h, x, hx => by
    obtain ⟨F1, F2, rfl, h1, h2, _⟩ := h
    exact (List.mem_append.1 hx).elim (spAt_lt h1 x) (spsAt_lt h2 x)
  | _, [], _ :: _, h, _, _ => h.elim
  | _, _ :: _, [], h, _, _ => h.elim
theorem spsAt_fr {w w' : World} {G : List Nat} : ∀ {F ps S}, spsAt w F ps S → Fr w w' G → (∀ x ∈ F, x ∉ G) → spsAt w' F ps S
  | F, [], [], h, _, _ => h
  | F, p :: ps, σ :: S, h, hf, hd => by
    obtain ⟨F1, F2, rfl, h1, h2, h3⟩ := h
    exact ⟨F1, F2, rfl, spAt_fr h1 hf (fun x hx => hd x (List.mem_append_left _ hx)), spsAt_fr h2 hf (fun x hx => hd x (List.mem_append_right _ hx)), h3⟩
  | _, [], _ :: _, h, _, _ => h.elim
  | _, _ :: _, [], h, _, _ => h.elim
theorem spsAt_len {w : World} : ∀ {F ps S}, spsAt w F ps S → ps.length = S.length
  | F, [], [], _ => rfl
  | F, p :: ps, σ :: S, h => by obtain ⟨F1, F2, rfl, h1, h2, h3⟩ := h; rw [List.length_cons, List.length_cons, spsAt_len h2]
  | _, [], _ :: _, h => h.elim
  | _, _ :: _, [], h => h.elim
theorem spsAt_snoc {w : World} {F2 : List Nat} {p : Nat} {σ : SpS} : ∀ {F ps S}, spsAt w F ps S → spAt 78 w F2 p 5 σ.o σ.vs σ.V → (∀ x ∈ F, x ∉ F2) → spsAt w (F ++ F2) (ps ++ [p]) (S ++ [σ])
  | F, [], [], h, h1, hd => by simp only [spsAt] at h; subst h; exact ⟨F2, [], by simp, h1, rfl, by simp⟩
  | F, q :: ps, τ :: S, h, h1, hd => by
    obtain ⟨G1, G2, rfl, h2, h3, h4⟩ := h
    refine ⟨G1, G2 ++ F2, by simp, h2, spsAt_snoc h3 h1 (fun x hx => hd x (List.mem_append_right _ hx)), fun x hx hx2 => (List.mem_append.1 hx2).elim (h4 x hx) (hd x (List.mem_append_left _ hx))⟩
  | _, [], _ :: _, h, _, _ => h.elim
  | _, _ :: _, [], h, _, _ => h.elim
/-- one speaker's turn; 'R2': what it hands out -/
theorem spsAt_one {w : World} : ∀ {F ps S} {i p : Nat} {σ : SpS}, spsAt w F ps S → ps[i]? = some p → S[i]? = some σ → ∃ F1, spAt 78 w F1 p 5 σ.o σ.vs σ.V ∧ (∀ x ∈ F1, x ∈ F) ∧
    ∀ (w' : World) (F1' : List Nat) (σ' : SpS) (R2 : List Nat), Fr w w' F1 → spAt 78 w' F1' p 5 σ'.o σ'.vs σ'.V → (∀ x ∈ F1', x ∈ F1 ∨ w.heap.size ≤ x) → (∀ x ∈ R2, x ∈ F1) → (∀ x ∈ F1', x ∉ R2) → ∃ F', spsAt w' F' ps (S.set i σ') ∧ (∀ x ∈ F', (x ∈ F1' ∨ x ∈ F) ∧ (x ∈ F ∨ w.heap.size ≤ x)) ∧ ∀ x ∈ F', x ∉ R2
  | F, [], [], i, p, σ, _, hp, _ => by simp at hp
  | F, q :: ps, τ :: S, 0, p, σ, h, hp, hs => by
    obtain ⟨F1, F2, rfl, h1, h2, h3⟩ := h
    simp at hp hs; subst hp hs
    refine ⟨F1, h1, fun x hx => List.mem_append_left _ hx, fun w' F1' σ' R2 hf h4 h5 h6 h7 => ⟨F1' ++ F2, ⟨F1', F2, rfl, h4, spsAt_fr h2 hf (fun x hx hx1 => h3 x hx1 hx), fun x hx hx2 => (h5 x hx).elim (fun q => h3 x q hx2) (fun q => absurd (spsAt_lt h2 x hx2) (Nat.not_lt.2 q))⟩, fun x hx => ?_, fun x hx hx2 => ?_⟩⟩
    · rcases List.mem_append.1 hx with hx | hx
      · exact ⟨.inl hx, (h5 x hx).imp (List.mem_append_left _) id⟩
      · exact ⟨.inr (List.mem_append_right _ hx), .inl (List.mem_append_right _ hx)⟩
    · exact (List.mem_append.1 hx).elim (fun q => h7 x q hx2) (fun q => h3 x (h6 x hx2) q)
  | F, q :: ps, τ :: S, i + 1, p, σ, h, hp, hs => by
    obtain ⟨F1, F2, rfl, h1, h2, h3⟩ := h
    simp at hp hs
    obtain ⟨G1, g1, g2, g3⟩ := spsAt_one h2 hp hs
    refine ⟨G1, g1, fun x hx => List.mem_append_right _ (g2 x hx), fun w' F1' σ' R2 hf h4 h5 h6 h7 => ?_⟩
    obtain ⟨F', k1, k2, k3⟩ := g3 w' F1' σ' R2 hf h4 h5 h6 h7
    refine ⟨F1 ++ F', ⟨F1, F', rfl, spAt_fr h1 hf (fun x hx hx2 => h3 x hx (g2 x hx2)), k1, fun x hx hx2 => ((k2 x hx2).2).elim (h3 x hx) (fun q => absurd (spAt_lt h1 x hx) (Nat.not_lt.2 q))⟩, fun x hx => ?_, fun x hx hx2 => ?_⟩
    · rcases List.mem_append.1 hx with hx | hx
      · exact ⟨.inr (List.mem_append_left _ hx), .inl (List.mem_append_left _ hx)⟩
      · exact ⟨(k2 x hx).1.imp id (List.mem_append_right _), (k2 x hx).2.imp (List.mem_append_right _) id⟩
    · exact (List.mem_append.1 hx).elim (fun q => h3 x q (g2 x (h6 x hx2))) (fun q => k3 x q hx2)
  | _, [], _ :: _, _, _, _, h, _, _ => h.elim
  | _, _ :: _, [], _, _, _, h, _, _ => h.elim
/-- the last footprint goes into another one -/
theorem Cx.mergeL {w0 w : World} {F0 : List Nat} {M : List (Nat × Obj)} {Fs : List (List Nat)} {G R : List Nat} (h : Cx w0 F0 w M (Fs ++ [G])) (j : Nat) (hj : Fs[j]? = some R) : Cx w0 F0 w M (Fs.set j (R ++ G)) := by
  have hjl := (List.getElem?_eq_some_iff.1 hj).1
  have hj2 : (Fs ++ [G])[j]? = some R := by rw [List.getElem?_append_left hjl]; exact hj
  have hG : (Fs ++ [G])[Fs.length]? = some G := by simp
  have old : ∀ k A, Fs[k]? = some A → (Fs ++ [G])[k]? = some A := fun k A hk => by rw [List.getElem?_append_left (List.getElem?_eq_some_iff.1 hk).1]; exact hk
  have mem : ∀ A ∈ Fs.set j (R ++ G), (A = R ++ G) ∨ ∃ k, k ≠ j ∧ Fs[k]? = some A := fun A hA => by
    obtain ⟨k, hk⟩ := List.mem_iff_getElem?.1 hA
    by_cases e : k = j
    · subst e; rw [List.getElem?_set_self hjl] at hk; cases hk; exact .inl rfl
    · rw [List.getElem?_set_ne (Ne.symm e)] at hk; exact .inr ⟨k, e, hk⟩
  refine ⟨h.fr, h.has, h.nodup, ?_, fun A hA p hp hx => ?_, fun A hA x hx => ?_, h.ownM, fun A hA x hx => ?_⟩
  · rw [List.pairwise_iff_getElem]
    intro a b ha hb hab x hx hx2
    have ha' : a < Fs.length := by simpa using ha
    have hb' : b < Fs.length := by simpa using hb
    have ga : (Fs ++ [G])[a]? = some Fs[a] := old a _ (List.getElem?_eq_getElem ha')
    have gb : (Fs ++ [G])[b]? = some Fs[b] := old b _ (List.getElem?_eq_getElem hb')
    rw [List.getElem_set] at hx hx2
    split at hx
    · rename_i e; subst e
      rw [if_neg (by omega)] at hx2
      rcases List.mem_append.1 hx with hx | hx
      · exact h.disj j b hj2 gb (by omega) x hx hx2
      · exact h.disj Fs.length b hG gb (by omega) x hx hx2
    · split at hx2
      · rename_i e; subst e
        rcases List.mem_append.1 hx2 with hx2 | hx2
        · exact h.disj a j ga hj2 (by omega) x hx hx2
        · exact h.disj a Fs.length ga hG (by omega) x hx hx2
      · exact h.disj a b ga gb (by omega) x hx hx2
  · rcases mem A hA with rfl | ⟨k, _, hk⟩
    · exact (List.mem_append.1 hx).elim (h.apart R (List.mem_of_getElem? hj2) p hp) (h.apart G (List.mem_of_getElem? hG) p hp)
    · exact h.apart A (List.mem_of_getElem? (old k A hk)) p hp hx
  · rcases mem A hA with rfl | ⟨k, _, hk⟩
    · exact (List.mem_append.1 hx).elim (h.bound R (List.mem_of_getElem? hj2) x) (h.bound G (List.mem_of_getElem? hG) x)
    · exact h.bound A (List.mem_of_getElem? (old k A hk)) x hx
  · rcases mem A hA with rfl | ⟨k, _, hk⟩
    · exact (List.mem_append.1 hx).elim (h.ownF R (List.mem_of_getElem? hj2) x) (h.ownF G (List.mem_of_getElem? hG) x)
    · exact h.ownF A (List.mem_of_getElem? (old k A hk)) x hx
/-! ### what a round of carrying keeps -/
structure LpA (T : Nat → Int) (tl : Int) (G : Nat → Bool) (S : List SpS) (L : Lm) (c : Prop) (i : Nat) (S5 : List SpS) (ms : List Wd) : Prop where
  inv : PInv T tl G S5 L (ms.map wdV) []
  done : ∀ k σ, k < i → S5[k]? = some σ → σ.V = []
  todo : ∀ k, i ≤ k → S5[k]? = S[k]?
  vs : S5.map (·.vs) = S.map (·.vs)
  len : ms.length ≤ 2 * i
  knd : c → ∀ m ∈ ms, m.kind = 12
structure LpB (T : Nat → Int) (tl : Int) (G : Nat → Bool) (L : Lm) (c : Prop) (i : Nat) (σ : SpS) (S5 : List SpS) (j : Nat) (ms : List Wd) : Prop where
  inv : PInv T tl G (S5.set i ⟨σ.o, σ.vs, σ.V.drop j⟩) L (ms.map wdV) []
  len : ms.length ≤ 2 * i + j
  knd : c → ∀ m ∈ ms, m.kind = 12
theorem LpA.start {T : Nat → Int} {tl : Int} {G : Nat → Bool} {S : List SpS} {L : Lm} {c : Prop} (h : PInv T tl G S L [] []) : LpA T tl G S L c 0 S [] :=
  ⟨h, fun k σ hk => absurd hk (Nat.not_lt_zero _), fun _ _ => rfl, rfl, Nat.le_refl _, by simp⟩
theorem LpA.toB {T : Nat → Int} {tl : Int} {G : Nat → Bool} {S : List SpS} {L : Lm} {c : Prop} {i : Nat} {S5 : List SpS} {ms : List Wd} (h : LpA T tl G S L c i S5 ms) {σ : SpS} (hi : S5[i]? = some σ) : LpB T tl G L c i σ S5 0 ms := by
  have e : S5.set i ⟨σ.o, σ.vs, σ.V.drop 0⟩ = S5 := by
    obtain ⟨hl, rfl⟩ := List.getElem?_eq_some_iff.1 hi
    exact List.set_getElem_self hl
  exact ⟨by rw [e]; exact h.inv, by have := h.len; omega, h.knd⟩
theorem LpB.step {T : Nat → Int} {tl : Int} {G : Nat → Bool} {L : Lm} {c : Prop} {i : Nat} {σ : SpS} {S5 : List SpS} {j : Nat} {ms : List Wd} (h : LpB T tl G L c i σ S5 j ms) (hil : i < S5.length) {m : Wd} (hm : m.mux = (i : Int)) (hj : σ.V[j]? = some (m.kind, m.nums)) (hk : c → m.kind = 12) : LpB T tl G L c i σ S5 (j + 1) (ms ++ [m]) := by
  obtain ⟨hjl, he⟩ := List.getElem?_eq_some_iff.1 hj
  have hd : σ.V.drop j = (m.kind, m.nums) :: σ.V.drop (j + 1) := by rw [← he]; exact List.drop_eq_getElem_cons hjl
  have h1 := h.inv
  rw [hd] at h1
  have h2 := h1.mvUp (i := i) (List.getElem?_set_self hil)
  rw [List.set_set] at h2
  refine ⟨?_, by rw [List.length_append]; have := h.len; simp; omega, fun hc m' hm' => ?_⟩
  · rw [List.map_append]
    have e : [m].map wdV = [((i : Int), (m.kind, m.nums))] := by simp [wdV, hm]
    rw [e]; exact h2
  · rcases List.mem_append.1 hm' with hm' | hm'
    · exact h.knd hc m' hm'
    · rw [List.mem_singleton] at hm'; subst hm'; exact hk hc
theorem LpB.toA {T : Nat → Int} {tl : Int} {G : Nat → Bool} {S : List SpS} {L : Lm} {c : Prop} {i : Nat} {σ : SpS} {S5 : List SpS} {j : Nat} {ms ms0 : List Wd} (h : LpB T tl G L c i σ S5 j ms) (h0 : LpA T tl G S L c i S5 ms0) (hi : S5[i]? = some σ) (hj : σ.V.length ≤ j) (h2 : j ≤ 2) : LpA T tl G S L c (i + 1) (S5.set i ⟨σ.o, σ.vs, []⟩) ms := by
  have h1 := h.inv
  rw [List.drop_eq_nil_of_le hj] at h1
  have hil := (List.getElem?_eq_some_iff.1 hi).1
  refine ⟨h1, fun k τ hk ht => ?_, fun k hk => ?_, ?_, by have := h.len; omega, h.knd⟩
  · by_cases e : k = i
    · subst e; rw [List.getElem?_set_self hil] at ht; cases ht; rfl
    · rw [List.getElem?_set_ne (Ne.symm e)] at ht; exact h0.done k τ (by omega) ht
  · rw [List.getElem?_set_ne (by omega)]; exact h0.todo k (by omega)
  · rw [← h0.vs]
    apply List.ext_getElem?
    intro k
    rw [List.getElem?_map, List.getElem?_map]
    by_cases e : k = i
    · subst e; rw [List.getElem?_set_self hil, hi]; rfl
    · rw [List.getElem?_set_ne (Ne.symm e)]
theorem LpA.allV {T : Nat → Int} {tl : Int} {G : Nat → Bool} {S : List SpS} {L : Lm} {c : Prop} {i : Nat} {S5 : List SpS} {ms : List Wd} (h : LpA T tl G S L c i S5 ms) (hi : S5.length ≤ i) : ∀ σ ∈ S5, σ.V = [] := fun σ hs => by
  obtain ⟨k, hk⟩ := List.mem_iff_getElem?.1 hs
  exact h.done k σ (by have := (List.getElem?_eq_some_iff.1 hk).1; omega) hk
structure LpC (T : Nat → Int) (tl : Int) (G : Nat → Bool) (S : List SpS) (c : Prop) (k : Nat) (L : Lm) (ms md : List Wd) : Prop where
  inv : PInv T tl G S L (ms.map wdV) (md.map wdV)
  len : ms.length + k ≤ 16
  dl : md.length ≤ k
  knd : c → md = [] ∧ ∀ m ∈ ms, m.kind = 12
theorem LpA.toC {T : Nat → Int} {tl : Int} {G : Nat → Bool} {S : List SpS} {L : Lm} {c : Prop} {i : Nat} {S5 : List SpS} {ms : List Wd} (h : LpA T tl G S L c i S5 ms) (hi : i ≤ 8) : LpC T tl G S5 c 0 L ms [] :=
  ⟨h.inv, by have := h.len; omega, Nat.le_refl _, fun hc => ⟨rfl, h.knd hc⟩⟩
theorem LpC.none {T : Nat → Int} {tl now : Int} {G : Nat → Bool} {S : List SpS} {c : Prop} {k : Nat} {L L' : Lm} {m : Wd} {ms md : List Wd} (h : LpC T tl G S c k L (m :: ms) md) (ht : timB now = true) (hT : ∀ i, T i ≤ now) (htl : tl ≤ now) (hz : RecvR L (32 + m.mux) m.kind now m.nums L' none) : LpC T tl G S c (k + 1) L' ms md := by
  have h1 := (PInv.popUp (m := wdV m) h.inv ht hT htl hz).1
  simp only [Option.toList_none, List.map_nil, List.append_nil] at h1
  refine ⟨h1, by have := h.len; rw [List.length_cons] at this; omega, Nat.le_succ_of_le h.dl, fun hc => ⟨(h.knd hc).1, fun q hq => (h.knd hc).2 q (List.mem_cons_of_mem _ hq)⟩⟩
theorem LpC.some {T : Nat → Int} {tl now : Int} {G : Nat → Bool} {S : List SpS} {c : Prop} {k : Nat} {L L' : Lm} {m m2 : Wd} {ms md : List Wd} {kk b : Int} (h : LpC T tl G S c k L (m :: ms) md) (ht : timB now = true) (hT : ∀ i, T i ≤ now) (htl : tl ≤ now) (hz : RecvR L (32 + m.mux) m.kind now m.nums L' (some (kk, b))) (hm : wdV m2 = (m.mux, (kk, [b]))) : LpC T tl G S c (k + 1) L' ms (md ++ [m2]) := by
  obtain ⟨h1, h2⟩ := PInv.popUp (m := wdV m) h.inv ht hT htl hz
  simp only [Option.toList_some, List.map_cons, List.map_nil] at h1
  refine ⟨?_, by have := h.len; rw [List.length_cons] at this; omega, by rw [List.length_append]; have := h.dl; simp; omega, fun hc => ?_⟩
  · rw [List.map_append]
    have e : [m2].map wdV = [((wdV m).1, (kk, [b]))] := by show [wdV m2] = _; rw [hm]; rfl
    rw [e]; exact h1
  · have := h2 ((h.knd hc).2 m (by simp)); cases this
structure LpD (T : Nat → Int) (tl : Int) (G : Nat → Bool) (S : List SpS) (L : Lm) (c : Prop) (k : Nat) (S8 : List SpS) (md : List Wd) : Prop where
  inv : PInv T tl G S8 L [] (md.map wdV)
  len : md.length + k ≤ 16
  v1 : ∀ σ ∈ S8, σ.V.length ≤ 1 ∧ ∀ m ∈ σ.V, m.1 = 12
  cz : c → md = [] ∧ ∀ σ ∈ S8, σ.V = []
  vs : S8.map (·.vs) = S.map (·.vs)
theorem LpC.toD {T : Nat → Int} {tl : Int} {G : Nat → Bool} {S S5 : List SpS} {c : Prop} {k : Nat} {L : Lm} {md : List Wd} (h : LpC T tl G S5 c k L [] md) (hV : ∀ σ ∈ S5, σ.V = []) (hvs : S5.map (·.vs) = S.map (·.vs)) : LpD T tl G S L c 0 S5 md :=
  ⟨h.inv, by have := h.dl; have := h.len; simp at this; omega, fun σ hs => by rw [hV σ hs]; simp, fun hc => ⟨(h.knd hc).1, hV⟩, hvs⟩
theorem LpD.step {T : Nat → Int} {tl : Int} {G : Nat → Bool} {S : List SpS} {L : Lm} {c : Prop} {k : Nat} {S8 : List SpS} {m : Wd} {md : List Wd} (h : LpD T tl G S L c k S8 (m :: md)) {i : Nat} (hm : m.mux = (i : Int)) {σ : SpS} (hi : S8[i]? = some σ) :
    LpD T tl G S L c (k + 1) (S8.set i ⟨recvO 5 σ.o m.kind m.nums, σ.vs, σ.V ++ recvM 5 m.kind σ.vs m.nums⟩) md := by
  obtain ⟨h1, h2, h3⟩ := PInv.popDn (m := wdV m) h.inv hm hi
  refine ⟨h1, by have := h.len; rw [List.length_cons] at this; omega, fun τ ht => ?_, fun hc => (by have := (h.cz hc).1; cases this), ?_⟩
  · rcases List.mem_or_eq_of_mem_set ht with ht | rfl
    · exact h.v1 τ ht
    · have e : recvM 5 m.kind σ.vs m.nums = [(12, 5 :: σ.vs)] := h3
      simp only [h2, e, List.nil_append]
      exact ⟨by simp, fun q hq => by rw [List.mem_singleton] at hq; subst hq; rfl⟩
  · rw [← h.vs]
    have hil := (List.getElem?_eq_some_iff.1 hi).1
    apply List.ext_getElem?
    intro q
    rw [List.getElem?_map, List.getElem?_map]
    by_cases e : q = i
    · subst e; rw [List.getElem?_set_self hil, hi]; rfl
    · rw [List.getElem?_set_ne (Ne.symm e)]
/-! ### the pair in memory -/
def encPt (b : Nat) : List Value := [.pointer (some ⟨b, 0, none⟩)]
theorem encPt_len (b : Nat) : (encPt b).length = 1 := rfl
theorem Cx.tell {w0 w : World} {F0 : List Nat} {M : List (Nat × Obj)} {Fs : List (List Nat)} (h : Cx w0 F0 w M Fs) : Cx w (M.map (·.1) ++ Fs.flatten) w M Fs ∧ Cx w0 F0 w [] [M.map (·.1) ++ Fs.flatten] := by
  have hb : ∀ x ∈ M.map (·.1) ++ Fs.flatten, x < w.heap.size := fun x hx => by
    rcases List.mem_append.1 hx with hx | hx
    · obtain ⟨p, hp, rfl⟩ := List.mem_map.1 hx; exact h.lt hp
    · obtain ⟨F, hF, hx⟩ := List.mem_flatten.1 hx; exact h.bound F hF x hx
  refine ⟨⟨.refl _ _, h.has, h.nodup, h.sep, h.apart, h.bound, fun p hp => .inl (List.mem_append_left _ (List.mem_map.2 ⟨p, hp, rfl⟩)), fun F hF x hx => .inl (List.mem_append_right _ (List.mem_flatten.2 ⟨F, hF, hx⟩))⟩, ⟨h.fr, by simp, by simp, by simp, by simp, fun F hF x hx => ?_, by simp, fun F hF x hx => ?_⟩⟩
  · rw [List.mem_singleton] at hF; subst hF; exact hb x hx
  · rw [List.mem_singleton] at hF; subst hF
    rcases List.mem_append.1 hx with hx | hx
    · obtain ⟨p, hp, rfl⟩ := List.mem_map.1 hx; exact h.ownM p hp
    · obtain ⟨F, hF, hx⟩ := List.mem_flatten.1 hx; exact h.ownF F hF x hx
theorem Cx.untell {w0 w : World} {F0 F : List Nat} {M : List (Nat × Obj)} {Fs : List (List Nat)} (h : Cx w0 F0 w [] [F]) (h2 : Cx w F w M Fs) : Cx w0 F0 w M Fs := by
  refine ⟨h.fr, h2.has, h2.nodup, h2.sep, h2.apart, h2.bound, fun p hp => ?_, fun A hA x hx => ?_⟩
  · rcases h2.ownM p hp with q | q
    · exact h.ownF F (by simp) _ q
    · exact absurd (h2.lt hp) (Nat.not_lt.2 q)
  · rcases h2.ownF A hA x hx with q | q
    · exact h.ownF F (by simp) _ q
    · exact absurd (h2.bound A hA x hx) (Nat.not_lt.2 q)
theorem Cx.mem0 {w0 w : World} {F0 F : List Nat} (h : Cx w0 F0 w [] [F]) : (∀ x ∈ F, x ∈ F0 ∨ w0.heap.size ≤ x) ∧ ∀ x ∈ F, x < w.heap.size := ⟨h.ownF F (by simp), h.bound F (by simp)⟩
def prAt (w : World) (F : List Nat) (p lp : Nat) (ps : List Nat) (S : List SpS) (L : Lm) (now : Int) : Prop :=
  ∃ (As : Option Addr) (cs : Nat) (Fp Fl Bu Bd R : List Nat) (Au : Option Addr) (cu : Nat) (Ad : Option Addr) (cd : Nat),
    Cx w F w [(p, .cells #[.slice As ps.length cs, .pointer (some ⟨lp, 0, none⟩), .slice Au 0 cu, .slice Ad 0 cd, .int .i64 now] 60 (0, 0))] [blk (.slice As ps.length cs), Fp, Fl, Bu, Bd, R] ∧
    w.ownsRow 0 24 1 (.slice As ps.length cs) ps.length (ps.flatMap encPt) ∧ spsAt w Fp ps S ∧ lsAt w Fl lp L ∧ qAt w Bu Au 0 cu [] ∧ qAt w Bd Ad 0 cd [] ∧ (∀ x ∈ R, x < w.heap.size) ∧ ∀ x ∈ F, x < w.heap.size
theorem pr_lt {w : World} {F : List Nat} {p lp : Nat} {ps : List Nat} {S : List SpS} {L : Lm} {now : Int} (h : prAt w F p lp ps S L now) : ∀ x ∈ F, x < w.heap.size := by
  obtain ⟨As, cs, Fp, Fl, Bu, Bd, R, Au, cu, Ad, cd, _, _, _, _, _, _, _, h⟩ := h; exact h
theorem outAt.mono {w : World} {F F' : List Nat} {A : Option Addr} {n c : Nat} {V : List (Int × List Int)} (h : outAt w F A n c V) (hs : ∀ x ∈ F, x ∈ F') (hb : ∀ x ∈ F', x < w.heap.size) : outAt w F' A n c V := by
  obtain ⟨ms, h1, h2, h3, h4, h5, h6, h7⟩ := h
  exact ⟨ms, h1, h2, h3, h4, h5, fun b off e => hs b (h6 b off e), h7.mono hs hb⟩
/-- words that were handed out, while they are read -/
structure outRd (w : World) (F : List Nat) (A : Option Addr) (ms : List Mg) : Prop where
  rd : Rd w 3 cellsM A ms
  inn : ∀ b off, A = some ⟨b, off, none⟩ → b ∈ F
  ms : mgsIn w F ms
theorem outRd.fr {w w' : World} {F G : List Nat} {A : Option Addr} {ms : List Mg} (h : outRd w F A ms) (hf : Fr w w' G) (hd : ∀ x ∈ F, x ∉ G) : outRd w' F A ms := ⟨h.rd.frN hf fun b off e => hd b (h.inn b off e), h.inn, h.ms.fr hf hd⟩
theorem outAt.rd {w : World} {F F' : List Nat} {A : Option Addr} {n c : Nat} {V : List (Int × List Int)} (h : outAt w F A n c V) (hs : ∀ x ∈ F, x ∈ F') (hb : ∀ x ∈ F', x < w.heap.size) : ∃ ms, ms.map mgV = V ∧ ms.length = n ∧ n ≤ c ∧ outRd w F' A ms := by
  obtain ⟨ms, h1, h2, h3, h4, h5, h6, h7⟩ := h
  exact ⟨ms, h1, h2, h3, h5, fun b off e => hs b (h6 b off e), h7.mono hs hb⟩
theorem mg_at {ms : List Mg} {V : List (Int × List Int)} (h : ms.map mgV = V) {j : Nat} {e : Mg} (he : ms[j]? = some e) : V[j]? = some (e.kind, e.nums) := by
  rw [← h, List.getElem?_map, he]; rfl
theorem cons_of0 {ms : List Wd} {e : Wd} (h : ms[0]? = some e) : ∃ r, ms = e :: r := by
  cases ms with
  | nil => cases h
  | cons a r => simp at h; subst h; exact ⟨r, rfl⟩
theorem vok_rng {vs : List Int} (h : vok vs) : ∀ x ∈ vs, 0 ≤ x ∧ x ≤ 4294967295 := fun x hx => by
  obtain ⟨k, hk⟩ := List.mem_iff_getElem?.1 hx
  have := (h k x (List.getElem?_eq_some_iff.1 hk).1 hk).1
  omega
set_option maxHeartbeats 2000000 in
theorem carry_ct (F : List Nat) (p lp : Nat) (ps : List Nat) (S : List SpS) (L : Lm) (now : Int) (T : Nat → Int) (tl : Int) (G : Nat → Bool) (c : Prop) (w : World) (h : prAt w F p lp ps S L now) (hp : PInv T tl G S L [] []) (hV2 : ∀ σ ∈ S, σ.V.length ≤ 2) (hcz : c → ∀ σ ∈ S, ∀ m ∈ σ.V, m.1 = 12) (ht : timB now = true) (hT : ∀ i, T i ≤ now) (htl : tl ≤ now) : Calls Try.prog 24 #[.pointer (some ⟨p, 0, none⟩), .int .i64 1000] w fun e w' => ∃ F' S' L', e = .returned (.tuple #[]) ∧ Fr w w' F ∧ prAt w' F' p lp ps S' L' now ∧ (∀ x ∈ F', x ∈ F ∨ w.heap.size ≤ x) ∧ PInv T tl G S' L' [] [] ∧ (∀ σ ∈ S', σ.V.length ≤ 1 ∧ ∀ m ∈ σ.V, m.1 = 12) ∧ (c → ∀ σ ∈ S', σ.V = []) ∧ S'.map (·.vs) = S.map (·.vs) := by
 refine enterD (n := 141) Try.func24 rfl rfl (Nat.le_of_ble_eq_true rfl) ?_
 intro Q0 hN hret hret'
 obtain ⟨As, cs, Fp, Fl, Bu, Bd, R, Au, cu, Ad, cd, hC, hsr, hsps, hls, hqu, hqd, hR, _⟩ := h
 have hpl : wsIn w R [] := ⟨by simp, hR⟩
 have hpsl_ := spsAt_len hsps
 have hpl8_ := hp.len
 obtain ⟨hnw0_, hnw1_⟩ := tim_b ht
 have hA0 := LpA.start (c := c) hp
 refine WCs (fun K1 hK2 => ?_)
 refine WCs (fun K3 hK4 => ?_)
 refine WCg (WLq 3 [(16, .pointer (some ⟨p, 0, none⟩)), (15, .pointer (some ⟨p, 0, none⟩)), (14, .pointer (some ⟨p, 0, none⟩))] ?_)
 refine WLo 57 (.pointer (some ⟨p, 0, none⟩)) (.slice As ps.length cs) 17 (run_ld (hC.get 0 rfl) rfl) ?_
 refine WLq 2 [(19, .int .i64 0), (18, .int .i64 (ps.length : Int))] (WLd rfl (QXn (hK4 _ _ ?_)))
 refine WC.block ?_
 refine WC.loop (fun m_ E_ w_ => ∃ (i : Nat) (F5 : List Nat) (S5 : List SpS) (B5 : List Nat) (A5 : Option Addr) (n5 c5 : Nat) (ms5 : List Wd) (R5 : List Nat), m_ = ps.length - i ∧ E_ = [(0, .pointer (some ⟨p, 0, none⟩)), (1, .int .i64 1000), (17, .slice As ps.length cs), (18, .int .i64 (ps.length : Int)), (19, .int .i64 (i : Int))] ∧ Cx w F w_ [(p, .cells #[.slice As ps.length cs, .pointer (some ⟨lp, 0, none⟩), .slice A5 n5 c5, .slice Ad 0 cd, .int .i64 now] 60)] [blk (.slice As ps.length cs), F5, Fl, B5, Bd, R5] ∧ World.ownsRow w_ 0 24 1 (.slice As ps.length cs) ps.length (ps.flatMap encPt) ∧ lsAt w_ Fl lp L ∧ qAt w_ Bd Ad 0 cd [] ∧ spsAt w_ F5 ps S5 ∧ qAt w_ B5 A5 n5 c5 ms5 ∧ wsIn w_ R5 ms5 ∧ (i ≤ ps.length ∧ LpA T tl G S L c i S5 ms5)) ⟨_, _, ⟨0, Fp, S, Bu, Au, 0, cu, [], R, rfl, rfl, hC, hsr, hls, hqd, hsps, hqu, hpl, Nat.zero_le _, hA0⟩, sub_of ⟨rfl, rfl, rfl, rfl, rfl, trivial⟩⟩ (fun m8 E_ w9 K5 hK6 hI7 => ?_)
 obtain ⟨i, F5, S5, B5, A5, n5, c5, ms5, R5, rfl, rfl, bM, spr_m8, ls_m8, qd_m8, hsps5, hqu5, hpl5, hi, hA5⟩ := hI7
 have hsl5_ := spsAt_len hsps5
 have hql5_ := hqu5.len
 have hl5_ := hA5.len
 refine WCs (fun ly d9 => ?_)
 refine WCg (WLq 1 [(20, .bool (decide ((i : Int) < (ps.length : Int))))] (WLd rfl (QXn (d9 _ _ ?_))))
 refine WCs (fun lz ea => ?_)
 refine WCa 20 (decide ((i : Int) < (ps.length : Int))) rfl (fun dZ => ?_) (fun dZ => ?_)
 ·
  have kq : (i : Int) < (ps.length : Int) := by have q_ := of_decide_eq_true dZ; omega
  refine WCt rfl ?_
  refine WC.skip ?_
  refine QXn (ea _ _ ?_)
  refine WCs (fun lA jx => ?_)
  refine WC.block ?_
  refine WCs (fun lB jy => ?_)
  refine WCg (WLq 1 [(21, .int .i64 (i : Int))] ?_)
  have kr := own_count encPt_len (by decide) spr_m8
  obtain ⟨jw, d0⟩ := get_some (xs := ps) (i := i) (by omega)
  obtain ⟨b22, eb⟩ := own_addr (by decide) encPt_len spr_m8 d0
  refine WLi As ps.length cs 22 .i64 (i : Int) b22 0 i 1 (by kernel_rfl) eb (by omega) (by omega) i (by first | (simp; done) | omega) ?_
  refine WLo 24 (.pointer (some ⟨b22, i, none⟩)) (.pointer (some ⟨jw, 0, none⟩)) 23 (run_load1 rfl (by simpa [Nat.add_assoc] using Rd.cell (own_rd spr_m8 encPt_len (by decide)) eb d0 0 _ rfl)) ?_
  refine WLq 2 [(5, .pointer (some ⟨jw, 0, none⟩)), (4, .int .i64 (i : Int))] (WLd rfl (QXn (jy _ _ ?_)))
  refine WCs (fun lC jz => ?_)
  refine WCg (WLq 1 [(24, .pointer (some ⟨jw, 0, none⟩))] ?_)
  obtain ⟨sg27, bR⟩ := get_some (xs := S5) (i := i) (by omega)
  have hsg28v := (hA5.todo i (Nat.le_refl _)).symm.trans bR
  have hv2_ := hV2 _ (List.mem_of_getElem? hsg28v)
  obtain ⟨F29, ec, aw, ed⟩ := spsAt_one hsps5 d0 bR
  refine WLc rfl rfl rfl rfl rfl (by kernel_rfl) (OutG78_ct F29 _ 5 sg27.o sg27.vs sg27.V w9 ec (by have z_ := hV2 _ (List.mem_of_getElem? hsg28v); omega)) ?_
  rintro _ kt ⟨F34, R35, jA, cy, kb, rfl, bN, ee, bO, ef, eg, jB⟩
  refine ⟨_, rfl, ?_⟩
  obtain ⟨F45, bX, eh, jC⟩ := ed kt F34 ⟨sg27.o, sg27.vs, []⟩ R35 bN ee (fun x_ h_ => .inl (ef x_ h_)) eg jB
  have jD := Cx.callSplit bM 1 rfl (bN.mono aw) (fun x_ h_ => (eh x_ h_).1.elim (fun q_ => aw x_ (ef x_ q_)) id) (fun x_ h_ => aw x_ (eg x_ h_)) jC (spsAt_lt bX) (outAt_lt bO)
  have jE := own_fr spr_m8 (bN.mono aw) (bM.disj 0 1 rfl rfl (by decide))
  have jF := lsAt_fr ls_m8 (bN.mono aw) (bM.disj 2 1 rfl rfl (by decide))
  have jG := qAt.fr qd_m8 (bN.mono aw) (bM.disj 4 1 rfl rfl (by decide))
  have jH := qAt.fr hqu5 (bN.mono aw) (bM.disj 3 1 rfl rfl (by decide))
  have jI := wsIn.fr hpl5 (bN.mono aw) (bM.disj 5 1 rfl rfl (by decide))
  have ei := Cx.mergeL (Fs := [blk (.slice As ps.length cs), F45, Fl, B5, Bd, R5]) (G := R35) jD 5 rfl
  have hlt_hC50 := ei.ltF 5 rfl
  obtain ⟨ms51, cA, ku, kv, ej⟩ := bO.rd (F' := (R5 ++ R35)) (fun x_ h_ => List.mem_append_right _ h_) hlt_hC50
  have ek := jI.mono (S := (R5 ++ R35)) (fun x_ h_ => List.mem_append_left _ h_) hlt_hC50
  have hol_ := (out_len bO).1
  refine WLq 2 [(27, .int .i64 0), (26, .int .i64 (cy : Int))] (WLd rfl (QXn (jz _ _ ?_)))
  refine WC.block ?_
  refine WC.loop (fun m_ E_ w_ => ∃ (j : Nat) (B6 : List Nat) (A6 : Option Addr) (n6 c6 : Nat) (ms6 : List Wd), m_ = cy - j ∧ E_ = [(0, .pointer (some ⟨p, 0, none⟩)), (1, .int .i64 1000), (4, .int .i64 (i : Int)), (5, .pointer (some ⟨jw, 0, none⟩)), (17, .slice As ps.length cs), (18, .int .i64 (ps.length : Int)), (19, .int .i64 (i : Int)), (25, .slice jA cy kb), (26, .int .i64 (cy : Int)), (27, .int .i64 (j : Int))] ∧ Cx w F w_ [(p, .cells #[.slice As ps.length cs, .pointer (some ⟨lp, 0, none⟩), .slice A6 n6 c6, .slice Ad 0 cd, .int .i64 now] 60)] [blk (.slice As ps.length cs), F45, Fl, B6, Bd, (R5 ++ R35)] ∧ World.ownsRow w_ 0 24 1 (.slice As ps.length cs) ps.length (ps.flatMap encPt) ∧ lsAt w_ Fl lp L ∧ qAt w_ Bd Ad 0 cd [] ∧ spsAt w_ F45 ps (S5.set i ⟨sg27.o, sg27.vs, []⟩) ∧ outRd w_ (R5 ++ R35) jA ms51 ∧ qAt w_ B6 A6 n6 c6 ms6 ∧ wsIn w_ (R5 ++ R35) ms6 ∧ (j ≤ cy ∧ LpB T tl G L c i sg27 S5 j ms6)) ⟨_, _, ⟨0, B5, A5, n5, c5, ms5, rfl, rfl, ei, jE, jF, jG, bX, ej, jH, ek, Nat.zero_le _, hA5.toB bR⟩, sub_of ⟨rfl, rfl, rfl, rfl, rfl, rfl, rfl, rfl, rfl, rfl, trivial⟩⟩ (fun m65 E_ lD lE em jJ => ?_)
  obtain ⟨j, B6, A6, n6, c6, ms6, rfl, rfl, en, spr_m65, ls_m65, qd_m65, sps_m65, outr_m65, hqu6, hpl6, hj, hB6⟩ := jJ
  have hql6_ := hqu6.len
  have hl6_ := hB6.len
  refine WCs (fun lF jK => ?_)
  refine WCg (WLq 1 [(28, .bool (decide ((j : Int) < (cy : Int))))] (WLd rfl (QXn (jK _ _ ?_))))
  refine WCs (fun lG jL => ?_)
  refine WCa 28 (decide ((j : Int) < (cy : Int))) rfl (fun d1 => ?_) (fun d1 => ?_)
  ·
   have kw : (j : Int) < (cy : Int) := by have q_ := of_decide_eq_true d1; omega
   refine WCt rfl ?_
   refine WC.skip ?_
   refine QXn (jL _ _ ?_)
   refine WCs (fun lH eo => ?_)
   refine WC.block ?_
   refine WCs (fun lI jM => ?_)
   refine WCg ?_
   obtain ⟨af, bD⟩ := get_some (xs := ms51) (i := j) (by omega)
   obtain ⟨b79, o81, jN, jO⟩ := outr_m65.rd.at_ _ _ bD
   refine WLi jA cy kb 29 .i64 (j : Int) b79 o81 j 3 (by kernel_rfl) jN (by omega) (by omega) (o81 + j * 3) (by first | (simp; done) | omega) ?_
   refine WLo 40 (.pointer (some ⟨b79, o81 + j * 3, none⟩)) (.agg #[.int .i64 af.kind, .slice af.a af.nums.length af.c, .slice none 0 0]) 30 (run_rdN (l := [.int .i64 af.kind, .slice af.a af.nums.length af.c, .slice none 0 0]) rfl rfl (fun j u hu => by have hq_ := jO j u hu; simpa [Nat.add_assoc] using hq_)) ?_
   refine WL.newM en (fun b => .pointer (some ⟨b, 0, none⟩)) (.cells #[.int .i64 0, .slice none 0 0, .slice none 0 0] 40) 7 (fun _ => by kernel_rfl) (fun kc lJ kx bP bE => ?_)
   have jP := own_fr spr_m65 bP (by simp)
   have jQ := lsAt_fr ls_m65 bP (by simp)
   have jR := qAt.fr qd_m65 bP (by simp)
   have jS := spsAt_fr sps_m65 bP (by simp)
   have jT := outRd.fr outr_m65 bP (by simp)
   have jU := qAt.fr hqu6 bP (by simp)
   have jV := wsIn.fr hpl6 bP (by simp)
   refine WLs (c' := #[.int .i64 af.kind, .slice af.a af.nums.length af.c, .slice none 0 0]) bE 1 40 kc 0 (.agg #[.int .i64 af.kind, .slice af.a af.nums.length af.c, .slice none 0 0]) (by kernel_rfl) rfl (by kernel_rfl) (fun lK bQ jW => ?_)
   have jX := own_fr jP bQ (bE.apartM 0 1 rfl rfl)
   have ep := lsAt_fr jQ bQ (bE.apartM 2 1 rfl rfl)
   have er := qAt.fr jR bQ (bE.apartM 4 1 rfl rfl)
   have es := spsAt_fr jS bQ (bE.apartM 1 1 rfl rfl)
   have cL := outRd.fr jT bQ (bE.apartM 5 1 rfl rfl)
   have et := qAt.fr jU bQ (bE.apartM 3 1 rfl rfl)
   have eu := wsIn.fr jV bQ (bE.apartM 5 1 rfl rfl)
   have hma_ := cL.ms.1 _ (List.mem_of_getElem? bD)
   refine WLd rfl (QXn (jM _ _ ?_))
   refine WC.drawC jW (p :: B6) (by kernel_rfl) (fun ky a0 bm ar => ?_)
   have cM := own_fr jX a0 (by simp)
   have cN := lsAt_fr ep a0 (by simp)
   have cO := qAt.fr er a0 (by simp)
   have cP := spsAt_fr es a0 (by simp)
   have cQ := outRd.fr cL a0 (by simp)
   have cR := qAt.fr et a0 (by simp)
   have cS := wsIn.fr eu a0 (by simp)
   refine WDq (NPb (NPt (NPt (NPb (NPb (NPt (NPt (NPb (NPt hN))))))))) 0 31 (.pointer (some ⟨p, 0, none⟩)) ar ?_
   refine WDq (NPb (NPt (NPt (NPb (NPb (NPt (NPt (NPb (NPt hN))))))))) 1 32 (.pointer (some ⟨p, 0, none⟩)) ar ?_
   refine WDq (NPb (NPt (NPt (NPb (NPb (NPt (NPt (NPb (NPt hN))))))))) 2 33 (.pointer (some ⟨p, 0, none⟩)) ar ?_
   refine WDq (NPb (NPt (NPt (NPb (NPb (NPt (NPt (NPb (NPt hN))))))))) 3 34 (.pointer (some ⟨p, 2, none⟩)) ar ?_
   refine WDq (NPb (NPt (NPt (NPb (NPb (NPt (NPt (NPb (NPt hN))))))))) 5 36 (.int .i64 (i : Int)) ar ?_
   refine WDm (NPb (NPt (NPt (NPb (NPb (NPt (NPt (NPb (NPt hN))))))))) 6 40 (.pointer (some ⟨kc, 0, none⟩)) (.agg #[.int .i64 af.kind, .slice af.a af.nums.length af.c, .slice none 0 0]) 37 (fun _ hS_ => run_ld (Fr.has hS_ (bm.get 1 rfl) (fun h_ => (List.mem_cons.1 h_).elim (bm.ne 1 0 rfl rfl (by decide)) (bm.notin 3 1 rfl rfl))) rfl) ar ?_
   refine WDq (NPb (NPt (NPt (NPb (NPb (NPt (NPt (NPb (NPt hN))))))))) 7 38 (.agg #[.int .i64 (i : Int), .int .i64 af.kind, .slice af.a af.nums.length af.c, .slice none 0 0]) ar ?_
   refine WD.all2 4 8 (by kernel_rfl) ?_ ?_
   ·
    refine WO.sem 4 (Instr.loadAt 58 (.pointer (some ⟨p, 2, none⟩))) 35 (.slice A6 n6 c6) (by kernel_rfl) (by kernel_rfl) (run_ld (bm.get 0 rfl) rfl) ar ?_
    refine WD.new 8 (fun b => .slice (some ⟨b, 0, none⟩) 1 1) (.cells #[.int .i64 (i : Int), .int .i64 af.kind, .slice af.a af.nums.length af.c, .slice none 0 0] 93) (by kernel_rfl) rfl rfl rfl rfl rfl (fun _ => by kernel_rfl) (fun jY kz cT kd ay ev => ?_)
    have aF := bm.callB ay cT ev
    have ew := Nat.le_trans ar.size cT
    have cU := ar.trans ay (by simp)
    refine ⟨cU, ?_⟩
    have ex := own_fr cM ay (by simp)
    have ey := lsAt_fr cN ay (by simp)
    have ez := qAt.fr cO ay (by simp)
    have eA := spsAt_fr cP ay (by simp)
    have eB := outRd.fr cQ ay (by simp)
    have eC := qAt.fr cR ay (by simp)
    have eD := wsIn.fr cS ay (by simp)
    obtain ⟨bY, bZ, B134, kA, eE, cV, aG, cB⟩ := qAt.app (P := Try.prog) eC 58 58 93 64 (⟨(i : Int), af.kind, af.a, af.c, af.nums⟩ : Wd) (by kernel_rfl) (aF.get 2 rfl) (by omega) (by decide) (c1 := 1)
    have aH := aF.callF 3 rfl aG cB cV.lt
    have bF := cU.trans aG (fun x_ h_ => .inl (List.mem_cons_of_mem _ h_))
    refine WD.sem 9 (Builtin.append_ #[58, 58] 58 #[.slice A6 n6 c6, .slice (some ⟨jY, 0, none⟩) 1 1]) 40 (.slice bY (n6 + 1) bZ) (by kernel_rfl) (by kernel_rfl) eE bF ?_
    have eF := own_fr ex aG (aF.disj 0 3 rfl rfl (by decide))
    have eG := lsAt_fr ey aG (aF.disj 2 3 rfl rfl (by decide))
    have eH := qAt.fr ez aG (aF.disj 4 3 rfl rfl (by decide))
    have eI := spsAt_fr eA aG (aF.disj 1 3 rfl rfl (by decide))
    have eJ := outRd.fr eB aG (aF.disj 5 3 rfl rfl (by decide))
    have eK := wsIn.fr eD aG (aF.disj 5 3 rfl rfl (by decide))
    refine WDq (NPb (NPt (NPt (NPb (NPb (NPt (NPt (NPb (NPt hN))))))))) 10 41 (.pointer (some ⟨p, 0, none⟩)) bF ?_
    refine WDq (NPb (NPt (NPt (NPb (NPb (NPt (NPt (NPb (NPt hN))))))))) 11 42 (.pointer (some ⟨p, 2, none⟩)) bF ?_
    obtain ⟨kB, eL, aI, eM⟩ := sto_run (c' := #[.slice As ps.length cs, .pointer (some ⟨lp, 0, none⟩), .slice bY (n6 + 1) bZ, .slice Ad 0 cd, .int .i64 now]) Try.prog aH 0 58 p 2 (.slice bY (n6 + 1) bZ) rfl (by kernel_rfl)
    have eN := bF.trans aI (by first | (simp; done) | (simp [*]; done) | (have q_ := bF.size; simp; omega))
    refine WD.semU 12 (Instr.storeAt 58 (.pointer (some ⟨p, 2, none⟩)) (.slice bY (n6 + 1) bZ)) (by kernel_rfl) (by kernel_rfl) eL eN ?_
    have eO := own_fr eF aI (aH.apartM 0 0 rfl rfl)
    have eP := lsAt_fr eG aI (aH.apartM 2 0 rfl rfl)
    have eQ := qAt.fr eH aI (aH.apartM 4 0 rfl rfl)
    have eR := spsAt_fr eI aI (aH.apartM 1 0 rfl rfl)
    have cW := outRd.fr eJ aI (aH.apartM 5 0 rfl rfl)
    have eS := qAt.fr cV aI (aH.apartM 3 0 rfl rfl)
    have eT := wsIn.fr eK aI (aH.apartM 5 0 rfl rfl)
    refine WD.done (by kernel_rfl) ?_
    refine QXb ?_
    refine QXn (eo _ _ ?_)
    refine WCg (WLq 1 [(43, .int .i64 (IntKind.i64.wrap ((j : Int) + 1)))] ?_)
    refine WLt (show (.int .i64 (IntKind.i64.wrap ((j : Int) + 1)) : Value) = .int .i64 ((j : Int) + 1) from by rw [wrap_in_i64 ((j : Int) + 1) (by omega) (by omega)]) ?_
    refine WLq 1 [(27, .int .i64 ((j : Int) + 1))] ?_
    refine WLd rfl ?_
    refine QXn ?_
    have eU := eM.pick [0] [0, 1, 2, 3, 4, 5] rfl rfl
    refine fun a_ ha_ => em _ _ _ ?_ ⟨j + 1, B134, bY, (n6 + 1), bZ, (ms6 ++ [(⟨(i : Int), af.kind, af.a, af.c, af.nums⟩ : Wd)]), rfl, rfl, eU, eO, eP, eQ, eR, cW, eS, (have q_ := cW.ms.1 _ (List.mem_of_getElem? bD); eT.snoc q_.1 q_.2.1 q_.2.2.2 q_.2.2.1), by omega, hB6.step (by omega) rfl (mg_at cA bD) (fun hc_ => hcz hc_ _ (List.mem_of_getElem? hsg28v) _ (List.mem_of_getElem? (mg_at cA bD)))⟩ a_ (ha_.weaken (sub_of ⟨rfl, rfl, rfl, rfl, rfl, rfl, rfl, rfl, rfl, rfl, trivial⟩))
    omega
   ·
    refine WO.new 8 (fun b => .slice (some ⟨b, 0, none⟩) 1 1) (.cells #[.int .i64 (i : Int), .int .i64 af.kind, .slice af.a af.nums.length af.c, .slice none 0 0] 93) (by kernel_rfl) rfl rfl rfl rfl rfl (fun _ => by kernel_rfl) (fun jZ kC cX ke az eV => ?_)
    have aA := bm.callB az cX eV
    have eW := Nat.le_trans ar.size cX
    have b0 := ar.trans az (by simp)
    refine ⟨b0, ?_⟩
    have eX := own_fr cM az (by simp)
    have eY := lsAt_fr cN az (by simp)
    have eZ := qAt.fr cO az (by simp)
    have e0 := spsAt_fr cP az (by simp)
    have e1 := outRd.fr cQ az (by simp)
    have e2 := qAt.fr cR az (by simp)
    have e3 := wsIn.fr cS az (by simp)
    refine WD.sem 4 (Instr.loadAt 58 (.pointer (some ⟨p, 2, none⟩))) 35 (.slice A6 n6 c6) (by kernel_rfl) (by kernel_rfl) (run_ld (aA.get 0 rfl) rfl) b0 ?_
    obtain ⟨b1, b2, B178, kD, e4, cY, aJ, cC⟩ := qAt.app (P := Try.prog) e2 58 58 93 64 (⟨(i : Int), af.kind, af.a, af.c, af.nums⟩ : Wd) (by kernel_rfl) (aA.get 2 rfl) (by omega) (by decide) (c1 := 1)
    have aK := aA.callF 3 rfl aJ cC cY.lt
    have bG := b0.trans aJ (fun x_ h_ => .inl (List.mem_cons_of_mem _ h_))
    refine WD.sem 9 (Builtin.append_ #[58, 58] 58 #[.slice A6 n6 c6, .slice (some ⟨jZ, 0, none⟩) 1 1]) 40 (.slice b1 (n6 + 1) b2) (by kernel_rfl) (by kernel_rfl) e4 bG ?_
    have e5 := own_fr eX aJ (aA.disj 0 3 rfl rfl (by decide))
    have e6 := lsAt_fr eY aJ (aA.disj 2 3 rfl rfl (by decide))
    have e7 := qAt.fr eZ aJ (aA.disj 4 3 rfl rfl (by decide))
    have e8 := spsAt_fr e0 aJ (aA.disj 1 3 rfl rfl (by decide))
    have e9 := outRd.fr e1 aJ (aA.disj 5 3 rfl rfl (by decide))
    have fa := wsIn.fr e3 aJ (aA.disj 5 3 rfl rfl (by decide))
    refine WDq (NPb (NPt (NPt (NPb (NPb (NPt (NPt (NPb (NPt hN))))))))) 10 41 (.pointer (some ⟨p, 0, none⟩)) bG ?_
    refine WDq (NPb (NPt (NPt (NPb (NPb (NPt (NPt (NPb (NPt hN))))))))) 11 42 (.pointer (some ⟨p, 2, none⟩)) bG ?_
    obtain ⟨kE, fb, aL, fc⟩ := sto_run (c' := #[.slice As ps.length cs, .pointer (some ⟨lp, 0, none⟩), .slice b1 (n6 + 1) b2, .slice Ad 0 cd, .int .i64 now]) Try.prog aK 0 58 p 2 (.slice b1 (n6 + 1) b2) rfl (by kernel_rfl)
    have fd := bG.trans aL (by first | (simp; done) | (simp [*]; done) | (have q_ := bG.size; simp; omega))
    refine WD.semU 12 (Instr.storeAt 58 (.pointer (some ⟨p, 2, none⟩)) (.slice b1 (n6 + 1) b2)) (by kernel_rfl) (by kernel_rfl) fb fd ?_
    have fe := own_fr e5 aL (aK.apartM 0 0 rfl rfl)
    have ff := lsAt_fr e6 aL (aK.apartM 2 0 rfl rfl)
    have fg := qAt.fr e7 aL (aK.apartM 4 0 rfl rfl)
    have fh := spsAt_fr e8 aL (aK.apartM 1 0 rfl rfl)
    have cZ := outRd.fr e9 aL (aK.apartM 5 0 rfl rfl)
    have fi := qAt.fr cY aL (aK.apartM 3 0 rfl rfl)
    have fj := wsIn.fr fa aL (aK.apartM 5 0 rfl rfl)
    refine WD.done (by kernel_rfl) ?_
    refine QXb ?_
    refine QXn (eo _ _ ?_)
    refine WCg (WLq 1 [(43, .int .i64 (IntKind.i64.wrap ((j : Int) + 1)))] ?_)
    refine WLt (show (.int .i64 (IntKind.i64.wrap ((j : Int) + 1)) : Value) = .int .i64 ((j : Int) + 1) from by rw [wrap_in_i64 ((j : Int) + 1) (by omega) (by omega)]) ?_
    refine WLq 1 [(27, .int .i64 ((j : Int) + 1))] ?_
    refine WLd rfl ?_
    refine QXn ?_
    have fk := fc.pick [0] [0, 1, 2, 3, 4, 5] rfl rfl
    refine fun a_ ha_ => em _ _ _ ?_ ⟨j + 1, B178, b1, (n6 + 1), b2, (ms6 ++ [(⟨(i : Int), af.kind, af.a, af.c, af.nums⟩ : Wd)]), rfl, rfl, fk, fe, ff, fg, fh, cZ, fi, (have q_ := cZ.ms.1 _ (List.mem_of_getElem? bD); fj.snoc q_.1 q_.2.1 q_.2.2.2 q_.2.2.1), by omega, hB6.step (by omega) rfl (mg_at cA bD) (fun hc_ => hcz hc_ _ (List.mem_of_getElem? hsg28v) _ (List.mem_of_getElem? (mg_at cA bD)))⟩ a_ (ha_.weaken (sub_of ⟨rfl, rfl, rfl, rfl, rfl, rfl, rfl, rfl, rfl, rfl, trivial⟩))
    omega
  ·
   have kw : (cy : Int) ≤ (j : Int) := by have q_ := of_decide_eq_false d1; omega
   refine WCf rfl ?_
   refine WC.exit ?_
   refine QXe ?_
   refine QXe ?_
   refine QX.block_hit ?_
   refine QXb ?_
   refine QXn (jx _ _ ?_)
   refine WCg (WLq 1 [(44, .int .i64 (IntKind.i64.wrap ((i : Int) + 1)))] ?_)
   refine WLt (show (.int .i64 (IntKind.i64.wrap ((i : Int) + 1)) : Value) = .int .i64 ((i : Int) + 1) from by rw [wrap_in_i64 ((i : Int) + 1) (by omega) (by omega)]) ?_
   refine WLq 1 [(19, .int .i64 ((i : Int) + 1))] ?_
   refine WLd rfl ?_
   refine QXn ?_
   have fl := en.pick [0] [0, 1, 2, 3, 4, 5] rfl rfl
   refine fun a_ ha_ => hK6 _ _ _ ?_ ⟨i + 1, F45, (S5.set i ⟨sg27.o, sg27.vs, []⟩), B6, A6, n6, c6, ms6, (R5 ++ R35), rfl, rfl, fl, spr_m65, ls_m65, qd_m65, sps_m65, hqu6, hpl6, by omega, hB6.toA hA5 bR (by omega) (by omega)⟩ a_ (ha_.weaken (sub_of ⟨rfl, rfl, rfl, rfl, rfl, trivial⟩))
   omega
 ·
  have kq : (ps.length : Int) ≤ (i : Int) := by have q_ := of_decide_eq_false dZ; omega
  refine WCf rfl ?_
  have hVall_ := hA5.allV (by omega)
  have hC0_ := hA5.toC (by omega)
  skip
  refine WC.exit ?_
  refine QXe ?_
  refine QXe ?_
  refine QX.block_hit ?_
  refine QXn (hK2 _ _ ?_)
  refine WCs (fun kF c0 => ?_)
  refine WCs (fun kG c2 => ?_)
  refine WCg (WLq 1 [(8, .int .i64 0)] (WLd rfl (QXn (c2 _ _ ?_))))
  refine WC.block ?_
  refine WC.loop (fun m_ E_ w_ => ∃ (k : Nat) (Fl7 : List Nat) (L7 : Lm) (A7 : Option Addr) (n7 c7 : Nat) (ms7 : List Wd) (Bd7 : List Nat) (Ad7 : Option Addr) (nd7 cd7 : Nat) (md7 : List Wd) (R7 : List Nat), m_ = 1000 - k ∧ E_ = [(0, .pointer (some ⟨p, 0, none⟩)), (1, .int .i64 1000), (8, .int .i64 (k : Int))] ∧ Cx w F w_ [(p, .cells #[.slice As ps.length cs, .pointer (some ⟨lp, 0, none⟩), .slice A7 n7 c7, .slice Ad7 nd7 cd7, .int .i64 now] 60)] [blk (.slice As ps.length cs), F5, Fl7, B5, Bd7, R7] ∧ World.ownsRow w_ 0 24 1 (.slice As ps.length cs) ps.length (ps.flatMap encPt) ∧ spsAt w_ F5 ps S5 ∧ lsAt w_ Fl7 lp L7 ∧ qAt w_ B5 A7 n7 c7 ms7 ∧ qAt w_ Bd7 Ad7 nd7 cd7 md7 ∧ wsIn w_ R7 (ms7 ++ md7) ∧ (k ≤ 1000 ∧ LpC T tl G S5 c k L7 ms7 md7)) ⟨_, _, ⟨0, Fl, L, A5, n5, c5, ms5, Bd, Ad, 0, cd, [], R5, rfl, rfl, bM, spr_m8, hsps5, ls_m8, hqu5, qd_m8, (by rw [List.append_nil]; exact hpl5), Nat.zero_le _, hC0_⟩, sub_of ⟨rfl, rfl, rfl, trivial⟩⟩ (fun m213 E_ kH kI bn fm => ?_)
  obtain ⟨k, Fl7, L7, A7, n7, c7, ms7, Bd7, Ad7, nd7, cd7, md7, R7, rfl, rfl, bS, spr_m213, sps_m213, hls7, hqu7, hqd7, hpl7, hk, hC7i⟩ := fm
  have hql7_ := hqu7.len
  have hqe7_ := hqu7.le
  have hdl7_ := hqd7.len
  have hl7_ := hC7i.len
  have hdk7_ := hC7i.dl
  refine WCs (fun kJ c3 => ?_)
  refine WCs (fun kK c4 => ?_)
  refine WCg (WLq 4 [(48, .bool (decide ((k : Int) < 1000))), (47, .bool (decide ((k : Int) < 1000))), (46, .int .i64 1000), (45, .int .i64 (k : Int))] ?_)
  refine WL.know 48 (.bool (decide ((k : Int) < 1000))) (.bool true) rfl (congrArg Value.bool (by exact decide_eq_true (by omega))) ?_
  refine WLq 3 [(51, .pointer (some ⟨p, 2, none⟩)), (50, .pointer (some ⟨p, 0, none⟩)), (49, .pointer (some ⟨p, 0, none⟩))] ?_
  refine WLo 58 (.pointer (some ⟨p, 2, none⟩)) (.slice A7 n7 c7) 52 (run_ld (bS.get 0 rfl) rfl) ?_
  refine WLq 3 [(55, .bool (decide ((n7 : Int) > 0))), (54, .bool (decide ((n7 : Int) > 0))), (53, .int .i64 (n7 : Int))] (WLd rfl (QXn (c4 _ _ ?_)))
  refine WCa 55 (decide ((n7 : Int) > 0)) rfl (fun b3 => ?_) (fun b3 => ?_)
  ·
   have j0 : (0 : Int) < (n7 : Int) := by have q_ := of_decide_eq_true b3; omega
   refine WCt rfl ?_
   refine WC.skip ?_
   refine QXn (c3 _ _ ?_)
   refine WCs (fun kL bo => ?_)
   refine WC.block ?_
   refine WCs (fun kM fn => ?_)
   refine WCg (WLq 3 [(60, .pointer (some ⟨p, 2, none⟩)), (59, .pointer (some ⟨p, 0, none⟩)), (58, .pointer (some ⟨p, 0, none⟩))] ?_)
   refine WLo 58 (.pointer (some ⟨p, 2, none⟩)) (.slice A7 n7 c7) 61 (run_ld (bS.get 0 rfl) rfl) ?_
   obtain ⟨aa, c8⟩ := get_some (xs := ms7) (i := 0) (by omega)
   obtain ⟨b227, o229, fo, fp⟩ := hqu7.rd.at_ _ _ c8
   refine WLi A7 n7 c7 62 .i64 0 b227 o229 0 4 (by kernel_rfl) fo (by omega) (by omega) (o229 + 0 * 4) (by first | (simp; done) | omega) ?_
   refine WLo 93 (.pointer (some ⟨b227, o229 + 0 * 4, none⟩)) (.agg #[.int .i64 aa.mux, .int .i64 aa.kind, .slice aa.a aa.nums.length aa.c, .slice none 0 0]) 63 (run_rdN (l := [.int .i64 aa.mux, .int .i64 aa.kind, .slice aa.a aa.nums.length aa.c, .slice none 0 0]) rfl rfl (fun j u hu => by have hq_ := fp j u hu; simpa [Nat.add_assoc] using hq_)) ?_
   refine WL.newM bS (fun b => .pointer (some ⟨b, 0, none⟩)) (.cells #[.int .i64 0, .int .i64 0, .slice none 0 0, .slice none 0 0] 93) 9 (fun _ => by kernel_rfl) (fun bA kN kf bp a1 => ?_)
   have fq := own_fr spr_m213 bp (by simp)
   have fs := spsAt_fr sps_m213 bp (by simp)
   have ft := lsAt_fr hls7 bp (by simp)
   have fu := qAt.fr hqu7 bp (by simp)
   have fv := qAt.fr hqd7 bp (by simp)
   have fw := wsIn.fr hpl7 bp (by simp)
   refine WLs (c' := #[.int .i64 aa.mux, .int .i64 aa.kind, .slice aa.a aa.nums.length aa.c, .slice none 0 0]) a1 1 93 bA 0 (.agg #[.int .i64 aa.mux, .int .i64 aa.kind, .slice aa.a aa.nums.length aa.c, .slice none 0 0]) (by kernel_rfl) rfl (by kernel_rfl) (fun kO bq aM => ?_)
   have fx := own_fr fq bq (a1.apartM 0 1 rfl rfl)
   have fy := spsAt_fr fs bq (a1.apartM 1 1 rfl rfl)
   have fz := lsAt_fr ft bq (a1.apartM 2 1 rfl rfl)
   have fA := qAt.fr fu bq (a1.apartM 3 1 rfl rfl)
   have fB := qAt.fr fv bq (a1.apartM 4 1 rfl rfl)
   have fC := wsIn.fr fw bq (a1.apartM 5 1 rfl rfl)
   obtain ⟨r7, rfl⟩ := cons_of0 c8
   obtain ⟨ir7, hir7, hmir7⟩ := hC7i.inv.um (wdV aa) (by simp)
   have hmxr7 : aa.mux = (ir7 : Int) := hmir7
   have hl8r7 := hC7i.inv.len
   have hwm_r7 := hpl7.1 aa (by simp)
   simp only [List.length_cons] at hql7_ hl7_
   refine WLd rfl (QXn (fn _ _ ?_))
   refine WCs (fun kP fD => ?_)
   refine WCg (WLq 4 [(67, .pointer (some ⟨p, 2, none⟩)), (66, .pointer (some ⟨p, 0, none⟩)), (65, .pointer (some ⟨p, 0, none⟩)), (64, .pointer (some ⟨p, 0, none⟩))] ?_)
   refine WLo 58 (.pointer (some ⟨p, 2, none⟩)) (.slice A7 n7 c7) 68 (run_ld (aM.get 0 rfl) rfl) ?_
   obtain ⟨aE, c9⟩ : ∃ A_, slcAt A7 1 c7 4 = A_ := ⟨_, rfl⟩
   have fE : n7 ≤ c7 := by omega
   refine WL.slc 58 93 4 A7 aE n7 c7 1 n7 (n7 - 1) (c7 - 1) (some (.int .i64 1)) none 69 (by kernel_rfl) (by kernel_rfl) (bnd.yes (by omega)) bnd.no (by omega) fE c9 (by first | rfl | omega) (by first | rfl | omega) ?_
   have da := fA.pop
   rw [c9] at da
   refine WLq 2 [(71, .pointer (some ⟨p, 2, none⟩)), (70, .pointer (some ⟨p, 0, none⟩))] ?_
   refine WLs (c' := #[.slice As ps.length cs, .pointer (some ⟨lp, 0, none⟩), .slice aE (n7 - 1) (c7 - 1), .slice Ad7 nd7 cd7, .int .i64 now]) aM 0 58 p 2 (.slice aE (n7 - 1) (c7 - 1)) (by kernel_rfl) rfl (by kernel_rfl) (fun kQ br fF => ?_)
   have fG := own_fr fx br (aM.apartM 0 0 rfl rfl)
   have fH := spsAt_fr fy br (aM.apartM 1 0 rfl rfl)
   have fI := lsAt_fr fz br (aM.apartM 2 0 rfl rfl)
   have fJ := qAt.fr da br (aM.apartM 3 0 rfl rfl)
   have fK := qAt.fr fB br (aM.apartM 4 0 rfl rfl)
   have fL := wsIn.fr fC br (aM.apartM 5 0 rfl rfl)
   refine WLd rfl (QXn (fD _ _ ?_))
   refine WCs (fun kR bT => ?_)
   refine WC.drawC fF Fl7 (by kernel_rfl) (fun j1 bs ac ad => ?_)
   have b4 := own_fr fG bs (by simp)
   have b5 := spsAt_fr fH bs (by simp)
   have db := lsAt_fr fI bs (by simp)
   have b6 := qAt.fr fJ bs (by simp)
   have b7 := qAt.fr fK bs (by simp)
   have bU := wsIn.fr fL bs (by simp)
   refine WDq (NPt (NPb (NPt (NPt (NPb (NPt hN)))))) 0 73 (.pointer (some ⟨p, 0, none⟩)) ad ?_
   refine WDq (NPt (NPb (NPt (NPt (NPb (NPt hN)))))) 1 74 (.pointer (some ⟨p, 0, none⟩)) ad ?_
   refine WDq (NPt (NPb (NPt (NPt (NPb (NPt hN)))))) 2 75 (.pointer (some ⟨p, 1, none⟩)) ad ?_
   refine WDq (NPt (NPb (NPt (NPt (NPb (NPt hN)))))) 4 77 (.pointer (some ⟨bA, 0, none⟩)) ad ?_
   refine WDq (NPt (NPb (NPt (NPt (NPb (NPt hN)))))) 7 80 (.pointer (some ⟨bA, 1, none⟩)) ad ?_
   refine WDq (NPt (NPb (NPt (NPt (NPb (NPt hN)))))) 9 82 (.pointer (some ⟨p, 0, none⟩)) ad ?_
   refine WDq (NPt (NPb (NPt (NPt (NPb (NPt hN)))))) 10 83 (.pointer (some ⟨p, 0, none⟩)) ad ?_
   refine WDq (NPt (NPb (NPt (NPt (NPb (NPt hN)))))) 11 84 (.pointer (some ⟨p, 4, none⟩)) ad ?_
   refine WDm (NPt (NPb (NPt (NPt (NPb (NPt hN)))))) 3 55 (.pointer (some ⟨p, 1, none⟩)) (.pointer (some ⟨lp, 0, none⟩)) 76 (fun _ hS_ => run_ld (Fr.has hS_ (ac.get 0 rfl) (ac.notin 2 0 rfl rfl)) rfl) ad ?_
   refine WDm (NPt (NPb (NPt (NPt (NPb (NPt hN)))))) 5 3 (.pointer (some ⟨bA, 0, none⟩)) (.int .i64 aa.mux) 78 (fun _ hS_ => run_ld (Fr.has hS_ (ac.get 1 rfl) (ac.notin 2 1 rfl rfl)) rfl) ad ?_
   refine WDq (NPt (NPb (NPt (NPt (NPb (NPt hN)))))) 6 79 (.int .i64 (IntKind.i64.wrap (32 + aa.mux))) ad ?_
   refine WD.recast (show (.int .i64 (IntKind.i64.wrap (32 + aa.mux)) : Value) = .int .i64 (32 + aa.mux) from by rw [wrap_in_i64 (32 + aa.mux) (by omega) (by omega)]) ?_
   refine WDm (NPt (NPb (NPt (NPt (NPb (NPt hN)))))) 8 40 (.pointer (some ⟨bA, 1, none⟩)) (.agg #[.int .i64 aa.kind, .slice aa.a aa.nums.length aa.c, .slice none 0 0]) 81 (fun _ hS_ => run_ld (Fr.has hS_ (ac.get 1 rfl) (ac.notin 2 1 rfl rfl)) rfl) ad ?_
   refine WDm (NPt (NPb (NPt (NPt (NPb (NPt hN)))))) 12 3 (.pointer (some ⟨p, 4, none⟩)) (.int .i64 now) 85 (fun _ hS_ => run_ld (Fr.has hS_ (ac.get 0 rfl) (ac.notin 2 0 rfl rfl)) rfl) ad ?_
   refine WD.all2 13 17 (by kernel_rfl) ?_ ?_
   ·
    have hwm_ := bU.1 aa (by simp)
    refine WO.call 13 (by kernel_rfl) rfl rfl rfl rfl rfl (by kernel_rfl) (Recv_n Fl7 lp L7 (32 + aa.mux) aa.kind now aa.a aa.nums.length aa.c aa.nums none 0 0 j1 db ⟨by omega, by omega⟩ hwm_.1 rfl (Nat.le_trans hwm_.2.1.1 (by decide)) hwm_.2.1.2) ?_
    rintro _ kS (⟨F280, L281, rfl, ag, a2, bB, b8⟩ | ⟨F280, L281, k288, b289, an, ao, rfl, ag, a2, bB, b8, b9, cD⟩)
    ·
     have aj := ad.trans ag (fun _ h_ => .inl h_)
     have ca := ac.callF 2 rfl ag bB (lsAt_lt a2)
     have hc8_ := hC7i.none ht hT htl b8
     refine ⟨_, rfl, aj, ?_⟩
     have fM := own_fr b4 ag (ac.disj 0 2 rfl rfl (by decide))
     have fN := spsAt_fr b5 ag (ac.disj 1 2 rfl rfl (by decide))
     have fO := qAt.fr b6 ag (ac.disj 3 2 rfl rfl (by decide))
     have fP := qAt.fr b7 ag (ac.disj 4 2 rfl rfl (by decide))
     have fQ := wsIn.fr bU ag (ac.disj 5 2 rfl rfl (by decide))
     refine WDq (NPt (NPb (NPt (NPt (NPb (NPt hN)))))) 14 72 (.tuple #[.agg #[.int .i64 0, .slice none 0 0, .slice none 0 0], .bool false]) aj ?_
     refine WDq (NPt (NPb (NPt (NPt (NPb (NPt hN)))))) 15 87 (.agg #[.int .i64 0, .slice none 0 0, .slice none 0 0]) aj ?_
     refine WDq (NPt (NPb (NPt (NPt (NPb (NPt hN)))))) 16 88 (.bool false) aj ?_
     refine WD.new 17 (fun b => .pointer (some ⟨b, 0, none⟩)) (.cells #[.int .i64 0, .slice none 0 0, .slice none 0 0] 40) (by kernel_rfl) rfl rfl rfl rfl rfl (fun _ => by kernel_rfl) (fun fR kT dc kg aN fS => ?_)
     have a3 := ca.callB aN dc fS
     have fT := Nat.le_trans aj.size dc
     have cb := aj.trans aN (by simp)
     refine ⟨cb, ?_⟩
     have fU := own_fr fM aN (by simp)
     have fV := spsAt_fr fN aN (by simp)
     have fW := lsAt_fr a2 aN (by simp)
     have fX := qAt.fr fO aN (by simp)
     have fY := qAt.fr fP aN (by simp)
     have fZ := wsIn.fr fQ aN (by simp)
     obtain ⟨kU, f0, a4, f1⟩ := sto_run (c' := #[.int .i64 0, .slice none 0 0, .slice none 0 0]) Try.prog a3 2 40 fR 0 (.agg #[.int .i64 0, .slice none 0 0, .slice none 0 0]) rfl (by kernel_rfl)
     have dd := cb.trans a4 (by first | (simp; done) | (simp [*]; done) | (have q_ := cb.size; simp; omega))
     refine WD.semU 18 (Instr.storeAt 40 (.pointer (some ⟨fR, 0, none⟩)) (.agg #[.int .i64 0, .slice none 0 0, .slice none 0 0])) (by kernel_rfl) (by kernel_rfl) f0 dd ?_
     have f2 := own_fr fU a4 (a3.apartM 0 2 rfl rfl)
     have f3 := spsAt_fr fV a4 (a3.apartM 1 2 rfl rfl)
     have f4 := lsAt_fr fW a4 (a3.apartM 2 2 rfl rfl)
     have f5 := qAt.fr fX a4 (a3.apartM 3 2 rfl rfl)
     have f6 := qAt.fr fY a4 (a3.apartM 4 2 rfl rfl)
     have f7 := wsIn.fr fZ a4 (a3.apartM 5 2 rfl rfl)
     refine WDq (NPt (NPb (NPt (NPt (NPb (NPt hN)))))) 19 11 (.bool false) dd ?_
     refine WD.done (by kernel_rfl) ?_
     refine QXn (bT _ _ ?_)
     refine WCs (fun kV f8 => ?_)
     refine WCg (WLq 1 [(89, .bool false)] (WLd rfl (QXn (f8 _ _ ?_))))
     refine WCf rfl (WC.skip ?_)
     refine QXb ?_
     refine QXn (bo _ _ ?_)
     refine WCg (WLq 2 [(57, .int .i64 (IntKind.i64.wrap ((k : Int) + 1))), (56, .int .i64 (k : Int))] ?_)
     refine WLt (show (.int .i64 (IntKind.i64.wrap ((k : Int) + 1)) : Value) = .int .i64 ((k : Int) + 1) from by rw [wrap_in_i64 ((k : Int) + 1) (by omega) (by omega)]) ?_
     refine WLq 1 [(8, .int .i64 ((k : Int) + 1))] ?_
     refine WLd rfl ?_
     refine QXn ?_
     have f9 := f1.pick [0] [0, 1, 2, 3, 4, 5] rfl rfl
     refine fun a_ ha_ => bn _ _ _ ?_ ⟨k + 1, F280, L281, aE, (n7 - 1), (c7 - 1), r7, Bd7, Ad7, nd7, cd7, md7, R7, rfl, rfl, f9, f2, f3, f4, f5, f6, (f7.sub (fun m_ h_ => List.mem_cons_of_mem _ h_)), by omega, hc8_⟩ a_ (ha_.weaken (sub_of ⟨rfl, rfl, rfl, trivial⟩))
     omega
    ·
     have aj := ad.trans ag (fun _ h_ => .inl h_)
     have ca := ac.callFN 2 rfl ag bB (lsAt_lt a2) (own_ge b9) (own_lt b9) cD
     have hc8_ := hC7i.some (m2 := ⟨aa.mux, k288, an, ao, [b289]⟩) ht hT htl b8 rfl
     refine ⟨_, rfl, aj, ?_⟩
     have ga := own_base (b' := 0) b9 (fun _ _ => Nat.zero_le _)
     have gb := own_fr b4 ag (ac.disj 0 2 rfl rfl (by decide))
     have gc := spsAt_fr b5 ag (ac.disj 1 2 rfl rfl (by decide))
     have gd := qAt.fr b6 ag (ac.disj 3 2 rfl rfl (by decide))
     have gf := qAt.fr b7 ag (ac.disj 4 2 rfl rfl (by decide))
     have gg := wsIn.fr bU ag (ac.disj 5 2 rfl rfl (by decide))
     refine WDq (NPt (NPb (NPt (NPt (NPb (NPt hN)))))) 14 72 (.tuple #[.agg #[.int .i64 k288, .slice an 1 ao, .slice none 0 0], .bool true]) aj ?_
     refine WDq (NPt (NPb (NPt (NPt (NPb (NPt hN)))))) 15 87 (.agg #[.int .i64 k288, .slice an 1 ao, .slice none 0 0]) aj ?_
     refine WDq (NPt (NPb (NPt (NPt (NPb (NPt hN)))))) 16 88 (.bool true) aj ?_
     refine WD.new 17 (fun b => .pointer (some ⟨b, 0, none⟩)) (.cells #[.int .i64 0, .slice none 0 0, .slice none 0 0] 40) (by kernel_rfl) rfl rfl rfl rfl rfl (fun _ => by kernel_rfl) (fun d2 kW de kh aB gh => ?_)
     have aO := ca.callB aB de gh
     have gi := Nat.le_trans aj.size de
     have cc := aj.trans aB (by simp)
     refine ⟨cc, ?_⟩
     have gj := own_fr gb aB (by simp)
     have gk := spsAt_fr gc aB (by simp)
     have gl := lsAt_fr a2 aB (by simp)
     have gm := qAt.fr gd aB (by simp)
     have gn := qAt.fr gf aB (by simp)
     have go := wsIn.fr gg aB (by simp)
     have gp := own_fr ga aB (by simp)
     obtain ⟨kX, gq, aP, gr⟩ := sto_run (c' := #[.int .i64 k288, .slice an 1 ao, .slice none 0 0]) Try.prog aO 2 40 d2 0 (.agg #[.int .i64 k288, .slice an 1 ao, .slice none 0 0]) rfl (by kernel_rfl)
     have df := cc.trans aP (by first | (simp; done) | (simp [*]; done) | (have q_ := cc.size; simp; omega))
     refine WD.semU 18 (Instr.storeAt 40 (.pointer (some ⟨d2, 0, none⟩)) (.agg #[.int .i64 k288, .slice an 1 ao, .slice none 0 0])) (by kernel_rfl) (by kernel_rfl) gq df ?_
     have gs := own_fr gj aP (aO.apartM 0 2 rfl rfl)
     have gu := spsAt_fr gk aP (aO.apartM 1 2 rfl rfl)
     have gv := lsAt_fr gl aP (aO.apartM 2 2 rfl rfl)
     have gw := qAt.fr gm aP (aO.apartM 3 2 rfl rfl)
     have gx := qAt.fr gn aP (aO.apartM 4 2 rfl rfl)
     have gy := wsIn.fr go aP (aO.apartM 5 2 rfl rfl)
     have dg := own_fr gp aP (aO.apartM 6 2 rfl rfl)
     refine WDq (NPt (NPb (NPt (NPt (NPb (NPt hN)))))) 19 11 (.bool true) df ?_
     refine WD.done (by kernel_rfl) ?_
     refine QXn (bT _ _ ?_)
     refine WCs (fun kY gz => ?_)
     refine WCg ?_
     have dh := Cx.mergeL (Fs := [blk (.slice As ps.length cs), F5, F280, B5, Bd7, R7]) (G := blk (.slice an 1 ao)) gr 5 rfl
     have d3 := (gy.mono (S := (R7 ++ blk (.slice an 1 ao))) (fun x_ h_ => List.mem_append_left _ h_) (dh.ltF 5 rfl)).snoc (m := (⟨aa.mux, k288, an, ao, [b289]⟩ : Wd)) (own_rd dg (Go.Tw.encI_len _) (by decide)) (by simp) (own_le dg) (fun b_ off_ e_ => List.mem_append_right _ (blk_one e_))
     refine WLq 1 [(89, .bool true)] (WLd rfl (QXn (gz _ _ ?_)))
     refine WCt rfl ?_
     refine WC.drawC dh (p :: Bd7) (by kernel_rfl) (fun kZ bt aC ak => ?_)
     have di := own_fr gs bt (by simp)
     have dj := spsAt_fr gu bt (by simp)
     have dk := lsAt_fr gv bt (by simp)
     have dn := qAt.fr gw bt (by simp)
     have dp := qAt.fr gx bt (by simp)
     have dq := wsIn.fr d3 bt (by simp)
     refine WDq (NPb (NPt (NPt (NPb (NPt hN))))) 0 90 (.pointer (some ⟨p, 0, none⟩)) ak ?_
     refine WDq (NPb (NPt (NPt (NPb (NPt hN))))) 1 91 (.pointer (some ⟨p, 0, none⟩)) ak ?_
     refine WDq (NPb (NPt (NPt (NPb (NPt hN))))) 2 92 (.pointer (some ⟨p, 0, none⟩)) ak ?_
     refine WDq (NPb (NPt (NPt (NPb (NPt hN))))) 3 93 (.pointer (some ⟨p, 3, none⟩)) ak ?_
     refine WDq (NPb (NPt (NPt (NPb (NPt hN))))) 5 95 (.pointer (some ⟨bA, 0, none⟩)) ak ?_
     refine WDm (NPb (NPt (NPt (NPb (NPt hN))))) 6 3 (.pointer (some ⟨bA, 0, none⟩)) (.int .i64 aa.mux) 96 (fun _ hS_ => run_ld (Fr.has hS_ (aC.get 1 rfl) (fun h_ => (List.mem_cons.1 h_).elim (aC.ne 1 0 rfl rfl (by decide)) (aC.notin 4 1 rfl rfl))) rfl) ak ?_
     refine WDm (NPb (NPt (NPt (NPb (NPt hN))))) 7 40 (.pointer (some ⟨d2, 0, none⟩)) (.agg #[.int .i64 k288, .slice an 1 ao, .slice none 0 0]) 97 (fun _ hS_ => run_ld (Fr.has hS_ (aC.get 2 rfl) (fun h_ => (List.mem_cons.1 h_).elim (aC.ne 2 0 rfl rfl (by decide)) (aC.notin 4 2 rfl rfl))) rfl) ak ?_
     refine WDq (NPb (NPt (NPt (NPb (NPt hN))))) 8 98 (.agg #[.int .i64 aa.mux, .int .i64 k288, .slice an 1 ao, .slice none 0 0]) ak ?_
     refine WD.all2 4 9 (by kernel_rfl) ?_ ?_
     ·
      refine WO.sem 4 (Instr.loadAt 58 (.pointer (some ⟨p, 3, none⟩))) 94 (.slice Ad7 nd7 cd7) (by kernel_rfl) (by kernel_rfl) (run_ld (aC.get 0 rfl) rfl) ak ?_
      refine WD.new 9 (fun b => .slice (some ⟨b, 0, none⟩) 1 1) (.cells #[.int .i64 aa.mux, .int .i64 k288, .slice an 1 ao, .slice none 0 0] 93) (by kernel_rfl) rfl rfl rfl rfl rfl (fun _ => by kernel_rfl) (fun j2 k0 dr ki aQ gA => ?_)
      have a5 := aC.callB aQ dr gA
      have gB := Nat.le_trans ak.size dr
      have ds := ak.trans aQ (by simp)
      refine ⟨ds, ?_⟩
      have gC := own_fr di aQ (by simp)
      have gD := spsAt_fr dj aQ (by simp)
      have gE := lsAt_fr dk aQ (by simp)
      have gF := qAt.fr dn aQ (by simp)
      have gG := qAt.fr dp aQ (by simp)
      have gH := wsIn.fr dq aQ (by simp)
      obtain ⟨ce, cf, B391, k1, gI, dt, a6, cE⟩ := qAt.app (P := Try.prog) gG 58 58 93 64 (⟨aa.mux, k288, an, ao, [b289]⟩ : Wd) (by kernel_rfl) (a5.get 3 rfl) (by omega) (by decide) (c1 := 1)
      have a7 := a5.callF 4 rfl a6 cE dt.lt
      have bH := ds.trans a6 (fun x_ h_ => .inl (List.mem_cons_of_mem _ h_))
      refine WD.sem 10 (Builtin.append_ #[58, 58] 58 #[.slice Ad7 nd7 cd7, .slice (some ⟨j2, 0, none⟩) 1 1]) 100 (.slice ce (nd7 + 1) cf) (by kernel_rfl) (by kernel_rfl) gI bH ?_
      have gJ := own_fr gC a6 (a5.disj 0 4 rfl rfl (by decide))
      have gK := spsAt_fr gD a6 (a5.disj 1 4 rfl rfl (by decide))
      have gL := lsAt_fr gE a6 (a5.disj 2 4 rfl rfl (by decide))
      have gM := qAt.fr gF a6 (a5.disj 3 4 rfl rfl (by decide))
      have gN := wsIn.fr gH a6 (a5.disj 5 4 rfl rfl (by decide))
      refine WDq (NPb (NPt (NPt (NPb (NPt hN))))) 11 101 (.pointer (some ⟨p, 0, none⟩)) bH ?_
      refine WDq (NPb (NPt (NPt (NPb (NPt hN))))) 12 102 (.pointer (some ⟨p, 3, none⟩)) bH ?_
      obtain ⟨k2, gO, a8, gP⟩ := sto_run (c' := #[.slice As ps.length cs, .pointer (some ⟨lp, 0, none⟩), .slice aE (n7 - 1) (c7 - 1), .slice ce (nd7 + 1) cf, .int .i64 now]) Try.prog a7 0 58 p 3 (.slice ce (nd7 + 1) cf) rfl (by kernel_rfl)
      have gQ := bH.trans a8 (by first | (simp; done) | (simp [*]; done) | (have q_ := bH.size; simp; omega))
      refine WD.semU 13 (Instr.storeAt 58 (.pointer (some ⟨p, 3, none⟩)) (.slice ce (nd7 + 1) cf)) (by kernel_rfl) (by kernel_rfl) gO gQ ?_
      have gR := own_fr gJ a8 (a7.apartM 0 0 rfl rfl)
      have gS := spsAt_fr gK a8 (a7.apartM 1 0 rfl rfl)
      have gT := lsAt_fr gL a8 (a7.apartM 2 0 rfl rfl)
      have gU := qAt.fr gM a8 (a7.apartM 3 0 rfl rfl)
      have gV := qAt.fr dt a8 (a7.apartM 4 0 rfl rfl)
      have gW := wsIn.fr gN a8 (a7.apartM 5 0 rfl rfl)
      refine WD.done (by kernel_rfl) ?_
      refine QXb ?_
      refine QXn (bo _ _ ?_)
      refine WCg (WLq 2 [(57, .int .i64 (IntKind.i64.wrap ((k : Int) + 1))), (56, .int .i64 (k : Int))] ?_)
      refine WLt (show (.int .i64 (IntKind.i64.wrap ((k : Int) + 1)) : Value) = .int .i64 ((k : Int) + 1) from by rw [wrap_in_i64 ((k : Int) + 1) (by omega) (by omega)]) ?_
      refine WLq 1 [(8, .int .i64 ((k : Int) + 1))] ?_
      refine WLd rfl ?_
      refine QXn ?_
      have gX := gP.pick [0] [0, 1, 2, 3, 4, 5] rfl rfl
      refine fun a_ ha_ => bn _ _ _ ?_ ⟨k + 1, F280, L281, aE, (n7 - 1), (c7 - 1), r7, B391, ce, (nd7 + 1), cf, (md7 ++ [(⟨aa.mux, k288, an, ao, [b289]⟩ : Wd)]), (R7 ++ blk (.slice an 1 ao)), rfl, rfl, gX, gR, gS, gT, gU, gV, (gW.sub (fun m_ h_ => by rw [← List.append_assoc] at h_; exact List.mem_cons_of_mem _ h_)), by omega, hc8_⟩ a_ (ha_.weaken (sub_of ⟨rfl, rfl, rfl, trivial⟩))
      omega
     ·
      refine WO.new 9 (fun b => .slice (some ⟨b, 0, none⟩) 1 1) (.cells #[.int .i64 aa.mux, .int .i64 k288, .slice an 1 ao, .slice none 0 0] 93) (by kernel_rfl) rfl rfl rfl rfl rfl (fun _ => by kernel_rfl) (fun j3 k3 du kj aR gY => ?_)
      have aS := aC.callB aR du gY
      have gZ := Nat.le_trans ak.size du
      have cg := ak.trans aR (by simp)
      refine ⟨cg, ?_⟩
      have g0 := own_fr di aR (by simp)
      have g1 := spsAt_fr dj aR (by simp)
      have g2 := lsAt_fr dk aR (by simp)
      have g3 := qAt.fr dn aR (by simp)
      have g4 := qAt.fr dp aR (by simp)
      have g5 := wsIn.fr dq aR (by simp)
      refine WD.sem 4 (Instr.loadAt 58 (.pointer (some ⟨p, 3, none⟩))) 94 (.slice Ad7 nd7 cd7) (by kernel_rfl) (by kernel_rfl) (run_ld (aS.get 0 rfl) rfl) cg ?_
      obtain ⟨ch, ci, B432, k4, g6, dv, a9, cF⟩ := qAt.app (P := Try.prog) g4 58 58 93 64 (⟨aa.mux, k288, an, ao, [b289]⟩ : Wd) (by kernel_rfl) (aS.get 3 rfl) (by omega) (by decide) (c1 := 1)
      have ba := aS.callF 4 rfl a9 cF dv.lt
      have bI := cg.trans a9 (fun x_ h_ => .inl (List.mem_cons_of_mem _ h_))
      refine WD.sem 10 (Builtin.append_ #[58, 58] 58 #[.slice Ad7 nd7 cd7, .slice (some ⟨j3, 0, none⟩) 1 1]) 100 (.slice ch (nd7 + 1) ci) (by kernel_rfl) (by kernel_rfl) g6 bI ?_
      have g7 := own_fr g0 a9 (aS.disj 0 4 rfl rfl (by decide))
      have g8 := spsAt_fr g1 a9 (aS.disj 1 4 rfl rfl (by decide))
      have g9 := lsAt_fr g2 a9 (aS.disj 2 4 rfl rfl (by decide))
      have ha := qAt.fr g3 a9 (aS.disj 3 4 rfl rfl (by decide))
      have hb := wsIn.fr g5 a9 (aS.disj 5 4 rfl rfl (by decide))
      refine WDq (NPb (NPt (NPt (NPb (NPt hN))))) 11 101 (.pointer (some ⟨p, 0, none⟩)) bI ?_
      refine WDq (NPb (NPt (NPt (NPb (NPt hN))))) 12 102 (.pointer (some ⟨p, 3, none⟩)) bI ?_
      obtain ⟨k5, hc, bb, hd⟩ := sto_run (c' := #[.slice As ps.length cs, .pointer (some ⟨lp, 0, none⟩), .slice aE (n7 - 1) (c7 - 1), .slice ch (nd7 + 1) ci, .int .i64 now]) Try.prog ba 0 58 p 3 (.slice ch (nd7 + 1) ci) rfl (by kernel_rfl)
      have he := bI.trans bb (by first | (simp; done) | (simp [*]; done) | (have q_ := bI.size; simp; omega))
      refine WD.semU 13 (Instr.storeAt 58 (.pointer (some ⟨p, 3, none⟩)) (.slice ch (nd7 + 1) ci)) (by kernel_rfl) (by kernel_rfl) hc he ?_
      have hf := own_fr g7 bb (ba.apartM 0 0 rfl rfl)
      have hg := spsAt_fr g8 bb (ba.apartM 1 0 rfl rfl)
      have hh := lsAt_fr g9 bb (ba.apartM 2 0 rfl rfl)
      have hl := qAt.fr ha bb (ba.apartM 3 0 rfl rfl)
      have hm := qAt.fr dv bb (ba.apartM 4 0 rfl rfl)
      have hn := wsIn.fr hb bb (ba.apartM 5 0 rfl rfl)
      refine WD.done (by kernel_rfl) ?_
      refine QXb ?_
      refine QXn (bo _ _ ?_)
      refine WCg (WLq 2 [(57, .int .i64 (IntKind.i64.wrap ((k : Int) + 1))), (56, .int .i64 (k : Int))] ?_)
      refine WLt (show (.int .i64 (IntKind.i64.wrap ((k : Int) + 1)) : Value) = .int .i64 ((k : Int) + 1) from by rw [wrap_in_i64 ((k : Int) + 1) (by omega) (by omega)]) ?_
      refine WLq 1 [(8, .int .i64 ((k : Int) + 1))] ?_
      refine WLd rfl ?_
      refine QXn ?_
      have ho := hd.pick [0] [0, 1, 2, 3, 4, 5] rfl rfl
      refine fun a_ ha_ => bn _ _ _ ?_ ⟨k + 1, F280, L281, aE, (n7 - 1), (c7 - 1), r7, B432, ch, (nd7 + 1), ci, (md7 ++ [(⟨aa.mux, k288, an, ao, [b289]⟩ : Wd)]), (R7 ++ blk (.slice an 1 ao)), rfl, rfl, ho, hf, hg, hh, hl, hm, (hn.sub (fun m_ h_ => by rw [← List.append_assoc] at h_; exact List.mem_cons_of_mem _ h_)), by omega, hc8_⟩ a_ (ha_.weaken (sub_of ⟨rfl, rfl, rfl, trivial⟩))
      omega
   ·
    refine WO.new 17 (fun b => .pointer (some ⟨b, 0, none⟩)) (.cells #[.int .i64 0, .slice none 0 0, .slice none 0 0] 40) (by kernel_rfl) rfl rfl rfl rfl rfl (fun _ => by kernel_rfl) (fun cj j4 dw kk aT hq => ?_)
    have au := ac.callB aT dw hq
    have hr := Nat.le_trans ad.size dw
    have ck := ad.trans aT (by simp)
    refine ⟨ck, ?_⟩
    have dx := own_fr b4 aT (by simp)
    have dy := spsAt_fr b5 aT (by simp)
    have hs := lsAt_fr db aT (by simp)
    have dz := qAt.fr b6 aT (by simp)
    have dA := qAt.fr b7 aT (by simp)
    have cl := wsIn.fr bU aT (by simp)
    have hwm_ := cl.1 aa (by simp)
    refine WD.call 13 (by kernel_rfl) rfl rfl rfl rfl rfl (by kernel_rfl) (Recv_n Fl7 lp L7 (32 + aa.mux) aa.kind now aa.a aa.nums.length aa.c aa.nums none 0 0 j4 hs ⟨by omega, by omega⟩ hwm_.1 rfl (Nat.le_trans hwm_.2.1.1 (by decide)) hwm_.2.1.2) ?_
    rintro _ k6 (⟨F471, L472, rfl, ah, bc, bC, cm⟩ | ⟨F471, L472, k479, b480, ap, aq, rfl, ah, bc, bC, cm, cn, cG⟩)
    ·
     have al := ck.trans ah (fun _ h_ => .inl h_)
     have ae := au.callF 2 rfl ah bC (lsAt_lt bc)
     have hc8_ := hC7i.none ht hT htl cm
     refine ⟨_, rfl, al, ?_⟩
     have hv := own_fr dx ah (au.disj 0 2 rfl rfl (by decide))
     have hw := spsAt_fr dy ah (au.disj 1 2 rfl rfl (by decide))
     have hx := qAt.fr dz ah (au.disj 3 2 rfl rfl (by decide))
     have hy := qAt.fr dA ah (au.disj 4 2 rfl rfl (by decide))
     have hz := wsIn.fr cl ah (au.disj 5 2 rfl rfl (by decide))
     refine WDq (NPt (NPb (NPt (NPt (NPb (NPt hN)))))) 14 72 (.tuple #[.agg #[.int .i64 0, .slice none 0 0, .slice none 0 0], .bool false]) al ?_
     refine WDq (NPt (NPb (NPt (NPt (NPb (NPt hN)))))) 15 87 (.agg #[.int .i64 0, .slice none 0 0, .slice none 0 0]) al ?_
     refine WDq (NPt (NPb (NPt (NPt (NPb (NPt hN)))))) 16 88 (.bool false) al ?_
     obtain ⟨k7, hA, bd, hB⟩ := sto_run (c' := #[.int .i64 0, .slice none 0 0, .slice none 0 0]) Try.prog ae 2 40 cj 0 (.agg #[.int .i64 0, .slice none 0 0, .slice none 0 0]) rfl (by kernel_rfl)
     have dB := al.trans bd (by first | (simp; done) | (simp [*]; done) | (have q_ := al.size; simp; omega))
     refine WD.semU 18 (Instr.storeAt 40 (.pointer (some ⟨cj, 0, none⟩)) (.agg #[.int .i64 0, .slice none 0 0, .slice none 0 0])) (by kernel_rfl) (by kernel_rfl) hA dB ?_
     have hD := own_fr hv bd (ae.apartM 0 2 rfl rfl)
     have hE := spsAt_fr hw bd (ae.apartM 1 2 rfl rfl)
     have hF := lsAt_fr bc bd (ae.apartM 2 2 rfl rfl)
     have hG := qAt.fr hx bd (ae.apartM 3 2 rfl rfl)
     have hH := qAt.fr hy bd (ae.apartM 4 2 rfl rfl)
     have hI := wsIn.fr hz bd (ae.apartM 5 2 rfl rfl)
     refine WDq (NPt (NPb (NPt (NPt (NPb (NPt hN)))))) 19 11 (.bool false) dB ?_
     refine WD.done (by kernel_rfl) ?_
     refine QXn (bT _ _ ?_)
     refine WCs (fun k8 hJ => ?_)
     refine WCg (WLq 1 [(89, .bool false)] (WLd rfl (QXn (hJ _ _ ?_))))
     refine WCf rfl (WC.skip ?_)
     refine QXb ?_
     refine QXn (bo _ _ ?_)
     refine WCg (WLq 2 [(57, .int .i64 (IntKind.i64.wrap ((k : Int) + 1))), (56, .int .i64 (k : Int))] ?_)
     refine WLt (show (.int .i64 (IntKind.i64.wrap ((k : Int) + 1)) : Value) = .int .i64 ((k : Int) + 1) from by rw [wrap_in_i64 ((k : Int) + 1) (by omega) (by omega)]) ?_
     refine WLq 1 [(8, .int .i64 ((k : Int) + 1))] ?_
     refine WLd rfl ?_
     refine QXn ?_
     have hK := hB.pick [0] [0, 1, 2, 3, 4, 5] rfl rfl
     refine fun a_ ha_ => bn _ _ _ ?_ ⟨k + 1, F471, L472, aE, (n7 - 1), (c7 - 1), r7, Bd7, Ad7, nd7, cd7, md7, R7, rfl, rfl, hK, hD, hE, hF, hG, hH, (hI.sub (fun m_ h_ => List.mem_cons_of_mem _ h_)), by omega, hc8_⟩ a_ (ha_.weaken (sub_of ⟨rfl, rfl, rfl, trivial⟩))
     omega
    ·
     have al := ck.trans ah (fun _ h_ => .inl h_)
     have ae := au.callFN 2 rfl ah bC (lsAt_lt bc) (own_ge cn) (own_lt cn) cG
     have hc8_ := hC7i.some (m2 := ⟨aa.mux, k479, ap, aq, [b480]⟩) ht hT htl cm rfl
     refine ⟨_, rfl, al, ?_⟩
     have hL := own_base (b' := 0) cn (fun _ _ => Nat.zero_le _)
     have hM := own_fr dx ah (au.disj 0 2 rfl rfl (by decide))
     have hO := spsAt_fr dy ah (au.disj 1 2 rfl rfl (by decide))
     have hP := qAt.fr dz ah (au.disj 3 2 rfl rfl (by decide))
     have hQ := qAt.fr dA ah (au.disj 4 2 rfl rfl (by decide))
     have hS := wsIn.fr cl ah (au.disj 5 2 rfl rfl (by decide))
     refine WDq (NPt (NPb (NPt (NPt (NPb (NPt hN)))))) 14 72 (.tuple #[.agg #[.int .i64 k479, .slice ap 1 aq, .slice none 0 0], .bool true]) al ?_
     refine WDq (NPt (NPb (NPt (NPt (NPb (NPt hN)))))) 15 87 (.agg #[.int .i64 k479, .slice ap 1 aq, .slice none 0 0]) al ?_
     refine WDq (NPt (NPb (NPt (NPt (NPb (NPt hN)))))) 16 88 (.bool true) al ?_
     obtain ⟨la, hU, aU, hV⟩ := sto_run (c' := #[.int .i64 k479, .slice ap 1 aq, .slice none 0 0]) Try.prog ae 2 40 cj 0 (.agg #[.int .i64 k479, .slice ap 1 aq, .slice none 0 0]) rfl (by kernel_rfl)
     have dC := al.trans aU (by first | (simp; done) | (simp [*]; done) | (have q_ := al.size; simp; omega))
     refine WD.semU 18 (Instr.storeAt 40 (.pointer (some ⟨cj, 0, none⟩)) (.agg #[.int .i64 k479, .slice ap 1 aq, .slice none 0 0])) (by kernel_rfl) (by kernel_rfl) hU dC ?_
     have hW := own_fr hM aU (ae.apartM 0 2 rfl rfl)
     have hX := spsAt_fr hO aU (ae.apartM 1 2 rfl rfl)
     have hY := lsAt_fr bc aU (ae.apartM 2 2 rfl rfl)
     have hZ := qAt.fr hP aU (ae.apartM 3 2 rfl rfl)
     have h0 := qAt.fr hQ aU (ae.apartM 4 2 rfl rfl)
     have h1 := wsIn.fr hS aU (ae.apartM 5 2 rfl rfl)
     have dD := own_fr hL aU (ae.apartM 6 2 rfl rfl)
     refine WDq (NPt (NPb (NPt (NPt (NPb (NPt hN)))))) 19 11 (.bool true) dC ?_
     refine WD.done (by kernel_rfl) ?_
     refine QXn (bT _ _ ?_)
     refine WCs (fun lb h2 => ?_)
     refine WCg ?_
     have dE := Cx.mergeL (Fs := [blk (.slice As ps.length cs), F5, F471, B5, Bd7, R7]) (G := blk (.slice ap 1 aq)) hV 5 rfl
     have d4 := (h1.mono (S := (R7 ++ blk (.slice ap 1 aq))) (fun x_ h_ => List.mem_append_left _ h_) (dE.ltF 5 rfl)).snoc (m := (⟨aa.mux, k479, ap, aq, [b480]⟩ : Wd)) (own_rd dD (Go.Tw.encI_len _) (by decide)) (by simp) (own_le dD) (fun b_ off_ e_ => List.mem_append_right _ (blk_one e_))
     refine WLq 1 [(89, .bool true)] (WLd rfl (QXn (h2 _ _ ?_)))
     refine WCt rfl ?_
     refine WC.drawC dE (p :: Bd7) (by kernel_rfl) (fun lc bu aD am => ?_)
     have dF := own_fr hW bu (by simp)
     have dG := spsAt_fr hX bu (by simp)
     have dH := lsAt_fr hY bu (by simp)
     have dI := qAt.fr hZ bu (by simp)
     have dJ := qAt.fr h0 bu (by simp)
     have dK := wsIn.fr d4 bu (by simp)
     refine WDq (NPb (NPt (NPt (NPb (NPt hN))))) 0 90 (.pointer (some ⟨p, 0, none⟩)) am ?_
     refine WDq (NPb (NPt (NPt (NPb (NPt hN))))) 1 91 (.pointer (some ⟨p, 0, none⟩)) am ?_
     refine WDq (NPb (NPt (NPt (NPb (NPt hN))))) 2 92 (.pointer (some ⟨p, 0, none⟩)) am ?_
     refine WDq (NPb (NPt (NPt (NPb (NPt hN))))) 3 93 (.pointer (some ⟨p, 3, none⟩)) am ?_
     refine WDq (NPb (NPt (NPt (NPb (NPt hN))))) 5 95 (.pointer (some ⟨bA, 0, none⟩)) am ?_
     refine WDm (NPb (NPt (NPt (NPb (NPt hN))))) 6 3 (.pointer (some ⟨bA, 0, none⟩)) (.int .i64 aa.mux) 96 (fun _ hS_ => run_ld (Fr.has hS_ (aD.get 1 rfl) (fun h_ => (List.mem_cons.1 h_).elim (aD.ne 1 0 rfl rfl (by decide)) (aD.notin 4 1 rfl rfl))) rfl) am ?_
     refine WDm (NPb (NPt (NPt (NPb (NPt hN))))) 7 40 (.pointer (some ⟨cj, 0, none⟩)) (.agg #[.int .i64 k479, .slice ap 1 aq, .slice none 0 0]) 97 (fun _ hS_ => run_ld (Fr.has hS_ (aD.get 2 rfl) (fun h_ => (List.mem_cons.1 h_).elim (aD.ne 2 0 rfl rfl (by decide)) (aD.notin 4 2 rfl rfl))) rfl) am ?_
     refine WDq (NPb (NPt (NPt (NPb (NPt hN))))) 8 98 (.agg #[.int .i64 aa.mux, .int .i64 k479, .slice ap 1 aq, .slice none 0 0]) am ?_
     refine WD.all2 4 9 (by kernel_rfl) ?_ ?_
     ·
      refine WO.sem 4 (Instr.loadAt 58 (.pointer (some ⟨p, 3, none⟩))) 94 (.slice Ad7 nd7 cd7) (by kernel_rfl) (by kernel_rfl) (run_ld (aD.get 0 rfl) rfl) am ?_
      refine WD.new 9 (fun b => .slice (some ⟨b, 0, none⟩) 1 1) (.cells #[.int .i64 aa.mux, .int .i64 k479, .slice ap 1 aq, .slice none 0 0] 93) (by kernel_rfl) rfl rfl rfl rfl rfl (fun _ => by kernel_rfl) (fun j5 lf dL kl aV h3 => ?_)
      have be := aD.callB aV dL h3
      have h4 := Nat.le_trans am.size dL
      have dM := am.trans aV (by simp)
      refine ⟨dM, ?_⟩
      have h5 := own_fr dF aV (by simp)
      have h6 := spsAt_fr dG aV (by simp)
      have h7 := lsAt_fr dH aV (by simp)
      have h8 := qAt.fr dI aV (by simp)
      have h9 := qAt.fr dJ aV (by simp)
      have ia := wsIn.fr dK aV (by simp)
      obtain ⟨co, cp, B553, lg, ib, dN, bf, cH⟩ := qAt.app (P := Try.prog) h9 58 58 93 64 (⟨aa.mux, k479, ap, aq, [b480]⟩ : Wd) (by kernel_rfl) (be.get 3 rfl) (by omega) (by decide) (c1 := 1)
      have bg := be.callF 4 rfl bf cH dN.lt
      have bJ := dM.trans bf (fun x_ h_ => .inl (List.mem_cons_of_mem _ h_))
      refine WD.sem 10 (Builtin.append_ #[58, 58] 58 #[.slice Ad7 nd7 cd7, .slice (some ⟨j5, 0, none⟩) 1 1]) 100 (.slice co (nd7 + 1) cp) (by kernel_rfl) (by kernel_rfl) ib bJ ?_
      have ic := own_fr h5 bf (be.disj 0 4 rfl rfl (by decide))
      have ie := spsAt_fr h6 bf (be.disj 1 4 rfl rfl (by decide))
      have ig := lsAt_fr h7 bf (be.disj 2 4 rfl rfl (by decide))
      have ih := qAt.fr h8 bf (be.disj 3 4 rfl rfl (by decide))
      have ii := wsIn.fr ia bf (be.disj 5 4 rfl rfl (by decide))
      refine WDq (NPb (NPt (NPt (NPb (NPt hN))))) 11 101 (.pointer (some ⟨p, 0, none⟩)) bJ ?_
      refine WDq (NPb (NPt (NPt (NPb (NPt hN))))) 12 102 (.pointer (some ⟨p, 3, none⟩)) bJ ?_
      obtain ⟨lh, ij, bh, ik⟩ := sto_run (c' := #[.slice As ps.length cs, .pointer (some ⟨lp, 0, none⟩), .slice aE (n7 - 1) (c7 - 1), .slice co (nd7 + 1) cp, .int .i64 now]) Try.prog bg 0 58 p 3 (.slice co (nd7 + 1) cp) rfl (by kernel_rfl)
      have il := bJ.trans bh (by first | (simp; done) | (simp [*]; done) | (have q_ := bJ.size; simp; omega))
      refine WD.semU 13 (Instr.storeAt 58 (.pointer (some ⟨p, 3, none⟩)) (.slice co (nd7 + 1) cp)) (by kernel_rfl) (by kernel_rfl) ij il ?_
      have im := own_fr ic bh (bg.apartM 0 0 rfl rfl)
      have io := spsAt_fr ie bh (bg.apartM 1 0 rfl rfl)
      have ip := lsAt_fr ig bh (bg.apartM 2 0 rfl rfl)
      have iq := qAt.fr ih bh (bg.apartM 3 0 rfl rfl)
      have ir := qAt.fr dN bh (bg.apartM 4 0 rfl rfl)
      have it := wsIn.fr ii bh (bg.apartM 5 0 rfl rfl)
      refine WD.done (by kernel_rfl) ?_
      refine QXb ?_
      refine QXn (bo _ _ ?_)
      refine WCg (WLq 2 [(57, .int .i64 (IntKind.i64.wrap ((k : Int) + 1))), (56, .int .i64 (k : Int))] ?_)
      refine WLt (show (.int .i64 (IntKind.i64.wrap ((k : Int) + 1)) : Value) = .int .i64 ((k : Int) + 1) from by rw [wrap_in_i64 ((k : Int) + 1) (by omega) (by omega)]) ?_
      refine WLq 1 [(8, .int .i64 ((k : Int) + 1))] ?_
      refine WLd rfl ?_
      refine QXn ?_
      have iu := ik.pick [0] [0, 1, 2, 3, 4, 5] rfl rfl
      refine fun a_ ha_ => bn _ _ _ ?_ ⟨k + 1, F471, L472, aE, (n7 - 1), (c7 - 1), r7, B553, co, (nd7 + 1), cp, (md7 ++ [(⟨aa.mux, k479, ap, aq, [b480]⟩ : Wd)]), (R7 ++ blk (.slice ap 1 aq)), rfl, rfl, iu, im, io, ip, iq, ir, (it.sub (fun m_ h_ => by rw [← List.append_assoc] at h_; exact List.mem_cons_of_mem _ h_)), by omega, hc8_⟩ a_ (ha_.weaken (sub_of ⟨rfl, rfl, rfl, trivial⟩))
      omega
     ·
      refine WO.new 9 (fun b => .slice (some ⟨b, 0, none⟩) 1 1) (.cells #[.int .i64 aa.mux, .int .i64 k479, .slice ap 1 aq, .slice none 0 0] 93) (by kernel_rfl) rfl rfl rfl rfl rfl (fun _ => by kernel_rfl) (fun j6 li dO km aW iv => ?_)
      have aX := aD.callB aW dO iv
      have iw := Nat.le_trans am.size dO
      have cq := am.trans aW (by simp)
      refine ⟨cq, ?_⟩
      have ix := own_fr dF aW (by simp)
      have iy := spsAt_fr dG aW (by simp)
      have iz := lsAt_fr dH aW (by simp)
      have iA := qAt.fr dI aW (by simp)
      have iB := qAt.fr dJ aW (by simp)
      have iC := wsIn.fr dK aW (by simp)
      refine WD.sem 4 (Instr.loadAt 58 (.pointer (some ⟨p, 3, none⟩))) 94 (.slice Ad7 nd7 cd7) (by kernel_rfl) (by kernel_rfl) (run_ld (aX.get 0 rfl) rfl) cq ?_
      obtain ⟨cr, ct, B594, lj, iD, dP, bi, cI⟩ := qAt.app (P := Try.prog) iB 58 58 93 64 (⟨aa.mux, k479, ap, aq, [b480]⟩ : Wd) (by kernel_rfl) (aX.get 3 rfl) (by omega) (by decide) (c1 := 1)
      have bj := aX.callF 4 rfl bi cI dP.lt
      have bK := cq.trans bi (fun x_ h_ => .inl (List.mem_cons_of_mem _ h_))
      refine WD.sem 10 (Builtin.append_ #[58, 58] 58 #[.slice Ad7 nd7 cd7, .slice (some ⟨j6, 0, none⟩) 1 1]) 100 (.slice cr (nd7 + 1) ct) (by kernel_rfl) (by kernel_rfl) iD bK ?_
      have iE := own_fr ix bi (aX.disj 0 4 rfl rfl (by decide))
      have iF := spsAt_fr iy bi (aX.disj 1 4 rfl rfl (by decide))
      have iG := lsAt_fr iz bi (aX.disj 2 4 rfl rfl (by decide))
      have iH := qAt.fr iA bi (aX.disj 3 4 rfl rfl (by decide))
      have iI := wsIn.fr iC bi (aX.disj 5 4 rfl rfl (by decide))
      refine WDq (NPb (NPt (NPt (NPb (NPt hN))))) 11 101 (.pointer (some ⟨p, 0, none⟩)) bK ?_
      refine WDq (NPb (NPt (NPt (NPb (NPt hN))))) 12 102 (.pointer (some ⟨p, 3, none⟩)) bK ?_
      obtain ⟨lk, iJ, bk, iK⟩ := sto_run (c' := #[.slice As ps.length cs, .pointer (some ⟨lp, 0, none⟩), .slice aE (n7 - 1) (c7 - 1), .slice cr (nd7 + 1) ct, .int .i64 now]) Try.prog bj 0 58 p 3 (.slice cr (nd7 + 1) ct) rfl (by kernel_rfl)
      have iL := bK.trans bk (by first | (simp; done) | (simp [*]; done) | (have q_ := bK.size; simp; omega))
      refine WD.semU 13 (Instr.storeAt 58 (.pointer (some ⟨p, 3, none⟩)) (.slice cr (nd7 + 1) ct)) (by kernel_rfl) (by kernel_rfl) iJ iL ?_
      have iM := own_fr iE bk (bj.apartM 0 0 rfl rfl)
      have iN := spsAt_fr iF bk (bj.apartM 1 0 rfl rfl)
      have iO := lsAt_fr iG bk (bj.apartM 2 0 rfl rfl)
      have iP := qAt.fr iH bk (bj.apartM 3 0 rfl rfl)
      have iQ := qAt.fr dP bk (bj.apartM 4 0 rfl rfl)
      have iR := wsIn.fr iI bk (bj.apartM 5 0 rfl rfl)
      refine WD.done (by kernel_rfl) ?_
      refine QXb ?_
      refine QXn (bo _ _ ?_)
      refine WCg (WLq 2 [(57, .int .i64 (IntKind.i64.wrap ((k : Int) + 1))), (56, .int .i64 (k : Int))] ?_)
      refine WLt (show (.int .i64 (IntKind.i64.wrap ((k : Int) + 1)) : Value) = .int .i64 ((k : Int) + 1) from by rw [wrap_in_i64 ((k : Int) + 1) (by omega) (by omega)]) ?_
      refine WLq 1 [(8, .int .i64 ((k : Int) + 1))] ?_
      refine WLd rfl ?_
      refine QXn ?_
      have iS := iK.pick [0] [0, 1, 2, 3, 4, 5] rfl rfl
      refine fun a_ ha_ => bn _ _ _ ?_ ⟨k + 1, F471, L472, aE, (n7 - 1), (c7 - 1), r7, B594, cr, (nd7 + 1), ct, (md7 ++ [(⟨aa.mux, k479, ap, aq, [b480]⟩ : Wd)]), (R7 ++ blk (.slice ap 1 aq)), rfl, rfl, iS, iM, iN, iO, iP, iQ, (iR.sub (fun m_ h_ => by rw [← List.append_assoc] at h_; exact List.mem_cons_of_mem _ h_)), by omega, hc8_⟩ a_ (ha_.weaken (sub_of ⟨rfl, rfl, rfl, trivial⟩))
      omega
  ·
   have j0 : (n7 : Int) ≤ 0 := by have q_ := of_decide_eq_false b3; omega
   refine WCf rfl ?_
   obtain rfl : n7 = 0 := by omega
   obtain rfl : ms7 = [] := List.eq_nil_of_length_eq_zero (by omega)
   have hD0_ := hC7i.toD hVall_ hA5.vs
   skip
   refine WC.exit ?_
   refine QXe ?_
   refine QXe ?_
   refine QX.block_hit ?_
   refine QXn (c0 _ _ ?_)
   refine WCs (fun ll dQ => ?_)
   refine WCg (WLq 1 [(12, .int .i64 0)] (WLd rfl (QXn (dQ _ _ ?_))))
   refine WC.block ?_
   refine WC.loop (fun m_ E_ w_ => ∃ (k9 : Nat) (F8 : List Nat) (S8 : List SpS) (Ad9 : Option Addr) (nd9 cd9 : Nat) (md9 : List Wd), m_ = 1000 - k9 ∧ E_ = [(0, .pointer (some ⟨p, 0, none⟩)), (1, .int .i64 1000), (12, .int .i64 (k9 : Int))] ∧ Cx w F w_ [(p, .cells #[.slice As ps.length cs, .pointer (some ⟨lp, 0, none⟩), .slice A7 0 c7, .slice Ad9 nd9 cd9, .int .i64 now] 60)] [blk (.slice As ps.length cs), F8, Fl7, B5, Bd7, R7] ∧ World.ownsRow w_ 0 24 1 (.slice As ps.length cs) ps.length (ps.flatMap encPt) ∧ lsAt w_ Fl7 lp L7 ∧ qAt w_ B5 A7 0 c7 [] ∧ spsAt w_ F8 ps S8 ∧ qAt w_ Bd7 Ad9 nd9 cd9 md9 ∧ wsIn w_ R7 md9 ∧ (k9 ≤ 1000 ∧ LpD T tl G S L7 c k9 S8 md9)) ⟨_, _, ⟨0, F5, S5, Ad7, nd7, cd7, md7, rfl, rfl, bS, spr_m213, hls7, hqu7, sps_m213, hqd7, hpl7, Nat.zero_le _, hD0_⟩, sub_of ⟨rfl, rfl, rfl, trivial⟩⟩ (fun m624 E_ lm ln iT iU => ?_)
   obtain ⟨k9, F8, S8, Ad9, nd9, cd9, md9, rfl, rfl, bL, spr_m624, ls_m624, qu_m624, hsps9, hqd9, hpl9, hk9, hD9⟩ := iU
   have hdl9_ := hqd9.len
   have hqe9_ := hqd9.le
   have hl9_ := hD9.len
   have hsl9_ := spsAt_len hsps9
   refine WCs (fun lo dR => ?_)
   refine WCs (fun lq dS => ?_)
   refine WCg (WLq 4 [(106, .bool (decide ((k9 : Int) < 1000))), (105, .bool (decide ((k9 : Int) < 1000))), (104, .int .i64 1000), (103, .int .i64 (k9 : Int))] ?_)
   refine WL.know 106 (.bool (decide ((k9 : Int) < 1000))) (.bool true) rfl (congrArg Value.bool (by exact decide_eq_true (by omega))) ?_
   refine WLq 3 [(109, .pointer (some ⟨p, 3, none⟩)), (108, .pointer (some ⟨p, 0, none⟩)), (107, .pointer (some ⟨p, 0, none⟩))] ?_
   refine WLo 58 (.pointer (some ⟨p, 3, none⟩)) (.slice Ad9 nd9 cd9) 110 (run_ld (bL.get 0 rfl) rfl) ?_
   refine WLq 3 [(113, .bool (decide ((nd9 : Int) > 0))), (112, .bool (decide ((nd9 : Int) > 0))), (111, .int .i64 (nd9 : Int))] (WLd rfl (QXn (dS _ _ ?_)))
   refine WCa 113 (decide ((nd9 : Int) > 0)) rfl (fun cv => ?_) (fun cv => ?_)
   ·
    have j7 : (0 : Int) < (nd9 : Int) := by have q_ := of_decide_eq_true cv; omega
    refine WCt rfl ?_
    refine WC.skip ?_
    refine QXn (dR _ _ ?_)
    refine WCs (fun lr iV => ?_)
    refine WC.block ?_
    refine WCs (fun ls iW => ?_)
    refine WCg (WLq 3 [(118, .pointer (some ⟨p, 3, none⟩)), (117, .pointer (some ⟨p, 0, none⟩)), (116, .pointer (some ⟨p, 0, none⟩))] ?_)
    refine WLo 58 (.pointer (some ⟨p, 3, none⟩)) (.slice Ad9 nd9 cd9) 119 (run_ld (bL.get 0 rfl) rfl) ?_
    obtain ⟨ab, dT⟩ := get_some (xs := md9) (i := 0) (by omega)
    obtain ⟨b638, o640, iX, iY⟩ := hqd9.rd.at_ _ _ dT
    refine WLi Ad9 nd9 cd9 120 .i64 0 b638 o640 0 4 (by kernel_rfl) iX (by omega) (by omega) (o640 + 0 * 4) (by first | (simp; done) | omega) ?_
    refine WLo 93 (.pointer (some ⟨b638, o640 + 0 * 4, none⟩)) (.agg #[.int .i64 ab.mux, .int .i64 ab.kind, .slice ab.a ab.nums.length ab.c, .slice none 0 0]) 121 (run_rdN (l := [.int .i64 ab.mux, .int .i64 ab.kind, .slice ab.a ab.nums.length ab.c, .slice none 0 0]) rfl rfl (fun j u hu => by have hq_ := iY j u hu; simpa [Nat.add_assoc] using hq_)) ?_
    refine WL.newM bL (fun b => .pointer (some ⟨b, 0, none⟩)) (.cells #[.int .i64 0, .int .i64 0, .slice none 0 0, .slice none 0 0] 93) 13 (fun _ => by kernel_rfl) (fun cw lu kn bv bl => ?_)
    have iZ := own_fr spr_m624 bv (by simp)
    have i0 := lsAt_fr ls_m624 bv (by simp)
    have i1 := qAt.fr qu_m624 bv (by simp)
    have i2 := spsAt_fr hsps9 bv (by simp)
    have i3 := qAt.fr hqd9 bv (by simp)
    have i4 := wsIn.fr hpl9 bv (by simp)
    refine WLs (c' := #[.int .i64 ab.mux, .int .i64 ab.kind, .slice ab.a ab.nums.length ab.c, .slice none 0 0]) bl 1 93 cw 0 (.agg #[.int .i64 ab.mux, .int .i64 ab.kind, .slice ab.a ab.nums.length ab.c, .slice none 0 0]) (by kernel_rfl) rfl (by kernel_rfl) (fun lv bw aY => ?_)
    have i5 := own_fr iZ bw (bl.apartM 0 1 rfl rfl)
    have i6 := lsAt_fr i0 bw (bl.apartM 2 1 rfl rfl)
    have i7 := qAt.fr i1 bw (bl.apartM 3 1 rfl rfl)
    have i8 := spsAt_fr i2 bw (bl.apartM 1 1 rfl rfl)
    have i9 := qAt.fr i3 bw (bl.apartM 4 1 rfl rfl)
    have ja := wsIn.fr i4 bw (bl.apartM 5 1 rfl rfl)
    obtain ⟨r9, rfl⟩ := cons_of0 dT
    obtain ⟨ir9, hir9, hmir9⟩ := hD9.inv.dm (wdV ab) (by simp)
    have hmxr9 : ab.mux = (ir9 : Int) := hmir9
    have hl8r9 := hD9.inv.len
    have hwm_r9 := hpl9.1 ab (by simp)
    simp only [List.length_cons] at hdl9_ hl9_
    refine WLd rfl (QXn (iW _ _ ?_))
    refine WCs (fun lw jb => ?_)
    refine WCg (WLq 4 [(125, .pointer (some ⟨p, 3, none⟩)), (124, .pointer (some ⟨p, 0, none⟩)), (123, .pointer (some ⟨p, 0, none⟩)), (122, .pointer (some ⟨p, 0, none⟩))] ?_)
    refine WLo 58 (.pointer (some ⟨p, 3, none⟩)) (.slice Ad9 nd9 cd9) 126 (run_ld (aY.get 0 rfl) rfl) ?_
    obtain ⟨cJ, dU⟩ : ∃ A_, slcAt Ad9 1 cd9 4 = A_ := ⟨_, rfl⟩
    have jc : nd9 ≤ cd9 := by omega
    refine WL.slc 58 93 4 Ad9 cJ nd9 cd9 1 nd9 (nd9 - 1) (cd9 - 1) (some (.int .i64 1)) none 127 (by kernel_rfl) (by kernel_rfl) (bnd.yes (by omega)) bnd.no (by omega) jc dU (by first | rfl | omega) (by first | rfl | omega) ?_
    have dW := i9.pop
    rw [dU] at dW
    refine WLq 2 [(129, .pointer (some ⟨p, 3, none⟩)), (128, .pointer (some ⟨p, 0, none⟩))] ?_
    refine WLs (c' := #[.slice As ps.length cs, .pointer (some ⟨lp, 0, none⟩), .slice A7 0 c7, .slice cJ (nd9 - 1) (cd9 - 1), .int .i64 now]) aY 0 58 p 3 (.slice cJ (nd9 - 1) (cd9 - 1)) (by kernel_rfl) rfl (by kernel_rfl) (fun lx bx jd => ?_)
    have je := own_fr i5 bx (aY.apartM 0 0 rfl rfl)
    have jf := lsAt_fr i6 bx (aY.apartM 2 0 rfl rfl)
    have jg := qAt.fr i7 bx (aY.apartM 3 0 rfl rfl)
    have jh := spsAt_fr i8 bx (aY.apartM 1 0 rfl rfl)
    have ji := qAt.fr dW bx (aY.apartM 4 0 rfl rfl)
    have jj := wsIn.fr ja bx (aY.apartM 5 0 rfl rfl)
    refine WLd rfl (QXn (jb _ _ ?_))
    refine WC.drawC jd F8 (by kernel_rfl) (fun j8 bz av ax => ?_)
    have bV := own_fr je bz (by simp)
    have jk := lsAt_fr jf bz (by simp)
    have jl := qAt.fr jg bz (by simp)
    have jm := spsAt_fr jh bz (by simp)
    have jn := qAt.fr ji bz (by simp)
    have dX := wsIn.fr jj bz (by simp)
    refine WDq (NPb (NPt (NPt (NPb hN)))) 0 130 (.pointer (some ⟨p, 0, none⟩)) ax ?_
    refine WDq (NPb (NPt (NPt (NPb hN)))) 1 131 (.pointer (some ⟨p, 0, none⟩)) ax ?_
    refine WDq (NPb (NPt (NPt (NPb hN)))) 2 132 (.pointer (some ⟨p, 0, none⟩)) ax ?_
    refine WDq (NPb (NPt (NPt (NPb hN)))) 4 134 (.pointer (some ⟨cw, 0, none⟩)) ax ?_
    refine WDq (NPb (NPt (NPt (NPb hN)))) 8 138 (.pointer (some ⟨cw, 1, none⟩)) ax ?_
    refine WDm (NPb (NPt (NPt (NPb hN)))) 3 57 (.pointer (some ⟨p, 0, none⟩)) (.slice As ps.length cs) 133 (fun _ hS_ => run_ld (Fr.has hS_ (av.get 0 rfl) (av.notin 1 0 rfl rfl)) rfl) ax ?_
    refine WDm (NPb (NPt (NPt (NPb hN)))) 9 40 (.pointer (some ⟨cw, 1, none⟩)) (.agg #[.int .i64 ab.kind, .slice ab.a ab.nums.length ab.c, .slice none 0 0]) 139 (fun _ hS_ => run_ld (Fr.has hS_ (av.get 1 rfl) (av.notin 1 1 rfl rfl)) rfl) ax ?_
    refine WD.sem 5 (Instr.loadAt 3 (.pointer (some ⟨cw, 0, none⟩))) 135 (.int .i64 ab.mux) (by kernel_rfl) (by kernel_rfl) (run_ld (av.get 1 rfl) rfl) ax ?_
    refine WD.recast (show (.int .i64 ab.mux : Value) = .int .i64 (ir9 : Int) from by rw [hmxr9]) ?_
    have ko := own_count encPt_len (by decide) bV
    obtain ⟨j9, cx⟩ := get_some (xs := ps) (i := ir9) (by omega)
    obtain ⟨b691, dY⟩ := own_addr (by decide) encPt_len bV cx
    refine WDi (NPb (NPt (NPt (NPb hN)))) 6 As ps.length cs 136 .i64 (ir9 : Int) b691 0 ir9 1 (by kernel_rfl) (by kernel_rfl) dY (by omega) (by omega) ir9 (by first | (simp; done) | omega) ax ?_
    refine WD.sem 7 (Instr.loadAt 24 (.pointer (some ⟨b691, ir9, none⟩))) 137 (.pointer (some ⟨j9, 0, none⟩)) (by kernel_rfl) (by kernel_rfl) (run_load1 rfl (by simpa [Nat.add_assoc] using Rd.cell (own_rd bV encPt_len (by decide)) dY cx 0 _ rfl)) ax ?_
    obtain ⟨sg9, hsg9_⟩ := get_some (xs := S8) (i := ir9) (by omega)
    have hvk9_ := hD9.inv.vk _ (List.mem_of_getElem? hsg9_)
    have kp := hD9.v1 _ (List.mem_of_getElem? hsg9_)
    have hwm_ := dX.1 ab (by simp)
    obtain ⟨F694, d5, ai, d6⟩ := spsAt_one jm cx hsg9_
    refine WD.call 10 (by kernel_rfl) rfl rfl rfl rfl rfl (by kernel_rfl) (RecvG_ct F694 _ 5 sg9.o sg9.vs sg9.V ab.kind ab.a ab.c ab.nums none 0 0 j8 d5 ⟨hvk9_.2, vok_rng hvk9_.1⟩ (by omega) hwm_.1 (fun _ b_ off_ e_ h_ => av.disj 1 5 rfl rfl (by decide) b_ (ai b_ h_) (hwm_.2.2 b_ off_ e_))) ?_
    rintro _ ka ⟨F699, rfl, aZ, d7, cK⟩
    obtain ⟨F703, bW, d8, _⟩ := d6 ka F699 ⟨recvO 5 sg9.o ab.kind ab.nums, sg9.vs, sg9.V ++ recvM 5 ab.kind sg9.vs ab.nums⟩ [] aZ d7 cK (by simp) (fun _ _ => by simp)
    have jo := av.callF 1 rfl (aZ.mono ai) (fun x_ h_ => (d8 x_ h_).2) (spsAt_lt bW)
    have jp := ax.trans aZ (fun x_ h_ => .inl ( (ai x_ h_)))
    refine ⟨_, rfl, jp, ?_⟩
    have jq := own_fr bV (aZ.mono ai) (av.disj 0 1 rfl rfl (by decide))
    have jr := lsAt_fr jk (aZ.mono ai) (av.disj 2 1 rfl rfl (by decide))
    have js := qAt.fr jl (aZ.mono ai) (av.disj 3 1 rfl rfl (by decide))
    have jt := qAt.fr jn (aZ.mono ai) (av.disj 4 1 rfl rfl (by decide))
    have ju := wsIn.fr dX (aZ.mono ai) (av.disj 5 1 rfl rfl (by decide))
    refine WD.done (by kernel_rfl) ?_
    refine QXb ?_
    refine QXn (iV _ _ ?_)
    refine WCg (WLq 2 [(115, .int .i64 (IntKind.i64.wrap ((k9 : Int) + 1))), (114, .int .i64 (k9 : Int))] ?_)
    refine WLt (show (.int .i64 (IntKind.i64.wrap ((k9 : Int) + 1)) : Value) = .int .i64 ((k9 : Int) + 1) from by rw [wrap_in_i64 ((k9 : Int) + 1) (by omega) (by omega)]) ?_
    refine WLq 1 [(12, .int .i64 ((k9 : Int) + 1))] ?_
    refine WLd rfl ?_
    refine QXn ?_
    have jv := jo.pick [0] [0, 1, 2, 3, 4, 5] rfl rfl
    refine fun a_ ha_ => iT _ _ _ ?_ ⟨k9 + 1, F703, (S8.set ir9 ⟨recvO 5 sg9.o ab.kind ab.nums, sg9.vs, sg9.V ++ recvM 5 ab.kind sg9.vs ab.nums⟩), cJ, (nd9 - 1), (cd9 - 1), r9, rfl, rfl, jv, jq, jr, js, bW, jt, (ju.sub (fun m_ h_ => List.mem_cons_of_mem _ h_)), by omega, hD9.step hmxr9 hsg9_⟩ a_ (ha_.weaken (sub_of ⟨rfl, rfl, rfl, trivial⟩))
    omega
   ·
    have j7 : (nd9 : Int) ≤ 0 := by have q_ := of_decide_eq_false cv; omega
    refine WCf rfl ?_
    skip
    refine WC.exit ?_
    refine QXe ?_
    refine QXe ?_
    refine QX.block_hit ?_
    refine (hret _ _ _ rfl ?_).2
    clear hN hret hret' dS dR dQ c4 c3 c2 c0 ea d9 hK4 hK2
    obtain rfl : nd9 = 0 := by omega
    obtain rfl : md9 = [] := List.eq_nil_of_length_eq_zero (by omega)
    obtain ⟨hT1_, hT2_⟩ := Cx.tell (bL.pick [0] [0, 1, 2, 3, 4, 5] rfl rfl)
    exact ⟨_, S8, L7, rfl, bL.fr, ⟨As, cs, F8, Fl7, B5, Bd7, R7, A7, c7, Ad9, cd9, hT1_, spr_m624, hsps9, ls_m624, qu_m624, hqd9, hpl9.2, (Cx.mem0 hT2_).2⟩, (Cx.mem0 hT2_).1, hD9.inv, hD9.v1, fun hc_ => (hD9.cz hc_).2, hD9.vs⟩

end Go.Proofs.Ytmahghppojbeoaa
