/- Contracts of functions of the program, each proved by a walk through its code; conditions stand in the statements. -/
import Derived.Test.YtimphmcoafapgaaFlR11
namespace Go.Proofs.Ytimphmcoafapgaa
set_option linter.unusedSimpArgs false
set_option linter.unusedVariables false
set_option linter.unusedSectionVars false
open Go Go.RowKit Go.Tw
set_option linter.unusedVariables false
set_option maxRecDepth 20000
theorem remF_look (fs : List Flow) (T : Tb) (n : Int) (h : (T.m.map (·.1)).Nodup) (f : Flow) : lookL (fs.foldl remF (T, n)).1.m f = if f ∈ fs then none else lookL T.m f := by
  induction fs generalizing T n with
  | nil => simp
  | cons g r ih =>
    have hk : ((rem1 T g).m.map (·.1)).Nodup := by rw [rem1_m]; exact delL_keys _ _ h
    have := ih (rem1 T g) (n + if (lookL T.m g).isSome then 1 else 0) hk
    rw [List.foldl_cons]
    show lookL (r.foldl remF (rem1 T g, _)).1.m f = _
    rw [this, rem1_m, al_look_del h]
    by_cases e : g = f
    · subst e; simp
    · rw [if_neg e]
      have e2 : f ≠ g := fun q => e q.symm
      simp [e2]
/-! ### the table and the document's list -/
def ltE (a b : Ent) : Prop := lessF a.flow b.flow = true
theorem ltE_nodup {L : List Ent} (h : L.Pairwise ltE) : (L.map (·.flow)).Nodup := by
  rw [List.Nodup, List.pairwise_map]
  refine h.imp fun {a b} hab e => ?_
  unfold ltE at hab
  rw [e, lessF_irr] at hab; cases hab
theorem allE_lt {T : Tb} (hk : TOk T) : (allE T.m).Pairwise ltE := by
  have h1 := allE_sorted T.m
  have h2 : ((allE T.m).map (·.flow)).Nodup := (((List.mergeSort_perm (entsOf T.m) leE).map Ent.flow).nodup_iff).2 (flows_nodup hk.keys hk.flow)
  rw [List.Nodup, List.pairwise_map] at h2
  refine (h1.and h2).imp fun {a b} ⟨hab, hne⟩ => ?_
  rw [leE_iff] at hab
  unfold ltE
  cases h : lessF a.flow b.flow with
  | true => rfl
  | false => exact absurd (lessF_tot h hab) hne
theorem ltE_uniq {D E : List Ent} (h1 : D.Pairwise ltE) (h2 : E.Pairwise ltE) (hm : ∀ x, x ∈ D ↔ x ∈ E) : D = E := by
  have n1 : D.Nodup := h1.imp fun {a b} hab e => by unfold ltE at hab; rw [e, lessF_irr] at hab; cases hab
  have n2 : E.Nodup := h2.imp fun {a b} hab e => by unfold ltE at hab; rw [e, lessF_irr] at hab; cases hab
  have hp : D.Perm E := (List.perm_ext_iff_of_nodup n1 n2).2 hm
  refine List.Perm.eq_of_pairwise (le := fun a b => leE a b = true) (fun a b ha hb hab hba => ?_) (h1.imp fun {a b} hab => ?_) (h2.imp fun {a b} hab => ?_) hp
  · rw [leE_iff] at hab hba
    exact flow_inj (ltE_nodup h1) ha (hp.mem_iff.2 hb) (lessF_tot hba hab)
  · rw [leE_iff]; exact lessF_asym hab
  · rw [leE_iff]; exact lessF_asym hab
theorem mem_ents {T : Tb} (hk : TOk T) {x : Ent} : x ∈ entsOf T.m ↔ lookL T.m x.flow = some x := by
  constructor
  · intro h
    obtain ⟨p, hp, rfl⟩ := List.mem_map.1 h
    have := hk.flow p hp
    rw [this]; exact al_mem_look hk.keys hp
  · intro h; exact List.mem_map.2 ⟨_, al_look_mem h, rfl⟩
theorem mem_all {T : Tb} (hk : TOk T) {x : Ent} : x ∈ allE T.m ↔ lookL T.m x.flow = some x := mem_allE.trans (mem_ents hk)
theorem look_flow {T : Tb} (hk : TOk T) {f : Flow} {e : Ent} (h : lookL T.m f = some e) : e.flow = f := hk.flow _ (al_look_mem h)
theorem none_all {T : Tb} (hk : TOk T) {f : Flow} (h : ∀ x ∈ allE T.m, x.flow ≠ f) : lookL T.m f = none := by
  cases hl : lookL T.m f with
  | none => rfl
  | some e => exact absurd (look_flow hk hl) (h e ((mem_all hk).2 (by rw [look_flow hk hl]; exact hl)))
theorem some_all {T : Tb} (hk : TOk T) {f : Flow} {i : Nat} {e : Ent} (h : (allE T.m)[i]? = some e) (hf : e.flow = f) : lookL T.m f = some e := by
  have := (mem_all hk).1 (List.mem_of_getElem? h)
  rw [hf] at this; exact this
theorem allE_of {T : Tb} (hk : TOk T) {L : List Ent} (h1 : L.Pairwise ltE) (hm : ∀ x : Ent, x ∈ L ↔ lookL T.m x.flow = some x) : L = allE T.m :=
  ltE_uniq h1 (allE_lt hk) fun x => (hm x).trans (mem_all hk).symm
theorem cnt_sum {m : List (Flow × Ent)} : cntE (entsOf m) = sumL trE m := by
  induction m with
  | nil => rfl
  | cons p r ih =>
    obtain ⟨a, b⟩ := p
    show ((b :: entsOf r).filter (·.trusted)).length = trE b + sumL trE r
    rw [← ih]
    unfold cntE trE
    by_cases h : b.trusted = true
    · simp [h]; omega
    · simp [h]
theorem cnt_all {T : Tb} (hk : TOk T) : (cntE (allE T.m) : Int) = T.th ∧ ((allE T.m).length : Int) - cntE (allE T.m) = T.uh := by
  have h1 : cntE (allE T.m) = sumL trE T.m := by
    rw [← cnt_sum]
    exact ((List.mergeSort_perm (entsOf T.m) leE).filter _).length_eq
  have h2 := allE_len T.m
  have h3 := hk.len
  have h4 := hk.th
  omega
theorem set_lt {L : List Ent} (h : L.Pairwise ltE) {i : Nat} {e v : Ent} (he : L[i]? = some e) (hv : v.flow = e.flow) : (L.set i v).Pairwise ltE := by
  have h1 : (L.map (·.flow)).Pairwise (fun a b => lessF a b = true) := List.pairwise_map.2 h
  have h2 : (L.set i v).map (·.flow) = L.map (·.flow) := by
    rw [List.map_set]
    apply List.ext_getElem?
    intro j
    rw [List.getElem?_set]
    by_cases hj : i = j
    · subst hj
      obtain ⟨hl, rfl⟩ := List.getElem?_eq_some_iff.1 he
      simp [hl, hv]
    · rw [if_neg hj]
  rw [← h2] at h1
  have h3 := List.pairwise_map.1 h1
  exact h3
theorem mem_setE {L : List Ent} (h : L.Pairwise ltE) {i : Nat} {e v x : Ent} (he : L[i]? = some e) : x ∈ L.set i v ↔ x = v ∨ (x ∈ L ∧ x.flow ≠ e.flow) := by
  obtain ⟨hl, hle⟩ := List.getElem?_eq_some_iff.1 he
  constructor
  · intro hx
    obtain ⟨j, hj⟩ := List.getElem?_of_mem hx
    rw [List.getElem?_set] at hj
    by_cases hij : i = j
    · subst hij; rw [if_pos rfl, if_pos hl] at hj; exact .inl (Option.some.inj hj).symm
    · rw [if_neg hij] at hj
      refine .inr ⟨List.mem_of_getElem? hj, fun q => ?_⟩
      obtain ⟨hl2, rfl⟩ := List.getElem?_eq_some_iff.1 hj
      subst hle
      rcases Nat.lt_or_gt_of_ne hij with hlt | hlt
      · have := List.pairwise_iff_getElem.1 h i j hl hl2 hlt
        unfold ltE at this; rw [q, lessF_irr] at this; cases this
      · have := List.pairwise_iff_getElem.1 h j i hl2 hl hlt
        unfold ltE at this; rw [q, lessF_irr] at this; cases this
  · rintro (rfl | ⟨hx, hne⟩)
    · exact List.mem_set hl _
    · obtain ⟨j, hj⟩ := List.getElem?_of_mem hx
      have hij : i ≠ j := fun q => by subst q; rw [he] at hj; cases hj; exact hne rfl
      exact List.mem_of_getElem? (i := j) (by rw [List.getElem?_set, if_neg hij]; exact hj)
theorem mem_insE {x y : Ent} {L : List Ent} : y ∈ insE x L ↔ y = x ∨ y ∈ L := by
  induction L with
  | nil => simp [insE]
  | cons a r ih =>
    unfold insE
    split
    · simp
    · rw [List.mem_cons, ih, List.mem_cons]
      constructor
      · rintro (h | h | h)
        · exact .inr (.inl h)
        · exact .inl h
        · exact .inr (.inr h)
      · rintro (h | h | h)
        · exact .inr (.inl h)
        · exact .inl h
        · exact .inr (.inr h)
theorem ins_lt {x : Ent} {L : List Ent} (h : L.Pairwise ltE) (hn : ∀ y ∈ L, y.flow ≠ x.flow) : (insE x L).Pairwise ltE := by
  induction L with
  | nil => unfold insE; simp
  | cons a r ih =>
    rw [List.pairwise_cons] at h
    unfold insE
    split
    · rename_i hl
      rw [List.pairwise_cons]
      refine ⟨fun y hy => ?_, List.pairwise_cons.2 h⟩
      rcases List.mem_cons.1 hy with rfl | hy
      · exact hl
      · exact lessF_trans hl (h.1 y hy)
    · rename_i hl
      rw [List.pairwise_cons]
      refine ⟨fun y hy => ?_, ih h.2 fun y hy => hn y (List.mem_cons_of_mem _ hy)⟩
      rcases mem_insE.1 hy with rfl | hy
      · unfold ltE
        cases hc : lessF a.flow y.flow with
        | true => rfl
        | false => exact absurd (lessF_tot hc (by simpa using hl)) (hn a List.mem_cons_self)
      · exact h.1 y hy
theorem mem_outE {L : List Ent} {f : Flow} {x : Ent} : x ∈ outE L f ↔ x ∈ L ∧ x.flow ≠ f := by
  unfold outE; rw [List.mem_filter]; simp
theorem out_lt {L : List Ent} (h : L.Pairwise ltE) (f : Flow) : (outE L f).Pairwise ltE := h.sublist List.filter_sublist
theorem out_all {T : Tb} (hk : TOk T) (f : Flow) : outE (allE T.m) f = allE (rem1 T f).m := by
  refine allE_of (hk.rem1 f) (out_lt (allE_lt hk) f) fun x => ?_
  rw [mem_outE, mem_all hk, rem1_m, al_look_del hk.keys]
  by_cases e : f = x.flow
  · rw [if_pos e]; simp [e]
  · rw [if_neg e]; exact ⟨And.left, fun h => ⟨h, fun q => e q.symm⟩⟩
theorem has_all {T : Tb} (hk : TOk T) (f : Flow) : hasE (allE T.m) f = (lookL T.m f).isSome := by
  unfold hasE
  cases hl : lookL T.m f with
  | none =>
    rw [Option.isSome_none, List.any_eq_false]
    intro x hx
    have h1 := (mem_all hk).1 hx
    have : x.flow ≠ f := fun e => by rw [e, hl] at h1; cases h1
    simp [this]
  | some e =>
    rw [Option.isSome_some, List.any_eq_true]
    exact ⟨e, (mem_all hk).2 (by rw [look_flow hk hl]; exact hl), by simp [look_flow hk hl]⟩
theorem link_rem (fs : List Flow) : ∀ {T : Tb} {n : Int}, TOk T → fs.foldl remL (allE T.m, n) = (allE (fs.foldl remF (T, n)).1.m, (fs.foldl remF (T, n)).2) := by
  induction fs with
  | nil => intro T n _; rfl
  | cons f r ih =>
    intro T n hk
    rw [List.foldl_cons, List.foldl_cons]
    have e1 : remL (allE T.m, n) f = (allE (rem1 T f).m, n + if (lookL T.m f).isSome then 1 else 0) := by
      unfold remL; rw [out_all hk, has_all hk]
    rw [e1]
    exact ih (hk.rem1 f)
theorem link_get {T : Tb} (hk : TOk T) {f : Flow} {o : Ent} {fd : Bool} (h : RGet (allE T.m) f o fd) : o = (lookL T.m f).getD zeroE ∧ fd = (lookL T.m f).isSome := by
  cases h with
  | none h => rw [none_all hk h]; exact ⟨rfl, rfl⟩
  | some i e h hf => rw [some_all hk h hf]; exact ⟨rfl, rfl⟩
theorem link_exp {T : Tb} (hk : TOk T) (now : Int) : exE (allE T.m) now = ((outX T now).1, allE (outX T now).2.m) := by
  have hk2 := hk.outX now
  unfold exE
  by_cases hg : goodTime now = true
  · rw [if_pos hg]
    have e1 : (outX T now).1 = ((allE T.m).filter (idleB · now)).map (·.flow) := by unfold outX; rw [if_pos hg]; rfl
    have e2 : (allE T.m).filter (fun e => !idleB e now) = allE (outX T now).2.m := by
      refine allE_of hk2 ((allE_lt hk).sublist List.filter_sublist) fun x => ?_
      have e3 : lookL (outX T now).2.m x.flow = if x.flow ∈ outXF T.m now then none else lookL T.m x.flow := by
        unfold outX; rw [if_pos hg]; exact remF_look _ _ _ hk.keys _
      rw [e3, List.mem_filter, mem_all hk]
      have e4 : lookL T.m x.flow = some x → (x.flow ∈ outXF T.m now ↔ idleB x now = true) := by
        intro hx
        unfold outXF
        rw [List.mem_map]
        constructor
        · rintro ⟨y, hy, he⟩
          obtain ⟨h1, h2⟩ := List.mem_filter.1 hy
          have h3 := (mem_all hk).1 h1
          rw [he, hx] at h3; cases h3; exact h2
        · intro h; exact ⟨x, List.mem_filter.2 ⟨(mem_all hk).2 hx, h⟩, rfl⟩
      constructor
      · rintro ⟨h1, h2⟩
        rw [if_neg (fun q => by rw [(e4 h1).1 q] at h2; cases h2)]; exact h1
      · intro h
        by_cases q : x.flow ∈ outXF T.m now
        · rw [if_pos q] at h; cases h
        · rw [if_neg q] at h
          refine ⟨h, ?_⟩
          cases hi : idleB x now with
          | false => rfl
          | true => exact absurd ((e4 h).2 hi) q
    rw [e1, e2]
  · rw [if_neg hg]
    have : outX T now = ([], T) := by unfold outX; rw [if_neg hg]
    rw [this]
theorem set_all {T : Tb} (hk : TOk T) {f : Flow} {i : Nat} {e v : Ent} {a b : Int} (he : (allE T.m)[i]? = some e) (hf : e.flow = f) (hv : v.flow = f) {T' : Tb} (hT : T'.m = putL T.m f v) (hk' : TOk T') : (allE T.m).set i v = allE T'.m := by
  refine allE_of hk' (set_lt (allE_lt hk) he (by rw [hv, hf])) fun x => ?_
  rw [mem_setE (allE_lt hk) he, mem_all hk, hT, al_look_put, hf]
  by_cases q : f = x.flow
  · rw [if_pos q]
    constructor
    · rintro (rfl | ⟨_, h⟩)
      · rfl
      · exact absurd q.symm h
    · intro h; exact .inl (Option.some.inj h).symm
  · rw [if_neg q]
    constructor
    · rintro (rfl | ⟨h, _⟩)
      · exact absurd hv.symm q
      · exact h
    · intro h; exact .inr ⟨h, fun z => q z.symm⟩
theorem ins_all {T : Tb} (hk : TOk T) {f : Flow} {v : Ent} (hn : lookL T.m f = none) (hv : v.flow = f) {T' : Tb} (hT : T'.m = putL T.m f v) (hk' : TOk T') : insE v (allE T.m) = allE T'.m := by
  have hne : ∀ y ∈ allE T.m, y.flow ≠ v.flow := fun y hy q => by
    have := (mem_all hk).1 hy
    rw [q, hv, hn] at this; cases this
  refine allE_of hk' (ins_lt (allE_lt hk) hne) fun x => ?_
  rw [mem_insE, mem_all hk, hT, al_look_put]
  by_cases q : f = x.flow
  · rw [if_pos q]
    constructor
    · rintro (rfl | h)
      · rfl
      · rw [← q, hn] at h; cases h
    · intro h; exact .inl (Option.some.inj h).symm
  · rw [if_neg q]
    constructor
    · rintro (rfl | h)
      · exact absurd hv.symm q
      · exact h
    · intro h; exact .inr h
theorem best_uniq {T : Tb} (hk : TOk T) {o : Ent} (hb : Best T.m true o) {b : Nat} {t : Ent} (hb0 : 0 < b) (hm : minU (allE T.m) (allE T.m).length b) (ht : (allE T.m)[b - 1]? = some t) : o = t := by
  unfold Best at hb
  rw [if_pos rfl] at hb
  obtain ⟨⟨p, hp, rfl⟩, h2, h3⟩ := hb
  have hpl : p.2 ∈ allE T.m := mem_allE.2 (List.mem_map.2 ⟨p, hp, rfl⟩)
  rcases hm with ⟨h, _⟩ | ⟨_, _, t', g1, g2, g3, g4⟩
  · omega
  · rw [ht] at g1; cases g1
    rw [List.take_length] at g3
    obtain ⟨q, hq, hqt⟩ := List.mem_map.1 (mem_allE.1 (List.mem_of_getElem? ht))
    have e1 := h3 q hq (by rw [hqt]; exact g2)
    rw [hqt] at e1
    have e2 := g3 p.2 hpl h2
    unfold older at e1
    rw [Bool.or_eq_false_iff, Bool.and_eq_false_iff] at e1
    have e3 : ¬ t.last < p.2.last := by simpa using e1.1
    have e4 : t.last = p.2.last := by omega
    have e5 : lessF t.flow p.2.flow = false := by
      rcases e1.2 with h | h
      · simp [e4] at h
      · exact h
    obtain ⟨j, hj⟩ := List.getElem?_of_mem hpl
    have hlt := allE_lt hk
    by_cases hc : j = b - 1
    · subst hc; rw [ht] at hj; cases hj; rfl
    · exfalso
      obtain ⟨hj1, hj2⟩ := List.getElem?_eq_some_iff.1 hj
      obtain ⟨hb1, hb2⟩ := List.getElem?_eq_some_iff.1 ht
      rcases Nat.lt_or_gt_of_ne hc with hl | hl
      · have := g4 p.2 (List.mem_of_getElem? (i := j) (by rw [List.getElem?_take_of_lt hl]; exact hj)) h2
        omega
      · have := List.pairwise_iff_getElem.1 hlt (b - 1) j hb1 hj1 hl
        rw [hj2, hb2] at this
        unfold ltE at this
        rw [this] at e5; cases e5
theorem link_put {T T' : Tb} {f : Flow} {dip ep now : Int} {o o2 : Ent} {fd fd2 : Bool} {er er2 : Int} {L2 : List Ent} (hk : TOk T) (hu : 0 ≤ T.um) (hr : PutRel T f dip ep now T' o fd er) (hr2 : RPut (allE T.m) T.um f dip ep now L2 o2 fd2 er2) : o2 = o ∧ fd2 = fd ∧ er2 = er ∧ L2 = allE T'.m := by
  have hk' := hk.put hu hr
  obtain ⟨c1, c2⟩ := cnt_all hk
  cases hr2 with
  | form h =>
    cases hr with
    | form _ => exact ⟨rfl, rfl, rfl, rfl⟩
    | range g _ => rw [h] at g; cases g
    | old _ g _ _ => rw [h] at g; cases g
    | empty g _ _ _ => rw [h] at g; cases g
    | new g _ _ _ _ => rw [h] at g; cases g
    | full _ _ g _ _ _ _ _ => rw [h] at g; cases g
  | range h1 h =>
    cases hr with
    | form g => rw [h1] at g; cases g
    | range _ _ => exact ⟨rfl, rfl, rfl, rfl⟩
    | old _ _ g _ => rw [h] at g; cases g
    | empty _ g _ _ => rw [h] at g; cases g
    | new _ g _ _ _ => rw [h] at g; cases g
    | full _ _ _ g _ _ _ _ => rw [h] at g; cases g
  | old i e h1 h2 h3 h4 =>
    have hl := some_all hk h3 h4
    cases hr with
    | form g => rw [h1] at g; cases g
    | range _ g => rw [h2] at g; cases g
    | old e' _ _ g =>
      rw [hl] at g; cases g
      exact ⟨rfl, rfl, rfl, set_all (a := 0) (b := 0) hk h3 h4 (by dsimp only; exact h4) rfl hk'⟩
    | empty _ _ g _ => rw [hl] at g; cases g
    | new _ _ g _ _ => rw [hl] at g; cases g
    | full _ _ _ _ g _ _ _ => rw [hl] at g; cases g
  | empty h1 h2 h3 h4 =>
    have hl := none_all hk h3
    cases hr with
    | form g => rw [h1] at g; cases g
    | range _ g => rw [h2] at g; cases g
    | old _ _ _ g => rw [hl] at g; cases g
    | empty _ _ _ _ => exact ⟨rfl, rfl, rfl, rfl⟩
    | new _ _ _ g _ => exact absurd h4 g
    | full _ _ _ _ _ g _ _ => exact absurd h4 g
  | new L3 o3 fl h1 h2 h3 h4 h5 =>
    have hl := none_all hk h3
    cases hr with
    | form g => rw [h1] at g; cases g
    | range _ g => rw [h2] at g; cases g
    | old _ _ _ g => rw [hl] at g; cases g
    | empty _ _ _ g => exact absurd g h4
    | new _ _ _ _ g =>
      rcases h5 with ⟨rfl, rfl, rfl, _⟩ | ⟨_, q, _⟩
      · exact ⟨rfl, rfl, rfl, ins_all hk hl rfl rfl hk'⟩
      · omega
    | full _ g0 _ _ _ _ g hb =>
      rcases h5 with ⟨_, _, _, q⟩ | ⟨rfl, _, b, t, q1, q2, q3, rfl, rfl⟩
      · omega
      · obtain ⟨hfd, hmem, _⟩ := Best.found hk g h4 hu hb
        subst hfd
        have e := best_uniq hk hb q1 q2 q3
        subst e
        refine ⟨rfl, rfl, rfl, ?_⟩
        have hr1 := hk.rem1 o.flow
        have e1 := (outE_some (ltE_nodup (allE_lt hk)) q3 rfl).1
        rw [← e1, out_all hk]
        refine ins_all hr1 ?_ rfl rfl hk'
        rw [rem1_m, al_look_del hk.keys]
        split
        · rfl
        · exact hl
theorem flags_eq (f : Flow) (flags : Int) : (¬ Go.bits .and .i64 (if f.proto = 6 then flags else 0) 5 = 0 ↔ f.proto = 6 ∧ (Go.bits .and .i64 flags 1 = 1 ∨ Go.bits .and .i64 flags 4 = 4)) ∧ (¬ Go.bits .and .i64 (if f.proto = 6 then flags else 0) 2 = 0 ↔ f.proto = 6 ∧ Go.bits .and .i64 flags 2 = 2) := by
  obtain ⟨v2, v5⟩ := and_vals flags
  have z2 : Go.bits .and .i64 0 2 = 0 := by decide
  have z5 : Go.bits .and .i64 0 5 = 0 := by decide
  by_cases hp : f.proto = 6
  · rw [if_pos hp]
    refine ⟨?_, ?_⟩
    · rw [v5]; exact ⟨fun h => ⟨hp, Classical.not_not.1 h⟩, fun h g => g h.2⟩
    · rcases v2 with v2 | v2
      · rw [v2]; exact ⟨fun h => absurd rfl h, fun h => absurd h.2 (by decide)⟩
      · rw [v2]; exact ⟨fun _ => ⟨hp, rfl⟩, fun _ => by decide⟩
  · simp [hp, z2, z5]
theorem link_touch {T : Tb} {f : Flow} {flags now : Int} {L2 : List Ent} {fd : Bool} (hk : TOk T) (hr : RTouch (allE T.m) T.tm f flags now L2 fd) : fd = (touchT T f flags now).2 ∧ L2 = allE (touchT T f flags now).1.m := by
  have hk' := hk.touch f flags now
  obtain ⟨c1, _⟩ := cnt_all hk
  obtain ⟨f5, f2⟩ := flags_eq f flags
  cases hr with
  | none h =>
    have e : touchT T f flags now = (T, false) := by unfold touchT; rw [none_all hk h]
    rw [e]; exact ⟨rfl, rfl⟩
  | time h =>
    have e : touchT T f flags now = (T, false) := by
      unfold touchT
      cases lookL T.m f with
      | none => rfl
      | some e => dsimp only; rw [if_pos h]
    rw [e]; exact ⟨rfl, rfl⟩
  | some i e h1 h2 h3 =>
    have hl := some_all hk h2 h3
    have key : (touchT T f flags now).2 = true ∧ (touchT T f flags now).1.m = putL T.m f (touchE (allE T.m) T.tm e f flags now) := by
      unfold touchT
      rw [hl]
      dsimp only
      rw [if_neg (by rw [h1]; decide)]
      unfold touchE
      rw [c1]
      by_cases g : e.trusted = false ∧ Go.bits .and .i64 (if f.proto = 6 then flags else 0) 2 = 0 ∧ T.th < T.tm
      · rw [if_pos g]
        refine ⟨rfl, ?_⟩
        dsimp only
        rw [if_pos (show e.trusted = false ∧ ¬ (f.proto = 6 ∧ Go.bits .and .i64 flags 2 = 2) ∧ T.th < T.tm from ⟨g.1, fun q => f2.2 q g.2.1, g.2.2⟩)]
        simp only [f5, f2]
      · rw [if_neg g]
        refine ⟨rfl, ?_⟩
        dsimp only
        rw [if_neg (show ¬ (e.trusted = false ∧ ¬ (f.proto = 6 ∧ Go.bits .and .i64 flags 2 = 2) ∧ T.th < T.tm) from fun q => g ⟨q.1, Classical.not_not.1 fun z => q.2.1 (f2.1 z), q.2.2⟩)]
        simp only [f5, f2]
    refine ⟨key.1.symm, ?_⟩
    exact set_all (a := 0) (b := 0) hk h2 h3 (by unfold touchE; exact h3) key.2 hk'
def BdT (T : Tb) : Prop := ∀ p ∈ T.m, bdF p.1
theorem BdT.all {T : Tb} (hk : TOk T) (h : BdT T) : ∀ x ∈ allE T.m, bdF x.flow := fun x hx => by
  obtain ⟨p, hp, rfl⟩ := List.mem_map.1 (mem_allE.1 hx)
  rw [hk.flow p hp]; exact h p hp
theorem BdT.rem1 {T : Tb} (hk : TOk T) (h : BdT T) (f : Flow) : BdT (rem1 T f) := fun p hp => by
  rw [rem1_m] at hp; exact h p ((al_mem_del hk.keys).1 hp).1
theorem BdT.remF (fs : List Flow) : ∀ {T : Tb} {n : Int}, TOk T → BdT T → BdT (fs.foldl remF (T, n)).1 := by
  induction fs with
  | nil => intro T n _ h; exact h
  | cons f r ih => intro T n hk h; exact ih (hk.rem1 f) (BdT.rem1 hk h f)
theorem BdT.outX {T : Tb} (hk : TOk T) (h : BdT T) (now : Int) : BdT (outX T now).2 := by
  unfold Go.Proofs.Ytimphmcoafapgaa.outX
  exact ite_ind (fun x : List Flow × Tb => BdT x.2) (fun _ => BdT.remF _ hk h) (fun _ => h)
theorem BdT.put {T : Tb} (h : BdT T) (hn : (T.m.map (·.1)).Nodup) {f : Flow} (hf : bdF f) {v : Ent} : ∀ p ∈ putL T.m f v, bdF p.1 := fun p hp => by
  rcases (al_mem_put hn).1 hp with rfl | ⟨hp, _⟩
  · exact hf
  · exact h p hp
theorem BdT.putR {T T' : Tb} {f : Flow} {dip ep now : Int} {o : Ent} {fd : Bool} {er : Int} (hk : TOk T) (h : BdT T) (hf : bdF f) (hr : PutRel T f dip ep now T' o fd er) : BdT T' := by
  cases hr with
  | form _ => exact h
  | range _ _ => exact h
  | old e hg ht hl => exact h.put hk.keys hf
  | empty _ _ _ _ => exact h
  | new hg ht hl _ hu => exact h.put hk.keys hf
  | full o g hg ht hl h0 hu hb => exact (BdT.rem1 hk h o.flow).put (hk.rem1 o.flow).keys hf
theorem BdT.touch {T : Tb} (hk : TOk T) (h : BdT T) (f : Flow) (flags now : Int) : BdT (touchT T f flags now).1 := by
  unfold touchT
  cases hl : lookL T.m f with
  | none => exact h
  | some e =>
    dsimp only
    have hf : bdF f := h _ (al_look_mem hl)
    exact ite_ind (fun x : Tb × Bool => BdT x.1) (fun _ => h) (fun _ => ite_ind (fun x : Tb × Bool => BdT x.1) (fun _ => h.put hk.keys hf) (fun _ => h.put hk.keys hf))
end Go.Proofs.Ytimphmcoafapgaa
