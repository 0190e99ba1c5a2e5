/- Contracts of functions of the program, each proved by a walk through its code; conditions stand in the statements. -/
import Derived.Test.YtimphmcoafapgaaFlL11
namespace Go.Proofs.Ytimphmcoafapgaa
set_option linter.unusedSimpArgs false
set_option linter.unusedVariables false
set_option linter.unusedSectionVars false
open Go Go.RowKit Go.Tw
set_option linter.unusedVariables false
set_option maxRecDepth 20000
/-! ### FlowKeeps: what was put last -/
def lastI (fs : List Flow) : Nat → Flow → Option Nat
  | 0, _ => none
  | i + 1, f => if fs[i]? = some f then some i else lastI fs i f
def entK (now : Int) (f : Flow) (j : Nat) : Ent := ⟨f, j, j, false, false, now + ((j % 9 : Nat) : Int)⟩
structure KeepI (now : Int) (fs : List Flow) (i : Nat) (T : Tb) : Prop where
  ok : TOk T
  tm : T.tm = 0
  um : T.um = 4096
  look : ∀ f, lookL T.m f = if goodF f = true then (lastI fs i f).map (entK now f) else none
  len : T.m.length ≤ i
theorem KeepI.start (now : Int) (fs : List Flow) : KeepI now fs 0 ⟨[], 0, 0, 0, 4096⟩ :=
  ⟨TOk.new (by omega) (by omega), rfl, rfl, fun f => by simp [lookL, lastI], Nat.le_refl _⟩
theorem putL_len_le {κ β : Type} [DecidableEq κ] : ∀ (m : List (κ × β)) (k : κ) (v : β), (putL m k v).length ≤ m.length + 1
  | [], _, _ => by simp [putL]
  | (a, b) :: r, k, v => by
    unfold putL
    by_cases e : a = k
    · rw [if_pos e]; simp
    · rw [if_neg e]; have := putL_len_le r k v; simp only [List.length_cons]; omega
theorem keep_look {now : Int} {fs : List Flow} {i : Nat} {m : List (Flow × Ent)} {f : Flow} (h : ∀ g, lookL m g = if goodF g = true then (lastI fs i g).map (entK now g) else none) (he : fs[i]? = some f) (hg : goodF f = true) (g : Flow) : lookL (putL m f (entK now f i)) g = if goodF g = true then (lastI fs (i + 1) g).map (entK now g) else none := by
  rw [al_look_put, h g, show lastI fs (i + 1) g = if fs[i]? = some g then some i else lastI fs i g from rfl]
  rw [he]
  by_cases e : f = g
  · subst e; rw [if_pos rfl, if_pos hg, if_pos rfl]; rfl
  · rw [if_neg e, if_neg (fun q => e (Option.some.inj q))]
theorem KeepI.put {now : Int} {fs : List Flow} {i : Nat} {T T' : Tb} {f : Flow} {o : Ent} {fd : Bool} {er : Int} (h : KeepI now fs i T) (he : fs[i]? = some f) (hi : i < 200) (h0 : 0 ≤ now) (h1 : now ≤ 549755813888) (hr : PutRel T f (i : Int) (i : Int) (now + ((i % 9 : Nat) : Int)) T' o fd er) : KeepI now fs (i + 1) T' ∧ fd = false ∧ er = if goodF f then 0 else 9 := by
  have hlen := h.len
  have hok := h.ok.put (by rw [h.um]; omega) hr
  have hms := put_ms hr
  have htt : goodTime (now + ((i % 9 : Nat) : Int)) = true := by
    have : i % 9 < 9 := Nat.mod_lt _ (by omega)
    simp [goodTime]; omega
  have hu := h.ok.uh
  have hl2 := h.ok.len
  have hth := h.ok.th
  have hum := h.um
  cases hr with
  | form hg =>
    refine ⟨⟨hok, h.tm, h.um, fun g => ?_, by omega⟩, rfl, by rw [hg]; rfl⟩
    rw [h.look g]
    conv => rhs; unfold lastI
    rw [he]
    by_cases e : f = g
    · subst e; rw [if_neg (by rw [hg]; decide), if_neg (by rw [hg]; decide)]
    · rw [if_neg (fun q => e (Option.some.inj q))]
  | range _ ht => rw [htt] at ht; cases ht
  | empty _ _ _ hz => omega
  | old e hg ht hl =>
    have hl2 := hl
    rw [h.look f, if_pos hg] at hl2
    obtain ⟨j, _, hj⟩ := Option.map_eq_some_iff.1 hl2
    subst hj
    have d := sumL_put_some (fun _ => 1) (v := entK now f i) hl
    rw [sumL_len, sumL_len] at d
    refine ⟨⟨hok, h.tm, h.um, fun g => keep_look h.look he hg g, ?_⟩, rfl, by rw [hg]; rfl⟩
    show (putL T.m f (entK now f i)).length ≤ i + 1
    omega
  | new hg ht hl _ _ =>
    refine ⟨⟨hok, h.tm, h.um, fun g => keep_look h.look he hg g, ?_⟩, rfl, by rw [hg]; rfl⟩
    have := putL_len_le T.m f (entK now f i)
    show (putL T.m f (entK now f i)).length ≤ i + 1
    omega
  | full o g hg ht hl hz hn hb => omega
theorem keep_ent {now : Int} {fs : List Flow} {i : Nat} {T : Tb} (h : KeepI now fs i T) {e : Ent} (he : e ∈ allE T.m) : ∃ f j, e = entK now f j := by
  obtain ⟨p, hp, rfl⟩ := List.mem_map.1 (mem_allE.1 he)
  have hl := al_mem_look h.ok.keys (k := p.1) (v := p.2) hp
  rw [h.look] at hl
  by_cases hg : goodF p.1 = true
  · rw [if_pos hg] at hl
    obtain ⟨j, _, hj⟩ := Option.map_eq_some_iff.1 hl
    exact ⟨_, j, hj.symm⟩
  · rw [if_neg hg] at hl; cases hl
theorem keep_exp1 {now : Int} {fs : List Flow} {i : Nat} {T : Tb} (h : KeepI now fs i T) (h0 : 0 ≤ now) (h1 : now ≤ 549755813888) : outX T (now + 10) = (([] : List Flow), T) := by
  have ht : goodTime (now + 10) = true := by simp [goodTime]; omega
  have ho : outXF T.m (now + 10) = [] := by
    unfold outXF
    rw [List.filter_eq_nil_iff.2 fun e he => ?_]
    · rfl
    · obtain ⟨f, j, rfl⟩ := keep_ent h he
      have : idleB (entK now f j) (now + 10) = false := decide_eq_false (by show ¬ (now + 10 - (now + ((j % 9 : Nat) : Int)) > 10); omega)
      rw [this]; decide
  unfold outX
  rw [if_pos ht, ho]; rfl
theorem remF_look (fs : List Flow) (T : Tb) (n : Int) (h : (T.m.map (·.1)).Nodup) (f : Flow) : lookL (fs.foldl remF (T, n)).1.m f = if f ∈ fs then none else lookL T.m f := by
  induction fs generalizing T n with
  | nil => simp
  | cons g r ih =>
    have hk : ((rem1 T g).m.map (·.1)).Nodup := by rw [rem1_m]; exact delL_keys _ _ h
    have := ih (rem1 T g) (n + if (lookL T.m g).isSome then 1 else 0) hk
    rw [List.foldl_cons]
    show lookL (r.foldl remF (rem1 T g, _)).1.m f = _
    rw [this, rem1_m, al_look_del h]
    by_cases e : g = f
    · subst e; simp
    · rw [if_neg e]
      have e2 : f ≠ g := fun q => e q.symm
      simp [e2]
theorem keep_exp2 {now : Int} {fs : List Flow} {i : Nat} {T : Tb} (h : KeepI now fs i T) (h0 : 0 ≤ now) (h1 : now ≤ 549755813888) : (outX T (now + 30)).2.th = 0 ∧ (outX T (now + 30)).2.uh = 0 := by
  have ht : goodTime (now + 30) = true := by simp [goodTime]; omega
  have hok := h.ok.outX (now + 30)
  have hm : (outX T (now + 30)).2.m = [] := by
    have hnone : ∀ f, lookL (outX T (now + 30)).2.m f = none := by
      intro f
      unfold outX
      rw [if_pos ht]
      rw [remF_look _ _ _ h.ok.keys]
      by_cases hf : f ∈ outXF T.m (now + 30)
      · rw [if_pos hf]
      · rw [if_neg hf]
        cases hl : lookL T.m f with
        | none => rfl
        | some e =>
          exfalso
          have hmem := al_look_mem hl
          have hfl := h.ok.flow _ hmem
          refine hf ?_
          unfold outXF
          have hall : e ∈ allE T.m := mem_allE.2 (List.mem_map.2 ⟨_, hmem, rfl⟩)
          refine List.mem_map.2 ⟨e, List.mem_filter.2 ⟨hall, ?_⟩, hfl⟩
          obtain ⟨g, j, rfl⟩ := keep_ent h hall
          have hj : j % 9 < 9 := Nat.mod_lt _ (by omega)
          exact decide_eq_true (show now + 30 - (now + ((j % 9 : Nat) : Int)) > 10 by omega)
    cases hc : (outX T (now + 30)).2.m with
    | nil => rfl
    | cons p r =>
      exfalso
      have := al_none.1 (hnone p.1) p (by rw [hc]; exact List.mem_cons_self)
      exact this rfl
  constructor
  · rw [hok.th, hm]; rfl
  · rw [hok.uh, hm]; rfl
def lst (fs : List Flow) (i j : Nat) : Nat := match fs[j]? with
  | some f => if j < i then (lastI fs i f).getD j else j
  | none => j
def la (fs : List Flow) (i : Nat) : List Int := (List.range fs.length).map fun j => ((lst fs i j : Nat) : Int)
def lm (fs : List Flow) (i jj : Nat) : List Int := (List.range fs.length).map fun j => (((if j < jj then lst fs (i + 1) j else lst fs i j) : Nat) : Int)
theorem la_len (fs : List Flow) (i : Nat) : (la fs i).length = fs.length := by simp [la]
theorem lm_len (fs : List Flow) (i j : Nat) : (lm fs i j).length = fs.length := by simp [lm]
theorem lst_0 (fs : List Flow) (j : Nat) : lst fs 0 j = j := by unfold lst; split <;> simp
theorem la_0 (fs : List Flow) : la fs 0 = (List.range fs.length).map fun j => ((j : Nat) : Int) := by
  unfold la; exact List.map_congr_left fun j _ => by rw [lst_0]
theorem lm_0 (fs : List Flow) (i : Nat) : lm fs i 0 = la fs i := by
  unfold lm la; exact List.map_congr_left fun j _ => by rw [if_neg (by omega)]
theorem lst_succ {fs : List Flow} {i j : Nat} {f g : Flow} (hf : fs[i]? = some f) (hg : fs[j]? = some g) (hj : j < i) : lst fs (i + 1) j = if g = f then i else lst fs i j := by
  unfold lst
  rw [hg]
  dsimp only
  rw [if_pos (by omega), if_pos hj]
  conv => lhs; unfold lastI
  rw [hf]
  by_cases e : g = f
  · subst e; rw [if_pos rfl, if_pos rfl]; rfl
  · rw [if_neg e, if_neg (fun q => e (Option.some.inj q).symm)]
theorem lm_end {fs : List Flow} {i : Nat} {f : Flow} (hf : fs[i]? = some f) : lm fs i i = la fs (i + 1) := by
  unfold lm la
  refine List.map_congr_left fun j hj => ?_
  by_cases h : j < i
  · rw [if_pos h]
  · rw [if_neg h]
    congr 1
    by_cases e : j = i
    · subst e
      unfold lst
      rw [hf]
      dsimp only
      rw [if_neg (by omega), if_pos (by omega)]
      unfold lastI
      rw [hf, if_pos rfl]; rfl
    · unfold lst
      cases fs[j]? with
      | none => rfl
      | some g => dsimp only; rw [if_neg (by omega), if_neg (by omega)]
theorem lm_step {fs : List Flow} {i j : Nat} {f g : Flow} (hf : fs[i]? = some f) (hg : fs[j]? = some g) (hj : j < i) : lm fs i (j + 1) = if g = f then (lm fs i j).set j (i : Int) else lm fs i j := by
  have hjl : j < fs.length := (List.getElem?_eq_some_iff.1 hg).1
  apply List.ext_getElem?
  intro k
  have h1 : ∀ jj, (lm fs i jj)[k]? = if k < fs.length then some (((if k < jj then lst fs (i + 1) k else lst fs i k) : Nat) : Int) else none := by
    intro jj
    unfold lm
    rw [List.getElem?_map]
    by_cases hk : k < fs.length
    · rw [List.getElem?_range hk, if_pos hk]; rfl
    · rw [List.getElem?_eq_none (by simp; omega), if_neg hk]; rfl
  have hs := lst_succ hf hg hj
  by_cases e : g = f
  · rw [if_pos e, List.getElem?_set, h1, h1]
    rw [if_pos e] at hs
    by_cases hk : j = k
    · subst hk
      rw [if_pos rfl, if_pos hjl, if_pos (by omega), hs, lm_len, if_pos hjl]
    · rw [if_neg hk]
      have : (k < j + 1) ↔ (k < j) := by omega
      simp only [this]
  · rw [if_neg e, h1, h1]
    rw [if_neg e] at hs
    by_cases hk : j = k
    · subst hk; rw [if_pos hjl, if_pos hjl, if_pos (show j < j + 1 by omega), if_neg (show ¬ j < j by omega), hs]
    · have : (k < j + 1) ↔ (k < j) := by omega
      simp only [this]
theorem lastI_some {fs : List Flow} {i j : Nat} {f : Flow} (hf : fs[j]? = some f) (hj : j < i) : ∃ k, lastI fs i f = some k ∧ k < i := by
  induction i with
  | zero => omega
  | succ i ih =>
    unfold lastI
    by_cases e : fs[i]? = some f
    · rw [if_pos e]; exact ⟨i, rfl, by omega⟩
    · rw [if_neg e]
      by_cases h : j = i
      · subst h; exact absurd hf e
      · obtain ⟨k, h1, h2⟩ := ih (by omega); exact ⟨k, h1, by omega⟩
theorem la_get {fs : List Flow} {i k : Nat} {x : Int} (h : (la fs i)[k]? = some x) : x = ((lst fs i k : Nat) : Int) := by
  unfold la at h
  rw [List.getElem?_map] at h
  obtain ⟨j, h1, h2⟩ := Option.map_eq_some_iff.1 h
  obtain ⟨_, rfl⟩ := List.getElem?_eq_some_iff.1 h1
  rw [← h2]; simp
theorem keep_get {now : Int} {fs : List Flow} {T : Tb} {k : Nat} {f : Flow} (h : KeepI now fs fs.length T) (hf : fs[k]? = some f) : (lookL T.m f).isSome = goodF f ∧ (goodF f = true → ((lookL T.m f).getD zeroE).dip = ((lst fs fs.length k : Nat) : Int) ∧ ((lookL T.m f).getD zeroE).epoch = ((lst fs fs.length k : Nat) : Int)) := by
  have hk : k < fs.length := (List.getElem?_eq_some_iff.1 hf).1
  obtain ⟨j, h1, _⟩ := lastI_some (i := fs.length) hf hk
  rw [h.look f, h1]
  have hl : lst fs fs.length k = j := by unfold lst; rw [hf]; dsimp only; rw [if_pos hk, h1]; rfl
  rw [hl]
  by_cases hg : goodF f = true
  · rw [if_pos hg, hg]; exact ⟨rfl, fun _ => ⟨rfl, rfl⟩⟩
  · rw [if_neg hg]; exact ⟨by cases h2 : goodF f with | false => rfl | true => exact absurd h2 hg, fun q => absurd q hg⟩
theorem lst_lt {fs : List Flow} {k : Nat} (hk : k < fs.length) : lst fs fs.length k < fs.length := by
  obtain ⟨f, hf⟩ := get_some hk
  obtain ⟨j, h1, h2⟩ := lastI_some (i := fs.length) hf hk
  unfold lst; rw [hf]; dsimp only; rw [if_pos hk, h1]; exact h2
theorem range_snoc (i : Nat) : ((List.range i).map fun j => ((j : Nat) : Int)) ++ [((i : Nat) : Int)] = (List.range (i + 1)).map fun j => ((j : Nat) : Int) := by
  rw [List.range_succ, List.map_append]; rfl
set_option maxHeartbeats 2000000 in
theorem FlowKeeps_ct (A : Option Addr) (c : Nat) (fs : List Flow) (now : Int) (w : World) (hfs : Rd w 5 cellsF A fs) (hfc : fs.length ≤ c) : Calls Try.prog 7 #[.slice A fs.length c, .int .i64 now] w fun e w' => e = .returned (.bool true) ∧ Fr w w' [] := by
  refine enterD (n := 167) Try.func7 rfl rfl (Nat.le_of_ble_eq_true rfl) ?_
  intro Q0 hN hret hret'
  have hC := Cx.start w
  refine WC.seq (fun K1 hK2 => ?_)
  refine WC.region ?_
  refine WL.runs 1 [(4, .bool false)] (fun _ => by kernel_rfl) ?_
  refine WL.done rfl ?_
  refine QX.then_normal (hK2 _ _ ?_)
  refine WC.seq (fun K3 hK4 => ?_)
  refine WC.seq (fun K5 hK6 => ?_)
  refine WC.region ?_
  refine WL.call rfl rfl rfl rfl rfl (by kernel_rfl) (alive_ct w) ?_
  rintro _ w8 ⟨rfl, hF7⟩
  refine ⟨_, rfl, ?_⟩
  have hC9 := hC.call hF7
  refine WL.runs 1 [(23, .bool false)] (fun _ => by kernel_rfl) ?_
  refine WL.done rfl ?_
  refine QX.then_normal (hK6 _ _ ?_)
  refine WC.cond_false rfl ?_
  refine WC.skip ?_
  refine QX.then_normal (hK4 _ _ ?_)
  refine WC.seq (fun K10 hK11 => ?_)
  refine WC.seq (fun K12 hK13 => ?_)
  refine WC.region ?_
  refine WL.runs 4 [(27, .bool (decide ((fs.length : Int) > 200))), (26, .bool (decide ((fs.length : Int) > 200))), (25, .int .i64 (fs.length : Int)), (24, .slice A fs.length c)] (fun _ => by kernel_rfl) ?_
  refine WL.test_at 27 (decide ((fs.length : Int) > 200)) rfl (fun t14b => ?_) (fun t14b => ?_)
  · -- (fs.length : Int) > 200: true
    have t14 : (200 : Int) < (fs.length : Int) := by have q_ := of_decide_eq_true t14b; omega
    refine WL.runs 7 [(34, .bool true), (33, undef), (32, undef), (31, .bool true), (30, .bool true), (29, undef), (28, undef)] (fun _ => by kernel_rfl) ?_
    refine WL.done rfl ?_
    refine QX.then_normal (hK13 _ _ ?_)
    refine WC.cond_true rfl ?_
    refine WC.seq (fun K15 hK16 => ?_)
    refine WC.region ?_
    refine WL.runs 1 [(4, .bool true)] (fun _ => by kernel_rfl) ?_
    refine WL.done rfl ?_
    refine QX.then_normal (hK16 _ _ ?_)
    refine WC.ret ?_
    refine QX.then_ret ?_
    refine (hret _ _ _ rfl ?_).1
    clear hN hret hret' hK16 hK13 hK11 hK6 hK4 hK2
    exact ⟨rfl, hC9.fr⟩
  · -- (fs.length : Int) > 200: false
    have t14 : (fs.length : Int) ≤ 200 := by have q_ := of_decide_eq_false t14b; omega
    refine WL.runs 4 [(31, .bool (decide (now < 0))), (30, .bool (decide (now < 0))), (29, .bool (decide (now < 0))), (28, .int .i64 now)] (fun _ => by kernel_rfl) ?_
    refine WL.test_at 31 (decide (now < 0)) rfl (fun t17b => ?_) (fun t17b => ?_)
    · -- now < 0: true
      have t17 : now < 0 := by have q_ := of_decide_eq_true t17b; omega
      refine WL.runs 3 [(34, .bool true), (33, undef), (32, undef)] (fun _ => by kernel_rfl) ?_
      refine WL.done rfl ?_
      refine QX.then_normal (hK13 _ _ ?_)
      refine WC.cond_true rfl ?_
      refine WC.seq (fun K18 hK19 => ?_)
      refine WC.region ?_
      refine WL.runs 1 [(4, .bool true)] (fun _ => by kernel_rfl) ?_
      refine WL.done rfl ?_
      refine QX.then_normal (hK19 _ _ ?_)
      refine WC.ret ?_
      refine QX.then_ret ?_
      refine (hret _ _ _ rfl ?_).1
      clear hN hret hret' hK19 hK13 hK11 hK6 hK4 hK2
      exact ⟨rfl, hC9.fr⟩
    · -- now < 0: false
      have t17 : (0 : Int) ≤ now := by have q_ := of_decide_eq_false t17b; omega
      refine WL.runs 3 [(34, .bool (decide (now > 549755813888))), (33, .bool (decide (now > 549755813888))), (32, .int .i64 now)] (fun _ => by kernel_rfl) ?_
      refine WL.done rfl ?_
      refine QX.then_normal (hK13 _ _ ?_)
      refine WC.test_at 34 (decide (now > 549755813888)) rfl (fun t20b => ?_) (fun t20b => ?_)
      · -- now > 549755813888: true
        have t20 : (549755813888 : Int) < now := by have q_ := of_decide_eq_true t20b; omega
        refine WC.cond_true rfl ?_
        refine WC.seq (fun K21 hK22 => ?_)
        refine WC.region ?_
        refine WL.runs 1 [(4, .bool true)] (fun _ => by kernel_rfl) ?_
        refine WL.done rfl ?_
        refine QX.then_normal (hK22 _ _ ?_)
        refine WC.ret ?_
        refine QX.then_ret ?_
        refine (hret _ _ _ rfl ?_).1
        clear hN hret hret' hK22 hK13 hK11 hK6 hK4 hK2
        exact ⟨rfl, hC9.fr⟩
      · -- now > 549755813888: false
        have t20 : now ≤ 549755813888 := by have q_ := of_decide_eq_false t20b; omega
        refine WC.cond_false rfl ?_
        refine WC.skip ?_
        refine QX.then_normal (hK11 _ _ ?_)
        refine WC.seq (fun K23 hK24 => ?_)
        refine WC.region ?_
        refine WL.call rfl rfl rfl rfl rfl (by kernel_rfl) (New_ct 0 4096 w8 (by omega) (by omega)) ?_
        rintro _ w28 ⟨p25, b26, rfl, hF27, hT30, hge31, hge32⟩
        have hC29 := hC9.callN hF27 (G := [p25, b26]) (fun x_ hx_ => by simp at hx_; rcases hx_ with rfl | rfl; exact hge31; exact hge32) (tbAt_lt hT30)
        refine ⟨_, rfl, ?_⟩
        have hok33 : TOk (⟨[], 0, 0, 0, 4096⟩ : Tb) := TOk.new (by omega) (by omega)
        have hms34 : (⟨[], 0, 0, 0, 4096⟩ : Tb).tm = 0 ∧ (⟨[], 0, 0, 0, 4096⟩ : Tb).um = 4096 := ⟨rfl, rfl⟩
        refine WL.runs 5 [(6, .nilIface), (5, .pointer (some ⟨p25, 0, none⟩)), (38, .nilIface), (37, .pointer (some ⟨p25, 0, none⟩)), (35, .tuple #[.pointer (some ⟨p25, 0, none⟩), .nilIface])] (fun _ => by kernel_rfl) ?_
        refine WL.done rfl ?_
        refine QX.then_normal (hK24 _ _ ?_)
        refine WC.seq (fun K35 hK36 => ?_)
        refine WC.seq (fun K37 hK38 => ?_)
        refine WC.region ?_
        refine WL.runs 6 [(44, .bool false), (43, .bool false), (42, .pointer (some ⟨p25, 0, none⟩)), (41, .bool false), (40, .bool false), (39, .nilIface)] (fun _ => by kernel_rfl) ?_
        refine WL.done rfl ?_
        refine QX.then_normal (hK38 _ _ ?_)
        refine WC.cond_false rfl ?_
        refine WC.skip ?_
        refine QX.then_normal (hK36 _ _ ?_)
        refine WC.seq (fun K39 hK40 => ?_)
        refine WC.region ?_
        refine WL.newM hC29 (fun b => .slice (some ⟨b, 0, none⟩) 0 0) (.cells #[] 3) 45 (fun _ => by kernel_rfl) (fun g41 w42 hb45 hF43 hC44 => ?_)
        have hf46 := tbAt_fr hT30 hF43 (by simp)
        refine WL.runs 1 [(7, .slice (some ⟨g41, 0, none⟩) 0 0)] (fun _ => by kernel_rfl) ?_
        refine WL.done rfl ?_
        refine QX.then_normal (hK40 _ _ ?_)
        refine WC.seq (fun K47 hK48 => ?_)
        refine WC.seq (fun K49 hK50 => ?_)
        refine WC.region ?_
        refine WL.runs 3 [(48, .int .i64 0), (47, .int .i64 (fs.length : Int)), (46, .slice A fs.length c)] (fun _ => by kernel_rfl) ?_
        refine WL.done rfl ?_
        refine QX.then_normal (hK50 _ _ ?_)
        refine WC.block ?_
        have hnow0 : 0 ≤ now := by omega
        have hnow1 : now ≤ 549755813888 := by omega
        have ho52 : World.ownsRow w42 0 3 1 (.slice (some ⟨g41, 0, none⟩) 0 0) 0 [] := own_of_blk (Nat.zero_le _) (hC44.get 0 rfl) (Nat.le_refl _) (Nat.zero_le _) (by simp) rfl
        have hC51 := hC44.toF 0 rfl
        refine WC.loop (fun m_ E_ w_ => ∃ (i : Nat) (T5 : Tb) (A5 : Option Addr) (n5 c5 : Nat), m_ = fs.length - i ∧ E_ = [(0, .slice A fs.length c), (1, .int .i64 now), (5, .pointer (some ⟨p25, 0, none⟩)), (7, .slice A5 n5 c5), (46, .slice A fs.length c), (47, .int .i64 (fs.length : Int)), (48, .int .i64 (i : Int))] ∧ Cx w [] w_ [] [[p25, b26], blk (.slice A5 n5 c5)] ∧ tbAt w_ p25 b26 T5 ∧ World.ownsRow w_ 0 3 1 (.slice A5 n5 c5) n5 (((List.range i).map fun j => ((j : Nat) : Int)).flatMap (Go.Tw.encI .i64)) ∧ (i ≤ fs.length ∧ KeepI now fs i T5)) ⟨_, _, ⟨0, (⟨[], 0, 0, 0, 4096⟩ : Tb), some ⟨g41, 0, none⟩, 0, 0, rfl, rfl, hC51, hf46, ho52, Nat.zero_le _, KeepI.start now fs⟩, sub_of ⟨rfl, rfl, rfl, rfl, rfl, rfl, rfl, trivial⟩⟩ (fun m56 E_ w57 K53 hK54 hI55 => ?_)
        obtain ⟨i, T5, A5, n5, c5, rfl, rfl, hC58, hT5, hrow5, hi, hkp5⟩ := hI55
        have hcn5_ := own_count (Go.Tw.encI_len _) (by decide) hrow5
        rw [List.length_map, List.length_range] at hcn5_
        refine WC.seq (fun K59 hK60 => ?_)
        refine WC.region ?_
        refine WL.runs 1 [(49, .bool (decide ((i : Int) < (fs.length : Int))))] (fun _ => by kernel_rfl) ?_
        refine WL.done rfl ?_
        refine QX.then_normal (hK60 _ _ ?_)
        refine WC.seq (fun K61 hK62 => ?_)
        refine WC.test_at 49 (decide ((i : Int) < (fs.length : Int))) rfl (fun t63b => ?_) (fun t63b => ?_)
        · -- (i : Int) < (fs.length : Int): true
          have t63 : (i : Int) < (fs.length : Int) := by have q_ := of_decide_eq_true t63b; omega
          refine WC.cond_true rfl ?_
          refine WC.skip ?_
          refine QX.then_normal (hK62 _ _ ?_)
          refine WC.seq (fun K64 hK65 => ?_)
          refine WC.block ?_
          refine WC.seq (fun K66 hK67 => ?_)
          refine WC.region ?_
          refine WL.runs 1 [(50, .int .i64 (i : Int))] (fun _ => by kernel_rfl) ?_
          obtain ⟨e68, he69⟩ := get_some (xs := fs) (i := i) (by omega)
          obtain ⟨b70, o72, hA71, hc73⟩ := hfs.at_ _ _ he69
          refine WL.index A fs.length c 51 .i64 (i : Int) b70 o72 i 5 (by kernel_rfl) hA71 (by omega) (by omega) (o72 + i * 5) (by first | (simp; done) | omega) ?_
          refine WL.load 32 (.pointer (some ⟨b70, o72 + i * 5, none⟩)) (.agg #[.int .i64 e68.proto, .int .u32 e68.src, .int .i64 e68.sport, .int .u32 e68.dst, .int .i64 e68.dport]) 52 (by kernel_rfl) (run_rdN (l := [.int .i64 e68.proto, .int .u32 e68.src, .int .i64 e68.sport, .int .u32 e68.dst, .int .i64 e68.dport]) rfl rfl (fun j u hu => by have hq_ := hC58.fr.cell (hc73 j u hu) (by simp); simpa [Nat.add_assoc] using hq_)) ?_
          refine WL.newM hC58 (fun b => .pointer (some ⟨b, 0, none⟩)) (.cells #[.int .i64 0, .int .u32 0, .int .i64 0, .int .u32 0, .int .i64 0] 32) 9 (fun _ => by kernel_rfl) (fun g74 w75 hb78 hF76 hC77 => ?_)
          have hf79 := tbAt_fr hT5 hF76 (by simp)
          have ho80 := own_fr hrow5 hF76 (by simp)
          refine WL.runs 1 [(8, .int .i64 (i : Int))] (fun _ => by kernel_rfl) ?_
          refine WL.storeM (c' := #[.int .i64 e68.proto, .int .u32 e68.src, .int .i64 e68.sport, .int .u32 e68.dst, .int .i64 e68.dport]) hC77 0 32 g74 0 (.agg #[.int .i64 e68.proto, .int .u32 e68.src, .int .i64 e68.sport, .int .u32 e68.dst, .int .i64 e68.dport]) (by kernel_rfl) rfl (by kernel_rfl) (fun w81 hF83 hC84 => ?_)
          have hf85 := tbAt_fr hf79 hF83 (hC77.apartM 0 0 rfl rfl)
          have ho86 := own_fr ho80 hF83 (hC77.apartM 1 0 rfl rfl)
          refine WL.done rfl ?_
          refine QX.then_normal (hK67 _ _ ?_)
          refine WC.seq (fun K87 hK88 => ?_)
          refine WC.region ?_
          refine WL.runs 1 [(54, .pointer (some ⟨p25, 0, none⟩))] (fun _ => by kernel_rfl) ?_
          refine WL.load 32 (.pointer (some ⟨g74, 0, none⟩)) (.agg #[.int .i64 e68.proto, .int .u32 e68.src, .int .i64 e68.sport, .int .u32 e68.dst, .int .i64 e68.dport]) 55 (by kernel_rfl) (run_ld (hC84.get 0 rfl) rfl) ?_
          refine WL.runs 2 [(57, .int .u32 (IntKind.u32.wrap ((i : Int)))), (56, .int .i64 (i : Int))] (fun _ => by kernel_rfl) ?_
          refine WL.recast (show (.int .u32 (IntKind.u32.wrap ((i : Int))) : Value) = .int .u32 (i : Int) from by rw [wrap_in_u32 ((i : Int)) (by omega) (by omega)]) ?_
          refine WL.runs 4 [(61, .int .i64 (Int.tmod (i : Int) 9)), (60, .int .i64 (i : Int)), (59, .int .i64 now), (58, .int .i64 (i : Int))] (fun _ => by kernel_rfl) ?_
          refine WL.recast (show (.int .i64 (Int.tmod (i : Int) 9) : Value) = .int .i64 ((i % 9 : Nat) : Int) from congrArg (Value.int .i64) (by rw [Int.tmod_eq_emod_of_nonneg (Int.natCast_nonneg i)]; omega)) ?_
          refine WL.runs 1 [(62, .int .i64 (IntKind.i64.wrap (now + ((i % 9 : Nat) : Int))))] (fun _ => by kernel_rfl) ?_
          refine WL.recast (show (.int .i64 (IntKind.i64.wrap (now + ((i % 9 : Nat) : Int))) : Value) = .int .i64 (now + ((i % 9 : Nat) : Int)) from by rw [wrap_in_i64 (now + ((i % 9 : Nat) : Int)) (by omega) (by omega)]) ?_
          refine WL.call rfl rfl rfl rfl rfl (by kernel_rfl) (Put_ct p25 b26 T5 e68 (i : Int) (i : Int) (now + ((i % 9 : Nat) : Int)) w81 hf85 hkp5.ok.bth hkp5.ok.buh) ?_
          rintro _ w96 ⟨T89, o90, fd91, er92, rfl, hF95, hT98, hrel93⟩
          have hkp94 := hkp5.put he69 (by omega) hnow0 hnow1 hrel93
          obtain ⟨-, rfl, rfl⟩ := id hkp94
          have hok99 := hkp94.1.ok
          have hms100 := trivial
          have hC97 := hC84.callF 0 rfl hF95 (fun _ hx_ => .inl hx_) (tbAt_lt hT98)
          refine ⟨_, rfl, ?_⟩
          have ho101 := own_fr ho86 hF95 (hC84.disj 1 0 rfl rfl (by decide))
          refine WL.runs 4 [(66, errV 47 (if goodF e68 then 0 else 9)), (65, .bool false), (64, .agg #[.int .i64 o90.flow.proto, .int .u32 o90.flow.src, .int .i64 o90.flow.sport, .int .u32 o90.flow.dst, .int .i64 o90.flow.dport, .int .u32 o90.dip, .int .i64 o90.epoch, .bool o90.trusted, .bool o90.closing, .int .i64 o90.last]), (53, .tuple #[.agg #[.int .i64 o90.flow.proto, .int .u32 o90.flow.src, .int .i64 o90.flow.sport, .int .u32 o90.flow.dst, .int .i64 o90.flow.dport, .int .u32 o90.dip, .int .i64 o90.epoch, .bool o90.trusted, .bool o90.closing, .int .i64 o90.last], .bool false, errV 47 (if goodF e68 then 0 else 9)])] (fun _ => by kernel_rfl) ?_
          refine WL.newM hC97 (fun b => .pointer (some ⟨b, 0, none⟩)) (.cells #[.int .i64 0, .int .u32 0, .int .i64 0, .int .u32 0, .int .i64 0, .int .u32 0, .int .i64 0, .bool false, .bool false, .int .i64 0] 34) 10 (fun _ => by kernel_rfl) (fun g102 w103 hb106 hF104 hC105 => ?_)
          have hf107 := tbAt_fr hT98 hF104 (by simp)
          have ho108 := own_fr ho101 hF104 (by simp)
          refine WL.storeM (c' := #[.int .i64 o90.flow.proto, .int .u32 o90.flow.src, .int .i64 o90.flow.sport, .int .u32 o90.flow.dst, .int .i64 o90.flow.dport, .int .u32 o90.dip, .int .i64 o90.epoch, .bool o90.trusted, .bool o90.closing, .int .i64 o90.last]) hC105 1 34 g102 0 (.agg #[.int .i64 o90.flow.proto, .int .u32 o90.flow.src, .int .i64 o90.flow.sport, .int .u32 o90.flow.dst, .int .i64 o90.flow.dport, .int .u32 o90.dip, .int .i64 o90.epoch, .bool o90.trusted, .bool o90.closing, .int .i64 o90.last]) (by kernel_rfl) rfl (by kernel_rfl) (fun w109 hF111 hC112 => ?_)
          have hf113 := tbAt_fr hf107 hF111 (hC105.apartM 0 1 rfl rfl)
          have ho114 := own_fr ho108 hF111 (hC105.apartM 1 1 rfl rfl)
          refine WL.runs 2 [(12, errV 47 (if goodF e68 then 0 else 9)), (11, .bool false)] (fun _ => by kernel_rfl) ?_
          refine WL.done rfl ?_
          refine QX.then_normal (hK88 _ _ ?_)
          refine WC.seq (fun K115 hK116 => ?_)
          refine WC.seq (fun K117 hK118 => ?_)
          refine WC.drawC hC112 [] (by kernel_rfl) (fun w119 hF120 hC121 hS122 => ?_)
          have hf123 := tbAt_fr hf113 hF120 (by simp)
          have ho124 := own_fr ho114 hF120 (by simp)
          refine WD.pure (NoPanic.then (NoPanic.then (NoPanic.block (NoPanic.then (NoPanic.then (NoPanic.block (NoPanic.then hN))))))) 0 67 (.bool false) (by kernel_rfl) (fun _ => by kernel_rfl) hS122 ?_
          refine WD.pure (NoPanic.then (NoPanic.then (NoPanic.block (NoPanic.then (NoPanic.then (NoPanic.block (NoPanic.then hN))))))) 1 68 (.bool false) (by kernel_rfl) (fun _ => by kernel_rfl) hS122 ?_
          refine WD.pure (NoPanic.then (NoPanic.then (NoPanic.block (NoPanic.then (NoPanic.then (NoPanic.block (NoPanic.then hN))))))) 2 69 (errV 47 (if goodF e68 then 0 else 9)) (by kernel_rfl) (fun _ => by kernel_rfl) hS122 ?_
          have hr125 : ∀ w_, Sem.run Try.prog (do eqGuard .eql 26 (Operand.tmp 69) (Operand.const (.nilIface)) (errV 47 (if goodF e68 then 0 else 9)) (.nilIface); binOp .eql 26 (errV 47 (if goodF e68 then 0 else 9)) (.nilIface)) w_ = .ok (.bool (goodF e68)) w_ := fun w_ => (err_eql _ (if goodF e68 then 0 else 9) (goodF e68) (by cases goodF e68 <;> rfl) _)
          refine WD.semP (NoPanic.then (NoPanic.then (NoPanic.block (NoPanic.then (NoPanic.then (NoPanic.block (NoPanic.then hN))))))) 3 (do eqGuard .eql 26 (Operand.tmp 69) (Operand.const (.nilIface)) (errV 47 (if goodF e68 then 0 else 9)) (.nilIface); binOp .eql 26 (errV 47 (if goodF e68 then 0 else 9)) (.nilIface)) 70 (.bool (goodF e68)) (by kernel_rfl) (by kernel_rfl) (fun _ _ => hr125 _) hS122 ?_
          refine WD.load (NoPanic.then (NoPanic.then (NoPanic.block (NoPanic.then (NoPanic.then (NoPanic.block (NoPanic.then hN))))))) 4 32 (.pointer (some ⟨g74, 0, none⟩)) (.agg #[.int .i64 e68.proto, .int .u32 e68.src, .int .i64 e68.sport, .int .u32 e68.dst, .int .i64 e68.dport]) 71 (by kernel_rfl) (by kernel_rfl) (fun _ hS_ => run_ld (Fr.has hS_ (hC121.get 0 rfl) (by simp)) rfl) hS122 ?_
          refine WD.call 5 (by kernel_rfl) rfl rfl rfl rfl rfl (by kernel_rfl) (Good1_ct e68 w119) ?_
          rintro _ w127 ⟨rfl, hF126⟩
          have hS129 := hS122.trans hF126 (by simp)
          refine ⟨_, rfl, hS129, ?_⟩
          have hC128 := hC121.call hF126
          have hf130 := tbAt_fr hf123 hF126 (by simp)
          have ho131 := own_fr ho124 hF126 (by simp)
          refine WD.pure (NoPanic.then (NoPanic.then (NoPanic.block (NoPanic.then (NoPanic.then (NoPanic.block (NoPanic.then hN))))))) 6 73 (.bool ((goodF e68) != (goodF e68))) (by kernel_rfl) (fun _ => by kernel_rfl) hS129 ?_
          refine WD.pure (NoPanic.then (NoPanic.then (NoPanic.block (NoPanic.then (NoPanic.then (NoPanic.block (NoPanic.then hN))))))) 7 74 (.bool ((goodF e68) != (goodF e68))) (by kernel_rfl) (fun _ => by kernel_rfl) hS129 ?_
          refine WD.done (by kernel_rfl) ?_
          refine QX.then_normal (hK118 _ _ ?_)
          refine WC.know 74 (.bool ((goodF e68) != (goodF e68))) (.bool false) rfl (congrArg Value.bool (by simp)) ?_
          refine WC.cond_false rfl ?_
          refine WC.skip ?_
          refine QX.then_normal (hK116 _ _ ?_)
          refine WC.region ?_
          refine WL.runs 2 [(76, .int .i64 (i : Int)), (75, .slice A5 n5 c5)] (fun _ => by kernel_rfl) ?_
          refine WL.newM hC128 (fun b => .slice (some ⟨b, 0, none⟩) 1 1) (.cells #[.int .i64 (i : Int)] 3) 77 (fun _ => by kernel_rfl) (fun g132 w133 hb136 hF134 hC135 => ?_)
          have hf137 := tbAt_fr hf130 hF134 (by simp)
          have ho138 := own_fr ho131 hF134 (by simp)
          obtain ⟨v139, w140, hr141, ho142, hF143, hC144, hnil145, hsub146⟩ := app_run Try.prog hC135 1 (v := .slice A5 n5 c5) rfl 68 68 3 1 8 n5 1 1 (some ⟨g132, 0, none⟩) rfl ho138 [.int .i64 (i : Int)] rfl (srcOk.blk 1 (hC135.get 2 rfl)) rfl (by simp only [maxLen]; omega) (by omega)
          obtain ⟨A147, c148, rfl, hle149⟩ := own_form ho142
          refine WL.sem (Builtin.append_ #[68, 68] 68 #[.slice A5 n5 c5, .slice (some ⟨g132, 0, none⟩) 1 1]) 78 (.slice A147 (n5 + 1) c148) (by kernel_rfl) hr141 ?_
          have hf151 := tbAt_fr hf137 hF143 (hC135.disj 0 1 rfl rfl (by decide))
          refine WL.runs 1 [(7, .slice A147 (n5 + 1) c148)] (fun _ => by kernel_rfl) ?_
          refine WL.done rfl ?_
          refine QX.block_normal ?_
          refine QX.then_normal (hK65 _ _ ?_)
          refine WC.region ?_
          refine WL.runs 1 [(79, .int .i64 (IntKind.i64.wrap ((i : Int) + 1)))] (fun _ => by kernel_rfl) ?_
          refine WL.recast (show (.int .i64 (IntKind.i64.wrap ((i : Int) + 1)) : Value) = .int .i64 ((i : Int) + 1) from by rw [wrap_in_i64 ((i : Int) + 1) (by omega) (by omega)]) ?_
          refine WL.runs 1 [(48, .int .i64 ((i : Int) + 1))] (fun _ => by kernel_rfl) ?_
          refine WL.done rfl ?_
          refine QX.then_normal ?_
          have hC152 := hC144.pick [] [0, 1] rfl rfl
          refine fun a_ ha_ => hK54 _ _ _ ?_ ⟨i + 1, T89, A147, n5 + 1, c148, rfl, rfl, hC152, hf151, by rw [← range_snoc, List.flatMap_append]; exact ho142, by omega, hkp94.1⟩ a_ (ha_.weaken (sub_of ⟨rfl, rfl, rfl, rfl, rfl, rfl, rfl, trivial⟩))
          omega
        · -- (i : Int) < (fs.length : Int): false
          have t63 : (fs.length : Int) ≤ (i : Int) := by have q_ := of_decide_eq_false t63b; omega
          refine WC.cond_false rfl ?_
          have hie_ : i = fs.length := by omega
          have hkp6 := hkp5
          have hrow6 := hrow5
          rw [hie_] at hkp6 hrow6
          rw [← la_0] at hrow6
          have hn5_ : fs.length = n5 := by omega
          refine WC.exit ?_
          refine QX.then_exit ?_
          refine QX.then_exit ?_
          refine QX.block_hit ?_
          refine QX.then_normal (hK48 _ _ ?_)
          refine WC.seq (fun K153 hK154 => ?_)
          refine WC.seq (fun K155 hK156 => ?_)
          refine WC.region ?_
          refine WL.runs 3 [(82, .int .i64 (IntKind.i64.wrap (now + 10))), (81, .int .i64 now), (80, .pointer (some ⟨p25, 0, none⟩))] (fun _ => by kernel_rfl) ?_
          refine WL.recast (show (.int .i64 (IntKind.i64.wrap (now + 10)) : Value) = .int .i64 (now + 10) from by rw [wrap_in_i64 (now + 10) (by omega) (by omega)]) ?_
          have hx158 := Expire_ct p25 b26 T5 (now + 10) w57 hT5 hkp6.ok
          rw [keep_exp1 hkp6 hnow0 hnow1] at hx158
          refine WL.call rfl rfl rfl rfl rfl (by kernel_rfl) (hx158) ?_
          rintro _ w160 ⟨v_, rfl, hF159, hT162, ho157⟩
          have hok163 := trivial
          have hms164 := trivial
          have hC161 := hC58.callFN 0 rfl hF159 (fun _ hx_ => .inl hx_) (tbAt_lt hT162) (own_ge ho157) (own_lt ho157) (fun x_ hx_ hg_ => Nat.not_lt.2 (own_ge ho157 x_ hg_) (hC58.ltF 0 rfl x_ hx_))
          obtain ⟨A165, c166, rfl, hle167⟩ := own_form ho157
          have ho168 := own_base (b' := 0) ho157 (fun _ _ => Nat.zero_le _)
          refine ⟨_, rfl, ?_⟩
          have ho169 := own_fr hrow6 hF159 (hC58.disj 1 0 rfl rfl (by decide))
          refine WL.runs 2 [(85, .bool ((([] : List Flow).length : Int) != 0)), (84, .int .i64 (([] : List Flow).length : Int))] (fun _ => by kernel_rfl) ?_
          refine WL.done rfl ?_
          refine QX.then_normal (hK156 _ _ ?_)
          refine WC.know 85 (.bool ((([] : List Flow).length : Int) != 0)) (.bool false) rfl (congrArg Value.bool (by rfl)) ?_
          refine WC.cond_false rfl ?_
          refine WC.skip ?_
          refine QX.then_normal (hK154 _ _ ?_)
          refine WC.seq (fun K171 hK172 => ?_)
          refine WC.seq (fun K173 hK174 => ?_)
          refine WC.region ?_
          refine WL.runs 3 [(88, .int .i64 0), (87, .int .i64 (fs.length : Int)), (86, .slice A fs.length c)] (fun _ => by kernel_rfl) ?_
          refine WL.done rfl ?_
          refine QX.then_normal (hK174 _ _ ?_)
          refine WC.block ?_
          refine WC.loop (fun m_ E_ w_ => ∃ (i2 : Nat), m_ = fs.length - i2 ∧ E_ = [(0, .slice A fs.length c), (1, .int .i64 now), (5, .pointer (some ⟨p25, 0, none⟩)), (7, .slice A5 n5 c5), (86, .slice A fs.length c), (87, .int .i64 (fs.length : Int)), (88, .int .i64 (i2 : Int))] ∧ Cx w [] w_ [] [[p25, b26], blk (.slice A5 n5 c5), blk (.slice A165 (([] : List Flow).length) c166)] ∧ tbAt w_ p25 b26 T5 ∧ World.ownsRow w_ 0 3 1 (.slice A5 n5 c5) n5 ((la fs i2).flatMap (Go.Tw.encI .i64)) ∧ (i2 ≤ fs.length)) ⟨_, _, ⟨0, rfl, rfl, hC161, hT162, ho169, Nat.zero_le _⟩, sub_of ⟨rfl, rfl, rfl, rfl, rfl, rfl, rfl, trivial⟩⟩ (fun m178 E_ w179 K175 hK176 hI177 => ?_)
          obtain ⟨i2, rfl, rfl, hC180, tbl_m178, hrow7, hi2⟩ := hI177
          skip
          refine WC.seq (fun K181 hK182 => ?_)
          refine WC.region ?_
          refine WL.runs 1 [(89, .bool (decide ((i2 : Int) < (fs.length : Int))))] (fun _ => by kernel_rfl) ?_
          refine WL.done rfl ?_
          refine QX.then_normal (hK182 _ _ ?_)
          refine WC.seq (fun K183 hK184 => ?_)
          refine WC.test_at 89 (decide ((i2 : Int) < (fs.length : Int))) rfl (fun t185b => ?_) (fun t185b => ?_)
          · -- (i2 : Int) < (fs.length : Int): true
            have t185 : (i2 : Int) < (fs.length : Int) := by have q_ := of_decide_eq_true t185b; omega
            refine WC.cond_true rfl ?_
            refine WC.skip ?_
            refine QX.then_normal (hK184 _ _ ?_)
            refine WC.seq (fun K186 hK187 => ?_)
            refine WC.block ?_
            refine WC.seq (fun K188 hK189 => ?_)
            refine WC.region ?_
            refine WL.runs 1 [(90, .int .i64 (i2 : Int))] (fun _ => by kernel_rfl) ?_
            obtain ⟨e190, he191⟩ := get_some (xs := fs) (i := i2) (by omega)
            obtain ⟨b192, o194, hA193, hc195⟩ := hfs.at_ _ _ he191
            refine WL.index A fs.length c 91 .i64 (i2 : Int) b192 o194 i2 5 (by kernel_rfl) hA193 (by omega) (by omega) (o194 + i2 * 5) (by first | (simp; done) | omega) ?_
            refine WL.load 32 (.pointer (some ⟨b192, o194 + i2 * 5, none⟩)) (.agg #[.int .i64 e190.proto, .int .u32 e190.src, .int .i64 e190.sport, .int .u32 e190.dst, .int .i64 e190.dport]) 92 (by kernel_rfl) (run_rdN (l := [.int .i64 e190.proto, .int .u32 e190.src, .int .i64 e190.sport, .int .u32 e190.dst, .int .i64 e190.dport]) rfl rfl (fun j u hu => by have hq_ := hC180.fr.cell (hc195 j u hu) (by simp); simpa [Nat.add_assoc] using hq_)) ?_
            refine WL.newM hC180 (fun b => .pointer (some ⟨b, 0, none⟩)) (.cells #[.int .i64 0, .int .u32 0, .int .i64 0, .int .u32 0, .int .i64 0] 32) 14 (fun _ => by kernel_rfl) (fun g196 w197 hb200 hF198 hC199 => ?_)
            have hf201 := tbAt_fr tbl_m178 hF198 (by simp)
            have ho202 := own_fr hrow7 hF198 (by simp)
            refine WL.runs 1 [(13, .int .i64 (i2 : Int))] (fun _ => by kernel_rfl) ?_
            refine WL.storeM (c' := #[.int .i64 e190.proto, .int .u32 e190.src, .int .i64 e190.sport, .int .u32 e190.dst, .int .i64 e190.dport]) hC199 0 32 g196 0 (.agg #[.int .i64 e190.proto, .int .u32 e190.src, .int .i64 e190.sport, .int .u32 e190.dst, .int .i64 e190.dport]) (by kernel_rfl) rfl (by kernel_rfl) (fun w203 hF205 hC206 => ?_)
            have hf207 := tbAt_fr hf201 hF205 (hC199.apartM 0 0 rfl rfl)
            have ho208 := own_fr ho202 hF205 (hC199.apartM 1 0 rfl rfl)
            refine WL.done rfl ?_
            refine QX.then_normal (hK189 _ _ ?_)
            refine WC.seq (fun K209 hK210 => ?_)
            refine WC.region ?_
            refine WL.runs 2 [(94, .int .i64 (i2 : Int)), (93, .slice A fs.length c)] (fun _ => by kernel_rfl) ?_
            have hb211 : i2 ≤ c := by omega
            refine WL.slc 41 32 5 A A fs.length c 0 i2 i2 c none (some (.int .i64 (i2 : Int))) 95 (by kernel_rfl) (by kernel_rfl) bnd.no (bnd.yes (by omega)) (by omega) hb211 (slcAt_pre _ _ _) (by first | rfl | omega) (by first | rfl | omega) ?_
            refine WL.runs 2 [(97, .int .i64 0), (96, .int .i64 (i2 : Int))] (fun _ => by kernel_rfl) ?_
            refine WL.done rfl ?_
            refine QX.then_normal (hK210 _ _ ?_)
            refine WC.block ?_
            refine WC.loop (fun m_ E_ w_ => ∃ (j : Nat), m_ = i2 - j ∧ E_ = [(0, .slice A fs.length c), (1, .int .i64 now), (5, .pointer (some ⟨p25, 0, none⟩)), (7, .slice A5 n5 c5), (13, .int .i64 (i2 : Int)), (14, .pointer (some ⟨g196, 0, none⟩)), (86, .slice A fs.length c), (87, .int .i64 (fs.length : Int)), (88, .int .i64 (i2 : Int)), (96, .int .i64 (i2 : Int)), (97, .int .i64 (j : Int))] ∧ Cx w [] w_ [(g196, .cells #[.int .i64 e190.proto, .int .u32 e190.src, .int .i64 e190.sport, .int .u32 e190.dst, .int .i64 e190.dport] 32)] [[p25, b26], blk (.slice A5 n5 c5), blk (.slice A165 (([] : List Flow).length) c166)] ∧ tbAt w_ p25 b26 T5 ∧ World.ownsRow w_ 0 3 1 (.slice A5 n5 c5) n5 ((lm fs i2 j).flatMap (Go.Tw.encI .i64)) ∧ (j ≤ i2)) ⟨_, _, ⟨0, rfl, rfl, hC206, hf207, by rw [lm_0]; exact ho208, Nat.zero_le _⟩, sub_of ⟨rfl, rfl, rfl, rfl, rfl, rfl, rfl, rfl, rfl, rfl, rfl, trivial⟩⟩ (fun m215 E_ w216 K212 hK213 hI214 => ?_)
            obtain ⟨j, rfl, rfl, hC217, tbl_m215, hrow8, hj⟩ := hI214
            have hcn8_ := own_count (Go.Tw.encI_len _) (by decide) hrow8
            refine WC.seq (fun K218 hK219 => ?_)
            refine WC.region ?_
            refine WL.runs 1 [(98, .bool (decide ((j : Int) < (i2 : Int))))] (fun _ => by kernel_rfl) ?_
            refine WL.done rfl ?_
            refine QX.then_normal (hK219 _ _ ?_)
            refine WC.seq (fun K220 hK221 => ?_)
            refine WC.test_at 98 (decide ((j : Int) < (i2 : Int))) rfl (fun t222b => ?_) (fun t222b => ?_)
            · -- (j : Int) < (i2 : Int): true
              have t222 : (j : Int) < (i2 : Int) := by have q_ := of_decide_eq_true t222b; omega
              refine WC.cond_true rfl ?_
              refine WC.skip ?_
              refine QX.then_normal (hK221 _ _ ?_)
              refine WC.seq (fun K223 hK224 => ?_)
              refine WC.block ?_
              refine WC.seq (fun K225 hK226 => ?_)
              refine WC.region ?_
              refine WL.runs 2 [(15, .int .i64 (j : Int)), (99, .int .i64 (j : Int))] (fun _ => by kernel_rfl) ?_
              refine WL.done rfl ?_
              refine QX.then_normal (hK226 _ _ ?_)
              refine WC.seq (fun K227 hK228 => ?_)
              refine WC.drawC hC217 [] (by kernel_rfl) (fun w229 hF230 hC231 hS232 => ?_)
              have hf233 := tbAt_fr tbl_m215 hF230 (by simp)
              have ho234 := own_fr hrow8 hF230 (by simp)
              refine WD.pure (NoPanic.then (NoPanic.block (NoPanic.then (NoPanic.then (NoPanic.block (NoPanic.block (NoPanic.then (NoPanic.then (NoPanic.block (NoPanic.then hN)))))))))) 0 100 (.slice A fs.length c) (by kernel_rfl) (fun _ => by kernel_rfl) hS232 ?_
              refine WD.pure (NoPanic.then (NoPanic.block (NoPanic.then (NoPanic.then (NoPanic.block (NoPanic.block (NoPanic.then (NoPanic.then (NoPanic.block (NoPanic.then hN)))))))))) 1 101 (.int .i64 (j : Int)) (by kernel_rfl) (fun _ => by kernel_rfl) hS232 ?_
              obtain ⟨e235, he236⟩ := get_some (xs := fs) (i := j) (by omega)
              obtain ⟨b237, o239, hA238, hc240⟩ := hfs.at_ _ _ he236
              refine WD.index (NoPanic.then (NoPanic.block (NoPanic.then (NoPanic.then (NoPanic.block (NoPanic.block (NoPanic.then (NoPanic.then (NoPanic.block (NoPanic.then hN)))))))))) 2 A fs.length c 102 .i64 (j : Int) b237 o239 j 5 (by kernel_rfl) (by kernel_rfl) hA238 (by omega) (by omega) (o239 + j * 5) (by first | (simp; done) | omega) hS232 ?_
              refine WD.load (NoPanic.then (NoPanic.block (NoPanic.then (NoPanic.then (NoPanic.block (NoPanic.block (NoPanic.then (NoPanic.then (NoPanic.block (NoPanic.then hN)))))))))) 3 32 (.pointer (some ⟨b237, o239 + j * 5, none⟩)) (.agg #[.int .i64 e235.proto, .int .u32 e235.src, .int .i64 e235.sport, .int .u32 e235.dst, .int .i64 e235.dport]) 103 (by kernel_rfl) (by kernel_rfl) (fun _ hS_ => run_rdN (l := [.int .i64 e235.proto, .int .u32 e235.src, .int .i64 e235.sport, .int .u32 e235.dst, .int .i64 e235.dport]) rfl rfl (fun j u hu => by have hq_ := Fr.cell hS_ (hC231.fr.cell (hc240 j u hu) (by simp)) (by simp); simpa [Nat.add_assoc] using hq_)) hS232 ?_
              refine WD.load (NoPanic.then (NoPanic.block (NoPanic.then (NoPanic.then (NoPanic.block (NoPanic.block (NoPanic.then (NoPanic.then (NoPanic.block (NoPanic.then hN)))))))))) 4 32 (.pointer (some ⟨g196, 0, none⟩)) (.agg #[.int .i64 e190.proto, .int .u32 e190.src, .int .i64 e190.sport, .int .u32 e190.dst, .int .i64 e190.dport]) 104 (by kernel_rfl) (by kernel_rfl) (fun _ hS_ => run_ld (Fr.has hS_ (hC231.get 0 rfl) (by simp)) rfl) hS232 ?_
              have hr241 : ∀ w_, Sem.run Try.prog (do eqGuard .eql 32 (Operand.tmp 103) (Operand.tmp 104) (.agg #[.int .i64 e235.proto, .int .u32 e235.src, .int .i64 e235.sport, .int .u32 e235.dst, .int .i64 e235.dport]) (.agg #[.int .i64 e190.proto, .int .u32 e190.src, .int .i64 e190.sport, .int .u32 e190.dst, .int .i64 e190.dport]); binOp .eql 32 (.agg #[.int .i64 e235.proto, .int .u32 e235.src, .int .i64 e235.sport, .int .u32 e235.dst, .int .i64 e235.dport]) (.agg #[.int .i64 e190.proto, .int .u32 e190.src, .int .i64 e190.sport, .int .u32 e190.dst, .int .i64 e190.dport])) w_ = .ok (.bool (e235.proto == e190.proto && (e235.src == e190.src && (e235.sport == e190.sport && (e235.dst == e190.dst && (e235.dport == e190.dport && true)))))) w_ := fun w_ => (run_eql_S (by kernel_rfl))
              refine WD.semP (NoPanic.then (NoPanic.block (NoPanic.then (NoPanic.then (NoPanic.block (NoPanic.block (NoPanic.then (NoPanic.then (NoPanic.block (NoPanic.then hN)))))))))) 5 (do eqGuard .eql 32 (Operand.tmp 103) (Operand.tmp 104) (.agg #[.int .i64 e235.proto, .int .u32 e235.src, .int .i64 e235.sport, .int .u32 e235.dst, .int .i64 e235.dport]) (.agg #[.int .i64 e190.proto, .int .u32 e190.src, .int .i64 e190.sport, .int .u32 e190.dst, .int .i64 e190.dport]); binOp .eql 32 (.agg #[.int .i64 e235.proto, .int .u32 e235.src, .int .i64 e235.sport, .int .u32 e235.dst, .int .i64 e235.dport]) (.agg #[.int .i64 e190.proto, .int .u32 e190.src, .int .i64 e190.sport, .int .u32 e190.dst, .int .i64 e190.dport])) 105 (.bool (e235.proto == e190.proto && (e235.src == e190.src && (e235.sport == e190.sport && (e235.dst == e190.dst && (e235.dport == e190.dport && true)))))) (by kernel_rfl) (by kernel_rfl) (fun _ _ => hr241 _) hS232 ?_
              refine WD.done (by kernel_rfl) ?_
              refine QX.then_normal (hK228 _ _ ?_)
              refine WC.test_at 105 ((e235.proto == e190.proto && (e235.src == e190.src && (e235.sport == e190.sport && (e235.dst == e190.dst && (e235.dport == e190.dport && true)))))) rfl (fun t242b => ?_) (fun t242b => ?_)
              · -- (e235.proto == e190.proto && (e235.src == e190.src && (e235.sport == e190.sport && (e235.dst == e190.dst && (e235.dport == e190.dport && true))))) = true: true
                refine WC.cond_true rfl ?_
                refine WC.region ?_
                refine WL.runs 3 [(108, .int .i64 (i2 : Int)), (107, .int .i64 (j : Int)), (106, .slice A5 n5 c5)] (fun _ => by kernel_rfl) ?_
                have hn247 := own_count (Go.Tw.encI_len _) (by decide) ho234
                obtain ⟨e243, he244⟩ := get_some (xs := (lm fs i2 j)) (i := j) (by omega)
                obtain ⟨b245, hA246⟩ := own_addr (by decide) (Go.Tw.encI_len _) ho234 he244
                refine WL.index A5 n5 c5 109 .i64 (j : Int) b245 0 j 1 (by kernel_rfl) hA246 (by omega) (by omega) j (by first | (simp; done) | omega) ?_
                obtain ⟨w248, hr249, hF250, ho252, hC251⟩ := stoE_run Try.prog (Go.Tw.encI_len _) hC231 1 hA246 rfl ho234 j 0 (x := e243) he244 (i2 : Int) [.int .i64 (i2 : Int)] rfl 3 (.int .i64 (i2 : Int)) (j) rfl rfl rfl (by simp [Nat.add_assoc])
                refine WL.semU (Instr.storeAt 3 (.pointer (some ⟨b245, j, none⟩)) (.int .i64 (i2 : Int))) (by kernel_rfl) hr249 ?_
                have hf253 := tbAt_fr hf233 hF250 (hC231.disj 0 1 rfl rfl (by decide))
                refine WL.done rfl ?_
                refine QX.block_normal ?_
                refine QX.then_normal (hK224 _ _ ?_)
                refine WC.region ?_
                refine WL.runs 1 [(110, .int .i64 (IntKind.i64.wrap ((j : Int) + 1)))] (fun _ => by kernel_rfl) ?_
                refine WL.recast (show (.int .i64 (IntKind.i64.wrap ((j : Int) + 1)) : Value) = .int .i64 ((j : Int) + 1) from by rw [wrap_in_i64 ((j : Int) + 1) (by omega) (by omega)]) ?_
                refine WL.runs 1 [(97, .int .i64 ((j : Int) + 1))] (fun _ => by kernel_rfl) ?_
                refine WL.done rfl ?_
                refine QX.then_normal ?_
                have hC254 := hC251.pick [0] [0, 1, 2] rfl rfl
                refine fun a_ ha_ => hK213 _ _ _ ?_ ⟨j + 1, rfl, rfl, hC254, hf253, by rw [lm_step he191 he236 (by omega), if_pos (flow_eq.2 (by simpa using t242b))]; exact ho252, by omega⟩ a_ (ha_.weaken (sub_of ⟨rfl, rfl, rfl, rfl, rfl, rfl, rfl, rfl, rfl, rfl, rfl, trivial⟩))
                omega
              · -- (e235.proto == e190.proto && (e235.src == e190.src && (e235.sport == e190.sport && (e235.dst == e190.dst && (e235.dport == e190.dport && true))))) = true: false
                refine WC.cond_false rfl ?_
                refine WC.skip ?_
                refine QX.block_normal ?_
                refine QX.then_normal (hK224 _ _ ?_)
                refine WC.region ?_
                refine WL.runs 1 [(110, .int .i64 (IntKind.i64.wrap ((j : Int) + 1)))] (fun _ => by kernel_rfl) ?_
                refine WL.recast (show (.int .i64 (IntKind.i64.wrap ((j : Int) + 1)) : Value) = .int .i64 ((j : Int) + 1) from by rw [wrap_in_i64 ((j : Int) + 1) (by omega) (by omega)]) ?_
                refine WL.runs 1 [(97, .int .i64 ((j : Int) + 1))] (fun _ => by kernel_rfl) ?_
                refine WL.done rfl ?_
                refine QX.then_normal ?_
                have hC255 := hC231.pick [0] [0, 1, 2] rfl rfl
                refine fun a_ ha_ => hK213 _ _ _ ?_ ⟨j + 1, rfl, rfl, hC255, hf233, by rw [lm_step he191 he236 (by omega), if_neg (fun e_ => by have q_ := t242b; rw [e_] at q_; simp at q_)]; exact ho234, by omega⟩ a_ (ha_.weaken (sub_of ⟨rfl, rfl, rfl, rfl, rfl, rfl, rfl, rfl, rfl, rfl, rfl, trivial⟩))
                omega
            · -- (j : Int) < (i2 : Int): false
              have t222 : (i2 : Int) ≤ (j : Int) := by have q_ := of_decide_eq_false t222b; omega
              refine WC.cond_false rfl ?_
              have hje_ : j = i2 := by omega
              have hrow9 := hrow8
              rw [hje_] at hrow9
              refine WC.exit ?_
              refine QX.then_exit ?_
              refine QX.then_exit ?_
              refine QX.block_hit ?_
              refine QX.block_normal ?_
              refine QX.then_normal (hK187 _ _ ?_)
              refine WC.region ?_
              refine WL.runs 1 [(111, .int .i64 (IntKind.i64.wrap ((i2 : Int) + 1)))] (fun _ => by kernel_rfl) ?_
              refine WL.recast (show (.int .i64 (IntKind.i64.wrap ((i2 : Int) + 1)) : Value) = .int .i64 ((i2 : Int) + 1) from by rw [wrap_in_i64 ((i2 : Int) + 1) (by omega) (by omega)]) ?_
              refine WL.runs 1 [(88, .int .i64 ((i2 : Int) + 1))] (fun _ => by kernel_rfl) ?_
              refine WL.done rfl ?_
              refine QX.then_normal ?_
              have hC256 := hC217.pick [] [0, 1, 2] rfl rfl
              refine fun a_ ha_ => hK176 _ _ _ ?_ ⟨i2 + 1, rfl, rfl, hC256, tbl_m215, by rw [← lm_end he191]; exact hrow9, by omega⟩ a_ (ha_.weaken (sub_of ⟨rfl, rfl, rfl, rfl, rfl, rfl, rfl, trivial⟩))
              omega
          · -- (i2 : Int) < (fs.length : Int): false
            have t185 : (fs.length : Int) ≤ (i2 : Int) := by have q_ := of_decide_eq_false t185b; omega
            refine WC.cond_false rfl ?_
            have hie2_ : i2 = fs.length := by omega
            have hrow10 := hrow7
            rw [hie2_] at hrow10
            refine WC.exit ?_
            refine QX.then_exit ?_
            refine QX.then_exit ?_
            refine QX.block_hit ?_
            refine QX.then_normal (hK172 _ _ ?_)
            refine WC.seq (fun K257 hK258 => ?_)
            refine WC.seq (fun K259 hK260 => ?_)
            refine WC.region ?_
            refine WL.runs 3 [(114, .int .i64 0), (113, .int .i64 (fs.length : Int)), (112, .slice A fs.length c)] (fun _ => by kernel_rfl) ?_
            refine WL.done rfl ?_
            refine QX.then_normal (hK260 _ _ ?_)
            refine WC.block ?_
            refine WC.loop (fun m_ E_ w_ => ∃ (i4 : Nat), m_ = fs.length - i4 ∧ E_ = [(0, .slice A fs.length c), (1, .int .i64 now), (5, .pointer (some ⟨p25, 0, none⟩)), (7, .slice A5 n5 c5), (112, .slice A fs.length c), (113, .int .i64 (fs.length : Int)), (114, .int .i64 (i4 : Int))] ∧ Cx w [] w_ [] [[p25, b26], blk (.slice A5 n5 c5), blk (.slice A165 (([] : List Flow).length) c166)] ∧ tbAt w_ p25 b26 T5 ∧ World.ownsRow w_ 0 3 1 (.slice A5 n5 c5) n5 ((la fs fs.length).flatMap (Go.Tw.encI .i64)) ∧ (i4 ≤ fs.length)) ⟨_, _, ⟨0, rfl, rfl, hC180, tbl_m178, hrow10, Nat.zero_le _⟩, sub_of ⟨rfl, rfl, rfl, rfl, rfl, rfl, rfl, trivial⟩⟩ (fun m264 E_ w265 K261 hK262 hI263 => ?_)
            obtain ⟨i4, rfl, rfl, hC266, tbl_m264, lst_m264, hi4⟩ := hI263
            have hcn9_ := la_len fs fs.length
            refine WC.seq (fun K267 hK268 => ?_)
            refine WC.region ?_
            refine WL.runs 1 [(115, .bool (decide ((i4 : Int) < (fs.length : Int))))] (fun _ => by kernel_rfl) ?_
            refine WL.done rfl ?_
            refine QX.then_normal (hK268 _ _ ?_)
            refine WC.seq (fun K269 hK270 => ?_)
            refine WC.test_at 115 (decide ((i4 : Int) < (fs.length : Int))) rfl (fun t271b => ?_) (fun t271b => ?_)
            · -- (i4 : Int) < (fs.length : Int): true
              have t271 : (i4 : Int) < (fs.length : Int) := by have q_ := of_decide_eq_true t271b; omega
              refine WC.cond_true rfl ?_
              refine WC.skip ?_
              refine QX.then_normal (hK270 _ _ ?_)
              refine WC.seq (fun K272 hK273 => ?_)
              refine WC.block ?_
              refine WC.seq (fun K274 hK275 => ?_)
              refine WC.region ?_
              refine WL.runs 1 [(116, .int .i64 (i4 : Int))] (fun _ => by kernel_rfl) ?_
              obtain ⟨e276, he277⟩ := get_some (xs := fs) (i := i4) (by omega)
              obtain ⟨b278, o280, hA279, hc281⟩ := hfs.at_ _ _ he277
              refine WL.index A fs.length c 117 .i64 (i4 : Int) b278 o280 i4 5 (by kernel_rfl) hA279 (by omega) (by omega) (o280 + i4 * 5) (by first | (simp; done) | omega) ?_
              refine WL.load 32 (.pointer (some ⟨b278, o280 + i4 * 5, none⟩)) (.agg #[.int .i64 e276.proto, .int .u32 e276.src, .int .i64 e276.sport, .int .u32 e276.dst, .int .i64 e276.dport]) 118 (by kernel_rfl) (run_rdN (l := [.int .i64 e276.proto, .int .u32 e276.src, .int .i64 e276.sport, .int .u32 e276.dst, .int .i64 e276.dport]) rfl rfl (fun j u hu => by have hq_ := hC266.fr.cell (hc281 j u hu) (by simp); simpa [Nat.add_assoc] using hq_)) ?_
              refine WL.newM hC266 (fun b => .pointer (some ⟨b, 0, none⟩)) (.cells #[.int .i64 0, .int .u32 0, .int .i64 0, .int .u32 0, .int .i64 0] 32) 17 (fun _ => by kernel_rfl) (fun g282 w283 hb286 hF284 hC285 => ?_)
              have hf287 := tbAt_fr tbl_m264 hF284 (by simp)
              have ho288 := own_fr lst_m264 hF284 (by simp)
              refine WL.runs 1 [(16, .int .i64 (i4 : Int))] (fun _ => by kernel_rfl) ?_
              refine WL.storeM (c' := #[.int .i64 e276.proto, .int .u32 e276.src, .int .i64 e276.sport, .int .u32 e276.dst, .int .i64 e276.dport]) hC285 0 32 g282 0 (.agg #[.int .i64 e276.proto, .int .u32 e276.src, .int .i64 e276.sport, .int .u32 e276.dst, .int .i64 e276.dport]) (by kernel_rfl) rfl (by kernel_rfl) (fun w289 hF291 hC292 => ?_)
              have hf293 := tbAt_fr hf287 hF291 (hC285.apartM 0 0 rfl rfl)
              have ho294 := own_fr ho288 hF291 (hC285.apartM 1 0 rfl rfl)
              refine WL.done rfl ?_
              refine QX.then_normal (hK275 _ _ ?_)
              refine WC.seq (fun K295 hK296 => ?_)
              refine WC.region ?_
              refine WL.runs 1 [(120, .pointer (some ⟨p25, 0, none⟩))] (fun _ => by kernel_rfl) ?_
              refine WL.load 32 (.pointer (some ⟨g282, 0, none⟩)) (.agg #[.int .i64 e276.proto, .int .u32 e276.src, .int .i64 e276.sport, .int .u32 e276.dst, .int .i64 e276.dport]) 121 (by kernel_rfl) (run_ld (hC292.get 0 rfl) rfl) ?_
              refine WL.call rfl rfl rfl rfl rfl (by kernel_rfl) (Get_ct p25 b26 T5 e276 w289 hf293) ?_
              rintro _ w298 ⟨rfl, hF297⟩
              refine ⟨_, rfl, ?_⟩
              have hC299 := hC292.call hF297
              have hf300 := tbAt_fr hf293 hF297 (by simp)
              have ho301 := own_fr ho294 hF297 (by simp)
              refine WL.runs 3 [(124, .bool ((lookL T5.m e276).isSome)), (123, .agg #[.int .i64 (((lookL T5.m e276).getD zeroE).flow.proto), .int .u32 (((lookL T5.m e276).getD zeroE).flow.src), .int .i64 (((lookL T5.m e276).getD zeroE).flow.sport), .int .u32 (((lookL T5.m e276).getD zeroE).flow.dst), .int .i64 (((lookL T5.m e276).getD zeroE).flow.dport), .int .u32 (((lookL T5.m e276).getD zeroE).dip), .int .i64 (((lookL T5.m e276).getD zeroE).epoch), .bool (((lookL T5.m e276).getD zeroE).trusted), .bool (((lookL T5.m e276).getD zeroE).closing), .int .i64 (((lookL T5.m e276).getD zeroE).last)]), (119, .tuple #[.agg #[.int .i64 (((lookL T5.m e276).getD zeroE).flow.proto), .int .u32 (((lookL T5.m e276).getD zeroE).flow.src), .int .i64 (((lookL T5.m e276).getD zeroE).flow.sport), .int .u32 (((lookL T5.m e276).getD zeroE).flow.dst), .int .i64 (((lookL T5.m e276).getD zeroE).flow.dport), .int .u32 (((lookL T5.m e276).getD zeroE).dip), .int .i64 (((lookL T5.m e276).getD zeroE).epoch), .bool (((lookL T5.m e276).getD zeroE).trusted), .bool (((lookL T5.m e276).getD zeroE).closing), .int .i64 (((lookL T5.m e276).getD zeroE).last)], .bool ((lookL T5.m e276).isSome)])] (fun _ => by kernel_rfl) ?_
              refine WL.newM hC299 (fun b => .pointer (some ⟨b, 0, none⟩)) (.cells #[.int .i64 0, .int .u32 0, .int .i64 0, .int .u32 0, .int .i64 0, .int .u32 0, .int .i64 0, .bool false, .bool false, .int .i64 0] 34) 18 (fun _ => by kernel_rfl) (fun g302 w303 hb306 hF304 hC305 => ?_)
              have hf307 := tbAt_fr hf300 hF304 (by simp)
              have ho308 := own_fr ho301 hF304 (by simp)
              refine WL.storeM (c' := #[.int .i64 (((lookL T5.m e276).getD zeroE).flow.proto), .int .u32 (((lookL T5.m e276).getD zeroE).flow.src), .int .i64 (((lookL T5.m e276).getD zeroE).flow.sport), .int .u32 (((lookL T5.m e276).getD zeroE).flow.dst), .int .i64 (((lookL T5.m e276).getD zeroE).flow.dport), .int .u32 (((lookL T5.m e276).getD zeroE).dip), .int .i64 (((lookL T5.m e276).getD zeroE).epoch), .bool (((lookL T5.m e276).getD zeroE).trusted), .bool (((lookL T5.m e276).getD zeroE).closing), .int .i64 (((lookL T5.m e276).getD zeroE).last)]) hC305 1 34 g302 0 (.agg #[.int .i64 (((lookL T5.m e276).getD zeroE).flow.proto), .int .u32 (((lookL T5.m e276).getD zeroE).flow.src), .int .i64 (((lookL T5.m e276).getD zeroE).flow.sport), .int .u32 (((lookL T5.m e276).getD zeroE).flow.dst), .int .i64 (((lookL T5.m e276).getD zeroE).flow.dport), .int .u32 (((lookL T5.m e276).getD zeroE).dip), .int .i64 (((lookL T5.m e276).getD zeroE).epoch), .bool (((lookL T5.m e276).getD zeroE).trusted), .bool (((lookL T5.m e276).getD zeroE).closing), .int .i64 (((lookL T5.m e276).getD zeroE).last)]) (by kernel_rfl) rfl (by kernel_rfl) (fun w309 hF311 hC312 => ?_)
              have hf313 := tbAt_fr hf307 hF311 (hC305.apartM 0 1 rfl rfl)
              have ho314 := own_fr ho308 hF311 (hC305.apartM 1 1 rfl rfl)
              refine WL.runs 1 [(19, .bool ((lookL T5.m e276).isSome))] (fun _ => by kernel_rfl) ?_
              refine WL.done rfl ?_
              refine QX.then_normal (hK296 _ _ ?_)
              refine WC.seq (fun K315 hK316 => ?_)
              refine WC.drawC hC312 [] (by kernel_rfl) (fun w317 hF318 hC319 hS320 => ?_)
              have hf321 := tbAt_fr hf313 hF318 (by simp)
              have ho322 := own_fr ho314 hF318 (by simp)
              refine WD.pure (NoPanic.then (NoPanic.block (NoPanic.then (NoPanic.then (NoPanic.block (NoPanic.then hN)))))) 0 125 (.bool ((lookL T5.m e276).isSome)) (by kernel_rfl) (fun _ => by kernel_rfl) hS320 ?_
              refine WD.load (NoPanic.then (NoPanic.block (NoPanic.then (NoPanic.then (NoPanic.block (NoPanic.then hN)))))) 1 32 (.pointer (some ⟨g282, 0, none⟩)) (.agg #[.int .i64 e276.proto, .int .u32 e276.src, .int .i64 e276.sport, .int .u32 e276.dst, .int .i64 e276.dport]) 126 (by kernel_rfl) (by kernel_rfl) (fun _ hS_ => run_ld (Fr.has hS_ (hC319.get 0 rfl) (by simp)) rfl) hS320 ?_
              refine WD.call 2 (by kernel_rfl) rfl rfl rfl rfl rfl (by kernel_rfl) (Good1_ct e276 w317) ?_
              rintro _ w324 ⟨rfl, hF323⟩
              have hS326 := hS320.trans hF323 (by simp)
              refine ⟨_, rfl, hS326, ?_⟩
              have hC325 := hC319.call hF323
              have hf327 := tbAt_fr hf321 hF323 (by simp)
              have ho328 := own_fr ho322 hF323 (by simp)
              refine WD.pure (NoPanic.then (NoPanic.block (NoPanic.then (NoPanic.then (NoPanic.block (NoPanic.then hN)))))) 3 128 (.bool (((lookL T5.m e276).isSome) != (goodF e276))) (by kernel_rfl) (fun _ => by kernel_rfl) hS326 ?_
              refine WD.pure (NoPanic.then (NoPanic.block (NoPanic.then (NoPanic.then (NoPanic.block (NoPanic.then hN)))))) 4 129 (.bool (((lookL T5.m e276).isSome) != (goodF e276))) (by kernel_rfl) (fun _ => by kernel_rfl) hS326 ?_
              refine WD.know 129 (.bool (((lookL T5.m e276).isSome) != (goodF e276))) (.bool false) rfl (congrArg Value.bool (by rw [(keep_get hkp6 he277).1]; simp)) ?_
              refine WD.pure (NoPanic.then (NoPanic.block (NoPanic.then (NoPanic.then (NoPanic.block (NoPanic.then hN)))))) 5 130 (.bool ((lookL T5.m e276).isSome)) (by kernel_rfl) (fun _ => by kernel_rfl) hS326 ?_
              refine WD.pure (NoPanic.then (NoPanic.block (NoPanic.then (NoPanic.then (NoPanic.block (NoPanic.then hN)))))) 6 131 (.bool ((lookL T5.m e276).isSome)) (by kernel_rfl) (fun _ => by kernel_rfl) hS326 ?_
              refine WD.test_at 131 ((lookL T5.m e276).isSome) rfl (fun t329b => ?_) (fun t329b => ?_)
              · -- ((lookL T5.m e276).isSome) = true: true
                refine WD.pure (NoPanic.then (NoPanic.block (NoPanic.then (NoPanic.then (NoPanic.block (NoPanic.then hN)))))) 7 132 (.pointer (some ⟨g302, 5, none⟩)) (by kernel_rfl) (fun _ => by kernel_rfl) hS326 ?_
                refine WD.pure (NoPanic.then (NoPanic.block (NoPanic.then (NoPanic.then (NoPanic.block (NoPanic.then hN)))))) 9 134 (.slice A5 n5 c5) (by kernel_rfl) (fun _ => by kernel_rfl) hS326 ?_
                refine WD.pure (NoPanic.then (NoPanic.block (NoPanic.then (NoPanic.then (NoPanic.block (NoPanic.then hN)))))) 10 135 (.int .i64 (i4 : Int)) (by kernel_rfl) (fun _ => by kernel_rfl) hS326 ?_
                have hn334 := own_count (Go.Tw.encI_len _) (by decide) ho328
                obtain ⟨e330, he331⟩ := get_some (xs := (la fs fs.length)) (i := i4) (by omega)
                obtain ⟨b332, hA333⟩ := own_addr (by decide) (Go.Tw.encI_len _) ho328 he331
                refine WD.index (NoPanic.then (NoPanic.block (NoPanic.then (NoPanic.then (NoPanic.block (NoPanic.then hN)))))) 11 A5 n5 c5 136 .i64 (i4 : Int) b332 0 i4 1 (by kernel_rfl) (by kernel_rfl) hA333 (by omega) (by omega) i4 (by first | (simp; done) | omega) hS326 ?_
                refine WD.load (NoPanic.then (NoPanic.block (NoPanic.then (NoPanic.then (NoPanic.block (NoPanic.then hN)))))) 8 30 (.pointer (some ⟨g302, 5, none⟩)) (.int .u32 (((lookL T5.m e276).getD zeroE).dip)) 133 (by kernel_rfl) (by kernel_rfl) (fun _ hS_ => run_ld (Fr.has hS_ (hC319.get 1 rfl) (by simp)) rfl) hS326 ?_
                refine WD.load (NoPanic.then (NoPanic.block (NoPanic.then (NoPanic.then (NoPanic.block (NoPanic.then hN)))))) 12 3 (.pointer (some ⟨b332, i4, none⟩)) (.int .i64 e330) 137 (by kernel_rfl) (by kernel_rfl) (fun _ hS_ => run_load1 rfl (by simpa [Nat.add_assoc] using Rd.cell (own_rd (own_fr ho322 hS_ (by simp)) (Go.Tw.encI_len _) (by decide)) hA333 he331 0 _ rfl)) hS326 ?_
                refine WD.pure (NoPanic.then (NoPanic.block (NoPanic.then (NoPanic.then (NoPanic.block (NoPanic.then hN)))))) 13 138 (.int .u32 (IntKind.u32.wrap (e330))) (by kernel_rfl) (fun _ => by kernel_rfl) hS326 ?_
                refine WD.recast (show (.int .u32 (IntKind.u32.wrap (e330)) : Value) = .int .u32 e330 from by rw [la_get he331, wrap_in_u32 _ (by omega) (by have z_ := lst_lt (fs := fs) (k := i4) (by omega); omega)]) ?_
                refine WD.pure (NoPanic.then (NoPanic.block (NoPanic.then (NoPanic.then (NoPanic.block (NoPanic.then hN)))))) 14 139 (.bool ((((lookL T5.m e276).getD zeroE).dip) != e330)) (by kernel_rfl) (fun _ => by kernel_rfl) hS326 ?_
                refine WD.pure (NoPanic.then (NoPanic.block (NoPanic.then (NoPanic.then (NoPanic.block (NoPanic.then hN)))))) 15 140 (.bool ((((lookL T5.m e276).getD zeroE).dip) != e330)) (by kernel_rfl) (fun _ => by kernel_rfl) hS326 ?_
                refine WD.know 140 (.bool ((((lookL T5.m e276).getD zeroE).dip) != e330)) (.bool false) rfl (congrArg Value.bool (by rw [((keep_get hkp6 he277).2 ((keep_get hkp6 he277).1.symm.trans t329b)).1, la_get he331]; simp)) ?_
                refine WD.pure (NoPanic.then (NoPanic.block (NoPanic.then (NoPanic.then (NoPanic.block (NoPanic.then hN)))))) 16 141 (.pointer (some ⟨g302, 6, none⟩)) (by kernel_rfl) (fun _ => by kernel_rfl) hS326 ?_
                refine WD.pure (NoPanic.then (NoPanic.block (NoPanic.then (NoPanic.then (NoPanic.block (NoPanic.then hN)))))) 18 143 (.slice A5 n5 c5) (by kernel_rfl) (fun _ => by kernel_rfl) hS326 ?_
                refine WD.pure (NoPanic.then (NoPanic.block (NoPanic.then (NoPanic.then (NoPanic.block (NoPanic.then hN)))))) 19 144 (.int .i64 (i4 : Int)) (by kernel_rfl) (fun _ => by kernel_rfl) hS326 ?_
                have hn339 := own_count (Go.Tw.encI_len _) (by decide) ho328
                obtain ⟨e335, he336⟩ := get_some (xs := (la fs fs.length)) (i := i4) (by omega)
                obtain ⟨b337, hA338⟩ := own_addr (by decide) (Go.Tw.encI_len _) ho328 he336
                refine WD.index (NoPanic.then (NoPanic.block (NoPanic.then (NoPanic.then (NoPanic.block (NoPanic.then hN)))))) 20 A5 n5 c5 145 .i64 (i4 : Int) b337 0 i4 1 (by kernel_rfl) (by kernel_rfl) hA338 (by omega) (by omega) i4 (by first | (simp; done) | omega) hS326 ?_
                refine WD.load (NoPanic.then (NoPanic.block (NoPanic.then (NoPanic.then (NoPanic.block (NoPanic.then hN)))))) 17 3 (.pointer (some ⟨g302, 6, none⟩)) (.int .i64 (((lookL T5.m e276).getD zeroE).epoch)) 142 (by kernel_rfl) (by kernel_rfl) (fun _ hS_ => run_ld (Fr.has hS_ (hC319.get 1 rfl) (by simp)) rfl) hS326 ?_
                refine WD.load (NoPanic.then (NoPanic.block (NoPanic.then (NoPanic.then (NoPanic.block (NoPanic.then hN)))))) 21 3 (.pointer (some ⟨b337, i4, none⟩)) (.int .i64 e335) 146 (by kernel_rfl) (by kernel_rfl) (fun _ hS_ => run_load1 rfl (by simpa [Nat.add_assoc] using Rd.cell (own_rd (own_fr ho322 hS_ (by simp)) (Go.Tw.encI_len _) (by decide)) hA338 he336 0 _ rfl)) hS326 ?_
                refine WD.pure (NoPanic.then (NoPanic.block (NoPanic.then (NoPanic.then (NoPanic.block (NoPanic.then hN)))))) 22 147 (.bool ((((lookL T5.m e276).getD zeroE).epoch) != e335)) (by kernel_rfl) (fun _ => by kernel_rfl) hS326 ?_
                refine WD.pure (NoPanic.then (NoPanic.block (NoPanic.then (NoPanic.then (NoPanic.block (NoPanic.then hN)))))) 23 148 (.bool ((((lookL T5.m e276).getD zeroE).epoch) != e335)) (by kernel_rfl) (fun _ => by kernel_rfl) hS326 ?_
                refine WD.pure (NoPanic.then (NoPanic.block (NoPanic.then (NoPanic.then (NoPanic.block (NoPanic.then hN)))))) 24 149 (.bool ((((lookL T5.m e276).getD zeroE).epoch) != e335)) (by kernel_rfl) (fun _ => by kernel_rfl) hS326 ?_
                refine WD.pure (NoPanic.then (NoPanic.block (NoPanic.then (NoPanic.then (NoPanic.block (NoPanic.then hN)))))) 25 150 (.bool ((((lookL T5.m e276).getD zeroE).epoch) != e335)) (by kernel_rfl) (fun _ => by kernel_rfl) hS326 ?_
                refine WD.done (by kernel_rfl) ?_
                refine QX.then_normal (hK316 _ _ ?_)
                refine WC.know 150 (.bool ((((lookL T5.m e276).getD zeroE).epoch) != e335)) (.bool false) rfl (congrArg Value.bool (by rw [((keep_get hkp6 he277).2 ((keep_get hkp6 he277).1.symm.trans t329b)).2, la_get he336]; simp)) ?_
                refine WC.cond_false rfl ?_
                refine WC.skip ?_
                refine QX.block_normal ?_
                refine QX.then_normal (hK273 _ _ ?_)
                refine WC.region ?_
                refine WL.runs 1 [(151, .int .i64 (IntKind.i64.wrap ((i4 : Int) + 1)))] (fun _ => by kernel_rfl) ?_
                refine WL.recast (show (.int .i64 (IntKind.i64.wrap ((i4 : Int) + 1)) : Value) = .int .i64 ((i4 : Int) + 1) from by rw [wrap_in_i64 ((i4 : Int) + 1) (by omega) (by omega)]) ?_
                refine WL.runs 1 [(114, .int .i64 ((i4 : Int) + 1))] (fun _ => by kernel_rfl) ?_
                refine WL.done rfl ?_
                refine QX.then_normal ?_
                have hC340 := hC325.pick [] [0, 1, 2] rfl rfl
                refine fun a_ ha_ => hK262 _ _ _ ?_ ⟨i4 + 1, rfl, rfl, hC340, hf327, ho328, by omega⟩ a_ (ha_.weaken (sub_of ⟨rfl, rfl, rfl, rfl, rfl, rfl, rfl, trivial⟩))
                omega
              · -- ((lookL T5.m e276).isSome) = true: false
                refine WD.pure (NoPanic.then (NoPanic.block (NoPanic.then (NoPanic.then (NoPanic.block (NoPanic.then hN)))))) 7 132 (undef) (by kernel_rfl) (fun _ => by kernel_rfl) hS326 ?_
                refine WD.pure (NoPanic.then (NoPanic.block (NoPanic.then (NoPanic.then (NoPanic.block (NoPanic.then hN)))))) 8 133 (undef) (by kernel_rfl) (fun _ => by kernel_rfl) hS326 ?_
                refine WD.pure (NoPanic.then (NoPanic.block (NoPanic.then (NoPanic.then (NoPanic.block (NoPanic.then hN)))))) 9 134 (undef) (by kernel_rfl) (fun _ => by kernel_rfl) hS326 ?_
                refine WD.pure (NoPanic.then (NoPanic.block (NoPanic.then (NoPanic.then (NoPanic.block (NoPanic.then hN)))))) 10 135 (undef) (by kernel_rfl) (fun _ => by kernel_rfl) hS326 ?_
                refine WD.pure (NoPanic.then (NoPanic.block (NoPanic.then (NoPanic.then (NoPanic.block (NoPanic.then hN)))))) 11 136 (undef) (by kernel_rfl) (fun _ => by kernel_rfl) hS326 ?_
                refine WD.pure (NoPanic.then (NoPanic.block (NoPanic.then (NoPanic.then (NoPanic.block (NoPanic.then hN)))))) 12 137 (undef) (by kernel_rfl) (fun _ => by kernel_rfl) hS326 ?_
                refine WD.pure (NoPanic.then (NoPanic.block (NoPanic.then (NoPanic.then (NoPanic.block (NoPanic.then hN)))))) 13 138 (undef) (by kernel_rfl) (fun _ => by kernel_rfl) hS326 ?_
                refine WD.pure (NoPanic.then (NoPanic.block (NoPanic.then (NoPanic.then (NoPanic.block (NoPanic.then hN)))))) 14 139 (undef) (by kernel_rfl) (fun _ => by kernel_rfl) hS326 ?_
                refine WD.pure (NoPanic.then (NoPanic.block (NoPanic.then (NoPanic.then (NoPanic.block (NoPanic.then hN)))))) 15 140 (undef) (by kernel_rfl) (fun _ => by kernel_rfl) hS326 ?_
                refine WD.pure (NoPanic.then (NoPanic.block (NoPanic.then (NoPanic.then (NoPanic.block (NoPanic.then hN)))))) 16 141 (undef) (by kernel_rfl) (fun _ => by kernel_rfl) hS326 ?_
                refine WD.pure (NoPanic.then (NoPanic.block (NoPanic.then (NoPanic.then (NoPanic.block (NoPanic.then hN)))))) 17 142 (undef) (by kernel_rfl) (fun _ => by kernel_rfl) hS326 ?_
                refine WD.pure (NoPanic.then (NoPanic.block (NoPanic.then (NoPanic.then (NoPanic.block (NoPanic.then hN)))))) 18 143 (undef) (by kernel_rfl) (fun _ => by kernel_rfl) hS326 ?_
                refine WD.pure (NoPanic.then (NoPanic.block (NoPanic.then (NoPanic.then (NoPanic.block (NoPanic.then hN)))))) 19 144 (undef) (by kernel_rfl) (fun _ => by kernel_rfl) hS326 ?_
                refine WD.pure (NoPanic.then (NoPanic.block (NoPanic.then (NoPanic.then (NoPanic.block (NoPanic.then hN)))))) 20 145 (undef) (by kernel_rfl) (fun _ => by kernel_rfl) hS326 ?_
                refine WD.pure (NoPanic.then (NoPanic.block (NoPanic.then (NoPanic.then (NoPanic.block (NoPanic.then hN)))))) 21 146 (undef) (by kernel_rfl) (fun _ => by kernel_rfl) hS326 ?_
                refine WD.pure (NoPanic.then (NoPanic.block (NoPanic.then (NoPanic.then (NoPanic.block (NoPanic.then hN)))))) 22 147 (undef) (by kernel_rfl) (fun _ => by kernel_rfl) hS326 ?_
                refine WD.pure (NoPanic.then (NoPanic.block (NoPanic.then (NoPanic.then (NoPanic.block (NoPanic.then hN)))))) 23 148 (undef) (by kernel_rfl) (fun _ => by kernel_rfl) hS326 ?_
                refine WD.pure (NoPanic.then (NoPanic.block (NoPanic.then (NoPanic.then (NoPanic.block (NoPanic.then hN)))))) 24 149 (.bool false) (by kernel_rfl) (fun _ => by kernel_rfl) hS326 ?_
                refine WD.pure (NoPanic.then (NoPanic.block (NoPanic.then (NoPanic.then (NoPanic.block (NoPanic.then hN)))))) 25 150 (.bool false) (by kernel_rfl) (fun _ => by kernel_rfl) hS326 ?_
                refine WD.done (by kernel_rfl) ?_
                refine QX.then_normal (hK316 _ _ ?_)
                refine WC.cond_false rfl ?_
                refine WC.skip ?_
                refine QX.block_normal ?_
                refine QX.then_normal (hK273 _ _ ?_)
                refine WC.region ?_
                refine WL.runs 1 [(151, .int .i64 (IntKind.i64.wrap ((i4 : Int) + 1)))] (fun _ => by kernel_rfl) ?_
                refine WL.recast (show (.int .i64 (IntKind.i64.wrap ((i4 : Int) + 1)) : Value) = .int .i64 ((i4 : Int) + 1) from by rw [wrap_in_i64 ((i4 : Int) + 1) (by omega) (by omega)]) ?_
                refine WL.runs 1 [(114, .int .i64 ((i4 : Int) + 1))] (fun _ => by kernel_rfl) ?_
                refine WL.done rfl ?_
                refine QX.then_normal ?_
                have hC341 := hC325.pick [] [0, 1, 2] rfl rfl
                refine fun a_ ha_ => hK262 _ _ _ ?_ ⟨i4 + 1, rfl, rfl, hC341, hf327, ho328, by omega⟩ a_ (ha_.weaken (sub_of ⟨rfl, rfl, rfl, rfl, rfl, rfl, rfl, trivial⟩))
                omega
            · -- (i4 : Int) < (fs.length : Int): false
              have t271 : (fs.length : Int) ≤ (i4 : Int) := by have q_ := of_decide_eq_false t271b; omega
              refine WC.cond_false rfl ?_
              refine WC.exit ?_
              refine QX.then_exit ?_
              refine QX.then_exit ?_
              refine QX.block_hit ?_
              refine QX.then_normal (hK258 _ _ ?_)
              refine WC.seq (fun K342 hK343 => ?_)
              refine WC.region ?_
              refine WL.runs 3 [(154, .int .i64 (IntKind.i64.wrap (now + 30))), (153, .int .i64 now), (152, .pointer (some ⟨p25, 0, none⟩))] (fun _ => by kernel_rfl) ?_
              refine WL.recast (show (.int .i64 (IntKind.i64.wrap (now + 30)) : Value) = .int .i64 (now + 30) from by rw [wrap_in_i64 (now + 30) (by omega) (by omega)]) ?_
              have hx345 := Expire_ct p25 b26 T5 (now + 30) w265 tbl_m264 hkp6.ok
              refine WL.call rfl rfl rfl rfl rfl (by kernel_rfl) (hx345) ?_
              rintro _ w347 ⟨v_, rfl, hF346, hT349, ho344⟩
              have hok350 := trivial
              have hms351 := trivial
              have hC348 := hC266.callFN 0 rfl hF346 (fun _ hx_ => .inl hx_) (tbAt_lt hT349) (own_ge ho344) (own_lt ho344) (fun x_ hx_ hg_ => Nat.not_lt.2 (own_ge ho344 x_ hg_) (hC266.ltF 0 rfl x_ hx_))
              obtain ⟨A352, c353, rfl, hle354⟩ := own_form ho344
              have ho355 := own_base (b' := 0) ho344 (fun _ _ => Nat.zero_le _)
              refine ⟨_, rfl, ?_⟩
              have ho356 := own_fr lst_m264 hF346 (hC266.disj 1 0 rfl rfl (by decide))
              refine WL.done rfl ?_
              refine QX.then_normal (hK343 _ _ ?_)
              refine WC.seq (fun K358 hK359 => ?_)
              refine WC.region ?_
              refine WL.runs 1 [(157, .pointer (some ⟨p25, 0, none⟩))] (fun _ => by kernel_rfl) ?_
              refine WL.call rfl rfl rfl rfl rfl (by kernel_rfl) (Len_ct p25 b26 ((outX T5 (now + 30)).2) w347 hT349) ?_
              rintro _ w361 ⟨rfl, hF360⟩
              refine ⟨_, rfl, ?_⟩
              have hC362 := hC348.call hF360
              have hf363 := tbAt_fr hT349 hF360 (by simp)
              have ho364 := own_fr ho356 hF360 (by simp)
              have ho365 := own_fr ho355 hF360 (by simp)
              refine WL.runs 5 [(21, .int .i64 (((outX T5 (now + 30)).2).uh)), (20, .int .i64 (((outX T5 (now + 30)).2).th)), (160, .int .i64 (((outX T5 (now + 30)).2).uh)), (159, .int .i64 (((outX T5 (now + 30)).2).th)), (156, .tuple #[.int .i64 (((outX T5 (now + 30)).2).th), .int .i64 (((outX T5 (now + 30)).2).uh)])] (fun _ => by kernel_rfl) ?_
              refine WL.done rfl ?_
              refine QX.then_normal (hK359 _ _ ?_)
              refine WC.seq (fun K366 hK367 => ?_)
              refine WC.region ?_
              refine WL.runs 3 [(163, .bool ((((outX T5 (now + 30)).2).th) == 0)), (162, .bool ((((outX T5 (now + 30)).2).th) == 0)), (161, .int .i64 (((outX T5 (now + 30)).2).th))] (fun _ => by kernel_rfl) ?_
              refine WL.know 163 (.bool ((((outX T5 (now + 30)).2).th) == 0)) (.bool true) rfl (congrArg Value.bool (by rw [(keep_exp2 hkp6 hnow0 hnow1).1]; rfl)) ?_
              refine WL.runs 4 [(4, .bool ((((outX T5 (now + 30)).2).uh) == 0)), (166, .bool ((((outX T5 (now + 30)).2).uh) == 0)), (165, .bool ((((outX T5 (now + 30)).2).uh) == 0)), (164, .int .i64 (((outX T5 (now + 30)).2).uh))] (fun _ => by kernel_rfl) ?_
              refine WL.done rfl ?_
              refine QX.then_normal (hK367 _ _ ?_)
              refine WC.ret ?_
              refine (hret _ _ _ rfl ?_).1
              clear hN hret hret' hK367 hK359 hK343 hK270 hK268 hK260 hK258 hK184 hK182 hK174 hK172 hK156 hK154 hK62 hK60 hK50 hK48 hK40 hK38 hK36 hK24 hK13 hK11 hK6 hK4 hK2
              exact ⟨congrArg (fun b_ => Ending.returned (Value.bool b_)) (show (((((outX T5 (now + 30)).2).uh) == 0)) = true from by rw [(keep_exp2 hkp6 hnow0 hnow1).2]; rfl), hC362.fr⟩

end Go.Proofs.Ytimphmcoafapgaa
