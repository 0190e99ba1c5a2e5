/- Contracts of functions of the program, each proved by a walk through its code; conditions stand in the statements. -/
import Derived.Test.YtimphmcoafapgaaFlU11
import Derived.Test.YtimphmcoafapgaaTwAl
namespace Go.Proofs.Ytimphmcoafapgaa
set_option linter.unusedSimpArgs false
set_option linter.unusedVariables false
set_option linter.unusedSectionVars false
open Go Go.RowKit Go.Tw
set_option linter.unusedVariables false
set_option maxRecDepth 20000
/-! ### all entries, in the order of their flows -/
def cfE (a b : Ent) : Int := if lessF a.flow b.flow then -1 else 1
def leE (a b : Ent) : Bool := !lessF b.flow a.flow
def allE (m : List (Flow × Ent)) : List Ent := (entsOf m).mergeSort leE
theorem lessF_irr (a : Flow) : lessF a a = false := by
  cases h : lessF a a
  · rfl
  · rw [lessF_iff] at h; omega
theorem lessF_tot {a b : Flow} (h1 : lessF a b = false) (h2 : lessF b a = false) : a = b := by
  have g1 : ¬ lessF a b = true := by rw [h1]; decide
  have g2 : ¬ lessF b a = true := by rw [h2]; decide
  rw [lessF_iff] at g1 g2
  rw [flow_eq]
  omega
theorem lessF_asym {a b : Flow} (h : lessF a b = true) : lessF b a = false := by
  cases g : lessF b a
  · rfl
  · have := lessF_trans h g; rw [lessF_irr] at this; cases this
theorem leE_iff (a b : Ent) : leE a b = true ↔ lessF b.flow a.flow = false := by
  unfold leE; cases lessF b.flow a.flow <;> simp
theorem leE_trans (a b c : Ent) (h1 : leE a b = true) (h2 : leE b c = true) : leE a c = true := by
  rw [leE_iff] at *
  cases h : lessF c.flow a.flow
  · rfl
  · exfalso
    by_cases e : b.flow = c.flow
    · rw [e] at h1; rw [h1] at h; cases h
    · cases g : lessF b.flow c.flow
      · exact e (lessF_tot g h2)
      · have := lessF_trans g h; rw [h1] at this; cases this
theorem leE_total (a b : Ent) : (leE a b || leE b a) = true := by
  rw [Bool.or_eq_true, leE_iff, leE_iff]
  cases h : lessF b.flow a.flow
  · exact .inl rfl
  · exact .inr (lessF_asym h)
theorem cfE_lt (a b : Ent) : decide (cfE a b < 0) = lessF a.flow b.flow := by
  unfold cfE
  cases lessF a.flow b.flow <;> rfl
theorem mem_allE {m : List (Flow × Ent)} {x : Ent} : x ∈ allE m ↔ x ∈ entsOf m := List.mem_mergeSort
theorem allE_len (m : List (Flow × Ent)) : (allE m).length = m.length := by unfold allE; rw [List.length_mergeSort, entsOf_len]
theorem allE_sorted (m : List (Flow × Ent)) : (allE m).Pairwise (fun a b => leE a b = true) := List.pairwise_mergeSort leE_trans leE_total _
theorem flows_nodup {m : List (Flow × Ent)} (h : (m.map (·.1)).Nodup) (hf : ∀ p ∈ m, p.2.flow = p.1) : ((entsOf m).map (·.flow)).Nodup := by
  have e : (entsOf m).map (·.flow) = m.map (·.1) := by
    unfold entsOf
    rw [List.map_map]
    exact List.map_congr_left fun p hp => hf p hp
  rw [e]; exact h
theorem flow_inj {D : List Ent} (h : (D.map (·.flow)).Nodup) {x y : Ent} (hx : x ∈ D) (hy : y ∈ D) (e : x.flow = y.flow) : x = y := by
  induction D with
  | nil => cases hx
  | cons a r ih =>
    rw [List.map_cons, List.nodup_cons] at h
    rcases List.mem_cons.1 hx with h1 | h1
    · rcases List.mem_cons.1 hy with h2 | h2
      · rw [h1, h2]
      · exact absurd (List.mem_map.2 ⟨y, h2, by rw [← e, h1]⟩) h.1
    · rcases List.mem_cons.1 hy with h2 | h2
      · exact absurd (List.mem_map.2 ⟨x, h1, by rw [e, h2]⟩) h.1
      · exact ih h.2 h1 h2
theorem sortE_uniq {D E : List Ent} (hn : (D.map (·.flow)).Nodup) (hp : D.Perm E) (h1 : D.Pairwise (fun a b => leE a b = true)) (h2 : E.Pairwise (fun a b => leE a b = true)) : D = E := by
  refine List.Perm.eq_of_pairwise (le := fun a b => leE a b = true) (fun a b ha hb hab hba => ?_) h1 h2 hp
  rw [leE_iff] at hab hba
  exact flow_inj hn ha (hp.mem_iff.2 hb) (lessF_tot hba hab)
theorem allE_perm {D : List Ent} {m : List (Flow × Ent)} (hn : (m.map (·.1)).Nodup) (hf : ∀ p ∈ m, p.2.flow = p.1) (h : D.Perm (entsOf m)) : D.mergeSort leE = allE m := by
  have hn2 := flows_nodup hn hf
  refine sortE_uniq ?_ ((List.mergeSort_perm _ _).trans (h.trans (List.mergeSort_perm _ _).symm)) (List.pairwise_mergeSort leE_trans leE_total _) (allE_sorted m)
  exact ((((List.mergeSort_perm D leE).trans h).map (·.flow)).nodup_iff).2 hn2
/-! ### a table in order: what every call keeps -/
def trE (e : Ent) : Nat := if e.trusted then 1 else 0
def unE (e : Ent) : Nat := if e.trusted then 0 else 1
structure TOk (T : Tb) : Prop where
  keys : (T.m.map (·.1)).Nodup
  flow : ∀ p ∈ T.m, p.2.flow = p.1
  good : ∀ p ∈ T.m, goodF p.1 = true
  last : ∀ p ∈ T.m, 0 ≤ p.2.last ∧ p.2.last ≤ 1099511627776
  th : T.th = (sumL trE T.m : Int)
  uh : T.uh = (sumL unE T.m : Int)
  tm : T.th ≤ T.tm ∧ T.tm ≤ 4096
  um : T.uh ≤ T.um ∧ T.um ≤ 4096
theorem tr_un (e : Ent) : trE e + unE e = 1 := by unfold trE unE; split <;> rfl
theorem sum_tu (m : List (Flow × Ent)) : sumL trE m + sumL unE m = m.length := by
  rw [← sumL_add, ← sumL_len]
  congr 1
  funext e
  exact tr_un e
theorem TOk.len {T : Tb} (h : TOk T) : (T.m.length : Int) = T.th + T.uh := by
  have := sum_tu T.m; rw [h.th, h.uh]; omega
theorem TOk.bd {T : Tb} (h : TOk T) : (0 ≤ T.th ∧ T.th ≤ 4096) ∧ (0 ≤ T.uh ∧ T.uh ≤ 4096) ∧ T.m.length ≤ 8192 := by
  have h1 := h.len
  have h2 := h.tm
  have h3 := h.um
  have h4 := h.th
  have h5 := h.uh
  omega
theorem TOk.bth {T : Tb} (h : TOk T) : -1000000000 ≤ T.th ∧ T.th ≤ 1000000000 := by have := h.bd; omega
theorem TOk.buh {T : Tb} (h : TOk T) : -1000000000 ≤ T.uh ∧ T.uh ≤ 1000000000 := by have := h.bd; omega
theorem TOk.new {a n : Int} (ha : 0 ≤ a ∧ a ≤ 4096) (hn : 0 ≤ n ∧ n ≤ 4096) : TOk ⟨[], 0, a, 0, n⟩ := ⟨by simp, by simp, by simp, by simp, rfl, rfl, ha, hn⟩
theorem TOk.rem1 {T : Tb} (h : TOk T) (f : Flow) : TOk (rem1 T f) := by
  cases hl : lookL T.m f with
  | none => rw [show Go.Proofs.Ytimphmcoafapgaa.rem1 T f = T from by unfold Go.Proofs.Ytimphmcoafapgaa.rem1; rw [hl]]; exact h
  | some e =>
    rw [rem1_some hl]
    have d1 := sumL_del trE hl
    have d2 := sumL_del unE hl
    have b1 := h.th
    have b2 := h.uh
    have b3 := h.tm
    have b4 := h.um
    have sub : ∀ p ∈ delL T.m f, p ∈ T.m := fun p hp => ((al_mem_del h.keys).1 hp).1
    by_cases ht : e.trusted = true
    · rw [if_pos ht]
      have e1 : trE e = 1 := by unfold trE; rw [if_pos ht]
      have e2 : unE e = 0 := by unfold unE; rw [if_pos ht]
      rw [e1] at d1; rw [e2] at d2
      exact ⟨delL_keys _ _ h.keys, fun p hp => h.flow p (sub p hp), fun p hp => h.good p (sub p hp), fun p hp => h.last p (sub p hp), by dsimp only; omega, by dsimp only; omega, by dsimp only; omega, by dsimp only; omega⟩
    · rw [if_neg ht]
      have e1 : trE e = 0 := by unfold trE; rw [if_neg ht]
      have e2 : unE e = 1 := by unfold unE; rw [if_neg ht]
      rw [e1] at d1; rw [e2] at d2
      exact ⟨delL_keys _ _ h.keys, fun p hp => h.flow p (sub p hp), fun p hp => h.good p (sub p hp), fun p hp => h.last p (sub p hp), by dsimp only; omega, by dsimp only; omega, by dsimp only; omega, by dsimp only; omega⟩
theorem TOk.remF {T : Tb} (h : TOk T) (n : Int) (fs : List Flow) : TOk (fs.foldl remF (T, n)).1 := by
  induction fs generalizing T n with
  | nil => exact h
  | cons f r ih => exact ih (h.rem1 f) _
theorem goodTime_bd2 {now : Int} (h : goodTime now = true) : 0 ≤ now ∧ now ≤ 1099511627776 := by simpa [goodTime] using h
/-- one pair is put: what is kept -/
theorem TOk.putOld {T : Tb} (h : TOk T) {f : Flow} {e v : Ent} {a b : Int} (hl : lookL T.m f = some e) (hf : v.flow = f) (hg : goodF f = true) (hlast : 0 ≤ v.last ∧ v.last ≤ 1099511627776) (ha : a = T.th - (trE e : Int) + (trE v : Int)) (hb : b = T.uh - (unE e : Int) + (unE v : Int)) (ha2 : a ≤ T.tm) (hb2 : b ≤ T.um) : TOk ⟨putL T.m f v, a, T.tm, b, T.um⟩ := by
  have d1 := sumL_put_some trE (v := v) hl
  have d2 := sumL_put_some unE (v := v) hl
  have b1 := h.th
  have b2 := h.uh
  have mem : ∀ p ∈ putL T.m f v, p = (f, v) ∨ p ∈ T.m := fun p hp => ((al_mem_put h.keys).1 hp).imp id And.left
  refine ⟨putL_keys _ _ _ h.keys, fun p hp => ?_, fun p hp => ?_, fun p hp => ?_, ?_, ?_, ⟨ha2, h.tm.2⟩, ⟨hb2, h.um.2⟩⟩
  · rcases mem p hp with rfl | hp
    · exact hf
    · exact h.flow p hp
  · rcases mem p hp with rfl | hp
    · exact hg
    · exact h.good p hp
  · rcases mem p hp with rfl | hp
    · exact hlast
    · exact h.last p hp
  · dsimp only; omega
  · dsimp only; omega
theorem TOk.putNew {T : Tb} (h : TOk T) {f : Flow} {dip ep now : Int} (hl : lookL T.m f = none) (hg : goodF f = true) (ht : goodTime now = true) (hu : T.uh < T.um) : TOk ⟨putL T.m f ⟨f, dip, ep, false, false, now⟩, T.th, T.tm, T.uh + 1, T.um⟩ := by
  have d1 := sumL_put_none trE (v := (⟨f, dip, ep, false, false, now⟩ : Ent)) hl
  have d2 := sumL_put_none unE (v := (⟨f, dip, ep, false, false, now⟩ : Ent)) hl
  rw [show trE (⟨f, dip, ep, false, false, now⟩ : Ent) = 0 from rfl] at d1
  rw [show unE (⟨f, dip, ep, false, false, now⟩ : Ent) = 1 from rfl] at d2
  have b1 := h.th
  have b2 := h.uh
  have mem : ∀ p ∈ putL T.m f (⟨f, dip, ep, false, false, now⟩ : Ent), p = (f, ⟨f, dip, ep, false, false, now⟩) ∨ p ∈ T.m := fun p hp => ((al_mem_put h.keys).1 hp).imp id And.left
  refine ⟨putL_keys _ _ _ h.keys, fun p hp => ?_, fun p hp => ?_, fun p hp => ?_, ?_, ?_, h.tm, ⟨by dsimp only; omega, h.um.2⟩⟩
  · rcases mem p hp with rfl | hp
    · rfl
    · exact h.flow p hp
  · rcases mem p hp with rfl | hp
    · exact hg
    · exact h.good p hp
  · rcases mem p hp with rfl | hp
    · exact goodTime_bd2 ht
    · exact h.last p hp
  · dsimp only; omega
  · dsimp only; omega
/-- where there is no room, an untrusted one is there -/
theorem Best.found {T : Tb} (h : TOk T) (hu : ¬ T.uh < T.um) (h0 : T.um ≠ 0) (hm : 0 ≤ T.um) {fd : Bool} {o : Ent} (hb : Best T.m fd o) : fd = true ∧ (o.flow, o) ∈ T.m ∧ o.trusted = false := by
  cases fd with
  | true =>
    unfold Best at hb
    rw [if_pos rfl] at hb
    obtain ⟨⟨p, hp, rfl⟩, h2, _⟩ := hb
    refine ⟨rfl, ?_, h2⟩
    have := h.flow p hp
    rw [this]; exact hp
  | false =>
    unfold Best at hb
    rw [if_neg (by decide)] at hb
    exfalso
    have hz : ∀ m : List (Flow × Ent), (∀ p ∈ m, p.2.trusted = true) → sumL unE m = 0 := by
      intro m
      induction m with
      | nil => intro _; rfl
      | cons x r ih =>
        intro hx
        obtain ⟨a, b⟩ := x
        have e1 : unE b = 0 := by unfold unE; rw [if_pos (hx (a, b) List.mem_cons_self)]
        simp only [sumL, e1, ih fun p hp => hx p (List.mem_cons_of_mem _ hp)]
    have := hz _ hb.2
    have h3 := h.uh
    rw [this] at h3
    omega
theorem rem_old {T : Tb} (h : TOk T) {o : Ent} (hm : (o.flow, o) ∈ T.m) (ht : o.trusted = false) : rem1 T o.flow = ⟨delL T.m o.flow, T.th, T.tm, T.uh - 1, T.um⟩ := by
  rw [rem1_some (al_mem_look h.keys hm), if_neg (by rw [ht]; decide)]
theorem TOk.put {T T' : Tb} {f : Flow} {dip ep now : Int} {o : Ent} {fd : Bool} {er : Int} (h : TOk T) (hm : 0 ≤ T.um) (hr : PutRel T f dip ep now T' o fd er) : TOk T' := by
  cases hr with
  | form _ => exact h
  | range _ _ => exact h
  | old e hg ht hl =>
    exact h.putOld hl (h.flow _ (al_look_mem hl)) hg (goodTime_bd2 ht) (by show T.th = T.th - (trE e : Int) + (trE e : Int); omega) (by show T.uh = T.uh - (unE e : Int) + (unE e : Int); omega) h.tm.1 h.um.1
  | empty _ _ _ _ => exact h
  | new hg ht hl _ hu => exact h.putNew hl hg ht hu
  | full o g hg ht hl h0 hu hb =>
    obtain ⟨_, hmem, hun⟩ := Best.found h hu h0 hm hb
    have hT := h.rem1 o.flow
    have e := rem_old h hmem hun
    rw [e] at hT ⊢
    exact hT.putNew (by dsimp only; rw [al_look_del h.keys]; split; rfl; exact hl) hg ht (by dsimp only; have := h.um.1; omega)
theorem ite_ind {α : Type} {c : Prop} [Decidable c] {a b : α} (P : α → Prop) (h1 : c → P a) (h2 : ¬ c → P b) : P (if c then a else b) := by
  by_cases h : c
  · rw [if_pos h]; exact h1 h
  · rw [if_neg h]; exact h2 h
theorem TOk.touch {T : Tb} (h : TOk T) (f : Flow) (flags now : Int) : TOk (touchT T f flags now).1 := by
  unfold touchT
  cases hl : lookL T.m f with
  | none => exact h
  | some e =>
    dsimp only
    have hm := al_look_mem hl
    cases ht : goodTime now with
    | false => rw [if_pos rfl]; exact h
    | true =>
      rw [if_neg (by decide)]
      refine ite_ind (fun x : Tb × Bool => TOk x.1) (fun hc => ?_) (fun _ => ?_)
      · obtain ⟨c1, c2, c3⟩ := hc
        have e1 : trE e = 0 := by unfold trE; rw [if_neg (by rw [c1]; decide)]
        have e2 : unE e = 1 := by unfold unE; rw [if_neg (by rw [c1]; decide)]
        refine h.putOld hl (h.flow _ hm) (h.good _ hm) (goodTime_bd2 ht) ?_ ?_ ?_ ?_
        · rw [e1]; simp only [trE, if_true]; omega
        · rw [e2]; simp only [unE, if_true]; omega
        · omega
        · have := h.um.1; omega
      · refine h.putOld hl (h.flow _ hm) (h.good _ hm) (goodTime_bd2 ht) ?_ ?_ h.tm.1 h.um.1
        · simp only [trE]; omega
        · simp only [unE]; omega
theorem rem1_m (T : Tb) (f : Flow) : (rem1 T f).m = delL T.m f := by
  unfold rem1
  cases hl : lookL T.m f with
  | none =>
    dsimp only
    rw [delL_at]
    cases hk : keyAt (T.m.map (·.1)) f with
    | none => rfl
    | some i => rw [lookL_at, hk] at hl; simp only [Option.bind_some] at hl; rw [Option.map_eq_none_iff] at hl; dsimp only; rw [List.eraseIdx_of_length_le (List.getElem?_eq_none_iff.1 hl)]
  | some e => dsimp only; split <;> rfl
theorem rem1_ms (T : Tb) (f : Flow) : (rem1 T f).tm = T.tm ∧ (rem1 T f).um = T.um := by
  have := rem1_um T f; exact ⟨this.2.1, this.1⟩
theorem remF_ms (fs : List Flow) (T : Tb) (n : Int) : (fs.foldl remF (T, n)).1.tm = T.tm ∧ (fs.foldl remF (T, n)).1.um = T.um := by
  induction fs generalizing T n with
  | nil => exact ⟨rfl, rfl⟩
  | cons f r ih => have h1 := ih (rem1 T f) (n + if (lookL T.m f).isSome then 1 else 0); have h2 := rem1_ms T f; exact ⟨h1.1.trans h2.1, h1.2.trans h2.2⟩
theorem put_ms {T T' : Tb} {f : Flow} {dip ep now : Int} {o : Ent} {fd : Bool} {er : Int} (hr : PutRel T f dip ep now T' o fd er) : T'.tm = T.tm ∧ T'.um = T.um := by
  cases hr with
  | full o g _ _ _ _ _ _ => exact rem1_ms T o.flow
  | _ => exact ⟨rfl, rfl⟩
theorem touch_ms (T : Tb) (f : Flow) (flags now : Int) : (touchT T f flags now).1.tm = T.tm ∧ (touchT T f flags now).1.um = T.um := by
  unfold touchT
  cases lookL T.m f with
  | none => exact ⟨rfl, rfl⟩
  | some e => dsimp only; exact ite_ind (fun x : Tb × Bool => x.1.tm = T.tm ∧ x.1.um = T.um) (fun _ => ⟨rfl, rfl⟩) (fun _ => ite_ind (fun x : Tb × Bool => x.1.tm = T.tm ∧ x.1.um = T.um) (fun _ => ⟨rfl, rfl⟩) (fun _ => ⟨rfl, rfl⟩))
theorem cmpE_ct (a b : Ent) (w : World) : Calls Try.prog 37 #[.agg #[.int .i64 a.flow.proto, .int .u32 a.flow.src, .int .i64 a.flow.sport, .int .u32 a.flow.dst, .int .i64 a.flow.dport, .int .u32 a.dip, .int .i64 a.epoch, .bool a.trusted, .bool a.closing, .int .i64 a.last], .agg #[.int .i64 b.flow.proto, .int .u32 b.flow.src, .int .i64 b.flow.sport, .int .u32 b.flow.dst, .int .i64 b.flow.dport, .int .u32 b.dip, .int .i64 b.epoch, .bool b.trusted, .bool b.closing, .int .i64 b.last]] w fun e w' => e = .returned (.int .i64 (cfE a b)) ∧ Fr w w' [] := by
  refine enterD (n := 10) Try.func37 rfl rfl (Nat.le_of_ble_eq_true rfl) ?_
  intro Q0 hN hret hret'
  have hC := Cx.start w
  refine WC.seq (fun K1 hK2 => ?_)
  refine WC.region ?_
  refine WL.newM hC (fun b => .pointer (some ⟨b, 0, none⟩)) (.cells #[.int .i64 a.flow.proto, .int .u32 a.flow.src, .int .i64 a.flow.sport, .int .u32 a.flow.dst, .int .i64 a.flow.dport, .int .u32 a.dip, .int .i64 a.epoch, .bool a.trusted, .bool a.closing, .int .i64 a.last] 34) 2 (fun _ => by kernel_rfl) (fun g3 w4 hb7 hF5 hC6 => ?_)
  refine WL.newM hC6 (fun b => .pointer (some ⟨b, 0, none⟩)) (.cells #[.int .i64 b.flow.proto, .int .u32 b.flow.src, .int .i64 b.flow.sport, .int .u32 b.flow.dst, .int .i64 b.flow.dport, .int .u32 b.dip, .int .i64 b.epoch, .bool b.trusted, .bool b.closing, .int .i64 b.last] 34) 3 (fun _ => by kernel_rfl) (fun g8 w9 hb12 hF10 hC11 => ?_)
  refine WL.runs 1 [(4, .int .i64 0)] (fun _ => by kernel_rfl) ?_
  refine WL.done rfl ?_
  refine QX.then_normal (hK2 _ _ ?_)
  refine WC.seq (fun K13 hK14 => ?_)
  refine WC.seq (fun K15 hK16 => ?_)
  refine WC.region ?_
  refine WL.runs 1 [(5, .pointer (some ⟨g3, 0, none⟩))] (fun _ => by kernel_rfl) ?_
  refine WL.load 32 (.pointer (some ⟨g3, 0, none⟩)) (.agg #[.int .i64 a.flow.proto, .int .u32 a.flow.src, .int .i64 a.flow.sport, .int .u32 a.flow.dst, .int .i64 a.flow.dport]) 6 (by kernel_rfl) (run_ld (hC11.get 0 rfl) rfl) ?_
  refine WL.runs 1 [(7, .pointer (some ⟨g8, 0, none⟩))] (fun _ => by kernel_rfl) ?_
  refine WL.load 32 (.pointer (some ⟨g8, 0, none⟩)) (.agg #[.int .i64 b.flow.proto, .int .u32 b.flow.src, .int .i64 b.flow.sport, .int .u32 b.flow.dst, .int .i64 b.flow.dport]) 8 (by kernel_rfl) (run_ld (hC11.get 1 rfl) rfl) ?_
  refine WL.call rfl rfl rfl rfl rfl (by kernel_rfl) (lessF_ct a.flow b.flow w9) ?_
  rintro _ w18 ⟨rfl, hF17⟩
  refine ⟨_, rfl, ?_⟩
  have hC19 := hC11.call hF17
  refine WL.done rfl ?_
  refine QX.then_normal (hK16 _ _ ?_)
  refine WC.test_at 9 (lessF a.flow b.flow) rfl (fun t20b => ?_) (fun t20b => ?_)
  · -- (lessF a.flow b.flow) = true: true
    refine WC.cond_true rfl ?_
    refine WC.seq (fun K21 hK22 => ?_)
    refine WC.region ?_
    refine WL.runs 1 [(4, .int .i64 (-1))] (fun _ => by kernel_rfl) ?_
    refine WL.done rfl ?_
    refine QX.then_normal (hK22 _ _ ?_)
    refine WC.ret ?_
    refine QX.then_ret ?_
    refine (hret _ _ _ rfl ?_).1
    clear hN hret hret' hK22 hK16 hK14 hK2
    exact ⟨by unfold cfE; simp only [t20b]; rfl, hC19.fr⟩
  · -- (lessF a.flow b.flow) = true: false
    refine WC.cond_false rfl ?_
    refine WC.skip ?_
    refine QX.then_normal (hK14 _ _ ?_)
    refine WC.seq (fun K23 hK24 => ?_)
    refine WC.region ?_
    refine WL.runs 1 [(4, .int .i64 1)] (fun _ => by kernel_rfl) ?_
    refine WL.done rfl ?_
    refine QX.then_normal (hK24 _ _ ?_)
    refine WC.ret ?_
    refine (hret _ _ _ rfl ?_).1
    clear hN hret hret' hK24 hK16 hK14 hK2
    exact ⟨by unfold cfE; simp only [t20b]; rfl, hC19.fr⟩

end Go.Proofs.Ytimphmcoafapgaa
