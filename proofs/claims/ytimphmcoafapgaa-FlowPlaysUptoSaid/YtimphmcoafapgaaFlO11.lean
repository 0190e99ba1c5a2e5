/- Contracts of functions of the program, each proved by a walk through its code; conditions stand in the statements. -/
import Derived.Test.YtimphmcoafapgaaFlL11
import Derived.Test.YtimphmcoafapgaaTwEqN
namespace Go.Proofs.Ytimphmcoafapgaa
set_option linter.unusedSimpArgs false
set_option linter.unusedVariables false
set_option linter.unusedSectionVars false
open Go Go.RowKit Go.Tw
set_option linter.unusedVariables false
set_option maxRecDepth 20000
/-! ### the document's table: a list -/
def dfAt (w : World) (F : List Nat) (p : Nat) (L : List Ent) (tr un : Int) : Prop :=
  ∃ (A : Option Addr) (c : Nat), w.heap[p]? = some (.cells #[.slice A L.length c, .int .i64 tr, .int .i64 un] 51 (0, 0)) ∧ w.ownsRow 0 34 10 (.slice A L.length c) L.length (L.flatMap cellsE) ∧ F = p :: blk (.slice A L.length c) ∧ p ∉ blk (.slice A L.length c)
theorem dfAt_lt {w : World} {F : List Nat} {p : Nat} {L : List Ent} {tr un : Int} (h : dfAt w F p L tr un) : ∀ x ∈ F, x < w.heap.size := by
  obtain ⟨A, c, h1, h2, rfl, _⟩ := h
  intro x hx
  rcases List.mem_cons.1 hx with rfl | hx
  · exact lt_of_heap h1
  · exact own_lt h2 x hx
theorem dfAt_fr {w w' : World} {F : List Nat} {p : Nat} {L : List Ent} {tr un : Int} {G : List Nat} (h : dfAt w F p L tr un) (hf : Fr w w' G) (hd : ∀ x ∈ F, x ∉ G) : dfAt w' F p L tr un := by
  obtain ⟨A, c, h1, h2, rfl, h3⟩ := h
  exact ⟨A, c, hf.has h1 (hd p (by simp)), own_fr h2 hf (fun x hx => hd x (by simp [hx])), rfl, h3⟩
theorem df_mk {w0 w : World} {F0 : List Nat} {M : List (Nat × Obj)} {Fs : List (List Nat)} (hC : Cx w0 F0 w M Fs) {p n c : Nat} {A : Option Addr} {L : List Ent} {tr un : Int} (k j : Nat) (h1 : M[k]? = some (p, .cells #[.slice A n c, .int .i64 tr, .int .i64 un] 51 (0, 0))) (hj : Fs[j]? = some (blk (.slice A n c))) (ho : w.ownsRow 0 34 10 (.slice A n c) n (L.flatMap cellsE)) : dfAt w (p :: blk (.slice A n c)) p L tr un := by
  obtain rfl := own_count cellsE_len (by decide) ho
  exact ⟨A, c, hC.get k h1, ho, rfl, hC.notin j k hj h1⟩
inductive FindR (L : List Ent) (f : Flow) : Int → Prop
  | none : (∀ x ∈ L, x.flow ≠ f) → FindR L f (-1)
  | some (i : Nat) (x : Ent) : L[i]? = some x → x.flow = f → (∀ y ∈ L.take i, y.flow ≠ f) → FindR L f (i : Int)
def cntE (L : List Ent) : Nat := (L.filter (·.trusted)).length
theorem cntE_le (L : List Ent) : cntE L ≤ L.length := List.length_filter_le _ _
theorem cntE_snoc {L : List Ent} {i : Nat} {x : Ent} (h : L[i]? = some x) : cntE (L.take (i + 1)) = cntE (L.take i) + if x.trusted then 1 else 0 := by
  unfold cntE
  rw [take_step h, List.filter_append, List.length_append]
  by_cases e : x.trusted = true
  · simp [e]
  · simp [e]
theorem ne_snoc {L : List Ent} {f : Flow} {i : Nat} {x : Ent} (h : ∀ y ∈ L.take i, y.flow ≠ f) (hx : L[i]? = some x) (hn : x.flow ≠ f) : ∀ y ∈ L.take (i + 1), y.flow ≠ f := by
  rw [take_step hx]
  intro y hy
  rcases List.mem_append.1 hy with hy | hy
  · exact h y hy
  · obtain rfl := List.mem_singleton.1 hy; exact hn
theorem erase_td {L : List Ent} {i : Nat} : L.take i ++ (L.take L.length).drop (i + 1) = L.eraseIdx i := by
  rw [List.take_length, List.eraseIdx_eq_take_drop_succ]
/-- the least lately seen of the untrusted: its place plus one; 0: there is none yet -/
def minU (L : List Ent) (k b : Nat) : Prop := (b = 0 ∧ ∀ x ∈ L.take k, x.trusted = true) ∨ (0 < b ∧ b ≤ k ∧ ∃ t, L[b - 1]? = some t ∧ t.trusted = false ∧ (∀ x ∈ L.take k, x.trusted = false → t.last ≤ x.last) ∧ ∀ x ∈ L.take (b - 1), x.trusted = false → t.last < x.last)
theorem minU_0 (L : List Ent) : minU L 0 0 := .inl ⟨rfl, by simp⟩
theorem minU_skip {L : List Ent} {k b : Nat} {x : Ent} (h : minU L k b) (hx : L[k]? = some x) (ht : x.trusted = true) : minU L (k + 1) b := by
  rcases h with ⟨h1, h2⟩ | ⟨h1, h2, t, h3, h4, h5, h6⟩
  · refine .inl ⟨h1, fun y hy => ?_⟩
    rw [take_step hx] at hy
    rcases List.mem_append.1 hy with hy | hy
    · exact h2 y hy
    · obtain rfl := List.mem_singleton.1 hy; exact ht
  · refine .inr ⟨h1, by omega, t, h3, h4, fun y hy hu => ?_, h6⟩
    rw [take_step hx] at hy
    rcases List.mem_append.1 hy with hy | hy
    · exact h5 y hy hu
    · obtain rfl := List.mem_singleton.1 hy; rw [ht] at hu; cases hu
theorem minU_stay {L : List Ent} {k b : Nat} {x t : Ent} (h : minU L k b) (hx : L[k]? = some x) (hb : L[b - 1]? = some t) (h0 : 0 < b) (hl : t.last ≤ x.last) : minU L (k + 1) b := by
  rcases h with ⟨h1, _⟩ | ⟨h1, h2, t', h3, h4, h5, h6⟩
  · omega
  · rw [hb] at h3; cases h3
    refine .inr ⟨h1, by omega, t, hb, h4, fun y hy hu => ?_, h6⟩
    rw [take_step hx] at hy
    rcases List.mem_append.1 hy with hy | hy
    · exact h5 y hy hu
    · obtain rfl := List.mem_singleton.1 hy; exact hl
theorem minU_first {L : List Ent} {k b : Nat} {x : Ent} (h : minU L k b) (hx : L[k]? = some x) (ht : x.trusted = false) (h0 : b = 0) : minU L (k + 1) (k + 1) := by
  rcases h with ⟨_, h2⟩ | ⟨h1, _⟩
  · refine .inr ⟨by omega, by omega, x, hx, ht, fun y hy hu => ?_, fun y hy hu => ?_⟩
    · rw [take_step hx] at hy
      rcases List.mem_append.1 hy with hy | hy
      · rw [h2 y hy] at hu; cases hu
      · obtain rfl := List.mem_singleton.1 hy; exact Int.le_refl _
    · rw [show k + 1 - 1 = k from rfl] at hy; rw [h2 y hy] at hu; cases hu
  · omega
theorem minU_next {L : List Ent} {k b : Nat} {x t : Ent} (h : minU L k b) (hx : L[k]? = some x) (ht : x.trusted = false) (h0 : 0 < b) (hb : L[b - 1]? = some t) (hl : x.last < t.last) : minU L (k + 1) (k + 1) := by
  rcases h with ⟨h1, _⟩ | ⟨h1, h2, t', h3, h4, h5, h6⟩
  · omega
  · rw [hb] at h3; cases h3
    refine .inr ⟨by omega, by omega, x, hx, ht, fun y hy hu => ?_, fun y hy hu => ?_⟩
    · rw [take_step hx] at hy
      rcases List.mem_append.1 hy with hy | hy
      · have := h5 y hy hu; omega
      · obtain rfl := List.mem_singleton.1 hy; exact Int.le_refl _
    · rw [show k + 1 - 1 = k from rfl] at hy; have := h5 y hy hu; omega
def insE (x : Ent) : List Ent → List Ent
  | [] => [x]
  | a :: r => if lessF x.flow a.flow then x :: a :: r else a :: insE x r
def insB (x : Ent) (dn : Bool) (L : List Ent) : List Ent := if dn then L else insE x L
theorem insE_len (x : Ent) (L : List Ent) : (insE x L).length = L.length + 1 := by
  induction L with
  | nil => rfl
  | cons a r ih => unfold insE; split <;> simp [ih]
def leftE (o : Ent) (fl : Bool) (L L2 : List Ent) (un : Int) : Prop := (fl = false ∧ L2 = L ∧ o = zeroE ∧ (L.length : Int) - cntE L < un) ∨ (fl = true ∧ un ≤ (L.length : Int) - cntE L ∧ ∃ b t, 0 < b ∧ minU L L.length b ∧ L[b - 1]? = some t ∧ L2 = L.eraseIdx (b - 1) ∧ o = t)
inductive RPut (L : List Ent) (un : Int) (f : Flow) (dip ep now : Int) : List Ent → Ent → Bool → Int → Prop
  | form : goodF f = false → RPut L un f dip ep now L zeroE false 9
  | range : goodF f = true → goodTime now = false → RPut L un f dip ep now L zeroE false 4
  | old (i : Nat) (e : Ent) : goodF f = true → goodTime now = true → L[i]? = some e → e.flow = f → RPut L un f dip ep now (L.set i ⟨e.flow, dip, ep, e.trusted, false, now⟩) zeroE false 0
  | empty : goodF f = true → goodTime now = true → (∀ x ∈ L, x.flow ≠ f) → un = 0 → RPut L un f dip ep now L zeroE false 5
  | new (L2 : List Ent) (o : Ent) (fl : Bool) : goodF f = true → goodTime now = true → (∀ x ∈ L, x.flow ≠ f) → un ≠ 0 → leftE o fl L L2 un → RPut L un f dip ep now (insE ⟨f, dip, ep, false, false, now⟩ L2) o fl 0
theorem goodTime_iff {now : Int} : goodTime now = true ↔ 0 ≤ now ∧ now ≤ 1099511627776 := by simp [goodTime]
def preLess (a b : Flow) (i : Nat) : Prop := (0 < i → a.proto = b.proto) ∧ (1 < i → a.src = b.src) ∧ (2 < i → a.sport = b.sport) ∧ (3 < i → a.dst = b.dst) ∧ (4 < i → a.dport = b.dport)
theorem preLess_end {a b : Flow} (h : preLess a b 5) : lessF a b = false := by
  unfold preLess at h
  rw [show a = b from flow_eq.2 ⟨h.1 (by omega), h.2.1 (by omega), h.2.2.1 (by omega), h.2.2.2.1 (by omega), h.2.2.2.2 (by omega)⟩]
  exact lessF_irr b
def touchE (L : List Ent) (tr : Int) (e : Ent) (f : Flow) (flags now : Int) : Ent :=
  ⟨e.flow, e.dip, e.epoch, if e.trusted = false ∧ ¬ (f.proto = 6 ∧ Go.bits .and .i64 flags 2 = 2) ∧ (cntE L : Int) < tr then true else e.trusted, if f.proto = 6 ∧ (Go.bits .and .i64 flags 1 = 1 ∨ Go.bits .and .i64 flags 4 = 4) then true else if f.proto = 6 ∧ Go.bits .and .i64 flags 2 = 2 then false else e.closing, now⟩
inductive RTouch (L : List Ent) (tr : Int) (f : Flow) (flags now : Int) : List Ent → Bool → Prop
  | none : (∀ x ∈ L, x.flow ≠ f) → RTouch L tr f flags now L false
  | time : goodTime now = false → RTouch L tr f flags now L false
  | some (i : Nat) (e : Ent) : goodTime now = true → L[i]? = some e → e.flow = f → RTouch L tr f flags now (L.set i (touchE L tr e f flags now)) true
inductive RGet (L : List Ent) (f : Flow) : Ent → Bool → Prop
  | none : (∀ x ∈ L, x.flow ≠ f) → RGet L f zeroE false
  | some (i : Nat) (e : Ent) : L[i]? = some e → e.flow = f → RGet L f e true
def outE (L : List Ent) (f : Flow) : List Ent := L.filter fun e => !decide (e.flow = f)
def hasE (L : List Ent) (f : Flow) : Bool := L.any fun e => decide (e.flow = f)
def remL (s : List Ent × Int) (f : Flow) : List Ent × Int := (outE s.1 f, s.2 + if hasE s.1 f then 1 else 0)
theorem outE_none {L : List Ent} {f : Flow} (h : ∀ x ∈ L, x.flow ≠ f) : outE L f = L ∧ hasE L f = false := by
  refine ⟨List.filter_eq_self.2 fun x hx => by simp [h x hx], ?_⟩
  unfold hasE
  rw [List.any_eq_false]
  intro x hx; simp [h x hx]
theorem outE_some {L : List Ent} {f : Flow} (hn : (L.map (·.flow)).Nodup) {i : Nat} {e : Ent} (he : L[i]? = some e) (hf : e.flow = f) : outE L f = L.eraseIdx i ∧ hasE L f = true := by
  constructor
  · induction L generalizing i with
    | nil => cases he
    | cons a r ih =>
      rw [List.map_cons, List.nodup_cons] at hn
      unfold outE
      rw [List.filter_cons]
      cases i with
      | zero =>
        cases he
        rw [if_neg (by simp [hf])]
        refine List.filter_eq_self.2 fun x hx => ?_
        have : x.flow ≠ e.flow := fun q => hn.1 (List.mem_map.2 ⟨x, hx, q⟩)
        rw [hf] at this; simp [this]
      | succ i =>
        have hm : e ∈ r := List.mem_of_getElem? he
        have : a.flow ≠ f := fun q => hn.1 (List.mem_map.2 ⟨e, hm, by rw [hf, q]⟩)
        rw [if_pos (by simp [this]), List.eraseIdx_cons_succ, ← ih hn.2 he]; rfl
  · unfold hasE
    rw [List.any_eq_true]
    exact ⟨e, List.mem_of_getElem? he, by simp [hf]⟩
theorem outE_nodup {L : List Ent} (f : Flow) (h : (L.map (·.flow)).Nodup) : ((outE L f).map (·.flow)).Nodup := (List.Sublist.map _ List.filter_sublist).nodup h
theorem outE_len (L : List Ent) (f : Flow) : (outE L f).length ≤ L.length := List.length_filter_le _ _
theorem remL_hit {s : List Ent × Int} {f : Flow} (hn : (s.1.map (·.flow)).Nodup) {i : Nat} {e : Ent} (he : s.1[i]? = some e) (hf : e.flow = f) : remL s f = (s.1.eraseIdx i, s.2 + 1) := by
  obtain ⟨h1, h2⟩ := outE_some hn he hf
  unfold remL; rw [h1, h2]; rfl
theorem remL_miss {s : List Ent × Int} {f : Flow} (h : ∀ x ∈ s.1, x.flow ≠ f) : remL s f = s := by
  obtain ⟨h1, h2⟩ := outE_none h
  unfold remL; rw [h1, h2]; simp
theorem remL_snoc {fs : List Flow} {k : Nat} {f : Flow} {s : List Ent × Int} (h : fs[k]? = some f) : (fs.take (k + 1)).foldl remL s = remL ((fs.take k).foldl remL s) f := by
  rw [take_step h, List.foldl_append]; rfl
theorem remL_nodup {fs : List Flow} {L : List Ent} {n : Int} (h : (L.map (·.flow)).Nodup) : (((fs.foldl remL (L, n)).1).map (·.flow)).Nodup := by
  induction fs generalizing L n with
  | nil => exact h
  | cons f r ih => exact ih (outE_nodup f h)
theorem remL_bd (fs : List Flow) (L : List Ent) (n : Int) : n ≤ (fs.foldl remL (L, n)).2 ∧ (fs.foldl remL (L, n)).2 ≤ n + fs.length ∧ (fs.foldl remL (L, n)).1.length ≤ L.length := by
  induction fs generalizing L n with
  | nil => simp
  | cons f r ih =>
    have := ih (outE L f) (n + if hasE L f then 1 else 0)
    have h2 := outE_len L f
    rw [List.foldl_cons, List.length_cons]
    rw [show remL (L, n) f = (outE L f, n + if hasE L f then 1 else 0) from rfl]
    have h3 : 0 ≤ (if hasE L f then (1 : Int) else 0) ∧ (if hasE L f then (1 : Int) else 0) ≤ 1 := by split <;> omega
    refine ⟨by omega, ?_, by omega⟩
    have q := this.2.1
    omega
theorem filt_snoc {L : List Ent} {k : Nat} {e : Ent} (q : Ent → Bool) (h : L[k]? = some e) : (L.take (k + 1)).filter q = (L.take k).filter q ++ if q e then [e] else [] := by
  rw [take_step h, List.filter_append]
  by_cases hp : q e <;> simp [hp]
theorem ins_hit {x e : Ent} {L nx : List Ent} {k : Nat} {dn : Bool} (h : insE x L = nx ++ insB x dn (L.drop k)) (hd : dn = false) (he : L[k]? = some e) (hl : lessF x.flow e.flow = true) : insE x L = (nx ++ [x] ++ [e]) ++ insB x true (L.drop (k + 1)) := by
  subst hd
  rw [h, drop_step he]
  unfold insB
  rw [if_neg (by decide), if_pos rfl]
  conv => lhs; unfold insE
  rw [if_pos hl]; simp
theorem ins_miss {x e : Ent} {L nx : List Ent} {k : Nat} {dn : Bool} (h : insE x L = nx ++ insB x dn (L.drop k)) (hd : dn = false) (he : L[k]? = some e) (hl : lessF x.flow e.flow = false) : insE x L = (nx ++ [e]) ++ insB x dn (L.drop (k + 1)) := by
  subst hd
  rw [h, drop_step he]
  unfold insB
  rw [if_neg (by decide), if_neg (by decide)]
  conv => lhs; unfold insE
  rw [if_neg (by rw [hl]; decide)]; simp
theorem ins_done {x e : Ent} {L nx : List Ent} {k : Nat} {dn : Bool} (h : insE x L = nx ++ insB x dn (L.drop k)) (hd : dn = true) (he : L[k]? = some e) : insE x L = (nx ++ [e]) ++ insB x dn (L.drop (k + 1)) := by
  subst hd
  rw [h, drop_step he]
  unfold insB
  rw [if_pos rfl, if_pos rfl]; simp
theorem ins_end {x : Ent} {L nx : List Ent} {k : Nat} {dn : Bool} (h : insE x L = nx ++ insB x dn (L.drop k)) (hk : L.length ≤ k) : insE x L = if dn then nx else nx ++ [x] := by
  rw [h, List.drop_eq_nil_of_le hk]
  unfold insB
  cases dn with
  | true => simp
  | false => rfl
theorem leftE_sub {o : Ent} {fl : Bool} {L L2 : List Ent} {un : Int} (h : leftE o fl L L2 un) : (∀ x ∈ L2, x ∈ L) ∧ L2.length ≤ L.length := by
  rcases h with ⟨_, rfl, _⟩ | ⟨_, _, b, t, _, _, _, rfl, _⟩
  · exact ⟨fun _ h => h, Nat.le_refl _⟩
  · exact ⟨fun x hx => List.mem_of_mem_eraseIdx hx, List.length_eraseIdx_le _ _⟩
theorem minU_pos {L : List Ent} {b : Nat} {un : Int} (h : minU L L.length b) (h0 : 0 ≤ un) (hz : un ≠ 0) (hn : un ≤ (L.length : Int) - cntE L) : 0 < b := by
  rcases h with ⟨_, h2⟩ | ⟨h1, _⟩
  · exfalso
    rw [List.take_length] at h2
    have : cntE L = L.length := by unfold cntE; rw [List.filter_eq_self.2 h2]
    omega
  · exact h1
theorem ins_nl {x : Ent} {L nx : List Ent} {k : Nat} {dn : Bool} (h : insE x L = nx ++ insB x dn (L.drop k)) (hk : k ≤ L.length) : nx.length ≤ k + 1 := by
  have h1 := congrArg List.length h
  rw [insE_len, List.length_append] at h1
  have h2 : (L.drop k).length ≤ (insB x dn (L.drop k)).length := by
    unfold insB
    cases dn with
    | true => exact Nat.le_refl _
    | false => rw [if_neg (by decide), insE_len]; omega
  rw [List.length_drop] at h2
  omega
theorem time_ct (now : Int) (w : World) : Calls Try.prog 39 #[.int .i64 now] w fun e w' => e = .returned (.bool (goodTime now)) ∧ Fr w w' [] := by
  refine enterD (n := 9) Try.func39 rfl rfl (Nat.le_of_ble_eq_true rfl) ?_
  intro Q0 hN hret hret'
  have hC := Cx.start w
  refine WC.seq (fun K1 hK2 => ?_)
  refine WC.region ?_
  refine WL.runs 1 [(2, .bool false)] (fun _ => by kernel_rfl) ?_
  refine WL.done rfl ?_
  refine QX.then_normal (hK2 _ _ ?_)
  refine WC.seq (fun K3 hK4 => ?_)
  refine WC.region ?_
  refine WL.runs 3 [(5, .bool (decide (now ≥ 0))), (4, .bool (decide (now ≥ 0))), (3, .int .i64 now)] (fun _ => by kernel_rfl) ?_
  refine WL.test_at 5 (decide (now ≥ 0)) rfl (fun t5b => ?_) (fun t5b => ?_)
  · -- now ≥ 0: true
    have t5 : (0 : Int) ≤ now := by have q_ := of_decide_eq_true t5b; omega
    refine WL.runs 4 [(2, .bool (decide (now ≤ 1099511627776))), (8, .bool (decide (now ≤ 1099511627776))), (7, .bool (decide (now ≤ 1099511627776))), (6, .int .i64 now)] (fun _ => by kernel_rfl) ?_
    refine WL.done rfl ?_
    refine QX.then_normal (hK4 _ _ ?_)
    refine WC.ret ?_
    refine (hret _ _ _ rfl ?_).1
    clear hN hret hret' hK4 hK2
    exact ⟨by simp [shut, goodTime]; try grind, hC.fr⟩
  · -- now ≥ 0: false
    have t5 : now < 0 := by have q_ := of_decide_eq_false t5b; omega
    refine WL.runs 4 [(2, .bool false), (8, .bool false), (7, undef), (6, undef)] (fun _ => by kernel_rfl) ?_
    refine WL.done rfl ?_
    refine QX.then_normal (hK4 _ _ ?_)
    refine WC.ret ?_
    refine (hret _ _ _ rfl ?_).1
    clear hN hret hret' hK4 hK2
    exact ⟨by simp [shut, goodTime]; try grind, hC.fr⟩

theorem RLess_ct (a b : Flow) (w : World) (ha : bdF a) (hb : bdF b) : Calls Try.prog 42 #[.agg #[.int .i64 a.proto, .int .u32 a.src, .int .i64 a.sport, .int .u32 a.dst, .int .i64 a.dport], .agg #[.int .i64 b.proto, .int .u32 b.src, .int .i64 b.sport, .int .u32 b.dst, .int .i64 b.dport]] w fun e w' => e = .returned (.bool (lessF a b)) ∧ Fr w w' [] := by
  refine enterD (n := 52) Try.func42 rfl rfl (Nat.le_of_ble_eq_true rfl) ?_
  intro Q0 hN hret hret'
  obtain ⟨ha1_, ha2_⟩ := ha
  obtain ⟨hb1_, hb2_⟩ := hb
  have hC := Cx.start w
  refine WC.seq (fun K1 hK2 => ?_)
  refine WC.region ?_
  refine WL.newM hC (fun b => .pointer (some ⟨b, 0, none⟩)) (.cells #[.int .i64 a.proto, .int .u32 a.src, .int .i64 a.sport, .int .u32 a.dst, .int .i64 a.dport] 32) 2 (fun _ => by kernel_rfl) (fun g3 w4 hb7 hF5 hC6 => ?_)
  refine WL.newM hC6 (fun b => .pointer (some ⟨b, 0, none⟩)) (.cells #[.int .i64 b.proto, .int .u32 b.src, .int .i64 b.sport, .int .u32 b.dst, .int .i64 b.dport] 32) 3 (fun _ => by kernel_rfl) (fun g8 w9 hb12 hF10 hC11 => ?_)
  refine WL.runs 1 [(4, .bool false)] (fun _ => by kernel_rfl) ?_
  refine WL.done rfl ?_
  refine QX.then_normal (hK2 _ _ ?_)
  refine WC.seq (fun K13 hK14 => ?_)
  refine WC.region ?_
  refine WL.runs 1 [(8, .pointer (some ⟨g3, 0, none⟩))] (fun _ => by kernel_rfl) ?_
  refine WL.load 3 (.pointer (some ⟨g3, 0, none⟩)) (.int .i64 a.proto) 9 (by kernel_rfl) (run_ld (hC11.get 0 rfl) rfl) ?_
  refine WL.runs 1 [(10, .pointer (some ⟨g3, 1, none⟩))] (fun _ => by kernel_rfl) ?_
  refine WL.load 30 (.pointer (some ⟨g3, 1, none⟩)) (.int .u32 a.src) 11 (by kernel_rfl) (run_ld (hC11.get 0 rfl) rfl) ?_
  refine WL.runs 1 [(12, .int .i64 (IntKind.i64.wrap (a.src)))] (fun _ => by kernel_rfl) ?_
  refine WL.recast (show (.int .i64 (IntKind.i64.wrap (a.src)) : Value) = .int .i64 a.src from by rw [wrap_in_i64 (a.src) (by omega) (by omega)]) ?_
  refine WL.runs 1 [(13, .pointer (some ⟨g3, 2, none⟩))] (fun _ => by kernel_rfl) ?_
  refine WL.load 3 (.pointer (some ⟨g3, 2, none⟩)) (.int .i64 a.sport) 14 (by kernel_rfl) (run_ld (hC11.get 0 rfl) rfl) ?_
  refine WL.runs 1 [(15, .pointer (some ⟨g3, 3, none⟩))] (fun _ => by kernel_rfl) ?_
  refine WL.load 30 (.pointer (some ⟨g3, 3, none⟩)) (.int .u32 a.dst) 16 (by kernel_rfl) (run_ld (hC11.get 0 rfl) rfl) ?_
  refine WL.runs 1 [(17, .int .i64 (IntKind.i64.wrap (a.dst)))] (fun _ => by kernel_rfl) ?_
  refine WL.recast (show (.int .i64 (IntKind.i64.wrap (a.dst)) : Value) = .int .i64 a.dst from by rw [wrap_in_i64 (a.dst) (by omega) (by omega)]) ?_
  refine WL.runs 1 [(18, .pointer (some ⟨g3, 4, none⟩))] (fun _ => by kernel_rfl) ?_
  refine WL.load 3 (.pointer (some ⟨g3, 4, none⟩)) (.int .i64 a.dport) 19 (by kernel_rfl) (run_ld (hC11.get 0 rfl) rfl) ?_
  refine WL.runs 1 [(20, .agg #[.int .i64 a.proto, .int .i64 a.src, .int .i64 a.sport, .int .i64 a.dst, .int .i64 a.dport])] (fun _ => by kernel_rfl) ?_
  refine WL.newM hC11 (fun b => .pointer (some ⟨b, 0, none⟩)) (.cells #[.int .i64 0, .int .i64 0, .int .i64 0, .int .i64 0, .int .i64 0] 93) 5 (fun _ => by kernel_rfl) (fun g15 w16 hb19 hF17 hC18 => ?_)
  refine WL.storeM (c' := #[.int .i64 a.proto, .int .i64 a.src, .int .i64 a.sport, .int .i64 a.dst, .int .i64 a.dport]) hC18 2 93 g15 0 (.agg #[.int .i64 a.proto, .int .i64 a.src, .int .i64 a.sport, .int .i64 a.dst, .int .i64 a.dport]) (by kernel_rfl) rfl (by kernel_rfl) (fun w20 hF22 hC23 => ?_)
  refine WL.done rfl ?_
  refine QX.then_normal (hK14 _ _ ?_)
  refine WC.seq (fun K24 hK25 => ?_)
  refine WC.region ?_
  refine WL.runs 1 [(21, .pointer (some ⟨g8, 0, none⟩))] (fun _ => by kernel_rfl) ?_
  refine WL.load 3 (.pointer (some ⟨g8, 0, none⟩)) (.int .i64 b.proto) 22 (by kernel_rfl) (run_ld (hC23.get 1 rfl) rfl) ?_
  refine WL.runs 1 [(23, .pointer (some ⟨g8, 1, none⟩))] (fun _ => by kernel_rfl) ?_
  refine WL.load 30 (.pointer (some ⟨g8, 1, none⟩)) (.int .u32 b.src) 24 (by kernel_rfl) (run_ld (hC23.get 1 rfl) rfl) ?_
  refine WL.runs 1 [(25, .int .i64 (IntKind.i64.wrap (b.src)))] (fun _ => by kernel_rfl) ?_
  refine WL.recast (show (.int .i64 (IntKind.i64.wrap (b.src)) : Value) = .int .i64 b.src from by rw [wrap_in_i64 (b.src) (by omega) (by omega)]) ?_
  refine WL.runs 1 [(26, .pointer (some ⟨g8, 2, none⟩))] (fun _ => by kernel_rfl) ?_
  refine WL.load 3 (.pointer (some ⟨g8, 2, none⟩)) (.int .i64 b.sport) 27 (by kernel_rfl) (run_ld (hC23.get 1 rfl) rfl) ?_
  refine WL.runs 1 [(28, .pointer (some ⟨g8, 3, none⟩))] (fun _ => by kernel_rfl) ?_
  refine WL.load 30 (.pointer (some ⟨g8, 3, none⟩)) (.int .u32 b.dst) 29 (by kernel_rfl) (run_ld (hC23.get 1 rfl) rfl) ?_
  refine WL.runs 1 [(30, .int .i64 (IntKind.i64.wrap (b.dst)))] (fun _ => by kernel_rfl) ?_
  refine WL.recast (show (.int .i64 (IntKind.i64.wrap (b.dst)) : Value) = .int .i64 b.dst from by rw [wrap_in_i64 (b.dst) (by omega) (by omega)]) ?_
  refine WL.runs 1 [(31, .pointer (some ⟨g8, 4, none⟩))] (fun _ => by kernel_rfl) ?_
  refine WL.load 3 (.pointer (some ⟨g8, 4, none⟩)) (.int .i64 b.dport) 32 (by kernel_rfl) (run_ld (hC23.get 1 rfl) rfl) ?_
  refine WL.runs 1 [(33, .agg #[.int .i64 b.proto, .int .i64 b.src, .int .i64 b.sport, .int .i64 b.dst, .int .i64 b.dport])] (fun _ => by kernel_rfl) ?_
  refine WL.newM hC23 (fun b => .pointer (some ⟨b, 0, none⟩)) (.cells #[.int .i64 0, .int .i64 0, .int .i64 0, .int .i64 0, .int .i64 0] 93) 6 (fun _ => by kernel_rfl) (fun g26 w27 hb30 hF28 hC29 => ?_)
  refine WL.storeM (c' := #[.int .i64 b.proto, .int .i64 b.src, .int .i64 b.sport, .int .i64 b.dst, .int .i64 b.dport]) hC29 3 93 g26 0 (.agg #[.int .i64 b.proto, .int .i64 b.src, .int .i64 b.sport, .int .i64 b.dst, .int .i64 b.dport]) (by kernel_rfl) rfl (by kernel_rfl) (fun w31 hF33 hC34 => ?_)
  refine WL.done rfl ?_
  refine QX.then_normal (hK25 _ _ ?_)
  refine WC.seq (fun K35 hK36 => ?_)
  refine WC.seq (fun K37 hK38 => ?_)
  refine WC.region ?_
  refine WL.runs 1 [(7, .int .i64 0)] (fun _ => by kernel_rfl) ?_
  refine WL.done rfl ?_
  refine QX.then_normal (hK38 _ _ ?_)
  refine WC.block ?_
  refine WC.loop (fun m_ E_ w_ => ∃ (i : Nat), m_ = 5 - i ∧ E_ = [(2, .pointer (some ⟨g3, 0, none⟩)), (3, .pointer (some ⟨g8, 0, none⟩)), (5, .pointer (some ⟨g15, 0, none⟩)), (6, .pointer (some ⟨g26, 0, none⟩)), (7, .int .i64 (i : Int))] ∧ Cx w [] w_ [(g3, .cells #[.int .i64 a.proto, .int .u32 a.src, .int .i64 a.sport, .int .u32 a.dst, .int .i64 a.dport] 32), (g8, .cells #[.int .i64 b.proto, .int .u32 b.src, .int .i64 b.sport, .int .u32 b.dst, .int .i64 b.dport] 32), (g15, .cells #[.int .i64 a.proto, .int .i64 a.src, .int .i64 a.sport, .int .i64 a.dst, .int .i64 a.dport] 93), (g26, .cells #[.int .i64 b.proto, .int .i64 b.src, .int .i64 b.sport, .int .i64 b.dst, .int .i64 b.dport] 93)] [] ∧ (i ≤ 5 ∧ preLess a b i)) ⟨_, _, ⟨0, rfl, rfl, hC34, by omega, ⟨by omega, by omega, by omega, by omega, by omega⟩⟩, sub_of ⟨rfl, rfl, rfl, rfl, rfl, trivial⟩⟩ (fun m42 E_ w43 K39 hK40 hI41 => ?_)
  obtain ⟨i, rfl, rfl, hC44, hi, hpre⟩ := hI41
  refine WC.seq (fun K45 hK46 => ?_)
  refine WC.seq (fun K47 hK48 => ?_)
  refine WC.region ?_
  obtain rfl | rfl | rfl | rfl | rfl | rfl : i = 0 ∨ i = 1 ∨ i = 2 ∨ i = 3 ∨ i = 4 ∨ i = 5 := by omega
  · skip
    refine WL.runs 1 [(34, .int .i64 0)] (fun _ => by kernel_rfl) ?_
    refine WL.runs 1 [(35, .bool true)] (fun _ => by kernel_rfl) ?_
    refine WL.done rfl ?_
    refine QX.then_normal (hK48 _ _ ?_)
    refine WC.cond_true rfl ?_
    refine WC.skip ?_
    refine QX.then_normal (hK46 _ _ ?_)
    refine WC.seq (fun K49 hK50 => ?_)
    refine WC.block ?_
    refine WC.seq (fun K51 hK52 => ?_)
    refine WC.drawC hC44 [] (by kernel_rfl) (fun w53 hF54 hC55 hS56 => ?_)
    refine WD.pure (NoPanic.then (NoPanic.block (NoPanic.then (NoPanic.then (NoPanic.block (NoPanic.then hN)))))) 0 38 (.int .i64 0) (by kernel_rfl) (fun _ => by kernel_rfl) hS56 ?_
    refine WD.indexP (NoPanic.then (NoPanic.block (NoPanic.then (NoPanic.then (NoPanic.block (NoPanic.then hN)))))) 1 93 5 3 1 g15 0 0 .i64 0 39 (by kernel_rfl) (by kernel_rfl) (by kernel_rfl) (by omega) (by omega) 0 (by first | (simp; done) | omega) hS56 ?_
    refine WD.pure (NoPanic.then (NoPanic.block (NoPanic.then (NoPanic.then (NoPanic.block (NoPanic.then hN)))))) 3 41 (.int .i64 0) (by kernel_rfl) (fun _ => by kernel_rfl) hS56 ?_
    refine WD.indexP (NoPanic.then (NoPanic.block (NoPanic.then (NoPanic.then (NoPanic.block (NoPanic.then hN)))))) 4 93 5 3 1 g26 0 0 .i64 0 42 (by kernel_rfl) (by kernel_rfl) (by kernel_rfl) (by omega) (by omega) 0 (by first | (simp; done) | omega) hS56 ?_
    refine WD.load (NoPanic.then (NoPanic.block (NoPanic.then (NoPanic.then (NoPanic.block (NoPanic.then hN)))))) 2 3 (.pointer (some ⟨g15, 0, none⟩)) (.int .i64 a.proto) 40 (by kernel_rfl) (by kernel_rfl) (fun _ hS_ => run_ld (Fr.has hS_ (hC55.get 2 rfl) (by simp)) rfl) hS56 ?_
    refine WD.load (NoPanic.then (NoPanic.block (NoPanic.then (NoPanic.then (NoPanic.block (NoPanic.then hN)))))) 5 3 (.pointer (some ⟨g26, 0, none⟩)) (.int .i64 b.proto) 43 (by kernel_rfl) (by kernel_rfl) (fun _ hS_ => run_ld (Fr.has hS_ (hC55.get 3 rfl) (by simp)) rfl) hS56 ?_
    refine WD.pure (NoPanic.then (NoPanic.block (NoPanic.then (NoPanic.then (NoPanic.block (NoPanic.then hN)))))) 6 44 (.bool (a.proto != b.proto)) (by kernel_rfl) (fun _ => by kernel_rfl) hS56 ?_
    refine WD.done (by kernel_rfl) ?_
    refine QX.then_normal (hK52 _ _ ?_)
    refine WC.test_at 44 (a.proto != b.proto) rfl (fun t57b => ?_) (fun t57b => ?_)
    · -- a.proto ≠ b.proto: true
      have t57 : a.proto ≠ b.proto := by simpa using t57b
      refine WC.cond_true rfl ?_
      refine WC.seq (fun K58 hK59 => ?_)
      refine WC.drawC hC55 [] (by kernel_rfl) (fun w60 hF61 hC62 hS63 => ?_)
      refine WD.pure (NoPanic.then (NoPanic.block (NoPanic.then (NoPanic.then (NoPanic.block (NoPanic.then hN)))))) 0 45 (.int .i64 0) (by kernel_rfl) (fun _ => by kernel_rfl) hS63 ?_
      refine WD.indexP (NoPanic.then (NoPanic.block (NoPanic.then (NoPanic.then (NoPanic.block (NoPanic.then hN)))))) 1 93 5 3 1 g15 0 0 .i64 0 46 (by kernel_rfl) (by kernel_rfl) (by kernel_rfl) (by omega) (by omega) 0 (by first | (simp; done) | omega) hS63 ?_
      refine WD.pure (NoPanic.then (NoPanic.block (NoPanic.then (NoPanic.then (NoPanic.block (NoPanic.then hN)))))) 3 48 (.int .i64 0) (by kernel_rfl) (fun _ => by kernel_rfl) hS63 ?_
      refine WD.indexP (NoPanic.then (NoPanic.block (NoPanic.then (NoPanic.then (NoPanic.block (NoPanic.then hN)))))) 4 93 5 3 1 g26 0 0 .i64 0 49 (by kernel_rfl) (by kernel_rfl) (by kernel_rfl) (by omega) (by omega) 0 (by first | (simp; done) | omega) hS63 ?_
      refine WD.load (NoPanic.then (NoPanic.block (NoPanic.then (NoPanic.then (NoPanic.block (NoPanic.then hN)))))) 2 3 (.pointer (some ⟨g15, 0, none⟩)) (.int .i64 a.proto) 47 (by kernel_rfl) (by kernel_rfl) (fun _ hS_ => run_ld (Fr.has hS_ (hC62.get 2 rfl) (by simp)) rfl) hS63 ?_
      refine WD.load (NoPanic.then (NoPanic.block (NoPanic.then (NoPanic.then (NoPanic.block (NoPanic.then hN)))))) 5 3 (.pointer (some ⟨g26, 0, none⟩)) (.int .i64 b.proto) 50 (by kernel_rfl) (by kernel_rfl) (fun _ hS_ => run_ld (Fr.has hS_ (hC62.get 3 rfl) (by simp)) rfl) hS63 ?_
      refine WD.pure (NoPanic.then (NoPanic.block (NoPanic.then (NoPanic.then (NoPanic.block (NoPanic.then hN)))))) 6 51 (.bool (decide (a.proto < b.proto))) (by kernel_rfl) (fun _ => by kernel_rfl) hS63 ?_
      refine WD.pure (NoPanic.then (NoPanic.block (NoPanic.then (NoPanic.then (NoPanic.block (NoPanic.then hN)))))) 7 4 (.bool (decide (a.proto < b.proto))) (by kernel_rfl) (fun _ => by kernel_rfl) hS63 ?_
      refine WD.done (by kernel_rfl) ?_
      refine QX.then_normal (hK59 _ _ ?_)
      refine WC.ret ?_
      refine QX.block_ret ?_
      refine QX.then_ret ?_
      refine QX.then_ret ?_
      refine QX.block_ret ?_
      refine QX.then_ret ?_
      refine (hret _ _ _ rfl ?_).1
      clear hN hret hret' hK59 hK52 hK50 hK48 hK46 hK38 hK36 hK25 hK14 hK2
      refine ⟨congrArg (fun b_ => Ending.returned (Value.bool b_)) ?_, hC62.fr⟩
      unfold preLess at hpre
      rw [Bool.eq_iff_iff, lessF_iff, decide_eq_true_eq]
      omega
    · -- a.proto ≠ b.proto: false
      have t57 : a.proto = b.proto := by simpa using t57b
      refine WC.cond_false rfl ?_
      refine WC.skip ?_
      refine QX.block_normal ?_
      refine QX.then_normal (hK50 _ _ ?_)
      refine WC.region ?_
      refine WL.runs 2 [(37, .int .i64 (IntKind.i64.wrap (0 + 1))), (36, .int .i64 0)] (fun _ => by kernel_rfl) ?_
      refine WL.recast (show (.int .i64 (IntKind.i64.wrap (0 + 1)) : Value) = .int .i64 (0 + 1) from by rw [wrap_in_i64 (0 + 1) (by omega) (by omega)]) ?_
      refine WL.runs 1 [(7, .int .i64 (0 + 1))] (fun _ => by kernel_rfl) ?_
      refine WL.done rfl ?_
      refine QX.then_normal ?_
      have hC64 := hC55.pick [0, 1, 2, 3] [] rfl rfl
      refine fun a_ ha_ => hK40 _ _ _ ?_ ⟨1, rfl, rfl, hC64, by omega, by unfold preLess at *; omega⟩ a_ (ha_.weaken (sub_of ⟨rfl, rfl, rfl, rfl, rfl, trivial⟩))
      omega
  · skip
    refine WL.runs 1 [(34, .int .i64 1)] (fun _ => by kernel_rfl) ?_
    refine WL.runs 1 [(35, .bool true)] (fun _ => by kernel_rfl) ?_
    refine WL.done rfl ?_
    refine QX.then_normal (hK48 _ _ ?_)
    refine WC.cond_true rfl ?_
    refine WC.skip ?_
    refine QX.then_normal (hK46 _ _ ?_)
    refine WC.seq (fun K65 hK66 => ?_)
    refine WC.block ?_
    refine WC.seq (fun K67 hK68 => ?_)
    refine WC.drawC hC44 [] (by kernel_rfl) (fun w69 hF70 hC71 hS72 => ?_)
    refine WD.pure (NoPanic.then (NoPanic.block (NoPanic.then (NoPanic.then (NoPanic.block (NoPanic.then hN)))))) 0 38 (.int .i64 1) (by kernel_rfl) (fun _ => by kernel_rfl) hS72 ?_
    refine WD.indexP (NoPanic.then (NoPanic.block (NoPanic.then (NoPanic.then (NoPanic.block (NoPanic.then hN)))))) 1 93 5 3 1 g15 0 1 .i64 1 39 (by kernel_rfl) (by kernel_rfl) (by kernel_rfl) (by omega) (by omega) 1 (by first | (simp; done) | omega) hS72 ?_
    refine WD.pure (NoPanic.then (NoPanic.block (NoPanic.then (NoPanic.then (NoPanic.block (NoPanic.then hN)))))) 3 41 (.int .i64 1) (by kernel_rfl) (fun _ => by kernel_rfl) hS72 ?_
    refine WD.indexP (NoPanic.then (NoPanic.block (NoPanic.then (NoPanic.then (NoPanic.block (NoPanic.then hN)))))) 4 93 5 3 1 g26 0 1 .i64 1 42 (by kernel_rfl) (by kernel_rfl) (by kernel_rfl) (by omega) (by omega) 1 (by first | (simp; done) | omega) hS72 ?_
    refine WD.load (NoPanic.then (NoPanic.block (NoPanic.then (NoPanic.then (NoPanic.block (NoPanic.then hN)))))) 2 3 (.pointer (some ⟨g15, 1, none⟩)) (.int .i64 a.src) 40 (by kernel_rfl) (by kernel_rfl) (fun _ hS_ => run_ld (Fr.has hS_ (hC71.get 2 rfl) (by simp)) rfl) hS72 ?_
    refine WD.load (NoPanic.then (NoPanic.block (NoPanic.then (NoPanic.then (NoPanic.block (NoPanic.then hN)))))) 5 3 (.pointer (some ⟨g26, 1, none⟩)) (.int .i64 b.src) 43 (by kernel_rfl) (by kernel_rfl) (fun _ hS_ => run_ld (Fr.has hS_ (hC71.get 3 rfl) (by simp)) rfl) hS72 ?_
    refine WD.pure (NoPanic.then (NoPanic.block (NoPanic.then (NoPanic.then (NoPanic.block (NoPanic.then hN)))))) 6 44 (.bool (a.src != b.src)) (by kernel_rfl) (fun _ => by kernel_rfl) hS72 ?_
    refine WD.done (by kernel_rfl) ?_
    refine QX.then_normal (hK68 _ _ ?_)
    refine WC.test_at 44 (a.src != b.src) rfl (fun t73b => ?_) (fun t73b => ?_)
    · -- a.src ≠ b.src: true
      have t73 : a.src ≠ b.src := by simpa using t73b
      refine WC.cond_true rfl ?_
      refine WC.seq (fun K74 hK75 => ?_)
      refine WC.drawC hC71 [] (by kernel_rfl) (fun w76 hF77 hC78 hS79 => ?_)
      refine WD.pure (NoPanic.then (NoPanic.block (NoPanic.then (NoPanic.then (NoPanic.block (NoPanic.then hN)))))) 0 45 (.int .i64 1) (by kernel_rfl) (fun _ => by kernel_rfl) hS79 ?_
      refine WD.indexP (NoPanic.then (NoPanic.block (NoPanic.then (NoPanic.then (NoPanic.block (NoPanic.then hN)))))) 1 93 5 3 1 g15 0 1 .i64 1 46 (by kernel_rfl) (by kernel_rfl) (by kernel_rfl) (by omega) (by omega) 1 (by first | (simp; done) | omega) hS79 ?_
      refine WD.pure (NoPanic.then (NoPanic.block (NoPanic.then (NoPanic.then (NoPanic.block (NoPanic.then hN)))))) 3 48 (.int .i64 1) (by kernel_rfl) (fun _ => by kernel_rfl) hS79 ?_
      refine WD.indexP (NoPanic.then (NoPanic.block (NoPanic.then (NoPanic.then (NoPanic.block (NoPanic.then hN)))))) 4 93 5 3 1 g26 0 1 .i64 1 49 (by kernel_rfl) (by kernel_rfl) (by kernel_rfl) (by omega) (by omega) 1 (by first | (simp; done) | omega) hS79 ?_
      refine WD.load (NoPanic.then (NoPanic.block (NoPanic.then (NoPanic.then (NoPanic.block (NoPanic.then hN)))))) 2 3 (.pointer (some ⟨g15, 1, none⟩)) (.int .i64 a.src) 47 (by kernel_rfl) (by kernel_rfl) (fun _ hS_ => run_ld (Fr.has hS_ (hC78.get 2 rfl) (by simp)) rfl) hS79 ?_
      refine WD.load (NoPanic.then (NoPanic.block (NoPanic.then (NoPanic.then (NoPanic.block (NoPanic.then hN)))))) 5 3 (.pointer (some ⟨g26, 1, none⟩)) (.int .i64 b.src) 50 (by kernel_rfl) (by kernel_rfl) (fun _ hS_ => run_ld (Fr.has hS_ (hC78.get 3 rfl) (by simp)) rfl) hS79 ?_
      refine WD.pure (NoPanic.then (NoPanic.block (NoPanic.then (NoPanic.then (NoPanic.block (NoPanic.then hN)))))) 6 51 (.bool (decide (a.src < b.src))) (by kernel_rfl) (fun _ => by kernel_rfl) hS79 ?_
      refine WD.pure (NoPanic.then (NoPanic.block (NoPanic.then (NoPanic.then (NoPanic.block (NoPanic.then hN)))))) 7 4 (.bool (decide (a.src < b.src))) (by kernel_rfl) (fun _ => by kernel_rfl) hS79 ?_
      refine WD.done (by kernel_rfl) ?_
      refine QX.then_normal (hK75 _ _ ?_)
      refine WC.ret ?_
      refine QX.block_ret ?_
      refine QX.then_ret ?_
      refine QX.then_ret ?_
      refine QX.block_ret ?_
      refine QX.then_ret ?_
      refine (hret _ _ _ rfl ?_).1
      clear hN hret hret' hK75 hK68 hK66 hK48 hK46 hK38 hK36 hK25 hK14 hK2
      refine ⟨congrArg (fun b_ => Ending.returned (Value.bool b_)) ?_, hC78.fr⟩
      unfold preLess at hpre
      rw [Bool.eq_iff_iff, lessF_iff, decide_eq_true_eq]
      omega
    · -- a.src ≠ b.src: false
      have t73 : a.src = b.src := by simpa using t73b
      refine WC.cond_false rfl ?_
      refine WC.skip ?_
      refine QX.block_normal ?_
      refine QX.then_normal (hK66 _ _ ?_)
      refine WC.region ?_
      refine WL.runs 2 [(37, .int .i64 (IntKind.i64.wrap (1 + 1))), (36, .int .i64 1)] (fun _ => by kernel_rfl) ?_
      refine WL.recast (show (.int .i64 (IntKind.i64.wrap (1 + 1)) : Value) = .int .i64 (1 + 1) from by rw [wrap_in_i64 (1 + 1) (by omega) (by omega)]) ?_
      refine WL.runs 1 [(7, .int .i64 (1 + 1))] (fun _ => by kernel_rfl) ?_
      refine WL.done rfl ?_
      refine QX.then_normal ?_
      have hC80 := hC71.pick [0, 1, 2, 3] [] rfl rfl
      refine fun a_ ha_ => hK40 _ _ _ ?_ ⟨2, rfl, rfl, hC80, by omega, by unfold preLess at *; omega⟩ a_ (ha_.weaken (sub_of ⟨rfl, rfl, rfl, rfl, rfl, trivial⟩))
      omega
  · skip
    refine WL.runs 1 [(34, .int .i64 2)] (fun _ => by kernel_rfl) ?_
    refine WL.runs 1 [(35, .bool true)] (fun _ => by kernel_rfl) ?_
    refine WL.done rfl ?_
    refine QX.then_normal (hK48 _ _ ?_)
    refine WC.cond_true rfl ?_
    refine WC.skip ?_
    refine QX.then_normal (hK46 _ _ ?_)
    refine WC.seq (fun K81 hK82 => ?_)
    refine WC.block ?_
    refine WC.seq (fun K83 hK84 => ?_)
    refine WC.drawC hC44 [] (by kernel_rfl) (fun w85 hF86 hC87 hS88 => ?_)
    refine WD.pure (NoPanic.then (NoPanic.block (NoPanic.then (NoPanic.then (NoPanic.block (NoPanic.then hN)))))) 0 38 (.int .i64 2) (by kernel_rfl) (fun _ => by kernel_rfl) hS88 ?_
    refine WD.indexP (NoPanic.then (NoPanic.block (NoPanic.then (NoPanic.then (NoPanic.block (NoPanic.then hN)))))) 1 93 5 3 1 g15 0 2 .i64 2 39 (by kernel_rfl) (by kernel_rfl) (by kernel_rfl) (by omega) (by omega) 2 (by first | (simp; done) | omega) hS88 ?_
    refine WD.pure (NoPanic.then (NoPanic.block (NoPanic.then (NoPanic.then (NoPanic.block (NoPanic.then hN)))))) 3 41 (.int .i64 2) (by kernel_rfl) (fun _ => by kernel_rfl) hS88 ?_
    refine WD.indexP (NoPanic.then (NoPanic.block (NoPanic.then (NoPanic.then (NoPanic.block (NoPanic.then hN)))))) 4 93 5 3 1 g26 0 2 .i64 2 42 (by kernel_rfl) (by kernel_rfl) (by kernel_rfl) (by omega) (by omega) 2 (by first | (simp; done) | omega) hS88 ?_
    refine WD.load (NoPanic.then (NoPanic.block (NoPanic.then (NoPanic.then (NoPanic.block (NoPanic.then hN)))))) 2 3 (.pointer (some ⟨g15, 2, none⟩)) (.int .i64 a.sport) 40 (by kernel_rfl) (by kernel_rfl) (fun _ hS_ => run_ld (Fr.has hS_ (hC87.get 2 rfl) (by simp)) rfl) hS88 ?_
    refine WD.load (NoPanic.then (NoPanic.block (NoPanic.then (NoPanic.then (NoPanic.block (NoPanic.then hN)))))) 5 3 (.pointer (some ⟨g26, 2, none⟩)) (.int .i64 b.sport) 43 (by kernel_rfl) (by kernel_rfl) (fun _ hS_ => run_ld (Fr.has hS_ (hC87.get 3 rfl) (by simp)) rfl) hS88 ?_
    refine WD.pure (NoPanic.then (NoPanic.block (NoPanic.then (NoPanic.then (NoPanic.block (NoPanic.then hN)))))) 6 44 (.bool (a.sport != b.sport)) (by kernel_rfl) (fun _ => by kernel_rfl) hS88 ?_
    refine WD.done (by kernel_rfl) ?_
    refine QX.then_normal (hK84 _ _ ?_)
    refine WC.test_at 44 (a.sport != b.sport) rfl (fun t89b => ?_) (fun t89b => ?_)
    · -- a.sport ≠ b.sport: true
      have t89 : a.sport ≠ b.sport := by simpa using t89b
      refine WC.cond_true rfl ?_
      refine WC.seq (fun K90 hK91 => ?_)
      refine WC.drawC hC87 [] (by kernel_rfl) (fun w92 hF93 hC94 hS95 => ?_)
      refine WD.pure (NoPanic.then (NoPanic.block (NoPanic.then (NoPanic.then (NoPanic.block (NoPanic.then hN)))))) 0 45 (.int .i64 2) (by kernel_rfl) (fun _ => by kernel_rfl) hS95 ?_
      refine WD.indexP (NoPanic.then (NoPanic.block (NoPanic.then (NoPanic.then (NoPanic.block (NoPanic.then hN)))))) 1 93 5 3 1 g15 0 2 .i64 2 46 (by kernel_rfl) (by kernel_rfl) (by kernel_rfl) (by omega) (by omega) 2 (by first | (simp; done) | omega) hS95 ?_
      refine WD.pure (NoPanic.then (NoPanic.block (NoPanic.then (NoPanic.then (NoPanic.block (NoPanic.then hN)))))) 3 48 (.int .i64 2) (by kernel_rfl) (fun _ => by kernel_rfl) hS95 ?_
      refine WD.indexP (NoPanic.then (NoPanic.block (NoPanic.then (NoPanic.then (NoPanic.block (NoPanic.then hN)))))) 4 93 5 3 1 g26 0 2 .i64 2 49 (by kernel_rfl) (by kernel_rfl) (by kernel_rfl) (by omega) (by omega) 2 (by first | (simp; done) | omega) hS95 ?_
      refine WD.load (NoPanic.then (NoPanic.block (NoPanic.then (NoPanic.then (NoPanic.block (NoPanic.then hN)))))) 2 3 (.pointer (some ⟨g15, 2, none⟩)) (.int .i64 a.sport) 47 (by kernel_rfl) (by kernel_rfl) (fun _ hS_ => run_ld (Fr.has hS_ (hC94.get 2 rfl) (by simp)) rfl) hS95 ?_
      refine WD.load (NoPanic.then (NoPanic.block (NoPanic.then (NoPanic.then (NoPanic.block (NoPanic.then hN)))))) 5 3 (.pointer (some ⟨g26, 2, none⟩)) (.int .i64 b.sport) 50 (by kernel_rfl) (by kernel_rfl) (fun _ hS_ => run_ld (Fr.has hS_ (hC94.get 3 rfl) (by simp)) rfl) hS95 ?_
      refine WD.pure (NoPanic.then (NoPanic.block (NoPanic.then (NoPanic.then (NoPanic.block (NoPanic.then hN)))))) 6 51 (.bool (decide (a.sport < b.sport))) (by kernel_rfl) (fun _ => by kernel_rfl) hS95 ?_
      refine WD.pure (NoPanic.then (NoPanic.block (NoPanic.then (NoPanic.then (NoPanic.block (NoPanic.then hN)))))) 7 4 (.bool (decide (a.sport < b.sport))) (by kernel_rfl) (fun _ => by kernel_rfl) hS95 ?_
      refine WD.done (by kernel_rfl) ?_
      refine QX.then_normal (hK91 _ _ ?_)
      refine WC.ret ?_
      refine QX.block_ret ?_
      refine QX.then_ret ?_
      refine QX.then_ret ?_
      refine QX.block_ret ?_
      refine QX.then_ret ?_
      refine (hret _ _ _ rfl ?_).1
      clear hN hret hret' hK91 hK84 hK82 hK48 hK46 hK38 hK36 hK25 hK14 hK2
      refine ⟨congrArg (fun b_ => Ending.returned (Value.bool b_)) ?_, hC94.fr⟩
      unfold preLess at hpre
      rw [Bool.eq_iff_iff, lessF_iff, decide_eq_true_eq]
      omega
    · -- a.sport ≠ b.sport: false
      have t89 : a.sport = b.sport := by simpa using t89b
      refine WC.cond_false rfl ?_
      refine WC.skip ?_
      refine QX.block_normal ?_
      refine QX.then_normal (hK82 _ _ ?_)
      refine WC.region ?_
      refine WL.runs 2 [(37, .int .i64 (IntKind.i64.wrap (2 + 1))), (36, .int .i64 2)] (fun _ => by kernel_rfl) ?_
      refine WL.recast (show (.int .i64 (IntKind.i64.wrap (2 + 1)) : Value) = .int .i64 (2 + 1) from by rw [wrap_in_i64 (2 + 1) (by omega) (by omega)]) ?_
      refine WL.runs 1 [(7, .int .i64 (2 + 1))] (fun _ => by kernel_rfl) ?_
      refine WL.done rfl ?_
      refine QX.then_normal ?_
      have hC96 := hC87.pick [0, 1, 2, 3] [] rfl rfl
      refine fun a_ ha_ => hK40 _ _ _ ?_ ⟨3, rfl, rfl, hC96, by omega, by unfold preLess at *; omega⟩ a_ (ha_.weaken (sub_of ⟨rfl, rfl, rfl, rfl, rfl, trivial⟩))
      omega
  · skip
    refine WL.runs 1 [(34, .int .i64 3)] (fun _ => by kernel_rfl) ?_
    refine WL.runs 1 [(35, .bool true)] (fun _ => by kernel_rfl) ?_
    refine WL.done rfl ?_
    refine QX.then_normal (hK48 _ _ ?_)
    refine WC.cond_true rfl ?_
    refine WC.skip ?_
    refine QX.then_normal (hK46 _ _ ?_)
    refine WC.seq (fun K97 hK98 => ?_)
    refine WC.block ?_
    refine WC.seq (fun K99 hK100 => ?_)
    refine WC.drawC hC44 [] (by kernel_rfl) (fun w101 hF102 hC103 hS104 => ?_)
    refine WD.pure (NoPanic.then (NoPanic.block (NoPanic.then (NoPanic.then (NoPanic.block (NoPanic.then hN)))))) 0 38 (.int .i64 3) (by kernel_rfl) (fun _ => by kernel_rfl) hS104 ?_
    refine WD.indexP (NoPanic.then (NoPanic.block (NoPanic.then (NoPanic.then (NoPanic.block (NoPanic.then hN)))))) 1 93 5 3 1 g15 0 3 .i64 3 39 (by kernel_rfl) (by kernel_rfl) (by kernel_rfl) (by omega) (by omega) 3 (by first | (simp; done) | omega) hS104 ?_
    refine WD.pure (NoPanic.then (NoPanic.block (NoPanic.then (NoPanic.then (NoPanic.block (NoPanic.then hN)))))) 3 41 (.int .i64 3) (by kernel_rfl) (fun _ => by kernel_rfl) hS104 ?_
    refine WD.indexP (NoPanic.then (NoPanic.block (NoPanic.then (NoPanic.then (NoPanic.block (NoPanic.then hN)))))) 4 93 5 3 1 g26 0 3 .i64 3 42 (by kernel_rfl) (by kernel_rfl) (by kernel_rfl) (by omega) (by omega) 3 (by first | (simp; done) | omega) hS104 ?_
    refine WD.load (NoPanic.then (NoPanic.block (NoPanic.then (NoPanic.then (NoPanic.block (NoPanic.then hN)))))) 2 3 (.pointer (some ⟨g15, 3, none⟩)) (.int .i64 a.dst) 40 (by kernel_rfl) (by kernel_rfl) (fun _ hS_ => run_ld (Fr.has hS_ (hC103.get 2 rfl) (by simp)) rfl) hS104 ?_
    refine WD.load (NoPanic.then (NoPanic.block (NoPanic.then (NoPanic.then (NoPanic.block (NoPanic.then hN)))))) 5 3 (.pointer (some ⟨g26, 3, none⟩)) (.int .i64 b.dst) 43 (by kernel_rfl) (by kernel_rfl) (fun _ hS_ => run_ld (Fr.has hS_ (hC103.get 3 rfl) (by simp)) rfl) hS104 ?_
    refine WD.pure (NoPanic.then (NoPanic.block (NoPanic.then (NoPanic.then (NoPanic.block (NoPanic.then hN)))))) 6 44 (.bool (a.dst != b.dst)) (by kernel_rfl) (fun _ => by kernel_rfl) hS104 ?_
    refine WD.done (by kernel_rfl) ?_
    refine QX.then_normal (hK100 _ _ ?_)
    refine WC.test_at 44 (a.dst != b.dst) rfl (fun t105b => ?_) (fun t105b => ?_)
    · -- a.dst ≠ b.dst: true
      have t105 : a.dst ≠ b.dst := by simpa using t105b
      refine WC.cond_true rfl ?_
      refine WC.seq (fun K106 hK107 => ?_)
      refine WC.drawC hC103 [] (by kernel_rfl) (fun w108 hF109 hC110 hS111 => ?_)
      refine WD.pure (NoPanic.then (NoPanic.block (NoPanic.then (NoPanic.then (NoPanic.block (NoPanic.then hN)))))) 0 45 (.int .i64 3) (by kernel_rfl) (fun _ => by kernel_rfl) hS111 ?_
      refine WD.indexP (NoPanic.then (NoPanic.block (NoPanic.then (NoPanic.then (NoPanic.block (NoPanic.then hN)))))) 1 93 5 3 1 g15 0 3 .i64 3 46 (by kernel_rfl) (by kernel_rfl) (by kernel_rfl) (by omega) (by omega) 3 (by first | (simp; done) | omega) hS111 ?_
      refine WD.pure (NoPanic.then (NoPanic.block (NoPanic.then (NoPanic.then (NoPanic.block (NoPanic.then hN)))))) 3 48 (.int .i64 3) (by kernel_rfl) (fun _ => by kernel_rfl) hS111 ?_
      refine WD.indexP (NoPanic.then (NoPanic.block (NoPanic.then (NoPanic.then (NoPanic.block (NoPanic.then hN)))))) 4 93 5 3 1 g26 0 3 .i64 3 49 (by kernel_rfl) (by kernel_rfl) (by kernel_rfl) (by omega) (by omega) 3 (by first | (simp; done) | omega) hS111 ?_
      refine WD.load (NoPanic.then (NoPanic.block (NoPanic.then (NoPanic.then (NoPanic.block (NoPanic.then hN)))))) 2 3 (.pointer (some ⟨g15, 3, none⟩)) (.int .i64 a.dst) 47 (by kernel_rfl) (by kernel_rfl) (fun _ hS_ => run_ld (Fr.has hS_ (hC110.get 2 rfl) (by simp)) rfl) hS111 ?_
      refine WD.load (NoPanic.then (NoPanic.block (NoPanic.then (NoPanic.then (NoPanic.block (NoPanic.then hN)))))) 5 3 (.pointer (some ⟨g26, 3, none⟩)) (.int .i64 b.dst) 50 (by kernel_rfl) (by kernel_rfl) (fun _ hS_ => run_ld (Fr.has hS_ (hC110.get 3 rfl) (by simp)) rfl) hS111 ?_
      refine WD.pure (NoPanic.then (NoPanic.block (NoPanic.then (NoPanic.then (NoPanic.block (NoPanic.then hN)))))) 6 51 (.bool (decide (a.dst < b.dst))) (by kernel_rfl) (fun _ => by kernel_rfl) hS111 ?_
      refine WD.pure (NoPanic.then (NoPanic.block (NoPanic.then (NoPanic.then (NoPanic.block (NoPanic.then hN)))))) 7 4 (.bool (decide (a.dst < b.dst))) (by kernel_rfl) (fun _ => by kernel_rfl) hS111 ?_
      refine WD.done (by kernel_rfl) ?_
      refine QX.then_normal (hK107 _ _ ?_)
      refine WC.ret ?_
      refine QX.block_ret ?_
      refine QX.then_ret ?_
      refine QX.then_ret ?_
      refine QX.block_ret ?_
      refine QX.then_ret ?_
      refine (hret _ _ _ rfl ?_).1
      clear hN hret hret' hK107 hK100 hK98 hK48 hK46 hK38 hK36 hK25 hK14 hK2
      refine ⟨congrArg (fun b_ => Ending.returned (Value.bool b_)) ?_, hC110.fr⟩
      unfold preLess at hpre
      rw [Bool.eq_iff_iff, lessF_iff, decide_eq_true_eq]
      omega
    · -- a.dst ≠ b.dst: false
      have t105 : a.dst = b.dst := by simpa using t105b
      refine WC.cond_false rfl ?_
      refine WC.skip ?_
      refine QX.block_normal ?_
      refine QX.then_normal (hK98 _ _ ?_)
      refine WC.region ?_
      refine WL.runs 2 [(37, .int .i64 (IntKind.i64.wrap (3 + 1))), (36, .int .i64 3)] (fun _ => by kernel_rfl) ?_
      refine WL.recast (show (.int .i64 (IntKind.i64.wrap (3 + 1)) : Value) = .int .i64 (3 + 1) from by rw [wrap_in_i64 (3 + 1) (by omega) (by omega)]) ?_
      refine WL.runs 1 [(7, .int .i64 (3 + 1))] (fun _ => by kernel_rfl) ?_
      refine WL.done rfl ?_
      refine QX.then_normal ?_
      have hC112 := hC103.pick [0, 1, 2, 3] [] rfl rfl
      refine fun a_ ha_ => hK40 _ _ _ ?_ ⟨4, rfl, rfl, hC112, by omega, by unfold preLess at *; omega⟩ a_ (ha_.weaken (sub_of ⟨rfl, rfl, rfl, rfl, rfl, trivial⟩))
      omega
  · skip
    refine WL.runs 1 [(34, .int .i64 4)] (fun _ => by kernel_rfl) ?_
    refine WL.runs 1 [(35, .bool true)] (fun _ => by kernel_rfl) ?_
    refine WL.done rfl ?_
    refine QX.then_normal (hK48 _ _ ?_)
    refine WC.cond_true rfl ?_
    refine WC.skip ?_
    refine QX.then_normal (hK46 _ _ ?_)
    refine WC.seq (fun K113 hK114 => ?_)
    refine WC.block ?_
    refine WC.seq (fun K115 hK116 => ?_)
    refine WC.drawC hC44 [] (by kernel_rfl) (fun w117 hF118 hC119 hS120 => ?_)
    refine WD.pure (NoPanic.then (NoPanic.block (NoPanic.then (NoPanic.then (NoPanic.block (NoPanic.then hN)))))) 0 38 (.int .i64 4) (by kernel_rfl) (fun _ => by kernel_rfl) hS120 ?_
    refine WD.indexP (NoPanic.then (NoPanic.block (NoPanic.then (NoPanic.then (NoPanic.block (NoPanic.then hN)))))) 1 93 5 3 1 g15 0 4 .i64 4 39 (by kernel_rfl) (by kernel_rfl) (by kernel_rfl) (by omega) (by omega) 4 (by first | (simp; done) | omega) hS120 ?_
    refine WD.pure (NoPanic.then (NoPanic.block (NoPanic.then (NoPanic.then (NoPanic.block (NoPanic.then hN)))))) 3 41 (.int .i64 4) (by kernel_rfl) (fun _ => by kernel_rfl) hS120 ?_
    refine WD.indexP (NoPanic.then (NoPanic.block (NoPanic.then (NoPanic.then (NoPanic.block (NoPanic.then hN)))))) 4 93 5 3 1 g26 0 4 .i64 4 42 (by kernel_rfl) (by kernel_rfl) (by kernel_rfl) (by omega) (by omega) 4 (by first | (simp; done) | omega) hS120 ?_
    refine WD.load (NoPanic.then (NoPanic.block (NoPanic.then (NoPanic.then (NoPanic.block (NoPanic.then hN)))))) 2 3 (.pointer (some ⟨g15, 4, none⟩)) (.int .i64 a.dport) 40 (by kernel_rfl) (by kernel_rfl) (fun _ hS_ => run_ld (Fr.has hS_ (hC119.get 2 rfl) (by simp)) rfl) hS120 ?_
    refine WD.load (NoPanic.then (NoPanic.block (NoPanic.then (NoPanic.then (NoPanic.block (NoPanic.then hN)))))) 5 3 (.pointer (some ⟨g26, 4, none⟩)) (.int .i64 b.dport) 43 (by kernel_rfl) (by kernel_rfl) (fun _ hS_ => run_ld (Fr.has hS_ (hC119.get 3 rfl) (by simp)) rfl) hS120 ?_
    refine WD.pure (NoPanic.then (NoPanic.block (NoPanic.then (NoPanic.then (NoPanic.block (NoPanic.then hN)))))) 6 44 (.bool (a.dport != b.dport)) (by kernel_rfl) (fun _ => by kernel_rfl) hS120 ?_
    refine WD.done (by kernel_rfl) ?_
    refine QX.then_normal (hK116 _ _ ?_)
    refine WC.test_at 44 (a.dport != b.dport) rfl (fun t121b => ?_) (fun t121b => ?_)
    · -- a.dport ≠ b.dport: true
      have t121 : a.dport ≠ b.dport := by simpa using t121b
      refine WC.cond_true rfl ?_
      refine WC.seq (fun K122 hK123 => ?_)
      refine WC.drawC hC119 [] (by kernel_rfl) (fun w124 hF125 hC126 hS127 => ?_)
      refine WD.pure (NoPanic.then (NoPanic.block (NoPanic.then (NoPanic.then (NoPanic.block (NoPanic.then hN)))))) 0 45 (.int .i64 4) (by kernel_rfl) (fun _ => by kernel_rfl) hS127 ?_
      refine WD.indexP (NoPanic.then (NoPanic.block (NoPanic.then (NoPanic.then (NoPanic.block (NoPanic.then hN)))))) 1 93 5 3 1 g15 0 4 .i64 4 46 (by kernel_rfl) (by kernel_rfl) (by kernel_rfl) (by omega) (by omega) 4 (by first | (simp; done) | omega) hS127 ?_
      refine WD.pure (NoPanic.then (NoPanic.block (NoPanic.then (NoPanic.then (NoPanic.block (NoPanic.then hN)))))) 3 48 (.int .i64 4) (by kernel_rfl) (fun _ => by kernel_rfl) hS127 ?_
      refine WD.indexP (NoPanic.then (NoPanic.block (NoPanic.then (NoPanic.then (NoPanic.block (NoPanic.then hN)))))) 4 93 5 3 1 g26 0 4 .i64 4 49 (by kernel_rfl) (by kernel_rfl) (by kernel_rfl) (by omega) (by omega) 4 (by first | (simp; done) | omega) hS127 ?_
      refine WD.load (NoPanic.then (NoPanic.block (NoPanic.then (NoPanic.then (NoPanic.block (NoPanic.then hN)))))) 2 3 (.pointer (some ⟨g15, 4, none⟩)) (.int .i64 a.dport) 47 (by kernel_rfl) (by kernel_rfl) (fun _ hS_ => run_ld (Fr.has hS_ (hC126.get 2 rfl) (by simp)) rfl) hS127 ?_
      refine WD.load (NoPanic.then (NoPanic.block (NoPanic.then (NoPanic.then (NoPanic.block (NoPanic.then hN)))))) 5 3 (.pointer (some ⟨g26, 4, none⟩)) (.int .i64 b.dport) 50 (by kernel_rfl) (by kernel_rfl) (fun _ hS_ => run_ld (Fr.has hS_ (hC126.get 3 rfl) (by simp)) rfl) hS127 ?_
      refine WD.pure (NoPanic.then (NoPanic.block (NoPanic.then (NoPanic.then (NoPanic.block (NoPanic.then hN)))))) 6 51 (.bool (decide (a.dport < b.dport))) (by kernel_rfl) (fun _ => by kernel_rfl) hS127 ?_
      refine WD.pure (NoPanic.then (NoPanic.block (NoPanic.then (NoPanic.then (NoPanic.block (NoPanic.then hN)))))) 7 4 (.bool (decide (a.dport < b.dport))) (by kernel_rfl) (fun _ => by kernel_rfl) hS127 ?_
      refine WD.done (by kernel_rfl) ?_
      refine QX.then_normal (hK123 _ _ ?_)
      refine WC.ret ?_
      refine QX.block_ret ?_
      refine QX.then_ret ?_
      refine QX.then_ret ?_
      refine QX.block_ret ?_
      refine QX.then_ret ?_
      refine (hret _ _ _ rfl ?_).1
      clear hN hret hret' hK123 hK116 hK114 hK48 hK46 hK38 hK36 hK25 hK14 hK2
      refine ⟨congrArg (fun b_ => Ending.returned (Value.bool b_)) ?_, hC126.fr⟩
      unfold preLess at hpre
      rw [Bool.eq_iff_iff, lessF_iff, decide_eq_true_eq]
      omega
    · -- a.dport ≠ b.dport: false
      have t121 : a.dport = b.dport := by simpa using t121b
      refine WC.cond_false rfl ?_
      refine WC.skip ?_
      refine QX.block_normal ?_
      refine QX.then_normal (hK114 _ _ ?_)
      refine WC.region ?_
      refine WL.runs 2 [(37, .int .i64 (IntKind.i64.wrap (4 + 1))), (36, .int .i64 4)] (fun _ => by kernel_rfl) ?_
      refine WL.recast (show (.int .i64 (IntKind.i64.wrap (4 + 1)) : Value) = .int .i64 (4 + 1) from by rw [wrap_in_i64 (4 + 1) (by omega) (by omega)]) ?_
      refine WL.runs 1 [(7, .int .i64 (4 + 1))] (fun _ => by kernel_rfl) ?_
      refine WL.done rfl ?_
      refine QX.then_normal ?_
      have hC128 := hC119.pick [0, 1, 2, 3] [] rfl rfl
      refine fun a_ ha_ => hK40 _ _ _ ?_ ⟨5, rfl, rfl, hC128, by omega, by unfold preLess at *; omega⟩ a_ (ha_.weaken (sub_of ⟨rfl, rfl, rfl, rfl, rfl, trivial⟩))
      omega
  · skip
    refine WL.runs 1 [(34, .int .i64 5)] (fun _ => by kernel_rfl) ?_
    refine WL.runs 1 [(35, .bool false)] (fun _ => by kernel_rfl) ?_
    refine WL.done rfl ?_
    refine QX.then_normal (hK48 _ _ ?_)
    refine WC.cond_false rfl ?_
    refine WC.exit ?_
    refine QX.then_exit ?_
    refine QX.then_exit ?_
    refine QX.block_hit ?_
    refine QX.then_normal (hK36 _ _ ?_)
    refine WC.seq (fun K129 hK130 => ?_)
    refine WC.region ?_
    refine WL.runs 1 [(4, .bool false)] (fun _ => by kernel_rfl) ?_
    refine WL.done rfl ?_
    refine QX.then_normal (hK130 _ _ ?_)
    refine WC.ret ?_
    refine (hret _ _ _ rfl ?_).1
    clear hN hret hret' hK130 hK48 hK46 hK38 hK36 hK25 hK14 hK2
    exact ⟨by rw [preLess_end hpre]; rfl, hC44.fr⟩

theorem RFind_ct (F : List Nat) (p : Nat) (L : List Ent) (tr un : Int) (f : Flow) (w : World) (ht : dfAt w F p L tr un) : Calls Try.prog 40 #[.pointer (some ⟨p, 0, none⟩), .agg #[.int .i64 f.proto, .int .u32 f.src, .int .i64 f.sport, .int .u32 f.dst, .int .i64 f.dport]] w fun e w' => ∃ r : Int, e = .returned (.int .i64 r) ∧ Fr w w' [] ∧ FindR L f r := by
  refine enterD (n := 26) Try.func40 rfl rfl (Nat.le_of_ble_eq_true rfl) ?_
  intro Q0 hN hret hret'
  have ht0 := ht
  obtain ⟨A1, c1, hp_, ho_, rfl, hn_⟩ := ht
  have hC := Cx.openR hp_ (own_lt ho_) hn_
  have hmx_ := own_max ho_
  refine WC.seq (fun K1 hK2 => ?_)
  refine WC.region ?_
  refine WL.newM hC (fun b => .pointer (some ⟨b, 0, none⟩)) (.cells #[.int .i64 f.proto, .int .u32 f.src, .int .i64 f.sport, .int .u32 f.dst, .int .i64 f.dport] 32) 3 (fun _ => by kernel_rfl) (fun g3 w4 hb7 hF5 hC6 => ?_)
  have ho8 := own_fr ho_ hF5 (by simp)
  have hf9 := (Fr.refl w []).trans hF5 (by simp)
  refine WL.runs 1 [(4, .int .i64 0)] (fun _ => by kernel_rfl) ?_
  refine WL.done rfl ?_
  refine QX.then_normal (hK2 _ _ ?_)
  refine WC.seq (fun K10 hK11 => ?_)
  refine WC.seq (fun K12 hK13 => ?_)
  refine WC.region ?_
  refine WL.runs 1 [(5, .int .i64 0)] (fun _ => by kernel_rfl) ?_
  refine WL.done rfl ?_
  refine QX.then_normal (hK13 _ _ ?_)
  refine WC.block ?_
  refine WC.loop (fun m_ E_ w_ => ∃ (i : Nat), m_ = L.length - i ∧ E_ = [(0, .pointer (some ⟨p, 0, none⟩)), (3, .pointer (some ⟨g3, 0, none⟩)), (5, .int .i64 (i : Int))] ∧ Cx w (p :: blk (.slice A1 L.length c1)) w_ [(p, .cells #[.slice A1 L.length c1, .int .i64 tr, .int .i64 un] 51), (g3, .cells #[.int .i64 f.proto, .int .u32 f.src, .int .i64 f.sport, .int .u32 f.dst, .int .i64 f.dport] 32)] [blk (.slice A1 L.length c1)] ∧ World.ownsRow w_ 0 34 10 (.slice A1 L.length c1) L.length (L.flatMap cellsE) ∧ Fr w w_ [] ∧ (i ≤ L.length ∧ ∀ y ∈ L.take i, y.flow ≠ f)) ⟨_, _, ⟨0, rfl, rfl, hC6, ho8, hf9, Nat.zero_le _, (fun _ h_ => by simp at h_)⟩, sub_of ⟨rfl, rfl, rfl, trivial⟩⟩ (fun m17 E_ w18 K14 hK15 hI16 => ?_)
  obtain ⟨i, rfl, rfl, hC19, row_m17, fr0_m17, hi, hall⟩ := hI16
  refine WC.seq (fun K20 hK21 => ?_)
  refine WC.seq (fun K22 hK23 => ?_)
  refine WC.region ?_
  refine WL.runs 4 [(9, .pointer (some ⟨p, 0, none⟩)), (8, .pointer (some ⟨p, 0, none⟩)), (7, .pointer (some ⟨p, 0, none⟩)), (6, .int .i64 (i : Int))] (fun _ => by kernel_rfl) ?_
  refine WL.load 44 (.pointer (some ⟨p, 0, none⟩)) (.slice A1 L.length c1) 10 (by kernel_rfl) (run_ld (hC19.get 0 rfl) rfl) ?_
  refine WL.runs 2 [(12, .bool (decide ((i : Int) < (L.length : Int)))), (11, .int .i64 (L.length : Int))] (fun _ => by kernel_rfl) ?_
  refine WL.done rfl ?_
  refine QX.then_normal (hK23 _ _ ?_)
  refine WC.test_at 12 (decide ((i : Int) < (L.length : Int))) rfl (fun t24b => ?_) (fun t24b => ?_)
  · -- (i : Int) < (L.length : Int): true
    have t24 : (i : Int) < (L.length : Int) := by have q_ := of_decide_eq_true t24b; omega
    refine WC.cond_true rfl ?_
    refine WC.skip ?_
    refine QX.then_normal (hK21 _ _ ?_)
    refine WC.seq (fun K25 hK26 => ?_)
    refine WC.block ?_
    refine WC.seq (fun K27 hK28 => ?_)
    refine WC.drawC hC19 [] (by kernel_rfl) (fun w29 hF30 hC31 hS32 => ?_)
    have ho33 := own_fr row_m17 hF30 (by simp)
    have hf34 := fr0_m17.trans hF30 (by simp)
    refine WD.pure (NoPanic.then (NoPanic.block (NoPanic.then (NoPanic.then (NoPanic.block (NoPanic.then hN)))))) 0 15 (.pointer (some ⟨p, 0, none⟩)) (by kernel_rfl) (fun _ => by kernel_rfl) hS32 ?_
    refine WD.pure (NoPanic.then (NoPanic.block (NoPanic.then (NoPanic.then (NoPanic.block (NoPanic.then hN)))))) 1 16 (.pointer (some ⟨p, 0, none⟩)) (by kernel_rfl) (fun _ => by kernel_rfl) hS32 ?_
    refine WD.pure (NoPanic.then (NoPanic.block (NoPanic.then (NoPanic.then (NoPanic.block (NoPanic.then hN)))))) 2 17 (.pointer (some ⟨p, 0, none⟩)) (by kernel_rfl) (fun _ => by kernel_rfl) hS32 ?_
    refine WD.pure (NoPanic.then (NoPanic.block (NoPanic.then (NoPanic.then (NoPanic.block (NoPanic.then hN)))))) 4 19 (.int .i64 (i : Int)) (by kernel_rfl) (fun _ => by kernel_rfl) hS32 ?_
    refine WD.load (NoPanic.then (NoPanic.block (NoPanic.then (NoPanic.then (NoPanic.block (NoPanic.then hN)))))) 3 44 (.pointer (some ⟨p, 0, none⟩)) (.slice A1 L.length c1) 18 (by kernel_rfl) (by kernel_rfl) (fun _ hS_ => run_ld (Fr.has hS_ (hC31.get 0 rfl) (by simp)) rfl) hS32 ?_
    have hn39 := own_count cellsE_len (by decide) ho33
    obtain ⟨e35, he36⟩ := get_some (xs := L) (i := i) (by omega)
    obtain ⟨b37, hA38⟩ := own_addr (by decide) cellsE_len ho33 he36
    refine WD.index (NoPanic.then (NoPanic.block (NoPanic.then (NoPanic.then (NoPanic.block (NoPanic.then hN)))))) 5 A1 L.length c1 20 .i64 (i : Int) b37 0 i 10 (by kernel_rfl) (by kernel_rfl) hA38 (by omega) (by omega) (i * 10) (by first | (simp; done) | omega) hS32 ?_
    refine WD.pure (NoPanic.then (NoPanic.block (NoPanic.then (NoPanic.then (NoPanic.block (NoPanic.then hN)))))) 6 21 (.pointer (some ⟨b37, i * 10, none⟩)) (by kernel_rfl) (fun _ => by kernel_rfl) hS32 ?_
    refine WD.load (NoPanic.then (NoPanic.block (NoPanic.then (NoPanic.then (NoPanic.block (NoPanic.then hN)))))) 7 32 (.pointer (some ⟨b37, i * 10, none⟩)) (.agg #[.int .i64 e35.flow.proto, .int .u32 e35.flow.src, .int .i64 e35.flow.sport, .int .u32 e35.flow.dst, .int .i64 e35.flow.dport]) 22 (by kernel_rfl) (by kernel_rfl) (fun _ hS_ => run_rdN (l := [.int .i64 e35.flow.proto, .int .u32 e35.flow.src, .int .i64 e35.flow.sport, .int .u32 e35.flow.dst, .int .i64 e35.flow.dport]) rfl rfl (fun j u hu => by have hq_ := Rd.cell (own_rd (own_fr ho33 hS_ (by simp)) cellsE_len (by decide)) hA38 he36 j u (pre_get 5 rfl hu); simpa [Nat.add_assoc] using hq_)) hS32 ?_
    refine WD.load (NoPanic.then (NoPanic.block (NoPanic.then (NoPanic.then (NoPanic.block (NoPanic.then hN)))))) 8 32 (.pointer (some ⟨g3, 0, none⟩)) (.agg #[.int .i64 f.proto, .int .u32 f.src, .int .i64 f.sport, .int .u32 f.dst, .int .i64 f.dport]) 23 (by kernel_rfl) (by kernel_rfl) (fun _ hS_ => run_ld (Fr.has hS_ (hC31.get 1 rfl) (by simp)) rfl) hS32 ?_
    have hr40 : ∀ w_, Sem.run Try.prog (do eqGuard .eql 32 (Operand.tmp 22) (Operand.tmp 23) (.agg #[.int .i64 e35.flow.proto, .int .u32 e35.flow.src, .int .i64 e35.flow.sport, .int .u32 e35.flow.dst, .int .i64 e35.flow.dport]) (.agg #[.int .i64 f.proto, .int .u32 f.src, .int .i64 f.sport, .int .u32 f.dst, .int .i64 f.dport]); binOp .eql 32 (.agg #[.int .i64 e35.flow.proto, .int .u32 e35.flow.src, .int .i64 e35.flow.sport, .int .u32 e35.flow.dst, .int .i64 e35.flow.dport]) (.agg #[.int .i64 f.proto, .int .u32 f.src, .int .i64 f.sport, .int .u32 f.dst, .int .i64 f.dport])) w_ = .ok (.bool (e35.flow.proto == f.proto && (e35.flow.src == f.src && (e35.flow.sport == f.sport && (e35.flow.dst == f.dst && (e35.flow.dport == f.dport && true)))))) w_ := fun w_ => (run_eql_S (by kernel_rfl))
    refine WD.semP (NoPanic.then (NoPanic.block (NoPanic.then (NoPanic.then (NoPanic.block (NoPanic.then hN)))))) 9 (do eqGuard .eql 32 (Operand.tmp 22) (Operand.tmp 23) (.agg #[.int .i64 e35.flow.proto, .int .u32 e35.flow.src, .int .i64 e35.flow.sport, .int .u32 e35.flow.dst, .int .i64 e35.flow.dport]) (.agg #[.int .i64 f.proto, .int .u32 f.src, .int .i64 f.sport, .int .u32 f.dst, .int .i64 f.dport]); binOp .eql 32 (.agg #[.int .i64 e35.flow.proto, .int .u32 e35.flow.src, .int .i64 e35.flow.sport, .int .u32 e35.flow.dst, .int .i64 e35.flow.dport]) (.agg #[.int .i64 f.proto, .int .u32 f.src, .int .i64 f.sport, .int .u32 f.dst, .int .i64 f.dport])) 24 (.bool (e35.flow.proto == f.proto && (e35.flow.src == f.src && (e35.flow.sport == f.sport && (e35.flow.dst == f.dst && (e35.flow.dport == f.dport && true)))))) (by kernel_rfl) (by kernel_rfl) (fun _ _ => hr40 _) hS32 ?_
    refine WD.done (by kernel_rfl) ?_
    refine QX.then_normal (hK28 _ _ ?_)
    refine WC.test_at 24 ((e35.flow.proto == f.proto && (e35.flow.src == f.src && (e35.flow.sport == f.sport && (e35.flow.dst == f.dst && (e35.flow.dport == f.dport && true)))))) rfl (fun t41b => ?_) (fun t41b => ?_)
    · -- (e35.flow.proto == f.proto && (e35.flow.src == f.src && (e35.flow.sport == f.sport && (e35.flow.dst == f.dst && (e35.flow.dport == f.dport && true))))) = true: true
      refine WC.cond_true rfl ?_
      refine WC.seq (fun K42 hK43 => ?_)
      refine WC.region ?_
      refine WL.runs 2 [(4, .int .i64 (i : Int)), (25, .int .i64 (i : Int))] (fun _ => by kernel_rfl) ?_
      refine WL.done rfl ?_
      refine QX.then_normal (hK43 _ _ ?_)
      refine WC.ret ?_
      refine QX.block_ret ?_
      refine QX.then_ret ?_
      refine QX.then_ret ?_
      refine QX.block_ret ?_
      refine QX.then_ret ?_
      refine (hret _ _ _ rfl ?_).1
      clear hN hret hret' hK43 hK28 hK26 hK23 hK21 hK13 hK11 hK2
      exact ⟨_, rfl, hf34, .some i _ he36 (flow_eq.2 (by simpa using t41b)) hall⟩
    · -- (e35.flow.proto == f.proto && (e35.flow.src == f.src && (e35.flow.sport == f.sport && (e35.flow.dst == f.dst && (e35.flow.dport == f.dport && true))))) = true: false
      refine WC.cond_false rfl ?_
      refine WC.skip ?_
      refine QX.block_normal ?_
      refine QX.then_normal (hK26 _ _ ?_)
      refine WC.region ?_
      refine WL.runs 2 [(14, .int .i64 (IntKind.i64.wrap ((i : Int) + 1))), (13, .int .i64 (i : Int))] (fun _ => by kernel_rfl) ?_
      refine WL.recast (show (.int .i64 (IntKind.i64.wrap ((i : Int) + 1)) : Value) = .int .i64 ((i : Int) + 1) from by rw [wrap_in_i64 ((i : Int) + 1) (by omega) (by omega)]) ?_
      refine WL.runs 1 [(5, .int .i64 ((i : Int) + 1))] (fun _ => by kernel_rfl) ?_
      refine WL.done rfl ?_
      refine QX.then_normal ?_
      have hC44 := hC31.pick [0, 1] [0] rfl rfl
      refine fun a_ ha_ => hK15 _ _ _ ?_ ⟨i + 1, rfl, rfl, hC44, ho33, hf34, by omega, ne_snoc hall he36 (fun e_ => by have q_ := t41b; rw [e_] at q_; simp at q_)⟩ a_ (ha_.weaken (sub_of ⟨rfl, rfl, rfl, trivial⟩))
      omega
  · -- (i : Int) < (L.length : Int): false
    have t24 : (L.length : Int) ≤ (i : Int) := by have q_ := of_decide_eq_false t24b; omega
    refine WC.cond_false rfl ?_
    refine WC.exit ?_
    refine QX.then_exit ?_
    refine QX.then_exit ?_
    refine QX.block_hit ?_
    refine QX.then_normal (hK11 _ _ ?_)
    refine WC.seq (fun K45 hK46 => ?_)
    refine WC.region ?_
    refine WL.runs 1 [(4, .int .i64 (-1))] (fun _ => by kernel_rfl) ?_
    refine WL.done rfl ?_
    refine QX.then_normal (hK46 _ _ ?_)
    refine WC.ret ?_
    refine (hret _ _ _ rfl ?_).1
    clear hN hret hret' hK46 hK23 hK21 hK13 hK11 hK2
    rw [take_all_of (by omega)] at hall
    exact ⟨-1, rfl, fr0_m17, .none hall⟩

theorem RLen_ct (F : List Nat) (p : Nat) (L : List Ent) (tr un : Int)  (w : World) (ht : dfAt w F p L tr un) : Calls Try.prog 28 #[.pointer (some ⟨p, 0, none⟩)] w fun e w' => e = .returned (.tuple #[.int .i64 (cntE L : Int), .int .i64 ((L.length : Int) - cntE L)]) ∧ Fr w w' [] := by
  refine enterD (n := 33) Try.func28 rfl rfl (Nat.le_of_ble_eq_true rfl) ?_
  intro Q0 hN hret hret'
  have ht0 := ht
  obtain ⟨A1, c1, hp_, ho_, rfl, hn_⟩ := ht
  have hC := Cx.openR hp_ (own_lt ho_) hn_
  have hmx_ := own_max ho_
  refine WC.seq (fun K1 hK2 => ?_)
  refine WC.region ?_
  refine WL.runs 2 [(3, .int .i64 0), (2, .int .i64 0)] (fun _ => by kernel_rfl) ?_
  refine WL.done rfl ?_
  refine QX.then_normal (hK2 _ _ ?_)
  refine WC.seq (fun K3 hK4 => ?_)
  refine WC.region ?_
  refine WL.runs 1 [(4, .int .i64 0)] (fun _ => by kernel_rfl) ?_
  refine WL.done rfl ?_
  refine QX.then_normal (hK4 _ _ ?_)
  refine WC.seq (fun K5 hK6 => ?_)
  refine WC.seq (fun K7 hK8 => ?_)
  refine WC.region ?_
  refine WL.runs 1 [(5, .int .i64 0)] (fun _ => by kernel_rfl) ?_
  refine WL.done rfl ?_
  refine QX.then_normal (hK8 _ _ ?_)
  refine WC.block ?_
  refine WC.loop (fun m_ E_ w_ => ∃ (i n : Nat), m_ = L.length - i ∧ E_ = [(0, .pointer (some ⟨p, 0, none⟩)), (2, .int .i64 0), (3, .int .i64 0), (4, .int .i64 (n : Int)), (5, .int .i64 (i : Int))] ∧ Cx w (p :: blk (.slice A1 L.length c1)) w_ [(p, .cells #[.slice A1 L.length c1, .int .i64 tr, .int .i64 un] 51)] [blk (.slice A1 L.length c1)] ∧ World.ownsRow w_ 0 34 10 (.slice A1 L.length c1) L.length (L.flatMap cellsE) ∧ Fr w w_ [] ∧ (i ≤ L.length ∧ n = cntE (L.take i))) ⟨_, _, ⟨0, 0, rfl, rfl, hC, ho_, (Fr.refl w []), Nat.zero_le _, rfl⟩, sub_of ⟨rfl, rfl, rfl, rfl, rfl, trivial⟩⟩ (fun m12 E_ w13 K9 hK10 hI11 => ?_)
  obtain ⟨i, n, rfl, rfl, hC14, row_m12, fr0_m12, hi, hn⟩ := hI11
  have hcl_ := cntE_le (L.take i)
  rw [List.length_take] at hcl_
  refine WC.seq (fun K15 hK16 => ?_)
  refine WC.seq (fun K17 hK18 => ?_)
  refine WC.region ?_
  refine WL.runs 4 [(9, .pointer (some ⟨p, 0, none⟩)), (8, .pointer (some ⟨p, 0, none⟩)), (7, .pointer (some ⟨p, 0, none⟩)), (6, .int .i64 (i : Int))] (fun _ => by kernel_rfl) ?_
  refine WL.load 44 (.pointer (some ⟨p, 0, none⟩)) (.slice A1 L.length c1) 10 (by kernel_rfl) (run_ld (hC14.get 0 rfl) rfl) ?_
  refine WL.runs 2 [(12, .bool (decide ((i : Int) < (L.length : Int)))), (11, .int .i64 (L.length : Int))] (fun _ => by kernel_rfl) ?_
  refine WL.done rfl ?_
  refine QX.then_normal (hK18 _ _ ?_)
  refine WC.test_at 12 (decide ((i : Int) < (L.length : Int))) rfl (fun t19b => ?_) (fun t19b => ?_)
  · -- (i : Int) < (L.length : Int): true
    have t19 : (i : Int) < (L.length : Int) := by have q_ := of_decide_eq_true t19b; omega
    refine WC.cond_true rfl ?_
    refine WC.skip ?_
    refine QX.then_normal (hK16 _ _ ?_)
    refine WC.seq (fun K20 hK21 => ?_)
    refine WC.block ?_
    refine WC.seq (fun K22 hK23 => ?_)
    refine WC.region ?_
    refine WL.runs 3 [(17, .pointer (some ⟨p, 0, none⟩)), (16, .pointer (some ⟨p, 0, none⟩)), (15, .pointer (some ⟨p, 0, none⟩))] (fun _ => by kernel_rfl) ?_
    refine WL.load 44 (.pointer (some ⟨p, 0, none⟩)) (.slice A1 L.length c1) 18 (by kernel_rfl) (run_ld (hC14.get 0 rfl) rfl) ?_
    refine WL.runs 1 [(19, .int .i64 (i : Int))] (fun _ => by kernel_rfl) ?_
    have hn28 := own_count cellsE_len (by decide) row_m12
    obtain ⟨e24, he25⟩ := get_some (xs := L) (i := i) (by omega)
    obtain ⟨b26, hA27⟩ := own_addr (by decide) cellsE_len row_m12 he25
    refine WL.index A1 L.length c1 20 .i64 (i : Int) b26 0 i 10 (by kernel_rfl) hA27 (by omega) (by omega) (i * 10) (by first | (simp; done) | omega) ?_
    refine WL.runs 1 [(21, .pointer (some ⟨b26, i * 10 + 7, none⟩))] (fun _ => by kernel_rfl) ?_
    refine WL.load 4 (.pointer (some ⟨b26, i * 10 + 7, none⟩)) (.bool e24.trusted) 22 (by kernel_rfl) (run_load1 rfl (by simpa [Nat.add_assoc] using Rd.cell (own_rd row_m12 cellsE_len (by decide)) hA27 he25 7 _ rfl)) ?_
    refine WL.done rfl ?_
    refine QX.then_normal (hK23 _ _ ?_)
    refine WC.test_at 22 (e24.trusted) rfl (fun t29b => ?_) (fun t29b => ?_)
    · -- e24.trusted = true: true
      refine WC.cond_true rfl ?_
      refine WC.region ?_
      refine WL.runs 2 [(24, .int .i64 (IntKind.i64.wrap ((n : Int) + 1))), (23, .int .i64 (n : Int))] (fun _ => by kernel_rfl) ?_
      refine WL.recast (show (.int .i64 (IntKind.i64.wrap ((n : Int) + 1)) : Value) = .int .i64 ((n : Int) + 1) from by rw [wrap_in_i64 ((n : Int) + 1) (by omega) (by omega)]) ?_
      refine WL.runs 1 [(4, .int .i64 ((n : Int) + 1))] (fun _ => by kernel_rfl) ?_
      refine WL.done rfl ?_
      refine QX.block_normal ?_
      refine QX.then_normal (hK21 _ _ ?_)
      refine WC.region ?_
      refine WL.runs 2 [(14, .int .i64 (IntKind.i64.wrap ((i : Int) + 1))), (13, .int .i64 (i : Int))] (fun _ => by kernel_rfl) ?_
      refine WL.recast (show (.int .i64 (IntKind.i64.wrap ((i : Int) + 1)) : Value) = .int .i64 ((i : Int) + 1) from by rw [wrap_in_i64 ((i : Int) + 1) (by omega) (by omega)]) ?_
      refine WL.runs 1 [(5, .int .i64 ((i : Int) + 1))] (fun _ => by kernel_rfl) ?_
      refine WL.done rfl ?_
      refine QX.then_normal ?_
      have hC30 := hC14.pick [0] [0] rfl rfl
      refine fun a_ ha_ => hK10 _ _ _ ?_ ⟨i + 1, n + 1, rfl, rfl, hC30, row_m12, fr0_m12, by omega, by rw [cntE_snoc he25, if_pos t29b]; omega⟩ a_ (ha_.weaken (sub_of ⟨rfl, rfl, rfl, rfl, rfl, trivial⟩))
      omega
    · -- e24.trusted = true: false
      refine WC.cond_false rfl ?_
      refine WC.skip ?_
      refine QX.block_normal ?_
      refine QX.then_normal (hK21 _ _ ?_)
      refine WC.region ?_
      refine WL.runs 2 [(14, .int .i64 (IntKind.i64.wrap ((i : Int) + 1))), (13, .int .i64 (i : Int))] (fun _ => by kernel_rfl) ?_
      refine WL.recast (show (.int .i64 (IntKind.i64.wrap ((i : Int) + 1)) : Value) = .int .i64 ((i : Int) + 1) from by rw [wrap_in_i64 ((i : Int) + 1) (by omega) (by omega)]) ?_
      refine WL.runs 1 [(5, .int .i64 ((i : Int) + 1))] (fun _ => by kernel_rfl) ?_
      refine WL.done rfl ?_
      refine QX.then_normal ?_
      have hC31 := hC14.pick [0] [0] rfl rfl
      refine fun a_ ha_ => hK10 _ _ _ ?_ ⟨i + 1, n, rfl, rfl, hC31, row_m12, fr0_m12, by omega, by rw [cntE_snoc he25, if_neg (by rw [t29b]; decide)]; omega⟩ a_ (ha_.weaken (sub_of ⟨rfl, rfl, rfl, rfl, rfl, trivial⟩))
      omega
  · -- (i : Int) < (L.length : Int): false
    have t19 : (L.length : Int) ≤ (i : Int) := by have q_ := of_decide_eq_false t19b; omega
    refine WC.cond_false rfl ?_
    refine WC.exit ?_
    refine QX.then_exit ?_
    refine QX.then_exit ?_
    refine QX.block_hit ?_
    refine QX.then_normal (hK6 _ _ ?_)
    refine WC.seq (fun K32 hK33 => ?_)
    refine WC.drawC hC14 [] (by kernel_rfl) (fun w34 hF35 hC36 hS37 => ?_)
    have ho38 := own_fr row_m12 hF35 (by simp)
    have hf39 := fr0_m12.trans hF35 (by simp)
    refine WD.pure (NoPanic.then hN) 0 25 (.int .i64 (n : Int)) (by kernel_rfl) (fun _ => by kernel_rfl) hS37 ?_
    refine WD.pure (NoPanic.then hN) 1 26 (.pointer (some ⟨p, 0, none⟩)) (by kernel_rfl) (fun _ => by kernel_rfl) hS37 ?_
    refine WD.pure (NoPanic.then hN) 2 27 (.pointer (some ⟨p, 0, none⟩)) (by kernel_rfl) (fun _ => by kernel_rfl) hS37 ?_
    refine WD.pure (NoPanic.then hN) 3 28 (.pointer (some ⟨p, 0, none⟩)) (by kernel_rfl) (fun _ => by kernel_rfl) hS37 ?_
    refine WD.pure (NoPanic.then hN) 6 31 (.int .i64 (n : Int)) (by kernel_rfl) (fun _ => by kernel_rfl) hS37 ?_
    refine WD.pure (NoPanic.then hN) 8 2 (.int .i64 (n : Int)) (by kernel_rfl) (fun _ => by kernel_rfl) hS37 ?_
    refine WD.load (NoPanic.then hN) 4 44 (.pointer (some ⟨p, 0, none⟩)) (.slice A1 L.length c1) 29 (by kernel_rfl) (by kernel_rfl) (fun _ hS_ => run_ld (Fr.has hS_ (hC36.get 0 rfl) (by simp)) rfl) hS37 ?_
    refine WD.pure (NoPanic.then hN) 5 30 (.int .i64 (L.length : Int)) (by kernel_rfl) (fun _ => by kernel_rfl) hS37 ?_
    refine WD.pure (NoPanic.then hN) 7 32 (.int .i64 (IntKind.i64.wrap ((L.length : Int) - (n : Int)))) (by kernel_rfl) (fun _ => by kernel_rfl) hS37 ?_
    refine WD.recast (show (.int .i64 (IntKind.i64.wrap ((L.length : Int) - (n : Int))) : Value) = .int .i64 ((L.length : Int) - (n : Int)) from by rw [wrap_in_i64 ((L.length : Int) - (n : Int)) (by omega) (by omega)]) ?_
    refine WD.pure (NoPanic.then hN) 9 3 (.int .i64 ((L.length : Int) - (n : Int))) (by kernel_rfl) (fun _ => by kernel_rfl) hS37 ?_
    refine WD.done (by kernel_rfl) ?_
    refine QX.then_normal (hK33 _ _ ?_)
    refine WC.ret ?_
    refine (hret _ _ _ rfl ?_).1
    clear hN hret hret' hK33 hK18 hK16 hK8 hK6 hK4 hK2
    rw [take_all_of (by omega)] at hn
    subst hn
    exact ⟨rfl, hf39⟩

theorem RCut_ct (F : List Nat) (p : Nat) (L : List Ent) (tr un : Int) (i : Nat) (w : World) (ht : dfAt w F p L tr un) (hi : i < L.length) (hlm : L.length ≤ 1000000) : Calls Try.prog 41 #[.pointer (some ⟨p, 0, none⟩), .int .i64 (i : Int)] w fun e w' => ∃ F2, e = .returned (.tuple #[]) ∧ Fr w w' F ∧ dfAt w' F2 p (L.eraseIdx i) tr un ∧ ∀ x ∈ F2, x ∈ F ∨ w.heap.size ≤ x := by
  refine enterD (n := 23) Try.func41 rfl rfl (Nat.le_of_ble_eq_true rfl) ?_
  intro Q0 hN hret hret'
  have ht0 := ht
  obtain ⟨A1, c1, hp_, ho_, rfl, hn_⟩ := ht
  have hC := Cx.openR hp_ (own_lt ho_) hn_
  have hmx_ := own_max ho_
  refine WC.drawC hC [p] (by kernel_rfl) (fun w1 hF2 hC3 hS4 => ?_)
  have ho5 := own_fr ho_ hF2 (by simp)
  have hf6 := (Fr.refl w []).trans hF2 (by simp)
  refine WD.pure hN 0 4 (.pointer (some ⟨p, 0, none⟩)) (by kernel_rfl) (fun _ => by kernel_rfl) hS4 ?_
  refine WD.pure hN 2 6 (.pointer (some ⟨p, 0, none⟩)) (by kernel_rfl) (fun _ => by kernel_rfl) hS4 ?_
  refine WD.pure hN 3 7 (.pointer (some ⟨p, 0, none⟩)) (by kernel_rfl) (fun _ => by kernel_rfl) hS4 ?_
  refine WD.pure hN 4 8 (.pointer (some ⟨p, 0, none⟩)) (by kernel_rfl) (fun _ => by kernel_rfl) hS4 ?_
  refine WD.pure hN 6 10 (.int .i64 (i : Int)) (by kernel_rfl) (fun _ => by kernel_rfl) hS4 ?_
  refine WD.pure hN 9 13 (.pointer (some ⟨p, 0, none⟩)) (by kernel_rfl) (fun _ => by kernel_rfl) hS4 ?_
  refine WD.pure hN 10 14 (.pointer (some ⟨p, 0, none⟩)) (by kernel_rfl) (fun _ => by kernel_rfl) hS4 ?_
  refine WD.pure hN 11 15 (.pointer (some ⟨p, 0, none⟩)) (by kernel_rfl) (fun _ => by kernel_rfl) hS4 ?_
  refine WD.pure hN 13 17 (.int .i64 (i : Int)) (by kernel_rfl) (fun _ => by kernel_rfl) hS4 ?_
  refine WD.pure hN 14 18 (.int .i64 (IntKind.i64.wrap ((i : Int) + 1))) (by kernel_rfl) (fun _ => by kernel_rfl) hS4 ?_
  refine WD.recast (show (.int .i64 (IntKind.i64.wrap ((i : Int) + 1)) : Value) = .int .i64 ((i : Int) + 1) from by rw [wrap_in_i64 ((i : Int) + 1) (by omega) (by omega)]) ?_
  refine WD.all3 1 5 12 (by kernel_rfl) ?_ ?_ ?_
  · -- operation 1 comes first
    refine WO.new 1 (fun b => .slice (some ⟨b, 0, none⟩) 0 0) (.cells #[] 34) (by kernel_rfl) rfl rfl rfl rfl rfl (fun _ => by kernel_rfl) (fun g7 w8 hb11 hl12 hF9 ho13 => ?_)
    have hC10 := hC3.callB hF9 hb11 ho13
    have hS14 := hS4.trans hF9 (by simp)
    refine ⟨hS14, ?_⟩
    have ho15 := own_fr ho5 hF9 (by simp)
    have hf16 := hf6.trans hF9 (by simp)
    refine WD.all2 5 12 (by kernel_rfl) ?_ ?_
    · -- operation 5 comes first
      refine WO.sem 5 (Instr.loadAt 44 (.pointer (some ⟨p, 0, none⟩))) 9 (.slice A1 L.length c1) (by kernel_rfl) (by kernel_rfl) (run_ld (hC10.get 0 rfl) rfl) hS14 ?_
      have hle_ := own_le ho15
      have hb17 : i ≤ c1 := by omega
      refine WD.slc hN 7 44 34 10 A1 A1 L.length c1 0 i i c1 none (some (.int .i64 (i : Int))) 11 (by kernel_rfl) (by kernel_rfl) (by kernel_rfl) bnd.no (bnd.yes (by omega)) (by omega) hb17 (slcAt_pre _ _ _) (by first | rfl | omega) (by first | rfl | omega) hS14 ?_
      have ho18 := own_takeE (m := i) cellsE_len ho15 (by omega)
      refine WD.all2 8 12 (by kernel_rfl) ?_ ?_
      · -- operation 8 comes first
        have ho21 : World.ownsRow w8 0 34 10 (.slice (some ⟨g7, 0, none⟩) 0 0) 0 [] := own_of_blk (Nat.zero_le _) (hC10.get 1 rfl) (Nat.le_refl _) (Nat.zero_le _) (by simp) rfl
        have hC20 := hC10.toF 1 rfl
        obtain ⟨v23, w24, hr25, ho26, hF27, hC28, hnil29, hsub30⟩ := app_run Try.prog hC20 1 (v := .slice (some ⟨g7, 0, none⟩) 0 0) rfl 44 44 34 10 72 0 i c1 A1 rfl ho21 ((L.take i).flatMap cellsE) (flat_len_n cellsE_len (own_count cellsE_len (by decide) ho18)) (Rd.src_n (own_rd ho18 cellsE_len (by decide)) cellsE_len (by decide) (own_count cellsE_len (by decide) ho18)) (flat_one cellsE_one _) (by simp only [maxLen]; omega) (by omega)
        have ho34 := own_app (enc := cellsE) (ys := []) (zs := L.take i) ho26
        obtain ⟨A31, c32, rfl, hle33⟩ := own_form ho34
        have hge35 : ∀ x_ ∈ blk (.slice (some ⟨g7, 0, none⟩) 0 0), w1.heap.size ≤ x_ := by first | (simp [blk, Value.ownBlock, *]; done) | (intro x_ hx_; simp [blk, Value.ownBlock] at hx_; omega)
        have hge36 : ∀ x_ ∈ blk (.slice A31 (0 + i) c32), w1.heap.size ≤ x_ := fun x_ hx_ => (hsub30 x_ hx_).elim (hge35 x_) (fun h_ => Nat.le_trans hS14.size h_)
        have hS37 := hS14.trans hF27 (fun x_ hx_ => .inr (hge35 x_ hx_))
        refine WO.sem 8 (Builtin.append_ #[44, 44] 44 #[.slice (some ⟨g7, 0, none⟩) 0 0, .slice A1 i c1]) 12 (.slice A31 (0 + i) c32) (by kernel_rfl) (by kernel_rfl) hr25 hS37 ?_
        have ho38 := own_fr ho15 hF27 (hC20.disj 0 1 rfl rfl (by decide))
        have ho39 := own_fr ho18 hF27 (blk_al (n1 := L.length) (c1 := c1) (hC20.disj 0 1 rfl rfl (by decide)))
        refine WD.sem 12 (Instr.loadAt 44 (.pointer (some ⟨p, 0, none⟩))) 16 (.slice A1 L.length c1) (by kernel_rfl) (by kernel_rfl) (run_ld (hC28.get 0 rfl) rfl) hS37 ?_
        obtain ⟨A40, hA41⟩ : ∃ A_, slcAt A1 (i + 1) c1 10 = A_ := ⟨_, rfl⟩
        have hle_ := own_le ho38
        have hb42 : L.length ≤ c1 := by omega
        refine WD.slc hN 15 44 34 10 A1 A40 L.length c1 (i + 1) L.length (L.length - (i + 1)) (c1 - (i + 1)) (some (.int .i64 ((i : Int) + 1))) none 19 (by kernel_rfl) (by kernel_rfl) (by kernel_rfl) (bnd.yes (by omega)) bnd.no (by omega) hb42 hA41 (by first | rfl | omega) (by first | rfl | omega) hS37 ?_
        obtain ⟨v43, w44, hr45, ho46, hF47, hC48, hnil49, hsub50⟩ := app_run Try.prog hC28 1 (v := .slice A31 (0 + i) c32) rfl 44 44 34 10 72 (0 + i) (L.length - (i + 1)) (c1 - (i + 1)) A40 rfl ho34 (((L.take L.length).drop (i + 1)).flatMap cellsE) (flat_len_n cellsE_len (by have h_ := own_count cellsE_len (by decide) ho38; simp only [List.length_drop, List.length_take]; omega)) (Rd.src_n (Rd.slc (own_rd ho38 cellsE_len (by decide)) (i + 1) L.length c1 hb42 hA41) cellsE_len (by decide) (by have h_ := own_count cellsE_len (by decide) ho38; simp only [List.length_drop, List.length_take]; omega)) (flat_one cellsE_one _) (by simp only [maxLen]; omega) (by omega)
        have ho54 := own_app (enc := cellsE) (ys := [] ++ (L.take i)) (zs := (L.take L.length).drop (i + 1)) ho46
        obtain ⟨A51, c52, rfl, hle53⟩ := own_form ho54
        have hge55 : ∀ x_ ∈ blk (.slice A51 (0 + i + (L.length - (i + 1))) c52), w1.heap.size ≤ x_ := fun x_ hx_ => (hsub50 x_ hx_).elim (hge36 x_) (fun h_ => Nat.le_trans hS37.size h_)
        have hS56 := hS37.trans hF47 (fun x_ hx_ => .inr (hge36 x_ hx_))
        refine WD.sem 16 (Builtin.append_ #[44, 44] 44 #[.slice A31 (0 + i) c32, .slice A40 (L.length - (i + 1)) (c1 - (i + 1))]) 20 (.slice A51 (0 + i + (L.length - (i + 1))) c52) (by kernel_rfl) (by kernel_rfl) hr45 hS56 ?_
        have ho57 := own_fr ho38 hF47 (hC28.disj 0 1 rfl rfl (by decide))
        have ho58 := own_fr ho39 hF47 (blk_al (n1 := L.length) (c1 := c1) (hC28.disj 0 1 rfl rfl (by decide)))
        refine WD.pure hN 17 21 (.pointer (some ⟨p, 0, none⟩)) (by kernel_rfl) (fun _ => by kernel_rfl) hS56 ?_
        refine WD.pure hN 18 22 (.pointer (some ⟨p, 0, none⟩)) (by kernel_rfl) (fun _ => by kernel_rfl) hS56 ?_
        obtain ⟨w59, hr60, hF61, hC62⟩ := sto_run (c' := #[.slice A51 (0 + i + (L.length - (i + 1))) c52, .int .i64 tr, .int .i64 un]) Try.prog hC48 0 44 p 0 (.slice A51 (0 + i + (L.length - (i + 1))) c52) rfl (by kernel_rfl)
        have hS63 := hS56.trans hF61 (by first | (simp; done) | (simp [*]; done) | (have q_ := hS56.size; simp; omega))
        refine WD.semU 19 (Instr.storeAt 44 (.pointer (some ⟨p, 0, none⟩)) (.slice A51 (0 + i + (L.length - (i + 1))) c52)) (by kernel_rfl) (by kernel_rfl) hr60 hS63 ?_
        have ho64 := own_fr ho57 hF61 (hC48.apartM 0 0 rfl rfl)
        have ho65 := own_fr ho58 hF61 (blk_al (n1 := L.length) (c1 := c1) (hC48.apartM 0 0 rfl rfl))
        have ho66 := own_fr ho54 hF61 (hC48.apartM 1 0 rfl rfl)
        refine WD.done (by kernel_rfl) ?_
        refine (hret _ _ _ rfl ?_).2
        clear hN hret hret' 
        have hown_ := ho66
        rw [List.nil_append, erase_td] at hown_
        exact ⟨_, rfl, hC62.fr, df_mk hC62 0 1 rfl rfl hown_, fun x_ hx_ => (List.mem_cons.1 hx_).elim (fun e_ => by subst e_; exact .inl List.mem_cons_self) (fun h_ => hC62.ownF _ (List.mem_of_getElem? (show _[1]? = some (blk (.slice A51 (0 + i + (L.length - (i + 1))) c52)) from rfl)) x_ h_)⟩
      · -- operation 12 comes first
        refine WO.sem 12 (Instr.loadAt 44 (.pointer (some ⟨p, 0, none⟩))) 16 (.slice A1 L.length c1) (by kernel_rfl) (by kernel_rfl) (run_ld (hC10.get 0 rfl) rfl) hS14 ?_
        obtain ⟨A67, hA68⟩ : ∃ A_, slcAt A1 (i + 1) c1 10 = A_ := ⟨_, rfl⟩
        have hle_ := own_le ho15
        have hb69 : L.length ≤ c1 := by omega
        refine WD.slc hN 15 44 34 10 A1 A67 L.length c1 (i + 1) L.length (L.length - (i + 1)) (c1 - (i + 1)) (some (.int .i64 ((i : Int) + 1))) none 19 (by kernel_rfl) (by kernel_rfl) (by kernel_rfl) (bnd.yes (by omega)) bnd.no (by omega) hb69 hA68 (by first | rfl | omega) (by first | rfl | omega) hS14 ?_
        have ho71 : World.ownsRow w8 0 34 10 (.slice (some ⟨g7, 0, none⟩) 0 0) 0 [] := own_of_blk (Nat.zero_le _) (hC10.get 1 rfl) (Nat.le_refl _) (Nat.zero_le _) (by simp) rfl
        have hC70 := hC10.toF 1 rfl
        obtain ⟨v73, w74, hr75, ho76, hF77, hC78, hnil79, hsub80⟩ := app_run Try.prog hC70 1 (v := .slice (some ⟨g7, 0, none⟩) 0 0) rfl 44 44 34 10 72 0 i c1 A1 rfl ho71 ((L.take i).flatMap cellsE) (flat_len_n cellsE_len (own_count cellsE_len (by decide) ho18)) (Rd.src_n (own_rd ho18 cellsE_len (by decide)) cellsE_len (by decide) (own_count cellsE_len (by decide) ho18)) (flat_one cellsE_one _) (by simp only [maxLen]; omega) (by omega)
        have ho84 := own_app (enc := cellsE) (ys := []) (zs := L.take i) ho76
        obtain ⟨A81, c82, rfl, hle83⟩ := own_form ho84
        have hge85 : ∀ x_ ∈ blk (.slice (some ⟨g7, 0, none⟩) 0 0), w1.heap.size ≤ x_ := by first | (simp [blk, Value.ownBlock, *]; done) | (intro x_ hx_; simp [blk, Value.ownBlock] at hx_; omega)
        have hge86 : ∀ x_ ∈ blk (.slice A81 (0 + i) c82), w1.heap.size ≤ x_ := fun x_ hx_ => (hsub80 x_ hx_).elim (hge85 x_) (fun h_ => Nat.le_trans hS14.size h_)
        have hS87 := hS14.trans hF77 (fun x_ hx_ => .inr (hge85 x_ hx_))
        refine WD.sem 8 (Builtin.append_ #[44, 44] 44 #[.slice (some ⟨g7, 0, none⟩) 0 0, .slice A1 i c1]) 12 (.slice A81 (0 + i) c82) (by kernel_rfl) (by kernel_rfl) hr75 hS87 ?_
        have ho88 := own_fr ho15 hF77 (hC70.disj 0 1 rfl rfl (by decide))
        have ho89 := own_fr ho18 hF77 (blk_al (n1 := L.length) (c1 := c1) (hC70.disj 0 1 rfl rfl (by decide)))
        obtain ⟨v90, w91, hr92, ho93, hF94, hC95, hnil96, hsub97⟩ := app_run Try.prog hC78 1 (v := .slice A81 (0 + i) c82) rfl 44 44 34 10 72 (0 + i) (L.length - (i + 1)) (c1 - (i + 1)) A67 rfl ho84 (((L.take L.length).drop (i + 1)).flatMap cellsE) (flat_len_n cellsE_len (by have h_ := own_count cellsE_len (by decide) ho88; simp only [List.length_drop, List.length_take]; omega)) (Rd.src_n (Rd.slc (own_rd ho88 cellsE_len (by decide)) (i + 1) L.length c1 hb69 hA68) cellsE_len (by decide) (by have h_ := own_count cellsE_len (by decide) ho88; simp only [List.length_drop, List.length_take]; omega)) (flat_one cellsE_one _) (by simp only [maxLen]; omega) (by omega)
        have ho101 := own_app (enc := cellsE) (ys := [] ++ (L.take i)) (zs := (L.take L.length).drop (i + 1)) ho93
        obtain ⟨A98, c99, rfl, hle100⟩ := own_form ho101
        have hge102 : ∀ x_ ∈ blk (.slice A98 (0 + i + (L.length - (i + 1))) c99), w1.heap.size ≤ x_ := fun x_ hx_ => (hsub97 x_ hx_).elim (hge86 x_) (fun h_ => Nat.le_trans hS87.size h_)
        have hS103 := hS87.trans hF94 (fun x_ hx_ => .inr (hge86 x_ hx_))
        refine WD.sem 16 (Builtin.append_ #[44, 44] 44 #[.slice A81 (0 + i) c82, .slice A67 (L.length - (i + 1)) (c1 - (i + 1))]) 20 (.slice A98 (0 + i + (L.length - (i + 1))) c99) (by kernel_rfl) (by kernel_rfl) hr92 hS103 ?_
        have ho104 := own_fr ho88 hF94 (hC78.disj 0 1 rfl rfl (by decide))
        have ho105 := own_fr ho89 hF94 (blk_al (n1 := L.length) (c1 := c1) (hC78.disj 0 1 rfl rfl (by decide)))
        refine WD.pure hN 17 21 (.pointer (some ⟨p, 0, none⟩)) (by kernel_rfl) (fun _ => by kernel_rfl) hS103 ?_
        refine WD.pure hN 18 22 (.pointer (some ⟨p, 0, none⟩)) (by kernel_rfl) (fun _ => by kernel_rfl) hS103 ?_
        obtain ⟨w106, hr107, hF108, hC109⟩ := sto_run (c' := #[.slice A98 (0 + i + (L.length - (i + 1))) c99, .int .i64 tr, .int .i64 un]) Try.prog hC95 0 44 p 0 (.slice A98 (0 + i + (L.length - (i + 1))) c99) rfl (by kernel_rfl)
        have hS110 := hS103.trans hF108 (by first | (simp; done) | (simp [*]; done) | (have q_ := hS103.size; simp; omega))
        refine WD.semU 19 (Instr.storeAt 44 (.pointer (some ⟨p, 0, none⟩)) (.slice A98 (0 + i + (L.length - (i + 1))) c99)) (by kernel_rfl) (by kernel_rfl) hr107 hS110 ?_
        have ho111 := own_fr ho104 hF108 (hC95.apartM 0 0 rfl rfl)
        have ho112 := own_fr ho105 hF108 (blk_al (n1 := L.length) (c1 := c1) (hC95.apartM 0 0 rfl rfl))
        have ho113 := own_fr ho101 hF108 (hC95.apartM 1 0 rfl rfl)
        refine WD.done (by kernel_rfl) ?_
        refine (hret _ _ _ rfl ?_).2
        clear hN hret hret' 
        have hown_ := ho113
        rw [List.nil_append, erase_td] at hown_
        exact ⟨_, rfl, hC109.fr, df_mk hC109 0 1 rfl rfl hown_, fun x_ hx_ => (List.mem_cons.1 hx_).elim (fun e_ => by subst e_; exact .inl List.mem_cons_self) (fun h_ => hC109.ownF _ (List.mem_of_getElem? (show _[1]? = some (blk (.slice A98 (0 + i + (L.length - (i + 1))) c99)) from rfl)) x_ h_)⟩
    · -- operation 12 comes first
      refine WO.sem 12 (Instr.loadAt 44 (.pointer (some ⟨p, 0, none⟩))) 16 (.slice A1 L.length c1) (by kernel_rfl) (by kernel_rfl) (run_ld (hC10.get 0 rfl) rfl) hS14 ?_
      obtain ⟨A114, hA115⟩ : ∃ A_, slcAt A1 (i + 1) c1 10 = A_ := ⟨_, rfl⟩
      have hle_ := own_le ho15
      have hb116 : L.length ≤ c1 := by omega
      refine WD.slc hN 15 44 34 10 A1 A114 L.length c1 (i + 1) L.length (L.length - (i + 1)) (c1 - (i + 1)) (some (.int .i64 ((i : Int) + 1))) none 19 (by kernel_rfl) (by kernel_rfl) (by kernel_rfl) (bnd.yes (by omega)) bnd.no (by omega) hb116 hA115 (by first | rfl | omega) (by first | rfl | omega) hS14 ?_
      refine WD.sem 5 (Instr.loadAt 44 (.pointer (some ⟨p, 0, none⟩))) 9 (.slice A1 L.length c1) (by kernel_rfl) (by kernel_rfl) (run_ld (hC10.get 0 rfl) rfl) hS14 ?_
      have hle_ := own_le ho15
      have hb117 : i ≤ c1 := by omega
      refine WD.slc hN 7 44 34 10 A1 A1 L.length c1 0 i i c1 none (some (.int .i64 (i : Int))) 11 (by kernel_rfl) (by kernel_rfl) (by kernel_rfl) bnd.no (bnd.yes (by omega)) (by omega) hb117 (slcAt_pre _ _ _) (by first | rfl | omega) (by first | rfl | omega) hS14 ?_
      have ho118 := own_takeE (m := i) cellsE_len ho15 (by omega)
      have ho121 : World.ownsRow w8 0 34 10 (.slice (some ⟨g7, 0, none⟩) 0 0) 0 [] := own_of_blk (Nat.zero_le _) (hC10.get 1 rfl) (Nat.le_refl _) (Nat.zero_le _) (by simp) rfl
      have hC120 := hC10.toF 1 rfl
      obtain ⟨v123, w124, hr125, ho126, hF127, hC128, hnil129, hsub130⟩ := app_run Try.prog hC120 1 (v := .slice (some ⟨g7, 0, none⟩) 0 0) rfl 44 44 34 10 72 0 i c1 A1 rfl ho121 ((L.take i).flatMap cellsE) (flat_len_n cellsE_len (own_count cellsE_len (by decide) ho118)) (Rd.src_n (own_rd ho118 cellsE_len (by decide)) cellsE_len (by decide) (own_count cellsE_len (by decide) ho118)) (flat_one cellsE_one _) (by simp only [maxLen]; omega) (by omega)
      have ho134 := own_app (enc := cellsE) (ys := []) (zs := L.take i) ho126
      obtain ⟨A131, c132, rfl, hle133⟩ := own_form ho134
      have hge135 : ∀ x_ ∈ blk (.slice (some ⟨g7, 0, none⟩) 0 0), w1.heap.size ≤ x_ := by first | (simp [blk, Value.ownBlock, *]; done) | (intro x_ hx_; simp [blk, Value.ownBlock] at hx_; omega)
      have hge136 : ∀ x_ ∈ blk (.slice A131 (0 + i) c132), w1.heap.size ≤ x_ := fun x_ hx_ => (hsub130 x_ hx_).elim (hge135 x_) (fun h_ => Nat.le_trans hS14.size h_)
      have hS137 := hS14.trans hF127 (fun x_ hx_ => .inr (hge135 x_ hx_))
      refine WD.sem 8 (Builtin.append_ #[44, 44] 44 #[.slice (some ⟨g7, 0, none⟩) 0 0, .slice A1 i c1]) 12 (.slice A131 (0 + i) c132) (by kernel_rfl) (by kernel_rfl) hr125 hS137 ?_
      have ho138 := own_fr ho15 hF127 (hC120.disj 0 1 rfl rfl (by decide))
      have ho139 := own_fr ho118 hF127 (blk_al (n1 := L.length) (c1 := c1) (hC120.disj 0 1 rfl rfl (by decide)))
      obtain ⟨v140, w141, hr142, ho143, hF144, hC145, hnil146, hsub147⟩ := app_run Try.prog hC128 1 (v := .slice A131 (0 + i) c132) rfl 44 44 34 10 72 (0 + i) (L.length - (i + 1)) (c1 - (i + 1)) A114 rfl ho134 (((L.take L.length).drop (i + 1)).flatMap cellsE) (flat_len_n cellsE_len (by have h_ := own_count cellsE_len (by decide) ho138; simp only [List.length_drop, List.length_take]; omega)) (Rd.src_n (Rd.slc (own_rd ho138 cellsE_len (by decide)) (i + 1) L.length c1 hb116 hA115) cellsE_len (by decide) (by have h_ := own_count cellsE_len (by decide) ho138; simp only [List.length_drop, List.length_take]; omega)) (flat_one cellsE_one _) (by simp only [maxLen]; omega) (by omega)
      have ho151 := own_app (enc := cellsE) (ys := [] ++ (L.take i)) (zs := (L.take L.length).drop (i + 1)) ho143
      obtain ⟨A148, c149, rfl, hle150⟩ := own_form ho151
      have hge152 : ∀ x_ ∈ blk (.slice A148 (0 + i + (L.length - (i + 1))) c149), w1.heap.size ≤ x_ := fun x_ hx_ => (hsub147 x_ hx_).elim (hge136 x_) (fun h_ => Nat.le_trans hS137.size h_)
      have hS153 := hS137.trans hF144 (fun x_ hx_ => .inr (hge136 x_ hx_))
      refine WD.sem 16 (Builtin.append_ #[44, 44] 44 #[.slice A131 (0 + i) c132, .slice A114 (L.length - (i + 1)) (c1 - (i + 1))]) 20 (.slice A148 (0 + i + (L.length - (i + 1))) c149) (by kernel_rfl) (by kernel_rfl) hr142 hS153 ?_
      have ho154 := own_fr ho138 hF144 (hC128.disj 0 1 rfl rfl (by decide))
      have ho155 := own_fr ho139 hF144 (blk_al (n1 := L.length) (c1 := c1) (hC128.disj 0 1 rfl rfl (by decide)))
      refine WD.pure hN 17 21 (.pointer (some ⟨p, 0, none⟩)) (by kernel_rfl) (fun _ => by kernel_rfl) hS153 ?_
      refine WD.pure hN 18 22 (.pointer (some ⟨p, 0, none⟩)) (by kernel_rfl) (fun _ => by kernel_rfl) hS153 ?_
      obtain ⟨w156, hr157, hF158, hC159⟩ := sto_run (c' := #[.slice A148 (0 + i + (L.length - (i + 1))) c149, .int .i64 tr, .int .i64 un]) Try.prog hC145 0 44 p 0 (.slice A148 (0 + i + (L.length - (i + 1))) c149) rfl (by kernel_rfl)
      have hS160 := hS153.trans hF158 (by first | (simp; done) | (simp [*]; done) | (have q_ := hS153.size; simp; omega))
      refine WD.semU 19 (Instr.storeAt 44 (.pointer (some ⟨p, 0, none⟩)) (.slice A148 (0 + i + (L.length - (i + 1))) c149)) (by kernel_rfl) (by kernel_rfl) hr157 hS160 ?_
      have ho161 := own_fr ho154 hF158 (hC145.apartM 0 0 rfl rfl)
      have ho162 := own_fr ho155 hF158 (blk_al (n1 := L.length) (c1 := c1) (hC145.apartM 0 0 rfl rfl))
      have ho163 := own_fr ho151 hF158 (hC145.apartM 1 0 rfl rfl)
      refine WD.done (by kernel_rfl) ?_
      refine (hret _ _ _ rfl ?_).2
      clear hN hret hret' 
      have hown_ := ho163
      rw [List.nil_append, erase_td] at hown_
      exact ⟨_, rfl, hC159.fr, df_mk hC159 0 1 rfl rfl hown_, fun x_ hx_ => (List.mem_cons.1 hx_).elim (fun e_ => by subst e_; exact .inl List.mem_cons_self) (fun h_ => hC159.ownF _ (List.mem_of_getElem? (show _[1]? = some (blk (.slice A148 (0 + i + (L.length - (i + 1))) c149)) from rfl)) x_ h_)⟩
  · -- operation 5 comes first
    refine WO.sem 5 (Instr.loadAt 44 (.pointer (some ⟨p, 0, none⟩))) 9 (.slice A1 L.length c1) (by kernel_rfl) (by kernel_rfl) (run_ld (hC3.get 0 rfl) rfl) hS4 ?_
    have hle_ := own_le ho5
    have hb164 : i ≤ c1 := by omega
    refine WD.slc hN 7 44 34 10 A1 A1 L.length c1 0 i i c1 none (some (.int .i64 (i : Int))) 11 (by kernel_rfl) (by kernel_rfl) (by kernel_rfl) bnd.no (bnd.yes (by omega)) (by omega) hb164 (slcAt_pre _ _ _) (by first | rfl | omega) (by first | rfl | omega) hS4 ?_
    have ho165 := own_takeE (m := i) cellsE_len ho5 (by omega)
    refine WD.all2 1 12 (by kernel_rfl) ?_ ?_
    · -- operation 1 comes first
      refine WO.new 1 (fun b => .slice (some ⟨b, 0, none⟩) 0 0) (.cells #[] 34) (by kernel_rfl) rfl rfl rfl rfl rfl (fun _ => by kernel_rfl) (fun g167 w168 hb171 hl172 hF169 ho173 => ?_)
      have hC170 := hC3.callB hF169 hb171 ho173
      have hS174 := hS4.trans hF169 (by simp)
      refine ⟨hS174, ?_⟩
      have ho175 := own_fr ho5 hF169 (by simp)
      have hf176 := hf6.trans hF169 (by simp)
      have ho177 := own_fr ho165 hF169 (by simp)
      refine WD.all2 8 12 (by kernel_rfl) ?_ ?_
      · -- operation 8 comes first
        have ho179 : World.ownsRow w168 0 34 10 (.slice (some ⟨g167, 0, none⟩) 0 0) 0 [] := own_of_blk (Nat.zero_le _) (hC170.get 1 rfl) (Nat.le_refl _) (Nat.zero_le _) (by simp) rfl
        have hC178 := hC170.toF 1 rfl
        obtain ⟨v181, w182, hr183, ho184, hF185, hC186, hnil187, hsub188⟩ := app_run Try.prog hC178 1 (v := .slice (some ⟨g167, 0, none⟩) 0 0) rfl 44 44 34 10 72 0 i c1 A1 rfl ho179 ((L.take i).flatMap cellsE) (flat_len_n cellsE_len (own_count cellsE_len (by decide) ho177)) (Rd.src_n (own_rd ho177 cellsE_len (by decide)) cellsE_len (by decide) (own_count cellsE_len (by decide) ho177)) (flat_one cellsE_one _) (by simp only [maxLen]; omega) (by omega)
        have ho192 := own_app (enc := cellsE) (ys := []) (zs := L.take i) ho184
        obtain ⟨A189, c190, rfl, hle191⟩ := own_form ho192
        have hge193 : ∀ x_ ∈ blk (.slice (some ⟨g167, 0, none⟩) 0 0), w1.heap.size ≤ x_ := by first | (simp [blk, Value.ownBlock, *]; done) | (intro x_ hx_; simp [blk, Value.ownBlock] at hx_; omega)
        have hge194 : ∀ x_ ∈ blk (.slice A189 (0 + i) c190), w1.heap.size ≤ x_ := fun x_ hx_ => (hsub188 x_ hx_).elim (hge193 x_) (fun h_ => Nat.le_trans hS174.size h_)
        have hS195 := hS174.trans hF185 (fun x_ hx_ => .inr (hge193 x_ hx_))
        refine WO.sem 8 (Builtin.append_ #[44, 44] 44 #[.slice (some ⟨g167, 0, none⟩) 0 0, .slice A1 i c1]) 12 (.slice A189 (0 + i) c190) (by kernel_rfl) (by kernel_rfl) hr183 hS195 ?_
        have ho196 := own_fr ho175 hF185 (hC178.disj 0 1 rfl rfl (by decide))
        have ho197 := own_fr ho177 hF185 (blk_al (n1 := L.length) (c1 := c1) (hC178.disj 0 1 rfl rfl (by decide)))
        refine WD.sem 12 (Instr.loadAt 44 (.pointer (some ⟨p, 0, none⟩))) 16 (.slice A1 L.length c1) (by kernel_rfl) (by kernel_rfl) (run_ld (hC186.get 0 rfl) rfl) hS195 ?_
        obtain ⟨A198, hA199⟩ : ∃ A_, slcAt A1 (i + 1) c1 10 = A_ := ⟨_, rfl⟩
        have hle_ := own_le ho196
        have hb200 : L.length ≤ c1 := by omega
        refine WD.slc hN 15 44 34 10 A1 A198 L.length c1 (i + 1) L.length (L.length - (i + 1)) (c1 - (i + 1)) (some (.int .i64 ((i : Int) + 1))) none 19 (by kernel_rfl) (by kernel_rfl) (by kernel_rfl) (bnd.yes (by omega)) bnd.no (by omega) hb200 hA199 (by first | rfl | omega) (by first | rfl | omega) hS195 ?_
        obtain ⟨v201, w202, hr203, ho204, hF205, hC206, hnil207, hsub208⟩ := app_run Try.prog hC186 1 (v := .slice A189 (0 + i) c190) rfl 44 44 34 10 72 (0 + i) (L.length - (i + 1)) (c1 - (i + 1)) A198 rfl ho192 (((L.take L.length).drop (i + 1)).flatMap cellsE) (flat_len_n cellsE_len (by have h_ := own_count cellsE_len (by decide) ho196; simp only [List.length_drop, List.length_take]; omega)) (Rd.src_n (Rd.slc (own_rd ho196 cellsE_len (by decide)) (i + 1) L.length c1 hb200 hA199) cellsE_len (by decide) (by have h_ := own_count cellsE_len (by decide) ho196; simp only [List.length_drop, List.length_take]; omega)) (flat_one cellsE_one _) (by simp only [maxLen]; omega) (by omega)
        have ho212 := own_app (enc := cellsE) (ys := [] ++ (L.take i)) (zs := (L.take L.length).drop (i + 1)) ho204
        obtain ⟨A209, c210, rfl, hle211⟩ := own_form ho212
        have hge213 : ∀ x_ ∈ blk (.slice A209 (0 + i + (L.length - (i + 1))) c210), w1.heap.size ≤ x_ := fun x_ hx_ => (hsub208 x_ hx_).elim (hge194 x_) (fun h_ => Nat.le_trans hS195.size h_)
        have hS214 := hS195.trans hF205 (fun x_ hx_ => .inr (hge194 x_ hx_))
        refine WD.sem 16 (Builtin.append_ #[44, 44] 44 #[.slice A189 (0 + i) c190, .slice A198 (L.length - (i + 1)) (c1 - (i + 1))]) 20 (.slice A209 (0 + i + (L.length - (i + 1))) c210) (by kernel_rfl) (by kernel_rfl) hr203 hS214 ?_
        have ho215 := own_fr ho196 hF205 (hC186.disj 0 1 rfl rfl (by decide))
        have ho216 := own_fr ho197 hF205 (blk_al (n1 := L.length) (c1 := c1) (hC186.disj 0 1 rfl rfl (by decide)))
        refine WD.pure hN 17 21 (.pointer (some ⟨p, 0, none⟩)) (by kernel_rfl) (fun _ => by kernel_rfl) hS214 ?_
        refine WD.pure hN 18 22 (.pointer (some ⟨p, 0, none⟩)) (by kernel_rfl) (fun _ => by kernel_rfl) hS214 ?_
        obtain ⟨w217, hr218, hF219, hC220⟩ := sto_run (c' := #[.slice A209 (0 + i + (L.length - (i + 1))) c210, .int .i64 tr, .int .i64 un]) Try.prog hC206 0 44 p 0 (.slice A209 (0 + i + (L.length - (i + 1))) c210) rfl (by kernel_rfl)
        have hS221 := hS214.trans hF219 (by first | (simp; done) | (simp [*]; done) | (have q_ := hS214.size; simp; omega))
        refine WD.semU 19 (Instr.storeAt 44 (.pointer (some ⟨p, 0, none⟩)) (.slice A209 (0 + i + (L.length - (i + 1))) c210)) (by kernel_rfl) (by kernel_rfl) hr218 hS221 ?_
        have ho222 := own_fr ho215 hF219 (hC206.apartM 0 0 rfl rfl)
        have ho223 := own_fr ho216 hF219 (blk_al (n1 := L.length) (c1 := c1) (hC206.apartM 0 0 rfl rfl))
        have ho224 := own_fr ho212 hF219 (hC206.apartM 1 0 rfl rfl)
        refine WD.done (by kernel_rfl) ?_
        refine (hret _ _ _ rfl ?_).2
        clear hN hret hret' 
        have hown_ := ho224
        rw [List.nil_append, erase_td] at hown_
        exact ⟨_, rfl, hC220.fr, df_mk hC220 0 1 rfl rfl hown_, fun x_ hx_ => (List.mem_cons.1 hx_).elim (fun e_ => by subst e_; exact .inl List.mem_cons_self) (fun h_ => hC220.ownF _ (List.mem_of_getElem? (show _[1]? = some (blk (.slice A209 (0 + i + (L.length - (i + 1))) c210)) from rfl)) x_ h_)⟩
      · -- operation 12 comes first
        refine WO.sem 12 (Instr.loadAt 44 (.pointer (some ⟨p, 0, none⟩))) 16 (.slice A1 L.length c1) (by kernel_rfl) (by kernel_rfl) (run_ld (hC170.get 0 rfl) rfl) hS174 ?_
        obtain ⟨A225, hA226⟩ : ∃ A_, slcAt A1 (i + 1) c1 10 = A_ := ⟨_, rfl⟩
        have hle_ := own_le ho175
        have hb227 : L.length ≤ c1 := by omega
        refine WD.slc hN 15 44 34 10 A1 A225 L.length c1 (i + 1) L.length (L.length - (i + 1)) (c1 - (i + 1)) (some (.int .i64 ((i : Int) + 1))) none 19 (by kernel_rfl) (by kernel_rfl) (by kernel_rfl) (bnd.yes (by omega)) bnd.no (by omega) hb227 hA226 (by first | rfl | omega) (by first | rfl | omega) hS174 ?_
        have ho229 : World.ownsRow w168 0 34 10 (.slice (some ⟨g167, 0, none⟩) 0 0) 0 [] := own_of_blk (Nat.zero_le _) (hC170.get 1 rfl) (Nat.le_refl _) (Nat.zero_le _) (by simp) rfl
        have hC228 := hC170.toF 1 rfl
        obtain ⟨v231, w232, hr233, ho234, hF235, hC236, hnil237, hsub238⟩ := app_run Try.prog hC228 1 (v := .slice (some ⟨g167, 0, none⟩) 0 0) rfl 44 44 34 10 72 0 i c1 A1 rfl ho229 ((L.take i).flatMap cellsE) (flat_len_n cellsE_len (own_count cellsE_len (by decide) ho177)) (Rd.src_n (own_rd ho177 cellsE_len (by decide)) cellsE_len (by decide) (own_count cellsE_len (by decide) ho177)) (flat_one cellsE_one _) (by simp only [maxLen]; omega) (by omega)
        have ho242 := own_app (enc := cellsE) (ys := []) (zs := L.take i) ho234
        obtain ⟨A239, c240, rfl, hle241⟩ := own_form ho242
        have hge243 : ∀ x_ ∈ blk (.slice (some ⟨g167, 0, none⟩) 0 0), w1.heap.size ≤ x_ := by first | (simp [blk, Value.ownBlock, *]; done) | (intro x_ hx_; simp [blk, Value.ownBlock] at hx_; omega)
        have hge244 : ∀ x_ ∈ blk (.slice A239 (0 + i) c240), w1.heap.size ≤ x_ := fun x_ hx_ => (hsub238 x_ hx_).elim (hge243 x_) (fun h_ => Nat.le_trans hS174.size h_)
        have hS245 := hS174.trans hF235 (fun x_ hx_ => .inr (hge243 x_ hx_))
        refine WD.sem 8 (Builtin.append_ #[44, 44] 44 #[.slice (some ⟨g167, 0, none⟩) 0 0, .slice A1 i c1]) 12 (.slice A239 (0 + i) c240) (by kernel_rfl) (by kernel_rfl) hr233 hS245 ?_
        have ho246 := own_fr ho175 hF235 (hC228.disj 0 1 rfl rfl (by decide))
        have ho247 := own_fr ho177 hF235 (blk_al (n1 := L.length) (c1 := c1) (hC228.disj 0 1 rfl rfl (by decide)))
        obtain ⟨v248, w249, hr250, ho251, hF252, hC253, hnil254, hsub255⟩ := app_run Try.prog hC236 1 (v := .slice A239 (0 + i) c240) rfl 44 44 34 10 72 (0 + i) (L.length - (i + 1)) (c1 - (i + 1)) A225 rfl ho242 (((L.take L.length).drop (i + 1)).flatMap cellsE) (flat_len_n cellsE_len (by have h_ := own_count cellsE_len (by decide) ho246; simp only [List.length_drop, List.length_take]; omega)) (Rd.src_n (Rd.slc (own_rd ho246 cellsE_len (by decide)) (i + 1) L.length c1 hb227 hA226) cellsE_len (by decide) (by have h_ := own_count cellsE_len (by decide) ho246; simp only [List.length_drop, List.length_take]; omega)) (flat_one cellsE_one _) (by simp only [maxLen]; omega) (by omega)
        have ho259 := own_app (enc := cellsE) (ys := [] ++ (L.take i)) (zs := (L.take L.length).drop (i + 1)) ho251
        obtain ⟨A256, c257, rfl, hle258⟩ := own_form ho259
        have hge260 : ∀ x_ ∈ blk (.slice A256 (0 + i + (L.length - (i + 1))) c257), w1.heap.size ≤ x_ := fun x_ hx_ => (hsub255 x_ hx_).elim (hge244 x_) (fun h_ => Nat.le_trans hS245.size h_)
        have hS261 := hS245.trans hF252 (fun x_ hx_ => .inr (hge244 x_ hx_))
        refine WD.sem 16 (Builtin.append_ #[44, 44] 44 #[.slice A239 (0 + i) c240, .slice A225 (L.length - (i + 1)) (c1 - (i + 1))]) 20 (.slice A256 (0 + i + (L.length - (i + 1))) c257) (by kernel_rfl) (by kernel_rfl) hr250 hS261 ?_
        have ho262 := own_fr ho246 hF252 (hC236.disj 0 1 rfl rfl (by decide))
        have ho263 := own_fr ho247 hF252 (blk_al (n1 := L.length) (c1 := c1) (hC236.disj 0 1 rfl rfl (by decide)))
        refine WD.pure hN 17 21 (.pointer (some ⟨p, 0, none⟩)) (by kernel_rfl) (fun _ => by kernel_rfl) hS261 ?_
        refine WD.pure hN 18 22 (.pointer (some ⟨p, 0, none⟩)) (by kernel_rfl) (fun _ => by kernel_rfl) hS261 ?_
        obtain ⟨w264, hr265, hF266, hC267⟩ := sto_run (c' := #[.slice A256 (0 + i + (L.length - (i + 1))) c257, .int .i64 tr, .int .i64 un]) Try.prog hC253 0 44 p 0 (.slice A256 (0 + i + (L.length - (i + 1))) c257) rfl (by kernel_rfl)
        have hS268 := hS261.trans hF266 (by first | (simp; done) | (simp [*]; done) | (have q_ := hS261.size; simp; omega))
        refine WD.semU 19 (Instr.storeAt 44 (.pointer (some ⟨p, 0, none⟩)) (.slice A256 (0 + i + (L.length - (i + 1))) c257)) (by kernel_rfl) (by kernel_rfl) hr265 hS268 ?_
        have ho269 := own_fr ho262 hF266 (hC253.apartM 0 0 rfl rfl)
        have ho270 := own_fr ho263 hF266 (blk_al (n1 := L.length) (c1 := c1) (hC253.apartM 0 0 rfl rfl))
        have ho271 := own_fr ho259 hF266 (hC253.apartM 1 0 rfl rfl)
        refine WD.done (by kernel_rfl) ?_
        refine (hret _ _ _ rfl ?_).2
        clear hN hret hret' 
        have hown_ := ho271
        rw [List.nil_append, erase_td] at hown_
        exact ⟨_, rfl, hC267.fr, df_mk hC267 0 1 rfl rfl hown_, fun x_ hx_ => (List.mem_cons.1 hx_).elim (fun e_ => by subst e_; exact .inl List.mem_cons_self) (fun h_ => hC267.ownF _ (List.mem_of_getElem? (show _[1]? = some (blk (.slice A256 (0 + i + (L.length - (i + 1))) c257)) from rfl)) x_ h_)⟩
    · -- operation 12 comes first
      refine WO.sem 12 (Instr.loadAt 44 (.pointer (some ⟨p, 0, none⟩))) 16 (.slice A1 L.length c1) (by kernel_rfl) (by kernel_rfl) (run_ld (hC3.get 0 rfl) rfl) hS4 ?_
      obtain ⟨A272, hA273⟩ : ∃ A_, slcAt A1 (i + 1) c1 10 = A_ := ⟨_, rfl⟩
      have hle_ := own_le ho5
      have hb274 : L.length ≤ c1 := by omega
      refine WD.slc hN 15 44 34 10 A1 A272 L.length c1 (i + 1) L.length (L.length - (i + 1)) (c1 - (i + 1)) (some (.int .i64 ((i : Int) + 1))) none 19 (by kernel_rfl) (by kernel_rfl) (by kernel_rfl) (bnd.yes (by omega)) bnd.no (by omega) hb274 hA273 (by first | rfl | omega) (by first | rfl | omega) hS4 ?_
      refine WD.new 1 (fun b => .slice (some ⟨b, 0, none⟩) 0 0) (.cells #[] 34) (by kernel_rfl) rfl rfl rfl rfl rfl (fun _ => by kernel_rfl) (fun g275 w276 hb279 hl280 hF277 ho281 => ?_)
      have hC278 := hC3.callB hF277 hb279 ho281
      have hS282 := hS4.trans hF277 (by simp)
      refine ⟨hS282, ?_⟩
      have ho283 := own_fr ho5 hF277 (by simp)
      have hf284 := hf6.trans hF277 (by simp)
      have ho285 := own_fr ho165 hF277 (by simp)
      have ho287 : World.ownsRow w276 0 34 10 (.slice (some ⟨g275, 0, none⟩) 0 0) 0 [] := own_of_blk (Nat.zero_le _) (hC278.get 1 rfl) (Nat.le_refl _) (Nat.zero_le _) (by simp) rfl
      have hC286 := hC278.toF 1 rfl
      obtain ⟨v289, w290, hr291, ho292, hF293, hC294, hnil295, hsub296⟩ := app_run Try.prog hC286 1 (v := .slice (some ⟨g275, 0, none⟩) 0 0) rfl 44 44 34 10 72 0 i c1 A1 rfl ho287 ((L.take i).flatMap cellsE) (flat_len_n cellsE_len (own_count cellsE_len (by decide) ho285)) (Rd.src_n (own_rd ho285 cellsE_len (by decide)) cellsE_len (by decide) (own_count cellsE_len (by decide) ho285)) (flat_one cellsE_one _) (by simp only [maxLen]; omega) (by omega)
      have ho300 := own_app (enc := cellsE) (ys := []) (zs := L.take i) ho292
      obtain ⟨A297, c298, rfl, hle299⟩ := own_form ho300
      have hge301 : ∀ x_ ∈ blk (.slice (some ⟨g275, 0, none⟩) 0 0), w1.heap.size ≤ x_ := by first | (simp [blk, Value.ownBlock, *]; done) | (intro x_ hx_; simp [blk, Value.ownBlock] at hx_; omega)
      have hge302 : ∀ x_ ∈ blk (.slice A297 (0 + i) c298), w1.heap.size ≤ x_ := fun x_ hx_ => (hsub296 x_ hx_).elim (hge301 x_) (fun h_ => Nat.le_trans hS282.size h_)
      have hS303 := hS282.trans hF293 (fun x_ hx_ => .inr (hge301 x_ hx_))
      refine WD.sem 8 (Builtin.append_ #[44, 44] 44 #[.slice (some ⟨g275, 0, none⟩) 0 0, .slice A1 i c1]) 12 (.slice A297 (0 + i) c298) (by kernel_rfl) (by kernel_rfl) hr291 hS303 ?_
      have ho304 := own_fr ho283 hF293 (hC286.disj 0 1 rfl rfl (by decide))
      have ho305 := own_fr ho285 hF293 (blk_al (n1 := L.length) (c1 := c1) (hC286.disj 0 1 rfl rfl (by decide)))
      obtain ⟨v306, w307, hr308, ho309, hF310, hC311, hnil312, hsub313⟩ := app_run Try.prog hC294 1 (v := .slice A297 (0 + i) c298) rfl 44 44 34 10 72 (0 + i) (L.length - (i + 1)) (c1 - (i + 1)) A272 rfl ho300 (((L.take L.length).drop (i + 1)).flatMap cellsE) (flat_len_n cellsE_len (by have h_ := own_count cellsE_len (by decide) ho304; simp only [List.length_drop, List.length_take]; omega)) (Rd.src_n (Rd.slc (own_rd ho304 cellsE_len (by decide)) (i + 1) L.length c1 hb274 hA273) cellsE_len (by decide) (by have h_ := own_count cellsE_len (by decide) ho304; simp only [List.length_drop, List.length_take]; omega)) (flat_one cellsE_one _) (by simp only [maxLen]; omega) (by omega)
      have ho317 := own_app (enc := cellsE) (ys := [] ++ (L.take i)) (zs := (L.take L.length).drop (i + 1)) ho309
      obtain ⟨A314, c315, rfl, hle316⟩ := own_form ho317
      have hge318 : ∀ x_ ∈ blk (.slice A314 (0 + i + (L.length - (i + 1))) c315), w1.heap.size ≤ x_ := fun x_ hx_ => (hsub313 x_ hx_).elim (hge302 x_) (fun h_ => Nat.le_trans hS303.size h_)
      have hS319 := hS303.trans hF310 (fun x_ hx_ => .inr (hge302 x_ hx_))
      refine WD.sem 16 (Builtin.append_ #[44, 44] 44 #[.slice A297 (0 + i) c298, .slice A272 (L.length - (i + 1)) (c1 - (i + 1))]) 20 (.slice A314 (0 + i + (L.length - (i + 1))) c315) (by kernel_rfl) (by kernel_rfl) hr308 hS319 ?_
      have ho320 := own_fr ho304 hF310 (hC294.disj 0 1 rfl rfl (by decide))
      have ho321 := own_fr ho305 hF310 (blk_al (n1 := L.length) (c1 := c1) (hC294.disj 0 1 rfl rfl (by decide)))
      refine WD.pure hN 17 21 (.pointer (some ⟨p, 0, none⟩)) (by kernel_rfl) (fun _ => by kernel_rfl) hS319 ?_
      refine WD.pure hN 18 22 (.pointer (some ⟨p, 0, none⟩)) (by kernel_rfl) (fun _ => by kernel_rfl) hS319 ?_
      obtain ⟨w322, hr323, hF324, hC325⟩ := sto_run (c' := #[.slice A314 (0 + i + (L.length - (i + 1))) c315, .int .i64 tr, .int .i64 un]) Try.prog hC311 0 44 p 0 (.slice A314 (0 + i + (L.length - (i + 1))) c315) rfl (by kernel_rfl)
      have hS326 := hS319.trans hF324 (by first | (simp; done) | (simp [*]; done) | (have q_ := hS319.size; simp; omega))
      refine WD.semU 19 (Instr.storeAt 44 (.pointer (some ⟨p, 0, none⟩)) (.slice A314 (0 + i + (L.length - (i + 1))) c315)) (by kernel_rfl) (by kernel_rfl) hr323 hS326 ?_
      have ho327 := own_fr ho320 hF324 (hC311.apartM 0 0 rfl rfl)
      have ho328 := own_fr ho321 hF324 (blk_al (n1 := L.length) (c1 := c1) (hC311.apartM 0 0 rfl rfl))
      have ho329 := own_fr ho317 hF324 (hC311.apartM 1 0 rfl rfl)
      refine WD.done (by kernel_rfl) ?_
      refine (hret _ _ _ rfl ?_).2
      clear hN hret hret' 
      have hown_ := ho329
      rw [List.nil_append, erase_td] at hown_
      exact ⟨_, rfl, hC325.fr, df_mk hC325 0 1 rfl rfl hown_, fun x_ hx_ => (List.mem_cons.1 hx_).elim (fun e_ => by subst e_; exact .inl List.mem_cons_self) (fun h_ => hC325.ownF _ (List.mem_of_getElem? (show _[1]? = some (blk (.slice A314 (0 + i + (L.length - (i + 1))) c315)) from rfl)) x_ h_)⟩
  · -- operation 12 comes first
    refine WO.sem 12 (Instr.loadAt 44 (.pointer (some ⟨p, 0, none⟩))) 16 (.slice A1 L.length c1) (by kernel_rfl) (by kernel_rfl) (run_ld (hC3.get 0 rfl) rfl) hS4 ?_
    obtain ⟨A330, hA331⟩ : ∃ A_, slcAt A1 (i + 1) c1 10 = A_ := ⟨_, rfl⟩
    have hle_ := own_le ho5
    have hb332 : L.length ≤ c1 := by omega
    refine WD.slc hN 15 44 34 10 A1 A330 L.length c1 (i + 1) L.length (L.length - (i + 1)) (c1 - (i + 1)) (some (.int .i64 ((i : Int) + 1))) none 19 (by kernel_rfl) (by kernel_rfl) (by kernel_rfl) (bnd.yes (by omega)) bnd.no (by omega) hb332 hA331 (by first | rfl | omega) (by first | rfl | omega) hS4 ?_
    refine WD.all2 1 5 (by kernel_rfl) ?_ ?_
    · -- operation 1 comes first
      refine WO.new 1 (fun b => .slice (some ⟨b, 0, none⟩) 0 0) (.cells #[] 34) (by kernel_rfl) rfl rfl rfl rfl rfl (fun _ => by kernel_rfl) (fun g333 w334 hb337 hl338 hF335 ho339 => ?_)
      have hC336 := hC3.callB hF335 hb337 ho339
      have hS340 := hS4.trans hF335 (by simp)
      refine ⟨hS340, ?_⟩
      have ho341 := own_fr ho5 hF335 (by simp)
      have hf342 := hf6.trans hF335 (by simp)
      refine WD.sem 5 (Instr.loadAt 44 (.pointer (some ⟨p, 0, none⟩))) 9 (.slice A1 L.length c1) (by kernel_rfl) (by kernel_rfl) (run_ld (hC336.get 0 rfl) rfl) hS340 ?_
      have hle_ := own_le ho341
      have hb343 : i ≤ c1 := by omega
      refine WD.slc hN 7 44 34 10 A1 A1 L.length c1 0 i i c1 none (some (.int .i64 (i : Int))) 11 (by kernel_rfl) (by kernel_rfl) (by kernel_rfl) bnd.no (bnd.yes (by omega)) (by omega) hb343 (slcAt_pre _ _ _) (by first | rfl | omega) (by first | rfl | omega) hS340 ?_
      have ho344 := own_takeE (m := i) cellsE_len ho341 (by omega)
      have ho347 : World.ownsRow w334 0 34 10 (.slice (some ⟨g333, 0, none⟩) 0 0) 0 [] := own_of_blk (Nat.zero_le _) (hC336.get 1 rfl) (Nat.le_refl _) (Nat.zero_le _) (by simp) rfl
      have hC346 := hC336.toF 1 rfl
      obtain ⟨v349, w350, hr351, ho352, hF353, hC354, hnil355, hsub356⟩ := app_run Try.prog hC346 1 (v := .slice (some ⟨g333, 0, none⟩) 0 0) rfl 44 44 34 10 72 0 i c1 A1 rfl ho347 ((L.take i).flatMap cellsE) (flat_len_n cellsE_len (own_count cellsE_len (by decide) ho344)) (Rd.src_n (own_rd ho344 cellsE_len (by decide)) cellsE_len (by decide) (own_count cellsE_len (by decide) ho344)) (flat_one cellsE_one _) (by simp only [maxLen]; omega) (by omega)
      have ho360 := own_app (enc := cellsE) (ys := []) (zs := L.take i) ho352
      obtain ⟨A357, c358, rfl, hle359⟩ := own_form ho360
      have hge361 : ∀ x_ ∈ blk (.slice (some ⟨g333, 0, none⟩) 0 0), w1.heap.size ≤ x_ := by first | (simp [blk, Value.ownBlock, *]; done) | (intro x_ hx_; simp [blk, Value.ownBlock] at hx_; omega)
      have hge362 : ∀ x_ ∈ blk (.slice A357 (0 + i) c358), w1.heap.size ≤ x_ := fun x_ hx_ => (hsub356 x_ hx_).elim (hge361 x_) (fun h_ => Nat.le_trans hS340.size h_)
      have hS363 := hS340.trans hF353 (fun x_ hx_ => .inr (hge361 x_ hx_))
      refine WD.sem 8 (Builtin.append_ #[44, 44] 44 #[.slice (some ⟨g333, 0, none⟩) 0 0, .slice A1 i c1]) 12 (.slice A357 (0 + i) c358) (by kernel_rfl) (by kernel_rfl) hr351 hS363 ?_
      have ho364 := own_fr ho341 hF353 (hC346.disj 0 1 rfl rfl (by decide))
      have ho365 := own_fr ho344 hF353 (blk_al (n1 := L.length) (c1 := c1) (hC346.disj 0 1 rfl rfl (by decide)))
      obtain ⟨v366, w367, hr368, ho369, hF370, hC371, hnil372, hsub373⟩ := app_run Try.prog hC354 1 (v := .slice A357 (0 + i) c358) rfl 44 44 34 10 72 (0 + i) (L.length - (i + 1)) (c1 - (i + 1)) A330 rfl ho360 (((L.take L.length).drop (i + 1)).flatMap cellsE) (flat_len_n cellsE_len (by have h_ := own_count cellsE_len (by decide) ho364; simp only [List.length_drop, List.length_take]; omega)) (Rd.src_n (Rd.slc (own_rd ho364 cellsE_len (by decide)) (i + 1) L.length c1 hb332 hA331) cellsE_len (by decide) (by have h_ := own_count cellsE_len (by decide) ho364; simp only [List.length_drop, List.length_take]; omega)) (flat_one cellsE_one _) (by simp only [maxLen]; omega) (by omega)
      have ho377 := own_app (enc := cellsE) (ys := [] ++ (L.take i)) (zs := (L.take L.length).drop (i + 1)) ho369
      obtain ⟨A374, c375, rfl, hle376⟩ := own_form ho377
      have hge378 : ∀ x_ ∈ blk (.slice A374 (0 + i + (L.length - (i + 1))) c375), w1.heap.size ≤ x_ := fun x_ hx_ => (hsub373 x_ hx_).elim (hge362 x_) (fun h_ => Nat.le_trans hS363.size h_)
      have hS379 := hS363.trans hF370 (fun x_ hx_ => .inr (hge362 x_ hx_))
      refine WD.sem 16 (Builtin.append_ #[44, 44] 44 #[.slice A357 (0 + i) c358, .slice A330 (L.length - (i + 1)) (c1 - (i + 1))]) 20 (.slice A374 (0 + i + (L.length - (i + 1))) c375) (by kernel_rfl) (by kernel_rfl) hr368 hS379 ?_
      have ho380 := own_fr ho364 hF370 (hC354.disj 0 1 rfl rfl (by decide))
      have ho381 := own_fr ho365 hF370 (blk_al (n1 := L.length) (c1 := c1) (hC354.disj 0 1 rfl rfl (by decide)))
      refine WD.pure hN 17 21 (.pointer (some ⟨p, 0, none⟩)) (by kernel_rfl) (fun _ => by kernel_rfl) hS379 ?_
      refine WD.pure hN 18 22 (.pointer (some ⟨p, 0, none⟩)) (by kernel_rfl) (fun _ => by kernel_rfl) hS379 ?_
      obtain ⟨w382, hr383, hF384, hC385⟩ := sto_run (c' := #[.slice A374 (0 + i + (L.length - (i + 1))) c375, .int .i64 tr, .int .i64 un]) Try.prog hC371 0 44 p 0 (.slice A374 (0 + i + (L.length - (i + 1))) c375) rfl (by kernel_rfl)
      have hS386 := hS379.trans hF384 (by first | (simp; done) | (simp [*]; done) | (have q_ := hS379.size; simp; omega))
      refine WD.semU 19 (Instr.storeAt 44 (.pointer (some ⟨p, 0, none⟩)) (.slice A374 (0 + i + (L.length - (i + 1))) c375)) (by kernel_rfl) (by kernel_rfl) hr383 hS386 ?_
      have ho387 := own_fr ho380 hF384 (hC371.apartM 0 0 rfl rfl)
      have ho388 := own_fr ho381 hF384 (blk_al (n1 := L.length) (c1 := c1) (hC371.apartM 0 0 rfl rfl))
      have ho389 := own_fr ho377 hF384 (hC371.apartM 1 0 rfl rfl)
      refine WD.done (by kernel_rfl) ?_
      refine (hret _ _ _ rfl ?_).2
      clear hN hret hret' 
      have hown_ := ho389
      rw [List.nil_append, erase_td] at hown_
      exact ⟨_, rfl, hC385.fr, df_mk hC385 0 1 rfl rfl hown_, fun x_ hx_ => (List.mem_cons.1 hx_).elim (fun e_ => by subst e_; exact .inl List.mem_cons_self) (fun h_ => hC385.ownF _ (List.mem_of_getElem? (show _[1]? = some (blk (.slice A374 (0 + i + (L.length - (i + 1))) c375)) from rfl)) x_ h_)⟩
    · -- operation 5 comes first
      refine WO.sem 5 (Instr.loadAt 44 (.pointer (some ⟨p, 0, none⟩))) 9 (.slice A1 L.length c1) (by kernel_rfl) (by kernel_rfl) (run_ld (hC3.get 0 rfl) rfl) hS4 ?_
      have hle_ := own_le ho5
      have hb390 : i ≤ c1 := by omega
      refine WD.slc hN 7 44 34 10 A1 A1 L.length c1 0 i i c1 none (some (.int .i64 (i : Int))) 11 (by kernel_rfl) (by kernel_rfl) (by kernel_rfl) bnd.no (bnd.yes (by omega)) (by omega) hb390 (slcAt_pre _ _ _) (by first | rfl | omega) (by first | rfl | omega) hS4 ?_
      have ho391 := own_takeE (m := i) cellsE_len ho5 (by omega)
      refine WD.new 1 (fun b => .slice (some ⟨b, 0, none⟩) 0 0) (.cells #[] 34) (by kernel_rfl) rfl rfl rfl rfl rfl (fun _ => by kernel_rfl) (fun g393 w394 hb397 hl398 hF395 ho399 => ?_)
      have hC396 := hC3.callB hF395 hb397 ho399
      have hS400 := hS4.trans hF395 (by simp)
      refine ⟨hS400, ?_⟩
      have ho401 := own_fr ho5 hF395 (by simp)
      have hf402 := hf6.trans hF395 (by simp)
      have ho403 := own_fr ho391 hF395 (by simp)
      have ho405 : World.ownsRow w394 0 34 10 (.slice (some ⟨g393, 0, none⟩) 0 0) 0 [] := own_of_blk (Nat.zero_le _) (hC396.get 1 rfl) (Nat.le_refl _) (Nat.zero_le _) (by simp) rfl
      have hC404 := hC396.toF 1 rfl
      obtain ⟨v407, w408, hr409, ho410, hF411, hC412, hnil413, hsub414⟩ := app_run Try.prog hC404 1 (v := .slice (some ⟨g393, 0, none⟩) 0 0) rfl 44 44 34 10 72 0 i c1 A1 rfl ho405 ((L.take i).flatMap cellsE) (flat_len_n cellsE_len (own_count cellsE_len (by decide) ho403)) (Rd.src_n (own_rd ho403 cellsE_len (by decide)) cellsE_len (by decide) (own_count cellsE_len (by decide) ho403)) (flat_one cellsE_one _) (by simp only [maxLen]; omega) (by omega)
      have ho418 := own_app (enc := cellsE) (ys := []) (zs := L.take i) ho410
      obtain ⟨A415, c416, rfl, hle417⟩ := own_form ho418
      have hge419 : ∀ x_ ∈ blk (.slice (some ⟨g393, 0, none⟩) 0 0), w1.heap.size ≤ x_ := by first | (simp [blk, Value.ownBlock, *]; done) | (intro x_ hx_; simp [blk, Value.ownBlock] at hx_; omega)
      have hge420 : ∀ x_ ∈ blk (.slice A415 (0 + i) c416), w1.heap.size ≤ x_ := fun x_ hx_ => (hsub414 x_ hx_).elim (hge419 x_) (fun h_ => Nat.le_trans hS400.size h_)
      have hS421 := hS400.trans hF411 (fun x_ hx_ => .inr (hge419 x_ hx_))
      refine WD.sem 8 (Builtin.append_ #[44, 44] 44 #[.slice (some ⟨g393, 0, none⟩) 0 0, .slice A1 i c1]) 12 (.slice A415 (0 + i) c416) (by kernel_rfl) (by kernel_rfl) hr409 hS421 ?_
      have ho422 := own_fr ho401 hF411 (hC404.disj 0 1 rfl rfl (by decide))
      have ho423 := own_fr ho403 hF411 (blk_al (n1 := L.length) (c1 := c1) (hC404.disj 0 1 rfl rfl (by decide)))
      obtain ⟨v424, w425, hr426, ho427, hF428, hC429, hnil430, hsub431⟩ := app_run Try.prog hC412 1 (v := .slice A415 (0 + i) c416) rfl 44 44 34 10 72 (0 + i) (L.length - (i + 1)) (c1 - (i + 1)) A330 rfl ho418 (((L.take L.length).drop (i + 1)).flatMap cellsE) (flat_len_n cellsE_len (by have h_ := own_count cellsE_len (by decide) ho422; simp only [List.length_drop, List.length_take]; omega)) (Rd.src_n (Rd.slc (own_rd ho422 cellsE_len (by decide)) (i + 1) L.length c1 hb332 hA331) cellsE_len (by decide) (by have h_ := own_count cellsE_len (by decide) ho422; simp only [List.length_drop, List.length_take]; omega)) (flat_one cellsE_one _) (by simp only [maxLen]; omega) (by omega)
      have ho435 := own_app (enc := cellsE) (ys := [] ++ (L.take i)) (zs := (L.take L.length).drop (i + 1)) ho427
      obtain ⟨A432, c433, rfl, hle434⟩ := own_form ho435
      have hge436 : ∀ x_ ∈ blk (.slice A432 (0 + i + (L.length - (i + 1))) c433), w1.heap.size ≤ x_ := fun x_ hx_ => (hsub431 x_ hx_).elim (hge420 x_) (fun h_ => Nat.le_trans hS421.size h_)
      have hS437 := hS421.trans hF428 (fun x_ hx_ => .inr (hge420 x_ hx_))
      refine WD.sem 16 (Builtin.append_ #[44, 44] 44 #[.slice A415 (0 + i) c416, .slice A330 (L.length - (i + 1)) (c1 - (i + 1))]) 20 (.slice A432 (0 + i + (L.length - (i + 1))) c433) (by kernel_rfl) (by kernel_rfl) hr426 hS437 ?_
      have ho438 := own_fr ho422 hF428 (hC412.disj 0 1 rfl rfl (by decide))
      have ho439 := own_fr ho423 hF428 (blk_al (n1 := L.length) (c1 := c1) (hC412.disj 0 1 rfl rfl (by decide)))
      refine WD.pure hN 17 21 (.pointer (some ⟨p, 0, none⟩)) (by kernel_rfl) (fun _ => by kernel_rfl) hS437 ?_
      refine WD.pure hN 18 22 (.pointer (some ⟨p, 0, none⟩)) (by kernel_rfl) (fun _ => by kernel_rfl) hS437 ?_
      obtain ⟨w440, hr441, hF442, hC443⟩ := sto_run (c' := #[.slice A432 (0 + i + (L.length - (i + 1))) c433, .int .i64 tr, .int .i64 un]) Try.prog hC429 0 44 p 0 (.slice A432 (0 + i + (L.length - (i + 1))) c433) rfl (by kernel_rfl)
      have hS444 := hS437.trans hF442 (by first | (simp; done) | (simp [*]; done) | (have q_ := hS437.size; simp; omega))
      refine WD.semU 19 (Instr.storeAt 44 (.pointer (some ⟨p, 0, none⟩)) (.slice A432 (0 + i + (L.length - (i + 1))) c433)) (by kernel_rfl) (by kernel_rfl) hr441 hS444 ?_
      have ho445 := own_fr ho438 hF442 (hC429.apartM 0 0 rfl rfl)
      have ho446 := own_fr ho439 hF442 (blk_al (n1 := L.length) (c1 := c1) (hC429.apartM 0 0 rfl rfl))
      have ho447 := own_fr ho435 hF442 (hC429.apartM 1 0 rfl rfl)
      refine WD.done (by kernel_rfl) ?_
      refine (hret _ _ _ rfl ?_).2
      clear hN hret hret' 
      have hown_ := ho447
      rw [List.nil_append, erase_td] at hown_
      exact ⟨_, rfl, hC443.fr, df_mk hC443 0 1 rfl rfl hown_, fun x_ hx_ => (List.mem_cons.1 hx_).elim (fun e_ => by subst e_; exact .inl List.mem_cons_self) (fun h_ => hC443.ownF _ (List.mem_of_getElem? (show _[1]? = some (blk (.slice A432 (0 + i + (L.length - (i + 1))) c433)) from rfl)) x_ h_)⟩

theorem ent_eq {a b : Ent} : a = b ↔ a.flow.proto = b.flow.proto ∧ a.flow.src = b.flow.src ∧ a.flow.sport = b.flow.sport ∧ a.flow.dst = b.flow.dst ∧ a.flow.dport = b.flow.dport ∧ a.dip = b.dip ∧ a.epoch = b.epoch ∧ a.trusted = b.trusted ∧ a.closing = b.closing ∧ a.last = b.last := by
  obtain ⟨⟨_, _, _, _, _⟩, _, _, _, _, _⟩ := a
  obtain ⟨⟨_, _, _, _, _⟩, _, _, _, _, _⟩ := b
  simp [and_assoc]
theorem takeE_same {xs ys : List Ent} {k : Nat} {x y : Ent} (h : xs.take k = ys.take k) (hx : xs[k]? = some x) (hy : ys[k]? = some y) (e : x = y) : xs.take (k + 1) = ys.take (k + 1) := by
  rw [take_step hx, take_step hy, h, e]
theorem sameE_end {xs ys : List Ent} {k : Nat} (h : xs.take k = ys.take k) (hk : xs.length ≤ k) (hl : xs.length = ys.length) : xs = ys := by
  rwa [List.take_of_length_le hk, List.take_of_length_le (by omega)] at h
theorem SameE_ct (A : Option Addr) (c : Nat) (xs : List Ent) (B : Option Addr) (c2 : Nat) (ys : List Ent) (w : World) (hr : Rd w 10 cellsE A xs) (hr2 : Rd w 10 cellsE B ys) (hm : xs.length < 2 ^ 41) : Calls Try.prog 29 #[.slice A xs.length c, .slice B ys.length c2] w fun e w' => e = .returned (.bool (decide (xs = ys))) ∧ Fr w w' [] := by
  refine enterD (n := 26) Try.func29 rfl rfl (Nat.le_of_ble_eq_true rfl) ?_
  intro Q0 hN hret hret'
  have hC := Cx.start w
  refine WC.seq (fun K1 hK2 => ?_)
  refine WC.region ?_
  refine WL.runs 1 [(4, .bool false)] (fun _ => by kernel_rfl) ?_
  refine WL.done rfl ?_
  refine QX.then_normal (hK2 _ _ ?_)
  refine WC.seq (fun K3 hK4 => ?_)
  refine WC.seq (fun K5 hK6 => ?_)
  refine WC.region ?_
  refine WL.runs 5 [(10, .bool ((xs.length : Int) != (ys.length : Int))), (9, .int .i64 (ys.length : Int)), (8, .slice B ys.length c2), (7, .int .i64 (xs.length : Int)), (6, .slice A xs.length c)] (fun _ => by kernel_rfl) ?_
  refine WL.done rfl ?_
  refine QX.then_normal (hK6 _ _ ?_)
  refine WC.test_at 10 ((xs.length : Int) != (ys.length : Int)) rfl (fun t7b => ?_) (fun t7b => ?_)
  · -- (xs.length : Int) ≠ (ys.length : Int): true
    have t7 : (xs.length : Int) ≠ (ys.length : Int) := by simpa using t7b
    refine WC.cond_true rfl ?_
    refine WC.seq (fun K8 hK9 => ?_)
    refine WC.region ?_
    refine WL.runs 1 [(4, .bool false)] (fun _ => by kernel_rfl) ?_
    refine WL.done rfl ?_
    refine QX.then_normal (hK9 _ _ ?_)
    refine WC.ret ?_
    refine QX.then_ret ?_
    refine (hret _ _ _ rfl ?_).1
    clear hN hret hret' hK9 hK6 hK4 hK2
    exact ⟨by rw [decide_eq_false (fun e_ => by have := congrArg List.length e_; omega)]; rfl, hC.fr⟩
  · -- (xs.length : Int) ≠ (ys.length : Int): false
    have t7 : (xs.length : Int) = (ys.length : Int) := by simpa using t7b
    refine WC.cond_false rfl ?_
    refine WC.skip ?_
    refine QX.then_normal (hK4 _ _ ?_)
    refine WC.seq (fun K10 hK11 => ?_)
    refine WC.seq (fun K12 hK13 => ?_)
    refine WC.region ?_
    refine WL.runs 1 [(5, .int .i64 0)] (fun _ => by kernel_rfl) ?_
    refine WL.done rfl ?_
    refine QX.then_normal (hK13 _ _ ?_)
    refine WC.block ?_
    refine WC.loop (fun m_ E_ w_ => ∃ (k : Nat), m_ = xs.length - k ∧ E_ = [(0, .slice A xs.length c), (1, .slice B ys.length c2), (5, .int .i64 (k : Int)), (6, .slice A xs.length c), (7, .int .i64 (xs.length : Int)), (8, .slice B ys.length c2), (9, .int .i64 (ys.length : Int)), (10, .bool false)] ∧ Cx w [] w_ [] [] ∧ (k ≤ xs.length ∧ xs.take k = ys.take k)) ⟨_, _, ⟨0, rfl, rfl, hC, Nat.zero_le _, rfl⟩, sub_of ⟨rfl, rfl, rfl, rfl, rfl, rfl, rfl, rfl, trivial⟩⟩ (fun m17 E_ w18 K14 hK15 hI16 => ?_)
    obtain ⟨k, rfl, rfl, hC19, hk, hsame⟩ := hI16
    refine WC.seq (fun K20 hK21 => ?_)
    refine WC.seq (fun K22 hK23 => ?_)
    refine WC.region ?_
    refine WL.runs 4 [(14, .bool (decide ((k : Int) < (xs.length : Int)))), (13, .int .i64 (xs.length : Int)), (12, .slice A xs.length c), (11, .int .i64 (k : Int))] (fun _ => by kernel_rfl) ?_
    refine WL.done rfl ?_
    refine QX.then_normal (hK23 _ _ ?_)
    refine WC.test_at 14 (decide ((k : Int) < (xs.length : Int))) rfl (fun t24b => ?_) (fun t24b => ?_)
    · -- (k : Int) < (xs.length : Int): true
      have t24 : (k : Int) < (xs.length : Int) := by have q_ := of_decide_eq_true t24b; omega
      refine WC.cond_true rfl ?_
      refine WC.skip ?_
      refine QX.then_normal (hK21 _ _ ?_)
      refine WC.seq (fun K25 hK26 => ?_)
      refine WC.block ?_
      refine WC.seq (fun K27 hK28 => ?_)
      refine WC.drawC hC19 [] (by kernel_rfl) (fun w29 hF30 hC31 hS32 => ?_)
      refine WD.pure (NoPanic.then (NoPanic.block (NoPanic.then (NoPanic.then (NoPanic.block (NoPanic.then hN)))))) 0 17 (.slice A xs.length c) (by kernel_rfl) (fun _ => by kernel_rfl) hS32 ?_
      refine WD.pure (NoPanic.then (NoPanic.block (NoPanic.then (NoPanic.then (NoPanic.block (NoPanic.then hN)))))) 1 18 (.int .i64 (k : Int)) (by kernel_rfl) (fun _ => by kernel_rfl) hS32 ?_
      obtain ⟨e33, he34⟩ := get_some (xs := xs) (i := k) (by omega)
      obtain ⟨b35, o37, hA36, hc38⟩ := hr.at_ _ _ he34
      refine WD.index (NoPanic.then (NoPanic.block (NoPanic.then (NoPanic.then (NoPanic.block (NoPanic.then hN)))))) 2 A xs.length c 19 .i64 (k : Int) b35 o37 k 10 (by kernel_rfl) (by kernel_rfl) hA36 (by omega) (by omega) (o37 + k * 10) (by first | (simp; done) | omega) hS32 ?_
      refine WD.pure (NoPanic.then (NoPanic.block (NoPanic.then (NoPanic.then (NoPanic.block (NoPanic.then hN)))))) 4 21 (.slice B ys.length c2) (by kernel_rfl) (fun _ => by kernel_rfl) hS32 ?_
      refine WD.pure (NoPanic.then (NoPanic.block (NoPanic.then (NoPanic.then (NoPanic.block (NoPanic.then hN)))))) 5 22 (.int .i64 (k : Int)) (by kernel_rfl) (fun _ => by kernel_rfl) hS32 ?_
      obtain ⟨e39, he40⟩ := get_some (xs := ys) (i := k) (by omega)
      obtain ⟨b41, o43, hA42, hc44⟩ := hr2.at_ _ _ he40
      refine WD.index (NoPanic.then (NoPanic.block (NoPanic.then (NoPanic.then (NoPanic.block (NoPanic.then hN)))))) 6 B ys.length c2 23 .i64 (k : Int) b41 o43 k 10 (by kernel_rfl) (by kernel_rfl) hA42 (by omega) (by omega) (o43 + k * 10) (by first | (simp; done) | omega) hS32 ?_
      refine WD.load (NoPanic.then (NoPanic.block (NoPanic.then (NoPanic.then (NoPanic.block (NoPanic.then hN)))))) 3 34 (.pointer (some ⟨b35, o37 + k * 10, none⟩)) (.agg #[.int .i64 e33.flow.proto, .int .u32 e33.flow.src, .int .i64 e33.flow.sport, .int .u32 e33.flow.dst, .int .i64 e33.flow.dport, .int .u32 e33.dip, .int .i64 e33.epoch, .bool e33.trusted, .bool e33.closing, .int .i64 e33.last]) 20 (by kernel_rfl) (by kernel_rfl) (fun _ hS_ => run_rdN (l := [.int .i64 e33.flow.proto, .int .u32 e33.flow.src, .int .i64 e33.flow.sport, .int .u32 e33.flow.dst, .int .i64 e33.flow.dport, .int .u32 e33.dip, .int .i64 e33.epoch, .bool e33.trusted, .bool e33.closing, .int .i64 e33.last]) rfl rfl (fun j u hu => by have hq_ := Fr.cell hS_ (hC31.fr.cell (hc38 j u hu) (by simp)) (by simp); simpa [Nat.add_assoc] using hq_)) hS32 ?_
      refine WD.load (NoPanic.then (NoPanic.block (NoPanic.then (NoPanic.then (NoPanic.block (NoPanic.then hN)))))) 7 34 (.pointer (some ⟨b41, o43 + k * 10, none⟩)) (.agg #[.int .i64 e39.flow.proto, .int .u32 e39.flow.src, .int .i64 e39.flow.sport, .int .u32 e39.flow.dst, .int .i64 e39.flow.dport, .int .u32 e39.dip, .int .i64 e39.epoch, .bool e39.trusted, .bool e39.closing, .int .i64 e39.last]) 24 (by kernel_rfl) (by kernel_rfl) (fun _ hS_ => run_rdN (l := [.int .i64 e39.flow.proto, .int .u32 e39.flow.src, .int .i64 e39.flow.sport, .int .u32 e39.flow.dst, .int .i64 e39.flow.dport, .int .u32 e39.dip, .int .i64 e39.epoch, .bool e39.trusted, .bool e39.closing, .int .i64 e39.last]) rfl rfl (fun j u hu => by have hq_ := Fr.cell hS_ (hC31.fr.cell (hc44 j u hu) (by simp)) (by simp); simpa [Nat.add_assoc] using hq_)) hS32 ?_
      have hr45 : ∀ w_, Sem.run Try.prog (do eqGuard .neq 34 (Operand.tmp 20) (Operand.tmp 24) (.agg #[.int .i64 e33.flow.proto, .int .u32 e33.flow.src, .int .i64 e33.flow.sport, .int .u32 e33.flow.dst, .int .i64 e33.flow.dport, .int .u32 e33.dip, .int .i64 e33.epoch, .bool e33.trusted, .bool e33.closing, .int .i64 e33.last]) (.agg #[.int .i64 e39.flow.proto, .int .u32 e39.flow.src, .int .i64 e39.flow.sport, .int .u32 e39.flow.dst, .int .i64 e39.flow.dport, .int .u32 e39.dip, .int .i64 e39.epoch, .bool e39.trusted, .bool e39.closing, .int .i64 e39.last]); binOp .neq 34 (.agg #[.int .i64 e33.flow.proto, .int .u32 e33.flow.src, .int .i64 e33.flow.sport, .int .u32 e33.flow.dst, .int .i64 e33.flow.dport, .int .u32 e33.dip, .int .i64 e33.epoch, .bool e33.trusted, .bool e33.closing, .int .i64 e33.last]) (.agg #[.int .i64 e39.flow.proto, .int .u32 e39.flow.src, .int .i64 e39.flow.sport, .int .u32 e39.flow.dst, .int .i64 e39.flow.dport, .int .u32 e39.dip, .int .i64 e39.epoch, .bool e39.trusted, .bool e39.closing, .int .i64 e39.last])) w_ = .ok (.bool (!((e33.flow.proto == e39.flow.proto && (e33.flow.src == e39.flow.src && (e33.flow.sport == e39.flow.sport && (e33.flow.dst == e39.flow.dst && (e33.flow.dport == e39.flow.dport && true))))) && (e33.dip == e39.dip && (e33.epoch == e39.epoch && (e33.trusted == e39.trusted && (e33.closing == e39.closing && (e33.last == e39.last && true)))))))) w_ := fun w_ => (run_neq_N (by kernel_rfl) (by kernel_rfl))
      refine WD.semP (NoPanic.then (NoPanic.block (NoPanic.then (NoPanic.then (NoPanic.block (NoPanic.then hN)))))) 8 (do eqGuard .neq 34 (Operand.tmp 20) (Operand.tmp 24) (.agg #[.int .i64 e33.flow.proto, .int .u32 e33.flow.src, .int .i64 e33.flow.sport, .int .u32 e33.flow.dst, .int .i64 e33.flow.dport, .int .u32 e33.dip, .int .i64 e33.epoch, .bool e33.trusted, .bool e33.closing, .int .i64 e33.last]) (.agg #[.int .i64 e39.flow.proto, .int .u32 e39.flow.src, .int .i64 e39.flow.sport, .int .u32 e39.flow.dst, .int .i64 e39.flow.dport, .int .u32 e39.dip, .int .i64 e39.epoch, .bool e39.trusted, .bool e39.closing, .int .i64 e39.last]); binOp .neq 34 (.agg #[.int .i64 e33.flow.proto, .int .u32 e33.flow.src, .int .i64 e33.flow.sport, .int .u32 e33.flow.dst, .int .i64 e33.flow.dport, .int .u32 e33.dip, .int .i64 e33.epoch, .bool e33.trusted, .bool e33.closing, .int .i64 e33.last]) (.agg #[.int .i64 e39.flow.proto, .int .u32 e39.flow.src, .int .i64 e39.flow.sport, .int .u32 e39.flow.dst, .int .i64 e39.flow.dport, .int .u32 e39.dip, .int .i64 e39.epoch, .bool e39.trusted, .bool e39.closing, .int .i64 e39.last])) 25 (.bool (!((e33.flow.proto == e39.flow.proto && (e33.flow.src == e39.flow.src && (e33.flow.sport == e39.flow.sport && (e33.flow.dst == e39.flow.dst && (e33.flow.dport == e39.flow.dport && true))))) && (e33.dip == e39.dip && (e33.epoch == e39.epoch && (e33.trusted == e39.trusted && (e33.closing == e39.closing && (e33.last == e39.last && true)))))))) (by kernel_rfl) (by kernel_rfl) (fun _ _ => hr45 _) hS32 ?_
      refine WD.done (by kernel_rfl) ?_
      refine QX.then_normal (hK28 _ _ ?_)
      refine WC.test_at 25 (!((e33.flow.proto == e39.flow.proto && (e33.flow.src == e39.flow.src && (e33.flow.sport == e39.flow.sport && (e33.flow.dst == e39.flow.dst && (e33.flow.dport == e39.flow.dport && true))))) && (e33.dip == e39.dip && (e33.epoch == e39.epoch && (e33.trusted == e39.trusted && (e33.closing == e39.closing && (e33.last == e39.last && true))))))) rfl (fun t46b => ?_) (fun t46b => ?_)
      · -- (!((e33.flow.proto == e39.flow.proto && (e33.flow.src == e39.flow.src && (e33.flow.sport == e39.flow.sport && (e33.flow.dst == e39.flow.dst && (e33.flow.dport == e39.flow.dport && true))))) && (e33.dip == e39.dip && (e33.epoch == e39.epoch && (e33.trusted == e39.trusted && (e33.closing == e39.closing && (e33.last == e39.last && true))))))) = true: true
        have t46 : ((e33.flow.proto == e39.flow.proto && (e33.flow.src == e39.flow.src && (e33.flow.sport == e39.flow.sport && (e33.flow.dst == e39.flow.dst && (e33.flow.dport == e39.flow.dport && true))))) && (e33.dip == e39.dip && (e33.epoch == e39.epoch && (e33.trusted == e39.trusted && (e33.closing == e39.closing && (e33.last == e39.last && true)))))) = false := by first | (simpa only [Bool.not_eq_true', Bool.not_eq_false'] using t46b) | simpa using t46b
        have hdiff_ := t46b
        refine WC.cond_true rfl ?_
        refine WC.seq (fun K47 hK48 => ?_)
        refine WC.region ?_
        refine WL.runs 1 [(4, .bool false)] (fun _ => by kernel_rfl) ?_
        refine WL.done rfl ?_
        refine QX.then_normal (hK48 _ _ ?_)
        refine WC.ret ?_
        refine QX.block_ret ?_
        refine QX.then_ret ?_
        refine QX.then_ret ?_
        refine QX.block_ret ?_
        refine QX.then_ret ?_
        refine (hret _ _ _ rfl ?_).1
        clear hN hret hret' hK48 hK28 hK26 hK23 hK21 hK13 hK11 hK6 hK4 hK2
        have hne_ : ¬ xs = ys := fun e_ => by
          rw [e_, he40] at he34
          simp only [Option.some.injEq] at he34
          rw [he34] at hdiff_
          simp at hdiff_
        exact ⟨by rw [decide_eq_false hne_]; rfl, hC31.fr⟩
      · -- (!((e33.flow.proto == e39.flow.proto && (e33.flow.src == e39.flow.src && (e33.flow.sport == e39.flow.sport && (e33.flow.dst == e39.flow.dst && (e33.flow.dport == e39.flow.dport && true))))) && (e33.dip == e39.dip && (e33.epoch == e39.epoch && (e33.trusted == e39.trusted && (e33.closing == e39.closing && (e33.last == e39.last && true))))))) = true: false
        have t46 : ((e33.flow.proto == e39.flow.proto && (e33.flow.src == e39.flow.src && (e33.flow.sport == e39.flow.sport && (e33.flow.dst == e39.flow.dst && (e33.flow.dport == e39.flow.dport && true))))) && (e33.dip == e39.dip && (e33.epoch == e39.epoch && (e33.trusted == e39.trusted && (e33.closing == e39.closing && (e33.last == e39.last && true)))))) = true := by first | (simpa only [Bool.not_eq_true', Bool.not_eq_false'] using t46b) | simpa using t46b
        have hdiff_ := t46b
        refine WC.cond_false rfl ?_
        refine WC.skip ?_
        refine QX.block_normal ?_
        refine QX.then_normal (hK26 _ _ ?_)
        refine WC.region ?_
        refine WL.runs 2 [(16, .int .i64 (IntKind.i64.wrap ((k : Int) + 1))), (15, .int .i64 (k : Int))] (fun _ => by kernel_rfl) ?_
        refine WL.recast (show (.int .i64 (IntKind.i64.wrap ((k : Int) + 1)) : Value) = .int .i64 ((k : Int) + 1) from by rw [wrap_in_i64 ((k : Int) + 1) (by omega) (by omega)]) ?_
        refine WL.runs 1 [(5, .int .i64 ((k : Int) + 1))] (fun _ => by kernel_rfl) ?_
        refine WL.done rfl ?_
        refine QX.then_normal ?_
        have hC49 := hC31.pick [] [] rfl rfl
        refine fun a_ ha_ => hK15 _ _ _ ?_ ⟨k + 1, rfl, rfl, hC49, by omega, takeE_same hsame he34 he40 (ent_eq.2 (by simpa [and_assoc] using hdiff_))⟩ a_ (ha_.weaken (sub_of ⟨rfl, rfl, rfl, rfl, rfl, rfl, rfl, rfl, trivial⟩))
        omega
    · -- (k : Int) < (xs.length : Int): false
      have t24 : (xs.length : Int) ≤ (k : Int) := by have q_ := of_decide_eq_false t24b; omega
      have hdiff_ := t24b
      refine WC.cond_false rfl ?_
      refine WC.exit ?_
      refine QX.then_exit ?_
      refine QX.then_exit ?_
      refine QX.block_hit ?_
      refine QX.then_normal (hK11 _ _ ?_)
      refine WC.seq (fun K50 hK51 => ?_)
      refine WC.region ?_
      refine WL.runs 1 [(4, .bool true)] (fun _ => by kernel_rfl) ?_
      refine WL.done rfl ?_
      refine QX.then_normal (hK51 _ _ ?_)
      refine WC.ret ?_
      refine (hret _ _ _ rfl ?_).1
      clear hN hret hret' hK51 hK23 hK21 hK13 hK11 hK6 hK4 hK2
      exact ⟨by rw [decide_eq_true (sameE_end hsame (by omega) (by omega))]; rfl, hC19.fr⟩

theorem SameE_n (A : Option Addr) (n c : Nat) (xs : List Ent) (B : Option Addr) (n2 c2 : Nat) (ys : List Ent) (w : World) (hr : Rd w 10 cellsE A xs) (hr2 : Rd w 10 cellsE B ys) (h1 : xs.length = n) (h2 : ys.length = n2) (hm : xs.length < 2 ^ 41) : Calls Try.prog 29 #[.slice A n c, .slice B n2 c2] w fun e w' => e = .returned (.bool (decide (xs = ys))) ∧ Fr w w' [] := by subst h1 h2; exact SameE_ct A c xs B c2 ys w hr hr2 hm
theorem RGet_ct (F : List Nat) (p : Nat) (L : List Ent) (tr un : Int) (f : Flow) (w : World) (ht : dfAt w F p L tr un) : Calls Try.prog 23 #[.pointer (some ⟨p, 0, none⟩), .agg #[.int .i64 f.proto, .int .u32 f.src, .int .i64 f.sport, .int .u32 f.dst, .int .i64 f.dport]] w fun e w' => ∃ o fd, e = .returned (.tuple #[.agg #[.int .i64 o.flow.proto, .int .u32 o.flow.src, .int .i64 o.flow.sport, .int .u32 o.flow.dst, .int .i64 o.flow.dport, .int .u32 o.dip, .int .i64 o.epoch, .bool o.trusted, .bool o.closing, .int .i64 o.last], .bool fd]) ∧ Fr w w' [] ∧ RGet L f o fd := by
  refine enterD (n := 20) Try.func23 rfl rfl (Nat.le_of_ble_eq_true rfl) ?_
  intro Q0 hN hret hret'
  have ht0 := ht
  obtain ⟨A1, c1, hp_, ho_, rfl, hn_⟩ := ht
  have hC := Cx.openR hp_ (own_lt ho_) hn_
  have hmx_ := own_max ho_
  refine WC.seq (fun K1 hK2 => ?_)
  refine WC.region ?_
  refine WL.newM hC (fun b => .pointer (some ⟨b, 0, none⟩)) (.cells #[.int .i64 f.proto, .int .u32 f.src, .int .i64 f.sport, .int .u32 f.dst, .int .i64 f.dport] 32) 3 (fun _ => by kernel_rfl) (fun g3 w4 hb7 hF5 hC6 => ?_)
  have ho8 := own_fr ho_ hF5 (by simp)
  have hf9 := SameF.fr (SameF.refl w _ (own_lt ho_)) hF5 (by simp)
  refine WL.newM hC6 (fun b => .pointer (some ⟨b, 0, none⟩)) (.cells #[.int .i64 0, .int .u32 0, .int .i64 0, .int .u32 0, .int .i64 0, .int .u32 0, .int .i64 0, .bool false, .bool false, .int .i64 0] 34) 4 (fun _ => by kernel_rfl) (fun g10 w11 hb14 hF12 hC13 => ?_)
  have ho15 := own_fr ho8 hF12 (by simp)
  have hf16 := SameF.fr hf9 hF12 (by simp)
  refine WL.runs 1 [(5, .bool false)] (fun _ => by kernel_rfl) ?_
  refine WL.done rfl ?_
  refine QX.then_normal (hK2 _ _ ?_)
  refine WC.seq (fun K17 hK18 => ?_)
  refine WC.region ?_
  refine WL.runs 1 [(7, .pointer (some ⟨p, 0, none⟩))] (fun _ => by kernel_rfl) ?_
  refine WL.load 32 (.pointer (some ⟨g3, 0, none⟩)) (.agg #[.int .i64 f.proto, .int .u32 f.src, .int .i64 f.sport, .int .u32 f.dst, .int .i64 f.dport]) 8 (by kernel_rfl) (run_ld (hC13.get 1 rfl) rfl) ?_
  refine WL.call rfl rfl rfl rfl rfl (by kernel_rfl) (RFind_ct _ p L tr un f w11 (df_mk hC13 0 0 rfl rfl ho15)) ?_
  rintro _ w27 ⟨r29, rfl, hF26, hfr25⟩
  have hC28 := hC13.call hF26
  have ho30 := own_fr ho15 hF26 (by simp)
  have hf31 := SameF.fr hf16 hF26 (by simp)
  rcases hfr25 with hnn24 | ⟨i19, x20, hx21, hfx22, hpr23⟩
  · -- found: False
    refine ⟨_, rfl, ?_⟩
    refine WL.runs 1 [(6, .int .i64 (-1))] (fun _ => by kernel_rfl) ?_
    refine WL.done rfl ?_
    refine QX.then_normal (hK18 _ _ ?_)
    refine WC.seq (fun K32 hK33 => ?_)
    refine WC.seq (fun K34 hK35 => ?_)
    refine WC.region ?_
    refine WL.runs 2 [(11, .bool true), (10, .int .i64 (-1))] (fun _ => by kernel_rfl) ?_
    refine WL.done rfl ?_
    refine QX.then_normal (hK35 _ _ ?_)
    refine WC.cond_true rfl ?_
    refine WC.seq (fun K36 hK37 => ?_)
    refine WC.region ?_
    refine WL.runs 1 [(12, .agg #[.int .i64 0, .int .u32 0, .int .i64 0, .int .u32 0, .int .i64 0, .int .u32 0, .int .i64 0, .bool false, .bool false, .int .i64 0])] (fun _ => by kernel_rfl) ?_
    refine WL.storeM (c' := #[.int .i64 0, .int .u32 0, .int .i64 0, .int .u32 0, .int .i64 0, .int .u32 0, .int .i64 0, .bool false, .bool false, .int .i64 0]) hC28 2 34 g10 0 (.agg #[.int .i64 0, .int .u32 0, .int .i64 0, .int .u32 0, .int .i64 0, .int .u32 0, .int .i64 0, .bool false, .bool false, .int .i64 0]) (by kernel_rfl) rfl (by kernel_rfl) (fun w38 hF40 hC41 => ?_)
    have ho42 := own_fr ho30 hF40 (hC28.apartM 0 2 rfl rfl)
    have hf43 := SameF.fr hf31 hF40 (hC28.apartM 0 2 rfl rfl)
    refine WL.runs 1 [(5, .bool false)] (fun _ => by kernel_rfl) ?_
    refine WL.done rfl ?_
    refine QX.then_normal (hK37 _ _ ?_)
    refine WC.ret ?_
    refine QX.then_ret ?_
    refine (hret' _ _ (.tuple #[.agg #[.int .i64 0, .int .u32 0, .int .i64 0, .int .u32 0, .int .i64 0, .int .u32 0, .int .i64 0, .bool false, .bool false, .int .i64 0], .bool false]) (fun a ha => ?_) ?_).1
    · exact res_run ha ((ResR.cell rfl (run_ld (hC41.get 2 rfl) rfl) (ResR.tmp rfl ResR.nil))) rfl
    clear hN hret hret' hK37 hK35 hK33 hK18 hK2
    exact ⟨zeroE, false, rfl, (hC41.fr.shrink (by intro x hx; rcases List.mem_cons.1 hx with rfl | hx; exact (hC41.get 0 rfl).trans hp_.symm; exact (hf43 x hx).2)), .none hnn24⟩
  · -- found: True
    have hil_ := (List.getElem?_eq_some_iff.1 hx21).1
    refine ⟨_, rfl, ?_⟩
    refine WL.runs 1 [(6, .int .i64 (i19 : Int))] (fun _ => by kernel_rfl) ?_
    refine WL.done rfl ?_
    refine QX.then_normal (hK18 _ _ ?_)
    refine WC.seq (fun K44 hK45 => ?_)
    refine WC.seq (fun K46 hK47 => ?_)
    refine WC.region ?_
    refine WL.runs 2 [(11, .bool (decide ((i19 : Int) < 0))), (10, .int .i64 (i19 : Int))] (fun _ => by kernel_rfl) ?_
    refine WL.done rfl ?_
    refine QX.then_normal (hK47 _ _ ?_)
    refine WC.know 11 (.bool (decide ((i19 : Int) < 0))) (.bool false) rfl (congrArg Value.bool (by exact decide_eq_false (by omega))) ?_
    refine WC.cond_false rfl ?_
    refine WC.skip ?_
    refine QX.then_normal (hK45 _ _ ?_)
    refine WC.seq (fun K48 hK49 => ?_)
    refine WC.region ?_
    refine WL.runs 3 [(15, .pointer (some ⟨p, 0, none⟩)), (14, .pointer (some ⟨p, 0, none⟩)), (13, .pointer (some ⟨p, 0, none⟩))] (fun _ => by kernel_rfl) ?_
    refine WL.load 44 (.pointer (some ⟨p, 0, none⟩)) (.slice A1 L.length c1) 16 (by kernel_rfl) (run_ld (hC28.get 0 rfl) rfl) ?_
    refine WL.runs 1 [(17, .int .i64 (i19 : Int))] (fun _ => by kernel_rfl) ?_
    have hn54 := own_count cellsE_len (by decide) ho30
    obtain ⟨e50, he51⟩ := get_some (xs := L) (i := i19) (by omega)
    obtain ⟨b52, hA53⟩ := own_addr (by decide) cellsE_len ho30 he51
    refine WL.index A1 L.length c1 18 .i64 (i19 : Int) b52 0 i19 10 (by kernel_rfl) hA53 (by omega) (by omega) (i19 * 10) (by first | (simp; done) | omega) ?_
    refine WL.load 34 (.pointer (some ⟨b52, i19 * 10, none⟩)) (.agg #[.int .i64 e50.flow.proto, .int .u32 e50.flow.src, .int .i64 e50.flow.sport, .int .u32 e50.flow.dst, .int .i64 e50.flow.dport, .int .u32 e50.dip, .int .i64 e50.epoch, .bool e50.trusted, .bool e50.closing, .int .i64 e50.last]) 19 (by kernel_rfl) (run_rdN (l := [.int .i64 e50.flow.proto, .int .u32 e50.flow.src, .int .i64 e50.flow.sport, .int .u32 e50.flow.dst, .int .i64 e50.flow.dport, .int .u32 e50.dip, .int .i64 e50.epoch, .bool e50.trusted, .bool e50.closing, .int .i64 e50.last]) rfl rfl (fun j u hu => by have hq_ := Rd.cell (own_rd ho30 cellsE_len (by decide)) hA53 he51 j u hu; simpa [Nat.add_assoc] using hq_)) ?_
    refine WL.storeM (c' := #[.int .i64 e50.flow.proto, .int .u32 e50.flow.src, .int .i64 e50.flow.sport, .int .u32 e50.flow.dst, .int .i64 e50.flow.dport, .int .u32 e50.dip, .int .i64 e50.epoch, .bool e50.trusted, .bool e50.closing, .int .i64 e50.last]) hC28 2 34 g10 0 (.agg #[.int .i64 e50.flow.proto, .int .u32 e50.flow.src, .int .i64 e50.flow.sport, .int .u32 e50.flow.dst, .int .i64 e50.flow.dport, .int .u32 e50.dip, .int .i64 e50.epoch, .bool e50.trusted, .bool e50.closing, .int .i64 e50.last]) (by kernel_rfl) rfl (by kernel_rfl) (fun w55 hF57 hC58 => ?_)
    have ho59 := own_fr ho30 hF57 (hC28.apartM 0 2 rfl rfl)
    have hf60 := SameF.fr hf31 hF57 (hC28.apartM 0 2 rfl rfl)
    refine WL.runs 1 [(5, .bool true)] (fun _ => by kernel_rfl) ?_
    refine WL.done rfl ?_
    refine QX.then_normal (hK49 _ _ ?_)
    refine WC.ret ?_
    refine (hret' _ _ (.tuple #[.agg #[.int .i64 e50.flow.proto, .int .u32 e50.flow.src, .int .i64 e50.flow.sport, .int .u32 e50.flow.dst, .int .i64 e50.flow.dport, .int .u32 e50.dip, .int .i64 e50.epoch, .bool e50.trusted, .bool e50.closing, .int .i64 e50.last], .bool true]) (fun a ha => ?_) ?_).1
    · exact res_run ha ((ResR.cell rfl (run_ld (hC58.get 2 rfl) rfl) (ResR.tmp rfl ResR.nil))) rfl
    clear hN hret hret' hK49 hK47 hK45 hK18 hK2
    have hex_ := Option.some.inj (hx21.symm.trans he51)
    subst hex_
    exact ⟨_, true, rfl, (hC58.fr.shrink (by intro x hx; rcases List.mem_cons.1 hx with rfl | hx; exact (hC58.get 0 rfl).trans hp_.symm; exact (hf60 x hx).2)), .some _ _ hx21 hfx22⟩

end Go.Proofs.Ytimphmcoafapgaa
