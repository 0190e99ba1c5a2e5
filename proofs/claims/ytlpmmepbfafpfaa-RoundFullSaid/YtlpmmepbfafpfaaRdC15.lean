/- Contracts of functions of the program, each proved by a walk through its code; conditions stand in the statements. -/
import Derived.Test.YtlpmmepbfafpfaaRdB15
namespace Go.Proofs.Ytlpmmepbfafpfaa
set_option linter.unusedSimpArgs false
set_option linter.unusedVariables false
set_option linter.unusedSectionVars false
open Go Go.RowKit Go.Tw
set_option linter.unusedVariables false
set_option maxRecDepth 20000
structure Rn where
  n : Int
  hv : List Int
  bn : Int
  bd : Int
  want : List Cm
  stage : Int
  sn : Int
  sd : Int
  log : List Cm
deriving DecidableEq
def rdCells (n : Int) (vh : Value) (bn bd : Int) (vw : Value) (stage sn sd : Int) (vl : Value) : Array Value := #[.int .i64 n, vh, .int .i64 bn, .int .i64 bd, vw, .int .i64 stage, .int .i64 sn, .int .i64 sd, vl]
/-- a round: block p, F its blocks -/
def rdAt (w : World) (F : List Nat) (p : Nat) (T : Rn) : Prop :=
  ∃ (Ah : Option Addr) (ch : Nat) (Aw : Option Addr) (cw : Nat) (Al : Option Addr) (cl : Nat), w.heap[p]? = some (.cells (rdCells T.n (.slice Ah T.hv.length ch) T.bn T.bd (.slice Aw T.want.length cw) T.stage T.sn T.sd (.slice Al T.log.length cl)) 77 (0, 0))
    ∧ w.ownsRow 0 3 1 (.slice Ah T.hv.length ch) T.hv.length (T.hv.flatMap (Go.Tw.encI .i64)) ∧ w.ownsRow 0 44 12 (.slice Aw T.want.length cw) T.want.length (T.want.flatMap cellsC) ∧ w.ownsRow 0 44 12 (.slice Al T.log.length cl) T.log.length (T.log.flatMap cellsC)
    ∧ F = p :: (blk (.slice Ah T.hv.length ch) ++ (blk (.slice Aw T.want.length cw) ++ blk (.slice Al T.log.length cl))) ∧ (p ∉ blk (.slice Ah T.hv.length ch) ∧ p ∉ blk (.slice Aw T.want.length cw) ∧ p ∉ blk (.slice Al T.log.length cl))
    ∧ ((∀ x ∈ blk (.slice Ah T.hv.length ch), x ∉ blk (.slice Aw T.want.length cw)) ∧ (∀ x ∈ blk (.slice Ah T.hv.length ch), x ∉ blk (.slice Al T.log.length cl)) ∧ (∀ x ∈ blk (.slice Aw T.want.length cw), x ∉ blk (.slice Al T.log.length cl)))
theorem rdAt_lt {w : World} {F : List Nat} {p : Nat} {T : Rn} (h : rdAt w F p T) : ∀ x ∈ F, x < w.heap.size := by
  obtain ⟨Ah, ch, Aw, cw, Al, cl, h1, h2, h3, h4, rfl, _⟩ := h
  intro x hx
  simp only [List.mem_cons, List.mem_append] at hx
  rcases hx with rfl | hx | hx | hx
  · exact lt_of_heap h1
  · exact own_lt h2 x hx
  · exact own_lt h3 x hx
  · exact own_lt h4 x hx
theorem rdAt_fr {w w' : World} {F : List Nat} {p : Nat} {T : Rn} {G : List Nat} (h : rdAt w F p T) (hf : Fr w w' G) (hd : ∀ x ∈ F, x ∉ G) : rdAt w' F p T := by
  obtain ⟨Ah, ch, Aw, cw, Al, cl, h1, h2, h3, h4, rfl, h5⟩ := h
  exact ⟨Ah, ch, Aw, cw, Al, cl, hf.has h1 (hd p (by simp)), own_fr h2 hf (fun x hx => hd x (by simp [hx])), own_fr h3 hf (fun x hx => hd x (by simp [hx])), own_fr h4 hf (fun x hx => hd x (by simp [hx])), rfl, h5⟩
theorem Cx.open3 {w : World} {p : Nat} {o : Obj} {A B C : List Nat} (hp : w.heap[p]? = some o) (hA : ∀ x ∈ A, x < w.heap.size) (hB : ∀ x ∈ B, x < w.heap.size) (hC : ∀ x ∈ C, x < w.heap.size) (hn : p ∉ A ∧ p ∉ B ∧ p ∉ C) (hd : (∀ x ∈ A, x ∉ B) ∧ (∀ x ∈ A, x ∉ C) ∧ (∀ x ∈ B, x ∉ C)) : Cx w (p :: (A ++ (B ++ C))) w [(p, o)] [A, B, C] := by
  refine ⟨.refl _ _, by simpa using hp, by simp, ?_, ?_, ?_, by simp, ?_⟩
  · simp only [List.pairwise_cons, List.mem_cons, List.not_mem_nil, or_false, List.Pairwise.nil, and_true, forall_eq_or_imp, forall_eq, false_implies, implies_true]
    exact ⟨⟨hd.1, hd.2.1⟩, hd.2.2⟩
  · simp only [List.mem_cons, List.not_mem_nil, or_false, forall_eq_or_imp, forall_eq]
    exact ⟨hn.1, hn.2.1, hn.2.2⟩
  · simp only [List.mem_cons, List.not_mem_nil, or_false, forall_eq_or_imp, forall_eq]
    exact ⟨hA, hB, hC⟩
  · simp only [List.mem_cons, List.not_mem_nil, or_false, forall_eq_or_imp, forall_eq]
    exact ⟨fun x hx => .inl (by simp [hx]), fun x hx => .inl (by simp [hx]), fun x hx => .inl (by simp [hx])⟩
theorem Cx.open1 {w : World} {p : Nat} {o : Obj} {A : List Nat} (hp : w.heap[p]? = some o) (hA : ∀ x ∈ A, x < w.heap.size) (hn : p ∉ A) : Cx w (p :: A) w [(p, o)] [A] :=
  ⟨.refl _ _, by simpa using hp, by simp, by simp, by simpa using hn, by simpa using hA, by simp, by simp; exact fun x hx => .inl (.inr hx)⟩
theorem rd_close {w0 w : World} {F0 : List Nat} {M : List (Nat × Obj)} {Fs : List (List Nat)} (hC : Cx w0 F0 w M Fs) {p : Nat} {T : Rn} {Ah Aw Al : Option Addr} {nh nw nl ch cw cl : Nat} (k jh jw jl : Nat)
    (hM : M[k]? = some (p, .cells (rdCells T.n (.slice Ah nh ch) T.bn T.bd (.slice Aw nw cw) T.stage T.sn T.sd (.slice Al nl cl)) 77 (0, 0))) (hh : Fs[jh]? = some (blk (.slice Ah nh ch))) (hw : Fs[jw]? = some (blk (.slice Aw nw cw))) (hl : Fs[jl]? = some (blk (.slice Al nl cl)))
    (h1 : w.ownsRow 0 3 1 (.slice Ah nh ch) nh (T.hv.flatMap (Go.Tw.encI .i64))) (h2 : w.ownsRow 0 44 12 (.slice Aw nw cw) nw (T.want.flatMap cellsC)) (h3 : w.ownsRow 0 44 12 (.slice Al nl cl) nl (T.log.flatMap cellsC)) (d1 : jh ≠ jw) (d2 : jh ≠ jl) (d3 : jw ≠ jl) :
    ∃ F', rdAt w F' p T ∧ ∀ x ∈ F', x ∈ F0 ∨ w0.heap.size ≤ x := by
  obtain rfl := own_count (Go.Tw.encI_len _) (by decide) h1
  obtain rfl := own_count cellsC_len (by decide) h2
  obtain rfl := own_count cellsC_len (by decide) h3
  refine ⟨_, ⟨Ah, ch, Aw, cw, Al, cl, hC.get k hM, h1, h2, h3, rfl, ⟨hC.notin jh k hh hM, hC.notin jw k hw hM, hC.notin jl k hl hM⟩, hC.disj jh jw hh hw d1, hC.disj jh jl hh hl d2, hC.disj jw jl hw hl d3⟩, fun x hx => ?_⟩
  simp only [List.mem_cons, List.mem_append] at hx
  rcases hx with rfl | hx | hx | hx
  · exact hC.new_ge k hM
  · exact hC.ownF _ (List.mem_of_getElem? hh) x hx
  · exact hC.ownF _ (List.mem_of_getElem? hw) x hx
  · exact hC.ownF _ (List.mem_of_getElem? hl) x hx
def addB (n : Int) (hs : List Int) (node : Int) : Bool := decide (16 ≤ node) && (decide (node < 16 + n) && !hs.contains node)
def lessB (an ad bn bd : Int) : Bool := decide (orI [cmpI an bn, cmpI ad bd] < 0)
def fillL (want log : List Cm) : List Cm := want.foldl (fun L c => if placeN L c = 0 then L ++ [c] else L) log
/-- what a promise makes of a round, and answers -/
def promT (T : Rn) (node an ad : Int) (log : List Cm) : Rn :=
  if T.stage ≠ 1 ∨ addB T.n T.hv node = false then T else
  let T2 : Rn := if lessB T.sn T.sd an ad then { T with hv := T.hv ++ [node], sn := an, sd := ad, log := log } else { T with hv := T.hv ++ [node] }
  if ¬ (T.n < 2 * ((T.hv.length : Int) + 1)) then T2 else
  { T2 with hv := [], log := fillL T2.want T2.log, stage := if 256 < (fillL T2.want T2.log).length then 4 else 2 }
def accT (T : Rn) (node : Int) : Rn :=
  if T.stage ≠ 2 ∨ addB T.n T.hv node = false then T else
  if ¬ (T.n < 2 * ((T.hv.length : Int) + 1)) then { T with hv := T.hv ++ [node] } else { T with hv := T.hv ++ [node], stage := 3 }
theorem contains_idx {xs : List Int} {x : Int} {i : Nat} {e : Int} (he : xs[i]? = some e) (h : x = e) : xs.contains x = true := by
  rw [List.contains_iff_mem]; subst h; exact List.mem_of_getElem? he
theorem contains_all {xs : List Int} {x : Int} (h : (xs.all fun e => !(x == e)) = true) : xs.contains x = false := by
  rw [List.all_eq_true] at h
  rw [← Bool.not_eq_true, List.contains_iff_mem]
  intro hx; have := h x hx; simp at this
theorem all_snoc {xs : List Int} {x : Int} {i : Nat} {e : Int} (he : xs[i]? = some e) (hm : ((xs.take i).all fun e => !(x == e)) = true) (h : ¬ x = e) : ((xs.take (i + 1)).all fun e => !(x == e)) = true := by
  obtain ⟨hi, rfl⟩ := List.getElem?_eq_some_iff.1 he
  rw [List.take_succ_eq_append_getElem hi, List.all_append, hm]; simpa using h
theorem fill_step {want log : List Cm} {i : Nat} {c : Cm} (h : want[i]? = some c) : fillL (want.drop i) log = fillL (want.drop (i + 1)) (if placeN log c = 0 then log ++ [c] else log) := by
  obtain ⟨hi, rfl⟩ := List.getElem?_eq_some_iff.1 h
  rw [List.drop_eq_getElem_cons hi]; rfl
theorem add_no1 {n : Int} {hs : List Int} {node : Int} (h : node < 16) : addB n hs node = false := by unfold addB; rw [decide_eq_false (by omega)]; rfl
theorem add_no2 {n : Int} {hs : List Int} {node : Int} (h : 16 + n ≤ node) : addB n hs node = false := by unfold addB; rw [decide_eq_false (p := node < 16 + n) (by omega)]; simp
theorem add_no3 {n : Int} {hs : List Int} {node : Int} (h : hs.contains node = true) : addB n hs node = false := by unfold addB; rw [h]; simp
theorem add_yes {n : Int} {hs : List Int} {node : Int} (h1 : 16 ≤ node) (h2 : node < 16 + n) (h3 : hs.contains node = false) : addB n hs node = true := by unfold addB; rw [decide_eq_true h1, decide_eq_true h2, h3]; rfl
theorem fill_nil (L : List Cm) : fillL [] L = L := rfl
theorem prom_no {T : Rn} {node an ad : Int} {log : List Cm} (h : T.stage ≠ 1 ∨ addB T.n T.hv node = false) : promT T node an ad log = T := by unfold promT; rw [if_pos h]
theorem prom_few {T : Rn} {node an ad : Int} {log : List Cm} (h1 : T.stage = 1) (h2 : addB T.n T.hv node = true) (h3 : ¬ (T.n < 2 * ((T.hv.length : Int) + 1))) (b : Bool) (hb : lessB T.sn T.sd an ad = b) : promT T node an ad log = (⟨T.n, T.hv ++ [node], T.bn, T.bd, T.want, T.stage, if b then an else T.sn, if b then ad else T.sd, if b then log else T.log⟩ : Rn) := by
  unfold promT
  rw [if_neg (by rw [h1, h2]; simp), hb, if_pos h3]
  cases b <;> rfl
theorem prom_all {T : Rn} {node an ad : Int} {log : List Cm} (h1 : T.stage = 1) (h2 : addB T.n T.hv node = true) (h3 : T.n < 2 * ((T.hv.length : Int) + 1)) (b : Bool) (hb : lessB T.sn T.sd an ad = b) (L : List Cm) (hL : fillL T.want (if b then log else T.log) = L) (st : Int) (hst : st = if 256 < L.length then 4 else 2) : promT T node an ad log = (⟨T.n, [], T.bn, T.bd, T.want, st, if b then an else T.sn, if b then ad else T.sd, L⟩ : Rn) := by
  unfold promT
  rw [if_neg (by rw [h1, h2]; simp), hb]
  subst hst
  cases b
  · simp only [Bool.false_eq_true, if_false] at hL ⊢
    rw [if_neg (by simpa using h3), hL]
  · simp only [if_true] at hL ⊢
    rw [if_neg (by simpa using h3), hL]
theorem acc_no {T : Rn} {node : Int} (h : T.stage ≠ 2 ∨ addB T.n T.hv node = false) : accT T node = T := by unfold accT; rw [if_pos h]
theorem acc_few {T : Rn} {node : Int} (h1 : T.stage = 2) (h2 : addB T.n T.hv node = true) (h3 : ¬ (T.n < 2 * ((T.hv.length : Int) + 1))) : accT T node = (⟨T.n, T.hv ++ [node], T.bn, T.bd, T.want, T.stage, T.sn, T.sd, T.log⟩ : Rn) := by
  unfold accT
  rw [if_neg (by rw [h1, h2]; simp), if_pos h3]
theorem acc_all {T : Rn} {node : Int} (h1 : T.stage = 2) (h2 : addB T.n T.hv node = true) (h3 : T.n < 2 * ((T.hv.length : Int) + 1)) : accT T node = (⟨T.n, T.hv ++ [node], T.bn, T.bd, T.want, 3, T.sn, T.sd, T.log⟩ : Rn) := by
  unfold accT
  rw [if_neg (by rw [h1, h2]; simp), if_neg (by simpa using h3)]
def missL (i : Nat) : List Int := (List.range i).map fun (k : Nat) => 16 + (k : Int)
theorem missL_succ (i : Nat) : missL (i + 1) = missL i ++ [16 + (i : Int)] := by unfold missL; rw [List.range_succ, List.map_append]; rfl
theorem missL_len (i : Nat) : (missL i).length = i := by simp [missL]
def logOf (T : Rn) : List Cm := if T.stage = 2 ∨ T.stage = 3 then T.log else []
def placeOf (T : Rn) : Int := match logOf T, T.want with
  | [], _ => 0
  | _, [] => 0
  | l, c :: _ => placeN l c
theorem logOf_yes {T : Rn} (h : T.stage = 2 ∨ T.stage = 3) : logOf T = T.log := if_pos h
theorem logOf_no {T : Rn} (h1 : T.stage ≠ 2) (h2 : T.stage ≠ 3) : logOf T = [] := if_neg (by rw [not_or]; exact ⟨h1, h2⟩)
theorem placeOf_nil {T : Rn} (h : (logOf T).length = 0 ∨ T.want.length = 0) : placeOf T = 0 := by
  unfold placeOf
  rcases h with h | h
  · rw [List.eq_nil_of_length_eq_zero h]
  · rw [List.eq_nil_of_length_eq_zero h]
    split <;> first | rfl | (rename_i h2 _; cases h2)
theorem placeOf_some {T : Rn} {c : Cm} (h1 : (logOf T).length ≠ 0) (h : T.want[0]? = some c) : placeOf T = placeN (logOf T) c := by
  unfold placeOf
  split
  · rename_i h2; rw [h2] at h1; exact absurd rfl h1
  · rename_i h2 _; rw [h2] at h; cases h
  · rename_i h2 _; rw [h2] at h; cases h; rfl
def misOf (T : Rn) : List Int := if T.stage = 1 ∨ T.stage = 2 then missL T.n.toNat else []
theorem misOf_yes {T : Rn} (h : T.stage = 1 ∨ T.stage = 2) : misOf T = missL T.n.toNat := if_pos h
theorem misOf_no {T : Rn} (h1 : T.stage ≠ 1) (h2 : T.stage ≠ 2) : misOf T = [] := if_neg (by rw [not_or]; exact ⟨h1, h2⟩)
theorem blk_in {A : Option Addr} {n c b off : Nat} (h : A = some ⟨b, off, none⟩) : b ∈ blk (.slice A n c) := by
  subst h; simp [blk, Value.ownBlock]
theorem Index_ct (A : Option Addr) (c : Nat) (xs : List Int) (x : Int) (w : World) (hr : Rd w 1 (Go.Tw.encI .i64) A xs) (hlen : xs.length ≤ 70000) : Calls Try.prog 61 #[.slice A xs.length c, .int .i64 x] w fun e w' => ∃ r : Int, e = .returned (.int .i64 r) ∧ Fr w w' [] ∧ decide (0 ≤ r) = xs.contains x := by
  refine enterD (n := 19) Try.func61 rfl rfl (Nat.le_of_ble_eq_true rfl) ?_
  intro Q0 hN hret hret'
  have hC := Cx.start w
  refine WC.seq (fun K1 hK2 => ?_)
  refine WC.region ?_
  refine WL.runs 1 [(4, .int .i64 0)] (fun _ => by kernel_rfl) ?_
  refine WL.done rfl ?_
  refine QX.then_normal (hK2 _ _ ?_)
  refine WC.seq (fun K3 hK4 => ?_)
  refine WC.seq (fun K5 hK6 => ?_)
  refine WC.region ?_
  refine WL.runs 3 [(8, .int .i64 0), (7, .int .i64 (xs.length : Int)), (6, .slice A xs.length c)] (fun _ => by kernel_rfl) ?_
  refine WL.done rfl ?_
  refine QX.then_normal (hK6 _ _ ?_)
  refine WC.block ?_
  refine WC.loop (fun m_ E_ w_ => ∃ (i : Nat), m_ = xs.length - i ∧ E_ = [(0, .slice A xs.length c), (1, .int .i64 x), (7, .int .i64 (xs.length : Int)), (8, .int .i64 (i : Int))] ∧ Cx w [] w_ [] [] ∧ (i ≤ xs.length ∧ ((xs.take i).all fun e => !(x == e)) = true)) ⟨_, _, ⟨0, rfl, rfl, hC, Nat.zero_le _, rfl⟩, sub_of ⟨rfl, rfl, rfl, rfl, trivial⟩⟩ (fun m10 E_ w11 K7 hK8 hI9 => ?_)
  obtain ⟨i, rfl, rfl, hC12, hi, hall⟩ := hI9
  refine WC.seq (fun K13 hK14 => ?_)
  refine WC.region ?_
  refine WL.runs 1 [(9, .bool (decide ((i : Int) < (xs.length : Int))))] (fun _ => by kernel_rfl) ?_
  refine WL.done rfl ?_
  refine QX.then_normal (hK14 _ _ ?_)
  refine WC.seq (fun K15 hK16 => ?_)
  refine WC.test_at 9 (decide ((i : Int) < (xs.length : Int))) rfl (fun t17b => ?_) (fun t17b => ?_)
  · -- (i : Int) < (xs.length : Int): true
    have t17 : (i : Int) < (xs.length : Int) := by have q_ := of_decide_eq_true t17b; omega
    refine WC.cond_true rfl ?_
    refine WC.skip ?_
    refine QX.then_normal (hK16 _ _ ?_)
    refine WC.seq (fun K18 hK19 => ?_)
    refine WC.block ?_
    refine WC.seq (fun K20 hK21 => ?_)
    refine WC.region ?_
    refine WL.runs 2 [(5, .int .i64 (i : Int)), (10, .int .i64 (i : Int))] (fun _ => by kernel_rfl) ?_
    refine WL.done rfl ?_
    refine QX.then_normal (hK21 _ _ ?_)
    refine WC.seq (fun K22 hK23 => ?_)
    refine WC.region ?_
    refine WL.runs 3 [(13, .int .i64 (i : Int)), (12, .slice A xs.length c), (11, .int .i64 x)] (fun _ => by kernel_rfl) ?_
    obtain ⟨e24, he25⟩ := get_some (xs := xs) (i := i) (by omega)
    obtain ⟨b26, o28, hA27, hc29⟩ := hr.at_ _ _ he25
    refine WL.index A xs.length c 14 .i64 (i : Int) b26 o28 i 1 (by kernel_rfl) hA27 (by omega) (by omega) (o28 + i) (by first | (simp; done) | omega) ?_
    refine WL.load 3 (.pointer (some ⟨b26, o28 + i, none⟩)) (.int .i64 e24) 15 (by kernel_rfl) (run_load1 rfl (by simpa [Nat.add_assoc] using hC12.fr.cell (hc29 0 _ rfl) (by simp))) ?_
    refine WL.runs 1 [(16, .bool (x == e24))] (fun _ => by kernel_rfl) ?_
    refine WL.done rfl ?_
    refine QX.then_normal (hK23 _ _ ?_)
    refine WC.test_at 16 (x == e24) rfl (fun t30b => ?_) (fun t30b => ?_)
    · -- x = e24: true
      have t30 : x = e24 := by simpa using t30b
      refine WC.cond_true rfl ?_
      refine WC.seq (fun K31 hK32 => ?_)
      refine WC.region ?_
      refine WL.runs 2 [(4, .int .i64 (i : Int)), (17, .int .i64 (i : Int))] (fun _ => by kernel_rfl) ?_
      refine WL.done rfl ?_
      refine QX.then_normal (hK32 _ _ ?_)
      refine WC.ret ?_
      refine QX.block_ret ?_
      refine QX.then_ret ?_
      refine QX.then_ret ?_
      refine QX.block_ret ?_
      refine QX.then_ret ?_
      refine (hret _ _ _ rfl ?_).1
      clear hN hret hret' hK32 hK23 hK21 hK19 hK16 hK14 hK6 hK4 hK2
      exact ⟨_, rfl, hC12.fr, by rw [contains_idx he25 (by assumption)]; simp⟩
    · -- x = e24: false
      have t30 : ¬ (x = e24) := by simpa using t30b
      refine WC.cond_false rfl ?_
      refine WC.skip ?_
      refine QX.block_normal ?_
      refine QX.then_normal (hK19 _ _ ?_)
      refine WC.region ?_
      refine WL.runs 1 [(18, .int .i64 (IntKind.i64.wrap ((i : Int) + 1)))] (fun _ => by kernel_rfl) ?_
      refine WL.recast (show (.int .i64 (IntKind.i64.wrap ((i : Int) + 1)) : Value) = .int .i64 ((i : Int) + 1) from by rw [wrap_in_i64 ((i : Int) + 1) (by omega) (by omega)]) ?_
      refine WL.runs 1 [(8, .int .i64 ((i : Int) + 1))] (fun _ => by kernel_rfl) ?_
      refine WL.done rfl ?_
      refine QX.then_normal ?_
      have hC33 := hC12.pick [] [] rfl rfl
      refine fun a_ ha_ => hK8 _ _ _ ?_ ⟨i + 1, rfl, rfl, hC33, by omega, all_snoc he25 hall (by assumption)⟩ a_ (ha_.weaken (sub_of ⟨rfl, rfl, rfl, rfl, trivial⟩))
      omega
  · -- (i : Int) < (xs.length : Int): false
    have t17 : (xs.length : Int) ≤ (i : Int) := by have q_ := of_decide_eq_false t17b; omega
    refine WC.cond_false rfl ?_
    refine WC.exit ?_
    refine QX.then_exit ?_
    refine QX.then_exit ?_
    refine QX.block_hit ?_
    refine QX.then_normal (hK4 _ _ ?_)
    refine WC.seq (fun K34 hK35 => ?_)
    refine WC.region ?_
    refine WL.runs 1 [(4, .int .i64 (-1))] (fun _ => by kernel_rfl) ?_
    refine WL.done rfl ?_
    refine QX.then_normal (hK35 _ _ ?_)
    refine WC.ret ?_
    refine (hret _ _ _ rfl ?_).1
    clear hN hret hret' hK35 hK16 hK14 hK6 hK4 hK2
    rw [take_all (by omega)] at hall
    exact ⟨_, rfl, hC12.fr, by rw [contains_all hall]; rfl⟩

theorem Contains_ct (A : Option Addr) (c : Nat) (xs : List Int) (x : Int) (w : World) (hr : Rd w 1 (Go.Tw.encI .i64) A xs) (hlen : xs.length ≤ 70000) : Calls Try.prog 40 #[.slice A xs.length c, .int .i64 x] w fun e w' => e = .returned (.bool (xs.contains x)) ∧ Fr w w' [] := by
  refine enterD (n := 9) Try.func40 rfl rfl (Nat.le_of_ble_eq_true rfl) ?_
  intro Q0 hN hret hret'
  have hC := Cx.start w
  refine WC.seq (fun K1 hK2 => ?_)
  refine WC.region ?_
  refine WL.runs 1 [(4, .bool false)] (fun _ => by kernel_rfl) ?_
  refine WL.done rfl ?_
  refine QX.then_normal (hK2 _ _ ?_)
  refine WC.seq (fun K3 hK4 => ?_)
  refine WC.region ?_
  refine WL.runs 2 [(6, .int .i64 x), (5, .slice A xs.length c)] (fun _ => by kernel_rfl) ?_
  refine WL.call rfl rfl rfl rfl rfl (by kernel_rfl) (Index_ct A c xs x w (Rd.fr hr hC.fr) hlen) ?_
  rintro _ w8 ⟨r5, rfl, hF7, hrc_⟩
  refine ⟨_, rfl, ?_⟩
  have hC9 := hC.call hF7
  refine WL.runs 2 [(4, .bool (decide (r5 ≥ 0))), (8, .bool (decide (r5 ≥ 0)))] (fun _ => by kernel_rfl) ?_
  refine WL.done rfl ?_
  refine QX.then_normal (hK4 _ _ ?_)
  refine WC.ret ?_
  refine (hret _ _ _ rfl ?_).1
  clear hN hret hret' hK4 hK2
  exact ⟨by show Ending.returned (.bool (decide (_ ≥ (0 : Int)))) = _; rw [← hrc_], hC9.fr⟩

set_option maxHeartbeats 1000000 in
theorem add_ct (p : Nat) (n : Int) (Ah : Option Addr) (ch : Nat) (hs : List Int) (x2 x3 x4 x5 x6 x7 x8 : Value) (node : Int) (w : World) (hp_ : w.heap[p]? = some (.cells #[.int .i64 n, .slice Ah hs.length ch, x2, x3, x4, x5, x6, x7, x8] 77 (0, 0))) (hoh_ : w.ownsRow 0 3 1 (.slice Ah hs.length ch) hs.length (hs.flatMap (Go.Tw.encI .i64))) (hnn_ : p ∉ blk (.slice Ah hs.length ch)) (hn0_ : 1 ≤ n) (hn1_ : n ≤ 8) (hl_ : hs.length ≤ 1000) : Calls Try.prog 24 #[.pointer (some ⟨p, 0, none⟩), .int .i64 node] w fun e w' => ∃ (Ah2 : Option Addr) (ch2 : Nat) (hs2 : List Int), e = .returned (.bool (addB n hs node)) ∧ Fr w w' (p :: blk (.slice Ah hs.length ch)) ∧ hs2 = (if addB n hs node then hs ++ [node] else hs) ∧ w'.heap[p]? = some (.cells #[.int .i64 n, .slice Ah2 hs2.length ch2, x2, x3, x4, x5, x6, x7, x8] 77 (0, 0)) ∧ w'.ownsRow 0 3 1 (.slice Ah2 hs2.length ch2) hs2.length (hs2.flatMap (Go.Tw.encI .i64)) ∧ (∀ x ∈ blk (.slice Ah2 hs2.length ch2), x ∈ blk (.slice Ah hs.length ch) ∨ w.heap.size ≤ x) := by
  refine enterD (n := 34) Try.func24 rfl rfl (Nat.le_of_ble_eq_true rfl) ?_
  intro Q0 hN hret hret'
  have hC := Cx.open1 hp_ (own_lt hoh_) hnn_
  refine WC.seq (fun K1 hK2 => ?_)
  refine WC.region ?_
  refine WL.runs 1 [(4, .bool false)] (fun _ => by kernel_rfl) ?_
  refine WL.done rfl ?_
  refine QX.then_normal (hK2 _ _ ?_)
  refine WC.seq (fun K3 hK4 => ?_)
  refine WC.seq (fun K5 hK6 => ?_)
  refine WC.region ?_
  refine WL.runs 3 [(7, .bool (decide (node < 16))), (6, .bool (decide (node < 16))), (5, .int .i64 node)] (fun _ => by kernel_rfl) ?_
  refine WL.test_at 7 (decide (node < 16)) rfl (fun t7b => ?_) (fun t7b => ?_)
  · -- node < 16: true
    have t7 : node < 16 := by have q_ := of_decide_eq_true t7b; omega
    refine WL.runs 16 [(23, .bool true), (22, undef), (21, undef), (20, undef), (19, undef), (18, undef), (17, undef), (16, .bool true), (15, .bool true), (14, undef), (13, undef), (12, undef), (11, undef), (10, undef), (9, undef), (8, undef)] (fun _ => by kernel_rfl) ?_
    refine WL.done rfl ?_
    refine QX.then_normal (hK6 _ _ ?_)
    refine WC.cond_true rfl ?_
    refine WC.seq (fun K8 hK9 => ?_)
    refine WC.region ?_
    refine WL.runs 1 [(4, .bool false)] (fun _ => by kernel_rfl) ?_
    refine WL.done rfl ?_
    refine QX.then_normal (hK9 _ _ ?_)
    refine WC.ret ?_
    refine QX.then_ret ?_
    refine (hret _ _ _ rfl ?_).1
    clear hN hret hret' hK9 hK6 hK4 hK2
    have hab_ : addB n hs node = false := by first | exact add_no1 (by omega) | exact add_no2 (by omega) | exact add_no3 (by assumption)
    rw [hab_]
    exact ⟨Ah, ch, hs, rfl, (Fr.refl w []).mono (fun _ h_ => nomatch h_), by simp, hC.get 0 rfl, hoh_, fun _ h_ => .inl h_⟩
  · -- node < 16: false
    have t7 : (16 : Int) ≤ node := by have q_ := of_decide_eq_false t7b; omega
    refine WL.runs 4 [(11, .pointer (some ⟨p, 0, none⟩)), (10, .pointer (some ⟨p, 0, none⟩)), (9, .pointer (some ⟨p, 0, none⟩)), (8, .int .i64 node)] (fun _ => by kernel_rfl) ?_
    refine WL.load 3 (.pointer (some ⟨p, 0, none⟩)) (.int .i64 n) 12 (by kernel_rfl) (run_ld (hC.get 0 rfl) rfl) ?_
    refine WL.runs 1 [(13, .int .i64 (IntKind.i64.wrap (16 + n)))] (fun _ => by kernel_rfl) ?_
    refine WL.recast (show (.int .i64 (IntKind.i64.wrap (16 + n)) : Value) = .int .i64 (16 + n) from by rw [wrap_in_i64 (16 + n) (by omega) (by omega)]) ?_
    refine WL.runs 3 [(16, .bool (decide (node ≥ (16 + n)))), (15, .bool (decide (node ≥ (16 + n)))), (14, .bool (decide (node ≥ (16 + n))))] (fun _ => by kernel_rfl) ?_
    refine WL.test_at 16 (decide (node ≥ (16 + n))) rfl (fun t10b => ?_) (fun t10b => ?_)
    · -- node ≥ (16 + n): true
      have t10 : (16 + n) ≤ node := by have q_ := of_decide_eq_true t10b; omega
      refine WL.runs 7 [(23, .bool true), (22, undef), (21, undef), (20, undef), (19, undef), (18, undef), (17, undef)] (fun _ => by kernel_rfl) ?_
      refine WL.done rfl ?_
      refine QX.then_normal (hK6 _ _ ?_)
      refine WC.cond_true rfl ?_
      refine WC.seq (fun K11 hK12 => ?_)
      refine WC.region ?_
      refine WL.runs 1 [(4, .bool false)] (fun _ => by kernel_rfl) ?_
      refine WL.done rfl ?_
      refine QX.then_normal (hK12 _ _ ?_)
      refine WC.ret ?_
      refine QX.then_ret ?_
      refine (hret _ _ _ rfl ?_).1
      clear hN hret hret' hK12 hK6 hK4 hK2
      have hab_ : addB n hs node = false := by first | exact add_no1 (by omega) | exact add_no2 (by omega) | exact add_no3 (by assumption)
      rw [hab_]
      exact ⟨Ah, ch, hs, rfl, (Fr.refl w []).mono (fun _ h_ => nomatch h_), by simp, hC.get 0 rfl, hoh_, fun _ h_ => .inl h_⟩
    · -- node ≥ (16 + n): false
      have t10 : node < (16 + n) := by have q_ := of_decide_eq_false t10b; omega
      refine WL.runs 3 [(19, .pointer (some ⟨p, 1, none⟩)), (18, .pointer (some ⟨p, 0, none⟩)), (17, .pointer (some ⟨p, 0, none⟩))] (fun _ => by kernel_rfl) ?_
      refine WL.load 22 (.pointer (some ⟨p, 1, none⟩)) (.slice Ah hs.length ch) 20 (by kernel_rfl) (run_ld (hC.get 0 rfl) rfl) ?_
      refine WL.runs 1 [(21, .int .i64 node)] (fun _ => by kernel_rfl) ?_
      refine WL.call rfl rfl rfl rfl rfl (by kernel_rfl) (Contains_ct Ah ch hs node w (own_rd hoh_ (Go.Tw.encI_len _) (by decide)) (by first | (simp; done) | omega)) ?_
      rintro _ w14 ⟨rfl, hF13⟩
      refine ⟨_, rfl, ?_⟩
      have hC15 := hC.call hF13
      have ho16 := own_fr hoh_ hF13 (by simp)
      have hf17 := (Fr.refl w []).trans hF13 (by simp)
      refine WL.runs 1 [(23, .bool (hs.contains node))] (fun _ => by kernel_rfl) ?_
      refine WL.done rfl ?_
      refine QX.then_normal (hK6 _ _ ?_)
      refine WC.test_at 23 (hs.contains node) rfl (fun t18b => ?_) (fun t18b => ?_)
      · -- (hs.contains node) = true: true
        refine WC.cond_true rfl ?_
        refine WC.seq (fun K19 hK20 => ?_)
        refine WC.region ?_
        refine WL.runs 1 [(4, .bool false)] (fun _ => by kernel_rfl) ?_
        refine WL.done rfl ?_
        refine QX.then_normal (hK20 _ _ ?_)
        refine WC.ret ?_
        refine QX.then_ret ?_
        refine (hret _ _ _ rfl ?_).1
        clear hN hret hret' hK20 hK6 hK4 hK2
        have hab_ : addB n hs node = false := by first | exact add_no1 (by omega) | exact add_no2 (by omega) | exact add_no3 (by assumption)
        rw [hab_]
        exact ⟨Ah, ch, hs, rfl, hf17.mono (fun _ h_ => nomatch h_), by simp, hC15.get 0 rfl, ho16, fun _ h_ => .inl h_⟩
      · -- (hs.contains node) = true: false
        refine WC.cond_false rfl ?_
        refine WC.skip ?_
        refine QX.then_normal (hK4 _ _ ?_)
        refine WC.seq (fun K21 hK22 => ?_)
        refine WC.region ?_
        refine WL.runs 4 [(27, .pointer (some ⟨p, 1, none⟩)), (26, .pointer (some ⟨p, 0, none⟩)), (25, .pointer (some ⟨p, 0, none⟩)), (24, .pointer (some ⟨p, 0, none⟩))] (fun _ => by kernel_rfl) ?_
        refine WL.load 22 (.pointer (some ⟨p, 1, none⟩)) (.slice Ah hs.length ch) 28 (by kernel_rfl) (run_ld (hC15.get 0 rfl) rfl) ?_
        refine WL.runs 1 [(29, .int .i64 node)] (fun _ => by kernel_rfl) ?_
        refine WL.newM hC15 (fun b => .slice (some ⟨b, 0, none⟩) 1 1) (.cells #[.int .i64 node] 3) 30 (fun _ => by kernel_rfl) (fun g23 w24 hb27 hF25 hC26 => ?_)
        have ho28 := own_fr ho16 hF25 (by simp)
        have hf29 := hf17.trans hF25 (by simp)
        obtain ⟨v30, w31, hr32, ho33, hF34, hC35, hnil36, hsub37⟩ := app_run Try.prog hC26 0 (v := .slice Ah hs.length ch) rfl 22 22 3 1 8 hs.length 1 1 (some ⟨g23, 0, none⟩) rfl ho28 [.int .i64 node] rfl (srcOk.blk 1 (hC26.get 1 rfl)) rfl (by simp only [maxLen]; omega) (by omega)
        have ho41 := own_snoc (enc := (Go.Tw.encI .i64)) (ys := hs) node ho33
        obtain ⟨A38, c39, rfl, hle40⟩ := own_form ho41
        refine WL.sem (Builtin.append_ #[22, 22] 22 #[.slice Ah hs.length ch, .slice (some ⟨g23, 0, none⟩) 1 1]) 31 (.slice A38 (hs.length + 1) c39) (by kernel_rfl) hr32 ?_
        refine WL.runs 2 [(33, .pointer (some ⟨p, 1, none⟩)), (32, .pointer (some ⟨p, 0, none⟩))] (fun _ => by kernel_rfl) ?_
        refine WL.storeM (c' := #[.int .i64 n, .slice A38 (hs.length + 1) c39, x2, x3, x4, x5, x6, x7, x8]) hC35 0 22 p 1 (.slice A38 (hs.length + 1) c39) (by kernel_rfl) rfl (by kernel_rfl) (fun w42 hF44 hC45 => ?_)
        have ho46 := own_fr ho41 hF44 (hC35.apartM 0 0 rfl rfl)
        refine WL.done rfl ?_
        refine QX.then_normal (hK22 _ _ ?_)
        refine WC.seq (fun K47 hK48 => ?_)
        refine WC.region ?_
        refine WL.runs 1 [(4, .bool true)] (fun _ => by kernel_rfl) ?_
        refine WL.done rfl ?_
        refine QX.then_normal (hK48 _ _ ?_)
        refine WC.ret ?_
        refine (hret _ _ _ rfl ?_).1
        clear hN hret hret' hK48 hK22 hK6 hK4 hK2
        have hab_ : addB n hs node = true := add_yes (by omega) (by omega) (by assumption)
        rw [hab_]
        have hcq_ := own_count (Go.Tw.encI_len _) (by decide) ho46
        have hsz_ : hs.length + 1 = (hs ++ [node]).length := by omega
        have hg_ := hC45.get 0 rfl
        have ho_ := ho46
        rw [hsz_] at hg_ ho_
        exact ⟨_, _, hs ++ [node], rfl, hC45.fr, by simp, hg_, ho_, fun x_ hx_ => (hC45.ownF _ (List.mem_of_getElem? (show _ = some _ from (rfl : _[0]? = _))) x_ (by rw [hsz_]; exact hx_)).elim (fun h_ => (List.mem_cons.1 h_).elim (fun e_ => absurd (e_ ▸ hx_) (by rw [← hsz_]; exact hC45.notin 0 0 rfl rfl)) .inl) .inr⟩

theorem most_ct (p : Nat) (n : Int) (Ah : Option Addr) (ch : Nat) (hs : List Int) (x2 x3 x4 x5 x6 x7 x8 : Value)  (w : World) (hp_ : w.heap[p]? = some (.cells #[.int .i64 n, .slice Ah hs.length ch, x2, x3, x4, x5, x6, x7, x8] 77 (0, 0))) (hoh_ : w.ownsRow 0 3 1 (.slice Ah hs.length ch) hs.length (hs.flatMap (Go.Tw.encI .i64))) (hnn_ : p ∉ blk (.slice Ah hs.length ch)) (hn0_ : 1 ≤ n) (hn1_ : n ≤ 8) (hl_ : hs.length ≤ 1000) : Calls Try.prog 26 #[.pointer (some ⟨p, 0, none⟩)] w fun e w' => e = .returned (.bool (decide (n < 2 * (hs.length : Int)))) ∧ Fr w w' [] := by
  refine enterD (n := 14) Try.func26 rfl rfl (Nat.le_of_ble_eq_true rfl) ?_
  intro Q0 hN hret hret'
  have hC := Cx.open1 hp_ (own_lt hoh_) hnn_
  refine WC.seq (fun K1 hK2 => ?_)
  refine WC.region ?_
  refine WL.runs 1 [(2, .bool false)] (fun _ => by kernel_rfl) ?_
  refine WL.done rfl ?_
  refine QX.then_normal (hK2 _ _ ?_)
  refine WC.seq (fun K3 hK4 => ?_)
  refine WC.drawC hC [] (by kernel_rfl) (fun w5 hF6 hC7 hS8 => ?_)
  have ho9 := own_fr hoh_ hF6 (by simp)
  have hf10 := (Fr.refl w []).trans hF6 (by simp)
  refine WD.pure (NoPanic.then hN) 0 3 (.pointer (some ⟨p, 0, none⟩)) (by kernel_rfl) (fun _ => by kernel_rfl) hS8 ?_
  refine WD.pure (NoPanic.then hN) 1 4 (.pointer (some ⟨p, 0, none⟩)) (by kernel_rfl) (fun _ => by kernel_rfl) hS8 ?_
  refine WD.pure (NoPanic.then hN) 2 5 (.pointer (some ⟨p, 1, none⟩)) (by kernel_rfl) (fun _ => by kernel_rfl) hS8 ?_
  refine WD.pure (NoPanic.then hN) 6 9 (.pointer (some ⟨p, 0, none⟩)) (by kernel_rfl) (fun _ => by kernel_rfl) hS8 ?_
  refine WD.pure (NoPanic.then hN) 7 10 (.pointer (some ⟨p, 0, none⟩)) (by kernel_rfl) (fun _ => by kernel_rfl) hS8 ?_
  refine WD.pure (NoPanic.then hN) 8 11 (.pointer (some ⟨p, 0, none⟩)) (by kernel_rfl) (fun _ => by kernel_rfl) hS8 ?_
  refine WD.load (NoPanic.then hN) 3 22 (.pointer (some ⟨p, 1, none⟩)) (.slice Ah hs.length ch) 6 (by kernel_rfl) (by kernel_rfl) (fun _ hS_ => run_ld (Fr.has hS_ (hC7.get 0 rfl) (by simp)) rfl) hS8 ?_
  refine WD.pure (NoPanic.then hN) 4 7 (.int .i64 (hs.length : Int)) (by kernel_rfl) (fun _ => by kernel_rfl) hS8 ?_
  refine WD.pure (NoPanic.then hN) 5 8 (.int .i64 (IntKind.i64.wrap (2 * (hs.length : Int)))) (by kernel_rfl) (fun _ => by kernel_rfl) hS8 ?_
  refine WD.recast (show (.int .i64 (IntKind.i64.wrap (2 * (hs.length : Int))) : Value) = .int .i64 (2 * (hs.length : Int)) from by rw [wrap_in_i64 (2 * (hs.length : Int)) (by omega) (by omega)]) ?_
  refine WD.load (NoPanic.then hN) 9 3 (.pointer (some ⟨p, 0, none⟩)) (.int .i64 n) 12 (by kernel_rfl) (by kernel_rfl) (fun _ hS_ => run_ld (Fr.has hS_ (hC7.get 0 rfl) (by simp)) rfl) hS8 ?_
  refine WD.pure (NoPanic.then hN) 10 13 (.bool (decide ((2 * (hs.length : Int)) > n))) (by kernel_rfl) (fun _ => by kernel_rfl) hS8 ?_
  refine WD.pure (NoPanic.then hN) 11 2 (.bool (decide ((2 * (hs.length : Int)) > n))) (by kernel_rfl) (fun _ => by kernel_rfl) hS8 ?_
  refine WD.done (by kernel_rfl) ?_
  refine QX.then_normal (hK4 _ _ ?_)
  refine WC.ret ?_
  refine (hret _ _ _ rfl ?_).1
  clear hN hret hret' hK4 hK2
  exact ⟨by show Ending.returned (.bool (decide (_ > n))) = _; rfl, hf10⟩

end Go.Proofs.Ytlpmmepbfafpfaa
