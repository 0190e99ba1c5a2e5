/- Contracts of functions of the program, each proved by a walk through its code; conditions stand in the statements. -/
import Derived.Test.YtelmklombehhkaaSbH13
namespace Go.Proofs.Ytelmklombehhkaa
set_option linter.unusedSimpArgs false
set_option linter.unusedVariables false
set_option linter.unusedSectionVars false
open Go Go.RowKit Go.Tw
set_option linter.unusedVariables false
set_option maxRecDepth 20000
def putS (N : Ct) (size : Int) (key : ByteArray) (xs : List Int) : Ct := if putE N size key xs.length = 0 then putL N key xs else N
abbrev badK (k : ByteArray) : Prop := k.size = 0 ∨ 64 < k.size
theorem putE_sm {N : Ct} {key : ByteArray} {tot : Nat} (h : usedL N + tot ≤ 200000) : putE N 1048576 key tot = if badK key then 9 else 0 := by
  have h2 := used_del_le N key
  unfold putE badK
  by_cases hb : key.size = 0 ∨ 64 < key.size
  · rw [if_pos hb, if_pos hb]
  · rw [if_neg hb, if_neg hb, if_pos (by omega)]
theorem putS_sm {N : Ct} {key : ByteArray} {xs : List Int} (h : usedL N + xs.length ≤ 200000) : putS N 1048576 key xs = if badK key then N else putL N key xs := by
  unfold putS
  rw [putE_sm h]
  by_cases hb : badK key <;> simp [hb]
theorem used_putS1 (key : ByteArray) (xs : List Int) (h : xs.length ≤ 65536) : usedL (putS [] 1048576 key xs) ≤ 70000 := by
  rw [putS_sm (by rw [used0]; omega)]
  split
  · rw [used0]; omega
  · rename_i hb; unfold badK at hb; rw [used_put1]; omega
theorem putE_big {N : Ct} {key : ByteArray} {tot : Nat} (h : 1048576 < tot) : putE N 1048576 key tot = if badK key then 9 else 5 := by
  unfold putE badK
  by_cases hb : key.size = 0 ∨ 64 < key.size
  · rw [if_pos hb, if_pos hb]
  · rw [if_neg hb, if_neg hb, if_neg (by omega)]
theorem putS_big {N : Ct} {key : ByteArray} {xs : List Int} (h : 1048576 < xs.length) : putS N 1048576 key xs = N := by
  unfold putS
  rw [putE_big h]
  by_cases hb : badK key <;> simp [hb]
section
variable {a b : ByteArray} {x y : List Int}
theorem ord_e1 (hl : x.length + y.length ≤ 65536 ∨ 4611686018427387904 ≤ x.length + y.length) : putE [] 1048576 a x.length = putE (putS [] 1048576 b y) 1048576 a x.length := by
  rcases hl with hl | hl
  · have := used_putS1 b y (by omega)
    rw [putE_sm (by rw [used0]; omega), putE_sm (by omega)]
  · by_cases hx : 1048576 < x.length
    · rw [putE_big hx, putE_big hx]
    · rw [putS_big (by omega)]
theorem ord_e2 (hl : x.length + y.length ≤ 65536 ∨ 4611686018427387904 ≤ x.length + y.length) : putE (putS [] 1048576 a x) 1048576 b y.length = putE [] 1048576 b y.length := (ord_e1 (a := b) (b := a) (by omega)).symm
theorem ord_cases (hab : a ≠ b) (hl : x.length + y.length ≤ 65536 ∨ 4611686018427387904 ≤ x.length + y.length) : (putS (putS [] 1048576 a x) 1048576 b y = putS (putS [] 1048576 b y) 1048576 a x) ∨ (putS (putS [] 1048576 a x) 1048576 b y = [(a, x), (b, y)] ∧ putS (putS [] 1048576 b y) 1048576 a x = [(b, y), (a, x)]) := by
  rcases hl with hl | hl
  · have h1 := used_putS1 b y (by omega)
    have h2 := used_putS1 a x (by omega)
    rw [putS_sm (key := b) (by omega), putS_sm (key := a) (xs := x) (N := putS [] 1048576 b y) (by omega), putS_sm (key := a) (by rw [used0]; omega), putS_sm (key := b) (N := []) (by rw [used0]; omega)]
    have hba : b ≠ a := fun e => hab e.symm
    by_cases ha : badK a <;> by_cases hb : badK b <;> simp [ha, hb, putL, hab, hba]
  · left
    by_cases hx : 1048576 < x.length
    · rw [putS_big (key := a) hx, putS_big (key := a) hx]
    · rw [putS_big (key := b) (by omega), putS_big (key := b) (by omega)]
theorem ord_perm (hab : a ≠ b) (hl : x.length + y.length ≤ 65536 ∨ 4611686018427387904 ≤ x.length + y.length) : (putS (putS [] 1048576 a x) 1048576 b y).Perm (putS (putS [] 1048576 b y) 1048576 a x) := by
  rcases ord_cases hab hl with h | ⟨h1, h2⟩
  · rw [h]
  · rw [h1, h2]; exact List.Perm.swap _ _ _
theorem ord_look (hab : a ≠ b) (hl : x.length + y.length ≤ 65536 ∨ 4611686018427387904 ≤ x.length + y.length) (k : ByteArray) : lookL (putS (putS [] 1048576 b y) 1048576 a x) k = lookL (putS (putS [] 1048576 a x) 1048576 b y) k := by
  rcases ord_cases hab hl with h | ⟨h1, h2⟩
  · rw [h]
  · rw [h1, h2]
    simp only [lookL]
    by_cases e1 : a = k
    · have e2 : ¬ b = k := fun e => hab (e1.trans e.symm)
      simp [e1, e2]
    · simp [e1]
end
theorem putL_len {κ β : Type} [DecidableEq κ] : ∀ (m : List (κ × β)) (k : κ) (v : β), (putL m k v).length ≤ m.length + 1
  | [], _, _ => by simp [putL]
  | (a, b) :: r, k, v => by
    unfold putL
    split
    · simp
    · have := putL_len r k v
      simp only [List.length_cons]; omega
theorem putS_len (N : Ct) (size : Int) (key : ByteArray) (xs : List Int) : (putS N size key xs).length ≤ N.length + 1 := by
  unfold putS
  split
  · exact putL_len _ _ _
  · omega
theorem keysL_putS2 (a b : ByteArray) (x y : List Int) (s : Int) : (keysL (putS (putS [] s a x) s b y)).length ≤ 2 := by
  rw [keysL_len]
  have h1 := putS_len (putS [] s a x) s b y
  have h2 := putS_len [] s a x
  simp only [List.length_nil] at h2
  omega
def dropN : Ct → List ByteArray → Nat
  | _, [] => 0
  | N, k :: r => (if (lookL N k).isSome then 1 else 0) + dropN (delL N k) r
theorem dropN_le : ∀ (N : Ct) (ks : List ByteArray), dropN N ks ≤ ks.length
  | _, [] => Nat.le_refl _
  | N, k :: r => by
    have := dropN_le (delL N k) r
    simp only [dropN, List.length_cons]
    split <;> omega
theorem rfoot_sub {m m' : Mt} (h : ∀ p ∈ m', p ∈ m) : ∀ x ∈ rfoot m', x ∈ rfoot m := fun x hx => by
  obtain ⟨p, hp, hx⟩ := List.mem_flatMap.1 hx
  exact rfoot_mem (h p hp) hx
theorem drop_fin {w w' : World} {p b1 b2 : Nat} {m1 m2 m3 : Mt} {size : Int} {es1 es2 : Array MapEntry} {c1 c2 : Nat} (hq1 : pairsAt w b1 m1) (hq2 : pairsAt w b2 m2) (hne : p ≠ b1 ∧ p ≠ b2 ∧ b1 ≠ b2) (hft : ∀ x ∈ rfoot m1 ++ rfoot m2, x ∉ [p, b1, b2]) (hf : Fr w w' [p, b1, b2])
    (hp : w'.heap[p]? = some (.cells #[.map (some b1), .map (some b2), .int .i64 size] 70 (0, 0))) (hb1 : w'.heap[b1]? = some (.map es1 c1)) (hm1 : MapOk ekS evB es1 c1 m3) (hb2 : w'.heap[b2]? = some (.map es2 c2)) (hm2 : MapOk ekS evB es2 c2 m2) (h3 : ∀ q ∈ m3, q ∈ m1)
    (hs : 0 ≤ size ∧ size ≤ 67108864) (hu : usedL (ct m3) ≤ usedL (ct m1)) (hu1 : (usedL (ct m1) : Int) ≤ size) (hu2 : (usedL (ct m2) : Int) ≤ size) :
    ∃ F', Fr w w' (p :: b1 :: b2 :: (rfoot m1 ++ rfoot m2)) ∧ stAt w' F' p (ct m3) (ct m2) size ∧ ∀ x ∈ F', x ∈ p :: b1 :: b2 :: (rfoot m1 ++ rfoot m2) ∨ w.heap.size ≤ x := by
  have hr3 := rfoot_sub h3
  have hd1 : ∀ x ∈ rfoot m1, x ∉ [p, b1, b2] := fun x hx => hft x (by simp [hx])
  have k1 : keyOk (ct m3) := fun q hq => by
    obtain ⟨y, hy, rfl⟩ := List.mem_map.1 hq
    exact hq1.keys _ (List.mem_map.2 ⟨y, h3 y hy, rfl⟩)
  have h1 : pairsAt w' b1 m3 := ⟨⟨_, _, hb1, hm1⟩, fun q hq => (hq1.rows q (h3 q hq)).fr hf fun x hx => hd1 x (rfoot_mem (h3 q hq) hx), k1, by omega, fun x hx => Nat.lt_of_lt_of_le (hq1.lt x (hr3 x hx)) hf.size⟩
  have h2 : pairsAt w' b2 m2 := pairs_re hq2 hb2 hm2 hf (fun x hx => hft x (by simp [hx]))
  refine ⟨_, hf.mono (fun x hx => by simp only [List.mem_cons, List.not_mem_nil, or_false] at hx ⊢; rcases hx with h | h | h <;> simp [h]), stAt_mk hp h1 h2 hne (fun x hx => ?_) hs (by omega) hu2, fun x hx => .inl ?_⟩
  · rcases List.mem_append.1 hx with hx | hx
    · exact hd1 x (hr3 x hx)
    · exact hft x (by simp [hx])
  · simp only [List.mem_cons, List.mem_append] at hx ⊢
    rcases hx with h | h | h | h | h
    · exact .inl h
    · exact .inr (.inl h)
    · exact .inr (.inr (.inl h))
    · exact .inr (.inr (.inr (.inl (hr3 x h))))
    · exact .inr (.inr (.inr (.inr h)))
theorem drop_step {ks : List ByteArray} {i : Nat} {k : ByteArray} (h : ks[i]? = some k) : ks.drop i = k :: ks.drop (i + 1) := by
  obtain ⟨hk, rfl⟩ := List.getElem?_eq_some_iff.1 h
  exact List.drop_eq_getElem_cons hk
theorem stAt_nodup {w : World} {F : List Nat} {p : Nat} {N Y : Ct} {size : Int} (h : stAt w F p N Y size) : (N.map (·.1)).Nodup ∧ (Y.map (·.1)).Nodup := by
  obtain ⟨b1, b2, m1, m2, _, h1, h2, rfl, rfl, _⟩ := h
  have hk : ∀ m : Mt, (ct m).map (·.1) = m.map (·.1) := fun m => by simp [ct, List.map_map, Function.comp_def]
  obtain ⟨_, _, _, k1⟩ := h1.map
  obtain ⟨_, _, _, k2⟩ := h2.map
  rw [hk, hk]; exact ⟨k1.keys, k2.keys⟩
theorem look_nodup {κ β : Type} [DecidableEq κ] : ∀ {m : List (κ × β)}, (m.map (·.1)).Nodup → ∀ {k : κ} {v : β}, (k, v) ∈ m → lookL m k = some v
  | (a, b) :: r, hn, k, v, h => by
    simp only [List.map_cons, List.nodup_cons] at hn
    unfold lookL
    rcases List.mem_cons.1 h with h | h
    · cases h; rw [if_pos rfl]
    · have : a ≠ k := fun e => hn.1 (e ▸ List.mem_map.2 ⟨_, h, rfl⟩)
      rw [if_neg this]; exact look_nodup hn.2 h
theorem unl_self {N : Ct} (hn : (N.map (·.1)).Nodup) : unlN N N = 0 := by
  unfold unlN
  have h1 : (N.filter fun p => !decide (lookL N p.1 = some p.2)) = [] := List.filter_eq_nil_iff.2 fun p hp => by simp [look_nodup hn (k := p.1) (v := p.2) hp]
  have h2 : (N.filter fun p => (lookL N p.1).isNone) = [] := List.filter_eq_nil_iff.2 fun p hp => by simp [look_nodup hn (k := p.1) (v := p.2) hp]
  rw [h1, h2]; rfl
/-- what a store shows, in the order of its keys -/
def listL (N : Ct) : Ct := (keysL N).map fun k => (k, (lookL N k).getD [])
theorem listL_len (N : Ct) : (listL N).length = N.length := by unfold listL; rw [List.length_map, keysL_len]
theorem keysL_perm_keys (N : Ct) : (keysL N).Perm (N.map (·.1)) := by
  unfold keysL
  refine ((List.mergeSort_perm _ _).map _).trans ?_
  rw [List.map_map]
  have : ((fun l => (⟨l.toArray⟩ : ByteArray)) ∘ fun p : ByteArray × List Int => p.1.data.toList) = (·.1) := by funext p; simp
  rw [this]
theorem listL_perm {N : Ct} (hn : (N.map (·.1)).Nodup) : (listL N).Perm N := by
  unfold listL
  refine ((keysL_perm_keys N).map _).trans ?_
  rw [List.map_map]
  have : N.map ((fun k => (k, (lookL N k).getD [])) ∘ fun x => x.1) = N := by
    conv => rhs; rw [← List.map_id N]
    refine List.map_congr_left fun p hp => ?_
    simp only [Function.comp, id, look_nodup hn (k := p.1) (v := p.2) hp, Option.getD_some]
  rw [this]
theorem listL_used {N : Ct} (hn : (N.map (·.1)).Nodup) : usedL (listL N) = usedL N := used_perm (listL_perm hn)
theorem listL_at {N : Ct} {i : Nat} {k : ByteArray} (h : (keysL N)[i]? = some k) : (listL N)[i]? = some (k, (lookL N k).getD []) := by unfold listL; rw [List.getElem?_map, h]; rfl
structure SRow where
  a : Option Addr
  n : Nat
  c : Nat
  ks : List ByteArray
structure StOp where
  kind : Int
  key : ByteArray
  more : SRow
  row : BRow
  cut : Int
def cellO (o : StOp) : List Value := [.int .i64 o.kind, .string o.key, .slice o.more.a o.more.n o.more.c, .slice o.row.a o.row.n o.row.c, .int .i64 o.cut]
theorem cellO_len (o : StOp) : (cellO o).length = 5 := rfl
theorem cellO_one (o : StOp) : (cellO o).all Value.oneCell' = true := rfl
structure opAt (w : World) (o : StOp) : Prop where
  row : rowAt w o.row
  more : Rd w 1 Go.Tw.encS o.more.a o.more.ks
  mlen : o.more.ks.length = o.more.n
  nlen : o.more.n ≤ 9223372036854775807
  rlen : o.row.n ≤ 9223372036854775807
  klen : o.key.size ≤ 9223372036854775807
  cutb : -9223372036854775808 ≤ o.cut ∧ o.cut ≤ 9223372036854775807
  kindb : -9223372036854775808 ≤ o.kind ∧ o.kind ≤ 9223372036854775807
def cellP (p : ByteArray × BRow) : List Value := [.string p.1, .slice p.2.a p.2.n p.2.c]
theorem cellP_len (p : ByteArray × BRow) : (cellP p).length = 2 := rfl
theorem cellP_one (p : ByteArray × BRow) : (cellP p).all Value.oneCell' = true := rfl
def rowsIn (w : World) (R : List Nat) (ps : Mt) : Prop := rowsAt w ps ∧ ∀ x ∈ rfoot ps, x ∈ R
theorem rowsIn_fr {w w' : World} {R G : List Nat} {ps : Mt} (h : rowsIn w R ps) (hf : Fr w w' G) (hd : ∀ x ∈ R, x ∉ G) : rowsIn w' R ps :=
  ⟨fun p hp => (h.1 p hp).fr hf fun x hx => hd x (h.2 x (rfoot_mem hp hx)), h.2⟩
theorem rowsIn_snoc {w : World} {R : List Nat} {ps : Mt} {k : ByteArray} {r : BRow} (h : rowsIn w R ps) (hr : rowAt w r) (hs : ∀ x ∈ rblk r, x ∈ R) : rowsIn w R (ps ++ [(k, r)]) :=
  ⟨fun p hp => by
    rcases List.mem_append.1 hp with h1 | h1
    · exact h.1 p h1
    · obtain rfl := List.mem_singleton.1 h1; exact hr,
   fun x hx => by
    obtain ⟨p, hp, hx⟩ := List.mem_flatMap.1 hx
    rcases List.mem_append.1 hp with h1 | h1
    · exact h.2 x (rfoot_mem h1 hx)
    · obtain rfl := List.mem_singleton.1 h1; exact hs x hx⟩
theorem rowsIn_mono {w : World} {R R' : List Nat} {ps : Mt} (h : rowsIn w R ps) (hs : ∀ x ∈ R, x ∈ R') : rowsIn w R' ps := ⟨h.1, fun x hx => hs x (h.2 x hx)⟩
theorem same_at {ps : Mt} {N : Ct} (hct : ct ps = listL N) {i : Nat} {e : ByteArray × BRow} (he : ps[i]? = some e) : (keysL N)[i]? = some e.1 ∧ lookL N e.1 = some e.2.xs := by
  have h1 : (ct ps)[i]? = some (e.1, e.2.xs) := by unfold ct; rw [List.getElem?_map, he]; rfl
  have hi : i < (keysL N).length := by
    have := (List.getElem?_eq_some_iff.1 h1).1
    rw [hct] at this
    unfold listL at this
    simpa using this
  obtain ⟨k, hk⟩ := get_some hi
  have h2 := listL_at hk
  rw [← hct, h1] at h2
  obtain ⟨xs, hxs⟩ := keys_look hk
  have h3 := Option.some.inj h2
  rw [hxs] at h3
  have e1 : e.1 = k := congrArg Prod.fst h3
  have e2 : e.2.xs = xs := congrArg Prod.snd h3
  rw [e1, e2]
  exact ⟨hk, hxs⟩
theorem absorbC {w0 w w' : World} {F0 : List Nat} {M : List (Nat × Obj)} {Fs : List (List Nat)} (h : Cx w0 F0 w M Fs) (j : Nat) {F G : List Nat} (hj : Fs[j]? = some F) (hf : Fr w w' []) (hg : ∀ x ∈ G, w.heap.size ≤ x) (hb : ∀ x ∈ G, x < w'.heap.size) : Cx w0 F0 w' M (Fs.set j (F ++ G)) :=
  h.callF j hj (hf.mono (fun _ h_ => nomatch h_)) (fun x hx => (List.mem_append.1 hx).imp id (hg x)) (fun x hx => (List.mem_append.1 hx).elim (fun hx => Nat.lt_of_lt_of_le (h.bound F (List.mem_of_getElem? hj) x hx) hf.size) (hb x))
theorem take_listL {N : Ct} {i : Nat} {k : ByteArray} {xs : List Int} (hk : (keysL N)[i]? = some k) (hl : lookL N k = some xs) : (listL N).take (i + 1) = (listL N).take i ++ [(k, xs)] := by
  have h := listL_at hk
  rw [hl] at h
  obtain ⟨hi, he⟩ := List.getElem?_eq_some_iff.1 h
  rw [List.take_succ_eq_append_getElem hi, he]; rfl
theorem ct_snoc (ps : Mt) (k : ByteArray) (r : BRow) : ct (ps ++ [(k, r)]) = ct ps ++ [(k, r.xs)] := by simp [ct]
theorem Put_any (F : List Nat) (p : Nat) (N Y : Ct) (size : Int) (key : ByteArray) (A : Option Addr) (c : Nat) (ps : List BRow) (xs : List Int) (w : World) (ht : stAt w F p N Y size) (hps : Rd w 1 cellB A ps) (hr : ∀ r ∈ ps, rowAt w r) (hpl : ps.length < 2 ^ 60) (hc : catL ps = xs) : Calls Try.prog 12 #[.pointer (some ⟨p, 0, none⟩), .string key, .slice A ps.length c] w fun e w' => ∃ F2, e = .returned (errV 38 (putE N size key xs.length)) ∧ Fr w w' F ∧ stAt w' F2 p (putS N size key xs) Y size ∧ ∀ x ∈ F2, x ∈ F ∨ w.heap.size ≤ x := by
  subst hc
  exact Put_ct F p N Y size key A c ps w ht hps hr hpl
theorem Num_nil  (w : World) : Calls Try.prog 22 #[.nilIface] w fun e w' => e = .returned (.int .i64 0) ∧ Fr w w' [] := by
  refine enterD (n := 19) Try.func22 rfl rfl (Nat.le_of_ble_eq_true rfl) ?_
  intro Q0 hN hret hret'
  have hC := Cx.start w
  refine WC.seq (fun K1 hK2 => ?_)
  refine WC.region ?_
  refine WL.runs 1 [(2, .int .i64 0)] (fun _ => by kernel_rfl) ?_
  refine WL.done rfl ?_
  refine QX.then_normal (hK2 _ _ ?_)
  refine WC.seq (fun K3 hK4 => ?_)
  refine WC.seq (fun K5 hK6 => ?_)
  refine WC.region ?_
  refine WL.runs 2 [(6, .bool true), (5, .nilIface)] (fun _ => by kernel_rfl) ?_
  refine WL.done rfl ?_
  refine QX.then_normal (hK6 _ _ ?_)
  refine WC.cond_true rfl ?_
  refine WC.seq (fun K7 hK8 => ?_)
  refine WC.region ?_
  refine WL.runs 1 [(2, .int .i64 0)] (fun _ => by kernel_rfl) ?_
  refine WL.done rfl ?_
  refine QX.then_normal (hK8 _ _ ?_)
  refine WC.ret ?_
  refine QX.then_ret ?_
  refine (hret _ _ _ rfl ?_).1
  clear hN hret hret' hK8 hK6 hK4 hK2
  exact ⟨rfl, hC.fr⟩

theorem Num_err (c : Int) (w : World) (hc : c ≠ 0) : Calls Try.prog 22 #[.iface 38 (.int .i64 c)] w fun e w' => e = .returned (.int .i64 c) ∧ Fr w w' [] := by
  refine enterD (n := 19) Try.func22 rfl rfl (Nat.le_of_ble_eq_true rfl) ?_
  intro Q0 hN hret hret'
  have hC := Cx.start w
  refine WC.seq (fun K1 hK2 => ?_)
  refine WC.region ?_
  refine WL.runs 1 [(2, .int .i64 0)] (fun _ => by kernel_rfl) ?_
  refine WL.done rfl ?_
  refine QX.then_normal (hK2 _ _ ?_)
  refine WC.seq (fun K3 hK4 => ?_)
  refine WC.seq (fun K5 hK6 => ?_)
  refine WC.region ?_
  refine WL.runs 2 [(6, .bool false), (5, .iface 38 (.int .i64 c))] (fun _ => by kernel_rfl) ?_
  refine WL.done rfl ?_
  refine QX.then_normal (hK6 _ _ ?_)
  refine WC.cond_false rfl ?_
  refine WC.skip ?_
  refine QX.then_normal (hK4 _ _ ?_)
  refine WC.seq (fun K7 hK8 => ?_)
  refine WC.region ?_
  refine WL.runs 7 [(4, .bool true), (3, .int .i64 c), (11, .bool true), (10, .int .i64 c), (7, .tuple #[.int .i64 c, .bool true]), (9, .tuple #[.int .i64 c, .bool true]), (8, .iface 38 (.int .i64 c))] (fun _ => by kernel_rfl) ?_
  refine WL.done rfl ?_
  refine QX.then_normal (hK8 _ _ ?_)
  refine WC.seq (fun K9 hK10 => ?_)
  refine WC.seq (fun K11 hK12 => ?_)
  refine WC.region ?_
  refine WL.runs 6 [(17, .bool (c == 0)), (16, .bool (c == 0)), (15, .int .i64 c), (14, .bool false), (13, .bool false), (12, .bool true)] (fun _ => by kernel_rfl) ?_
  refine WL.done rfl ?_
  refine QX.then_normal (hK12 _ _ ?_)
  refine WC.know 17 (.bool (c == 0)) (.bool false) rfl (congrArg Value.bool (by simpa using hc)) ?_
  refine WC.cond_false rfl ?_
  refine WC.skip ?_
  refine QX.then_normal (hK10 _ _ ?_)
  refine WC.seq (fun K13 hK14 => ?_)
  refine WC.region ?_
  refine WL.runs 2 [(2, .int .i64 c), (18, .int .i64 c)] (fun _ => by kernel_rfl) ?_
  refine WL.done rfl ?_
  refine QX.then_normal (hK14 _ _ ?_)
  refine WC.ret ?_
  refine (hret _ _ _ rfl ?_).1
  clear hN hret hret' hK14 hK12 hK10 hK8 hK6 hK4 hK2
  exact ⟨rfl, hC.fr⟩

theorem Num_ct (c : Int) (w : World) : Calls Try.prog 22 #[errV 38 c] w fun e w' => e = .returned (.int .i64 c) ∧ Fr w w' [] := by
  unfold errV
  by_cases h : c = 0
  · subst h; exact Num_nil w
  · rw [if_neg h]; exact Num_err c w h
set_option maxHeartbeats 2000000 in
theorem order_ct (a b : ByteArray) (A B : Option Addr) (c d : Nat) (x y : List Int) (w : World) (hrx : Rd w 1 (Go.Tw.encI .u8) A x) (hry : Rd w 1 (Go.Tw.encI .u8) B y) (hbx : byteL x) (hby : byteL y) (hlx : x.length ≤ 9223372036854775807) (hly : y.length ≤ 9223372036854775807) : Calls Try.prog 20 #[.string a, .string b, .slice A x.length c, .slice B y.length d] w fun e w' => e = .returned (.bool true) ∧ Fr w w' [] := by
  refine enterD (n := 139) Try.func20 rfl rfl (Nat.le_of_ble_eq_true rfl) ?_
  intro Q0 hN hret hret'
  have hC := Cx.start w
  refine WC.seq (fun K1 hK2 => ?_)
  refine WC.region ?_
  refine WL.runs 1 [(8, .bool false)] (fun _ => by kernel_rfl) ?_
  refine WL.done rfl ?_
  refine QX.then_normal (hK2 _ _ ?_)
  refine WC.seq (fun K3 hK4 => ?_)
  refine WC.seq (fun K5 hK6 => ?_)
  refine WC.region ?_
  refine WL.call rfl rfl rfl rfl rfl (by kernel_rfl) (alive_ct w) ?_
  rintro _ w8 ⟨rfl, hF7⟩
  refine ⟨_, rfl, ?_⟩
  have hC9 := hC.call hF7
  refine WL.runs 1 [(22, .bool false)] (fun _ => by kernel_rfl) ?_
  refine WL.done rfl ?_
  refine QX.then_normal (hK6 _ _ ?_)
  refine WC.cond_false rfl ?_
  refine WC.skip ?_
  refine QX.then_normal (hK4 _ _ ?_)
  refine WC.seq (fun K10 hK11 => ?_)
  refine WC.seq (fun K12 hK13 => ?_)
  refine WC.region ?_
  refine WL.runs 3 [(25, .bool (a.toList == b.toList)), (24, .string b), (23, .string a)] (fun _ => by kernel_rfl) ?_
  refine WL.recast (show (.bool (a.toList == b.toList) : Value) = .bool (decide (a = b)) from by rw [str_eql]) ?_
  refine WL.runs 1 [(26, .bool (decide (a = b)))] (fun _ => by kernel_rfl) ?_
  refine WL.test_at 26 (decide (a = b)) rfl (fun t14b => ?_) (fun t14b => ?_)
  · -- a = b: true
    have t14 : a = b := of_decide_eq_true t14b
    refine WL.runs 7 [(33, .bool true), (32, undef), (31, undef), (30, undef), (29, undef), (28, undef), (27, undef)] (fun _ => by kernel_rfl) ?_
    refine WL.done rfl ?_
    refine QX.then_normal (hK13 _ _ ?_)
    refine WC.cond_true rfl ?_
    refine WC.seq (fun K15 hK16 => ?_)
    refine WC.region ?_
    refine WL.runs 1 [(8, .bool true)] (fun _ => by kernel_rfl) ?_
    refine WL.done rfl ?_
    refine QX.then_normal (hK16 _ _ ?_)
    refine WC.ret ?_
    refine QX.then_ret ?_
    refine (hret _ _ _ rfl ?_).1
    clear hN hret hret' hK16 hK13 hK11 hK6 hK4 hK2
    exact ⟨rfl, hC9.fr⟩
  · -- a = b: false
    have t14 : ¬ (a = b) := of_decide_eq_false t14b
    have hab : a ≠ b := by simpa using t14b
    refine WL.runs 7 [(33, .bool (decide ((IntKind.i64.wrap ((x.length : Int) + (y.length : Int))) > 65536))), (32, .bool (decide ((IntKind.i64.wrap ((x.length : Int) + (y.length : Int))) > 65536))), (31, .int .i64 (IntKind.i64.wrap ((x.length : Int) + (y.length : Int)))), (30, .int .i64 (y.length : Int)), (29, .slice B y.length d), (28, .int .i64 (x.length : Int)), (27, .slice A x.length c)] (fun _ => by kernel_rfl) ?_
    refine WL.done rfl ?_
    refine QX.then_normal (hK13 _ _ ?_)
    refine WC.test_at 33 (decide ((IntKind.i64.wrap ((x.length : Int) + (y.length : Int))) > 65536)) rfl (fun t17b => ?_) (fun t17b => ?_)
    · -- (IntKind.i64.wrap ((x.length : Int) + (y.length : Int))) > 65536: true
      have t17 : (65536 : Int) < (IntKind.i64.wrap ((x.length : Int) + (y.length : Int))) := by have q_ := of_decide_eq_true t17b; omega
      refine WC.cond_true rfl ?_
      refine WC.seq (fun K18 hK19 => ?_)
      refine WC.region ?_
      refine WL.runs 1 [(8, .bool true)] (fun _ => by kernel_rfl) ?_
      refine WL.done rfl ?_
      refine QX.then_normal (hK19 _ _ ?_)
      refine WC.ret ?_
      refine QX.then_ret ?_
      refine (hret _ _ _ rfl ?_).1
      clear hN hret hret' hK19 hK13 hK11 hK6 hK4 hK2
      exact ⟨rfl, hC9.fr⟩
    · -- (IntKind.i64.wrap ((x.length : Int) + (y.length : Int))) > 65536: false
      have t17 : (IntKind.i64.wrap ((x.length : Int) + (y.length : Int))) ≤ 65536 := by have q_ := of_decide_eq_false t17b; omega
      have hl : x.length + y.length ≤ 65536 ∨ 4611686018427387904 ≤ x.length + y.length := by have q_ := of_decide_eq_false t17b; simp only [IntKind.wrap_i64] at q_; omega
      refine WC.cond_false rfl ?_
      refine WC.skip ?_
      refine QX.then_normal (hK11 _ _ ?_)
      refine WC.seq (fun K20 hK21 => ?_)
      refine WC.region ?_
      refine WL.call rfl rfl rfl rfl rfl (by kernel_rfl) (New_ct 1048576 w8 (by omega) (by omega)) ?_
      rintro _ w25 ⟨p22, F23, rfl, hF24, hT27, hge28⟩
      have hC26 := hC9.callN hF24 hge28 (stAt_lt hT27)
      refine ⟨_, rfl, ?_⟩
      refine WL.runs 5 [(10, .nilIface), (9, .pointer (some ⟨p22, 0, none⟩)), (37, .nilIface), (36, .pointer (some ⟨p22, 0, none⟩)), (34, .tuple #[.pointer (some ⟨p22, 0, none⟩), .nilIface])] (fun _ => by kernel_rfl) ?_
      refine WL.done rfl ?_
      refine QX.then_normal (hK21 _ _ ?_)
      refine WC.seq (fun K30 hK31 => ?_)
      refine WC.region ?_
      refine WL.call rfl rfl rfl rfl rfl (by kernel_rfl) (New_ct 1048576 w25 (by omega) (by omega)) ?_
      rintro _ w35 ⟨p32, F33, rfl, hF34, hT37, hge38⟩
      have hC36 := hC26.callN hF34 hge38 (stAt_lt hT37)
      refine ⟨_, rfl, ?_⟩
      have hf39 := stAt_fr hT27 hF34 (by simp)
      refine WL.runs 5 [(12, .nilIface), (11, .pointer (some ⟨p32, 0, none⟩)), (41, .nilIface), (40, .pointer (some ⟨p32, 0, none⟩)), (38, .tuple #[.pointer (some ⟨p32, 0, none⟩), .nilIface])] (fun _ => by kernel_rfl) ?_
      refine WL.done rfl ?_
      refine QX.then_normal (hK31 _ _ ?_)
      refine WC.seq (fun K41 hK42 => ?_)
      refine WC.seq (fun K43 hK44 => ?_)
      refine WC.region ?_
      refine WL.runs 14 [(55, .bool false), (54, .bool false), (53, .pointer (some ⟨p32, 0, none⟩)), (52, .bool false), (51, .bool false), (50, .bool false), (49, .pointer (some ⟨p22, 0, none⟩)), (48, .bool false), (47, .bool false), (46, .bool false), (45, .nilIface), (44, .bool false), (43, .bool false), (42, .nilIface)] (fun _ => by kernel_rfl) ?_
      refine WL.done rfl ?_
      refine QX.then_normal (hK44 _ _ ?_)
      refine WC.cond_false rfl ?_
      refine WC.skip ?_
      refine QX.then_normal (hK42 _ _ ?_)
      refine WC.seq (fun K45 hK46 => ?_)
      refine WC.region ?_
      refine WL.runs 3 [(58, .slice A x.length c), (57, .string a), (56, .pointer (some ⟨p22, 0, none⟩))] (fun _ => by kernel_rfl) ?_
      refine WL.newM hC36 (fun b => .slice (some ⟨b, 0, none⟩) 1 1) (.cells #[.slice A x.length c] 22) 59 (fun _ => by kernel_rfl) (fun g47 w48 hb51 hF49 hC50 => ?_)
      have hf52 := stAt_fr hf39 hF49 (by simp)
      have hf53 := stAt_fr hT37 hF49 (by simp)
      have hr54 : ∀ r_ ∈ ([(⟨A, x.length, c, x⟩ : BRow)] : List BRow), rowAt w48 r_ := by
        intro r_ hr_; simp only [List.mem_cons, List.not_mem_nil, or_false] at hr_
        rcases hr_ with rfl
        · exact ⟨(Rd.fr hrx hC50.fr), (by first | rfl | assumption | (simp; done) | (simp; omega)), hbx⟩
      refine WL.call rfl rfl rfl rfl rfl (by kernel_rfl) (Put_any F23 p22 [] [] 1048576 a (some ⟨g47, 0, none⟩) 1 [(⟨A, x.length, c, x⟩ : BRow)] x w48 hf52 (Rd.blk (hC50.get 0 rfl) cellB_len rfl) hr54 (by simp) (cat1 _ _ _ _)) ?_
      rintro _ w56 ⟨F59, rfl, hF55, hT58, hsub60⟩
      have hT58' : stAt w56 F59 p22 (putS [] 1048576 a x) [] 1048576 := hT58
      have hC57 := hC50.callF 0 rfl hF55 hsub60 (stAt_lt hT58')
      refine ⟨_, rfl, ?_⟩
      have hf61 := stAt_fr hf53 hF55 (hC50.disj 1 0 rfl rfl (by decide))
      refine WL.runs 3 [(63, .slice B y.length d), (62, .string b), (61, .pointer (some ⟨p22, 0, none⟩))] (fun _ => by kernel_rfl) ?_
      refine WL.newM hC57 (fun b => .slice (some ⟨b, 0, none⟩) 1 1) (.cells #[.slice B y.length d] 22) 64 (fun _ => by kernel_rfl) (fun g62 w63 hb66 hF64 hC65 => ?_)
      have hf67 := stAt_fr hT58' hF64 (by simp)
      have hf68 := stAt_fr hf61 hF64 (by simp)
      have hr69 : ∀ r_ ∈ ([(⟨B, y.length, d, y⟩ : BRow)] : List BRow), rowAt w63 r_ := by
        intro r_ hr_; simp only [List.mem_cons, List.not_mem_nil, or_false] at hr_
        rcases hr_ with rfl
        · exact ⟨(Rd.fr hry hC65.fr), (by first | rfl | assumption | (simp; done) | (simp; omega)), hby⟩
      refine WL.call rfl rfl rfl rfl rfl (by kernel_rfl) (Put_any F59 p22 (putS [] 1048576 a x) [] 1048576 b (some ⟨g62, 0, none⟩) 1 [(⟨B, y.length, d, y⟩ : BRow)] y w63 hf67 (Rd.blk (hC65.get 1 rfl) cellB_len rfl) hr69 (by simp) (cat1 _ _ _ _)) ?_
      rintro _ w71 ⟨F74, rfl, hF70, hT73, hsub75⟩
      have hT73' : stAt w71 F74 p22 (putS (putS [] 1048576 a x) 1048576 b y) [] 1048576 := hT73
      have hC72 := hC65.callF 0 rfl hF70 hsub75 (stAt_lt hT73')
      refine ⟨_, rfl, ?_⟩
      have hf76 := stAt_fr hf68 hF70 (hC65.disj 1 0 rfl rfl (by decide))
      refine WL.runs 2 [(12, errV 38 (putE (putS [] 1048576 a x) 1048576 b y.length)), (10, errV 38 (putE [] 1048576 a x.length))] (fun _ => by kernel_rfl) ?_
      refine WL.done rfl ?_
      refine QX.then_normal (hK46 _ _ ?_)
      refine WC.seq (fun K77 hK78 => ?_)
      refine WC.region ?_
      refine WL.runs 3 [(68, .slice B y.length d), (67, .string b), (66, .pointer (some ⟨p32, 0, none⟩))] (fun _ => by kernel_rfl) ?_
      refine WL.newM hC72 (fun b => .slice (some ⟨b, 0, none⟩) 1 1) (.cells #[.slice B y.length d] 22) 69 (fun _ => by kernel_rfl) (fun g79 w80 hb83 hF81 hC82 => ?_)
      have hf84 := stAt_fr hT73' hF81 (by simp)
      have hf85 := stAt_fr hf76 hF81 (by simp)
      have hr86 : ∀ r_ ∈ ([(⟨B, y.length, d, y⟩ : BRow)] : List BRow), rowAt w80 r_ := by
        intro r_ hr_; simp only [List.mem_cons, List.not_mem_nil, or_false] at hr_
        rcases hr_ with rfl
        · exact ⟨(Rd.fr hry hC82.fr), (by first | rfl | assumption | (simp; done) | (simp; omega)), hby⟩
      refine WL.call rfl rfl rfl rfl rfl (by kernel_rfl) (Put_any F33 p32 [] [] 1048576 b (some ⟨g79, 0, none⟩) 1 [(⟨B, y.length, d, y⟩ : BRow)] y w80 hf85 (Rd.blk (hC82.get 2 rfl) cellB_len rfl) hr86 (by simp) (cat1 _ _ _ _)) ?_
      rintro _ w88 ⟨F91, rfl, hF87, hT90, hsub92⟩
      have hT90' : stAt w88 F91 p32 (putS [] 1048576 b y) [] 1048576 := hT90
      have hC89 := hC82.callF 1 rfl hF87 hsub92 (stAt_lt hT90')
      refine ⟨_, rfl, ?_⟩
      have hf93 := stAt_fr hf84 hF87 (hC82.disj 0 1 rfl rfl (by decide))
      refine WL.runs 3 [(73, .slice A x.length c), (72, .string a), (71, .pointer (some ⟨p32, 0, none⟩))] (fun _ => by kernel_rfl) ?_
      refine WL.newM hC89 (fun b => .slice (some ⟨b, 0, none⟩) 1 1) (.cells #[.slice A x.length c] 22) 74 (fun _ => by kernel_rfl) (fun g94 w95 hb98 hF96 hC97 => ?_)
      have hf99 := stAt_fr hf93 hF96 (by simp)
      have hf100 := stAt_fr hT90' hF96 (by simp)
      have hr101 : ∀ r_ ∈ ([(⟨A, x.length, c, x⟩ : BRow)] : List BRow), rowAt w95 r_ := by
        intro r_ hr_; simp only [List.mem_cons, List.not_mem_nil, or_false] at hr_
        rcases hr_ with rfl
        · exact ⟨(Rd.fr hrx hC97.fr), (by first | rfl | assumption | (simp; done) | (simp; omega)), hbx⟩
      refine WL.call rfl rfl rfl rfl rfl (by kernel_rfl) (Put_any F91 p32 (putS [] 1048576 b y) [] 1048576 a (some ⟨g94, 0, none⟩) 1 [(⟨A, x.length, c, x⟩ : BRow)] x w95 hf100 (Rd.blk (hC97.get 3 rfl) cellB_len rfl) hr101 (by simp) (cat1 _ _ _ _)) ?_
      rintro _ w103 ⟨F106, rfl, hF102, hT105, hsub107⟩
      have hT105' : stAt w103 F106 p32 (putS (putS [] 1048576 b y) 1048576 a x) [] 1048576 := hT105
      have hC104 := hC97.callF 1 rfl hF102 hsub107 (stAt_lt hT105')
      refine ⟨_, rfl, ?_⟩
      have hf108 := stAt_fr hf99 hF102 (hC97.disj 0 1 rfl rfl (by decide))
      refine WL.runs 2 [(14, errV 38 (putE (putS [] 1048576 b y) 1048576 a x.length)), (13, errV 38 (putE [] 1048576 b y.length))] (fun _ => by kernel_rfl) ?_
      refine WL.done rfl ?_
      refine QX.then_normal (hK78 _ _ ?_)
      refine WC.seq (fun K109 hK110 => ?_)
      refine WC.seq (fun K111 hK112 => ?_)
      refine WC.region ?_
      refine WL.runs 1 [(76, errV 38 (putE [] 1048576 a x.length))] (fun _ => by kernel_rfl) ?_
      refine WL.call rfl rfl rfl rfl rfl (by kernel_rfl) (Num_ct (putE [] 1048576 a x.length) w103) ?_
      rintro _ w114 ⟨rfl, hF113⟩
      refine ⟨_, rfl, ?_⟩
      have hC115 := hC104.call hF113
      have hf116 := stAt_fr hf108 hF113 (by simp)
      have hf117 := stAt_fr hT105' hF113 (by simp)
      refine WL.runs 1 [(78, errV 38 (putE (putS [] 1048576 b y) 1048576 a x.length))] (fun _ => by kernel_rfl) ?_
      refine WL.call rfl rfl rfl rfl rfl (by kernel_rfl) (Num_ct (putE (putS [] 1048576 b y) 1048576 a x.length) w114) ?_
      rintro _ w119 ⟨rfl, hF118⟩
      refine ⟨_, rfl, ?_⟩
      have hC120 := hC115.call hF118
      have hf121 := stAt_fr hf116 hF118 (by simp)
      have hf122 := stAt_fr hf117 hF118 (by simp)
      refine WL.runs 2 [(81, .bool ((putE [] 1048576 a x.length) != (putE (putS [] 1048576 b y) 1048576 a x.length))), (80, .bool ((putE [] 1048576 a x.length) != (putE (putS [] 1048576 b y) 1048576 a x.length)))] (fun _ => by kernel_rfl) ?_
      refine WL.know 81 (.bool ((putE [] 1048576 a x.length) != (putE (putS [] 1048576 b y) 1048576 a x.length))) (.bool false) rfl (congrArg Value.bool (by first | (rw [← ord_e1 (a := a) (b := b) hl]; simp; done) | (rw [ord_e2 (a := a) (b := b) hl]; simp; done))) ?_
      refine WL.runs 1 [(82, errV 38 (putE (putS [] 1048576 a x) 1048576 b y.length))] (fun _ => by kernel_rfl) ?_
      refine WL.call rfl rfl rfl rfl rfl (by kernel_rfl) (Num_ct (putE (putS [] 1048576 a x) 1048576 b y.length) w119) ?_
      rintro _ w124 ⟨rfl, hF123⟩
      refine ⟨_, rfl, ?_⟩
      have hC125 := hC120.call hF123
      have hf126 := stAt_fr hf121 hF123 (by simp)
      have hf127 := stAt_fr hf122 hF123 (by simp)
      refine WL.runs 1 [(84, errV 38 (putE [] 1048576 b y.length))] (fun _ => by kernel_rfl) ?_
      refine WL.call rfl rfl rfl rfl rfl (by kernel_rfl) (Num_ct (putE [] 1048576 b y.length) w124) ?_
      rintro _ w129 ⟨rfl, hF128⟩
      refine ⟨_, rfl, ?_⟩
      have hC130 := hC125.call hF128
      have hf131 := stAt_fr hf126 hF128 (by simp)
      have hf132 := stAt_fr hf127 hF128 (by simp)
      refine WL.runs 3 [(88, .bool ((putE (putS [] 1048576 a x) 1048576 b y.length) != (putE [] 1048576 b y.length))), (87, .bool ((putE (putS [] 1048576 a x) 1048576 b y.length) != (putE [] 1048576 b y.length))), (86, .bool ((putE (putS [] 1048576 a x) 1048576 b y.length) != (putE [] 1048576 b y.length)))] (fun _ => by kernel_rfl) ?_
      refine WL.know 88 (.bool ((putE (putS [] 1048576 a x) 1048576 b y.length) != (putE [] 1048576 b y.length))) (.bool false) rfl (congrArg Value.bool (by first | (rw [← ord_e1 (a := a) (b := b) hl]; simp; done) | (rw [ord_e2 (a := a) (b := b) hl]; simp; done))) ?_
      refine WL.runs 1 [(89, .pointer (some ⟨p22, 0, none⟩))] (fun _ => by kernel_rfl) ?_
      refine WL.call rfl rfl rfl rfl rfl (by kernel_rfl) (Used_ct F74 p22 (putS (putS [] 1048576 a x) 1048576 b y) [] 1048576 w129 hf131) ?_
      rintro _ w134 ⟨rfl, hF133⟩
      refine ⟨_, rfl, ?_⟩
      have hC135 := hC130.call hF133
      have hf136 := stAt_fr hf131 hF133 (by simp)
      have hf137 := stAt_fr hf132 hF133 (by simp)
      refine WL.runs 1 [(91, .pointer (some ⟨p32, 0, none⟩))] (fun _ => by kernel_rfl) ?_
      refine WL.call rfl rfl rfl rfl rfl (by kernel_rfl) (Used_ct F106 p32 (putS (putS [] 1048576 b y) 1048576 a x) [] 1048576 w134 hf137) ?_
      rintro _ w139 ⟨rfl, hF138⟩
      refine ⟨_, rfl, ?_⟩
      have hC140 := hC135.call hF138
      have hf141 := stAt_fr hf136 hF138 (by simp)
      have hf142 := stAt_fr hf137 hF138 (by simp)
      refine WL.runs 3 [(95, .bool ((usedL (putS (putS [] 1048576 a x) 1048576 b y) : Int) != (usedL (putS (putS [] 1048576 b y) 1048576 a x) : Int))), (94, .bool ((usedL (putS (putS [] 1048576 a x) 1048576 b y) : Int) != (usedL (putS (putS [] 1048576 b y) 1048576 a x) : Int))), (93, .bool ((usedL (putS (putS [] 1048576 a x) 1048576 b y) : Int) != (usedL (putS (putS [] 1048576 b y) 1048576 a x) : Int)))] (fun _ => by kernel_rfl) ?_
      refine WL.know 95 (.bool ((usedL (putS (putS [] 1048576 a x) 1048576 b y) : Int) != (usedL (putS (putS [] 1048576 b y) 1048576 a x) : Int))) (.bool false) rfl (congrArg Value.bool (by simp [used_perm (ord_perm hab hl)])) ?_
      refine WL.runs 1 [(96, .pointer (some ⟨p22, 0, none⟩))] (fun _ => by kernel_rfl) ?_
      refine WL.call rfl rfl rfl rfl rfl (by kernel_rfl) (Keys_ct F74 p22 (putS (putS [] 1048576 a x) 1048576 b y) [] 1048576 w139 hf141) ?_
      rintro _ w145 ⟨v_, rfl, hF144, ho143⟩
      have hC146 := hC140.callN hF144 (own_ge ho143) (own_lt ho143)
      obtain ⟨A147, c148, rfl, hle149⟩ := own_form ho143
      have ho151 := own_base (b' := 0) ho143 (fun _ _ => Nat.zero_le _)
      refine ⟨_, rfl, ?_⟩
      have hf152 := stAt_fr hf141 hF144 (by simp)
      have hf153 := stAt_fr hf142 hF144 (by simp)
      refine WL.runs 2 [(99, .pointer (some ⟨p32, 0, none⟩)), (98, .int .i64 ((keysL (putS (putS [] 1048576 a x) 1048576 b y)).length : Int))] (fun _ => by kernel_rfl) ?_
      refine WL.call rfl rfl rfl rfl rfl (by kernel_rfl) (Keys_ct F106 p32 (putS (putS [] 1048576 b y) 1048576 a x) [] 1048576 w145 hf153) ?_
      rintro _ w157 ⟨v_, rfl, hF156, ho155⟩
      have hC158 := hC146.callN hF156 (own_ge ho155) (own_lt ho155)
      obtain ⟨A159, c160, rfl, hle161⟩ := own_form ho155
      have ho163 := own_base (b' := 0) ho155 (fun _ _ => Nat.zero_le _)
      refine ⟨_, rfl, ?_⟩
      have hf164 := stAt_fr hf152 hF156 (by simp)
      have hf165 := stAt_fr hf153 hF156 (by simp)
      have ho166 := own_fr ho151 hF156 (by simp)
      refine WL.runs 3 [(103, .bool (((keysL (putS (putS [] 1048576 a x) 1048576 b y)).length : Int) != ((keysL (putS (putS [] 1048576 b y) 1048576 a x)).length : Int))), (102, .bool (((keysL (putS (putS [] 1048576 a x) 1048576 b y)).length : Int) != ((keysL (putS (putS [] 1048576 b y) 1048576 a x)).length : Int))), (101, .int .i64 ((keysL (putS (putS [] 1048576 b y) 1048576 a x)).length : Int))] (fun _ => by kernel_rfl) ?_
      refine WL.done rfl ?_
      refine QX.then_normal (hK112 _ _ ?_)
      refine WC.know 103 (.bool (((keysL (putS (putS [] 1048576 a x) 1048576 b y)).length : Int) != ((keysL (putS (putS [] 1048576 b y) 1048576 a x)).length : Int))) (.bool false) rfl (congrArg Value.bool (by simp [keysL_perm (ord_perm hab hl)])) ?_
      refine WC.cond_false rfl ?_
      refine WC.skip ?_
      refine QX.then_normal (hK110 _ _ ?_)
      refine WC.seq (fun K168 hK169 => ?_)
      refine WC.seq (fun K170 hK171 => ?_)
      refine WC.region ?_
      refine WL.runs 1 [(104, .pointer (some ⟨p22, 0, none⟩))] (fun _ => by kernel_rfl) ?_
      refine WL.call rfl rfl rfl rfl rfl (by kernel_rfl) (Keys_ct F74 p22 (putS (putS [] 1048576 a x) 1048576 b y) [] 1048576 w157 hf164) ?_
      rintro _ w174 ⟨v_, rfl, hF173, ho172⟩
      have hC175 := hC158.callN hF173 (own_ge ho172) (own_lt ho172)
      obtain ⟨A176, c177, rfl, hle178⟩ := own_form ho172
      have ho180 := own_base (b' := 0) ho172 (fun _ _ => Nat.zero_le _)
      refine ⟨_, rfl, ?_⟩
      have hf181 := stAt_fr hf164 hF173 (by simp)
      have hf182 := stAt_fr hf165 hF173 (by simp)
      have ho183 := own_fr ho166 hF173 (by simp)
      have ho184 := own_fr ho163 hF173 (by simp)
      refine WL.runs 2 [(107, .int .i64 0), (106, .int .i64 ((keysL (putS (putS [] 1048576 a x) 1048576 b y)).length : Int))] (fun _ => by kernel_rfl) ?_
      refine WL.done rfl ?_
      refine QX.then_normal (hK171 _ _ ?_)
      refine WC.block ?_
      refine WC.loop (fun m_ E_ w_ => ∃ (i : Nat), m_ = (keysL (putS (putS [] 1048576 a x) 1048576 b y)).length - i ∧ E_ = [(9, .pointer (some ⟨p22, 0, none⟩)), (11, .pointer (some ⟨p32, 0, none⟩)), (105, .slice A176 ((keysL (putS (putS [] 1048576 a x) 1048576 b y)).length) c177), (106, .int .i64 ((keysL (putS (putS [] 1048576 a x) 1048576 b y)).length : Int)), (107, .int .i64 (i : Int))] ∧ Cx w [] w_ [(g47, .cells #[.slice A x.length c] 22), (g62, .cells #[.slice B y.length d] 22), (g79, .cells #[.slice B y.length d] 22), (g94, .cells #[.slice A x.length c] 22)] [F74, F106, blk (.slice A147 ((keysL (putS (putS [] 1048576 a x) 1048576 b y)).length) c148), blk (.slice A159 ((keysL (putS (putS [] 1048576 b y) 1048576 a x)).length) c160), blk (.slice A176 ((keysL (putS (putS [] 1048576 a x) 1048576 b y)).length) c177)] ∧ stAt w_ F74 p22 (putS (putS [] 1048576 a x) 1048576 b y) [] 1048576 ∧ stAt w_ F106 p32 (putS (putS [] 1048576 b y) 1048576 a x) [] 1048576 ∧ World.ownsRow w_ 0 9 1 (.slice A147 ((keysL (putS (putS [] 1048576 a x) 1048576 b y)).length) c148) ((keysL (putS (putS [] 1048576 a x) 1048576 b y)).length) ((keysL (putS (putS [] 1048576 a x) 1048576 b y)).flatMap Go.Tw.encS) ∧ World.ownsRow w_ 0 9 1 (.slice A159 ((keysL (putS (putS [] 1048576 b y) 1048576 a x)).length) c160) ((keysL (putS (putS [] 1048576 b y) 1048576 a x)).length) ((keysL (putS (putS [] 1048576 b y) 1048576 a x)).flatMap Go.Tw.encS) ∧ World.ownsRow w_ 0 9 1 (.slice A176 ((keysL (putS (putS [] 1048576 a x) 1048576 b y)).length) c177) ((keysL (putS (putS [] 1048576 a x) 1048576 b y)).length) ((keysL (putS (putS [] 1048576 a x) 1048576 b y)).flatMap Go.Tw.encS) ∧ (i ≤ (keysL (putS (putS [] 1048576 a x) 1048576 b y)).length)) ⟨_, _, ⟨0, rfl, rfl, hC175, hf181, hf182, ho183, ho184, ho180, Nat.zero_le _⟩, sub_of ⟨rfl, rfl, rfl, rfl, rfl, trivial⟩⟩ (fun m189 E_ w190 K186 hK187 hI188 => ?_)
      obtain ⟨i, rfl, rfl, hC191, sto29_m189, sto40_m189, row154_m189, row167_m189, row185_m189, hi⟩ := hI188
      have hkl_ : (keysL (putS (putS [] 1048576 b y) 1048576 a x)).length = (keysL (putS (putS [] 1048576 a x) 1048576 b y)).length := by rw [keysL_perm (ord_perm hab hl)]
      have hk2_ := keysL_putS2 a b x y 1048576
      refine WC.seq (fun K192 hK193 => ?_)
      refine WC.region ?_
      refine WL.runs 1 [(108, .bool (decide ((i : Int) < ((keysL (putS (putS [] 1048576 a x) 1048576 b y)).length : Int))))] (fun _ => by kernel_rfl) ?_
      refine WL.done rfl ?_
      refine QX.then_normal (hK193 _ _ ?_)
      refine WC.seq (fun K194 hK195 => ?_)
      refine WC.test_at 108 (decide ((i : Int) < ((keysL (putS (putS [] 1048576 a x) 1048576 b y)).length : Int))) rfl (fun t196b => ?_) (fun t196b => ?_)
      · -- (i : Int) < ((keysL (putS (putS [] 1048576 a x) 1048576 b y)).length : Int): true
        have t196 : (i : Int) < ((keysL (putS (putS [] 1048576 a x) 1048576 b y)).length : Int) := by have q_ := of_decide_eq_true t196b; omega
        refine WC.cond_true rfl ?_
        refine WC.skip ?_
        refine QX.then_normal (hK195 _ _ ?_)
        refine WC.seq (fun K197 hK198 => ?_)
        refine WC.block ?_
        refine WC.seq (fun K199 hK200 => ?_)
        refine WC.region ?_
        refine WL.runs 1 [(109, .int .i64 (i : Int))] (fun _ => by kernel_rfl) ?_
        have hn205 := own_count Go.Tw.encS_len (by decide) row185_m189
        obtain ⟨e201, he202⟩ := get_some (xs := (keysL (putS (putS [] 1048576 a x) 1048576 b y))) (i := i) (by omega)
        obtain ⟨b203, hA204⟩ := own_addr (by decide) Go.Tw.encS_len row185_m189 he202
        refine WL.index A176 ((keysL (putS (putS [] 1048576 a x) 1048576 b y)).length) c177 110 .i64 (i : Int) b203 0 i 1 (by kernel_rfl) hA204 (by omega) (by omega) i (by first | (simp; done) | omega) ?_
        obtain ⟨xs_, hxs_⟩ := keys_look he202
        refine WL.load 9 (.pointer (some ⟨b203, i, none⟩)) (.string e201) 111 (by kernel_rfl) (run_load1 rfl (by simpa [Nat.add_assoc] using Rd.cell (own_rd row185_m189 Go.Tw.encS_len (by decide)) hA204 he202 0 _ rfl)) ?_
        refine WL.runs 2 [(16, .string e201), (15, .int .i64 (i : Int))] (fun _ => by kernel_rfl) ?_
        refine WL.done rfl ?_
        refine QX.then_normal (hK200 _ _ ?_)
        refine WC.seq (fun K206 hK207 => ?_)
        refine WC.region ?_
        refine WL.runs 2 [(114, .string e201), (113, .pointer (some ⟨p22, 0, none⟩))] (fun _ => by kernel_rfl) ?_
        refine WL.call rfl rfl rfl rfl rfl (by kernel_rfl) (Get_yes F74 p22 (putS (putS [] 1048576 a x) 1048576 b y) [] 1048576 e201 xs_ w190 sto29_m189 (hxs_)) ?_
        rintro _ w210 ⟨v_, rfl, hF209, ho208⟩
        have hC211 := hC191.callN hF209 (own_ge ho208) (own_lt ho208)
        obtain ⟨A212, c213, rfl, hle214⟩ := own_form ho208
        have ho216 := own_base (b' := 0) ho208 (fun _ _ => Nat.zero_le _)
        refine ⟨_, rfl, ?_⟩
        have hf217 := stAt_fr sto29_m189 hF209 (by simp)
        have hf218 := stAt_fr sto40_m189 hF209 (by simp)
        have ho219 := own_fr row154_m189 hF209 (by simp)
        have ho220 := own_fr row167_m189 hF209 (by simp)
        have ho221 := own_fr row185_m189 hF209 (by simp)
        refine WL.runs 5 [(18, .nilIface), (17, .slice A212 xs_.length c213), (117, .nilIface), (116, .slice A212 xs_.length c213), (112, .tuple #[.slice A212 xs_.length c213, .nilIface])] (fun _ => by kernel_rfl) ?_
        refine WL.done rfl ?_
        refine QX.then_normal (hK207 _ _ ?_)
        refine WC.seq (fun K223 hK224 => ?_)
        refine WC.region ?_
        refine WL.runs 2 [(120, .string e201), (119, .pointer (some ⟨p32, 0, none⟩))] (fun _ => by kernel_rfl) ?_
        refine WL.call rfl rfl rfl rfl rfl (by kernel_rfl) (Get_yes F106 p32 (putS (putS [] 1048576 b y) 1048576 a x) [] 1048576 e201 xs_ w210 hf218 (by rw [ord_look hab hl]; exact hxs_)) ?_
        rintro _ w227 ⟨v_, rfl, hF226, ho225⟩
        have hC228 := hC211.callN hF226 (own_ge ho225) (own_lt ho225)
        obtain ⟨A229, c230, rfl, hle231⟩ := own_form ho225
        have ho233 := own_base (b' := 0) ho225 (fun _ _ => Nat.zero_le _)
        refine ⟨_, rfl, ?_⟩
        have hf234 := stAt_fr hf217 hF226 (by simp)
        have hf235 := stAt_fr hf218 hF226 (by simp)
        have ho236 := own_fr ho219 hF226 (by simp)
        have ho237 := own_fr ho220 hF226 (by simp)
        have ho238 := own_fr ho221 hF226 (by simp)
        have ho239 := own_fr ho216 hF226 (by simp)
        refine WL.runs 5 [(20, .nilIface), (19, .slice A229 xs_.length c230), (123, .nilIface), (122, .slice A229 xs_.length c230), (118, .tuple #[.slice A229 xs_.length c230, .nilIface])] (fun _ => by kernel_rfl) ?_
        refine WL.done rfl ?_
        refine QX.then_normal (hK224 _ _ ?_)
        refine WC.seq (fun K241 hK242 => ?_)
        refine WC.region ?_
        refine WL.runs 1 [(124, .pointer (some ⟨p32, 0, none⟩))] (fun _ => by kernel_rfl) ?_
        refine WL.call rfl rfl rfl rfl rfl (by kernel_rfl) (Keys_ct F106 p32 (putS (putS [] 1048576 b y) 1048576 a x) [] 1048576 w227 hf235) ?_
        rintro _ w245 ⟨v_, rfl, hF244, ho243⟩
        have hC246 := hC228.callN hF244 (own_ge ho243) (own_lt ho243)
        obtain ⟨A247, c248, rfl, hle249⟩ := own_form ho243
        have ho251 := own_base (b' := 0) ho243 (fun _ _ => Nat.zero_le _)
        refine ⟨_, rfl, ?_⟩
        have hf252 := stAt_fr hf234 hF244 (by simp)
        have hf253 := stAt_fr hf235 hF244 (by simp)
        have ho254 := own_fr ho236 hF244 (by simp)
        have ho255 := own_fr ho237 hF244 (by simp)
        have ho256 := own_fr ho238 hF244 (by simp)
        have ho257 := own_fr ho239 hF244 (by simp)
        have ho258 := own_fr ho233 hF244 (by simp)
        refine WL.runs 1 [(126, .int .i64 (i : Int))] (fun _ => by kernel_rfl) ?_
        have hn264 := own_count Go.Tw.encS_len (by decide) ho251
        obtain ⟨e260, he261⟩ := get_some (xs := (keysL (putS (putS [] 1048576 b y) 1048576 a x))) (i := i) (by omega)
        obtain ⟨b262, hA263⟩ := own_addr (by decide) Go.Tw.encS_len ho251 he261
        refine WL.index A247 ((keysL (putS (putS [] 1048576 b y) 1048576 a x)).length) c248 127 .i64 (i : Int) b262 0 i 1 (by kernel_rfl) hA263 (by omega) (by omega) i (by first | (simp; done) | omega) ?_
        have hee_ : e260 = e201 := by have q_ := he261; rw [← keysL_perm (ord_perm hab hl), he202] at q_; exact (Option.some.inj q_).symm
        refine WL.load 9 (.pointer (some ⟨b262, i, none⟩)) (.string e260) 128 (by kernel_rfl) (run_load1 rfl (by simpa [Nat.add_assoc] using Rd.cell (own_rd ho251 Go.Tw.encS_len (by decide)) hA263 he261 0 _ rfl)) ?_
        refine WL.runs 2 [(130, .bool (!(e260.toList == e201.toList))), (129, .string e201)] (fun _ => by kernel_rfl) ?_
        refine WL.recast (show (.bool (!(e260.toList == e201.toList)) : Value) = .bool (!decide (e260 = e201)) from by rw [str_eql]) ?_
        refine WL.runs 1 [(131, .bool (!decide (e260 = e201)))] (fun _ => by kernel_rfl) ?_
        refine WL.know 131 (.bool (!decide (e260 = e201))) (.bool false) rfl (congrArg Value.bool (by simp; exact hee_)) ?_
        refine WL.runs 1 [(132, .slice A212 xs_.length c213)] (fun _ => by kernel_rfl) ?_
        refine WL.sem (convert 22 9 (.slice A212 xs_.length c213)) 133 (.string (strOfNums xs_)) (by kernel_rfl) (run_bytes_str rfl rfl rfl (own_rd ho257 (Go.Tw.encI_len _) (by decide)) (own_count (Go.Tw.encI_len _) (by decide) ho257)) ?_
        refine WL.runs 1 [(134, .slice A229 xs_.length c230)] (fun _ => by kernel_rfl) ?_
        refine WL.sem (convert 22 9 (.slice A229 xs_.length c230)) 135 (.string (strOfNums xs_)) (by kernel_rfl) (run_bytes_str rfl rfl rfl (own_rd ho258 (Go.Tw.encI_len _) (by decide)) (own_count (Go.Tw.encI_len _) (by decide) ho258)) ?_
        refine WL.runs 1 [(136, .bool (!((strOfNums xs_).toList == (strOfNums xs_).toList)))] (fun _ => by kernel_rfl) ?_
        refine WL.recast (show (.bool (!((strOfNums xs_).toList == (strOfNums xs_).toList)) : Value) = .bool (!decide ((strOfNums xs_) = (strOfNums xs_))) from by rw [str_eql]) ?_
        refine WL.runs 1 [(137, .bool (!decide ((strOfNums xs_) = (strOfNums xs_))))] (fun _ => by kernel_rfl) ?_
        refine WL.done rfl ?_
        refine QX.then_normal (hK242 _ _ ?_)
        refine WC.know 137 (.bool (!decide ((strOfNums xs_) = (strOfNums xs_)))) (.bool false) rfl (congrArg Value.bool (by simp)) ?_
        refine WC.cond_false rfl ?_
        refine WC.skip ?_
        refine QX.block_normal ?_
        refine QX.then_normal (hK198 _ _ ?_)
        refine WC.region ?_
        refine WL.runs 1 [(138, .int .i64 (IntKind.i64.wrap ((i : Int) + 1)))] (fun _ => by kernel_rfl) ?_
        refine WL.recast (show (.int .i64 (IntKind.i64.wrap ((i : Int) + 1)) : Value) = .int .i64 ((i : Int) + 1) from by rw [wrap_in_i64 ((i : Int) + 1) (by omega) (by omega)]) ?_
        refine WL.runs 1 [(107, .int .i64 ((i : Int) + 1))] (fun _ => by kernel_rfl) ?_
        refine WL.done rfl ?_
        refine QX.then_normal ?_
        have hC265 := hC246.pick [0, 1, 2, 3] [0, 1, 2, 3, 4] rfl rfl
        refine fun a_ ha_ => hK187 _ _ _ ?_ ⟨i + 1, rfl, rfl, hC265, hf252, hf253, ho254, ho255, ho256, by omega⟩ a_ (ha_.weaken (sub_of ⟨rfl, rfl, rfl, rfl, rfl, trivial⟩))
        omega
      · -- (i : Int) < ((keysL (putS (putS [] 1048576 a x) 1048576 b y)).length : Int): false
        have t196 : ((keysL (putS (putS [] 1048576 a x) 1048576 b y)).length : Int) ≤ (i : Int) := by have q_ := of_decide_eq_false t196b; omega
        refine WC.cond_false rfl ?_
        refine WC.exit ?_
        refine QX.then_exit ?_
        refine QX.then_exit ?_
        refine QX.block_hit ?_
        refine QX.then_normal (hK169 _ _ ?_)
        refine WC.seq (fun K266 hK267 => ?_)
        refine WC.region ?_
        refine WL.runs 1 [(8, .bool true)] (fun _ => by kernel_rfl) ?_
        refine WL.done rfl ?_
        refine QX.then_normal (hK267 _ _ ?_)
        refine WC.ret ?_
        refine (hret _ _ _ rfl ?_).1
        clear hN hret hret' hK267 hK195 hK193 hK171 hK169 hK112 hK110 hK78 hK46 hK44 hK42 hK31 hK21 hK13 hK11 hK6 hK4 hK2
        exact ⟨rfl, hC191.fr⟩

theorem StableTwo_ct (a b : ByteArray) (A B : Option Addr) (c d : Nat) (x y : List Int) (w : World) (hrx : Rd w 1 (Go.Tw.encI .u8) A x) (hry : Rd w 1 (Go.Tw.encI .u8) B y) (hbx : byteL x) (hby : byteL y) (hlx : x.length ≤ 9223372036854775807) (hly : y.length ≤ 9223372036854775807) : Calls Try.prog 5 #[.agg #[.string a, .string b, .slice A x.length c, .slice B y.length d]] w fun e w' => e = .returned (.bool true) ∧ Fr w w' [] := by
  refine enterD (n := 12) Try.func5 rfl rfl (Nat.le_of_ble_eq_true rfl) ?_
  intro Q0 hN hret hret'
  have hC := Cx.start w
  refine WC.seq (fun K1 hK2 => ?_)
  refine WC.region ?_
  refine WL.newM hC (fun b => .pointer (some ⟨b, 0, none⟩)) (.cells #[.string a, .string b, .slice A x.length c, .slice B y.length d] 44) 1 (fun _ => by kernel_rfl) (fun g3 w4 hb7 hF5 hC6 => ?_)
  refine WL.runs 1 [(2, .bool false)] (fun _ => by kernel_rfl) ?_
  refine WL.done rfl ?_
  refine QX.then_normal (hK2 _ _ ?_)
  refine WC.seq (fun K8 hK9 => ?_)
  refine WC.region ?_
  refine WL.runs 1 [(3, .pointer (some ⟨g3, 0, none⟩))] (fun _ => by kernel_rfl) ?_
  refine WL.load 9 (.pointer (some ⟨g3, 0, none⟩)) (.string a) 4 (by kernel_rfl) (run_ld (hC6.get 0 rfl) rfl) ?_
  refine WL.runs 1 [(5, .pointer (some ⟨g3, 1, none⟩))] (fun _ => by kernel_rfl) ?_
  refine WL.load 9 (.pointer (some ⟨g3, 1, none⟩)) (.string b) 6 (by kernel_rfl) (run_ld (hC6.get 0 rfl) rfl) ?_
  refine WL.runs 1 [(7, .pointer (some ⟨g3, 2, none⟩))] (fun _ => by kernel_rfl) ?_
  refine WL.load 22 (.pointer (some ⟨g3, 2, none⟩)) (.slice A x.length c) 8 (by kernel_rfl) (run_ld (hC6.get 0 rfl) rfl) ?_
  refine WL.runs 1 [(9, .pointer (some ⟨g3, 3, none⟩))] (fun _ => by kernel_rfl) ?_
  refine WL.load 22 (.pointer (some ⟨g3, 3, none⟩)) (.slice B y.length d) 10 (by kernel_rfl) (run_ld (hC6.get 0 rfl) rfl) ?_
  refine WL.call rfl rfl rfl rfl rfl (by kernel_rfl) (order_ct a b A B c d x y w4 (Rd.fr hrx hC6.fr) (Rd.fr hry hC6.fr) hbx hby hlx hly) ?_
  rintro _ w11 ⟨rfl, hF10⟩
  refine ⟨_, rfl, ?_⟩
  have hC12 := hC6.call hF10
  refine WL.runs 1 [(2, .bool true)] (fun _ => by kernel_rfl) ?_
  refine WL.done rfl ?_
  refine QX.then_normal (hK9 _ _ ?_)
  refine WC.ret ?_
  refine (hret _ _ _ rfl ?_).1
  clear hN hret hret' hK9 hK2
  exact ⟨rfl, hC12.fr⟩

end Go.Proofs.Ytelmklombehhkaa
