/- Contracts of functions of the program, each proved by a walk through its code; conditions stand in the statements. -/
import Derived.Test.YtelmklombehhkaaSbF13
import Derived.Test.YtelmklombehhkaaSbK13
import Derived.Test.YtelmklombehhkaaTwOpen
namespace Go.Proofs.Ytelmklombehhkaa
set_option linter.unusedSimpArgs false
set_option linter.unusedVariables false
set_option linter.unusedSectionVars false
open Go Go.RowKit Go.Tw
set_option linter.unusedVariables false
set_option maxRecDepth 20000
open Go.Maps in
/-- a tracked map of rows, in the maps' kit's word -/
theorem own_of_ok {P : Program} {kt : TypeId} (hkt : P.underlying kt = some .string) {w : World} {b c : Nat} {es : Array MapEntry} {m : Mt} (hb : w.heap[b]? = some (.map es c)) (hm : MapOk ekS evB es c m) (hk : ∀ p ∈ m, p.1.size ≤ maxLen) (hl : m.length ≤ maxLen) :
    ∃ D : DataW Unit, w.ownsMap P kt (fun _ => some (.nil, [])) b es.size D ∧ (strKeys D).Perm (m.map (·.1.data.toList)) ∧ Maps.size D = m.length := by
  have hks : es.toList.map (·.key) = m.map fun p => ekS p.1 := by
    have := congrArg (List.map Prod.fst) hm.kv
    simpa [List.map_map, Function.comp_def] using this
  have hkey : ∀ x ∈ es.toList, ∃ p ∈ m, x.key = ekS p.1 := fun x hx => by
    have h1 : x.key ∈ m.map fun p => ekS p.1 := by rw [← hks]; exact List.mem_map.2 ⟨x, hx, rfl⟩
    obtain ⟨p, hp, e⟩ := List.mem_map.1 h1
    exact ⟨p, hp, e.symm⟩
  have hko : ∀ x ∈ es.toList, ∀ s : ByteArray, x.key = ekS s → s.size ≤ maxLen → keyOf P kt x.key = some (.string s.data.toList) := fun x _ s h hs => by
    rw [h]; simp [keyOf, hkt, mapKey, ekS, hs]
  have hrd : ∀ x ∈ es.toList, ∃ p ∈ m, x.key = ekS p.1 ∧ WideElems.rd (H := Unit) P kt (fun _ => some (.nil, [])) x = some (.string p.1.data.toList, .nil) := fun x hx => by
    obtain ⟨p, hp, e⟩ := hkey x hx
    refine ⟨p, hp, e, ?_⟩
    unfold WideElems.rd
    rw [hko x hx p.1 e (hk p hp)]
    rfl
  refine ⟨_, ⟨es, c, hb, ⟨by rw [hm.len]; exact hl, ⟨hm.born, hm.apart, ?_⟩, fun x hx => ?_⟩, Nat.le_refl _, rfl⟩, ?_, ?_⟩
  · rw [hks]
    have := hm.keys
    rw [show (m.map fun p => ekS p.1) = (m.map (·.1)).map ekS from by simp [List.map_map, Function.comp_def]]
    exact List.pairwise_map.2 (this.imp fun h e => h (by simpa [ekS] using e))
  · obtain ⟨p, _, _, h⟩ := hrd x hx; exact ⟨_, h⟩
  · show (((es.toList.map _).foldr DataW.insert []).map fun p => strOf p.1).Perm _
    refine ((Go.WideShapes.sorted_perm _).map _).trans ?_
    rw [List.map_map]
    have e : es.toList.map ((fun p : Lit × DataW Unit => strOf p.1) ∘ WideElems.rg P kt fun _ => some (.nil, [])) = m.map (·.1.data.toList) := by
      have h1 : es.toList.map ((fun p : Lit × DataW Unit => strOf p.1) ∘ WideElems.rg P kt fun _ => some (.nil, [])) = (es.toList.map (·.key)).map fun v => match v with | .string s => s.data.toList | _ => [] := by
        rw [List.map_map]
        refine List.map_congr_left fun x hx => ?_
        obtain ⟨p, _, e, h⟩ := hrd x hx
        simp only [Function.comp, WideElems.rg, h, Option.getD_some, strOf, e, ekS]
      rw [h1, hks, List.map_map]; rfl
    rw [e]
  · show ((es.toList.map _).foldr DataW.insert []).length = _
    rw [(Go.WideShapes.sorted_perm _).length_eq, List.length_map]
    have := hm.len; simpa using this
def keysL (N : Ct) : List ByteArray := ((N.map (·.1.data.toList)).mergeSort leB).map fun l => ⟨l.toArray⟩
theorem keysL_len (N : Ct) : (keysL N).length = N.length := by simp [keysL]
theorem keysL_perm {N Y : Ct} (h : N.Perm Y) : keysL N = keysL Y := by unfold keysL; rw [mergeSort_of_perm (h.map _)]
theorem keysL_mem {N : Ct} {k : ByteArray} : k ∈ keysL N ↔ ∃ xs, (k, xs) ∈ N := by
  unfold keysL
  rw [List.mem_map]
  constructor
  · rintro ⟨l, hl, rfl⟩
    obtain ⟨p, hp, rfl⟩ := List.mem_map.1 ((List.mergeSort_perm _ _).mem_iff.1 hl)
    exact ⟨p.2, by simpa using hp⟩
  · rintro ⟨xs, h⟩
    exact ⟨k.data.toList, (List.mergeSort_perm _ _).mem_iff.2 (List.mem_map.2 ⟨_, h, rfl⟩), by simp⟩
theorem look_of_mem {κ β : Type} [DecidableEq κ] : ∀ {m : List (κ × β)} {k : κ} {v : β}, (k, v) ∈ m → ∃ u, lookL m k = some u
  | (a, b) :: r, k, v, h => by
    unfold lookL
    by_cases e : a = k
    · exact ⟨b, by rw [if_pos e]⟩
    · rw [if_neg e]
      rcases List.mem_cons.1 h with h | h
      · cases h; exact absurd rfl e
      · exact look_of_mem h
theorem keys_look {N : Ct} {i : Nat} {k : ByteArray} (h : (keysL N)[i]? = some k) : ∃ xs, lookL N k = some xs := by
  obtain ⟨xs, hx⟩ := keysL_mem.1 (List.mem_of_getElem? h)
  exact look_of_mem hx
theorem encS_flat (l : List (List UInt8)) : l.map Go.Proofs.encStr = (l.map fun x => (⟨x.toArray⟩ : ByteArray)).flatMap Go.Tw.encS := by
  induction l with
  | nil => rfl
  | cons a r ih => simp only [List.map_cons, List.flatMap_cons, ih]; rfl
theorem keys_own {w' : World} {base : Nat} {v : Value} {N : Ct} {ss : List (List UInt8)} (hp : ss.Perm (N.map (·.1.data.toList))) (h : w'.ownsRow base 9 1 v ss.length ((ss.mergeSort (fun x y => decide (x ≤ y))).map Go.Proofs.encStr)) : w'.ownsRow base 9 1 v (keysL N).length ((keysL N).flatMap Go.Tw.encS) := by
  rw [encS_flat, mergeSort_of_perm hp] at h
  have e : ss.length = (keysL N).length := by rw [hp.length_eq, keysL_len, List.length_map]
  rw [e] at h
  exact h
theorem putE_yes {N : Ct} {size : Int} {key : ByteArray} {tot : Nat} (h1 : 1 ≤ key.size) (h2 : key.size ≤ 64) (h : ((usedL (delL N key) + key.size + tot : Nat) : Int) ≤ size) : putE N size key tot = 0 := by
  unfold putE; rw [if_neg (by omega), if_pos h]
theorem putE_full {N : Ct} {size : Int} {key : ByteArray} {tot : Nat} (h1 : 1 ≤ key.size) (h2 : key.size ≤ 64) (h : size < ((usedL (delL N key) + key.size + tot : Nat) : Int)) : putE N size key tot = 5 := by
  unfold putE; rw [if_neg (by omega), if_neg (by omega)]
theorem putE_form {N : Ct} {size : Int} {key : ByteArray} {tot : Nat} (h : key.size < 1 ∨ 64 < key.size) : putE N size key tot = 9 := by
  unfold putE; rw [if_pos (by omega)]
theorem del_put1 (key : ByteArray) (xs : List Int) : delL (putL ([] : Ct) key xs) key = [] := by simp [putL, delL]
theorem used_put1 (key : ByteArray) (xs : List Int) : usedL (putL ([] : Ct) key xs) = key.size + xs.length := by rw [used_put]; simp [delL, usedL]
theorem used0 : usedL [] = 0 := rfl
theorem del0 (key : ByteArray) : delL ([] : Ct) key = [] := rfl
theorem cat1 (a : Option Addr) (n c : Nat) (xs : List Int) : catL [⟨a, n, c, xs⟩] = xs := by simp [catL]
theorem cat2 (a b : Option Addr) (n c n2 c2 : Nat) (xs ys : List Int) : catL [⟨a, n, c, xs⟩, ⟨b, n2, c2, ys⟩] = xs ++ ys := by simp [catL]
theorem cut_row (row : List Int) (q : Nat) : (row.take q).drop 0 ++ (row.take row.length).drop q = row := by rw [List.drop_zero, List.take_length, List.take_append_drop]
theorem byteL_sub {row : List Int} (h : byteL row) (a b : Nat) : byteL ((row.take a).drop b) := fun x hx => h x (List.mem_of_mem_take (List.mem_of_mem_drop hx))
theorem sorted_fr {H : Type} (b Bm nn : Nat) (D0 : DataW H) (R : Value → Option (DataW H × List MemPlace)) (W : World) (hBm : Bm < W.heap.size) (hm : W.cell? ⟨Bm, 0, none⟩ = some (.map (some b))) (hown : W.ownsMap Try.prog 9 R b nn D0) (hmax : Maps.size D0 ≤ maxLen) (hbytes : Maps.size D0 * 16 ≤ 140737488355328) :
    Calls Try.prog 36 #[.func (.func 47) #[] #[.pointer (some ⟨Bm, 0, none⟩)]] W fun e w' => ∃ (v : Value) (ss : List (List UInt8)), e = .returned v ∧ ss.Perm (strKeys D0) ∧ w'.ownsRow W.heap.size 9 1 v ss.length ((ss.mergeSort (fun x y => decide (x ≤ y))).map Go.Proofs.encStr) ∧ Fr W w' [] :=
  (StKeys.sorted b Bm nn D0 R W hBm hm hown hmax hbytes).mono fun e w' ⟨v, ss, h1, h2, h3, _, h5⟩ => ⟨v, ss, h1, h2, h3, Fr.of_below h5 (fun h_ => h_.elim)⟩
set_option maxHeartbeats 1000000 in
theorem Keys_ct (F : List Nat) (p : Nat) (N Y : Ct) (size : Int)  (w : World) (ht : stAt w F p N Y size) : Calls Try.prog 19 #[.pointer (some ⟨p, 0, none⟩)] w fun e w' => ∃ v, e = .returned v ∧ Fr w w' [] ∧ w'.ownsRow w.heap.size 9 1 v (keysL N).length ((keysL N).flatMap Go.Tw.encS) := by
  refine enterD (n := 11) Try.func19 rfl rfl (Nat.le_of_ble_eq_true rfl) ?_
  intro Q0 hN hret hret'
  have ht0 := ht
  obtain ⟨b1, b2, m1, m2, hp_, hq1_, hq2_, rfl, rfl, rfl, hne_, hft_, hs0_, hs1_, hu1_, hu2_⟩ := ht
  obtain ⟨hne1_, hne2_, hne3_⟩ := hne_
  obtain ⟨es1, cl1, hb1_, hm1_⟩ := hq1_.map
  have hC := Cx.startMs w [(p, .cells #[.map (some b1), .map (some b2), .int .i64 size] 70), (b1, .map es1 cl1)] (by simp [hne1_]) (by simp [hp_, hb1_])
  refine WC.seq (fun K1 hK2 => ?_)
  refine WC.region ?_
  refine WL.runs 1 [(2, .slice none 0 0)] (fun _ => by kernel_rfl) ?_
  refine WL.done rfl ?_
  refine QX.then_normal (hK2 _ _ ?_)
  refine WC.seq (fun K3 hK4 => ?_)
  refine WC.seq (fun K5 hK6 => ?_)
  refine WC.region ?_
  refine WL.runs 2 [(4, .bool false), (3, .pointer (some ⟨p, 0, none⟩))] (fun _ => by kernel_rfl) ?_
  refine WL.done rfl ?_
  refine QX.then_normal (hK6 _ _ ?_)
  refine WC.cond_false rfl ?_
  refine WC.skip ?_
  refine QX.then_normal (hK4 _ _ ?_)
  refine WC.seq (fun K7 hK8 => ?_)
  refine WC.region ?_
  refine WL.runs 3 [(7, .pointer (some ⟨p, 0, none⟩)), (6, .pointer (some ⟨p, 0, none⟩)), (5, .pointer (some ⟨p, 0, none⟩))] (fun _ => by kernel_rfl) ?_
  refine WL.load 68 (.pointer (some ⟨p, 0, none⟩)) (.map (some b1)) 8 (by kernel_rfl) (run_ld (hC.get 0 rfl) rfl) ?_
  refine WL.call rfl rfl rfl rfl rfl (by kernel_rfl) (StKeys.keys (some b1) w) ?_
  rintro _ _ ⟨rfl, rfl⟩
  refine ⟨_, rfl, ?_⟩
  have hC11 := hC.alloc (.cells #[.map (some b1)] 68)
  have hF9 : Fr w (w.alloc (.cells #[.map (some b1)] 68)) [] := Fr.alloc _ _
  have hf12 := (Fr.refl w []).trans hF9 (by simp)
  obtain ⟨D_, hD1_, hD2_, hD3_⟩ := own_of_ok (P := Try.prog) (kt := 9) rfl (hC11.get 1 rfl) hm1_ (fun p_ hp_ => by have q1_ := mem_used hq1_ hp_; simp only [maxLen]; omega) (by have q1_ := len_le hq1_.keys hq1_.used; simp only [maxLen]; omega)
  have hml_ := len_le hq1_.keys hq1_.used
  refine WL.call rfl rfl rfl rfl rfl (by kernel_rfl) (sorted_fr b1 _ _ D_ _ (w.alloc (.cells #[.map (some b1)] 68)) (lt_of_heap (hC11.get 2 rfl)) (by rw [cell_blk (hC11.get 2 rfl)]; rfl) hD1_ (by rw [hD3_]; simp only [maxLen]; omega) (by rw [hD3_]; omega)) ?_
  rintro _ w17 ⟨v_, ss_, rfl, hpm14, ho13, hF16⟩
  have hC18 := hC11.callN hF16 (own_ge ho13) (own_lt ho13)
  have ho13' := keys_own (N := ct m1) ((hpm14.trans hD2_).trans (by unfold ct; rw [List.map_map]; exact List.Perm.refl _)) ho13
  obtain ⟨A19, c20, rfl, hle21⟩ := own_form ho13'
  have ho23 := own_base (b' := 0) ho13' (fun _ _ => Nat.zero_le _)
  refine ⟨_, rfl, ?_⟩
  have hf24 := hf12.trans hF16 (by simp)
  refine WL.runs 1 [(2, .slice A19 ((keysL (ct m1)).length) c20)] (fun _ => by kernel_rfl) ?_
  refine WL.done rfl ?_
  refine QX.then_normal (hK8 _ _ ?_)
  refine WC.ret ?_
  refine (hret _ _ _ rfl ?_).1
  clear hN hret hret' hK8 hK6 hK4 hK2
  have hks_ := ho23
  exact ⟨_, rfl, hf24, own_base hks_ (newF_of hC18 0 rfl (by intro x hx; simp at hx; rcases hx with rfl | rfl; exact lt_of_heap hp_; exact lt_of_heap hb1_) (by intro q_ hq_; simp at hq_; rcases hq_ with rfl | rfl; exact hC18.notin 0 0 rfl rfl; exact hC18.notin 0 1 rfl rfl))⟩

end Go.Proofs.Ytelmklombehhkaa
