/- Contracts of functions of the program, each proved by a walk through its code; conditions stand in the statements. -/
import Derived.Test.YtoambminolcgfaaDoorLsM
namespace Go.Proofs.YtoambminolcgfaaDoor
open Go Go.RowKit Go.Tw
set_option linter.unusedVariables false
theorem part2 (p : Lease → Bool) (l : Lease) : ∀ xs : List Lease, ((xs.filter (ltL · l)).filter p).length + ((xs.filter (ltL l ·)).filter p).length ≤ (xs.filter p).length
  | [] => by simp
  | x :: r => by
    have ih := part2 p l r
    cases h1 : ltL x l
    · rw [List.filter_cons_of_neg (p := (ltL · l)) (by simp [h1])]
      cases h2 : ltL l x
      · rw [List.filter_cons_of_neg (p := (ltL l ·)) (by simp [h2])]
        cases h3 : p x
        · rw [List.filter_cons_of_neg (p := p) (l := r) (by simp [h3])]; exact ih
        · rw [List.filter_cons_of_pos (p := p) (l := r) h3, List.length_cons]; omega
      · rw [List.filter_cons_of_pos (p := (ltL l ·)) h2]
        cases h3 : p x
        · rw [List.filter_cons_of_neg (p := p) (by simp [h3]), List.filter_cons_of_neg (p := p) (by simp [h3])]; exact ih
        · rw [List.filter_cons_of_pos (p := p) h3, List.filter_cons_of_pos (p := p) h3, List.length_cons, List.length_cons]; omega
    · rw [List.filter_cons_of_pos (p := (ltL · l)) h1, List.filter_cons_of_neg (p := (ltL l ·)) (by simp [ltL_asym h1])]
      cases h3 : p x
      · rw [List.filter_cons_of_neg (p := p) (by simp [h3]), List.filter_cons_of_neg (p := p) (by simp [h3])]; exact ih
      · rw [List.filter_cons_of_pos (p := p) h3, List.filter_cons_of_pos (p := p) h3, List.length_cons, List.length_cons]; omega
theorem part3 (p : Lease → Bool) {l z : Lease} (hv : z.vip = l.vip) (hf : z.first = l.first) (hp : p z = true) : ∀ {xs : List Lease}, z ∈ xs → ((xs.filter (ltL · l)).filter p).length + ((xs.filter (ltL l ·)).filter p).length + 1 ≤ (xs.filter p).length
  | [], h => by simp at h
  | x :: r, h => by
    have ih0 := part2 p l r
    rcases List.mem_cons.1 h with rfl | hr
    · have h1 : ltL z l = false := by cases hc : ltL z l; rfl; rw [ltL_iff] at hc; omega
      have h2 : ltL l z = false := by cases hc : ltL l z; rfl; rw [ltL_iff] at hc; omega
      rw [List.filter_cons_of_neg (p := (ltL · l)) (by simp [h1]), List.filter_cons_of_neg (p := (ltL l ·)) (by simp [h2]), List.filter_cons_of_pos (p := p) hp, List.length_cons]; omega
    · have ih := part3 p hv hf hp hr
      cases h1 : ltL x l
      · rw [List.filter_cons_of_neg (p := (ltL · l)) (by simp [h1])]
        cases h2 : ltL l x
        · rw [List.filter_cons_of_neg (p := (ltL l ·)) (by simp [h2])]
          cases h3 : p x
          · rw [List.filter_cons_of_neg (p := p) (l := r) (by simp [h3])]; exact ih
          · rw [List.filter_cons_of_pos (p := p) (l := r) h3, List.length_cons]; omega
        · rw [List.filter_cons_of_pos (p := (ltL l ·)) h2]
          cases h3 : p x
          · rw [List.filter_cons_of_neg (p := p) (by simp [h3]), List.filter_cons_of_neg (p := p) (by simp [h3])]; exact ih
          · rw [List.filter_cons_of_pos (p := p) h3, List.filter_cons_of_pos (p := p) h3, List.length_cons, List.length_cons]; omega
      · rw [List.filter_cons_of_pos (p := (ltL · l)) h1, List.filter_cons_of_neg (p := (ltL l ·)) (by simp [ltL_asym h1])]
        cases h3 : p x
        · rw [List.filter_cons_of_neg (p := p) (by simp [h3]), List.filter_cons_of_neg (p := p) (by simp [h3])]; exact ih
        · rw [List.filter_cons_of_pos (p := p) h3, List.filter_cons_of_pos (p := p) h3, List.length_cons, List.length_cons]; omega
theorem filter_ins (p : Lease → Bool) (xs : List Lease) (l : Lease) : ((insL xs l).filter p).length = ((xs.filter (ltL · l)).filter p).length + ((xs.filter (ltL l ·)).filter p).length + (if p l then 1 else 0) := by
  rw [insL, List.filter_append, List.length_append]
  cases h : p l
  · rw [List.filter_cons_of_neg (by simp [h])]; simp
  · rw [List.filter_cons_of_pos h, List.length_cons]; simp; omega
theorem len_insL1 (xs : List Lease) (l : Lease) : (insL xs l).length ≤ xs.length + 1 := by
  have h := filter_ins (fun _ => true) xs l
  have h2 := part2 (fun _ => true) l xs
  have e : ∀ l : List Lease, l.filter (fun _ => true) = l := fun l => List.filter_eq_self.2 (fun _ _ => rfl)
  simp only [e, if_true] at h h2
  omega
theorem mem_ins_old {xs : List Lease} {l x : Lease} (hx : x ∈ xs) (hne : ¬ (x.vip = l.vip ∧ x.first = l.first)) : x ∈ insL xs l := by
  cases h : ltL x l
  · exact List.mem_append_right _ (List.mem_cons_of_mem _ (List.mem_filter.2 ⟨hx, ltL_tri h hne⟩))
  · exact List.mem_append_left _ (List.mem_filter.2 ⟨hx, h⟩)
theorem mem_ins_new (xs : List Lease) (l : Lease) : l ∈ insL xs l := by simp [insL]
theorem uniqL : ∀ {xs : List Lease}, sortedL xs → ∀ {x y : Lease}, x ∈ xs → y ∈ xs → x.vip = y.vip → x.first = y.first → x = y
  | [], _, x, y, hx, _, _, _ => by simp at hx
  | a :: r, hs, x, y, hx, hy, hv, hf => by
    obtain ⟨h1, h2⟩ := List.pairwise_cons.1 hs
    rcases List.mem_cons.1 hx with rfl | hx' <;> rcases List.mem_cons.1 hy with rfl | hy'
    · rfl
    · have := ltL_iff.1 (h1 y hy'); omega
    · have := ltL_iff.1 (h1 x hx'); omega
    · exact uniqL h2 hx' hy' hv hf
structure Alone (L G : List Lease) (now : Int) : Prop where
  chk : checkL L = true
  has : ∀ x ∈ G, now ≤ x.exp → ∃ y ∈ L, y.vip = x.vip ∧ y.first = x.first ∧ y.dip = x.dip ∧ x.exp ≤ y.exp
  cnt : ∀ dip, (L.filter (ofP dip now)).length ≤ 4
  late : ∀ x ∈ G, x.exp ≤ now + 64
  ok : ∀ x ∈ G, okL x
  okl : ∀ x ∈ L, okL x
theorem livesB_iff {l : Lease} {now : Int} : livesB l now = true ↔ now ≤ l.exp := by simp [livesB]
theorem ofP_iff {l : Lease} {dip now : Int} : ofP dip now l = true ↔ l.dip = dip ∧ now ≤ l.exp := by simp [ofP, livesB]
theorem cnt_mono {p q : Lease → Bool} (h : ∀ x, p x = true → q x = true) : ∀ xs : List Lease, (xs.filter p).length ≤ (xs.filter q).length
  | [] => by simp
  | x :: r => by
    have ih := cnt_mono h r
    cases h1 : p x
    · rw [List.filter_cons_of_neg (p := p) (by simp [h1])]
      cases h2 : q x
      · rw [List.filter_cons_of_neg (p := q) (by simp [h2])]; exact ih
      · rw [List.filter_cons_of_pos (p := q) h2, List.length_cons]; omega
    · rw [List.filter_cons_of_pos (p := p) h1, List.filter_cons_of_pos (p := q) (h x h1), List.length_cons, List.length_cons]; omega
theorem alone_nil : Alone [] [] 0 := ⟨rfl, by simp, by simp, by simp, by simp, by simp⟩
theorem alone_wait {L G : List Lease} {now n2 : Int} (h : Alone L G now) (hn : now ≤ n2) : Alone L G n2 :=
  ⟨h.chk, fun x hx he => h.has x hx (by omega), fun dip => Nat.le_trans (cnt_mono (fun x hx => by rw [ofP_iff] at *; exact ⟨hx.1, by omega⟩) L) (h.cnt dip), fun x hx => by have := h.late x hx; omega, h.ok, h.okl⟩
theorem alone_prune {L G : List Lease} {now : Int} (h : Alone L G now) : Alone (L.filter (pruneP now)) G now := by
  refine ⟨checkL_iff.2 ⟨fun x hx => checkL_good h.chk x (List.mem_filter.1 hx).1, List.Pairwise.filter _ (checkL_sorted h.chk)⟩, fun x hx he => ?_, fun dip => ?_, h.late, h.ok, fun x hx => h.okl x (List.mem_filter.1 hx).1⟩
  · obtain ⟨y, hy, h1, h2, h3, h4⟩ := h.has x hx he
    exact ⟨y, List.mem_filter.2 ⟨hy, livesB_iff.2 (by omega)⟩, h1, h2, h3, h4⟩
  · have e : (L.filter (pruneP now)).filter (ofP dip now) = L.filter (ofP dip now) := by
      rw [List.filter_filter]
      apply List.filter_congr
      intro x _
      cases hc : ofP dip now x
      · simp
      · simp [pruneP, livesB_iff.2 (ofP_iff.1 hc).2]
    rw [e]; exact h.cnt dip
theorem good_block {x : Lease} (h : goodL x = true) : 1024 ≤ x.first ∧ x.first ≤ 65528 ∧ (x.first - 1024) % 8 = 0 := by
  obtain ⟨h1, h2, h3, _⟩ := good_first h
  exact ⟨h1, h2, h3⟩
theorem goodL_ins {vip dip now : Int} {n : Nat} (hg : goodL ⟨vip, 1024, dip, 0⟩ = true) (hn : n < 8064) (h0 : 0 ≤ now) (h1 : now ≤ 1099511627776) : goodL ⟨vip, 1024 + 8 * (n : Int), dip, now + 64⟩ = true := by
  simp only [goodL, goodBlock, Bool.and_eq_true, decide_eq_true_eq] at hg ⊢
  refine ⟨⟨⟨⟨hg.1.1.1.1, hg.1.1.1.2⟩, ?_⟩, ?_⟩, ?_⟩ <;> omega
theorem grant_new {L : List Lease} {vip dip now : Int} (hE : grE L vip dip now = 0) : ∃ n : Nat, n < 8064 ∧ grL L vip dip now = ⟨vip, 1024 + 8 * (n : Int), dip, now + 64⟩ ∧ lentB L vip now n = false := by
  obtain ⟨h1, h2, h3, h4, h5, h6⟩ := grE_zero hE
  obtain ⟨n, hn⟩ := Option.isSome_iff_exists.1 h6
  refine ⟨n, freeN_lt hn, ?_, ?_⟩
  · unfold grL; rw [if_pos hE]; unfold freeF; rw [hn]
  · unfold freeN at hn
    rw [List.find?_range_eq_some] at hn
    simpa using hn.1
theorem not_lent {L : List Lease} {vip now : Int} {n : Nat} (h : lentB L vip now n = false) {y : Lease} (hy : y ∈ L) (hg : goodL y = true) (hl : now ≤ y.exp) : ¬ (y.vip = vip ∧ y.first = 1024 + 8 * (n : Int)) := by
  rintro ⟨h1, h2⟩
  have h3 : lentAt vip now n y = false := by
    have := List.any_eq_false.1 h y hy; simpa using this
  obtain ⟨_, _, _, h4, _⟩ := good_first hg
  have h5 : blkN y = n := by omega
  simp [lentAt, h1, h5, livesB_iff.2 hl] at h3
theorem alone_over {L G : List Lease} {vip dip now : Int} (h : Alone L G now) (hE : grE L vip dip now = 0) {x : Lease} (hx : x ∈ G) (he : now ≤ x.exp) : ¬ (x.vip = (grL L vip dip now).vip ∧ x.first < (grL L vip dip now).first + 8 ∧ (grL L vip dip now).first < x.first + 8) := by
  obtain ⟨n, hn, hl, hf⟩ := grant_new hE
  rw [hl]
  rintro ⟨h1, h2, h3⟩
  dsimp only at h1 h2 h3
  obtain ⟨y, hy, y1, y2, y3, y4⟩ := h.has x hx he
  have hg := checkL_good h.chk y hy
  obtain ⟨b1, b2, b3⟩ := good_block hg
  exact not_lent hf hy hg (by omega) ⟨by omega, by omega⟩
theorem alone_grant {L G : List Lease} {vip dip now : Int} (h : Alone L G now) (hE : grE L vip dip now = 0) (hvip : 0 ≤ vip ∧ vip ≤ 4294967295) (hdip : 0 ≤ dip ∧ dip ≤ 4294967295) : Alone (grX L vip dip now) (G ++ [grL L vip dip now]) now := by
  obtain ⟨h1, h2, h3, h4, h5, h6⟩ := grE_zero hE
  obtain ⟨n, hn, hl, hf⟩ := grant_new hE
  have hX : grX L vip dip now = insL L (grL L vip dip now) := by unfold grX; rw [if_pos hE]
  have hok := grX_ok h.okl hvip hdip (now := now)
  have hokg : okL (grL L vip dip now) := hok _ (by rw [hX]; exact mem_ins_new _ _)
  rw [hX] at hok ⊢
  rw [hl] at hok hokg ⊢
  refine ⟨check_ins h.chk (goodL_ins h2 hn h3 h4), fun x hx he => ?_, fun d => ?_, fun x hx => ?_, fun x hx => ?_, hok⟩
  · rcases List.mem_append.1 hx with hx | hx
    · obtain ⟨y, hy, y1, y2, y3, y4⟩ := h.has x hx he
      exact ⟨y, mem_ins_old hy (not_lent hf hy (checkL_good h.chk y hy) (by omega)), y1, y2, y3, y4⟩
    · obtain rfl := List.mem_singleton.1 hx
      exact ⟨_, mem_ins_new _ _, rfl, rfl, rfl, Int.le_refl _⟩
  · rw [filter_ins]
    have q1 := part2 (ofP d now) ⟨vip, 1024 + 8 * (n : Int), dip, now + 64⟩ L
    have q2 := h.cnt d
    split
    · rename_i hq
      have hd : dip = d := (ofP_iff.1 hq).1
      subst hd
      omega
    · omega
  · rcases List.mem_append.1 hx with hx | hx
    · exact h.late x hx
    · obtain rfl := List.mem_singleton.1 hx
      exact Int.le_refl _
  · rcases List.mem_append.1 hx with hx | hx
    · exact h.ok x hx
    · obtain rfl := List.mem_singleton.1 hx
      exact hokg
theorem rnE_zero {L : List Lease} {vip first dip now : Int} (hE : rnE L vip first dip now = 0) : goodTime now = true ∧ ∃ z ∈ L, z.vip = vip ∧ z.first = first ∧ z.dip = dip ∧ now ≤ z.exp := by
  unfold rnE at hE
  split at hE
  · rename_i h1
    simp only [Bool.and_eq_true] at h1
    split at hE
    · rename_i h2
      obtain ⟨z, hz, hp⟩ := List.any_eq_true.1 h2
      simp only [rnP, Bool.and_eq_true, decide_eq_true_eq, livesB_iff] at hp
      exact ⟨h1.2, z, hz, hp.1.1.1, hp.1.1.2, hp.1.2, hp.2⟩
    · cases hE
  · cases hE
theorem alone_renew_ok {L G : List Lease} {now : Int} (h : Alone L G now) (h0 : 0 ≤ now) (h1 : now ≤ 1099511627776) {x : Lease} (hx : x ∈ G) (he : now ≤ x.exp) : rnE L x.vip x.first x.dip now = 0 := by
  obtain ⟨y, hy, y1, y2, y3, y4⟩ := h.has x hx he
  unfold rnE
  rw [if_pos (by rw [h.chk]; simp [goodTime, h0, h1]), if_pos]
  refine List.any_eq_true.2 ⟨y, hy, ?_⟩
  have hl := livesB_iff.2 (show now ≤ y.exp by omega)
  simp [rnP, y1, y2, y3, hl]
theorem goodL_again {z : Lease} {now : Int} (hg : goodL z = true) (h0 : 0 ≤ now) (h1 : now ≤ 1099511627776) : goodL ⟨z.vip, z.first, z.dip, now + 64⟩ = true := by
  simp only [goodL, goodBlock, Bool.and_eq_true, decide_eq_true_eq] at hg ⊢
  refine ⟨⟨⟨⟨hg.1.1.1.1, hg.1.1.1.2⟩, ?_⟩, ?_⟩, ?_⟩ <;> omega
theorem alone_renew {L G : List Lease} {now vip first dip : Int} (h : Alone L G now) (hE : rnE L vip first dip now = 0) : Alone (rnX L vip first dip now) (G ++ [rnL L vip first dip now]) now := by
  obtain ⟨ht, z, hz, z1, z2, z3, z4⟩ := rnE_zero hE
  have hX : rnX L vip first dip now = insL L (rnL L vip first dip now) := by unfold rnX; rw [if_pos hE]
  have hl : rnL L vip first dip now = ⟨z.vip, z.first, z.dip, now + 64⟩ := by unfold rnL; rw [if_pos hE, z1, z2, z3]
  have ⟨t1, t2⟩ := goodTime_le ht
  have hzk := h.okl z hz
  have hzg := checkL_good h.chk z hz
  rw [hX, hl]
  have hnok : okL ⟨z.vip, z.first, z.dip, now + 64⟩ := by simp only [okL] at hzk ⊢; omega
  refine ⟨check_ins h.chk (goodL_again hzg t1 t2), fun x hx he => ?_, fun d => ?_, fun x hx => ?_, fun x hx => ?_, fun x hx => ?_⟩
  · rcases List.mem_append.1 hx with hxG | hx
    · obtain ⟨y, hy, y1, y2, y3, y4⟩ := h.has x hxG he
      by_cases e : y.vip = z.vip ∧ y.first = z.first
      · obtain rfl := uniqL (checkL_sorted h.chk) hy hz e.1 e.2
        exact ⟨_, mem_ins_new _ _, y1, y2, y3, h.late x hxG⟩
      · exact ⟨y, mem_ins_old hy e, y1, y2, y3, y4⟩
    · obtain rfl := List.mem_singleton.1 hx
      exact ⟨_, mem_ins_new _ _, rfl, rfl, rfl, Int.le_refl _⟩
  · rw [filter_ins]
    have q2 := h.cnt d
    split
    · rename_i hq
      obtain ⟨hd, _⟩ := ofP_iff.1 hq
      have q1 := part3 (ofP d now) (l := ⟨z.vip, z.first, z.dip, now + 64⟩) (z := z) rfl rfl (ofP_iff.2 ⟨hd, z4⟩) hz
      omega
    · have q1 := part2 (ofP d now) ⟨z.vip, z.first, z.dip, now + 64⟩ L
      omega
  · rcases List.mem_append.1 hx with hx | hx
    · exact h.late x hx
    · obtain rfl := List.mem_singleton.1 hx
      exact Int.le_refl _
  · rcases List.mem_append.1 hx with hx | hx
    · exact h.ok x hx
    · obtain rfl := List.mem_singleton.1 hx
      exact hnok
  · rcases mem_insL hx with hx | rfl
    · exact h.okl x hx
    · exact hnok
theorem findP_iff {l : Lease} {vip port now : Int} : findP vip port now l = true ↔ l.vip = vip ∧ now ≤ l.exp ∧ l.first ≤ port ∧ port - l.first < 8 := by
  simp [findP, livesB]; grind
theorem alone_find {L G : List Lease} {now : Int} (h : Alone L G now) {x : Lease} (hx : x ∈ G) (he : now ≤ x.exp) : hasL (L.filter (findP x.vip x.first now)) = true ∧ (headL (L.filter (findP x.vip x.first now))).dip = x.dip ∧ (headL (L.filter (findP x.vip x.first now))).first = x.first ∧ x.exp ≤ (headL (L.filter (findP x.vip x.first now))).exp := by
  obtain ⟨y, hy, y1, y2, y3, y4⟩ := h.has x hx he
  have hyf : y ∈ L.filter (findP x.vip x.first now) := List.mem_filter.2 ⟨hy, findP_iff.2 ⟨y1, by omega, by omega, by omega⟩⟩
  cases hf : L.filter (findP x.vip x.first now) with
  | nil => rw [hf] at hyf; simp at hyf
  | cons z r =>
    have hz : z ∈ L.filter (findP x.vip x.first now) := by rw [hf]; simp
    obtain ⟨hzL, hzp⟩ := List.mem_filter.1 hz
    obtain ⟨z1, z2, z3, z4⟩ := findP_iff.1 hzp
    have b1 := good_block (checkL_good h.chk y hy)
    have b2 := good_block (checkL_good h.chk z hzL)
    obtain rfl := uniqL (checkL_sorted h.chk) hzL hy (by omega) (by omega)
    exact ⟨rfl, y3, y2, y4⟩
theorem alone_of {L G : List Lease} {now : Int} (h : Alone L G now) (dip : Int) : ((L.filter (ofP dip now)).length : Int) ≤ 4 := by
  have := h.cnt dip; omega
theorem grX_len1 (L : List Lease) (vip dip now : Int) : (grX L vip dip now).length ≤ L.length + 1 := by
  unfold grX; split
  · exact len_insL1 _ _
  · simp
theorem rnX_len1 (L : List Lease) (vip first dip now : Int) : (rnX L vip first dip now).length ≤ L.length + 1 := by
  unfold rnX; split
  · exact len_insL1 _ _
  · simp
structure OpL where
  kind : Int
  vip : Int
  dip : Int
  n : Int
  wait : Int
def encO (o : OpL) : List Value := [.int .i64 o.kind, .int .u32 o.vip, .int .u32 o.dip, .int .i64 o.n, .int .i64 o.wait]
theorem encO_len (o : OpL) : (encO o).length = 5 := rfl
theorem encO_one (o : OpL) : (encO o).all Value.oneCell' = true := rfl
def okO (o : OpL) : Prop := (0 ≤ o.vip ∧ o.vip ≤ 4294967295) ∧ (0 ≤ o.dip ∧ o.dip ≤ 4294967295) ∧ (-9223372036854775808 ≤ o.n ∧ o.n ≤ 9223372036854775807) ∧ (-9223372036854775808 ≤ o.wait ∧ o.wait ≤ 9223372036854775807)
def overB (a b : Lease) : Bool := decide (a.vip = b.vip) && decide (a.first < b.first + 8) && decide (b.first < a.first + 8)
theorem alone_first {L G : List Lease} {now : Int} (h : Alone L G now) {x : Lease} (hx : x ∈ G) (he : now ≤ x.exp) : 1024 ≤ x.first ∧ x.first ≤ 65528 := by
  obtain ⟨y, hy, y1, y2, y3, y4⟩ := h.has x hx he
  have b := good_block (checkL_good h.chk y hy)
  omega
theorem alone_over' {L G : List Lease} {vip dip now : Int} (h : Alone L G now) (hE : grE L vip dip now = 0) {x : Lease} (hx : x ∈ G) (he : now ≤ x.exp) : overB x (grL L vip dip now) = false := by
  cases hc : overB x (grL L vip dip now)
  · rfl
  · simp only [overB, Bool.and_eq_true, decide_eq_true_eq] at hc
    exact absurd ⟨hc.1.1, hc.1.2, hc.2⟩ (alone_over h hE hx he)
theorem grL_first {L : List Lease} {vip dip now : Int} : 0 ≤ (grL L vip dip now).first ∧ (grL L vip dip now).first ≤ 65528 := by
  unfold grL
  by_cases h : grE L vip dip now = 0
  · rw [if_pos h]; dsimp only; exact freeF_le L vip now
  · rw [if_neg h]; exact ⟨Int.le_refl _, by decide⟩
theorem alone_ok {L G : List Lease} {now : Int} (h : Alone L G now) : ∀ x ∈ L, okL x := h.okl
theorem overlap_ct (a b : Lease) (w : World) (ha : 0 ≤ a.first ∧ a.first ≤ 65528) (hb : 0 ≤ b.first ∧ b.first ≤ 65528) : Calls Tryd.prog 26 #[.agg #[.int .u32 a.vip, .int .i64 a.first, .int .u32 a.dip, .int .i64 a.exp], .agg #[.int .u32 b.vip, .int .i64 b.first, .int .u32 b.dip, .int .i64 b.exp]] w fun e w' => e = .returned (.bool (overB a b)) ∧ Fr w w' [] := by
  refine enterD (n := 26) Tryd.func26 rfl rfl (Nat.le_of_ble_eq_true rfl) ?_
  intro Q0 hN hret hret'
  have hC := Cx.start w
  refine WC.seq (fun K1 hK2 => ?_)
  refine WC.region ?_
  refine WL.newM hC (fun b => .pointer (some ⟨b, 0, none⟩)) (.cells #[.int .u32 a.vip, .int .i64 a.first, .int .u32 a.dip, .int .i64 a.exp] 27) 2 (fun _ => by kernel_rfl) (fun g3 w4 hb7 hF5 hC6 => ?_)
  refine WL.newM hC6 (fun b => .pointer (some ⟨b, 0, none⟩)) (.cells #[.int .u32 b.vip, .int .i64 b.first, .int .u32 b.dip, .int .i64 b.exp] 27) 3 (fun _ => by kernel_rfl) (fun g8 w9 hb12 hF10 hC11 => ?_)
  refine WL.runs 1 [(4, .bool false)] (fun _ => by kernel_rfl) ?_
  refine WL.done rfl ?_
  refine QX.then_normal (hK2 _ _ ?_)
  refine WC.seq (fun K13 hK14 => ?_)
  refine WC.region ?_
  refine WL.runs 1 [(5, .pointer (some ⟨g3, 0, none⟩))] (fun _ => by kernel_rfl) ?_
  refine WL.load 23 (.pointer (some ⟨g3, 0, none⟩)) (.int .u32 a.vip) 6 (by kernel_rfl) (run_ld (hC11.get 0 rfl) rfl) ?_
  refine WL.runs 1 [(7, .pointer (some ⟨g8, 0, none⟩))] (fun _ => by kernel_rfl) ?_
  refine WL.load 23 (.pointer (some ⟨g8, 0, none⟩)) (.int .u32 b.vip) 8 (by kernel_rfl) (run_ld (hC11.get 1 rfl) rfl) ?_
  refine WL.runs 2 [(10, .bool (a.vip == b.vip)), (9, .bool (a.vip == b.vip))] (fun _ => by kernel_rfl) ?_
  refine WL.test_at 10 (a.vip == b.vip) rfl (fun t15b => ?_) (fun t15b => ?_)
  · -- a.vip = b.vip: true
    have t15 : a.vip = b.vip := by simpa using t15b
    refine WL.runs 1 [(11, .pointer (some ⟨g3, 1, none⟩))] (fun _ => by kernel_rfl) ?_
    refine WL.load 3 (.pointer (some ⟨g3, 1, none⟩)) (.int .i64 a.first) 12 (by kernel_rfl) (run_ld (hC11.get 0 rfl) rfl) ?_
    refine WL.runs 1 [(13, .pointer (some ⟨g8, 1, none⟩))] (fun _ => by kernel_rfl) ?_
    refine WL.load 3 (.pointer (some ⟨g8, 1, none⟩)) (.int .i64 b.first) 14 (by kernel_rfl) (run_ld (hC11.get 1 rfl) rfl) ?_
    refine WL.runs 1 [(15, .int .i64 (IntKind.i64.wrap (b.first + 8)))] (fun _ => by kernel_rfl) ?_
    refine WL.recast (show (.int .i64 (IntKind.i64.wrap (b.first + 8)) : Value) = .int .i64 (b.first + 8) from by rw [wrap_in_i64 (b.first + 8) (by omega) (by omega)]) ?_
    refine WL.runs 3 [(18, .bool (decide (a.first < (b.first + 8)))), (17, .bool (decide (a.first < (b.first + 8)))), (16, .bool (decide (a.first < (b.first + 8))))] (fun _ => by kernel_rfl) ?_
    refine WL.test_at 18 (decide (a.first < (b.first + 8))) rfl (fun t16b => ?_) (fun t16b => ?_)
    · -- a.first < (b.first + 8): true
      have t16 : a.first < (b.first + 8) := by have q_ := of_decide_eq_true t16b; omega
      refine WL.runs 1 [(19, .pointer (some ⟨g8, 1, none⟩))] (fun _ => by kernel_rfl) ?_
      refine WL.load 3 (.pointer (some ⟨g8, 1, none⟩)) (.int .i64 b.first) 20 (by kernel_rfl) (run_ld (hC11.get 1 rfl) rfl) ?_
      refine WL.runs 1 [(21, .pointer (some ⟨g3, 1, none⟩))] (fun _ => by kernel_rfl) ?_
      refine WL.load 3 (.pointer (some ⟨g3, 1, none⟩)) (.int .i64 a.first) 22 (by kernel_rfl) (run_ld (hC11.get 0 rfl) rfl) ?_
      refine WL.runs 1 [(23, .int .i64 (IntKind.i64.wrap (a.first + 8)))] (fun _ => by kernel_rfl) ?_
      refine WL.recast (show (.int .i64 (IntKind.i64.wrap (a.first + 8)) : Value) = .int .i64 (a.first + 8) from by rw [wrap_in_i64 (a.first + 8) (by omega) (by omega)]) ?_
      refine WL.runs 3 [(4, .bool (decide (b.first < (a.first + 8)))), (25, .bool (decide (b.first < (a.first + 8)))), (24, .bool (decide (b.first < (a.first + 8))))] (fun _ => by kernel_rfl) ?_
      refine WL.done rfl ?_
      refine QX.then_normal (hK14 _ _ ?_)
      refine WC.ret ?_
      refine (hret _ _ _ rfl ?_).1
      clear hN hret hret' hK14 hK2
      exact ⟨by simp [shut, overB, *], hC11.fr⟩
    · -- a.first < (b.first + 8): false
      have t16 : (b.first + 8) ≤ a.first := by have q_ := of_decide_eq_false t16b; omega
      refine WL.runs 8 [(4, .bool false), (25, .bool false), (24, undef), (23, undef), (22, undef), (21, undef), (20, undef), (19, undef)] (fun _ => by kernel_rfl) ?_
      refine WL.done rfl ?_
      refine QX.then_normal (hK14 _ _ ?_)
      refine WC.ret ?_
      refine (hret _ _ _ rfl ?_).1
      clear hN hret hret' hK14 hK2
      exact ⟨by simp [shut, overB, *], hC11.fr⟩
  · -- a.vip = b.vip: false
    have t15 : ¬ (a.vip = b.vip) := by simpa using t15b
    refine WL.runs 16 [(4, .bool false), (25, .bool false), (24, undef), (23, undef), (22, undef), (21, undef), (20, undef), (19, undef), (18, .bool false), (17, .bool false), (16, undef), (15, undef), (14, undef), (13, undef), (12, undef), (11, undef)] (fun _ => by kernel_rfl) ?_
    refine WL.done rfl ?_
    refine QX.then_normal (hK14 _ _ ?_)
    refine WC.ret ?_
    refine (hret _ _ _ rfl ?_).1
    clear hN hret hret' hK14 hK2
    exact ⟨by simp [shut, overB, *], hC11.fr⟩

set_option maxHeartbeats 2000000 in
theorem LeaseAlone_ct (A : Option Addr) (c : Nat) (ops : List OpL) (w : World) (hr : Rd w 5 encO A ops) (hwf : ∀ o ∈ ops, okO o) (hg : Rd w 1 (encI .u8) (some ⟨0, 0, none⟩) dbTab) : Calls Tryd.prog 8 #[.slice A ops.length c] w fun e w' => e = .returned (.bool true) ∧ Fr w w' [] := by
  refine enterD (n := 188) Tryd.func8 rfl rfl (Nat.le_of_ble_eq_true rfl) ?_
  intro Q0 hN hret hret'
  have hC := Cx.start w
  refine WC.seq (fun K1 hK2 => ?_)
  refine WC.region ?_
  refine WL.runs 1 [(2, .bool false)] (fun _ => by kernel_rfl) ?_
  refine WL.done rfl ?_
  refine QX.then_normal (hK2 _ _ ?_)
  refine WC.seq (fun K3 hK4 => ?_)
  refine WC.seq (fun K5 hK6 => ?_)
  refine WC.region ?_
  refine WL.call rfl rfl rfl rfl rfl (by kernel_rfl) (alive_ct w (Rd.fr hg hC.fr)) ?_
  rintro _ w8 ⟨rfl, hF7⟩
  refine ⟨_, rfl, ?_⟩
  have hC9 := hC.call hF7
  refine WL.runs 1 [(22, .bool false)] (fun _ => by kernel_rfl) ?_
  refine WL.done rfl ?_
  refine QX.then_normal (hK6 _ _ ?_)
  refine WC.cond_false rfl ?_
  refine WC.skip ?_
  refine QX.then_normal (hK4 _ _ ?_)
  refine WC.seq (fun K10 hK11 => ?_)
  refine WC.seq (fun K12 hK13 => ?_)
  refine WC.region ?_
  refine WL.runs 3 [(25, .bool (decide ((ops.length : Int) > 120))), (24, .int .i64 (ops.length : Int)), (23, .slice A ops.length c)] (fun _ => by kernel_rfl) ?_
  refine WL.done rfl ?_
  refine QX.then_normal (hK13 _ _ ?_)
  refine WC.test_at 25 (decide ((ops.length : Int) > 120)) rfl (fun t14b => ?_) (fun t14b => ?_)
  · -- (ops.length : Int) > 120: true
    have t14 : (120 : Int) < (ops.length : Int) := by have q_ := of_decide_eq_true t14b; omega
    refine WC.cond_true rfl ?_
    refine WC.seq (fun K15 hK16 => ?_)
    refine WC.region ?_
    refine WL.runs 1 [(2, .bool true)] (fun _ => by kernel_rfl) ?_
    refine WL.done rfl ?_
    refine QX.then_normal (hK16 _ _ ?_)
    refine WC.ret ?_
    refine QX.then_ret ?_
    refine (hret _ _ _ rfl ?_).1
    clear hN hret hret' hK16 hK13 hK11 hK6 hK4 hK2
    exact ⟨rfl, hC9.fr⟩
  · -- (ops.length : Int) > 120: false
    have t14 : (ops.length : Int) ≤ 120 := by have q_ := of_decide_eq_false t14b; omega
    refine WC.cond_false rfl ?_
    refine WC.skip ?_
    refine QX.then_normal (hK11 _ _ ?_)
    refine WC.seq (fun K17 hK18 => ?_)
    refine WC.region ?_
    refine WL.runs 1 [(3, .slice none 0 0)] (fun _ => by kernel_rfl) ?_
    refine WL.done rfl ?_
    refine QX.then_normal (hK18 _ _ ?_)
    refine WC.seq (fun K19 hK20 => ?_)
    refine WC.region ?_
    refine WL.newM hC9 (fun b => .slice (some ⟨b, 0, none⟩) 0 0) (.cells #[] 27) 26 (fun _ => by kernel_rfl) (fun g21 w22 hb25 hF23 hC24 => ?_)
    refine WL.runs 1 [(4, .slice (some ⟨g21, 0, none⟩) 0 0)] (fun _ => by kernel_rfl) ?_
    refine WL.done rfl ?_
    refine QX.then_normal (hK20 _ _ ?_)
    refine WC.seq (fun K26 hK27 => ?_)
    refine WC.region ?_
    refine WL.runs 1 [(5, .int .i64 0)] (fun _ => by kernel_rfl) ?_
    refine WL.done rfl ?_
    refine QX.then_normal (hK27 _ _ ?_)
    refine WC.seq (fun K28 hK29 => ?_)
    refine WC.seq (fun K30 hK31 => ?_)
    refine WC.region ?_
    refine WL.runs 3 [(29, .int .i64 0), (28, .int .i64 (ops.length : Int)), (27, .slice A ops.length c)] (fun _ => by kernel_rfl) ?_
    refine WL.done rfl ?_
    refine QX.then_normal (hK31 _ _ ?_)
    refine WC.block ?_
    have ho33 : World.ownsRow w22 0 27 4 (.slice (some ⟨g21, 0, none⟩) 0 0) 0 [] := own_of_blk (Nat.zero_le _) (hC24.get 0 rfl) (Nat.le_refl _) (Nat.zero_le _) (by simp) rfl
    have hC32 := hC24.toF 0 rfl
    have hC34 := hC32.addNil
    refine WC.loop (fun m_ E_ w_ => ∃ (k : Nat) (A3 : Option Addr) (c3 : Nat) (A4 : Option Addr) (n4 c4 : Nat) (L G : List Lease) (now : Int), m_ = ops.length - k ∧ E_ = [(0, .slice A ops.length c), (3, .slice A3 L.length c3), (4, .slice A4 n4 c4), (5, .int .i64 now), (27, .slice A ops.length c), (28, .int .i64 (ops.length : Int)), (29, .int .i64 (k : Int))] ∧ Cx w [] w_ [] [blk (.slice A4 n4 c4), blk (.slice A3 L.length c3)] ∧ World.ownsRow w_ 0 27 4 (.slice A4 n4 c4) n4 (G.flatMap encL) ∧ World.ownsRow w_ 0 27 4 (.slice A3 L.length c3) L.length (L.flatMap encL) ∧ (k ≤ ops.length ∧ L.length ≤ k ∧ n4 ≤ k ∧ 0 ≤ now ∧ now ≤ 100 * (k : Int) ∧ Alone L G now)) ⟨_, _, ⟨0, none, 0, some ⟨g21, 0, none⟩, 0, 0, [], [], 0, rfl, rfl, hC34, (by simpa using ho33), own_nil _ _ _ _, Nat.zero_le _, Nat.zero_le _, Nat.zero_le _, by decide, by decide, alone_nil⟩, sub_of ⟨rfl, rfl, rfl, rfl, rfl, rfl, rfl, trivial⟩⟩ (fun m38 E_ w39 K35 hK36 hI37 => ?_)
    obtain ⟨k, A3, c3, A4, n4, c4, L, G, now, rfl, rfl, hC40, hrG, hrL, hk, hk3, hk4, hn0, hn1, hal⟩ := hI37
    have hcG := own_count encL_len (by decide) hrG
    refine WC.seq (fun K41 hK42 => ?_)
    refine WC.region ?_
    refine WL.runs 1 [(30, .bool (decide ((k : Int) < (ops.length : Int))))] (fun _ => by kernel_rfl) ?_
    refine WL.done rfl ?_
    refine QX.then_normal (hK42 _ _ ?_)
    refine WC.seq (fun K43 hK44 => ?_)
    refine WC.test_at 30 (decide ((k : Int) < (ops.length : Int))) rfl (fun t45b => ?_) (fun t45b => ?_)
    · -- (k : Int) < (ops.length : Int): true
      have t45 : (k : Int) < (ops.length : Int) := by have q_ := of_decide_eq_true t45b; omega
      refine WC.cond_true rfl ?_
      refine WC.skip ?_
      refine QX.then_normal (hK44 _ _ ?_)
      refine WC.seq (fun K46 hK47 => ?_)
      refine WC.block ?_
      refine WC.seq (fun K48 hK49 => ?_)
      refine WC.region ?_
      obtain ⟨e50, he51⟩ := get_some (xs := ops) (i := k) (by omega)
      obtain ⟨b52, o54, hA53, hc55⟩ := hr.at_ _ _ he51
      obtain ⟨ho1_, ho2_, ho3_, ho4_⟩ := hwf _ (List.mem_of_getElem? he51)
      refine WL.index A ops.length c 31 .i64 (k : Int) b52 o54 k 5 (by kernel_rfl) hA53 (by omega) (by omega) (o54 + k * 5) (by first | (simp; done) | omega) ?_
      refine WL.load 54 (.pointer (some ⟨b52, o54 + k * 5, none⟩)) (.agg #[.int .i64 e50.kind, .int .u32 e50.vip, .int .u32 e50.dip, .int .i64 e50.n, .int .i64 e50.wait]) 32 (by kernel_rfl) (run_rdN (l := [.int .i64 e50.kind, .int .u32 e50.vip, .int .u32 e50.dip, .int .i64 e50.n, .int .i64 e50.wait]) rfl rfl (fun j u hu => by have hq_ := hC40.fr.cell (hc55 j u hu) (by simp); simpa [Nat.add_assoc] using hq_)) ?_
      refine WL.newM hC40 (fun b => .pointer (some ⟨b, 0, none⟩)) (.cells #[.int .i64 0, .int .u32 0, .int .u32 0, .int .i64 0, .int .i64 0] 54) 7 (fun _ => by kernel_rfl) (fun g56 w57 hb60 hF58 hC59 => ?_)
      have ho61 := own_fr hrG hF58 (by simp)
      have ho62 := own_fr hrL hF58 (by simp)
      refine WL.storeM hC59 0 54 g56 0 (.agg #[.int .i64 e50.kind, .int .u32 e50.vip, .int .u32 e50.dip, .int .i64 e50.n, .int .i64 e50.wait]) (by kernel_rfl) rfl rfl (fun w63 hF65 hC66 => ?_)
      have ho67 := own_fr ho61 hF65 (hC59.apartM 0 0 rfl rfl)
      have ho68 := own_fr ho62 hF65 (hC59.apartM 1 0 rfl rfl)
      refine WL.done rfl ?_
      refine QX.then_normal (hK49 _ _ ?_)
      refine WC.seq (fun K69 hK70 => ?_)
      refine WC.region ?_
      refine WL.runs 2 [(34, .pointer (some ⟨g56, 4, none⟩)), (33, .int .i64 now)] (fun _ => by kernel_rfl) ?_
      refine WL.load 3 (.pointer (some ⟨g56, 4, none⟩)) (.int .i64 e50.wait) 35 (by kernel_rfl) (run_ld (hC66.get 0 rfl) rfl) ?_
      obtain ⟨u, hu, hu0⟩ : ∃ u : Int, IntKind.u64.wrap (e50.wait) = u ∧ (0 ≤ u ∧ u ≤ 18446744073709551615) := ⟨_, rfl, wrap_u64_span _⟩
      refine WL.runs 1 [(36, .int .u64 (IntKind.u64.wrap (e50.wait)))] (fun _ => by kernel_rfl) ?_
      refine WL.recast (show (.int .u64 (IntKind.u64.wrap (e50.wait)) : Value) = .int .u64 u from by rw [hu]) ?_
      obtain ⟨d, hd, hd0⟩ : ∃ d : Int, Int.tmod u 100 = d ∧ (0 ≤ d ∧ d < 100) := ⟨_, rfl, by rw [Int.tmod_eq_emod_of_nonneg hu0.1]; omega⟩
      refine WL.runs 1 [(37, .int .u64 (Int.tmod u 100))] (fun _ => by kernel_rfl) ?_
      refine WL.recast (show (.int .u64 (Int.tmod u 100) : Value) = .int .u64 d from by rw [hd]) ?_
      refine WL.runs 1 [(38, .int .i64 (IntKind.i64.wrap (d)))] (fun _ => by kernel_rfl) ?_
      refine WL.recast (show (.int .i64 (IntKind.i64.wrap (d)) : Value) = .int .i64 d from by rw [wrap_in_i64 _ (by omega) (by omega)]) ?_
      obtain ⟨now2, hnow2⟩ : ∃ n_ : Int, n_ = now + d := ⟨_, rfl⟩
      have hal2 : Alone L G now2 := alone_wait hal (by omega)
      refine WL.runs 1 [(39, .int .i64 (IntKind.i64.wrap (now + d)))] (fun _ => by kernel_rfl) ?_
      refine WL.recast (show (.int .i64 (IntKind.i64.wrap (now + d)) : Value) = .int .i64 now2 from by rw [wrap_in_i64 _ (by omega) (by omega), hnow2]) ?_
      refine WL.runs 1 [(5, .int .i64 now2)] (fun _ => by kernel_rfl) ?_
      refine WL.done rfl ?_
      refine QX.then_normal (hK70 _ _ ?_)
      refine WC.seq (fun K71 hK72 => ?_)
      refine WC.seq (fun K73 hK74 => ?_)
      refine WC.region ?_
      refine WL.runs 1 [(40, .pointer (some ⟨g56, 0, none⟩))] (fun _ => by kernel_rfl) ?_
      refine WL.load 3 (.pointer (some ⟨g56, 0, none⟩)) (.int .i64 e50.kind) 41 (by kernel_rfl) (run_ld (hC66.get 0 rfl) rfl) ?_
      refine WL.done rfl ?_
      refine QX.then_normal (hK74 _ _ ?_)
      refine WC.block ?_
      refine WC.seq (fun K75 hK76 => ?_)
      refine WC.region ?_
      refine WL.runs 2 [(45, .bool (e50.kind == 0)), (46, .bool (e50.kind == 0))] (fun _ => by kernel_rfl) ?_
      refine WL.done rfl ?_
      refine QX.then_normal (hK76 _ _ ?_)
      refine WC.test_at 45 (e50.kind == 0) rfl (fun t77b => ?_) (fun t77b => ?_)
      · -- e50.kind = 0: true
        have t77 : e50.kind = 0 := by simpa using t77b
        refine WC.cond_true rfl ?_
        refine WC.seq (fun K78 hK79 => ?_)
        refine WC.region ?_
        refine WL.runs 2 [(49, .pointer (some ⟨g56, 1, none⟩)), (48, .slice A3 L.length c3)] (fun _ => by kernel_rfl) ?_
        refine WL.load 23 (.pointer (some ⟨g56, 1, none⟩)) (.int .u32 e50.vip) 50 (by kernel_rfl) (run_ld (hC66.get 0 rfl) rfl) ?_
        refine WL.runs 1 [(51, .pointer (some ⟨g56, 2, none⟩))] (fun _ => by kernel_rfl) ?_
        refine WL.load 23 (.pointer (some ⟨g56, 2, none⟩)) (.int .u32 e50.dip) 52 (by kernel_rfl) (run_ld (hC66.get 0 rfl) rfl) ?_
        refine WL.runs 1 [(53, .int .i64 now2)] (fun _ => by kernel_rfl) ?_
        refine WL.call rfl rfl rfl rfl rfl (by kernel_rfl) (Grant_ct A3 c3 L e50.vip e50.dip now2 w63 (own_rd ho68 encL_len (by decide)) (by first | exact hal3.okl | exact hal2.okl | exact hal.okl) (by first | omega | simp) (by omega) (by omega) (Rd.fr hg hC66.fr)) ?_
        rintro _ w82 ⟨v_, rfl, hF81, ho80⟩
        have hC83 := hC66.callN hF81 (own_ge ho80) (own_lt ho80)
        obtain ⟨A84, c85, rfl, hle86⟩ := own_form ho80
        have ho88 := own_base (b' := 0) ho80 (fun _ _ => Nat.zero_le _)
        refine ⟨_, rfl, ?_⟩
        have ho89 := own_fr ho67 hF81 (by simp)
        have ho90 := own_fr ho68 hF81 (by simp)
        refine WL.runs 4 [(57, errV 32 (grE L e50.vip e50.dip now2)), (56, .agg #[.int .u32 ((grL L e50.vip e50.dip now2).vip), .int .i64 ((grL L e50.vip e50.dip now2).first), .int .u32 ((grL L e50.vip e50.dip now2).dip), .int .i64 ((grL L e50.vip e50.dip now2).exp)]), (55, .slice A84 ((grX L e50.vip e50.dip now2).length) c85), (47, .tuple #[.slice A84 ((grX L e50.vip e50.dip now2).length) c85, .agg #[.int .u32 ((grL L e50.vip e50.dip now2).vip), .int .i64 ((grL L e50.vip e50.dip now2).first), .int .u32 ((grL L e50.vip e50.dip now2).dip), .int .i64 ((grL L e50.vip e50.dip now2).exp)], errV 32 (grE L e50.vip e50.dip now2)])] (fun _ => by kernel_rfl) ?_
        refine WL.newM hC83 (fun b => .pointer (some ⟨b, 0, none⟩)) (.cells #[.int .u32 0, .int .i64 0, .int .u32 0, .int .i64 0] 27) 9 (fun _ => by kernel_rfl) (fun g92 w93 hb96 hF94 hC95 => ?_)
        have ho97 := own_fr ho89 hF94 (by simp)
        have ho98 := own_fr ho90 hF94 (by simp)
        have ho99 := own_fr ho88 hF94 (by simp)
        refine WL.runs 1 [(8, .slice A84 ((grX L e50.vip e50.dip now2).length) c85)] (fun _ => by kernel_rfl) ?_
        refine WL.storeM hC95 1 27 g92 0 (.agg #[.int .u32 ((grL L e50.vip e50.dip now2).vip), .int .i64 ((grL L e50.vip e50.dip now2).first), .int .u32 ((grL L e50.vip e50.dip now2).dip), .int .i64 ((grL L e50.vip e50.dip now2).exp)]) (by kernel_rfl) rfl rfl (fun w100 hF102 hC103 => ?_)
        have ho104 := own_fr ho97 hF102 (hC95.apartM 0 1 rfl rfl)
        have ho105 := own_fr ho98 hF102 (hC95.apartM 1 1 rfl rfl)
        have ho106 := own_fr ho99 hF102 (hC95.apartM 2 1 rfl rfl)
        refine WL.runs 1 [(10, errV 32 (grE L e50.vip e50.dip now2))] (fun _ => by kernel_rfl) ?_
        refine WL.done rfl ?_
        refine QX.then_normal (hK79 _ _ ?_)
        refine WC.seq (fun K107 hK108 => ?_)
        refine WC.region ?_
        refine WL.runs 1 [(58, errV 32 (grE L e50.vip e50.dip now2))] (fun _ => by kernel_rfl) ?_
        have hr109 : ∀ w_, Sem.run Tryd.prog (do eqGuard .eql 29 (Operand.tmp 58) (Operand.const (.nilIface)) (errV 32 (grE L e50.vip e50.dip now2)) (.nilIface); binOp .eql 29 (errV 32 (grE L e50.vip e50.dip now2)) (.nilIface)) w_ = .ok (.bool (decide (grE L e50.vip e50.dip now2 = 0))) w_ := fun w_ => (err_eql _ (grE L e50.vip e50.dip now2) (decide (grE L e50.vip e50.dip now2 = 0)) (by rfl) _)
        refine WL.sem (do eqGuard .eql 29 (Operand.tmp 58) (Operand.const (.nilIface)) (errV 32 (grE L e50.vip e50.dip now2)) (.nilIface); binOp .eql 29 (errV 32 (grE L e50.vip e50.dip now2)) (.nilIface)) 59 (.bool (decide (grE L e50.vip e50.dip now2 = 0))) (by kernel_rfl) (hr109 _) ?_
        refine WL.done rfl ?_
        refine QX.then_normal (hK108 _ _ ?_)
        refine WC.test_at 59 (decide (grE L e50.vip e50.dip now2 = 0)) rfl (fun t110b => ?_) (fun t110b => ?_)
        · -- (decide (grE L e50.vip e50.dip now2 = 0)) = true: true
          refine WC.cond_true rfl ?_
          refine WC.seq (fun K111 hK112 => ?_)
          refine WC.seq (fun K113 hK114 => ?_)
          refine WC.region ?_
          refine WL.runs 3 [(62, .int .i64 0), (61, .int .i64 (n4 : Int)), (60, .slice A4 n4 c4)] (fun _ => by kernel_rfl) ?_
          refine WL.done rfl ?_
          refine QX.then_normal (hK114 _ _ ?_)
          refine WC.block ?_
          refine WC.loop (fun m_ E_ w_ => ∃ (i2 : Nat), m_ = n4 - i2 ∧ E_ = [(0, .slice A ops.length c), (3, .slice A3 L.length c3), (4, .slice A4 n4 c4), (5, .int .i64 now2), (7, .pointer (some ⟨g56, 0, none⟩)), (8, .slice A84 ((grX L e50.vip e50.dip now2).length) c85), (9, .pointer (some ⟨g92, 0, none⟩)), (10, errV 32 (grE L e50.vip e50.dip now2)), (27, .slice A ops.length c), (28, .int .i64 (ops.length : Int)), (29, .int .i64 (k : Int)), (30, .bool true), (31, .pointer (some ⟨b52, o54 + k * 5, none⟩)), (32, .agg #[.int .i64 e50.kind, .int .u32 e50.vip, .int .u32 e50.dip, .int .i64 e50.n, .int .i64 e50.wait]), (33, .int .i64 now), (34, .pointer (some ⟨g56, 4, none⟩)), (35, .int .i64 e50.wait), (36, .int .u64 u), (37, .int .u64 d), (38, .int .i64 d), (39, .int .i64 now2), (40, .pointer (some ⟨g56, 0, none⟩)), (41, .int .i64 e50.kind), (45, .bool true), (46, .bool (e50.kind == 0)), (47, .tuple #[.slice A84 ((grX L e50.vip e50.dip now2).length) c85, .agg #[.int .u32 ((grL L e50.vip e50.dip now2).vip), .int .i64 ((grL L e50.vip e50.dip now2).first), .int .u32 ((grL L e50.vip e50.dip now2).dip), .int .i64 ((grL L e50.vip e50.dip now2).exp)], errV 32 (grE L e50.vip e50.dip now2)]), (48, .slice A3 L.length c3), (49, .pointer (some ⟨g56, 1, none⟩)), (50, .int .u32 e50.vip), (51, .pointer (some ⟨g56, 2, none⟩)), (52, .int .u32 e50.dip), (53, .int .i64 now2), (54, .tuple #[.slice A84 ((grX L e50.vip e50.dip now2).length) c85, .agg #[.int .u32 ((grL L e50.vip e50.dip now2).vip), .int .i64 ((grL L e50.vip e50.dip now2).first), .int .u32 ((grL L e50.vip e50.dip now2).dip), .int .i64 ((grL L e50.vip e50.dip now2).exp)], errV 32 (grE L e50.vip e50.dip now2)]), (55, .slice A84 ((grX L e50.vip e50.dip now2).length) c85), (56, .agg #[.int .u32 ((grL L e50.vip e50.dip now2).vip), .int .i64 ((grL L e50.vip e50.dip now2).first), .int .u32 ((grL L e50.vip e50.dip now2).dip), .int .i64 ((grL L e50.vip e50.dip now2).exp)]), (57, errV 32 (grE L e50.vip e50.dip now2)), (58, errV 32 (grE L e50.vip e50.dip now2)), (59, .bool true), (60, .slice A4 n4 c4), (61, .int .i64 (n4 : Int)), (62, .int .i64 (i2 : Int))] ∧ Cx w [] w_ [(g56, .cells #[.int .i64 e50.kind, .int .u32 e50.vip, .int .u32 e50.dip, .int .i64 e50.n, .int .i64 e50.wait] 54), (g92, .cells #[.int .u32 ((grL L e50.vip e50.dip now2).vip), .int .i64 ((grL L e50.vip e50.dip now2).first), .int .u32 ((grL L e50.vip e50.dip now2).dip), .int .i64 ((grL L e50.vip e50.dip now2).exp)] 27)] [blk (.slice A4 n4 c4), blk (.slice A3 L.length c3), blk (.slice A84 ((grX L e50.vip e50.dip now2).length) c85)] ∧ World.ownsRow w_ 0 27 4 (.slice A4 n4 c4) n4 (G.flatMap encL) ∧ World.ownsRow w_ 0 27 4 (.slice A3 L.length c3) L.length (L.flatMap encL) ∧ World.ownsRow w_ 0 27 4 (.slice A84 ((grX L e50.vip e50.dip now2).length) c85) ((grX L e50.vip e50.dip now2).length) ((grX L e50.vip e50.dip now2).flatMap encL) ∧ (i2 ≤ n4)) ⟨_, _, ⟨0, rfl, rfl, hC103, ho104, ho105, ho106, Nat.zero_le _⟩, sub_of ⟨rfl, rfl, rfl, rfl, rfl, rfl, rfl, rfl, rfl, rfl, rfl, rfl, rfl, rfl, rfl, rfl, rfl, rfl, rfl, rfl, rfl, rfl, rfl, rfl, rfl, rfl, rfl, rfl, rfl, rfl, rfl, rfl, rfl, rfl, rfl, rfl, rfl, rfl, rfl, rfl, rfl, trivial⟩⟩ (fun m118 E_ w119 K115 hK116 hI117 => ?_)
          obtain ⟨i2, rfl, rfl, hC120, rowG_m118, rowL_m118, row91_m118, hi⟩ := hI117
          refine WC.seq (fun K121 hK122 => ?_)
          refine WC.region ?_
          refine WL.runs 1 [(63, .bool (decide ((i2 : Int) < (n4 : Int))))] (fun _ => by kernel_rfl) ?_
          refine WL.done rfl ?_
          refine QX.then_normal (hK122 _ _ ?_)
          refine WC.seq (fun K123 hK124 => ?_)
          refine WC.test_at 63 (decide ((i2 : Int) < (n4 : Int))) rfl (fun t125b => ?_) (fun t125b => ?_)
          · -- (i2 : Int) < (n4 : Int): true
            have t125 : (i2 : Int) < (n4 : Int) := by have q_ := of_decide_eq_true t125b; omega
            refine WC.cond_true rfl ?_
            refine WC.skip ?_
            refine QX.then_normal (hK124 _ _ ?_)
            refine WC.seq (fun K126 hK127 => ?_)
            refine WC.block ?_
            refine WC.seq (fun K128 hK129 => ?_)
            refine WC.region ?_
            have hn134 := own_count encL_len (by decide) rowG_m118
            obtain ⟨e130, he131⟩ := get_some (xs := G) (i := i2) (by omega)
            obtain ⟨b132, hA133⟩ := own_addr (by decide) encL_len rowG_m118 he131
            refine WL.index A4 n4 c4 64 .i64 (i2 : Int) b132 0 i2 4 (by kernel_rfl) hA133 (by omega) (by omega) (i2 * 4) (by first | (simp; done) | omega) ?_
            refine WL.load 27 (.pointer (some ⟨b132, i2 * 4, none⟩)) (.agg #[.int .u32 e130.vip, .int .i64 e130.first, .int .u32 e130.dip, .int .i64 e130.exp]) 65 (by kernel_rfl) (run_rdN (l := [.int .u32 e130.vip, .int .i64 e130.first, .int .u32 e130.dip, .int .i64 e130.exp]) rfl rfl (fun j u hu => by have hq_ := Rd.cell (own_rd rowG_m118 encL_len (by decide)) hA133 he131 j u hu; simpa [Nat.add_assoc] using hq_)) ?_
            refine WL.newM hC120 (fun b => .pointer (some ⟨b, 0, none⟩)) (.cells #[.int .u32 0, .int .i64 0, .int .u32 0, .int .i64 0] 27) 12 (fun _ => by kernel_rfl) (fun g135 w136 hb139 hF137 hC138 => ?_)
            have ho140 := own_fr rowG_m118 hF137 (by simp)
            have ho141 := own_fr rowL_m118 hF137 (by simp)
            have ho142 := own_fr row91_m118 hF137 (by simp)
            refine WL.storeM hC138 2 27 g135 0 (.agg #[.int .u32 e130.vip, .int .i64 e130.first, .int .u32 e130.dip, .int .i64 e130.exp]) (by kernel_rfl) rfl rfl (fun w143 hF145 hC146 => ?_)
            have ho147 := own_fr ho140 hF145 (hC138.apartM 0 2 rfl rfl)
            have ho148 := own_fr ho141 hF145 (hC138.apartM 1 2 rfl rfl)
            have ho149 := own_fr ho142 hF145 (hC138.apartM 2 2 rfl rfl)
            refine WL.done rfl ?_
            refine QX.then_normal (hK129 _ _ ?_)
            refine WC.seq (fun K150 hK151 => ?_)
            refine WC.region ?_
            refine WL.runs 1 [(66, .pointer (some ⟨g135, 3, none⟩))] (fun _ => by kernel_rfl) ?_
            refine WL.load 3 (.pointer (some ⟨g135, 3, none⟩)) (.int .i64 e130.exp) 67 (by kernel_rfl) (run_ld (hC146.get 2 rfl) rfl) ?_
            refine WL.runs 3 [(70, .bool (decide (e130.exp ≥ now2))), (69, .bool (decide (e130.exp ≥ now2))), (68, .int .i64 now2)] (fun _ => by kernel_rfl) ?_
            refine WL.test_at 70 (decide (e130.exp ≥ now2)) rfl (fun t152b => ?_) (fun t152b => ?_)
            · -- e130.exp ≥ now2: true
              have t152 : now2 ≤ e130.exp := by have q_ := of_decide_eq_true t152b; omega
              refine WL.load 27 (.pointer (some ⟨g135, 0, none⟩)) (.agg #[.int .u32 e130.vip, .int .i64 e130.first, .int .u32 e130.dip, .int .i64 e130.exp]) 71 (by kernel_rfl) (run_ld (hC146.get 2 rfl) rfl) ?_
              refine WL.load 27 (.pointer (some ⟨g92, 0, none⟩)) (.agg #[.int .u32 ((grL L e50.vip e50.dip now2).vip), .int .i64 ((grL L e50.vip e50.dip now2).first), .int .u32 ((grL L e50.vip e50.dip now2).dip), .int .i64 ((grL L e50.vip e50.dip now2).exp)]) 72 (by kernel_rfl) (run_ld (hC146.get 1 rfl) rfl) ?_
              refine WL.call rfl rfl rfl rfl rfl (by kernel_rfl) (overlap_ct e130 (grL L e50.vip e50.dip now2) w143 (by have q_ := alone_first hal2 (List.mem_of_getElem? he131) (by omega); omega) grL_first) ?_
              rintro _ w154 ⟨rfl, hF153⟩
              refine ⟨_, rfl, ?_⟩
              have hC155 := hC146.call hF153
              have ho156 := own_fr ho147 hF153 (by simp)
              have ho157 := own_fr ho148 hF153 (by simp)
              have ho158 := own_fr ho149 hF153 (by simp)
              refine WL.runs 1 [(74, .bool (overB e130 (grL L e50.vip e50.dip now2)))] (fun _ => by kernel_rfl) ?_
              refine WL.done rfl ?_
              refine QX.then_normal (hK151 _ _ ?_)
              refine WC.know 74 (.bool (overB e130 (grL L e50.vip e50.dip now2))) (.bool false) rfl (congrArg Value.bool (by exact alone_over' hal2 (by simpa using t110b) (List.mem_of_getElem? he131) (by omega))) ?_
              refine WC.cond_false rfl ?_
              refine WC.skip ?_
              refine QX.block_normal ?_
              refine QX.then_normal (hK127 _ _ ?_)
              refine WC.region ?_
              refine WL.runs 1 [(75, .int .i64 (IntKind.i64.wrap ((i2 : Int) + 1)))] (fun _ => by kernel_rfl) ?_
              refine WL.recast (show (.int .i64 (IntKind.i64.wrap ((i2 : Int) + 1)) : Value) = .int .i64 ((i2 : Int) + 1) from by rw [wrap_in_i64 ((i2 : Int) + 1) (by omega) (by omega)]) ?_
              refine WL.runs 1 [(62, .int .i64 ((i2 : Int) + 1))] (fun _ => by kernel_rfl) ?_
              refine WL.done rfl ?_
              refine QX.then_normal ?_
              have hC159 := hC155.pick [0, 1] [0, 1, 2] rfl rfl
              refine fun a_ ha_ => hK116 _ _ _ ?_ ⟨i2 + 1, rfl, rfl, hC159, ho156, ho157, ho158, by omega⟩ a_ (ha_.weaken (sub_of ⟨rfl, rfl, rfl, rfl, rfl, rfl, rfl, rfl, rfl, rfl, rfl, rfl, rfl, rfl, rfl, rfl, rfl, rfl, rfl, rfl, rfl, rfl, rfl, rfl, rfl, rfl, rfl, rfl, rfl, rfl, rfl, rfl, rfl, rfl, rfl, rfl, rfl, rfl, rfl, rfl, rfl, trivial⟩))
              omega
            · -- e130.exp ≥ now2: false
              have t152 : e130.exp < now2 := by have q_ := of_decide_eq_false t152b; omega
              refine WL.runs 4 [(74, .bool false), (73, undef), (72, undef), (71, undef)] (fun _ => by kernel_rfl) ?_
              refine WL.done rfl ?_
              refine QX.then_normal (hK151 _ _ ?_)
              refine WC.cond_false rfl ?_
              refine WC.skip ?_
              refine QX.block_normal ?_
              refine QX.then_normal (hK127 _ _ ?_)
              refine WC.region ?_
              refine WL.runs 1 [(75, .int .i64 (IntKind.i64.wrap ((i2 : Int) + 1)))] (fun _ => by kernel_rfl) ?_
              refine WL.recast (show (.int .i64 (IntKind.i64.wrap ((i2 : Int) + 1)) : Value) = .int .i64 ((i2 : Int) + 1) from by rw [wrap_in_i64 ((i2 : Int) + 1) (by omega) (by omega)]) ?_
              refine WL.runs 1 [(62, .int .i64 ((i2 : Int) + 1))] (fun _ => by kernel_rfl) ?_
              refine WL.done rfl ?_
              refine QX.then_normal ?_
              have hC160 := hC146.pick [0, 1] [0, 1, 2] rfl rfl
              refine fun a_ ha_ => hK116 _ _ _ ?_ ⟨i2 + 1, rfl, rfl, hC160, ho147, ho148, ho149, by omega⟩ a_ (ha_.weaken (sub_of ⟨rfl, rfl, rfl, rfl, rfl, rfl, rfl, rfl, rfl, rfl, rfl, rfl, rfl, rfl, rfl, rfl, rfl, rfl, rfl, rfl, rfl, rfl, rfl, rfl, rfl, rfl, rfl, rfl, rfl, rfl, rfl, rfl, rfl, rfl, rfl, rfl, rfl, rfl, rfl, rfl, rfl, trivial⟩))
              omega
          · -- (i2 : Int) < (n4 : Int): false
            have t125 : (n4 : Int) ≤ (i2 : Int) := by have q_ := of_decide_eq_false t125b; omega
            refine WC.cond_false rfl ?_
            refine WC.exit ?_
            refine QX.then_exit ?_
            refine QX.then_exit ?_
            refine QX.block_hit ?_
            refine QX.then_normal (hK112 _ _ ?_)
            refine WC.region ?_
            refine WL.runs 2 [(77, .slice A4 n4 c4), (76, .slice A84 ((grX L e50.vip e50.dip now2).length) c85)] (fun _ => by kernel_rfl) ?_
            refine WL.load 27 (.pointer (some ⟨g92, 0, none⟩)) (.agg #[.int .u32 ((grL L e50.vip e50.dip now2).vip), .int .i64 ((grL L e50.vip e50.dip now2).first), .int .u32 ((grL L e50.vip e50.dip now2).dip), .int .i64 ((grL L e50.vip e50.dip now2).exp)]) 78 (by kernel_rfl) (run_ld (hC120.get 1 rfl) rfl) ?_
            refine WL.newM hC120 (fun b => .slice (some ⟨b, 0, none⟩) 1 1) (.cells #[.int .u32 ((grL L e50.vip e50.dip now2).vip), .int .i64 ((grL L e50.vip e50.dip now2).first), .int .u32 ((grL L e50.vip e50.dip now2).dip), .int .i64 ((grL L e50.vip e50.dip now2).exp)] 27) 79 (fun _ => by kernel_rfl) (fun g161 w162 hb165 hF163 hC164 => ?_)
            have ho166 := own_fr rowG_m118 hF163 (by simp)
            have ho167 := own_fr rowL_m118 hF163 (by simp)
            have ho168 := own_fr row91_m118 hF163 (by simp)
            obtain ⟨v169, w170, hr171, ho172, hF173, hC174, hnil175, hsub176⟩ := app_run Tryd.prog hC164 0 (v := .slice A4 n4 c4) rfl 25 25 27 4 32 n4 1 1 (some ⟨g161, 0, none⟩) rfl ho166 [.int .u32 ((grL L e50.vip e50.dip now2).vip), .int .i64 ((grL L e50.vip e50.dip now2).first), .int .u32 ((grL L e50.vip e50.dip now2).dip), .int .i64 ((grL L e50.vip e50.dip now2).exp)] rfl (srcOk.blk 1 (hC164.get 2 rfl)) rfl (by simp only [maxLen]; omega) (by omega)
            have ho180 := own_snoc (enc := encL) (ys := G) (grL L e50.vip e50.dip now2) ho172
            obtain ⟨A177, c178, rfl, hle179⟩ := own_form ho180
            refine WL.sem (Builtin.append_ #[25, 25] 25 #[.slice A4 n4 c4, .slice (some ⟨g161, 0, none⟩) 1 1]) 80 (.slice A177 (n4 + 1) c178) (by kernel_rfl) hr171 ?_
            have ho181 := own_fr ho167 hF173 (hC164.disj 1 0 rfl rfl (by decide))
            have ho182 := own_fr ho168 hF173 (hC164.disj 2 0 rfl rfl (by decide))
            refine WL.runs 2 [(4, .slice A177 (n4 + 1) c178), (3, .slice A84 ((grX L e50.vip e50.dip now2).length) c85)] (fun _ => by kernel_rfl) ?_
            refine WL.done rfl ?_
            refine QX.block_normal ?_
            refine QX.then_normal (hK72 _ _ ?_)
            refine WC.seq (fun K183 hK184 => ?_)
            refine WC.region ?_
            refine WL.runs 3 [(127, .int .i64 0), (126, .int .i64 (n4 + 1 : Int)), (125, .slice A177 (n4 + 1) c178)] (fun _ => by kernel_rfl) ?_
            refine WL.done rfl ?_
            refine QX.then_normal (hK184 _ _ ?_)
            refine WC.block ?_
            have hl_ := grX_len1 L e50.vip e50.dip now2
            have hal3 : Alone (grX L e50.vip e50.dip now2) (G ++ [(grL L e50.vip e50.dip now2)]) now2 := alone_grant hal2 (by simpa using t110b) ho1_ ho2_
            have hcg_ := own_count encL_len (by decide) ho180
            refine WC.loop (fun m_ E_ w_ => ∃ (i3 : Nat), m_ = (n4 + 1) - i3 ∧ E_ = [(0, .slice A ops.length c), (3, .slice A84 ((grX L e50.vip e50.dip now2).length) c85), (4, .slice A177 (n4 + 1) c178), (5, .int .i64 now2), (7, .pointer (some ⟨g56, 0, none⟩)), (27, .slice A ops.length c), (28, .int .i64 (ops.length : Int)), (29, .int .i64 (k : Int)), (125, .slice A177 (n4 + 1) c178), (126, .int .i64 (n4 + 1 : Int)), (127, .int .i64 (i3 : Int))] ∧ Cx w [] w_ [(g56, .cells #[.int .i64 e50.kind, .int .u32 e50.vip, .int .u32 e50.dip, .int .i64 e50.n, .int .i64 e50.wait] 54), (g92, .cells #[.int .u32 ((grL L e50.vip e50.dip now2).vip), .int .i64 ((grL L e50.vip e50.dip now2).first), .int .u32 ((grL L e50.vip e50.dip now2).dip), .int .i64 ((grL L e50.vip e50.dip now2).exp)] 27), (g161, .cells #[.int .u32 ((grL L e50.vip e50.dip now2).vip), .int .i64 ((grL L e50.vip e50.dip now2).first), .int .u32 ((grL L e50.vip e50.dip now2).dip), .int .i64 ((grL L e50.vip e50.dip now2).exp)] 27)] [blk (.slice A177 (n4 + 1) c178), blk (.slice A3 L.length c3), blk (.slice A84 ((grX L e50.vip e50.dip now2).length) c85)] ∧ World.ownsRow w_ 0 27 4 (.slice A177 (n4 + 1) c178) (n4 + 1) ((G ++ [(grL L e50.vip e50.dip now2)]).flatMap encL) ∧ World.ownsRow w_ 0 27 4 (.slice A3 L.length c3) L.length (L.flatMap encL) ∧ World.ownsRow w_ 0 27 4 (.slice A84 ((grX L e50.vip e50.dip now2).length) c85) ((grX L e50.vip e50.dip now2).length) ((grX L e50.vip e50.dip now2).flatMap encL) ∧ (i3 ≤ n4 + 1)) ⟨_, _, ⟨0, rfl, rfl, hC174, ho180, ho181, ho182, Nat.zero_le _⟩, sub_of ⟨rfl, rfl, rfl, rfl, rfl, rfl, rfl, rfl, rfl, rfl, rfl, trivial⟩⟩ (fun m188 E_ w189 K185 hK186 hI187 => ?_)
            obtain ⟨i3, rfl, rfl, hC190, rowG_m188, rowL_m188, row91_m188, hi3⟩ := hI187
            refine WC.seq (fun K191 hK192 => ?_)
            refine WC.region ?_
            refine WL.runs 1 [(128, .bool (decide ((i3 : Int) < (n4 + 1 : Int))))] (fun _ => by kernel_rfl) ?_
            refine WL.done rfl ?_
            refine QX.then_normal (hK192 _ _ ?_)
            refine WC.seq (fun K193 hK194 => ?_)
            refine WC.test_at 128 (decide ((i3 : Int) < (n4 + 1 : Int))) rfl (fun t195b => ?_) (fun t195b => ?_)
            · -- (i3 : Int) < (n4 + 1 : Int): true
              have t195 : (i3 : Int) < (n4 + 1 : Int) := by have q_ := of_decide_eq_true t195b; omega
              refine WC.cond_true rfl ?_
              refine WC.skip ?_
              refine QX.then_normal (hK194 _ _ ?_)
              refine WC.seq (fun K196 hK197 => ?_)
              refine WC.block ?_
              refine WC.seq (fun K198 hK199 => ?_)
              refine WC.region ?_
              have hn204 := own_count encL_len (by decide) rowG_m188
              obtain ⟨e200, he201⟩ := get_some (xs := G ++ [(grL L e50.vip e50.dip now2)]) (i := i3) (by omega)
              obtain ⟨b202, hA203⟩ := own_addr (by decide) encL_len rowG_m188 he201
              refine WL.index A177 (n4 + 1) c178 129 .i64 (i3 : Int) b202 0 i3 4 (by kernel_rfl) hA203 (by omega) (by omega) (i3 * 4) (by first | (simp; done) | omega) ?_
              refine WL.load 27 (.pointer (some ⟨b202, i3 * 4, none⟩)) (.agg #[.int .u32 e200.vip, .int .i64 e200.first, .int .u32 e200.dip, .int .i64 e200.exp]) 130 (by kernel_rfl) (run_rdN (l := [.int .u32 e200.vip, .int .i64 e200.first, .int .u32 e200.dip, .int .i64 e200.exp]) rfl rfl (fun j u hu => by have hq_ := Rd.cell (own_rd rowG_m188 encL_len (by decide)) hA203 he201 j u hu; simpa [Nat.add_assoc] using hq_)) ?_
              refine WL.newM hC190 (fun b => .pointer (some ⟨b, 0, none⟩)) (.cells #[.int .u32 0, .int .i64 0, .int .u32 0, .int .i64 0] 27) 18 (fun _ => by kernel_rfl) (fun g205 w206 hb209 hF207 hC208 => ?_)
              have ho210 := own_fr rowG_m188 hF207 (by simp)
              have ho211 := own_fr rowL_m188 hF207 (by simp)
              have ho212 := own_fr row91_m188 hF207 (by simp)
              refine WL.storeM hC208 3 27 g205 0 (.agg #[.int .u32 e200.vip, .int .i64 e200.first, .int .u32 e200.dip, .int .i64 e200.exp]) (by kernel_rfl) rfl rfl (fun w213 hF215 hC216 => ?_)
              have ho217 := own_fr ho210 hF215 (hC208.apartM 0 3 rfl rfl)
              have ho218 := own_fr ho211 hF215 (hC208.apartM 1 3 rfl rfl)
              have ho219 := own_fr ho212 hF215 (hC208.apartM 2 3 rfl rfl)
              refine WL.done rfl ?_
              refine QX.then_normal (hK199 _ _ ?_)
              refine WC.seq (fun K220 hK221 => ?_)
              refine WC.region ?_
              refine WL.runs 2 [(133, .pointer (some ⟨g205, 0, none⟩)), (132, .slice A84 ((grX L e50.vip e50.dip now2).length) c85)] (fun _ => by kernel_rfl) ?_
              refine WL.load 23 (.pointer (some ⟨g205, 0, none⟩)) (.int .u32 e200.vip) 134 (by kernel_rfl) (run_ld (hC216.get 3 rfl) rfl) ?_
              refine WL.runs 1 [(135, .pointer (some ⟨g205, 1, none⟩))] (fun _ => by kernel_rfl) ?_
              refine WL.load 3 (.pointer (some ⟨g205, 1, none⟩)) (.int .i64 e200.first) 136 (by kernel_rfl) (run_ld (hC216.get 3 rfl) rfl) ?_
              refine WL.runs 1 [(137, .int .i64 now2)] (fun _ => by kernel_rfl) ?_
              obtain ⟨_, _, _, _, hf1_, hf2_, _⟩ := hal3.ok _ (List.mem_of_getElem? he201)
              refine WL.call rfl rfl rfl rfl rfl (by kernel_rfl) (Find_ct A84 c85 (grX L e50.vip e50.dip now2) e200.vip e200.first now2 w213 (own_rd ho219 encL_len (by decide)) hal3.okl (by first | omega | simp) (by omega)) ?_
              rintro _ w223 ⟨rfl, hF222⟩
              refine ⟨_, rfl, ?_⟩
              have hC224 := hC216.call hF222
              have ho225 := own_fr ho217 hF222 (by simp)
              have ho226 := own_fr ho218 hF222 (by simp)
              have ho227 := own_fr ho219 hF222 (by simp)
              refine WL.runs 3 [(140, .bool (hasL ((grX L e50.vip e50.dip now2).filter (findP e200.vip e200.first now2)))), (139, .agg #[.int .u32 ((headL ((grX L e50.vip e50.dip now2).filter (findP e200.vip e200.first now2))).vip), .int .i64 ((headL ((grX L e50.vip e50.dip now2).filter (findP e200.vip e200.first now2))).first), .int .u32 ((headL ((grX L e50.vip e50.dip now2).filter (findP e200.vip e200.first now2))).dip), .int .i64 ((headL ((grX L e50.vip e50.dip now2).filter (findP e200.vip e200.first now2))).exp)]), (131, .tuple #[.agg #[.int .u32 ((headL ((grX L e50.vip e50.dip now2).filter (findP e200.vip e200.first now2))).vip), .int .i64 ((headL ((grX L e50.vip e50.dip now2).filter (findP e200.vip e200.first now2))).first), .int .u32 ((headL ((grX L e50.vip e50.dip now2).filter (findP e200.vip e200.first now2))).dip), .int .i64 ((headL ((grX L e50.vip e50.dip now2).filter (findP e200.vip e200.first now2))).exp)], .bool (hasL ((grX L e50.vip e50.dip now2).filter (findP e200.vip e200.first now2)))])] (fun _ => by kernel_rfl) ?_
              refine WL.newM hC224 (fun b => .pointer (some ⟨b, 0, none⟩)) (.cells #[.int .u32 0, .int .i64 0, .int .u32 0, .int .i64 0] 27) 19 (fun _ => by kernel_rfl) (fun g228 w229 hb232 hF230 hC231 => ?_)
              have ho233 := own_fr ho225 hF230 (by simp)
              have ho234 := own_fr ho226 hF230 (by simp)
              have ho235 := own_fr ho227 hF230 (by simp)
              refine WL.storeM hC231 4 27 g228 0 (.agg #[.int .u32 ((headL ((grX L e50.vip e50.dip now2).filter (findP e200.vip e200.first now2))).vip), .int .i64 ((headL ((grX L e50.vip e50.dip now2).filter (findP e200.vip e200.first now2))).first), .int .u32 ((headL ((grX L e50.vip e50.dip now2).filter (findP e200.vip e200.first now2))).dip), .int .i64 ((headL ((grX L e50.vip e50.dip now2).filter (findP e200.vip e200.first now2))).exp)]) (by kernel_rfl) rfl rfl (fun w236 hF238 hC239 => ?_)
              have ho240 := own_fr ho233 hF238 (hC231.apartM 0 4 rfl rfl)
              have ho241 := own_fr ho234 hF238 (hC231.apartM 1 4 rfl rfl)
              have ho242 := own_fr ho235 hF238 (hC231.apartM 2 4 rfl rfl)
              refine WL.runs 1 [(20, .bool (hasL ((grX L e50.vip e50.dip now2).filter (findP e200.vip e200.first now2))))] (fun _ => by kernel_rfl) ?_
              refine WL.done rfl ?_
              refine QX.then_normal (hK221 _ _ ?_)
              refine WC.seq (fun K243 hK244 => ?_)
              refine WC.seq (fun K245 hK246 => ?_)
              refine WC.region ?_
              refine WL.runs 1 [(141, .pointer (some ⟨g205, 3, none⟩))] (fun _ => by kernel_rfl) ?_
              refine WL.load 3 (.pointer (some ⟨g205, 3, none⟩)) (.int .i64 e200.exp) 142 (by kernel_rfl) (run_ld (hC239.get 3 rfl) rfl) ?_
              refine WL.runs 3 [(145, .bool (decide (e200.exp ≥ now2))), (144, .bool (decide (e200.exp ≥ now2))), (143, .int .i64 now2)] (fun _ => by kernel_rfl) ?_
              refine WL.test_at 145 (decide (e200.exp ≥ now2)) rfl (fun t247b => ?_) (fun t247b => ?_)
              · -- e200.exp ≥ now2: true
                have t247 : now2 ≤ e200.exp := by have q_ := of_decide_eq_true t247b; omega
                refine WL.runs 3 [(148, .bool (!(hasL ((grX L e50.vip e50.dip now2).filter (findP e200.vip e200.first now2))))), (147, .bool (!(hasL ((grX L e50.vip e50.dip now2).filter (findP e200.vip e200.first now2))))), (146, .bool (hasL ((grX L e50.vip e50.dip now2).filter (findP e200.vip e200.first now2))))] (fun _ => by kernel_rfl) ?_
                refine WL.know 148 (.bool (!(hasL ((grX L e50.vip e50.dip now2).filter (findP e200.vip e200.first now2))))) (.bool false) rfl (congrArg Value.bool (by rw [(alone_find hal3 (List.mem_of_getElem? he201) (by omega)).1]; rfl)) ?_
                refine WL.runs 1 [(149, .pointer (some ⟨g228, 2, none⟩))] (fun _ => by kernel_rfl) ?_
                refine WL.load 23 (.pointer (some ⟨g228, 2, none⟩)) (.int .u32 ((headL ((grX L e50.vip e50.dip now2).filter (findP e200.vip e200.first now2))).dip)) 150 (by kernel_rfl) (run_ld (hC239.get 4 rfl) rfl) ?_
                refine WL.runs 1 [(151, .pointer (some ⟨g205, 2, none⟩))] (fun _ => by kernel_rfl) ?_
                refine WL.load 23 (.pointer (some ⟨g205, 2, none⟩)) (.int .u32 e200.dip) 152 (by kernel_rfl) (run_ld (hC239.get 3 rfl) rfl) ?_
                refine WL.runs 3 [(155, .bool (((headL ((grX L e50.vip e50.dip now2).filter (findP e200.vip e200.first now2))).dip) != e200.dip)), (154, .bool (((headL ((grX L e50.vip e50.dip now2).filter (findP e200.vip e200.first now2))).dip) != e200.dip)), (153, .bool (((headL ((grX L e50.vip e50.dip now2).filter (findP e200.vip e200.first now2))).dip) != e200.dip))] (fun _ => by kernel_rfl) ?_
                refine WL.know 155 (.bool (((headL ((grX L e50.vip e50.dip now2).filter (findP e200.vip e200.first now2))).dip) != e200.dip)) (.bool false) rfl (congrArg Value.bool (by rw [(alone_find hal3 (List.mem_of_getElem? he201) (by omega)).2.1]; simp)) ?_
                refine WL.runs 1 [(156, .pointer (some ⟨g228, 1, none⟩))] (fun _ => by kernel_rfl) ?_
                refine WL.load 3 (.pointer (some ⟨g228, 1, none⟩)) (.int .i64 ((headL ((grX L e50.vip e50.dip now2).filter (findP e200.vip e200.first now2))).first)) 157 (by kernel_rfl) (run_ld (hC239.get 4 rfl) rfl) ?_
                refine WL.runs 1 [(158, .pointer (some ⟨g205, 1, none⟩))] (fun _ => by kernel_rfl) ?_
                refine WL.load 3 (.pointer (some ⟨g205, 1, none⟩)) (.int .i64 e200.first) 159 (by kernel_rfl) (run_ld (hC239.get 3 rfl) rfl) ?_
                refine WL.runs 3 [(162, .bool (((headL ((grX L e50.vip e50.dip now2).filter (findP e200.vip e200.first now2))).first) != e200.first)), (161, .bool (((headL ((grX L e50.vip e50.dip now2).filter (findP e200.vip e200.first now2))).first) != e200.first)), (160, .bool (((headL ((grX L e50.vip e50.dip now2).filter (findP e200.vip e200.first now2))).first) != e200.first))] (fun _ => by kernel_rfl) ?_
                refine WL.know 162 (.bool (((headL ((grX L e50.vip e50.dip now2).filter (findP e200.vip e200.first now2))).first) != e200.first)) (.bool false) rfl (congrArg Value.bool (by rw [(alone_find hal3 (List.mem_of_getElem? he201) (by omega)).2.2.1]; simp)) ?_
                refine WL.runs 1 [(163, .pointer (some ⟨g228, 3, none⟩))] (fun _ => by kernel_rfl) ?_
                refine WL.load 3 (.pointer (some ⟨g228, 3, none⟩)) (.int .i64 ((headL ((grX L e50.vip e50.dip now2).filter (findP e200.vip e200.first now2))).exp)) 164 (by kernel_rfl) (run_ld (hC239.get 4 rfl) rfl) ?_
                refine WL.runs 1 [(165, .pointer (some ⟨g205, 3, none⟩))] (fun _ => by kernel_rfl) ?_
                refine WL.load 3 (.pointer (some ⟨g205, 3, none⟩)) (.int .i64 e200.exp) 166 (by kernel_rfl) (run_ld (hC239.get 3 rfl) rfl) ?_
                refine WL.runs 3 [(169, .bool (decide (((headL ((grX L e50.vip e50.dip now2).filter (findP e200.vip e200.first now2))).exp) < e200.exp))), (168, .bool (decide (((headL ((grX L e50.vip e50.dip now2).filter (findP e200.vip e200.first now2))).exp) < e200.exp))), (167, .bool (decide (((headL ((grX L e50.vip e50.dip now2).filter (findP e200.vip e200.first now2))).exp) < e200.exp)))] (fun _ => by kernel_rfl) ?_
                refine WL.done rfl ?_
                refine QX.then_normal (hK246 _ _ ?_)
                refine WC.know 169 (.bool (decide (((headL ((grX L e50.vip e50.dip now2).filter (findP e200.vip e200.first now2))).exp) < e200.exp))) (.bool false) rfl (congrArg Value.bool (by exact decide_eq_false (by have q_ := (alone_find hal3 (List.mem_of_getElem? he201) (by omega)).2.2.2; omega))) ?_
                refine WC.cond_false rfl ?_
                refine WC.skip ?_
                refine QX.then_normal (hK244 _ _ ?_)
                refine WC.seq (fun K248 hK249 => ?_)
                refine WC.region ?_
                refine WL.runs 1 [(170, .pointer (some ⟨g205, 3, none⟩))] (fun _ => by kernel_rfl) ?_
                refine WL.load 3 (.pointer (some ⟨g205, 3, none⟩)) (.int .i64 e200.exp) 171 (by kernel_rfl) (run_ld (hC239.get 3 rfl) rfl) ?_
                refine WL.runs 3 [(174, .bool (decide (e200.exp ≥ now2))), (173, .bool (decide (e200.exp ≥ now2))), (172, .int .i64 now2)] (fun _ => by kernel_rfl) ?_
                refine WL.know 174 (.bool (decide (e200.exp ≥ now2))) (.bool true) rfl (congrArg Value.bool (by exact t247b)) ?_
                refine WL.runs 2 [(176, .pointer (some ⟨g205, 2, none⟩)), (175, .slice A84 ((grX L e50.vip e50.dip now2).length) c85)] (fun _ => by kernel_rfl) ?_
                refine WL.load 23 (.pointer (some ⟨g205, 2, none⟩)) (.int .u32 e200.dip) 177 (by kernel_rfl) (run_ld (hC239.get 3 rfl) rfl) ?_
                refine WL.runs 1 [(178, .int .i64 now2)] (fun _ => by kernel_rfl) ?_
                refine WL.call rfl rfl rfl rfl rfl (by kernel_rfl) (Of_ct A84 c85 (grX L e50.vip e50.dip now2) e200.dip now2 w236 (own_rd ho242 encL_len (by decide)) hal3.okl (by first | omega | simp)) ?_
                rintro _ w252 ⟨v_, rfl, hF251, ho250⟩
                have hC253 := hC239.callN hF251 (own_ge ho250) (own_lt ho250)
                obtain ⟨A254, c255, rfl, hle256⟩ := own_form ho250
                have ho258 := own_base (b' := 0) ho250 (fun _ _ => Nat.zero_le _)
                refine ⟨_, rfl, ?_⟩
                have ho259 := own_fr ho240 hF251 (by simp)
                have ho260 := own_fr ho241 hF251 (by simp)
                have ho261 := own_fr ho242 hF251 (by simp)
                refine WL.runs 3 [(182, .bool (decide ((((grX L e50.vip e50.dip now2).filter (ofP e200.dip now2)).length : Int) > 4))), (181, .bool (decide ((((grX L e50.vip e50.dip now2).filter (ofP e200.dip now2)).length : Int) > 4))), (180, .int .i64 (((grX L e50.vip e50.dip now2).filter (ofP e200.dip now2)).length : Int))] (fun _ => by kernel_rfl) ?_
                refine WL.done rfl ?_
                refine QX.then_normal (hK249 _ _ ?_)
                refine WC.know 182 (.bool (decide ((((grX L e50.vip e50.dip now2).filter (ofP e200.dip now2)).length : Int) > 4))) (.bool false) rfl (congrArg Value.bool (by exact decide_eq_false (by have q_ := alone_of hal3 e200.dip; omega))) ?_
                refine WC.cond_false rfl ?_
                refine WC.skip ?_
                refine QX.block_normal ?_
                refine QX.then_normal (hK197 _ _ ?_)
                refine WC.region ?_
                refine WL.runs 1 [(183, .int .i64 (IntKind.i64.wrap ((i3 : Int) + 1)))] (fun _ => by kernel_rfl) ?_
                refine WL.recast (show (.int .i64 (IntKind.i64.wrap ((i3 : Int) + 1)) : Value) = .int .i64 ((i3 : Int) + 1) from by rw [wrap_in_i64 ((i3 : Int) + 1) (by omega) (by omega)]) ?_
                refine WL.runs 1 [(127, .int .i64 ((i3 : Int) + 1))] (fun _ => by kernel_rfl) ?_
                refine WL.done rfl ?_
                refine QX.then_normal ?_
                have hC263 := hC253.pick [0, 1, 2] [0, 1, 2] rfl rfl
                refine fun a_ ha_ => hK186 _ _ _ ?_ ⟨i3 + 1, rfl, rfl, hC263, ho259, ho260, ho261, by omega⟩ a_ (ha_.weaken (sub_of ⟨rfl, rfl, rfl, rfl, rfl, rfl, rfl, rfl, rfl, rfl, rfl, trivial⟩))
                omega
              · -- e200.exp ≥ now2: false
                have t247 : e200.exp < now2 := by have q_ := of_decide_eq_false t247b; omega
                refine WL.runs 24 [(169, .bool false), (168, undef), (167, undef), (166, undef), (165, undef), (164, undef), (163, undef), (162, undef), (161, undef), (160, undef), (159, undef), (158, undef), (157, undef), (156, undef), (155, undef), (154, undef), (153, undef), (152, undef), (151, undef), (150, undef), (149, undef), (148, undef), (147, undef), (146, undef)] (fun _ => by kernel_rfl) ?_
                refine WL.done rfl ?_
                refine QX.then_normal (hK246 _ _ ?_)
                refine WC.cond_false rfl ?_
                refine WC.skip ?_
                refine QX.then_normal (hK244 _ _ ?_)
                refine WC.seq (fun K264 hK265 => ?_)
                refine WC.region ?_
                refine WL.runs 1 [(170, .pointer (some ⟨g205, 3, none⟩))] (fun _ => by kernel_rfl) ?_
                refine WL.load 3 (.pointer (some ⟨g205, 3, none⟩)) (.int .i64 e200.exp) 171 (by kernel_rfl) (run_ld (hC239.get 3 rfl) rfl) ?_
                refine WL.runs 3 [(174, .bool (decide (e200.exp ≥ now2))), (173, .bool (decide (e200.exp ≥ now2))), (172, .int .i64 now2)] (fun _ => by kernel_rfl) ?_
                refine WL.know 174 (.bool (decide (e200.exp ≥ now2))) (.bool false) rfl (congrArg Value.bool (by exact t247b)) ?_
                refine WL.runs 8 [(182, .bool false), (181, undef), (180, undef), (179, undef), (178, undef), (177, undef), (176, undef), (175, undef)] (fun _ => by kernel_rfl) ?_
                refine WL.done rfl ?_
                refine QX.then_normal (hK265 _ _ ?_)
                refine WC.cond_false rfl ?_
                refine WC.skip ?_
                refine QX.block_normal ?_
                refine QX.then_normal (hK197 _ _ ?_)
                refine WC.region ?_
                refine WL.runs 1 [(183, .int .i64 (IntKind.i64.wrap ((i3 : Int) + 1)))] (fun _ => by kernel_rfl) ?_
                refine WL.recast (show (.int .i64 (IntKind.i64.wrap ((i3 : Int) + 1)) : Value) = .int .i64 ((i3 : Int) + 1) from by rw [wrap_in_i64 ((i3 : Int) + 1) (by omega) (by omega)]) ?_
                refine WL.runs 1 [(127, .int .i64 ((i3 : Int) + 1))] (fun _ => by kernel_rfl) ?_
                refine WL.done rfl ?_
                refine QX.then_normal ?_
                have hC266 := hC239.pick [0, 1, 2] [0, 1, 2] rfl rfl
                refine fun a_ ha_ => hK186 _ _ _ ?_ ⟨i3 + 1, rfl, rfl, hC266, ho240, ho241, ho242, by omega⟩ a_ (ha_.weaken (sub_of ⟨rfl, rfl, rfl, rfl, rfl, rfl, rfl, rfl, rfl, rfl, rfl, trivial⟩))
                omega
            · -- (i3 : Int) < (n4 + 1 : Int): false
              have t195 : (n4 + 1 : Int) ≤ (i3 : Int) := by have q_ := of_decide_eq_false t195b; omega
              refine WC.cond_false rfl ?_
              refine WC.exit ?_
              refine QX.then_exit ?_
              refine QX.then_exit ?_
              refine QX.block_hit ?_
              refine QX.block_normal ?_
              refine QX.then_normal (hK47 _ _ ?_)
              refine WC.region ?_
              refine WL.runs 1 [(184, .int .i64 (IntKind.i64.wrap ((k : Int) + 1)))] (fun _ => by kernel_rfl) ?_
              refine WL.recast (show (.int .i64 (IntKind.i64.wrap ((k : Int) + 1)) : Value) = .int .i64 ((k : Int) + 1) from by rw [wrap_in_i64 ((k : Int) + 1) (by omega) (by omega)]) ?_
              refine WL.runs 1 [(29, .int .i64 ((k : Int) + 1))] (fun _ => by kernel_rfl) ?_
              refine WL.done rfl ?_
              refine QX.then_normal ?_
              have hC267 := hC190.pick [] [0, 2] rfl rfl
              refine fun a_ ha_ => hK36 _ _ _ ?_ ⟨k + 1, A84, c85, A177, n4 + 1, c178, (grX L e50.vip e50.dip now2), (G ++ [(grL L e50.vip e50.dip now2)]), now2, rfl, rfl, hC267, rowG_m188, row91_m188, by omega, by omega, by omega, by omega, by omega, hal3⟩ a_ (ha_.weaken (sub_of ⟨rfl, rfl, rfl, rfl, rfl, rfl, rfl, trivial⟩))
              omega
        · -- (decide (grE L e50.vip e50.dip now2 = 0)) = true: false
          refine WC.cond_false rfl ?_
          refine WC.skip ?_
          refine QX.block_normal ?_
          refine QX.then_normal (hK72 _ _ ?_)
          refine WC.seq (fun K268 hK269 => ?_)
          refine WC.region ?_
          refine WL.runs 3 [(127, .int .i64 0), (126, .int .i64 (n4 : Int)), (125, .slice A4 n4 c4)] (fun _ => by kernel_rfl) ?_
          refine WL.done rfl ?_
          refine QX.then_normal (hK269 _ _ ?_)
          refine WC.block ?_
          have hal3 : Alone L G now2 := hal2
          have hcg_ := own_count encL_len (by decide) ho104
          refine WC.loop (fun m_ E_ w_ => ∃ (i3 : Nat), m_ = n4 - i3 ∧ E_ = [(0, .slice A ops.length c), (3, .slice A3 L.length c3), (4, .slice A4 n4 c4), (5, .int .i64 now2), (7, .pointer (some ⟨g56, 0, none⟩)), (27, .slice A ops.length c), (28, .int .i64 (ops.length : Int)), (29, .int .i64 (k : Int)), (125, .slice A4 n4 c4), (126, .int .i64 (n4 : Int)), (127, .int .i64 (i3 : Int))] ∧ Cx w [] w_ [(g56, .cells #[.int .i64 e50.kind, .int .u32 e50.vip, .int .u32 e50.dip, .int .i64 e50.n, .int .i64 e50.wait] 54), (g92, .cells #[.int .u32 ((grL L e50.vip e50.dip now2).vip), .int .i64 ((grL L e50.vip e50.dip now2).first), .int .u32 ((grL L e50.vip e50.dip now2).dip), .int .i64 ((grL L e50.vip e50.dip now2).exp)] 27)] [blk (.slice A4 n4 c4), blk (.slice A3 L.length c3), blk (.slice A84 ((grX L e50.vip e50.dip now2).length) c85)] ∧ World.ownsRow w_ 0 27 4 (.slice A4 n4 c4) n4 (G.flatMap encL) ∧ World.ownsRow w_ 0 27 4 (.slice A3 L.length c3) L.length (L.flatMap encL) ∧ World.ownsRow w_ 0 27 4 (.slice A84 ((grX L e50.vip e50.dip now2).length) c85) ((grX L e50.vip e50.dip now2).length) ((grX L e50.vip e50.dip now2).flatMap encL) ∧ (i3 ≤ n4)) ⟨_, _, ⟨0, rfl, rfl, hC103, ho104, ho105, ho106, Nat.zero_le _⟩, sub_of ⟨rfl, rfl, rfl, rfl, rfl, rfl, rfl, rfl, rfl, rfl, rfl, trivial⟩⟩ (fun m273 E_ w274 K270 hK271 hI272 => ?_)
          obtain ⟨i3, rfl, rfl, hC275, rowG_m273, rowL_m273, row91_m273, hi3⟩ := hI272
          refine WC.seq (fun K276 hK277 => ?_)
          refine WC.region ?_
          refine WL.runs 1 [(128, .bool (decide ((i3 : Int) < (n4 : Int))))] (fun _ => by kernel_rfl) ?_
          refine WL.done rfl ?_
          refine QX.then_normal (hK277 _ _ ?_)
          refine WC.seq (fun K278 hK279 => ?_)
          refine WC.test_at 128 (decide ((i3 : Int) < (n4 : Int))) rfl (fun t280b => ?_) (fun t280b => ?_)
          · -- (i3 : Int) < (n4 : Int): true
            have t280 : (i3 : Int) < (n4 : Int) := by have q_ := of_decide_eq_true t280b; omega
            refine WC.cond_true rfl ?_
            refine WC.skip ?_
            refine QX.then_normal (hK279 _ _ ?_)
            refine WC.seq (fun K281 hK282 => ?_)
            refine WC.block ?_
            refine WC.seq (fun K283 hK284 => ?_)
            refine WC.region ?_
            have hn289 := own_count encL_len (by decide) rowG_m273
            obtain ⟨e285, he286⟩ := get_some (xs := G) (i := i3) (by omega)
            obtain ⟨b287, hA288⟩ := own_addr (by decide) encL_len rowG_m273 he286
            refine WL.index A4 n4 c4 129 .i64 (i3 : Int) b287 0 i3 4 (by kernel_rfl) hA288 (by omega) (by omega) (i3 * 4) (by first | (simp; done) | omega) ?_
            refine WL.load 27 (.pointer (some ⟨b287, i3 * 4, none⟩)) (.agg #[.int .u32 e285.vip, .int .i64 e285.first, .int .u32 e285.dip, .int .i64 e285.exp]) 130 (by kernel_rfl) (run_rdN (l := [.int .u32 e285.vip, .int .i64 e285.first, .int .u32 e285.dip, .int .i64 e285.exp]) rfl rfl (fun j u hu => by have hq_ := Rd.cell (own_rd rowG_m273 encL_len (by decide)) hA288 he286 j u hu; simpa [Nat.add_assoc] using hq_)) ?_
            refine WL.newM hC275 (fun b => .pointer (some ⟨b, 0, none⟩)) (.cells #[.int .u32 0, .int .i64 0, .int .u32 0, .int .i64 0] 27) 18 (fun _ => by kernel_rfl) (fun g290 w291 hb294 hF292 hC293 => ?_)
            have ho295 := own_fr rowG_m273 hF292 (by simp)
            have ho296 := own_fr rowL_m273 hF292 (by simp)
            have ho297 := own_fr row91_m273 hF292 (by simp)
            refine WL.storeM hC293 2 27 g290 0 (.agg #[.int .u32 e285.vip, .int .i64 e285.first, .int .u32 e285.dip, .int .i64 e285.exp]) (by kernel_rfl) rfl rfl (fun w298 hF300 hC301 => ?_)
            have ho302 := own_fr ho295 hF300 (hC293.apartM 0 2 rfl rfl)
            have ho303 := own_fr ho296 hF300 (hC293.apartM 1 2 rfl rfl)
            have ho304 := own_fr ho297 hF300 (hC293.apartM 2 2 rfl rfl)
            refine WL.done rfl ?_
            refine QX.then_normal (hK284 _ _ ?_)
            refine WC.seq (fun K305 hK306 => ?_)
            refine WC.region ?_
            refine WL.runs 2 [(133, .pointer (some ⟨g290, 0, none⟩)), (132, .slice A3 L.length c3)] (fun _ => by kernel_rfl) ?_
            refine WL.load 23 (.pointer (some ⟨g290, 0, none⟩)) (.int .u32 e285.vip) 134 (by kernel_rfl) (run_ld (hC301.get 2 rfl) rfl) ?_
            refine WL.runs 1 [(135, .pointer (some ⟨g290, 1, none⟩))] (fun _ => by kernel_rfl) ?_
            refine WL.load 3 (.pointer (some ⟨g290, 1, none⟩)) (.int .i64 e285.first) 136 (by kernel_rfl) (run_ld (hC301.get 2 rfl) rfl) ?_
            refine WL.runs 1 [(137, .int .i64 now2)] (fun _ => by kernel_rfl) ?_
            obtain ⟨_, _, _, _, hf1_, hf2_, _⟩ := hal3.ok _ (List.mem_of_getElem? he286)
            refine WL.call rfl rfl rfl rfl rfl (by kernel_rfl) (Find_ct A3 c3 L e285.vip e285.first now2 w298 (own_rd ho303 encL_len (by decide)) (by first | exact hal3.okl | exact hal2.okl | exact hal.okl) (by first | omega | simp) (by omega)) ?_
            rintro _ w308 ⟨rfl, hF307⟩
            refine ⟨_, rfl, ?_⟩
            have hC309 := hC301.call hF307
            have ho310 := own_fr ho302 hF307 (by simp)
            have ho311 := own_fr ho303 hF307 (by simp)
            have ho312 := own_fr ho304 hF307 (by simp)
            refine WL.runs 3 [(140, .bool (hasL (L.filter (findP e285.vip e285.first now2)))), (139, .agg #[.int .u32 ((headL (L.filter (findP e285.vip e285.first now2))).vip), .int .i64 ((headL (L.filter (findP e285.vip e285.first now2))).first), .int .u32 ((headL (L.filter (findP e285.vip e285.first now2))).dip), .int .i64 ((headL (L.filter (findP e285.vip e285.first now2))).exp)]), (131, .tuple #[.agg #[.int .u32 ((headL (L.filter (findP e285.vip e285.first now2))).vip), .int .i64 ((headL (L.filter (findP e285.vip e285.first now2))).first), .int .u32 ((headL (L.filter (findP e285.vip e285.first now2))).dip), .int .i64 ((headL (L.filter (findP e285.vip e285.first now2))).exp)], .bool (hasL (L.filter (findP e285.vip e285.first now2)))])] (fun _ => by kernel_rfl) ?_
            refine WL.newM hC309 (fun b => .pointer (some ⟨b, 0, none⟩)) (.cells #[.int .u32 0, .int .i64 0, .int .u32 0, .int .i64 0] 27) 19 (fun _ => by kernel_rfl) (fun g313 w314 hb317 hF315 hC316 => ?_)
            have ho318 := own_fr ho310 hF315 (by simp)
            have ho319 := own_fr ho311 hF315 (by simp)
            have ho320 := own_fr ho312 hF315 (by simp)
            refine WL.storeM hC316 3 27 g313 0 (.agg #[.int .u32 ((headL (L.filter (findP e285.vip e285.first now2))).vip), .int .i64 ((headL (L.filter (findP e285.vip e285.first now2))).first), .int .u32 ((headL (L.filter (findP e285.vip e285.first now2))).dip), .int .i64 ((headL (L.filter (findP e285.vip e285.first now2))).exp)]) (by kernel_rfl) rfl rfl (fun w321 hF323 hC324 => ?_)
            have ho325 := own_fr ho318 hF323 (hC316.apartM 0 3 rfl rfl)
            have ho326 := own_fr ho319 hF323 (hC316.apartM 1 3 rfl rfl)
            have ho327 := own_fr ho320 hF323 (hC316.apartM 2 3 rfl rfl)
            refine WL.runs 1 [(20, .bool (hasL (L.filter (findP e285.vip e285.first now2))))] (fun _ => by kernel_rfl) ?_
            refine WL.done rfl ?_
            refine QX.then_normal (hK306 _ _ ?_)
            refine WC.seq (fun K328 hK329 => ?_)
            refine WC.seq (fun K330 hK331 => ?_)
            refine WC.region ?_
            refine WL.runs 1 [(141, .pointer (some ⟨g290, 3, none⟩))] (fun _ => by kernel_rfl) ?_
            refine WL.load 3 (.pointer (some ⟨g290, 3, none⟩)) (.int .i64 e285.exp) 142 (by kernel_rfl) (run_ld (hC324.get 2 rfl) rfl) ?_
            refine WL.runs 3 [(145, .bool (decide (e285.exp ≥ now2))), (144, .bool (decide (e285.exp ≥ now2))), (143, .int .i64 now2)] (fun _ => by kernel_rfl) ?_
            refine WL.test_at 145 (decide (e285.exp ≥ now2)) rfl (fun t332b => ?_) (fun t332b => ?_)
            · -- e285.exp ≥ now2: true
              have t332 : now2 ≤ e285.exp := by have q_ := of_decide_eq_true t332b; omega
              refine WL.runs 3 [(148, .bool (!(hasL (L.filter (findP e285.vip e285.first now2))))), (147, .bool (!(hasL (L.filter (findP e285.vip e285.first now2))))), (146, .bool (hasL (L.filter (findP e285.vip e285.first now2))))] (fun _ => by kernel_rfl) ?_
              refine WL.know 148 (.bool (!(hasL (L.filter (findP e285.vip e285.first now2))))) (.bool false) rfl (congrArg Value.bool (by rw [(alone_find hal3 (List.mem_of_getElem? he286) (by omega)).1]; rfl)) ?_
              refine WL.runs 1 [(149, .pointer (some ⟨g313, 2, none⟩))] (fun _ => by kernel_rfl) ?_
              refine WL.load 23 (.pointer (some ⟨g313, 2, none⟩)) (.int .u32 ((headL (L.filter (findP e285.vip e285.first now2))).dip)) 150 (by kernel_rfl) (run_ld (hC324.get 3 rfl) rfl) ?_
              refine WL.runs 1 [(151, .pointer (some ⟨g290, 2, none⟩))] (fun _ => by kernel_rfl) ?_
              refine WL.load 23 (.pointer (some ⟨g290, 2, none⟩)) (.int .u32 e285.dip) 152 (by kernel_rfl) (run_ld (hC324.get 2 rfl) rfl) ?_
              refine WL.runs 3 [(155, .bool (((headL (L.filter (findP e285.vip e285.first now2))).dip) != e285.dip)), (154, .bool (((headL (L.filter (findP e285.vip e285.first now2))).dip) != e285.dip)), (153, .bool (((headL (L.filter (findP e285.vip e285.first now2))).dip) != e285.dip))] (fun _ => by kernel_rfl) ?_
              refine WL.know 155 (.bool (((headL (L.filter (findP e285.vip e285.first now2))).dip) != e285.dip)) (.bool false) rfl (congrArg Value.bool (by rw [(alone_find hal3 (List.mem_of_getElem? he286) (by omega)).2.1]; simp)) ?_
              refine WL.runs 1 [(156, .pointer (some ⟨g313, 1, none⟩))] (fun _ => by kernel_rfl) ?_
              refine WL.load 3 (.pointer (some ⟨g313, 1, none⟩)) (.int .i64 ((headL (L.filter (findP e285.vip e285.first now2))).first)) 157 (by kernel_rfl) (run_ld (hC324.get 3 rfl) rfl) ?_
              refine WL.runs 1 [(158, .pointer (some ⟨g290, 1, none⟩))] (fun _ => by kernel_rfl) ?_
              refine WL.load 3 (.pointer (some ⟨g290, 1, none⟩)) (.int .i64 e285.first) 159 (by kernel_rfl) (run_ld (hC324.get 2 rfl) rfl) ?_
              refine WL.runs 3 [(162, .bool (((headL (L.filter (findP e285.vip e285.first now2))).first) != e285.first)), (161, .bool (((headL (L.filter (findP e285.vip e285.first now2))).first) != e285.first)), (160, .bool (((headL (L.filter (findP e285.vip e285.first now2))).first) != e285.first))] (fun _ => by kernel_rfl) ?_
              refine WL.know 162 (.bool (((headL (L.filter (findP e285.vip e285.first now2))).first) != e285.first)) (.bool false) rfl (congrArg Value.bool (by rw [(alone_find hal3 (List.mem_of_getElem? he286) (by omega)).2.2.1]; simp)) ?_
              refine WL.runs 1 [(163, .pointer (some ⟨g313, 3, none⟩))] (fun _ => by kernel_rfl) ?_
              refine WL.load 3 (.pointer (some ⟨g313, 3, none⟩)) (.int .i64 ((headL (L.filter (findP e285.vip e285.first now2))).exp)) 164 (by kernel_rfl) (run_ld (hC324.get 3 rfl) rfl) ?_
              refine WL.runs 1 [(165, .pointer (some ⟨g290, 3, none⟩))] (fun _ => by kernel_rfl) ?_
              refine WL.load 3 (.pointer (some ⟨g290, 3, none⟩)) (.int .i64 e285.exp) 166 (by kernel_rfl) (run_ld (hC324.get 2 rfl) rfl) ?_
              refine WL.runs 3 [(169, .bool (decide (((headL (L.filter (findP e285.vip e285.first now2))).exp) < e285.exp))), (168, .bool (decide (((headL (L.filter (findP e285.vip e285.first now2))).exp) < e285.exp))), (167, .bool (decide (((headL (L.filter (findP e285.vip e285.first now2))).exp) < e285.exp)))] (fun _ => by kernel_rfl) ?_
              refine WL.done rfl ?_
              refine QX.then_normal (hK331 _ _ ?_)
              refine WC.know 169 (.bool (decide (((headL (L.filter (findP e285.vip e285.first now2))).exp) < e285.exp))) (.bool false) rfl (congrArg Value.bool (by exact decide_eq_false (by have q_ := (alone_find hal3 (List.mem_of_getElem? he286) (by omega)).2.2.2; omega))) ?_
              refine WC.cond_false rfl ?_
              refine WC.skip ?_
              refine QX.then_normal (hK329 _ _ ?_)
              refine WC.seq (fun K333 hK334 => ?_)
              refine WC.region ?_
              refine WL.runs 1 [(170, .pointer (some ⟨g290, 3, none⟩))] (fun _ => by kernel_rfl) ?_
              refine WL.load 3 (.pointer (some ⟨g290, 3, none⟩)) (.int .i64 e285.exp) 171 (by kernel_rfl) (run_ld (hC324.get 2 rfl) rfl) ?_
              refine WL.runs 3 [(174, .bool (decide (e285.exp ≥ now2))), (173, .bool (decide (e285.exp ≥ now2))), (172, .int .i64 now2)] (fun _ => by kernel_rfl) ?_
              refine WL.know 174 (.bool (decide (e285.exp ≥ now2))) (.bool true) rfl (congrArg Value.bool (by exact t332b)) ?_
              refine WL.runs 2 [(176, .pointer (some ⟨g290, 2, none⟩)), (175, .slice A3 L.length c3)] (fun _ => by kernel_rfl) ?_
              refine WL.load 23 (.pointer (some ⟨g290, 2, none⟩)) (.int .u32 e285.dip) 177 (by kernel_rfl) (run_ld (hC324.get 2 rfl) rfl) ?_
              refine WL.runs 1 [(178, .int .i64 now2)] (fun _ => by kernel_rfl) ?_
              refine WL.call rfl rfl rfl rfl rfl (by kernel_rfl) (Of_ct A3 c3 L e285.dip now2 w321 (own_rd ho326 encL_len (by decide)) (by first | exact hal3.okl | exact hal2.okl | exact hal.okl) (by first | omega | simp)) ?_
              rintro _ w337 ⟨v_, rfl, hF336, ho335⟩
              have hC338 := hC324.callN hF336 (own_ge ho335) (own_lt ho335)
              obtain ⟨A339, c340, rfl, hle341⟩ := own_form ho335
              have ho343 := own_base (b' := 0) ho335 (fun _ _ => Nat.zero_le _)
              refine ⟨_, rfl, ?_⟩
              have ho344 := own_fr ho325 hF336 (by simp)
              have ho345 := own_fr ho326 hF336 (by simp)
              have ho346 := own_fr ho327 hF336 (by simp)
              refine WL.runs 3 [(182, .bool (decide (((L.filter (ofP e285.dip now2)).length : Int) > 4))), (181, .bool (decide (((L.filter (ofP e285.dip now2)).length : Int) > 4))), (180, .int .i64 ((L.filter (ofP e285.dip now2)).length : Int))] (fun _ => by kernel_rfl) ?_
              refine WL.done rfl ?_
              refine QX.then_normal (hK334 _ _ ?_)
              refine WC.know 182 (.bool (decide (((L.filter (ofP e285.dip now2)).length : Int) > 4))) (.bool false) rfl (congrArg Value.bool (by exact decide_eq_false (by have q_ := alone_of hal3 e285.dip; omega))) ?_
              refine WC.cond_false rfl ?_
              refine WC.skip ?_
              refine QX.block_normal ?_
              refine QX.then_normal (hK282 _ _ ?_)
              refine WC.region ?_
              refine WL.runs 1 [(183, .int .i64 (IntKind.i64.wrap ((i3 : Int) + 1)))] (fun _ => by kernel_rfl) ?_
              refine WL.recast (show (.int .i64 (IntKind.i64.wrap ((i3 : Int) + 1)) : Value) = .int .i64 ((i3 : Int) + 1) from by rw [wrap_in_i64 ((i3 : Int) + 1) (by omega) (by omega)]) ?_
              refine WL.runs 1 [(127, .int .i64 ((i3 : Int) + 1))] (fun _ => by kernel_rfl) ?_
              refine WL.done rfl ?_
              refine QX.then_normal ?_
              have hC348 := hC338.pick [0, 1] [0, 1, 2] rfl rfl
              refine fun a_ ha_ => hK271 _ _ _ ?_ ⟨i3 + 1, rfl, rfl, hC348, ho344, ho345, ho346, by omega⟩ a_ (ha_.weaken (sub_of ⟨rfl, rfl, rfl, rfl, rfl, rfl, rfl, rfl, rfl, rfl, rfl, trivial⟩))
              omega
            · -- e285.exp ≥ now2: false
              have t332 : e285.exp < now2 := by have q_ := of_decide_eq_false t332b; omega
              refine WL.runs 24 [(169, .bool false), (168, undef), (167, undef), (166, undef), (165, undef), (164, undef), (163, undef), (162, undef), (161, undef), (160, undef), (159, undef), (158, undef), (157, undef), (156, undef), (155, undef), (154, undef), (153, undef), (152, undef), (151, undef), (150, undef), (149, undef), (148, undef), (147, undef), (146, undef)] (fun _ => by kernel_rfl) ?_
              refine WL.done rfl ?_
              refine QX.then_normal (hK331 _ _ ?_)
              refine WC.cond_false rfl ?_
              refine WC.skip ?_
              refine QX.then_normal (hK329 _ _ ?_)
              refine WC.seq (fun K349 hK350 => ?_)
              refine WC.region ?_
              refine WL.runs 1 [(170, .pointer (some ⟨g290, 3, none⟩))] (fun _ => by kernel_rfl) ?_
              refine WL.load 3 (.pointer (some ⟨g290, 3, none⟩)) (.int .i64 e285.exp) 171 (by kernel_rfl) (run_ld (hC324.get 2 rfl) rfl) ?_
              refine WL.runs 3 [(174, .bool (decide (e285.exp ≥ now2))), (173, .bool (decide (e285.exp ≥ now2))), (172, .int .i64 now2)] (fun _ => by kernel_rfl) ?_
              refine WL.know 174 (.bool (decide (e285.exp ≥ now2))) (.bool false) rfl (congrArg Value.bool (by exact t332b)) ?_
              refine WL.runs 8 [(182, .bool false), (181, undef), (180, undef), (179, undef), (178, undef), (177, undef), (176, undef), (175, undef)] (fun _ => by kernel_rfl) ?_
              refine WL.done rfl ?_
              refine QX.then_normal (hK350 _ _ ?_)
              refine WC.cond_false rfl ?_
              refine WC.skip ?_
              refine QX.block_normal ?_
              refine QX.then_normal (hK282 _ _ ?_)
              refine WC.region ?_
              refine WL.runs 1 [(183, .int .i64 (IntKind.i64.wrap ((i3 : Int) + 1)))] (fun _ => by kernel_rfl) ?_
              refine WL.recast (show (.int .i64 (IntKind.i64.wrap ((i3 : Int) + 1)) : Value) = .int .i64 ((i3 : Int) + 1) from by rw [wrap_in_i64 ((i3 : Int) + 1) (by omega) (by omega)]) ?_
              refine WL.runs 1 [(127, .int .i64 ((i3 : Int) + 1))] (fun _ => by kernel_rfl) ?_
              refine WL.done rfl ?_
              refine QX.then_normal ?_
              have hC351 := hC324.pick [0, 1] [0, 1, 2] rfl rfl
              refine fun a_ ha_ => hK271 _ _ _ ?_ ⟨i3 + 1, rfl, rfl, hC351, ho325, ho326, ho327, by omega⟩ a_ (ha_.weaken (sub_of ⟨rfl, rfl, rfl, rfl, rfl, rfl, rfl, rfl, rfl, rfl, rfl, trivial⟩))
              omega
          · -- (i3 : Int) < (n4 : Int): false
            have t280 : (n4 : Int) ≤ (i3 : Int) := by have q_ := of_decide_eq_false t280b; omega
            refine WC.cond_false rfl ?_
            refine WC.exit ?_
            refine QX.then_exit ?_
            refine QX.then_exit ?_
            refine QX.block_hit ?_
            refine QX.block_normal ?_
            refine QX.then_normal (hK47 _ _ ?_)
            refine WC.region ?_
            refine WL.runs 1 [(184, .int .i64 (IntKind.i64.wrap ((k : Int) + 1)))] (fun _ => by kernel_rfl) ?_
            refine WL.recast (show (.int .i64 (IntKind.i64.wrap ((k : Int) + 1)) : Value) = .int .i64 ((k : Int) + 1) from by rw [wrap_in_i64 ((k : Int) + 1) (by omega) (by omega)]) ?_
            refine WL.runs 1 [(29, .int .i64 ((k : Int) + 1))] (fun _ => by kernel_rfl) ?_
            refine WL.done rfl ?_
            refine QX.then_normal ?_
            have hC352 := hC275.pick [] [0, 1] rfl rfl
            refine fun a_ ha_ => hK36 _ _ _ ?_ ⟨k + 1, A3, c3, A4, n4, c4, L, G, now2, rfl, rfl, hC352, rowG_m273, rowL_m273, by omega, by omega, by omega, by omega, by omega, hal3⟩ a_ (ha_.weaken (sub_of ⟨rfl, rfl, rfl, rfl, rfl, rfl, rfl, trivial⟩))
            omega
      · -- e50.kind = 0: false
        have t77 : ¬ (e50.kind = 0) := by simpa using t77b
        refine WC.cond_false rfl ?_
        refine WC.seq (fun K353 hK354 => ?_)
        refine WC.region ?_
        refine WL.runs 2 [(81, .bool (e50.kind == 1)), (82, .bool (e50.kind == 1))] (fun _ => by kernel_rfl) ?_
        refine WL.done rfl ?_
        refine QX.then_normal (hK354 _ _ ?_)
        refine WC.test_at 81 (e50.kind == 1) rfl (fun t355b => ?_) (fun t355b => ?_)
        · -- e50.kind = 1: true
          have t355 : e50.kind = 1 := by simpa using t355b
          refine WC.cond_true rfl ?_
          refine WC.seq (fun K356 hK357 => ?_)
          refine WC.region ?_
          refine WL.runs 3 [(85, .bool (decide ((n4 : Int) > 0))), (84, .int .i64 (n4 : Int)), (83, .slice A4 n4 c4)] (fun _ => by kernel_rfl) ?_
          refine WL.done rfl ?_
          refine QX.then_normal (hK357 _ _ ?_)
          refine WC.test_at 85 (decide ((n4 : Int) > 0)) rfl (fun t358b => ?_) (fun t358b => ?_)
          · -- (n4 : Int) > 0: true
            have t358 : (0 : Int) < (n4 : Int) := by have q_ := of_decide_eq_true t358b; omega
            refine WC.cond_true rfl ?_
            refine WC.seq (fun K359 hK360 => ?_)
            refine WC.region ?_
            refine WL.runs 2 [(87, .pointer (some ⟨g56, 3, none⟩)), (86, .slice A4 n4 c4)] (fun _ => by kernel_rfl) ?_
            refine WL.load 3 (.pointer (some ⟨g56, 3, none⟩)) (.int .i64 e50.n) 88 (by kernel_rfl) (run_ld (hC66.get 0 rfl) rfl) ?_
            obtain ⟨u3, hu3, hu4⟩ : ∃ u : Int, IntKind.u64.wrap (e50.n) = u ∧ (0 ≤ u ∧ u ≤ 18446744073709551615) := ⟨_, rfl, wrap_u64_span _⟩
            refine WL.runs 1 [(89, .int .u64 (IntKind.u64.wrap (e50.n)))] (fun _ => by kernel_rfl) ?_
            refine WL.recast (show (.int .u64 (IntKind.u64.wrap (e50.n)) : Value) = .int .u64 u3 from by rw [hu3]) ?_
            refine WL.runs 3 [(92, .int .u64 (IntKind.u64.wrap ((n4 : Int)))), (91, .int .i64 (n4 : Int)), (90, .slice A4 n4 c4)] (fun _ => by kernel_rfl) ?_
            refine WL.recast (show (.int .u64 (IntKind.u64.wrap ((n4 : Int))) : Value) = .int .u64 (n4 : Int) from by rw [wrap_in_u64 _ (by omega) (by omega)]) ?_
            have hr361 : ∀ w_, Sem.run Tryd.prog (do eqGuard .rem 33 (Operand.tmp 89) (Operand.tmp 92) (.int .u64 u3) (.int .u64 (n4 : Int)); binOp .rem 33 (.int .u64 u3) (.int .u64 (n4 : Int))) w_ = .ok (.int .u64 (Int.tmod u3 (n4 : Int))) w_ := fun w_ => (run_rem (by omega))
            refine WL.sem (do eqGuard .rem 33 (Operand.tmp 89) (Operand.tmp 92) (.int .u64 u3) (.int .u64 (n4 : Int)); binOp .rem 33 (.int .u64 u3) (.int .u64 (n4 : Int))) 93 (.int .u64 (Int.tmod u3 (n4 : Int))) (by kernel_rfl) (hr361 _) ?_
            obtain ⟨q4, hq4, hq5⟩ := mod_nat (u := u3) (n := n4) hu4.1 (by omega)
            refine WL.recast (show (.int .u64 (Int.tmod u3 (n4 : Int)) : Value) = .int .u64 (q4 : Int) from by rw [hq4]) ?_
            refine WL.runs 1 [(94, .int .i64 (IntKind.i64.wrap ((q4 : Int))))] (fun _ => by kernel_rfl) ?_
            refine WL.recast (show (.int .i64 (IntKind.i64.wrap ((q4 : Int))) : Value) = .int .i64 (q4 : Int) from by rw [wrap_in_i64 _ (by omega) (by omega)]) ?_
            have hn366 := own_count encL_len (by decide) ho67
            obtain ⟨e362, he363⟩ := get_some (xs := G) (i := q4) (by omega)
            obtain ⟨b364, hA365⟩ := own_addr (by decide) encL_len ho67 he363
            refine WL.index A4 n4 c4 95 .i64 (q4 : Int) b364 0 q4 4 (by kernel_rfl) hA365 (by omega) (by omega) (q4 * 4) (by first | (simp; done) | omega) ?_
            refine WL.load 27 (.pointer (some ⟨b364, q4 * 4, none⟩)) (.agg #[.int .u32 e362.vip, .int .i64 e362.first, .int .u32 e362.dip, .int .i64 e362.exp]) 96 (by kernel_rfl) (run_rdN (l := [.int .u32 e362.vip, .int .i64 e362.first, .int .u32 e362.dip, .int .i64 e362.exp]) rfl rfl (fun j u hu => by have hq_ := Rd.cell (own_rd ho67 encL_len (by decide)) hA365 he363 j u hu; simpa [Nat.add_assoc] using hq_)) ?_
            refine WL.newM hC66 (fun b => .pointer (some ⟨b, 0, none⟩)) (.cells #[.int .u32 0, .int .i64 0, .int .u32 0, .int .i64 0] 27) 13 (fun _ => by kernel_rfl) (fun g367 w368 hb371 hF369 hC370 => ?_)
            have ho372 := own_fr ho67 hF369 (by simp)
            have ho373 := own_fr ho68 hF369 (by simp)
            refine WL.storeM hC370 1 27 g367 0 (.agg #[.int .u32 e362.vip, .int .i64 e362.first, .int .u32 e362.dip, .int .i64 e362.exp]) (by kernel_rfl) rfl rfl (fun w374 hF376 hC377 => ?_)
            have ho378 := own_fr ho372 hF376 (hC370.apartM 0 1 rfl rfl)
            have ho379 := own_fr ho373 hF376 (hC370.apartM 1 1 rfl rfl)
            refine WL.done rfl ?_
            refine QX.then_normal (hK360 _ _ ?_)
            refine WC.seq (fun K380 hK381 => ?_)
            refine WC.region ?_
            refine WL.runs 2 [(99, .pointer (some ⟨g367, 0, none⟩)), (98, .slice A3 L.length c3)] (fun _ => by kernel_rfl) ?_
            refine WL.load 23 (.pointer (some ⟨g367, 0, none⟩)) (.int .u32 e362.vip) 100 (by kernel_rfl) (run_ld (hC377.get 1 rfl) rfl) ?_
            refine WL.runs 1 [(101, .pointer (some ⟨g367, 1, none⟩))] (fun _ => by kernel_rfl) ?_
            refine WL.load 3 (.pointer (some ⟨g367, 1, none⟩)) (.int .i64 e362.first) 102 (by kernel_rfl) (run_ld (hC377.get 1 rfl) rfl) ?_
            refine WL.runs 1 [(103, .pointer (some ⟨g367, 2, none⟩))] (fun _ => by kernel_rfl) ?_
            refine WL.load 23 (.pointer (some ⟨g367, 2, none⟩)) (.int .u32 e362.dip) 104 (by kernel_rfl) (run_ld (hC377.get 1 rfl) rfl) ?_
            refine WL.runs 1 [(105, .int .i64 now2)] (fun _ => by kernel_rfl) ?_
            refine WL.call rfl rfl rfl rfl rfl (by kernel_rfl) (Renew_ct A3 c3 L e362.vip e362.first e362.dip now2 w374 (own_rd ho379 encL_len (by decide)) (by first | exact hal3.okl | exact hal2.okl | exact hal.okl) (by first | omega | simp)) ?_
            rintro _ w384 ⟨v_, rfl, hF383, ho382⟩
            have hC385 := hC377.callN hF383 (own_ge ho382) (own_lt ho382)
            obtain ⟨A386, c387, rfl, hle388⟩ := own_form ho382
            have ho390 := own_base (b' := 0) ho382 (fun _ _ => Nat.zero_le _)
            refine ⟨_, rfl, ?_⟩
            have ho391 := own_fr ho378 hF383 (by simp)
            have ho392 := own_fr ho379 hF383 (by simp)
            refine WL.runs 4 [(109, errV 32 (rnE L e362.vip e362.first e362.dip now2)), (108, .agg #[.int .u32 ((rnL L e362.vip e362.first e362.dip now2).vip), .int .i64 ((rnL L e362.vip e362.first e362.dip now2).first), .int .u32 ((rnL L e362.vip e362.first e362.dip now2).dip), .int .i64 ((rnL L e362.vip e362.first e362.dip now2).exp)]), (107, .slice A386 ((rnX L e362.vip e362.first e362.dip now2).length) c387), (97, .tuple #[.slice A386 ((rnX L e362.vip e362.first e362.dip now2).length) c387, .agg #[.int .u32 ((rnL L e362.vip e362.first e362.dip now2).vip), .int .i64 ((rnL L e362.vip e362.first e362.dip now2).first), .int .u32 ((rnL L e362.vip e362.first e362.dip now2).dip), .int .i64 ((rnL L e362.vip e362.first e362.dip now2).exp)], errV 32 (rnE L e362.vip e362.first e362.dip now2)])] (fun _ => by kernel_rfl) ?_
            refine WL.newM hC385 (fun b => .pointer (some ⟨b, 0, none⟩)) (.cells #[.int .u32 0, .int .i64 0, .int .u32 0, .int .i64 0] 27) 15 (fun _ => by kernel_rfl) (fun g394 w395 hb398 hF396 hC397 => ?_)
            have ho399 := own_fr ho391 hF396 (by simp)
            have ho400 := own_fr ho392 hF396 (by simp)
            have ho401 := own_fr ho390 hF396 (by simp)
            refine WL.runs 1 [(14, .slice A386 ((rnX L e362.vip e362.first e362.dip now2).length) c387)] (fun _ => by kernel_rfl) ?_
            refine WL.storeM hC397 2 27 g394 0 (.agg #[.int .u32 ((rnL L e362.vip e362.first e362.dip now2).vip), .int .i64 ((rnL L e362.vip e362.first e362.dip now2).first), .int .u32 ((rnL L e362.vip e362.first e362.dip now2).dip), .int .i64 ((rnL L e362.vip e362.first e362.dip now2).exp)]) (by kernel_rfl) rfl rfl (fun w402 hF404 hC405 => ?_)
            have ho406 := own_fr ho399 hF404 (hC397.apartM 0 2 rfl rfl)
            have ho407 := own_fr ho400 hF404 (hC397.apartM 1 2 rfl rfl)
            have ho408 := own_fr ho401 hF404 (hC397.apartM 2 2 rfl rfl)
            refine WL.runs 1 [(16, errV 32 (rnE L e362.vip e362.first e362.dip now2))] (fun _ => by kernel_rfl) ?_
            refine WL.done rfl ?_
            refine QX.then_normal (hK381 _ _ ?_)
            refine WC.seq (fun K409 hK410 => ?_)
            refine WC.seq (fun K411 hK412 => ?_)
            refine WC.region ?_
            refine WL.runs 1 [(110, .pointer (some ⟨g367, 3, none⟩))] (fun _ => by kernel_rfl) ?_
            refine WL.load 3 (.pointer (some ⟨g367, 3, none⟩)) (.int .i64 e362.exp) 111 (by kernel_rfl) (run_ld (hC405.get 1 rfl) rfl) ?_
            refine WL.runs 3 [(114, .bool (decide (e362.exp ≥ now2))), (113, .bool (decide (e362.exp ≥ now2))), (112, .int .i64 now2)] (fun _ => by kernel_rfl) ?_
            refine WL.test_at 114 (decide (e362.exp ≥ now2)) rfl (fun t413b => ?_) (fun t413b => ?_)
            · -- e362.exp ≥ now2: true
              have t413 : now2 ≤ e362.exp := by have q_ := of_decide_eq_true t413b; omega
              refine WL.runs 1 [(115, errV 32 (rnE L e362.vip e362.first e362.dip now2))] (fun _ => by kernel_rfl) ?_
              have hr414 : ∀ w_, Sem.run Tryd.prog (do eqGuard .neq 29 (Operand.tmp 115) (Operand.const (.nilIface)) (errV 32 (rnE L e362.vip e362.first e362.dip now2)) (.nilIface); binOp .neq 29 (errV 32 (rnE L e362.vip e362.first e362.dip now2)) (.nilIface)) w_ = .ok (.bool (!(decide (rnE L e362.vip e362.first e362.dip now2 = 0)))) w_ := fun w_ => (err_neq _ (rnE L e362.vip e362.first e362.dip now2) (decide (rnE L e362.vip e362.first e362.dip now2 = 0)) (by rfl) _)
              refine WL.sem (do eqGuard .neq 29 (Operand.tmp 115) (Operand.const (.nilIface)) (errV 32 (rnE L e362.vip e362.first e362.dip now2)) (.nilIface); binOp .neq 29 (errV 32 (rnE L e362.vip e362.first e362.dip now2)) (.nilIface)) 116 (.bool (!(decide (rnE L e362.vip e362.first e362.dip now2 = 0)))) (by kernel_rfl) (hr414 _) ?_
              refine WL.runs 1 [(117, .bool (!(decide (rnE L e362.vip e362.first e362.dip now2 = 0))))] (fun _ => by kernel_rfl) ?_
              refine WL.done rfl ?_
              refine QX.then_normal (hK412 _ _ ?_)
              refine WC.know 117 (.bool (!(decide (rnE L e362.vip e362.first e362.dip now2 = 0)))) (.bool false) rfl (congrArg Value.bool (by rw [alone_renew_ok hal2 (by omega) (by omega) (List.mem_of_getElem? he363) (by omega)]; rfl)) ?_
              refine WC.cond_false rfl ?_
              refine WC.skip ?_
              refine QX.then_normal (hK410 _ _ ?_)
              refine WC.seq (fun K415 hK416 => ?_)
              refine WC.region ?_
              refine WL.runs 1 [(118, errV 32 (rnE L e362.vip e362.first e362.dip now2))] (fun _ => by kernel_rfl) ?_
              have hr417 : ∀ w_, Sem.run Tryd.prog (do eqGuard .eql 29 (Operand.tmp 118) (Operand.const (.nilIface)) (errV 32 (rnE L e362.vip e362.first e362.dip now2)) (.nilIface); binOp .eql 29 (errV 32 (rnE L e362.vip e362.first e362.dip now2)) (.nilIface)) w_ = .ok (.bool (decide (rnE L e362.vip e362.first e362.dip now2 = 0))) w_ := fun w_ => (err_eql _ (rnE L e362.vip e362.first e362.dip now2) (decide (rnE L e362.vip e362.first e362.dip now2 = 0)) (by rfl) _)
              refine WL.sem (do eqGuard .eql 29 (Operand.tmp 118) (Operand.const (.nilIface)) (errV 32 (rnE L e362.vip e362.first e362.dip now2)) (.nilIface); binOp .eql 29 (errV 32 (rnE L e362.vip e362.first e362.dip now2)) (.nilIface)) 119 (.bool (decide (rnE L e362.vip e362.first e362.dip now2 = 0))) (by kernel_rfl) (hr417 _) ?_
              refine WL.done rfl ?_
              refine QX.then_normal (hK416 _ _ ?_)
              refine WC.test_at 119 (decide (rnE L e362.vip e362.first e362.dip now2 = 0)) rfl (fun t418b => ?_) (fun t418b => ?_)
              · -- (decide (rnE L e362.vip e362.first e362.dip now2 = 0)) = true: true
                refine WC.cond_true rfl ?_
                refine WC.region ?_
                refine WL.runs 2 [(121, .slice A4 n4 c4), (120, .slice A386 ((rnX L e362.vip e362.first e362.dip now2).length) c387)] (fun _ => by kernel_rfl) ?_
                refine WL.load 27 (.pointer (some ⟨g394, 0, none⟩)) (.agg #[.int .u32 ((rnL L e362.vip e362.first e362.dip now2).vip), .int .i64 ((rnL L e362.vip e362.first e362.dip now2).first), .int .u32 ((rnL L e362.vip e362.first e362.dip now2).dip), .int .i64 ((rnL L e362.vip e362.first e362.dip now2).exp)]) 122 (by kernel_rfl) (run_ld (hC405.get 2 rfl) rfl) ?_
                refine WL.newM hC405 (fun b => .slice (some ⟨b, 0, none⟩) 1 1) (.cells #[.int .u32 ((rnL L e362.vip e362.first e362.dip now2).vip), .int .i64 ((rnL L e362.vip e362.first e362.dip now2).first), .int .u32 ((rnL L e362.vip e362.first e362.dip now2).dip), .int .i64 ((rnL L e362.vip e362.first e362.dip now2).exp)] 27) 123 (fun _ => by kernel_rfl) (fun g419 w420 hb423 hF421 hC422 => ?_)
                have ho424 := own_fr ho406 hF421 (by simp)
                have ho425 := own_fr ho407 hF421 (by simp)
                have ho426 := own_fr ho408 hF421 (by simp)
                obtain ⟨v427, w428, hr429, ho430, hF431, hC432, hnil433, hsub434⟩ := app_run Tryd.prog hC422 0 (v := .slice A4 n4 c4) rfl 25 25 27 4 32 n4 1 1 (some ⟨g419, 0, none⟩) rfl ho424 [.int .u32 ((rnL L e362.vip e362.first e362.dip now2).vip), .int .i64 ((rnL L e362.vip e362.first e362.dip now2).first), .int .u32 ((rnL L e362.vip e362.first e362.dip now2).dip), .int .i64 ((rnL L e362.vip e362.first e362.dip now2).exp)] rfl (srcOk.blk 1 (hC422.get 3 rfl)) rfl (by simp only [maxLen]; omega) (by omega)
                have ho438 := own_snoc (enc := encL) (ys := G) (rnL L e362.vip e362.first e362.dip now2) ho430
                obtain ⟨A435, c436, rfl, hle437⟩ := own_form ho438
                refine WL.sem (Builtin.append_ #[25, 25] 25 #[.slice A4 n4 c4, .slice (some ⟨g419, 0, none⟩) 1 1]) 124 (.slice A435 (n4 + 1) c436) (by kernel_rfl) hr429 ?_
                have ho439 := own_fr ho425 hF431 (hC422.disj 1 0 rfl rfl (by decide))
                have ho440 := own_fr ho426 hF431 (hC422.disj 2 0 rfl rfl (by decide))
                refine WL.runs 2 [(4, .slice A435 (n4 + 1) c436), (3, .slice A386 ((rnX L e362.vip e362.first e362.dip now2).length) c387)] (fun _ => by kernel_rfl) ?_
                refine WL.done rfl ?_
                refine QX.block_normal ?_
                refine QX.then_normal (hK72 _ _ ?_)
                refine WC.seq (fun K441 hK442 => ?_)
                refine WC.region ?_
                refine WL.runs 3 [(127, .int .i64 0), (126, .int .i64 (n4 + 1 : Int)), (125, .slice A435 (n4 + 1) c436)] (fun _ => by kernel_rfl) ?_
                refine WL.done rfl ?_
                refine QX.then_normal (hK442 _ _ ?_)
                refine WC.block ?_
                have hl_ := rnX_len1 L e362.vip e362.first e362.dip now2
                have hal3 : Alone (rnX L e362.vip e362.first e362.dip now2) (G ++ [(rnL L e362.vip e362.first e362.dip now2)]) now2 := alone_renew hal2 (by simpa using t418b)
                have hcg_ := own_count encL_len (by decide) ho438
                refine WC.loop (fun m_ E_ w_ => ∃ (i3 : Nat), m_ = (n4 + 1) - i3 ∧ E_ = [(0, .slice A ops.length c), (3, .slice A386 ((rnX L e362.vip e362.first e362.dip now2).length) c387), (4, .slice A435 (n4 + 1) c436), (5, .int .i64 now2), (7, .pointer (some ⟨g56, 0, none⟩)), (27, .slice A ops.length c), (28, .int .i64 (ops.length : Int)), (29, .int .i64 (k : Int)), (125, .slice A435 (n4 + 1) c436), (126, .int .i64 (n4 + 1 : Int)), (127, .int .i64 (i3 : Int))] ∧ Cx w [] w_ [(g56, .cells #[.int .i64 e50.kind, .int .u32 e50.vip, .int .u32 e50.dip, .int .i64 e50.n, .int .i64 e50.wait] 54), (g367, .cells #[.int .u32 e362.vip, .int .i64 e362.first, .int .u32 e362.dip, .int .i64 e362.exp] 27), (g394, .cells #[.int .u32 ((rnL L e362.vip e362.first e362.dip now2).vip), .int .i64 ((rnL L e362.vip e362.first e362.dip now2).first), .int .u32 ((rnL L e362.vip e362.first e362.dip now2).dip), .int .i64 ((rnL L e362.vip e362.first e362.dip now2).exp)] 27), (g419, .cells #[.int .u32 ((rnL L e362.vip e362.first e362.dip now2).vip), .int .i64 ((rnL L e362.vip e362.first e362.dip now2).first), .int .u32 ((rnL L e362.vip e362.first e362.dip now2).dip), .int .i64 ((rnL L e362.vip e362.first e362.dip now2).exp)] 27)] [blk (.slice A435 (n4 + 1) c436), blk (.slice A3 L.length c3), blk (.slice A386 ((rnX L e362.vip e362.first e362.dip now2).length) c387)] ∧ World.ownsRow w_ 0 27 4 (.slice A435 (n4 + 1) c436) (n4 + 1) ((G ++ [(rnL L e362.vip e362.first e362.dip now2)]).flatMap encL) ∧ World.ownsRow w_ 0 27 4 (.slice A3 L.length c3) L.length (L.flatMap encL) ∧ World.ownsRow w_ 0 27 4 (.slice A386 ((rnX L e362.vip e362.first e362.dip now2).length) c387) ((rnX L e362.vip e362.first e362.dip now2).length) ((rnX L e362.vip e362.first e362.dip now2).flatMap encL) ∧ (i3 ≤ n4 + 1)) ⟨_, _, ⟨0, rfl, rfl, hC432, ho438, ho439, ho440, Nat.zero_le _⟩, sub_of ⟨rfl, rfl, rfl, rfl, rfl, rfl, rfl, rfl, rfl, rfl, rfl, trivial⟩⟩ (fun m446 E_ w447 K443 hK444 hI445 => ?_)
                obtain ⟨i3, rfl, rfl, hC448, rowG_m446, rowL_m446, row393_m446, hi3⟩ := hI445
                refine WC.seq (fun K449 hK450 => ?_)
                refine WC.region ?_
                refine WL.runs 1 [(128, .bool (decide ((i3 : Int) < (n4 + 1 : Int))))] (fun _ => by kernel_rfl) ?_
                refine WL.done rfl ?_
                refine QX.then_normal (hK450 _ _ ?_)
                refine WC.seq (fun K451 hK452 => ?_)
                refine WC.test_at 128 (decide ((i3 : Int) < (n4 + 1 : Int))) rfl (fun t453b => ?_) (fun t453b => ?_)
                · -- (i3 : Int) < (n4 + 1 : Int): true
                  have t453 : (i3 : Int) < (n4 + 1 : Int) := by have q_ := of_decide_eq_true t453b; omega
                  refine WC.cond_true rfl ?_
                  refine WC.skip ?_
                  refine QX.then_normal (hK452 _ _ ?_)
                  refine WC.seq (fun K454 hK455 => ?_)
                  refine WC.block ?_
                  refine WC.seq (fun K456 hK457 => ?_)
                  refine WC.region ?_
                  have hn462 := own_count encL_len (by decide) rowG_m446
                  obtain ⟨e458, he459⟩ := get_some (xs := G ++ [(rnL L e362.vip e362.first e362.dip now2)]) (i := i3) (by omega)
                  obtain ⟨b460, hA461⟩ := own_addr (by decide) encL_len rowG_m446 he459
                  refine WL.index A435 (n4 + 1) c436 129 .i64 (i3 : Int) b460 0 i3 4 (by kernel_rfl) hA461 (by omega) (by omega) (i3 * 4) (by first | (simp; done) | omega) ?_
                  refine WL.load 27 (.pointer (some ⟨b460, i3 * 4, none⟩)) (.agg #[.int .u32 e458.vip, .int .i64 e458.first, .int .u32 e458.dip, .int .i64 e458.exp]) 130 (by kernel_rfl) (run_rdN (l := [.int .u32 e458.vip, .int .i64 e458.first, .int .u32 e458.dip, .int .i64 e458.exp]) rfl rfl (fun j u hu => by have hq_ := Rd.cell (own_rd rowG_m446 encL_len (by decide)) hA461 he459 j u hu; simpa [Nat.add_assoc] using hq_)) ?_
                  refine WL.newM hC448 (fun b => .pointer (some ⟨b, 0, none⟩)) (.cells #[.int .u32 0, .int .i64 0, .int .u32 0, .int .i64 0] 27) 18 (fun _ => by kernel_rfl) (fun g463 w464 hb467 hF465 hC466 => ?_)
                  have ho468 := own_fr rowG_m446 hF465 (by simp)
                  have ho469 := own_fr rowL_m446 hF465 (by simp)
                  have ho470 := own_fr row393_m446 hF465 (by simp)
                  refine WL.storeM hC466 4 27 g463 0 (.agg #[.int .u32 e458.vip, .int .i64 e458.first, .int .u32 e458.dip, .int .i64 e458.exp]) (by kernel_rfl) rfl rfl (fun w471 hF473 hC474 => ?_)
                  have ho475 := own_fr ho468 hF473 (hC466.apartM 0 4 rfl rfl)
                  have ho476 := own_fr ho469 hF473 (hC466.apartM 1 4 rfl rfl)
                  have ho477 := own_fr ho470 hF473 (hC466.apartM 2 4 rfl rfl)
                  refine WL.done rfl ?_
                  refine QX.then_normal (hK457 _ _ ?_)
                  refine WC.seq (fun K478 hK479 => ?_)
                  refine WC.region ?_
                  refine WL.runs 2 [(133, .pointer (some ⟨g463, 0, none⟩)), (132, .slice A386 ((rnX L e362.vip e362.first e362.dip now2).length) c387)] (fun _ => by kernel_rfl) ?_
                  refine WL.load 23 (.pointer (some ⟨g463, 0, none⟩)) (.int .u32 e458.vip) 134 (by kernel_rfl) (run_ld (hC474.get 4 rfl) rfl) ?_
                  refine WL.runs 1 [(135, .pointer (some ⟨g463, 1, none⟩))] (fun _ => by kernel_rfl) ?_
                  refine WL.load 3 (.pointer (some ⟨g463, 1, none⟩)) (.int .i64 e458.first) 136 (by kernel_rfl) (run_ld (hC474.get 4 rfl) rfl) ?_
                  refine WL.runs 1 [(137, .int .i64 now2)] (fun _ => by kernel_rfl) ?_
                  obtain ⟨_, _, _, _, hf1_, hf2_, _⟩ := hal3.ok _ (List.mem_of_getElem? he459)
                  refine WL.call rfl rfl rfl rfl rfl (by kernel_rfl) (Find_ct A386 c387 (rnX L e362.vip e362.first e362.dip now2) e458.vip e458.first now2 w471 (own_rd ho477 encL_len (by decide)) hal3.okl (by first | omega | simp) (by omega)) ?_
                  rintro _ w481 ⟨rfl, hF480⟩
                  refine ⟨_, rfl, ?_⟩
                  have hC482 := hC474.call hF480
                  have ho483 := own_fr ho475 hF480 (by simp)
                  have ho484 := own_fr ho476 hF480 (by simp)
                  have ho485 := own_fr ho477 hF480 (by simp)
                  refine WL.runs 3 [(140, .bool (hasL ((rnX L e362.vip e362.first e362.dip now2).filter (findP e458.vip e458.first now2)))), (139, .agg #[.int .u32 ((headL ((rnX L e362.vip e362.first e362.dip now2).filter (findP e458.vip e458.first now2))).vip), .int .i64 ((headL ((rnX L e362.vip e362.first e362.dip now2).filter (findP e458.vip e458.first now2))).first), .int .u32 ((headL ((rnX L e362.vip e362.first e362.dip now2).filter (findP e458.vip e458.first now2))).dip), .int .i64 ((headL ((rnX L e362.vip e362.first e362.dip now2).filter (findP e458.vip e458.first now2))).exp)]), (131, .tuple #[.agg #[.int .u32 ((headL ((rnX L e362.vip e362.first e362.dip now2).filter (findP e458.vip e458.first now2))).vip), .int .i64 ((headL ((rnX L e362.vip e362.first e362.dip now2).filter (findP e458.vip e458.first now2))).first), .int .u32 ((headL ((rnX L e362.vip e362.first e362.dip now2).filter (findP e458.vip e458.first now2))).dip), .int .i64 ((headL ((rnX L e362.vip e362.first e362.dip now2).filter (findP e458.vip e458.first now2))).exp)], .bool (hasL ((rnX L e362.vip e362.first e362.dip now2).filter (findP e458.vip e458.first now2)))])] (fun _ => by kernel_rfl) ?_
                  refine WL.newM hC482 (fun b => .pointer (some ⟨b, 0, none⟩)) (.cells #[.int .u32 0, .int .i64 0, .int .u32 0, .int .i64 0] 27) 19 (fun _ => by kernel_rfl) (fun g486 w487 hb490 hF488 hC489 => ?_)
                  have ho491 := own_fr ho483 hF488 (by simp)
                  have ho492 := own_fr ho484 hF488 (by simp)
                  have ho493 := own_fr ho485 hF488 (by simp)
                  refine WL.storeM hC489 5 27 g486 0 (.agg #[.int .u32 ((headL ((rnX L e362.vip e362.first e362.dip now2).filter (findP e458.vip e458.first now2))).vip), .int .i64 ((headL ((rnX L e362.vip e362.first e362.dip now2).filter (findP e458.vip e458.first now2))).first), .int .u32 ((headL ((rnX L e362.vip e362.first e362.dip now2).filter (findP e458.vip e458.first now2))).dip), .int .i64 ((headL ((rnX L e362.vip e362.first e362.dip now2).filter (findP e458.vip e458.first now2))).exp)]) (by kernel_rfl) rfl rfl (fun w494 hF496 hC497 => ?_)
                  have ho498 := own_fr ho491 hF496 (hC489.apartM 0 5 rfl rfl)
                  have ho499 := own_fr ho492 hF496 (hC489.apartM 1 5 rfl rfl)
                  have ho500 := own_fr ho493 hF496 (hC489.apartM 2 5 rfl rfl)
                  refine WL.runs 1 [(20, .bool (hasL ((rnX L e362.vip e362.first e362.dip now2).filter (findP e458.vip e458.first now2))))] (fun _ => by kernel_rfl) ?_
                  refine WL.done rfl ?_
                  refine QX.then_normal (hK479 _ _ ?_)
                  refine WC.seq (fun K501 hK502 => ?_)
                  refine WC.seq (fun K503 hK504 => ?_)
                  refine WC.region ?_
                  refine WL.runs 1 [(141, .pointer (some ⟨g463, 3, none⟩))] (fun _ => by kernel_rfl) ?_
                  refine WL.load 3 (.pointer (some ⟨g463, 3, none⟩)) (.int .i64 e458.exp) 142 (by kernel_rfl) (run_ld (hC497.get 4 rfl) rfl) ?_
                  refine WL.runs 3 [(145, .bool (decide (e458.exp ≥ now2))), (144, .bool (decide (e458.exp ≥ now2))), (143, .int .i64 now2)] (fun _ => by kernel_rfl) ?_
                  refine WL.test_at 145 (decide (e458.exp ≥ now2)) rfl (fun t505b => ?_) (fun t505b => ?_)
                  · -- e458.exp ≥ now2: true
                    have t505 : now2 ≤ e458.exp := by have q_ := of_decide_eq_true t505b; omega
                    refine WL.runs 3 [(148, .bool (!(hasL ((rnX L e362.vip e362.first e362.dip now2).filter (findP e458.vip e458.first now2))))), (147, .bool (!(hasL ((rnX L e362.vip e362.first e362.dip now2).filter (findP e458.vip e458.first now2))))), (146, .bool (hasL ((rnX L e362.vip e362.first e362.dip now2).filter (findP e458.vip e458.first now2))))] (fun _ => by kernel_rfl) ?_
                    refine WL.know 148 (.bool (!(hasL ((rnX L e362.vip e362.first e362.dip now2).filter (findP e458.vip e458.first now2))))) (.bool false) rfl (congrArg Value.bool (by rw [(alone_find hal3 (List.mem_of_getElem? he459) (by omega)).1]; rfl)) ?_
                    refine WL.runs 1 [(149, .pointer (some ⟨g486, 2, none⟩))] (fun _ => by kernel_rfl) ?_
                    refine WL.load 23 (.pointer (some ⟨g486, 2, none⟩)) (.int .u32 ((headL ((rnX L e362.vip e362.first e362.dip now2).filter (findP e458.vip e458.first now2))).dip)) 150 (by kernel_rfl) (run_ld (hC497.get 5 rfl) rfl) ?_
                    refine WL.runs 1 [(151, .pointer (some ⟨g463, 2, none⟩))] (fun _ => by kernel_rfl) ?_
                    refine WL.load 23 (.pointer (some ⟨g463, 2, none⟩)) (.int .u32 e458.dip) 152 (by kernel_rfl) (run_ld (hC497.get 4 rfl) rfl) ?_
                    refine WL.runs 3 [(155, .bool (((headL ((rnX L e362.vip e362.first e362.dip now2).filter (findP e458.vip e458.first now2))).dip) != e458.dip)), (154, .bool (((headL ((rnX L e362.vip e362.first e362.dip now2).filter (findP e458.vip e458.first now2))).dip) != e458.dip)), (153, .bool (((headL ((rnX L e362.vip e362.first e362.dip now2).filter (findP e458.vip e458.first now2))).dip) != e458.dip))] (fun _ => by kernel_rfl) ?_
                    refine WL.know 155 (.bool (((headL ((rnX L e362.vip e362.first e362.dip now2).filter (findP e458.vip e458.first now2))).dip) != e458.dip)) (.bool false) rfl (congrArg Value.bool (by rw [(alone_find hal3 (List.mem_of_getElem? he459) (by omega)).2.1]; simp)) ?_
                    refine WL.runs 1 [(156, .pointer (some ⟨g486, 1, none⟩))] (fun _ => by kernel_rfl) ?_
                    refine WL.load 3 (.pointer (some ⟨g486, 1, none⟩)) (.int .i64 ((headL ((rnX L e362.vip e362.first e362.dip now2).filter (findP e458.vip e458.first now2))).first)) 157 (by kernel_rfl) (run_ld (hC497.get 5 rfl) rfl) ?_
                    refine WL.runs 1 [(158, .pointer (some ⟨g463, 1, none⟩))] (fun _ => by kernel_rfl) ?_
                    refine WL.load 3 (.pointer (some ⟨g463, 1, none⟩)) (.int .i64 e458.first) 159 (by kernel_rfl) (run_ld (hC497.get 4 rfl) rfl) ?_
                    refine WL.runs 3 [(162, .bool (((headL ((rnX L e362.vip e362.first e362.dip now2).filter (findP e458.vip e458.first now2))).first) != e458.first)), (161, .bool (((headL ((rnX L e362.vip e362.first e362.dip now2).filter (findP e458.vip e458.first now2))).first) != e458.first)), (160, .bool (((headL ((rnX L e362.vip e362.first e362.dip now2).filter (findP e458.vip e458.first now2))).first) != e458.first))] (fun _ => by kernel_rfl) ?_
                    refine WL.know 162 (.bool (((headL ((rnX L e362.vip e362.first e362.dip now2).filter (findP e458.vip e458.first now2))).first) != e458.first)) (.bool false) rfl (congrArg Value.bool (by rw [(alone_find hal3 (List.mem_of_getElem? he459) (by omega)).2.2.1]; simp)) ?_
                    refine WL.runs 1 [(163, .pointer (some ⟨g486, 3, none⟩))] (fun _ => by kernel_rfl) ?_
                    refine WL.load 3 (.pointer (some ⟨g486, 3, none⟩)) (.int .i64 ((headL ((rnX L e362.vip e362.first e362.dip now2).filter (findP e458.vip e458.first now2))).exp)) 164 (by kernel_rfl) (run_ld (hC497.get 5 rfl) rfl) ?_
                    refine WL.runs 1 [(165, .pointer (some ⟨g463, 3, none⟩))] (fun _ => by kernel_rfl) ?_
                    refine WL.load 3 (.pointer (some ⟨g463, 3, none⟩)) (.int .i64 e458.exp) 166 (by kernel_rfl) (run_ld (hC497.get 4 rfl) rfl) ?_
                    refine WL.runs 3 [(169, .bool (decide (((headL ((rnX L e362.vip e362.first e362.dip now2).filter (findP e458.vip e458.first now2))).exp) < e458.exp))), (168, .bool (decide (((headL ((rnX L e362.vip e362.first e362.dip now2).filter (findP e458.vip e458.first now2))).exp) < e458.exp))), (167, .bool (decide (((headL ((rnX L e362.vip e362.first e362.dip now2).filter (findP e458.vip e458.first now2))).exp) < e458.exp)))] (fun _ => by kernel_rfl) ?_
                    refine WL.done rfl ?_
                    refine QX.then_normal (hK504 _ _ ?_)
                    refine WC.know 169 (.bool (decide (((headL ((rnX L e362.vip e362.first e362.dip now2).filter (findP e458.vip e458.first now2))).exp) < e458.exp))) (.bool false) rfl (congrArg Value.bool (by exact decide_eq_false (by have q_ := (alone_find hal3 (List.mem_of_getElem? he459) (by omega)).2.2.2; omega))) ?_
                    refine WC.cond_false rfl ?_
                    refine WC.skip ?_
                    refine QX.then_normal (hK502 _ _ ?_)
                    refine WC.seq (fun K506 hK507 => ?_)
                    refine WC.region ?_
                    refine WL.runs 1 [(170, .pointer (some ⟨g463, 3, none⟩))] (fun _ => by kernel_rfl) ?_
                    refine WL.load 3 (.pointer (some ⟨g463, 3, none⟩)) (.int .i64 e458.exp) 171 (by kernel_rfl) (run_ld (hC497.get 4 rfl) rfl) ?_
                    refine WL.runs 3 [(174, .bool (decide (e458.exp ≥ now2))), (173, .bool (decide (e458.exp ≥ now2))), (172, .int .i64 now2)] (fun _ => by kernel_rfl) ?_
                    refine WL.know 174 (.bool (decide (e458.exp ≥ now2))) (.bool true) rfl (congrArg Value.bool (by exact t505b)) ?_
                    refine WL.runs 2 [(176, .pointer (some ⟨g463, 2, none⟩)), (175, .slice A386 ((rnX L e362.vip e362.first e362.dip now2).length) c387)] (fun _ => by kernel_rfl) ?_
                    refine WL.load 23 (.pointer (some ⟨g463, 2, none⟩)) (.int .u32 e458.dip) 177 (by kernel_rfl) (run_ld (hC497.get 4 rfl) rfl) ?_
                    refine WL.runs 1 [(178, .int .i64 now2)] (fun _ => by kernel_rfl) ?_
                    refine WL.call rfl rfl rfl rfl rfl (by kernel_rfl) (Of_ct A386 c387 (rnX L e362.vip e362.first e362.dip now2) e458.dip now2 w494 (own_rd ho500 encL_len (by decide)) hal3.okl (by first | omega | simp)) ?_
                    rintro _ w510 ⟨v_, rfl, hF509, ho508⟩
                    have hC511 := hC497.callN hF509 (own_ge ho508) (own_lt ho508)
                    obtain ⟨A512, c513, rfl, hle514⟩ := own_form ho508
                    have ho516 := own_base (b' := 0) ho508 (fun _ _ => Nat.zero_le _)
                    refine ⟨_, rfl, ?_⟩
                    have ho517 := own_fr ho498 hF509 (by simp)
                    have ho518 := own_fr ho499 hF509 (by simp)
                    have ho519 := own_fr ho500 hF509 (by simp)
                    refine WL.runs 3 [(182, .bool (decide ((((rnX L e362.vip e362.first e362.dip now2).filter (ofP e458.dip now2)).length : Int) > 4))), (181, .bool (decide ((((rnX L e362.vip e362.first e362.dip now2).filter (ofP e458.dip now2)).length : Int) > 4))), (180, .int .i64 (((rnX L e362.vip e362.first e362.dip now2).filter (ofP e458.dip now2)).length : Int))] (fun _ => by kernel_rfl) ?_
                    refine WL.done rfl ?_
                    refine QX.then_normal (hK507 _ _ ?_)
                    refine WC.know 182 (.bool (decide ((((rnX L e362.vip e362.first e362.dip now2).filter (ofP e458.dip now2)).length : Int) > 4))) (.bool false) rfl (congrArg Value.bool (by exact decide_eq_false (by have q_ := alone_of hal3 e458.dip; omega))) ?_
                    refine WC.cond_false rfl ?_
                    refine WC.skip ?_
                    refine QX.block_normal ?_
                    refine QX.then_normal (hK455 _ _ ?_)
                    refine WC.region ?_
                    refine WL.runs 1 [(183, .int .i64 (IntKind.i64.wrap ((i3 : Int) + 1)))] (fun _ => by kernel_rfl) ?_
                    refine WL.recast (show (.int .i64 (IntKind.i64.wrap ((i3 : Int) + 1)) : Value) = .int .i64 ((i3 : Int) + 1) from by rw [wrap_in_i64 ((i3 : Int) + 1) (by omega) (by omega)]) ?_
                    refine WL.runs 1 [(127, .int .i64 ((i3 : Int) + 1))] (fun _ => by kernel_rfl) ?_
                    refine WL.done rfl ?_
                    refine QX.then_normal ?_
                    have hC521 := hC511.pick [0, 1, 2, 3] [0, 1, 2] rfl rfl
                    refine fun a_ ha_ => hK444 _ _ _ ?_ ⟨i3 + 1, rfl, rfl, hC521, ho517, ho518, ho519, by omega⟩ a_ (ha_.weaken (sub_of ⟨rfl, rfl, rfl, rfl, rfl, rfl, rfl, rfl, rfl, rfl, rfl, trivial⟩))
                    omega
                  · -- e458.exp ≥ now2: false
                    have t505 : e458.exp < now2 := by have q_ := of_decide_eq_false t505b; omega
                    refine WL.runs 24 [(169, .bool false), (168, undef), (167, undef), (166, undef), (165, undef), (164, undef), (163, undef), (162, undef), (161, undef), (160, undef), (159, undef), (158, undef), (157, undef), (156, undef), (155, undef), (154, undef), (153, undef), (152, undef), (151, undef), (150, undef), (149, undef), (148, undef), (147, undef), (146, undef)] (fun _ => by kernel_rfl) ?_
                    refine WL.done rfl ?_
                    refine QX.then_normal (hK504 _ _ ?_)
                    refine WC.cond_false rfl ?_
                    refine WC.skip ?_
                    refine QX.then_normal (hK502 _ _ ?_)
                    refine WC.seq (fun K522 hK523 => ?_)
                    refine WC.region ?_
                    refine WL.runs 1 [(170, .pointer (some ⟨g463, 3, none⟩))] (fun _ => by kernel_rfl) ?_
                    refine WL.load 3 (.pointer (some ⟨g463, 3, none⟩)) (.int .i64 e458.exp) 171 (by kernel_rfl) (run_ld (hC497.get 4 rfl) rfl) ?_
                    refine WL.runs 3 [(174, .bool (decide (e458.exp ≥ now2))), (173, .bool (decide (e458.exp ≥ now2))), (172, .int .i64 now2)] (fun _ => by kernel_rfl) ?_
                    refine WL.know 174 (.bool (decide (e458.exp ≥ now2))) (.bool false) rfl (congrArg Value.bool (by exact t505b)) ?_
                    refine WL.runs 8 [(182, .bool false), (181, undef), (180, undef), (179, undef), (178, undef), (177, undef), (176, undef), (175, undef)] (fun _ => by kernel_rfl) ?_
                    refine WL.done rfl ?_
                    refine QX.then_normal (hK523 _ _ ?_)
                    refine WC.cond_false rfl ?_
                    refine WC.skip ?_
                    refine QX.block_normal ?_
                    refine QX.then_normal (hK455 _ _ ?_)
                    refine WC.region ?_
                    refine WL.runs 1 [(183, .int .i64 (IntKind.i64.wrap ((i3 : Int) + 1)))] (fun _ => by kernel_rfl) ?_
                    refine WL.recast (show (.int .i64 (IntKind.i64.wrap ((i3 : Int) + 1)) : Value) = .int .i64 ((i3 : Int) + 1) from by rw [wrap_in_i64 ((i3 : Int) + 1) (by omega) (by omega)]) ?_
                    refine WL.runs 1 [(127, .int .i64 ((i3 : Int) + 1))] (fun _ => by kernel_rfl) ?_
                    refine WL.done rfl ?_
                    refine QX.then_normal ?_
                    have hC524 := hC497.pick [0, 1, 2, 3] [0, 1, 2] rfl rfl
                    refine fun a_ ha_ => hK444 _ _ _ ?_ ⟨i3 + 1, rfl, rfl, hC524, ho498, ho499, ho500, by omega⟩ a_ (ha_.weaken (sub_of ⟨rfl, rfl, rfl, rfl, rfl, rfl, rfl, rfl, rfl, rfl, rfl, trivial⟩))
                    omega
                · -- (i3 : Int) < (n4 + 1 : Int): false
                  have t453 : (n4 + 1 : Int) ≤ (i3 : Int) := by have q_ := of_decide_eq_false t453b; omega
                  refine WC.cond_false rfl ?_
                  refine WC.exit ?_
                  refine QX.then_exit ?_
                  refine QX.then_exit ?_
                  refine QX.block_hit ?_
                  refine QX.block_normal ?_
                  refine QX.then_normal (hK47 _ _ ?_)
                  refine WC.region ?_
                  refine WL.runs 1 [(184, .int .i64 (IntKind.i64.wrap ((k : Int) + 1)))] (fun _ => by kernel_rfl) ?_
                  refine WL.recast (show (.int .i64 (IntKind.i64.wrap ((k : Int) + 1)) : Value) = .int .i64 ((k : Int) + 1) from by rw [wrap_in_i64 ((k : Int) + 1) (by omega) (by omega)]) ?_
                  refine WL.runs 1 [(29, .int .i64 ((k : Int) + 1))] (fun _ => by kernel_rfl) ?_
                  refine WL.done rfl ?_
                  refine QX.then_normal ?_
                  have hC525 := hC448.pick [] [0, 2] rfl rfl
                  refine fun a_ ha_ => hK36 _ _ _ ?_ ⟨k + 1, A386, c387, A435, n4 + 1, c436, (rnX L e362.vip e362.first e362.dip now2), (G ++ [(rnL L e362.vip e362.first e362.dip now2)]), now2, rfl, rfl, hC525, rowG_m446, row393_m446, by omega, by omega, by omega, by omega, by omega, hal3⟩ a_ (ha_.weaken (sub_of ⟨rfl, rfl, rfl, rfl, rfl, rfl, rfl, trivial⟩))
                  omega
              · -- (decide (rnE L e362.vip e362.first e362.dip now2 = 0)) = true: false
                refine WC.cond_false rfl ?_
                refine WC.skip ?_
                refine QX.block_normal ?_
                refine QX.then_normal (hK72 _ _ ?_)
                refine WC.seq (fun K526 hK527 => ?_)
                refine WC.region ?_
                refine WL.runs 3 [(127, .int .i64 0), (126, .int .i64 (n4 : Int)), (125, .slice A4 n4 c4)] (fun _ => by kernel_rfl) ?_
                refine WL.done rfl ?_
                refine QX.then_normal (hK527 _ _ ?_)
                refine WC.block ?_
                have hal3 : Alone L G now2 := hal2
                have hcg_ := own_count encL_len (by decide) ho406
                refine WC.loop (fun m_ E_ w_ => ∃ (i3 : Nat), m_ = n4 - i3 ∧ E_ = [(0, .slice A ops.length c), (3, .slice A3 L.length c3), (4, .slice A4 n4 c4), (5, .int .i64 now2), (7, .pointer (some ⟨g56, 0, none⟩)), (27, .slice A ops.length c), (28, .int .i64 (ops.length : Int)), (29, .int .i64 (k : Int)), (125, .slice A4 n4 c4), (126, .int .i64 (n4 : Int)), (127, .int .i64 (i3 : Int))] ∧ Cx w [] w_ [(g56, .cells #[.int .i64 e50.kind, .int .u32 e50.vip, .int .u32 e50.dip, .int .i64 e50.n, .int .i64 e50.wait] 54), (g367, .cells #[.int .u32 e362.vip, .int .i64 e362.first, .int .u32 e362.dip, .int .i64 e362.exp] 27), (g394, .cells #[.int .u32 ((rnL L e362.vip e362.first e362.dip now2).vip), .int .i64 ((rnL L e362.vip e362.first e362.dip now2).first), .int .u32 ((rnL L e362.vip e362.first e362.dip now2).dip), .int .i64 ((rnL L e362.vip e362.first e362.dip now2).exp)] 27)] [blk (.slice A4 n4 c4), blk (.slice A3 L.length c3), blk (.slice A386 ((rnX L e362.vip e362.first e362.dip now2).length) c387)] ∧ World.ownsRow w_ 0 27 4 (.slice A4 n4 c4) n4 (G.flatMap encL) ∧ World.ownsRow w_ 0 27 4 (.slice A3 L.length c3) L.length (L.flatMap encL) ∧ World.ownsRow w_ 0 27 4 (.slice A386 ((rnX L e362.vip e362.first e362.dip now2).length) c387) ((rnX L e362.vip e362.first e362.dip now2).length) ((rnX L e362.vip e362.first e362.dip now2).flatMap encL) ∧ (i3 ≤ n4)) ⟨_, _, ⟨0, rfl, rfl, hC405, ho406, ho407, ho408, Nat.zero_le _⟩, sub_of ⟨rfl, rfl, rfl, rfl, rfl, rfl, rfl, rfl, rfl, rfl, rfl, trivial⟩⟩ (fun m531 E_ w532 K528 hK529 hI530 => ?_)
                obtain ⟨i3, rfl, rfl, hC533, rowG_m531, rowL_m531, row393_m531, hi3⟩ := hI530
                refine WC.seq (fun K534 hK535 => ?_)
                refine WC.region ?_
                refine WL.runs 1 [(128, .bool (decide ((i3 : Int) < (n4 : Int))))] (fun _ => by kernel_rfl) ?_
                refine WL.done rfl ?_
                refine QX.then_normal (hK535 _ _ ?_)
                refine WC.seq (fun K536 hK537 => ?_)
                refine WC.test_at 128 (decide ((i3 : Int) < (n4 : Int))) rfl (fun t538b => ?_) (fun t538b => ?_)
                · -- (i3 : Int) < (n4 : Int): true
                  have t538 : (i3 : Int) < (n4 : Int) := by have q_ := of_decide_eq_true t538b; omega
                  refine WC.cond_true rfl ?_
                  refine WC.skip ?_
                  refine QX.then_normal (hK537 _ _ ?_)
                  refine WC.seq (fun K539 hK540 => ?_)
                  refine WC.block ?_
                  refine WC.seq (fun K541 hK542 => ?_)
                  refine WC.region ?_
                  have hn547 := own_count encL_len (by decide) rowG_m531
                  obtain ⟨e543, he544⟩ := get_some (xs := G) (i := i3) (by omega)
                  obtain ⟨b545, hA546⟩ := own_addr (by decide) encL_len rowG_m531 he544
                  refine WL.index A4 n4 c4 129 .i64 (i3 : Int) b545 0 i3 4 (by kernel_rfl) hA546 (by omega) (by omega) (i3 * 4) (by first | (simp; done) | omega) ?_
                  refine WL.load 27 (.pointer (some ⟨b545, i3 * 4, none⟩)) (.agg #[.int .u32 e543.vip, .int .i64 e543.first, .int .u32 e543.dip, .int .i64 e543.exp]) 130 (by kernel_rfl) (run_rdN (l := [.int .u32 e543.vip, .int .i64 e543.first, .int .u32 e543.dip, .int .i64 e543.exp]) rfl rfl (fun j u hu => by have hq_ := Rd.cell (own_rd rowG_m531 encL_len (by decide)) hA546 he544 j u hu; simpa [Nat.add_assoc] using hq_)) ?_
                  refine WL.newM hC533 (fun b => .pointer (some ⟨b, 0, none⟩)) (.cells #[.int .u32 0, .int .i64 0, .int .u32 0, .int .i64 0] 27) 18 (fun _ => by kernel_rfl) (fun g548 w549 hb552 hF550 hC551 => ?_)
                  have ho553 := own_fr rowG_m531 hF550 (by simp)
                  have ho554 := own_fr rowL_m531 hF550 (by simp)
                  have ho555 := own_fr row393_m531 hF550 (by simp)
                  refine WL.storeM hC551 3 27 g548 0 (.agg #[.int .u32 e543.vip, .int .i64 e543.first, .int .u32 e543.dip, .int .i64 e543.exp]) (by kernel_rfl) rfl rfl (fun w556 hF558 hC559 => ?_)
                  have ho560 := own_fr ho553 hF558 (hC551.apartM 0 3 rfl rfl)
                  have ho561 := own_fr ho554 hF558 (hC551.apartM 1 3 rfl rfl)
                  have ho562 := own_fr ho555 hF558 (hC551.apartM 2 3 rfl rfl)
                  refine WL.done rfl ?_
                  refine QX.then_normal (hK542 _ _ ?_)
                  refine WC.seq (fun K563 hK564 => ?_)
                  refine WC.region ?_
                  refine WL.runs 2 [(133, .pointer (some ⟨g548, 0, none⟩)), (132, .slice A3 L.length c3)] (fun _ => by kernel_rfl) ?_
                  refine WL.load 23 (.pointer (some ⟨g548, 0, none⟩)) (.int .u32 e543.vip) 134 (by kernel_rfl) (run_ld (hC559.get 3 rfl) rfl) ?_
                  refine WL.runs 1 [(135, .pointer (some ⟨g548, 1, none⟩))] (fun _ => by kernel_rfl) ?_
                  refine WL.load 3 (.pointer (some ⟨g548, 1, none⟩)) (.int .i64 e543.first) 136 (by kernel_rfl) (run_ld (hC559.get 3 rfl) rfl) ?_
                  refine WL.runs 1 [(137, .int .i64 now2)] (fun _ => by kernel_rfl) ?_
                  obtain ⟨_, _, _, _, hf1_, hf2_, _⟩ := hal3.ok _ (List.mem_of_getElem? he544)
                  refine WL.call rfl rfl rfl rfl rfl (by kernel_rfl) (Find_ct A3 c3 L e543.vip e543.first now2 w556 (own_rd ho561 encL_len (by decide)) (by first | exact hal3.okl | exact hal2.okl | exact hal.okl) (by first | omega | simp) (by omega)) ?_
                  rintro _ w566 ⟨rfl, hF565⟩
                  refine ⟨_, rfl, ?_⟩
                  have hC567 := hC559.call hF565
                  have ho568 := own_fr ho560 hF565 (by simp)
                  have ho569 := own_fr ho561 hF565 (by simp)
                  have ho570 := own_fr ho562 hF565 (by simp)
                  refine WL.runs 3 [(140, .bool (hasL (L.filter (findP e543.vip e543.first now2)))), (139, .agg #[.int .u32 ((headL (L.filter (findP e543.vip e543.first now2))).vip), .int .i64 ((headL (L.filter (findP e543.vip e543.first now2))).first), .int .u32 ((headL (L.filter (findP e543.vip e543.first now2))).dip), .int .i64 ((headL (L.filter (findP e543.vip e543.first now2))).exp)]), (131, .tuple #[.agg #[.int .u32 ((headL (L.filter (findP e543.vip e543.first now2))).vip), .int .i64 ((headL (L.filter (findP e543.vip e543.first now2))).first), .int .u32 ((headL (L.filter (findP e543.vip e543.first now2))).dip), .int .i64 ((headL (L.filter (findP e543.vip e543.first now2))).exp)], .bool (hasL (L.filter (findP e543.vip e543.first now2)))])] (fun _ => by kernel_rfl) ?_
                  refine WL.newM hC567 (fun b => .pointer (some ⟨b, 0, none⟩)) (.cells #[.int .u32 0, .int .i64 0, .int .u32 0, .int .i64 0] 27) 19 (fun _ => by kernel_rfl) (fun g571 w572 hb575 hF573 hC574 => ?_)
                  have ho576 := own_fr ho568 hF573 (by simp)
                  have ho577 := own_fr ho569 hF573 (by simp)
                  have ho578 := own_fr ho570 hF573 (by simp)
                  refine WL.storeM hC574 4 27 g571 0 (.agg #[.int .u32 ((headL (L.filter (findP e543.vip e543.first now2))).vip), .int .i64 ((headL (L.filter (findP e543.vip e543.first now2))).first), .int .u32 ((headL (L.filter (findP e543.vip e543.first now2))).dip), .int .i64 ((headL (L.filter (findP e543.vip e543.first now2))).exp)]) (by kernel_rfl) rfl rfl (fun w579 hF581 hC582 => ?_)
                  have ho583 := own_fr ho576 hF581 (hC574.apartM 0 4 rfl rfl)
                  have ho584 := own_fr ho577 hF581 (hC574.apartM 1 4 rfl rfl)
                  have ho585 := own_fr ho578 hF581 (hC574.apartM 2 4 rfl rfl)
                  refine WL.runs 1 [(20, .bool (hasL (L.filter (findP e543.vip e543.first now2))))] (fun _ => by kernel_rfl) ?_
                  refine WL.done rfl ?_
                  refine QX.then_normal (hK564 _ _ ?_)
                  refine WC.seq (fun K586 hK587 => ?_)
                  refine WC.seq (fun K588 hK589 => ?_)
                  refine WC.region ?_
                  refine WL.runs 1 [(141, .pointer (some ⟨g548, 3, none⟩))] (fun _ => by kernel_rfl) ?_
                  refine WL.load 3 (.pointer (some ⟨g548, 3, none⟩)) (.int .i64 e543.exp) 142 (by kernel_rfl) (run_ld (hC582.get 3 rfl) rfl) ?_
                  refine WL.runs 3 [(145, .bool (decide (e543.exp ≥ now2))), (144, .bool (decide (e543.exp ≥ now2))), (143, .int .i64 now2)] (fun _ => by kernel_rfl) ?_
                  refine WL.test_at 145 (decide (e543.exp ≥ now2)) rfl (fun t590b => ?_) (fun t590b => ?_)
                  · -- e543.exp ≥ now2: true
                    have t590 : now2 ≤ e543.exp := by have q_ := of_decide_eq_true t590b; omega
                    refine WL.runs 3 [(148, .bool (!(hasL (L.filter (findP e543.vip e543.first now2))))), (147, .bool (!(hasL (L.filter (findP e543.vip e543.first now2))))), (146, .bool (hasL (L.filter (findP e543.vip e543.first now2))))] (fun _ => by kernel_rfl) ?_
                    refine WL.know 148 (.bool (!(hasL (L.filter (findP e543.vip e543.first now2))))) (.bool false) rfl (congrArg Value.bool (by rw [(alone_find hal3 (List.mem_of_getElem? he544) (by omega)).1]; rfl)) ?_
                    refine WL.runs 1 [(149, .pointer (some ⟨g571, 2, none⟩))] (fun _ => by kernel_rfl) ?_
                    refine WL.load 23 (.pointer (some ⟨g571, 2, none⟩)) (.int .u32 ((headL (L.filter (findP e543.vip e543.first now2))).dip)) 150 (by kernel_rfl) (run_ld (hC582.get 4 rfl) rfl) ?_
                    refine WL.runs 1 [(151, .pointer (some ⟨g548, 2, none⟩))] (fun _ => by kernel_rfl) ?_
                    refine WL.load 23 (.pointer (some ⟨g548, 2, none⟩)) (.int .u32 e543.dip) 152 (by kernel_rfl) (run_ld (hC582.get 3 rfl) rfl) ?_
                    refine WL.runs 3 [(155, .bool (((headL (L.filter (findP e543.vip e543.first now2))).dip) != e543.dip)), (154, .bool (((headL (L.filter (findP e543.vip e543.first now2))).dip) != e543.dip)), (153, .bool (((headL (L.filter (findP e543.vip e543.first now2))).dip) != e543.dip))] (fun _ => by kernel_rfl) ?_
                    refine WL.know 155 (.bool (((headL (L.filter (findP e543.vip e543.first now2))).dip) != e543.dip)) (.bool false) rfl (congrArg Value.bool (by rw [(alone_find hal3 (List.mem_of_getElem? he544) (by omega)).2.1]; simp)) ?_
                    refine WL.runs 1 [(156, .pointer (some ⟨g571, 1, none⟩))] (fun _ => by kernel_rfl) ?_
                    refine WL.load 3 (.pointer (some ⟨g571, 1, none⟩)) (.int .i64 ((headL (L.filter (findP e543.vip e543.first now2))).first)) 157 (by kernel_rfl) (run_ld (hC582.get 4 rfl) rfl) ?_
                    refine WL.runs 1 [(158, .pointer (some ⟨g548, 1, none⟩))] (fun _ => by kernel_rfl) ?_
                    refine WL.load 3 (.pointer (some ⟨g548, 1, none⟩)) (.int .i64 e543.first) 159 (by kernel_rfl) (run_ld (hC582.get 3 rfl) rfl) ?_
                    refine WL.runs 3 [(162, .bool (((headL (L.filter (findP e543.vip e543.first now2))).first) != e543.first)), (161, .bool (((headL (L.filter (findP e543.vip e543.first now2))).first) != e543.first)), (160, .bool (((headL (L.filter (findP e543.vip e543.first now2))).first) != e543.first))] (fun _ => by kernel_rfl) ?_
                    refine WL.know 162 (.bool (((headL (L.filter (findP e543.vip e543.first now2))).first) != e543.first)) (.bool false) rfl (congrArg Value.bool (by rw [(alone_find hal3 (List.mem_of_getElem? he544) (by omega)).2.2.1]; simp)) ?_
                    refine WL.runs 1 [(163, .pointer (some ⟨g571, 3, none⟩))] (fun _ => by kernel_rfl) ?_
                    refine WL.load 3 (.pointer (some ⟨g571, 3, none⟩)) (.int .i64 ((headL (L.filter (findP e543.vip e543.first now2))).exp)) 164 (by kernel_rfl) (run_ld (hC582.get 4 rfl) rfl) ?_
                    refine WL.runs 1 [(165, .pointer (some ⟨g548, 3, none⟩))] (fun _ => by kernel_rfl) ?_
                    refine WL.load 3 (.pointer (some ⟨g548, 3, none⟩)) (.int .i64 e543.exp) 166 (by kernel_rfl) (run_ld (hC582.get 3 rfl) rfl) ?_
                    refine WL.runs 3 [(169, .bool (decide (((headL (L.filter (findP e543.vip e543.first now2))).exp) < e543.exp))), (168, .bool (decide (((headL (L.filter (findP e543.vip e543.first now2))).exp) < e543.exp))), (167, .bool (decide (((headL (L.filter (findP e543.vip e543.first now2))).exp) < e543.exp)))] (fun _ => by kernel_rfl) ?_
                    refine WL.done rfl ?_
                    refine QX.then_normal (hK589 _ _ ?_)
                    refine WC.know 169 (.bool (decide (((headL (L.filter (findP e543.vip e543.first now2))).exp) < e543.exp))) (.bool false) rfl (congrArg Value.bool (by exact decide_eq_false (by have q_ := (alone_find hal3 (List.mem_of_getElem? he544) (by omega)).2.2.2; omega))) ?_
                    refine WC.cond_false rfl ?_
                    refine WC.skip ?_
                    refine QX.then_normal (hK587 _ _ ?_)
                    refine WC.seq (fun K591 hK592 => ?_)
                    refine WC.region ?_
                    refine WL.runs 1 [(170, .pointer (some ⟨g548, 3, none⟩))] (fun _ => by kernel_rfl) ?_
                    refine WL.load 3 (.pointer (some ⟨g548, 3, none⟩)) (.int .i64 e543.exp) 171 (by kernel_rfl) (run_ld (hC582.get 3 rfl) rfl) ?_
                    refine WL.runs 3 [(174, .bool (decide (e543.exp ≥ now2))), (173, .bool (decide (e543.exp ≥ now2))), (172, .int .i64 now2)] (fun _ => by kernel_rfl) ?_
                    refine WL.know 174 (.bool (decide (e543.exp ≥ now2))) (.bool true) rfl (congrArg Value.bool (by exact t590b)) ?_
                    refine WL.runs 2 [(176, .pointer (some ⟨g548, 2, none⟩)), (175, .slice A3 L.length c3)] (fun _ => by kernel_rfl) ?_
                    refine WL.load 23 (.pointer (some ⟨g548, 2, none⟩)) (.int .u32 e543.dip) 177 (by kernel_rfl) (run_ld (hC582.get 3 rfl) rfl) ?_
                    refine WL.runs 1 [(178, .int .i64 now2)] (fun _ => by kernel_rfl) ?_
                    refine WL.call rfl rfl rfl rfl rfl (by kernel_rfl) (Of_ct A3 c3 L e543.dip now2 w579 (own_rd ho584 encL_len (by decide)) (by first | exact hal3.okl | exact hal2.okl | exact hal.okl) (by first | omega | simp)) ?_
                    rintro _ w595 ⟨v_, rfl, hF594, ho593⟩
                    have hC596 := hC582.callN hF594 (own_ge ho593) (own_lt ho593)
                    obtain ⟨A597, c598, rfl, hle599⟩ := own_form ho593
                    have ho601 := own_base (b' := 0) ho593 (fun _ _ => Nat.zero_le _)
                    refine ⟨_, rfl, ?_⟩
                    have ho602 := own_fr ho583 hF594 (by simp)
                    have ho603 := own_fr ho584 hF594 (by simp)
                    have ho604 := own_fr ho585 hF594 (by simp)
                    refine WL.runs 3 [(182, .bool (decide (((L.filter (ofP e543.dip now2)).length : Int) > 4))), (181, .bool (decide (((L.filter (ofP e543.dip now2)).length : Int) > 4))), (180, .int .i64 ((L.filter (ofP e543.dip now2)).length : Int))] (fun _ => by kernel_rfl) ?_
                    refine WL.done rfl ?_
                    refine QX.then_normal (hK592 _ _ ?_)
                    refine WC.know 182 (.bool (decide (((L.filter (ofP e543.dip now2)).length : Int) > 4))) (.bool false) rfl (congrArg Value.bool (by exact decide_eq_false (by have q_ := alone_of hal3 e543.dip; omega))) ?_
                    refine WC.cond_false rfl ?_
                    refine WC.skip ?_
                    refine QX.block_normal ?_
                    refine QX.then_normal (hK540 _ _ ?_)
                    refine WC.region ?_
                    refine WL.runs 1 [(183, .int .i64 (IntKind.i64.wrap ((i3 : Int) + 1)))] (fun _ => by kernel_rfl) ?_
                    refine WL.recast (show (.int .i64 (IntKind.i64.wrap ((i3 : Int) + 1)) : Value) = .int .i64 ((i3 : Int) + 1) from by rw [wrap_in_i64 ((i3 : Int) + 1) (by omega) (by omega)]) ?_
                    refine WL.runs 1 [(127, .int .i64 ((i3 : Int) + 1))] (fun _ => by kernel_rfl) ?_
                    refine WL.done rfl ?_
                    refine QX.then_normal ?_
                    have hC606 := hC596.pick [0, 1, 2] [0, 1, 2] rfl rfl
                    refine fun a_ ha_ => hK529 _ _ _ ?_ ⟨i3 + 1, rfl, rfl, hC606, ho602, ho603, ho604, by omega⟩ a_ (ha_.weaken (sub_of ⟨rfl, rfl, rfl, rfl, rfl, rfl, rfl, rfl, rfl, rfl, rfl, trivial⟩))
                    omega
                  · -- e543.exp ≥ now2: false
                    have t590 : e543.exp < now2 := by have q_ := of_decide_eq_false t590b; omega
                    refine WL.runs 24 [(169, .bool false), (168, undef), (167, undef), (166, undef), (165, undef), (164, undef), (163, undef), (162, undef), (161, undef), (160, undef), (159, undef), (158, undef), (157, undef), (156, undef), (155, undef), (154, undef), (153, undef), (152, undef), (151, undef), (150, undef), (149, undef), (148, undef), (147, undef), (146, undef)] (fun _ => by kernel_rfl) ?_
                    refine WL.done rfl ?_
                    refine QX.then_normal (hK589 _ _ ?_)
                    refine WC.cond_false rfl ?_
                    refine WC.skip ?_
                    refine QX.then_normal (hK587 _ _ ?_)
                    refine WC.seq (fun K607 hK608 => ?_)
                    refine WC.region ?_
                    refine WL.runs 1 [(170, .pointer (some ⟨g548, 3, none⟩))] (fun _ => by kernel_rfl) ?_
                    refine WL.load 3 (.pointer (some ⟨g548, 3, none⟩)) (.int .i64 e543.exp) 171 (by kernel_rfl) (run_ld (hC582.get 3 rfl) rfl) ?_
                    refine WL.runs 3 [(174, .bool (decide (e543.exp ≥ now2))), (173, .bool (decide (e543.exp ≥ now2))), (172, .int .i64 now2)] (fun _ => by kernel_rfl) ?_
                    refine WL.know 174 (.bool (decide (e543.exp ≥ now2))) (.bool false) rfl (congrArg Value.bool (by exact t590b)) ?_
                    refine WL.runs 8 [(182, .bool false), (181, undef), (180, undef), (179, undef), (178, undef), (177, undef), (176, undef), (175, undef)] (fun _ => by kernel_rfl) ?_
                    refine WL.done rfl ?_
                    refine QX.then_normal (hK608 _ _ ?_)
                    refine WC.cond_false rfl ?_
                    refine WC.skip ?_
                    refine QX.block_normal ?_
                    refine QX.then_normal (hK540 _ _ ?_)
                    refine WC.region ?_
                    refine WL.runs 1 [(183, .int .i64 (IntKind.i64.wrap ((i3 : Int) + 1)))] (fun _ => by kernel_rfl) ?_
                    refine WL.recast (show (.int .i64 (IntKind.i64.wrap ((i3 : Int) + 1)) : Value) = .int .i64 ((i3 : Int) + 1) from by rw [wrap_in_i64 ((i3 : Int) + 1) (by omega) (by omega)]) ?_
                    refine WL.runs 1 [(127, .int .i64 ((i3 : Int) + 1))] (fun _ => by kernel_rfl) ?_
                    refine WL.done rfl ?_
                    refine QX.then_normal ?_
                    have hC609 := hC582.pick [0, 1, 2] [0, 1, 2] rfl rfl
                    refine fun a_ ha_ => hK529 _ _ _ ?_ ⟨i3 + 1, rfl, rfl, hC609, ho583, ho584, ho585, by omega⟩ a_ (ha_.weaken (sub_of ⟨rfl, rfl, rfl, rfl, rfl, rfl, rfl, rfl, rfl, rfl, rfl, trivial⟩))
                    omega
                · -- (i3 : Int) < (n4 : Int): false
                  have t538 : (n4 : Int) ≤ (i3 : Int) := by have q_ := of_decide_eq_false t538b; omega
                  refine WC.cond_false rfl ?_
                  refine WC.exit ?_
                  refine QX.then_exit ?_
                  refine QX.then_exit ?_
                  refine QX.block_hit ?_
                  refine QX.block_normal ?_
                  refine QX.then_normal (hK47 _ _ ?_)
                  refine WC.region ?_
                  refine WL.runs 1 [(184, .int .i64 (IntKind.i64.wrap ((k : Int) + 1)))] (fun _ => by kernel_rfl) ?_
                  refine WL.recast (show (.int .i64 (IntKind.i64.wrap ((k : Int) + 1)) : Value) = .int .i64 ((k : Int) + 1) from by rw [wrap_in_i64 ((k : Int) + 1) (by omega) (by omega)]) ?_
                  refine WL.runs 1 [(29, .int .i64 ((k : Int) + 1))] (fun _ => by kernel_rfl) ?_
                  refine WL.done rfl ?_
                  refine QX.then_normal ?_
                  have hC610 := hC533.pick [] [0, 1] rfl rfl
                  refine fun a_ ha_ => hK36 _ _ _ ?_ ⟨k + 1, A3, c3, A4, n4, c4, L, G, now2, rfl, rfl, hC610, rowG_m531, rowL_m531, by omega, by omega, by omega, by omega, by omega, hal3⟩ a_ (ha_.weaken (sub_of ⟨rfl, rfl, rfl, rfl, rfl, rfl, rfl, trivial⟩))
                  omega
            · -- e362.exp ≥ now2: false
              have t413 : e362.exp < now2 := by have q_ := of_decide_eq_false t413b; omega
              refine WL.runs 3 [(117, .bool false), (116, undef), (115, undef)] (fun _ => by kernel_rfl) ?_
              refine WL.done rfl ?_
              refine QX.then_normal (hK412 _ _ ?_)
              refine WC.cond_false rfl ?_
              refine WC.skip ?_
              refine QX.then_normal (hK410 _ _ ?_)
              refine WC.seq (fun K611 hK612 => ?_)
              refine WC.region ?_
              refine WL.runs 1 [(118, errV 32 (rnE L e362.vip e362.first e362.dip now2))] (fun _ => by kernel_rfl) ?_
              have hr613 : ∀ w_, Sem.run Tryd.prog (do eqGuard .eql 29 (Operand.tmp 118) (Operand.const (.nilIface)) (errV 32 (rnE L e362.vip e362.first e362.dip now2)) (.nilIface); binOp .eql 29 (errV 32 (rnE L e362.vip e362.first e362.dip now2)) (.nilIface)) w_ = .ok (.bool (decide (rnE L e362.vip e362.first e362.dip now2 = 0))) w_ := fun w_ => (err_eql _ (rnE L e362.vip e362.first e362.dip now2) (decide (rnE L e362.vip e362.first e362.dip now2 = 0)) (by rfl) _)
              refine WL.sem (do eqGuard .eql 29 (Operand.tmp 118) (Operand.const (.nilIface)) (errV 32 (rnE L e362.vip e362.first e362.dip now2)) (.nilIface); binOp .eql 29 (errV 32 (rnE L e362.vip e362.first e362.dip now2)) (.nilIface)) 119 (.bool (decide (rnE L e362.vip e362.first e362.dip now2 = 0))) (by kernel_rfl) (hr613 _) ?_
              refine WL.done rfl ?_
              refine QX.then_normal (hK612 _ _ ?_)
              refine WC.test_at 119 (decide (rnE L e362.vip e362.first e362.dip now2 = 0)) rfl (fun t614b => ?_) (fun t614b => ?_)
              · -- (decide (rnE L e362.vip e362.first e362.dip now2 = 0)) = true: true
                refine WC.cond_true rfl ?_
                refine WC.region ?_
                refine WL.runs 2 [(121, .slice A4 n4 c4), (120, .slice A386 ((rnX L e362.vip e362.first e362.dip now2).length) c387)] (fun _ => by kernel_rfl) ?_
                refine WL.load 27 (.pointer (some ⟨g394, 0, none⟩)) (.agg #[.int .u32 ((rnL L e362.vip e362.first e362.dip now2).vip), .int .i64 ((rnL L e362.vip e362.first e362.dip now2).first), .int .u32 ((rnL L e362.vip e362.first e362.dip now2).dip), .int .i64 ((rnL L e362.vip e362.first e362.dip now2).exp)]) 122 (by kernel_rfl) (run_ld (hC405.get 2 rfl) rfl) ?_
                refine WL.newM hC405 (fun b => .slice (some ⟨b, 0, none⟩) 1 1) (.cells #[.int .u32 ((rnL L e362.vip e362.first e362.dip now2).vip), .int .i64 ((rnL L e362.vip e362.first e362.dip now2).first), .int .u32 ((rnL L e362.vip e362.first e362.dip now2).dip), .int .i64 ((rnL L e362.vip e362.first e362.dip now2).exp)] 27) 123 (fun _ => by kernel_rfl) (fun g615 w616 hb619 hF617 hC618 => ?_)
                have ho620 := own_fr ho406 hF617 (by simp)
                have ho621 := own_fr ho407 hF617 (by simp)
                have ho622 := own_fr ho408 hF617 (by simp)
                obtain ⟨v623, w624, hr625, ho626, hF627, hC628, hnil629, hsub630⟩ := app_run Tryd.prog hC618 0 (v := .slice A4 n4 c4) rfl 25 25 27 4 32 n4 1 1 (some ⟨g615, 0, none⟩) rfl ho620 [.int .u32 ((rnL L e362.vip e362.first e362.dip now2).vip), .int .i64 ((rnL L e362.vip e362.first e362.dip now2).first), .int .u32 ((rnL L e362.vip e362.first e362.dip now2).dip), .int .i64 ((rnL L e362.vip e362.first e362.dip now2).exp)] rfl (srcOk.blk 1 (hC618.get 3 rfl)) rfl (by simp only [maxLen]; omega) (by omega)
                have ho634 := own_snoc (enc := encL) (ys := G) (rnL L e362.vip e362.first e362.dip now2) ho626
                obtain ⟨A631, c632, rfl, hle633⟩ := own_form ho634
                refine WL.sem (Builtin.append_ #[25, 25] 25 #[.slice A4 n4 c4, .slice (some ⟨g615, 0, none⟩) 1 1]) 124 (.slice A631 (n4 + 1) c632) (by kernel_rfl) hr625 ?_
                have ho635 := own_fr ho621 hF627 (hC618.disj 1 0 rfl rfl (by decide))
                have ho636 := own_fr ho622 hF627 (hC618.disj 2 0 rfl rfl (by decide))
                refine WL.runs 2 [(4, .slice A631 (n4 + 1) c632), (3, .slice A386 ((rnX L e362.vip e362.first e362.dip now2).length) c387)] (fun _ => by kernel_rfl) ?_
                refine WL.done rfl ?_
                refine QX.block_normal ?_
                refine QX.then_normal (hK72 _ _ ?_)
                refine WC.seq (fun K637 hK638 => ?_)
                refine WC.region ?_
                refine WL.runs 3 [(127, .int .i64 0), (126, .int .i64 (n4 + 1 : Int)), (125, .slice A631 (n4 + 1) c632)] (fun _ => by kernel_rfl) ?_
                refine WL.done rfl ?_
                refine QX.then_normal (hK638 _ _ ?_)
                refine WC.block ?_
                have hl_ := rnX_len1 L e362.vip e362.first e362.dip now2
                have hal3 : Alone (rnX L e362.vip e362.first e362.dip now2) (G ++ [(rnL L e362.vip e362.first e362.dip now2)]) now2 := alone_renew hal2 (by simpa using t614b)
                have hcg_ := own_count encL_len (by decide) ho634
                refine WC.loop (fun m_ E_ w_ => ∃ (i3 : Nat), m_ = (n4 + 1) - i3 ∧ E_ = [(0, .slice A ops.length c), (3, .slice A386 ((rnX L e362.vip e362.first e362.dip now2).length) c387), (4, .slice A631 (n4 + 1) c632), (5, .int .i64 now2), (7, .pointer (some ⟨g56, 0, none⟩)), (27, .slice A ops.length c), (28, .int .i64 (ops.length : Int)), (29, .int .i64 (k : Int)), (125, .slice A631 (n4 + 1) c632), (126, .int .i64 (n4 + 1 : Int)), (127, .int .i64 (i3 : Int))] ∧ Cx w [] w_ [(g56, .cells #[.int .i64 e50.kind, .int .u32 e50.vip, .int .u32 e50.dip, .int .i64 e50.n, .int .i64 e50.wait] 54), (g367, .cells #[.int .u32 e362.vip, .int .i64 e362.first, .int .u32 e362.dip, .int .i64 e362.exp] 27), (g394, .cells #[.int .u32 ((rnL L e362.vip e362.first e362.dip now2).vip), .int .i64 ((rnL L e362.vip e362.first e362.dip now2).first), .int .u32 ((rnL L e362.vip e362.first e362.dip now2).dip), .int .i64 ((rnL L e362.vip e362.first e362.dip now2).exp)] 27), (g615, .cells #[.int .u32 ((rnL L e362.vip e362.first e362.dip now2).vip), .int .i64 ((rnL L e362.vip e362.first e362.dip now2).first), .int .u32 ((rnL L e362.vip e362.first e362.dip now2).dip), .int .i64 ((rnL L e362.vip e362.first e362.dip now2).exp)] 27)] [blk (.slice A631 (n4 + 1) c632), blk (.slice A3 L.length c3), blk (.slice A386 ((rnX L e362.vip e362.first e362.dip now2).length) c387)] ∧ World.ownsRow w_ 0 27 4 (.slice A631 (n4 + 1) c632) (n4 + 1) ((G ++ [(rnL L e362.vip e362.first e362.dip now2)]).flatMap encL) ∧ World.ownsRow w_ 0 27 4 (.slice A3 L.length c3) L.length (L.flatMap encL) ∧ World.ownsRow w_ 0 27 4 (.slice A386 ((rnX L e362.vip e362.first e362.dip now2).length) c387) ((rnX L e362.vip e362.first e362.dip now2).length) ((rnX L e362.vip e362.first e362.dip now2).flatMap encL) ∧ (i3 ≤ n4 + 1)) ⟨_, _, ⟨0, rfl, rfl, hC628, ho634, ho635, ho636, Nat.zero_le _⟩, sub_of ⟨rfl, rfl, rfl, rfl, rfl, rfl, rfl, rfl, rfl, rfl, rfl, trivial⟩⟩ (fun m642 E_ w643 K639 hK640 hI641 => ?_)
                obtain ⟨i3, rfl, rfl, hC644, rowG_m642, rowL_m642, row393_m642, hi3⟩ := hI641
                refine WC.seq (fun K645 hK646 => ?_)
                refine WC.region ?_
                refine WL.runs 1 [(128, .bool (decide ((i3 : Int) < (n4 + 1 : Int))))] (fun _ => by kernel_rfl) ?_
                refine WL.done rfl ?_
                refine QX.then_normal (hK646 _ _ ?_)
                refine WC.seq (fun K647 hK648 => ?_)
                refine WC.test_at 128 (decide ((i3 : Int) < (n4 + 1 : Int))) rfl (fun t649b => ?_) (fun t649b => ?_)
                · -- (i3 : Int) < (n4 + 1 : Int): true
                  have t649 : (i3 : Int) < (n4 + 1 : Int) := by have q_ := of_decide_eq_true t649b; omega
                  refine WC.cond_true rfl ?_
                  refine WC.skip ?_
                  refine QX.then_normal (hK648 _ _ ?_)
                  refine WC.seq (fun K650 hK651 => ?_)
                  refine WC.block ?_
                  refine WC.seq (fun K652 hK653 => ?_)
                  refine WC.region ?_
                  have hn658 := own_count encL_len (by decide) rowG_m642
                  obtain ⟨e654, he655⟩ := get_some (xs := G ++ [(rnL L e362.vip e362.first e362.dip now2)]) (i := i3) (by omega)
                  obtain ⟨b656, hA657⟩ := own_addr (by decide) encL_len rowG_m642 he655
                  refine WL.index A631 (n4 + 1) c632 129 .i64 (i3 : Int) b656 0 i3 4 (by kernel_rfl) hA657 (by omega) (by omega) (i3 * 4) (by first | (simp; done) | omega) ?_
                  refine WL.load 27 (.pointer (some ⟨b656, i3 * 4, none⟩)) (.agg #[.int .u32 e654.vip, .int .i64 e654.first, .int .u32 e654.dip, .int .i64 e654.exp]) 130 (by kernel_rfl) (run_rdN (l := [.int .u32 e654.vip, .int .i64 e654.first, .int .u32 e654.dip, .int .i64 e654.exp]) rfl rfl (fun j u hu => by have hq_ := Rd.cell (own_rd rowG_m642 encL_len (by decide)) hA657 he655 j u hu; simpa [Nat.add_assoc] using hq_)) ?_
                  refine WL.newM hC644 (fun b => .pointer (some ⟨b, 0, none⟩)) (.cells #[.int .u32 0, .int .i64 0, .int .u32 0, .int .i64 0] 27) 18 (fun _ => by kernel_rfl) (fun g659 w660 hb663 hF661 hC662 => ?_)
                  have ho664 := own_fr rowG_m642 hF661 (by simp)
                  have ho665 := own_fr rowL_m642 hF661 (by simp)
                  have ho666 := own_fr row393_m642 hF661 (by simp)
                  refine WL.storeM hC662 4 27 g659 0 (.agg #[.int .u32 e654.vip, .int .i64 e654.first, .int .u32 e654.dip, .int .i64 e654.exp]) (by kernel_rfl) rfl rfl (fun w667 hF669 hC670 => ?_)
                  have ho671 := own_fr ho664 hF669 (hC662.apartM 0 4 rfl rfl)
                  have ho672 := own_fr ho665 hF669 (hC662.apartM 1 4 rfl rfl)
                  have ho673 := own_fr ho666 hF669 (hC662.apartM 2 4 rfl rfl)
                  refine WL.done rfl ?_
                  refine QX.then_normal (hK653 _ _ ?_)
                  refine WC.seq (fun K674 hK675 => ?_)
                  refine WC.region ?_
                  refine WL.runs 2 [(133, .pointer (some ⟨g659, 0, none⟩)), (132, .slice A386 ((rnX L e362.vip e362.first e362.dip now2).length) c387)] (fun _ => by kernel_rfl) ?_
                  refine WL.load 23 (.pointer (some ⟨g659, 0, none⟩)) (.int .u32 e654.vip) 134 (by kernel_rfl) (run_ld (hC670.get 4 rfl) rfl) ?_
                  refine WL.runs 1 [(135, .pointer (some ⟨g659, 1, none⟩))] (fun _ => by kernel_rfl) ?_
                  refine WL.load 3 (.pointer (some ⟨g659, 1, none⟩)) (.int .i64 e654.first) 136 (by kernel_rfl) (run_ld (hC670.get 4 rfl) rfl) ?_
                  refine WL.runs 1 [(137, .int .i64 now2)] (fun _ => by kernel_rfl) ?_
                  obtain ⟨_, _, _, _, hf1_, hf2_, _⟩ := hal3.ok _ (List.mem_of_getElem? he655)
                  refine WL.call rfl rfl rfl rfl rfl (by kernel_rfl) (Find_ct A386 c387 (rnX L e362.vip e362.first e362.dip now2) e654.vip e654.first now2 w667 (own_rd ho673 encL_len (by decide)) hal3.okl (by first | omega | simp) (by omega)) ?_
                  rintro _ w677 ⟨rfl, hF676⟩
                  refine ⟨_, rfl, ?_⟩
                  have hC678 := hC670.call hF676
                  have ho679 := own_fr ho671 hF676 (by simp)
                  have ho680 := own_fr ho672 hF676 (by simp)
                  have ho681 := own_fr ho673 hF676 (by simp)
                  refine WL.runs 3 [(140, .bool (hasL ((rnX L e362.vip e362.first e362.dip now2).filter (findP e654.vip e654.first now2)))), (139, .agg #[.int .u32 ((headL ((rnX L e362.vip e362.first e362.dip now2).filter (findP e654.vip e654.first now2))).vip), .int .i64 ((headL ((rnX L e362.vip e362.first e362.dip now2).filter (findP e654.vip e654.first now2))).first), .int .u32 ((headL ((rnX L e362.vip e362.first e362.dip now2).filter (findP e654.vip e654.first now2))).dip), .int .i64 ((headL ((rnX L e362.vip e362.first e362.dip now2).filter (findP e654.vip e654.first now2))).exp)]), (131, .tuple #[.agg #[.int .u32 ((headL ((rnX L e362.vip e362.first e362.dip now2).filter (findP e654.vip e654.first now2))).vip), .int .i64 ((headL ((rnX L e362.vip e362.first e362.dip now2).filter (findP e654.vip e654.first now2))).first), .int .u32 ((headL ((rnX L e362.vip e362.first e362.dip now2).filter (findP e654.vip e654.first now2))).dip), .int .i64 ((headL ((rnX L e362.vip e362.first e362.dip now2).filter (findP e654.vip e654.first now2))).exp)], .bool (hasL ((rnX L e362.vip e362.first e362.dip now2).filter (findP e654.vip e654.first now2)))])] (fun _ => by kernel_rfl) ?_
                  refine WL.newM hC678 (fun b => .pointer (some ⟨b, 0, none⟩)) (.cells #[.int .u32 0, .int .i64 0, .int .u32 0, .int .i64 0] 27) 19 (fun _ => by kernel_rfl) (fun g682 w683 hb686 hF684 hC685 => ?_)
                  have ho687 := own_fr ho679 hF684 (by simp)
                  have ho688 := own_fr ho680 hF684 (by simp)
                  have ho689 := own_fr ho681 hF684 (by simp)
                  refine WL.storeM hC685 5 27 g682 0 (.agg #[.int .u32 ((headL ((rnX L e362.vip e362.first e362.dip now2).filter (findP e654.vip e654.first now2))).vip), .int .i64 ((headL ((rnX L e362.vip e362.first e362.dip now2).filter (findP e654.vip e654.first now2))).first), .int .u32 ((headL ((rnX L e362.vip e362.first e362.dip now2).filter (findP e654.vip e654.first now2))).dip), .int .i64 ((headL ((rnX L e362.vip e362.first e362.dip now2).filter (findP e654.vip e654.first now2))).exp)]) (by kernel_rfl) rfl rfl (fun w690 hF692 hC693 => ?_)
                  have ho694 := own_fr ho687 hF692 (hC685.apartM 0 5 rfl rfl)
                  have ho695 := own_fr ho688 hF692 (hC685.apartM 1 5 rfl rfl)
                  have ho696 := own_fr ho689 hF692 (hC685.apartM 2 5 rfl rfl)
                  refine WL.runs 1 [(20, .bool (hasL ((rnX L e362.vip e362.first e362.dip now2).filter (findP e654.vip e654.first now2))))] (fun _ => by kernel_rfl) ?_
                  refine WL.done rfl ?_
                  refine QX.then_normal (hK675 _ _ ?_)
                  refine WC.seq (fun K697 hK698 => ?_)
                  refine WC.seq (fun K699 hK700 => ?_)
                  refine WC.region ?_
                  refine WL.runs 1 [(141, .pointer (some ⟨g659, 3, none⟩))] (fun _ => by kernel_rfl) ?_
                  refine WL.load 3 (.pointer (some ⟨g659, 3, none⟩)) (.int .i64 e654.exp) 142 (by kernel_rfl) (run_ld (hC693.get 4 rfl) rfl) ?_
                  refine WL.runs 3 [(145, .bool (decide (e654.exp ≥ now2))), (144, .bool (decide (e654.exp ≥ now2))), (143, .int .i64 now2)] (fun _ => by kernel_rfl) ?_
                  refine WL.test_at 145 (decide (e654.exp ≥ now2)) rfl (fun t701b => ?_) (fun t701b => ?_)
                  · -- e654.exp ≥ now2: true
                    have t701 : now2 ≤ e654.exp := by have q_ := of_decide_eq_true t701b; omega
                    refine WL.runs 3 [(148, .bool (!(hasL ((rnX L e362.vip e362.first e362.dip now2).filter (findP e654.vip e654.first now2))))), (147, .bool (!(hasL ((rnX L e362.vip e362.first e362.dip now2).filter (findP e654.vip e654.first now2))))), (146, .bool (hasL ((rnX L e362.vip e362.first e362.dip now2).filter (findP e654.vip e654.first now2))))] (fun _ => by kernel_rfl) ?_
                    refine WL.know 148 (.bool (!(hasL ((rnX L e362.vip e362.first e362.dip now2).filter (findP e654.vip e654.first now2))))) (.bool false) rfl (congrArg Value.bool (by rw [(alone_find hal3 (List.mem_of_getElem? he655) (by omega)).1]; rfl)) ?_
                    refine WL.runs 1 [(149, .pointer (some ⟨g682, 2, none⟩))] (fun _ => by kernel_rfl) ?_
                    refine WL.load 23 (.pointer (some ⟨g682, 2, none⟩)) (.int .u32 ((headL ((rnX L e362.vip e362.first e362.dip now2).filter (findP e654.vip e654.first now2))).dip)) 150 (by kernel_rfl) (run_ld (hC693.get 5 rfl) rfl) ?_
                    refine WL.runs 1 [(151, .pointer (some ⟨g659, 2, none⟩))] (fun _ => by kernel_rfl) ?_
                    refine WL.load 23 (.pointer (some ⟨g659, 2, none⟩)) (.int .u32 e654.dip) 152 (by kernel_rfl) (run_ld (hC693.get 4 rfl) rfl) ?_
                    refine WL.runs 3 [(155, .bool (((headL ((rnX L e362.vip e362.first e362.dip now2).filter (findP e654.vip e654.first now2))).dip) != e654.dip)), (154, .bool (((headL ((rnX L e362.vip e362.first e362.dip now2).filter (findP e654.vip e654.first now2))).dip) != e654.dip)), (153, .bool (((headL ((rnX L e362.vip e362.first e362.dip now2).filter (findP e654.vip e654.first now2))).dip) != e654.dip))] (fun _ => by kernel_rfl) ?_
                    refine WL.know 155 (.bool (((headL ((rnX L e362.vip e362.first e362.dip now2).filter (findP e654.vip e654.first now2))).dip) != e654.dip)) (.bool false) rfl (congrArg Value.bool (by rw [(alone_find hal3 (List.mem_of_getElem? he655) (by omega)).2.1]; simp)) ?_
                    refine WL.runs 1 [(156, .pointer (some ⟨g682, 1, none⟩))] (fun _ => by kernel_rfl) ?_
                    refine WL.load 3 (.pointer (some ⟨g682, 1, none⟩)) (.int .i64 ((headL ((rnX L e362.vip e362.first e362.dip now2).filter (findP e654.vip e654.first now2))).first)) 157 (by kernel_rfl) (run_ld (hC693.get 5 rfl) rfl) ?_
                    refine WL.runs 1 [(158, .pointer (some ⟨g659, 1, none⟩))] (fun _ => by kernel_rfl) ?_
                    refine WL.load 3 (.pointer (some ⟨g659, 1, none⟩)) (.int .i64 e654.first) 159 (by kernel_rfl) (run_ld (hC693.get 4 rfl) rfl) ?_
                    refine WL.runs 3 [(162, .bool (((headL ((rnX L e362.vip e362.first e362.dip now2).filter (findP e654.vip e654.first now2))).first) != e654.first)), (161, .bool (((headL ((rnX L e362.vip e362.first e362.dip now2).filter (findP e654.vip e654.first now2))).first) != e654.first)), (160, .bool (((headL ((rnX L e362.vip e362.first e362.dip now2).filter (findP e654.vip e654.first now2))).first) != e654.first))] (fun _ => by kernel_rfl) ?_
                    refine WL.know 162 (.bool (((headL ((rnX L e362.vip e362.first e362.dip now2).filter (findP e654.vip e654.first now2))).first) != e654.first)) (.bool false) rfl (congrArg Value.bool (by rw [(alone_find hal3 (List.mem_of_getElem? he655) (by omega)).2.2.1]; simp)) ?_
                    refine WL.runs 1 [(163, .pointer (some ⟨g682, 3, none⟩))] (fun _ => by kernel_rfl) ?_
                    refine WL.load 3 (.pointer (some ⟨g682, 3, none⟩)) (.int .i64 ((headL ((rnX L e362.vip e362.first e362.dip now2).filter (findP e654.vip e654.first now2))).exp)) 164 (by kernel_rfl) (run_ld (hC693.get 5 rfl) rfl) ?_
                    refine WL.runs 1 [(165, .pointer (some ⟨g659, 3, none⟩))] (fun _ => by kernel_rfl) ?_
                    refine WL.load 3 (.pointer (some ⟨g659, 3, none⟩)) (.int .i64 e654.exp) 166 (by kernel_rfl) (run_ld (hC693.get 4 rfl) rfl) ?_
                    refine WL.runs 3 [(169, .bool (decide (((headL ((rnX L e362.vip e362.first e362.dip now2).filter (findP e654.vip e654.first now2))).exp) < e654.exp))), (168, .bool (decide (((headL ((rnX L e362.vip e362.first e362.dip now2).filter (findP e654.vip e654.first now2))).exp) < e654.exp))), (167, .bool (decide (((headL ((rnX L e362.vip e362.first e362.dip now2).filter (findP e654.vip e654.first now2))).exp) < e654.exp)))] (fun _ => by kernel_rfl) ?_
                    refine WL.done rfl ?_
                    refine QX.then_normal (hK700 _ _ ?_)
                    refine WC.know 169 (.bool (decide (((headL ((rnX L e362.vip e362.first e362.dip now2).filter (findP e654.vip e654.first now2))).exp) < e654.exp))) (.bool false) rfl (congrArg Value.bool (by exact decide_eq_false (by have q_ := (alone_find hal3 (List.mem_of_getElem? he655) (by omega)).2.2.2; omega))) ?_
                    refine WC.cond_false rfl ?_
                    refine WC.skip ?_
                    refine QX.then_normal (hK698 _ _ ?_)
                    refine WC.seq (fun K702 hK703 => ?_)
                    refine WC.region ?_
                    refine WL.runs 1 [(170, .pointer (some ⟨g659, 3, none⟩))] (fun _ => by kernel_rfl) ?_
                    refine WL.load 3 (.pointer (some ⟨g659, 3, none⟩)) (.int .i64 e654.exp) 171 (by kernel_rfl) (run_ld (hC693.get 4 rfl) rfl) ?_
                    refine WL.runs 3 [(174, .bool (decide (e654.exp ≥ now2))), (173, .bool (decide (e654.exp ≥ now2))), (172, .int .i64 now2)] (fun _ => by kernel_rfl) ?_
                    refine WL.know 174 (.bool (decide (e654.exp ≥ now2))) (.bool true) rfl (congrArg Value.bool (by exact t701b)) ?_
                    refine WL.runs 2 [(176, .pointer (some ⟨g659, 2, none⟩)), (175, .slice A386 ((rnX L e362.vip e362.first e362.dip now2).length) c387)] (fun _ => by kernel_rfl) ?_
                    refine WL.load 23 (.pointer (some ⟨g659, 2, none⟩)) (.int .u32 e654.dip) 177 (by kernel_rfl) (run_ld (hC693.get 4 rfl) rfl) ?_
                    refine WL.runs 1 [(178, .int .i64 now2)] (fun _ => by kernel_rfl) ?_
                    refine WL.call rfl rfl rfl rfl rfl (by kernel_rfl) (Of_ct A386 c387 (rnX L e362.vip e362.first e362.dip now2) e654.dip now2 w690 (own_rd ho696 encL_len (by decide)) hal3.okl (by first | omega | simp)) ?_
                    rintro _ w706 ⟨v_, rfl, hF705, ho704⟩
                    have hC707 := hC693.callN hF705 (own_ge ho704) (own_lt ho704)
                    obtain ⟨A708, c709, rfl, hle710⟩ := own_form ho704
                    have ho712 := own_base (b' := 0) ho704 (fun _ _ => Nat.zero_le _)
                    refine ⟨_, rfl, ?_⟩
                    have ho713 := own_fr ho694 hF705 (by simp)
                    have ho714 := own_fr ho695 hF705 (by simp)
                    have ho715 := own_fr ho696 hF705 (by simp)
                    refine WL.runs 3 [(182, .bool (decide ((((rnX L e362.vip e362.first e362.dip now2).filter (ofP e654.dip now2)).length : Int) > 4))), (181, .bool (decide ((((rnX L e362.vip e362.first e362.dip now2).filter (ofP e654.dip now2)).length : Int) > 4))), (180, .int .i64 (((rnX L e362.vip e362.first e362.dip now2).filter (ofP e654.dip now2)).length : Int))] (fun _ => by kernel_rfl) ?_
                    refine WL.done rfl ?_
                    refine QX.then_normal (hK703 _ _ ?_)
                    refine WC.know 182 (.bool (decide ((((rnX L e362.vip e362.first e362.dip now2).filter (ofP e654.dip now2)).length : Int) > 4))) (.bool false) rfl (congrArg Value.bool (by exact decide_eq_false (by have q_ := alone_of hal3 e654.dip; omega))) ?_
                    refine WC.cond_false rfl ?_
                    refine WC.skip ?_
                    refine QX.block_normal ?_
                    refine QX.then_normal (hK651 _ _ ?_)
                    refine WC.region ?_
                    refine WL.runs 1 [(183, .int .i64 (IntKind.i64.wrap ((i3 : Int) + 1)))] (fun _ => by kernel_rfl) ?_
                    refine WL.recast (show (.int .i64 (IntKind.i64.wrap ((i3 : Int) + 1)) : Value) = .int .i64 ((i3 : Int) + 1) from by rw [wrap_in_i64 ((i3 : Int) + 1) (by omega) (by omega)]) ?_
                    refine WL.runs 1 [(127, .int .i64 ((i3 : Int) + 1))] (fun _ => by kernel_rfl) ?_
                    refine WL.done rfl ?_
                    refine QX.then_normal ?_
                    have hC717 := hC707.pick [0, 1, 2, 3] [0, 1, 2] rfl rfl
                    refine fun a_ ha_ => hK640 _ _ _ ?_ ⟨i3 + 1, rfl, rfl, hC717, ho713, ho714, ho715, by omega⟩ a_ (ha_.weaken (sub_of ⟨rfl, rfl, rfl, rfl, rfl, rfl, rfl, rfl, rfl, rfl, rfl, trivial⟩))
                    omega
                  · -- e654.exp ≥ now2: false
                    have t701 : e654.exp < now2 := by have q_ := of_decide_eq_false t701b; omega
                    refine WL.runs 24 [(169, .bool false), (168, undef), (167, undef), (166, undef), (165, undef), (164, undef), (163, undef), (162, undef), (161, undef), (160, undef), (159, undef), (158, undef), (157, undef), (156, undef), (155, undef), (154, undef), (153, undef), (152, undef), (151, undef), (150, undef), (149, undef), (148, undef), (147, undef), (146, undef)] (fun _ => by kernel_rfl) ?_
                    refine WL.done rfl ?_
                    refine QX.then_normal (hK700 _ _ ?_)
                    refine WC.cond_false rfl ?_
                    refine WC.skip ?_
                    refine QX.then_normal (hK698 _ _ ?_)
                    refine WC.seq (fun K718 hK719 => ?_)
                    refine WC.region ?_
                    refine WL.runs 1 [(170, .pointer (some ⟨g659, 3, none⟩))] (fun _ => by kernel_rfl) ?_
                    refine WL.load 3 (.pointer (some ⟨g659, 3, none⟩)) (.int .i64 e654.exp) 171 (by kernel_rfl) (run_ld (hC693.get 4 rfl) rfl) ?_
                    refine WL.runs 3 [(174, .bool (decide (e654.exp ≥ now2))), (173, .bool (decide (e654.exp ≥ now2))), (172, .int .i64 now2)] (fun _ => by kernel_rfl) ?_
                    refine WL.know 174 (.bool (decide (e654.exp ≥ now2))) (.bool false) rfl (congrArg Value.bool (by exact t701b)) ?_
                    refine WL.runs 8 [(182, .bool false), (181, undef), (180, undef), (179, undef), (178, undef), (177, undef), (176, undef), (175, undef)] (fun _ => by kernel_rfl) ?_
                    refine WL.done rfl ?_
                    refine QX.then_normal (hK719 _ _ ?_)
                    refine WC.cond_false rfl ?_
                    refine WC.skip ?_
                    refine QX.block_normal ?_
                    refine QX.then_normal (hK651 _ _ ?_)
                    refine WC.region ?_
                    refine WL.runs 1 [(183, .int .i64 (IntKind.i64.wrap ((i3 : Int) + 1)))] (fun _ => by kernel_rfl) ?_
                    refine WL.recast (show (.int .i64 (IntKind.i64.wrap ((i3 : Int) + 1)) : Value) = .int .i64 ((i3 : Int) + 1) from by rw [wrap_in_i64 ((i3 : Int) + 1) (by omega) (by omega)]) ?_
                    refine WL.runs 1 [(127, .int .i64 ((i3 : Int) + 1))] (fun _ => by kernel_rfl) ?_
                    refine WL.done rfl ?_
                    refine QX.then_normal ?_
                    have hC720 := hC693.pick [0, 1, 2, 3] [0, 1, 2] rfl rfl
                    refine fun a_ ha_ => hK640 _ _ _ ?_ ⟨i3 + 1, rfl, rfl, hC720, ho694, ho695, ho696, by omega⟩ a_ (ha_.weaken (sub_of ⟨rfl, rfl, rfl, rfl, rfl, rfl, rfl, rfl, rfl, rfl, rfl, trivial⟩))
                    omega
                · -- (i3 : Int) < (n4 + 1 : Int): false
                  have t649 : (n4 + 1 : Int) ≤ (i3 : Int) := by have q_ := of_decide_eq_false t649b; omega
                  refine WC.cond_false rfl ?_
                  refine WC.exit ?_
                  refine QX.then_exit ?_
                  refine QX.then_exit ?_
                  refine QX.block_hit ?_
                  refine QX.block_normal ?_
                  refine QX.then_normal (hK47 _ _ ?_)
                  refine WC.region ?_
                  refine WL.runs 1 [(184, .int .i64 (IntKind.i64.wrap ((k : Int) + 1)))] (fun _ => by kernel_rfl) ?_
                  refine WL.recast (show (.int .i64 (IntKind.i64.wrap ((k : Int) + 1)) : Value) = .int .i64 ((k : Int) + 1) from by rw [wrap_in_i64 ((k : Int) + 1) (by omega) (by omega)]) ?_
                  refine WL.runs 1 [(29, .int .i64 ((k : Int) + 1))] (fun _ => by kernel_rfl) ?_
                  refine WL.done rfl ?_
                  refine QX.then_normal ?_
                  have hC721 := hC644.pick [] [0, 2] rfl rfl
                  refine fun a_ ha_ => hK36 _ _ _ ?_ ⟨k + 1, A386, c387, A631, n4 + 1, c632, (rnX L e362.vip e362.first e362.dip now2), (G ++ [(rnL L e362.vip e362.first e362.dip now2)]), now2, rfl, rfl, hC721, rowG_m642, row393_m642, by omega, by omega, by omega, by omega, by omega, hal3⟩ a_ (ha_.weaken (sub_of ⟨rfl, rfl, rfl, rfl, rfl, rfl, rfl, trivial⟩))
                  omega
              · -- (decide (rnE L e362.vip e362.first e362.dip now2 = 0)) = true: false
                refine WC.cond_false rfl ?_
                refine WC.skip ?_
                refine QX.block_normal ?_
                refine QX.then_normal (hK72 _ _ ?_)
                refine WC.seq (fun K722 hK723 => ?_)
                refine WC.region ?_
                refine WL.runs 3 [(127, .int .i64 0), (126, .int .i64 (n4 : Int)), (125, .slice A4 n4 c4)] (fun _ => by kernel_rfl) ?_
                refine WL.done rfl ?_
                refine QX.then_normal (hK723 _ _ ?_)
                refine WC.block ?_
                have hal3 : Alone L G now2 := hal2
                have hcg_ := own_count encL_len (by decide) ho406
                refine WC.loop (fun m_ E_ w_ => ∃ (i3 : Nat), m_ = n4 - i3 ∧ E_ = [(0, .slice A ops.length c), (3, .slice A3 L.length c3), (4, .slice A4 n4 c4), (5, .int .i64 now2), (7, .pointer (some ⟨g56, 0, none⟩)), (27, .slice A ops.length c), (28, .int .i64 (ops.length : Int)), (29, .int .i64 (k : Int)), (125, .slice A4 n4 c4), (126, .int .i64 (n4 : Int)), (127, .int .i64 (i3 : Int))] ∧ Cx w [] w_ [(g56, .cells #[.int .i64 e50.kind, .int .u32 e50.vip, .int .u32 e50.dip, .int .i64 e50.n, .int .i64 e50.wait] 54), (g367, .cells #[.int .u32 e362.vip, .int .i64 e362.first, .int .u32 e362.dip, .int .i64 e362.exp] 27), (g394, .cells #[.int .u32 ((rnL L e362.vip e362.first e362.dip now2).vip), .int .i64 ((rnL L e362.vip e362.first e362.dip now2).first), .int .u32 ((rnL L e362.vip e362.first e362.dip now2).dip), .int .i64 ((rnL L e362.vip e362.first e362.dip now2).exp)] 27)] [blk (.slice A4 n4 c4), blk (.slice A3 L.length c3), blk (.slice A386 ((rnX L e362.vip e362.first e362.dip now2).length) c387)] ∧ World.ownsRow w_ 0 27 4 (.slice A4 n4 c4) n4 (G.flatMap encL) ∧ World.ownsRow w_ 0 27 4 (.slice A3 L.length c3) L.length (L.flatMap encL) ∧ World.ownsRow w_ 0 27 4 (.slice A386 ((rnX L e362.vip e362.first e362.dip now2).length) c387) ((rnX L e362.vip e362.first e362.dip now2).length) ((rnX L e362.vip e362.first e362.dip now2).flatMap encL) ∧ (i3 ≤ n4)) ⟨_, _, ⟨0, rfl, rfl, hC405, ho406, ho407, ho408, Nat.zero_le _⟩, sub_of ⟨rfl, rfl, rfl, rfl, rfl, rfl, rfl, rfl, rfl, rfl, rfl, trivial⟩⟩ (fun m727 E_ w728 K724 hK725 hI726 => ?_)
                obtain ⟨i3, rfl, rfl, hC729, rowG_m727, rowL_m727, row393_m727, hi3⟩ := hI726
                refine WC.seq (fun K730 hK731 => ?_)
                refine WC.region ?_
                refine WL.runs 1 [(128, .bool (decide ((i3 : Int) < (n4 : Int))))] (fun _ => by kernel_rfl) ?_
                refine WL.done rfl ?_
                refine QX.then_normal (hK731 _ _ ?_)
                refine WC.seq (fun K732 hK733 => ?_)
                refine WC.test_at 128 (decide ((i3 : Int) < (n4 : Int))) rfl (fun t734b => ?_) (fun t734b => ?_)
                · -- (i3 : Int) < (n4 : Int): true
                  have t734 : (i3 : Int) < (n4 : Int) := by have q_ := of_decide_eq_true t734b; omega
                  refine WC.cond_true rfl ?_
                  refine WC.skip ?_
                  refine QX.then_normal (hK733 _ _ ?_)
                  refine WC.seq (fun K735 hK736 => ?_)
                  refine WC.block ?_
                  refine WC.seq (fun K737 hK738 => ?_)
                  refine WC.region ?_
                  have hn743 := own_count encL_len (by decide) rowG_m727
                  obtain ⟨e739, he740⟩ := get_some (xs := G) (i := i3) (by omega)
                  obtain ⟨b741, hA742⟩ := own_addr (by decide) encL_len rowG_m727 he740
                  refine WL.index A4 n4 c4 129 .i64 (i3 : Int) b741 0 i3 4 (by kernel_rfl) hA742 (by omega) (by omega) (i3 * 4) (by first | (simp; done) | omega) ?_
                  refine WL.load 27 (.pointer (some ⟨b741, i3 * 4, none⟩)) (.agg #[.int .u32 e739.vip, .int .i64 e739.first, .int .u32 e739.dip, .int .i64 e739.exp]) 130 (by kernel_rfl) (run_rdN (l := [.int .u32 e739.vip, .int .i64 e739.first, .int .u32 e739.dip, .int .i64 e739.exp]) rfl rfl (fun j u hu => by have hq_ := Rd.cell (own_rd rowG_m727 encL_len (by decide)) hA742 he740 j u hu; simpa [Nat.add_assoc] using hq_)) ?_
                  refine WL.newM hC729 (fun b => .pointer (some ⟨b, 0, none⟩)) (.cells #[.int .u32 0, .int .i64 0, .int .u32 0, .int .i64 0] 27) 18 (fun _ => by kernel_rfl) (fun g744 w745 hb748 hF746 hC747 => ?_)
                  have ho749 := own_fr rowG_m727 hF746 (by simp)
                  have ho750 := own_fr rowL_m727 hF746 (by simp)
                  have ho751 := own_fr row393_m727 hF746 (by simp)
                  refine WL.storeM hC747 3 27 g744 0 (.agg #[.int .u32 e739.vip, .int .i64 e739.first, .int .u32 e739.dip, .int .i64 e739.exp]) (by kernel_rfl) rfl rfl (fun w752 hF754 hC755 => ?_)
                  have ho756 := own_fr ho749 hF754 (hC747.apartM 0 3 rfl rfl)
                  have ho757 := own_fr ho750 hF754 (hC747.apartM 1 3 rfl rfl)
                  have ho758 := own_fr ho751 hF754 (hC747.apartM 2 3 rfl rfl)
                  refine WL.done rfl ?_
                  refine QX.then_normal (hK738 _ _ ?_)
                  refine WC.seq (fun K759 hK760 => ?_)
                  refine WC.region ?_
                  refine WL.runs 2 [(133, .pointer (some ⟨g744, 0, none⟩)), (132, .slice A3 L.length c3)] (fun _ => by kernel_rfl) ?_
                  refine WL.load 23 (.pointer (some ⟨g744, 0, none⟩)) (.int .u32 e739.vip) 134 (by kernel_rfl) (run_ld (hC755.get 3 rfl) rfl) ?_
                  refine WL.runs 1 [(135, .pointer (some ⟨g744, 1, none⟩))] (fun _ => by kernel_rfl) ?_
                  refine WL.load 3 (.pointer (some ⟨g744, 1, none⟩)) (.int .i64 e739.first) 136 (by kernel_rfl) (run_ld (hC755.get 3 rfl) rfl) ?_
                  refine WL.runs 1 [(137, .int .i64 now2)] (fun _ => by kernel_rfl) ?_
                  obtain ⟨_, _, _, _, hf1_, hf2_, _⟩ := hal3.ok _ (List.mem_of_getElem? he740)
                  refine WL.call rfl rfl rfl rfl rfl (by kernel_rfl) (Find_ct A3 c3 L e739.vip e739.first now2 w752 (own_rd ho757 encL_len (by decide)) (by first | exact hal3.okl | exact hal2.okl | exact hal.okl) (by first | omega | simp) (by omega)) ?_
                  rintro _ w762 ⟨rfl, hF761⟩
                  refine ⟨_, rfl, ?_⟩
                  have hC763 := hC755.call hF761
                  have ho764 := own_fr ho756 hF761 (by simp)
                  have ho765 := own_fr ho757 hF761 (by simp)
                  have ho766 := own_fr ho758 hF761 (by simp)
                  refine WL.runs 3 [(140, .bool (hasL (L.filter (findP e739.vip e739.first now2)))), (139, .agg #[.int .u32 ((headL (L.filter (findP e739.vip e739.first now2))).vip), .int .i64 ((headL (L.filter (findP e739.vip e739.first now2))).first), .int .u32 ((headL (L.filter (findP e739.vip e739.first now2))).dip), .int .i64 ((headL (L.filter (findP e739.vip e739.first now2))).exp)]), (131, .tuple #[.agg #[.int .u32 ((headL (L.filter (findP e739.vip e739.first now2))).vip), .int .i64 ((headL (L.filter (findP e739.vip e739.first now2))).first), .int .u32 ((headL (L.filter (findP e739.vip e739.first now2))).dip), .int .i64 ((headL (L.filter (findP e739.vip e739.first now2))).exp)], .bool (hasL (L.filter (findP e739.vip e739.first now2)))])] (fun _ => by kernel_rfl) ?_
                  refine WL.newM hC763 (fun b => .pointer (some ⟨b, 0, none⟩)) (.cells #[.int .u32 0, .int .i64 0, .int .u32 0, .int .i64 0] 27) 19 (fun _ => by kernel_rfl) (fun g767 w768 hb771 hF769 hC770 => ?_)
                  have ho772 := own_fr ho764 hF769 (by simp)
                  have ho773 := own_fr ho765 hF769 (by simp)
                  have ho774 := own_fr ho766 hF769 (by simp)
                  refine WL.storeM hC770 4 27 g767 0 (.agg #[.int .u32 ((headL (L.filter (findP e739.vip e739.first now2))).vip), .int .i64 ((headL (L.filter (findP e739.vip e739.first now2))).first), .int .u32 ((headL (L.filter (findP e739.vip e739.first now2))).dip), .int .i64 ((headL (L.filter (findP e739.vip e739.first now2))).exp)]) (by kernel_rfl) rfl rfl (fun w775 hF777 hC778 => ?_)
                  have ho779 := own_fr ho772 hF777 (hC770.apartM 0 4 rfl rfl)
                  have ho780 := own_fr ho773 hF777 (hC770.apartM 1 4 rfl rfl)
                  have ho781 := own_fr ho774 hF777 (hC770.apartM 2 4 rfl rfl)
                  refine WL.runs 1 [(20, .bool (hasL (L.filter (findP e739.vip e739.first now2))))] (fun _ => by kernel_rfl) ?_
                  refine WL.done rfl ?_
                  refine QX.then_normal (hK760 _ _ ?_)
                  refine WC.seq (fun K782 hK783 => ?_)
                  refine WC.seq (fun K784 hK785 => ?_)
                  refine WC.region ?_
                  refine WL.runs 1 [(141, .pointer (some ⟨g744, 3, none⟩))] (fun _ => by kernel_rfl) ?_
                  refine WL.load 3 (.pointer (some ⟨g744, 3, none⟩)) (.int .i64 e739.exp) 142 (by kernel_rfl) (run_ld (hC778.get 3 rfl) rfl) ?_
                  refine WL.runs 3 [(145, .bool (decide (e739.exp ≥ now2))), (144, .bool (decide (e739.exp ≥ now2))), (143, .int .i64 now2)] (fun _ => by kernel_rfl) ?_
                  refine WL.test_at 145 (decide (e739.exp ≥ now2)) rfl (fun t786b => ?_) (fun t786b => ?_)
                  · -- e739.exp ≥ now2: true
                    have t786 : now2 ≤ e739.exp := by have q_ := of_decide_eq_true t786b; omega
                    refine WL.runs 3 [(148, .bool (!(hasL (L.filter (findP e739.vip e739.first now2))))), (147, .bool (!(hasL (L.filter (findP e739.vip e739.first now2))))), (146, .bool (hasL (L.filter (findP e739.vip e739.first now2))))] (fun _ => by kernel_rfl) ?_
                    refine WL.know 148 (.bool (!(hasL (L.filter (findP e739.vip e739.first now2))))) (.bool false) rfl (congrArg Value.bool (by rw [(alone_find hal3 (List.mem_of_getElem? he740) (by omega)).1]; rfl)) ?_
                    refine WL.runs 1 [(149, .pointer (some ⟨g767, 2, none⟩))] (fun _ => by kernel_rfl) ?_
                    refine WL.load 23 (.pointer (some ⟨g767, 2, none⟩)) (.int .u32 ((headL (L.filter (findP e739.vip e739.first now2))).dip)) 150 (by kernel_rfl) (run_ld (hC778.get 4 rfl) rfl) ?_
                    refine WL.runs 1 [(151, .pointer (some ⟨g744, 2, none⟩))] (fun _ => by kernel_rfl) ?_
                    refine WL.load 23 (.pointer (some ⟨g744, 2, none⟩)) (.int .u32 e739.dip) 152 (by kernel_rfl) (run_ld (hC778.get 3 rfl) rfl) ?_
                    refine WL.runs 3 [(155, .bool (((headL (L.filter (findP e739.vip e739.first now2))).dip) != e739.dip)), (154, .bool (((headL (L.filter (findP e739.vip e739.first now2))).dip) != e739.dip)), (153, .bool (((headL (L.filter (findP e739.vip e739.first now2))).dip) != e739.dip))] (fun _ => by kernel_rfl) ?_
                    refine WL.know 155 (.bool (((headL (L.filter (findP e739.vip e739.first now2))).dip) != e739.dip)) (.bool false) rfl (congrArg Value.bool (by rw [(alone_find hal3 (List.mem_of_getElem? he740) (by omega)).2.1]; simp)) ?_
                    refine WL.runs 1 [(156, .pointer (some ⟨g767, 1, none⟩))] (fun _ => by kernel_rfl) ?_
                    refine WL.load 3 (.pointer (some ⟨g767, 1, none⟩)) (.int .i64 ((headL (L.filter (findP e739.vip e739.first now2))).first)) 157 (by kernel_rfl) (run_ld (hC778.get 4 rfl) rfl) ?_
                    refine WL.runs 1 [(158, .pointer (some ⟨g744, 1, none⟩))] (fun _ => by kernel_rfl) ?_
                    refine WL.load 3 (.pointer (some ⟨g744, 1, none⟩)) (.int .i64 e739.first) 159 (by kernel_rfl) (run_ld (hC778.get 3 rfl) rfl) ?_
                    refine WL.runs 3 [(162, .bool (((headL (L.filter (findP e739.vip e739.first now2))).first) != e739.first)), (161, .bool (((headL (L.filter (findP e739.vip e739.first now2))).first) != e739.first)), (160, .bool (((headL (L.filter (findP e739.vip e739.first now2))).first) != e739.first))] (fun _ => by kernel_rfl) ?_
                    refine WL.know 162 (.bool (((headL (L.filter (findP e739.vip e739.first now2))).first) != e739.first)) (.bool false) rfl (congrArg Value.bool (by rw [(alone_find hal3 (List.mem_of_getElem? he740) (by omega)).2.2.1]; simp)) ?_
                    refine WL.runs 1 [(163, .pointer (some ⟨g767, 3, none⟩))] (fun _ => by kernel_rfl) ?_
                    refine WL.load 3 (.pointer (some ⟨g767, 3, none⟩)) (.int .i64 ((headL (L.filter (findP e739.vip e739.first now2))).exp)) 164 (by kernel_rfl) (run_ld (hC778.get 4 rfl) rfl) ?_
                    refine WL.runs 1 [(165, .pointer (some ⟨g744, 3, none⟩))] (fun _ => by kernel_rfl) ?_
                    refine WL.load 3 (.pointer (some ⟨g744, 3, none⟩)) (.int .i64 e739.exp) 166 (by kernel_rfl) (run_ld (hC778.get 3 rfl) rfl) ?_
                    refine WL.runs 3 [(169, .bool (decide (((headL (L.filter (findP e739.vip e739.first now2))).exp) < e739.exp))), (168, .bool (decide (((headL (L.filter (findP e739.vip e739.first now2))).exp) < e739.exp))), (167, .bool (decide (((headL (L.filter (findP e739.vip e739.first now2))).exp) < e739.exp)))] (fun _ => by kernel_rfl) ?_
                    refine WL.done rfl ?_
                    refine QX.then_normal (hK785 _ _ ?_)
                    refine WC.know 169 (.bool (decide (((headL (L.filter (findP e739.vip e739.first now2))).exp) < e739.exp))) (.bool false) rfl (congrArg Value.bool (by exact decide_eq_false (by have q_ := (alone_find hal3 (List.mem_of_getElem? he740) (by omega)).2.2.2; omega))) ?_
                    refine WC.cond_false rfl ?_
                    refine WC.skip ?_
                    refine QX.then_normal (hK783 _ _ ?_)
                    refine WC.seq (fun K787 hK788 => ?_)
                    refine WC.region ?_
                    refine WL.runs 1 [(170, .pointer (some ⟨g744, 3, none⟩))] (fun _ => by kernel_rfl) ?_
                    refine WL.load 3 (.pointer (some ⟨g744, 3, none⟩)) (.int .i64 e739.exp) 171 (by kernel_rfl) (run_ld (hC778.get 3 rfl) rfl) ?_
                    refine WL.runs 3 [(174, .bool (decide (e739.exp ≥ now2))), (173, .bool (decide (e739.exp ≥ now2))), (172, .int .i64 now2)] (fun _ => by kernel_rfl) ?_
                    refine WL.know 174 (.bool (decide (e739.exp ≥ now2))) (.bool true) rfl (congrArg Value.bool (by exact t786b)) ?_
                    refine WL.runs 2 [(176, .pointer (some ⟨g744, 2, none⟩)), (175, .slice A3 L.length c3)] (fun _ => by kernel_rfl) ?_
                    refine WL.load 23 (.pointer (some ⟨g744, 2, none⟩)) (.int .u32 e739.dip) 177 (by kernel_rfl) (run_ld (hC778.get 3 rfl) rfl) ?_
                    refine WL.runs 1 [(178, .int .i64 now2)] (fun _ => by kernel_rfl) ?_
                    refine WL.call rfl rfl rfl rfl rfl (by kernel_rfl) (Of_ct A3 c3 L e739.dip now2 w775 (own_rd ho780 encL_len (by decide)) (by first | exact hal3.okl | exact hal2.okl | exact hal.okl) (by first | omega | simp)) ?_
                    rintro _ w791 ⟨v_, rfl, hF790, ho789⟩
                    have hC792 := hC778.callN hF790 (own_ge ho789) (own_lt ho789)
                    obtain ⟨A793, c794, rfl, hle795⟩ := own_form ho789
                    have ho797 := own_base (b' := 0) ho789 (fun _ _ => Nat.zero_le _)
                    refine ⟨_, rfl, ?_⟩
                    have ho798 := own_fr ho779 hF790 (by simp)
                    have ho799 := own_fr ho780 hF790 (by simp)
                    have ho800 := own_fr ho781 hF790 (by simp)
                    refine WL.runs 3 [(182, .bool (decide (((L.filter (ofP e739.dip now2)).length : Int) > 4))), (181, .bool (decide (((L.filter (ofP e739.dip now2)).length : Int) > 4))), (180, .int .i64 ((L.filter (ofP e739.dip now2)).length : Int))] (fun _ => by kernel_rfl) ?_
                    refine WL.done rfl ?_
                    refine QX.then_normal (hK788 _ _ ?_)
                    refine WC.know 182 (.bool (decide (((L.filter (ofP e739.dip now2)).length : Int) > 4))) (.bool false) rfl (congrArg Value.bool (by exact decide_eq_false (by have q_ := alone_of hal3 e739.dip; omega))) ?_
                    refine WC.cond_false rfl ?_
                    refine WC.skip ?_
                    refine QX.block_normal ?_
                    refine QX.then_normal (hK736 _ _ ?_)
                    refine WC.region ?_
                    refine WL.runs 1 [(183, .int .i64 (IntKind.i64.wrap ((i3 : Int) + 1)))] (fun _ => by kernel_rfl) ?_
                    refine WL.recast (show (.int .i64 (IntKind.i64.wrap ((i3 : Int) + 1)) : Value) = .int .i64 ((i3 : Int) + 1) from by rw [wrap_in_i64 ((i3 : Int) + 1) (by omega) (by omega)]) ?_
                    refine WL.runs 1 [(127, .int .i64 ((i3 : Int) + 1))] (fun _ => by kernel_rfl) ?_
                    refine WL.done rfl ?_
                    refine QX.then_normal ?_
                    have hC802 := hC792.pick [0, 1, 2] [0, 1, 2] rfl rfl
                    refine fun a_ ha_ => hK725 _ _ _ ?_ ⟨i3 + 1, rfl, rfl, hC802, ho798, ho799, ho800, by omega⟩ a_ (ha_.weaken (sub_of ⟨rfl, rfl, rfl, rfl, rfl, rfl, rfl, rfl, rfl, rfl, rfl, trivial⟩))
                    omega
                  · -- e739.exp ≥ now2: false
                    have t786 : e739.exp < now2 := by have q_ := of_decide_eq_false t786b; omega
                    refine WL.runs 24 [(169, .bool false), (168, undef), (167, undef), (166, undef), (165, undef), (164, undef), (163, undef), (162, undef), (161, undef), (160, undef), (159, undef), (158, undef), (157, undef), (156, undef), (155, undef), (154, undef), (153, undef), (152, undef), (151, undef), (150, undef), (149, undef), (148, undef), (147, undef), (146, undef)] (fun _ => by kernel_rfl) ?_
                    refine WL.done rfl ?_
                    refine QX.then_normal (hK785 _ _ ?_)
                    refine WC.cond_false rfl ?_
                    refine WC.skip ?_
                    refine QX.then_normal (hK783 _ _ ?_)
                    refine WC.seq (fun K803 hK804 => ?_)
                    refine WC.region ?_
                    refine WL.runs 1 [(170, .pointer (some ⟨g744, 3, none⟩))] (fun _ => by kernel_rfl) ?_
                    refine WL.load 3 (.pointer (some ⟨g744, 3, none⟩)) (.int .i64 e739.exp) 171 (by kernel_rfl) (run_ld (hC778.get 3 rfl) rfl) ?_
                    refine WL.runs 3 [(174, .bool (decide (e739.exp ≥ now2))), (173, .bool (decide (e739.exp ≥ now2))), (172, .int .i64 now2)] (fun _ => by kernel_rfl) ?_
                    refine WL.know 174 (.bool (decide (e739.exp ≥ now2))) (.bool false) rfl (congrArg Value.bool (by exact t786b)) ?_
                    refine WL.runs 8 [(182, .bool false), (181, undef), (180, undef), (179, undef), (178, undef), (177, undef), (176, undef), (175, undef)] (fun _ => by kernel_rfl) ?_
                    refine WL.done rfl ?_
                    refine QX.then_normal (hK804 _ _ ?_)
                    refine WC.cond_false rfl ?_
                    refine WC.skip ?_
                    refine QX.block_normal ?_
                    refine QX.then_normal (hK736 _ _ ?_)
                    refine WC.region ?_
                    refine WL.runs 1 [(183, .int .i64 (IntKind.i64.wrap ((i3 : Int) + 1)))] (fun _ => by kernel_rfl) ?_
                    refine WL.recast (show (.int .i64 (IntKind.i64.wrap ((i3 : Int) + 1)) : Value) = .int .i64 ((i3 : Int) + 1) from by rw [wrap_in_i64 ((i3 : Int) + 1) (by omega) (by omega)]) ?_
                    refine WL.runs 1 [(127, .int .i64 ((i3 : Int) + 1))] (fun _ => by kernel_rfl) ?_
                    refine WL.done rfl ?_
                    refine QX.then_normal ?_
                    have hC805 := hC778.pick [0, 1, 2] [0, 1, 2] rfl rfl
                    refine fun a_ ha_ => hK725 _ _ _ ?_ ⟨i3 + 1, rfl, rfl, hC805, ho779, ho780, ho781, by omega⟩ a_ (ha_.weaken (sub_of ⟨rfl, rfl, rfl, rfl, rfl, rfl, rfl, rfl, rfl, rfl, rfl, trivial⟩))
                    omega
                · -- (i3 : Int) < (n4 : Int): false
                  have t734 : (n4 : Int) ≤ (i3 : Int) := by have q_ := of_decide_eq_false t734b; omega
                  refine WC.cond_false rfl ?_
                  refine WC.exit ?_
                  refine QX.then_exit ?_
                  refine QX.then_exit ?_
                  refine QX.block_hit ?_
                  refine QX.block_normal ?_
                  refine QX.then_normal (hK47 _ _ ?_)
                  refine WC.region ?_
                  refine WL.runs 1 [(184, .int .i64 (IntKind.i64.wrap ((k : Int) + 1)))] (fun _ => by kernel_rfl) ?_
                  refine WL.recast (show (.int .i64 (IntKind.i64.wrap ((k : Int) + 1)) : Value) = .int .i64 ((k : Int) + 1) from by rw [wrap_in_i64 ((k : Int) + 1) (by omega) (by omega)]) ?_
                  refine WL.runs 1 [(29, .int .i64 ((k : Int) + 1))] (fun _ => by kernel_rfl) ?_
                  refine WL.done rfl ?_
                  refine QX.then_normal ?_
                  have hC806 := hC729.pick [] [0, 1] rfl rfl
                  refine fun a_ ha_ => hK36 _ _ _ ?_ ⟨k + 1, A3, c3, A4, n4, c4, L, G, now2, rfl, rfl, hC806, rowG_m727, rowL_m727, by omega, by omega, by omega, by omega, by omega, hal3⟩ a_ (ha_.weaken (sub_of ⟨rfl, rfl, rfl, rfl, rfl, rfl, rfl, trivial⟩))
                  omega
          · -- (n4 : Int) > 0: false
            have t358 : (n4 : Int) ≤ 0 := by have q_ := of_decide_eq_false t358b; omega
            refine WC.cond_false rfl ?_
            refine WC.skip ?_
            refine QX.block_normal ?_
            refine QX.then_normal (hK72 _ _ ?_)
            refine WC.seq (fun K807 hK808 => ?_)
            refine WC.region ?_
            refine WL.runs 3 [(127, .int .i64 0), (126, .int .i64 (n4 : Int)), (125, .slice A4 n4 c4)] (fun _ => by kernel_rfl) ?_
            refine WL.done rfl ?_
            refine QX.then_normal (hK808 _ _ ?_)
            refine WC.block ?_
            have hal3 : Alone L G now2 := hal2
            have hcg_ := own_count encL_len (by decide) ho67
            refine WC.loop (fun m_ E_ w_ => ∃ (i3 : Nat), m_ = n4 - i3 ∧ E_ = [(0, .slice A ops.length c), (3, .slice A3 L.length c3), (4, .slice A4 n4 c4), (5, .int .i64 now2), (7, .pointer (some ⟨g56, 0, none⟩)), (27, .slice A ops.length c), (28, .int .i64 (ops.length : Int)), (29, .int .i64 (k : Int)), (125, .slice A4 n4 c4), (126, .int .i64 (n4 : Int)), (127, .int .i64 (i3 : Int))] ∧ Cx w [] w_ [(g56, .cells #[.int .i64 e50.kind, .int .u32 e50.vip, .int .u32 e50.dip, .int .i64 e50.n, .int .i64 e50.wait] 54)] [blk (.slice A4 n4 c4), blk (.slice A3 L.length c3)] ∧ World.ownsRow w_ 0 27 4 (.slice A4 n4 c4) n4 (G.flatMap encL) ∧ World.ownsRow w_ 0 27 4 (.slice A3 L.length c3) L.length (L.flatMap encL) ∧ (i3 ≤ n4)) ⟨_, _, ⟨0, rfl, rfl, hC66, ho67, ho68, Nat.zero_le _⟩, sub_of ⟨rfl, rfl, rfl, rfl, rfl, rfl, rfl, rfl, rfl, rfl, rfl, trivial⟩⟩ (fun m812 E_ w813 K809 hK810 hI811 => ?_)
            obtain ⟨i3, rfl, rfl, hC814, rowG_m812, rowL_m812, hi3⟩ := hI811
            refine WC.seq (fun K815 hK816 => ?_)
            refine WC.region ?_
            refine WL.runs 1 [(128, .bool (decide ((i3 : Int) < (n4 : Int))))] (fun _ => by kernel_rfl) ?_
            refine WL.done rfl ?_
            refine QX.then_normal (hK816 _ _ ?_)
            refine WC.seq (fun K817 hK818 => ?_)
            refine WC.test_at 128 (decide ((i3 : Int) < (n4 : Int))) rfl (fun t819b => ?_) (fun t819b => ?_)
            · -- (i3 : Int) < (n4 : Int): true
              have t819 : (i3 : Int) < (n4 : Int) := by have q_ := of_decide_eq_true t819b; omega
              refine WC.cond_true rfl ?_
              refine WC.skip ?_
              refine QX.then_normal (hK818 _ _ ?_)
              refine WC.seq (fun K820 hK821 => ?_)
              refine WC.block ?_
              refine WC.seq (fun K822 hK823 => ?_)
              refine WC.region ?_
              have hn828 := own_count encL_len (by decide) rowG_m812
              obtain ⟨e824, he825⟩ := get_some (xs := G) (i := i3) (by omega)
              obtain ⟨b826, hA827⟩ := own_addr (by decide) encL_len rowG_m812 he825
              refine WL.index A4 n4 c4 129 .i64 (i3 : Int) b826 0 i3 4 (by kernel_rfl) hA827 (by omega) (by omega) (i3 * 4) (by first | (simp; done) | omega) ?_
              refine WL.load 27 (.pointer (some ⟨b826, i3 * 4, none⟩)) (.agg #[.int .u32 e824.vip, .int .i64 e824.first, .int .u32 e824.dip, .int .i64 e824.exp]) 130 (by kernel_rfl) (run_rdN (l := [.int .u32 e824.vip, .int .i64 e824.first, .int .u32 e824.dip, .int .i64 e824.exp]) rfl rfl (fun j u hu => by have hq_ := Rd.cell (own_rd rowG_m812 encL_len (by decide)) hA827 he825 j u hu; simpa [Nat.add_assoc] using hq_)) ?_
              refine WL.newM hC814 (fun b => .pointer (some ⟨b, 0, none⟩)) (.cells #[.int .u32 0, .int .i64 0, .int .u32 0, .int .i64 0] 27) 18 (fun _ => by kernel_rfl) (fun g829 w830 hb833 hF831 hC832 => ?_)
              have ho834 := own_fr rowG_m812 hF831 (by simp)
              have ho835 := own_fr rowL_m812 hF831 (by simp)
              refine WL.storeM hC832 1 27 g829 0 (.agg #[.int .u32 e824.vip, .int .i64 e824.first, .int .u32 e824.dip, .int .i64 e824.exp]) (by kernel_rfl) rfl rfl (fun w836 hF838 hC839 => ?_)
              have ho840 := own_fr ho834 hF838 (hC832.apartM 0 1 rfl rfl)
              have ho841 := own_fr ho835 hF838 (hC832.apartM 1 1 rfl rfl)
              refine WL.done rfl ?_
              refine QX.then_normal (hK823 _ _ ?_)
              refine WC.seq (fun K842 hK843 => ?_)
              refine WC.region ?_
              refine WL.runs 2 [(133, .pointer (some ⟨g829, 0, none⟩)), (132, .slice A3 L.length c3)] (fun _ => by kernel_rfl) ?_
              refine WL.load 23 (.pointer (some ⟨g829, 0, none⟩)) (.int .u32 e824.vip) 134 (by kernel_rfl) (run_ld (hC839.get 1 rfl) rfl) ?_
              refine WL.runs 1 [(135, .pointer (some ⟨g829, 1, none⟩))] (fun _ => by kernel_rfl) ?_
              refine WL.load 3 (.pointer (some ⟨g829, 1, none⟩)) (.int .i64 e824.first) 136 (by kernel_rfl) (run_ld (hC839.get 1 rfl) rfl) ?_
              refine WL.runs 1 [(137, .int .i64 now2)] (fun _ => by kernel_rfl) ?_
              obtain ⟨_, _, _, _, hf1_, hf2_, _⟩ := hal3.ok _ (List.mem_of_getElem? he825)
              refine WL.call rfl rfl rfl rfl rfl (by kernel_rfl) (Find_ct A3 c3 L e824.vip e824.first now2 w836 (own_rd ho841 encL_len (by decide)) (by first | exact hal3.okl | exact hal2.okl | exact hal.okl) (by first | omega | simp) (by omega)) ?_
              rintro _ w845 ⟨rfl, hF844⟩
              refine ⟨_, rfl, ?_⟩
              have hC846 := hC839.call hF844
              have ho847 := own_fr ho840 hF844 (by simp)
              have ho848 := own_fr ho841 hF844 (by simp)
              refine WL.runs 3 [(140, .bool (hasL (L.filter (findP e824.vip e824.first now2)))), (139, .agg #[.int .u32 ((headL (L.filter (findP e824.vip e824.first now2))).vip), .int .i64 ((headL (L.filter (findP e824.vip e824.first now2))).first), .int .u32 ((headL (L.filter (findP e824.vip e824.first now2))).dip), .int .i64 ((headL (L.filter (findP e824.vip e824.first now2))).exp)]), (131, .tuple #[.agg #[.int .u32 ((headL (L.filter (findP e824.vip e824.first now2))).vip), .int .i64 ((headL (L.filter (findP e824.vip e824.first now2))).first), .int .u32 ((headL (L.filter (findP e824.vip e824.first now2))).dip), .int .i64 ((headL (L.filter (findP e824.vip e824.first now2))).exp)], .bool (hasL (L.filter (findP e824.vip e824.first now2)))])] (fun _ => by kernel_rfl) ?_
              refine WL.newM hC846 (fun b => .pointer (some ⟨b, 0, none⟩)) (.cells #[.int .u32 0, .int .i64 0, .int .u32 0, .int .i64 0] 27) 19 (fun _ => by kernel_rfl) (fun g849 w850 hb853 hF851 hC852 => ?_)
              have ho854 := own_fr ho847 hF851 (by simp)
              have ho855 := own_fr ho848 hF851 (by simp)
              refine WL.storeM hC852 2 27 g849 0 (.agg #[.int .u32 ((headL (L.filter (findP e824.vip e824.first now2))).vip), .int .i64 ((headL (L.filter (findP e824.vip e824.first now2))).first), .int .u32 ((headL (L.filter (findP e824.vip e824.first now2))).dip), .int .i64 ((headL (L.filter (findP e824.vip e824.first now2))).exp)]) (by kernel_rfl) rfl rfl (fun w856 hF858 hC859 => ?_)
              have ho860 := own_fr ho854 hF858 (hC852.apartM 0 2 rfl rfl)
              have ho861 := own_fr ho855 hF858 (hC852.apartM 1 2 rfl rfl)
              refine WL.runs 1 [(20, .bool (hasL (L.filter (findP e824.vip e824.first now2))))] (fun _ => by kernel_rfl) ?_
              refine WL.done rfl ?_
              refine QX.then_normal (hK843 _ _ ?_)
              refine WC.seq (fun K862 hK863 => ?_)
              refine WC.seq (fun K864 hK865 => ?_)
              refine WC.region ?_
              refine WL.runs 1 [(141, .pointer (some ⟨g829, 3, none⟩))] (fun _ => by kernel_rfl) ?_
              refine WL.load 3 (.pointer (some ⟨g829, 3, none⟩)) (.int .i64 e824.exp) 142 (by kernel_rfl) (run_ld (hC859.get 1 rfl) rfl) ?_
              refine WL.runs 3 [(145, .bool (decide (e824.exp ≥ now2))), (144, .bool (decide (e824.exp ≥ now2))), (143, .int .i64 now2)] (fun _ => by kernel_rfl) ?_
              refine WL.test_at 145 (decide (e824.exp ≥ now2)) rfl (fun t866b => ?_) (fun t866b => ?_)
              · -- e824.exp ≥ now2: true
                have t866 : now2 ≤ e824.exp := by have q_ := of_decide_eq_true t866b; omega
                refine WL.runs 3 [(148, .bool (!(hasL (L.filter (findP e824.vip e824.first now2))))), (147, .bool (!(hasL (L.filter (findP e824.vip e824.first now2))))), (146, .bool (hasL (L.filter (findP e824.vip e824.first now2))))] (fun _ => by kernel_rfl) ?_
                refine WL.know 148 (.bool (!(hasL (L.filter (findP e824.vip e824.first now2))))) (.bool false) rfl (congrArg Value.bool (by rw [(alone_find hal3 (List.mem_of_getElem? he825) (by omega)).1]; rfl)) ?_
                refine WL.runs 1 [(149, .pointer (some ⟨g849, 2, none⟩))] (fun _ => by kernel_rfl) ?_
                refine WL.load 23 (.pointer (some ⟨g849, 2, none⟩)) (.int .u32 ((headL (L.filter (findP e824.vip e824.first now2))).dip)) 150 (by kernel_rfl) (run_ld (hC859.get 2 rfl) rfl) ?_
                refine WL.runs 1 [(151, .pointer (some ⟨g829, 2, none⟩))] (fun _ => by kernel_rfl) ?_
                refine WL.load 23 (.pointer (some ⟨g829, 2, none⟩)) (.int .u32 e824.dip) 152 (by kernel_rfl) (run_ld (hC859.get 1 rfl) rfl) ?_
                refine WL.runs 3 [(155, .bool (((headL (L.filter (findP e824.vip e824.first now2))).dip) != e824.dip)), (154, .bool (((headL (L.filter (findP e824.vip e824.first now2))).dip) != e824.dip)), (153, .bool (((headL (L.filter (findP e824.vip e824.first now2))).dip) != e824.dip))] (fun _ => by kernel_rfl) ?_
                refine WL.know 155 (.bool (((headL (L.filter (findP e824.vip e824.first now2))).dip) != e824.dip)) (.bool false) rfl (congrArg Value.bool (by rw [(alone_find hal3 (List.mem_of_getElem? he825) (by omega)).2.1]; simp)) ?_
                refine WL.runs 1 [(156, .pointer (some ⟨g849, 1, none⟩))] (fun _ => by kernel_rfl) ?_
                refine WL.load 3 (.pointer (some ⟨g849, 1, none⟩)) (.int .i64 ((headL (L.filter (findP e824.vip e824.first now2))).first)) 157 (by kernel_rfl) (run_ld (hC859.get 2 rfl) rfl) ?_
                refine WL.runs 1 [(158, .pointer (some ⟨g829, 1, none⟩))] (fun _ => by kernel_rfl) ?_
                refine WL.load 3 (.pointer (some ⟨g829, 1, none⟩)) (.int .i64 e824.first) 159 (by kernel_rfl) (run_ld (hC859.get 1 rfl) rfl) ?_
                refine WL.runs 3 [(162, .bool (((headL (L.filter (findP e824.vip e824.first now2))).first) != e824.first)), (161, .bool (((headL (L.filter (findP e824.vip e824.first now2))).first) != e824.first)), (160, .bool (((headL (L.filter (findP e824.vip e824.first now2))).first) != e824.first))] (fun _ => by kernel_rfl) ?_
                refine WL.know 162 (.bool (((headL (L.filter (findP e824.vip e824.first now2))).first) != e824.first)) (.bool false) rfl (congrArg Value.bool (by rw [(alone_find hal3 (List.mem_of_getElem? he825) (by omega)).2.2.1]; simp)) ?_
                refine WL.runs 1 [(163, .pointer (some ⟨g849, 3, none⟩))] (fun _ => by kernel_rfl) ?_
                refine WL.load 3 (.pointer (some ⟨g849, 3, none⟩)) (.int .i64 ((headL (L.filter (findP e824.vip e824.first now2))).exp)) 164 (by kernel_rfl) (run_ld (hC859.get 2 rfl) rfl) ?_
                refine WL.runs 1 [(165, .pointer (some ⟨g829, 3, none⟩))] (fun _ => by kernel_rfl) ?_
                refine WL.load 3 (.pointer (some ⟨g829, 3, none⟩)) (.int .i64 e824.exp) 166 (by kernel_rfl) (run_ld (hC859.get 1 rfl) rfl) ?_
                refine WL.runs 3 [(169, .bool (decide (((headL (L.filter (findP e824.vip e824.first now2))).exp) < e824.exp))), (168, .bool (decide (((headL (L.filter (findP e824.vip e824.first now2))).exp) < e824.exp))), (167, .bool (decide (((headL (L.filter (findP e824.vip e824.first now2))).exp) < e824.exp)))] (fun _ => by kernel_rfl) ?_
                refine WL.done rfl ?_
                refine QX.then_normal (hK865 _ _ ?_)
                refine WC.know 169 (.bool (decide (((headL (L.filter (findP e824.vip e824.first now2))).exp) < e824.exp))) (.bool false) rfl (congrArg Value.bool (by exact decide_eq_false (by have q_ := (alone_find hal3 (List.mem_of_getElem? he825) (by omega)).2.2.2; omega))) ?_
                refine WC.cond_false rfl ?_
                refine WC.skip ?_
                refine QX.then_normal (hK863 _ _ ?_)
                refine WC.seq (fun K867 hK868 => ?_)
                refine WC.region ?_
                refine WL.runs 1 [(170, .pointer (some ⟨g829, 3, none⟩))] (fun _ => by kernel_rfl) ?_
                refine WL.load 3 (.pointer (some ⟨g829, 3, none⟩)) (.int .i64 e824.exp) 171 (by kernel_rfl) (run_ld (hC859.get 1 rfl) rfl) ?_
                refine WL.runs 3 [(174, .bool (decide (e824.exp ≥ now2))), (173, .bool (decide (e824.exp ≥ now2))), (172, .int .i64 now2)] (fun _ => by kernel_rfl) ?_
                refine WL.know 174 (.bool (decide (e824.exp ≥ now2))) (.bool true) rfl (congrArg Value.bool (by exact t866b)) ?_
                refine WL.runs 2 [(176, .pointer (some ⟨g829, 2, none⟩)), (175, .slice A3 L.length c3)] (fun _ => by kernel_rfl) ?_
                refine WL.load 23 (.pointer (some ⟨g829, 2, none⟩)) (.int .u32 e824.dip) 177 (by kernel_rfl) (run_ld (hC859.get 1 rfl) rfl) ?_
                refine WL.runs 1 [(178, .int .i64 now2)] (fun _ => by kernel_rfl) ?_
                refine WL.call rfl rfl rfl rfl rfl (by kernel_rfl) (Of_ct A3 c3 L e824.dip now2 w856 (own_rd ho861 encL_len (by decide)) (by first | exact hal3.okl | exact hal2.okl | exact hal.okl) (by first | omega | simp)) ?_
                rintro _ w871 ⟨v_, rfl, hF870, ho869⟩
                have hC872 := hC859.callN hF870 (own_ge ho869) (own_lt ho869)
                obtain ⟨A873, c874, rfl, hle875⟩ := own_form ho869
                have ho877 := own_base (b' := 0) ho869 (fun _ _ => Nat.zero_le _)
                refine ⟨_, rfl, ?_⟩
                have ho878 := own_fr ho860 hF870 (by simp)
                have ho879 := own_fr ho861 hF870 (by simp)
                refine WL.runs 3 [(182, .bool (decide (((L.filter (ofP e824.dip now2)).length : Int) > 4))), (181, .bool (decide (((L.filter (ofP e824.dip now2)).length : Int) > 4))), (180, .int .i64 ((L.filter (ofP e824.dip now2)).length : Int))] (fun _ => by kernel_rfl) ?_
                refine WL.done rfl ?_
                refine QX.then_normal (hK868 _ _ ?_)
                refine WC.know 182 (.bool (decide (((L.filter (ofP e824.dip now2)).length : Int) > 4))) (.bool false) rfl (congrArg Value.bool (by exact decide_eq_false (by have q_ := alone_of hal3 e824.dip; omega))) ?_
                refine WC.cond_false rfl ?_
                refine WC.skip ?_
                refine QX.block_normal ?_
                refine QX.then_normal (hK821 _ _ ?_)
                refine WC.region ?_
                refine WL.runs 1 [(183, .int .i64 (IntKind.i64.wrap ((i3 : Int) + 1)))] (fun _ => by kernel_rfl) ?_
                refine WL.recast (show (.int .i64 (IntKind.i64.wrap ((i3 : Int) + 1)) : Value) = .int .i64 ((i3 : Int) + 1) from by rw [wrap_in_i64 ((i3 : Int) + 1) (by omega) (by omega)]) ?_
                refine WL.runs 1 [(127, .int .i64 ((i3 : Int) + 1))] (fun _ => by kernel_rfl) ?_
                refine WL.done rfl ?_
                refine QX.then_normal ?_
                have hC881 := hC872.pick [0] [0, 1] rfl rfl
                refine fun a_ ha_ => hK810 _ _ _ ?_ ⟨i3 + 1, rfl, rfl, hC881, ho878, ho879, by omega⟩ a_ (ha_.weaken (sub_of ⟨rfl, rfl, rfl, rfl, rfl, rfl, rfl, rfl, rfl, rfl, rfl, trivial⟩))
                omega
              · -- e824.exp ≥ now2: false
                have t866 : e824.exp < now2 := by have q_ := of_decide_eq_false t866b; omega
                refine WL.runs 24 [(169, .bool false), (168, undef), (167, undef), (166, undef), (165, undef), (164, undef), (163, undef), (162, undef), (161, undef), (160, undef), (159, undef), (158, undef), (157, undef), (156, undef), (155, undef), (154, undef), (153, undef), (152, undef), (151, undef), (150, undef), (149, undef), (148, undef), (147, undef), (146, undef)] (fun _ => by kernel_rfl) ?_
                refine WL.done rfl ?_
                refine QX.then_normal (hK865 _ _ ?_)
                refine WC.cond_false rfl ?_
                refine WC.skip ?_
                refine QX.then_normal (hK863 _ _ ?_)
                refine WC.seq (fun K882 hK883 => ?_)
                refine WC.region ?_
                refine WL.runs 1 [(170, .pointer (some ⟨g829, 3, none⟩))] (fun _ => by kernel_rfl) ?_
                refine WL.load 3 (.pointer (some ⟨g829, 3, none⟩)) (.int .i64 e824.exp) 171 (by kernel_rfl) (run_ld (hC859.get 1 rfl) rfl) ?_
                refine WL.runs 3 [(174, .bool (decide (e824.exp ≥ now2))), (173, .bool (decide (e824.exp ≥ now2))), (172, .int .i64 now2)] (fun _ => by kernel_rfl) ?_
                refine WL.know 174 (.bool (decide (e824.exp ≥ now2))) (.bool false) rfl (congrArg Value.bool (by exact t866b)) ?_
                refine WL.runs 8 [(182, .bool false), (181, undef), (180, undef), (179, undef), (178, undef), (177, undef), (176, undef), (175, undef)] (fun _ => by kernel_rfl) ?_
                refine WL.done rfl ?_
                refine QX.then_normal (hK883 _ _ ?_)
                refine WC.cond_false rfl ?_
                refine WC.skip ?_
                refine QX.block_normal ?_
                refine QX.then_normal (hK821 _ _ ?_)
                refine WC.region ?_
                refine WL.runs 1 [(183, .int .i64 (IntKind.i64.wrap ((i3 : Int) + 1)))] (fun _ => by kernel_rfl) ?_
                refine WL.recast (show (.int .i64 (IntKind.i64.wrap ((i3 : Int) + 1)) : Value) = .int .i64 ((i3 : Int) + 1) from by rw [wrap_in_i64 ((i3 : Int) + 1) (by omega) (by omega)]) ?_
                refine WL.runs 1 [(127, .int .i64 ((i3 : Int) + 1))] (fun _ => by kernel_rfl) ?_
                refine WL.done rfl ?_
                refine QX.then_normal ?_
                have hC884 := hC859.pick [0] [0, 1] rfl rfl
                refine fun a_ ha_ => hK810 _ _ _ ?_ ⟨i3 + 1, rfl, rfl, hC884, ho860, ho861, by omega⟩ a_ (ha_.weaken (sub_of ⟨rfl, rfl, rfl, rfl, rfl, rfl, rfl, rfl, rfl, rfl, rfl, trivial⟩))
                omega
            · -- (i3 : Int) < (n4 : Int): false
              have t819 : (n4 : Int) ≤ (i3 : Int) := by have q_ := of_decide_eq_false t819b; omega
              refine WC.cond_false rfl ?_
              refine WC.exit ?_
              refine QX.then_exit ?_
              refine QX.then_exit ?_
              refine QX.block_hit ?_
              refine QX.block_normal ?_
              refine QX.then_normal (hK47 _ _ ?_)
              refine WC.region ?_
              refine WL.runs 1 [(184, .int .i64 (IntKind.i64.wrap ((k : Int) + 1)))] (fun _ => by kernel_rfl) ?_
              refine WL.recast (show (.int .i64 (IntKind.i64.wrap ((k : Int) + 1)) : Value) = .int .i64 ((k : Int) + 1) from by rw [wrap_in_i64 ((k : Int) + 1) (by omega) (by omega)]) ?_
              refine WL.runs 1 [(29, .int .i64 ((k : Int) + 1))] (fun _ => by kernel_rfl) ?_
              refine WL.done rfl ?_
              refine QX.then_normal ?_
              have hC885 := hC814.pick [] [0, 1] rfl rfl
              refine fun a_ ha_ => hK36 _ _ _ ?_ ⟨k + 1, A3, c3, A4, n4, c4, L, G, now2, rfl, rfl, hC885, rowG_m812, rowL_m812, by omega, by omega, by omega, by omega, by omega, hal3⟩ a_ (ha_.weaken (sub_of ⟨rfl, rfl, rfl, rfl, rfl, rfl, rfl, trivial⟩))
              omega
        · -- e50.kind = 1: false
          have t355 : ¬ (e50.kind = 1) := by simpa using t355b
          refine WC.cond_false rfl ?_
          refine WC.region ?_
          refine WL.runs 2 [(43, .int .i64 now2), (42, .slice A3 L.length c3)] (fun _ => by kernel_rfl) ?_
          refine WL.call rfl rfl rfl rfl rfl (by kernel_rfl) (Prune_ct A3 c3 L now2 w63 (own_rd ho68 encL_len (by decide)) (by first | exact hal3.okl | exact hal2.okl | exact hal.okl) (by first | omega | simp)) ?_
          rintro _ w888 ⟨v_, rfl, hF887, ho886⟩
          have hC889 := hC66.callN hF887 (own_ge ho886) (own_lt ho886)
          obtain ⟨A890, c891, rfl, hle892⟩ := own_form ho886
          have ho894 := own_base (b' := 0) ho886 (fun _ _ => Nat.zero_le _)
          refine ⟨_, rfl, ?_⟩
          have ho895 := own_fr ho67 hF887 (by simp)
          have ho896 := own_fr ho68 hF887 (by simp)
          refine WL.runs 1 [(3, .slice A890 ((L.filter (pruneP now2)).length) c891)] (fun _ => by kernel_rfl) ?_
          refine WL.done rfl ?_
          refine QX.block_normal ?_
          refine QX.then_normal (hK72 _ _ ?_)
          refine WC.seq (fun K898 hK899 => ?_)
          refine WC.region ?_
          refine WL.runs 3 [(127, .int .i64 0), (126, .int .i64 (n4 : Int)), (125, .slice A4 n4 c4)] (fun _ => by kernel_rfl) ?_
          refine WL.done rfl ?_
          refine QX.then_normal (hK899 _ _ ?_)
          refine WC.block ?_
          have hl_ := List.length_filter_le (pruneP now2) L
          have hal3 : Alone (L.filter (pruneP now2)) G now2 := alone_prune hal2
          have hcg_ := own_count encL_len (by decide) ho895
          refine WC.loop (fun m_ E_ w_ => ∃ (i3 : Nat), m_ = n4 - i3 ∧ E_ = [(0, .slice A ops.length c), (3, .slice A890 ((L.filter (pruneP now2)).length) c891), (4, .slice A4 n4 c4), (5, .int .i64 now2), (7, .pointer (some ⟨g56, 0, none⟩)), (27, .slice A ops.length c), (28, .int .i64 (ops.length : Int)), (29, .int .i64 (k : Int)), (125, .slice A4 n4 c4), (126, .int .i64 (n4 : Int)), (127, .int .i64 (i3 : Int))] ∧ Cx w [] w_ [(g56, .cells #[.int .i64 e50.kind, .int .u32 e50.vip, .int .u32 e50.dip, .int .i64 e50.n, .int .i64 e50.wait] 54)] [blk (.slice A4 n4 c4), blk (.slice A3 L.length c3), blk (.slice A890 ((L.filter (pruneP now2)).length) c891)] ∧ World.ownsRow w_ 0 27 4 (.slice A4 n4 c4) n4 (G.flatMap encL) ∧ World.ownsRow w_ 0 27 4 (.slice A3 L.length c3) L.length (L.flatMap encL) ∧ World.ownsRow w_ 0 27 4 (.slice A890 ((L.filter (pruneP now2)).length) c891) ((L.filter (pruneP now2)).length) ((L.filter (pruneP now2)).flatMap encL) ∧ (i3 ≤ n4)) ⟨_, _, ⟨0, rfl, rfl, hC889, ho895, ho896, ho894, Nat.zero_le _⟩, sub_of ⟨rfl, rfl, rfl, rfl, rfl, rfl, rfl, rfl, rfl, rfl, rfl, trivial⟩⟩ (fun m903 E_ w904 K900 hK901 hI902 => ?_)
          obtain ⟨i3, rfl, rfl, hC905, rowG_m903, rowL_m903, row897_m903, hi3⟩ := hI902
          refine WC.seq (fun K906 hK907 => ?_)
          refine WC.region ?_
          refine WL.runs 1 [(128, .bool (decide ((i3 : Int) < (n4 : Int))))] (fun _ => by kernel_rfl) ?_
          refine WL.done rfl ?_
          refine QX.then_normal (hK907 _ _ ?_)
          refine WC.seq (fun K908 hK909 => ?_)
          refine WC.test_at 128 (decide ((i3 : Int) < (n4 : Int))) rfl (fun t910b => ?_) (fun t910b => ?_)
          · -- (i3 : Int) < (n4 : Int): true
            have t910 : (i3 : Int) < (n4 : Int) := by have q_ := of_decide_eq_true t910b; omega
            refine WC.cond_true rfl ?_
            refine WC.skip ?_
            refine QX.then_normal (hK909 _ _ ?_)
            refine WC.seq (fun K911 hK912 => ?_)
            refine WC.block ?_
            refine WC.seq (fun K913 hK914 => ?_)
            refine WC.region ?_
            have hn919 := own_count encL_len (by decide) rowG_m903
            obtain ⟨e915, he916⟩ := get_some (xs := G) (i := i3) (by omega)
            obtain ⟨b917, hA918⟩ := own_addr (by decide) encL_len rowG_m903 he916
            refine WL.index A4 n4 c4 129 .i64 (i3 : Int) b917 0 i3 4 (by kernel_rfl) hA918 (by omega) (by omega) (i3 * 4) (by first | (simp; done) | omega) ?_
            refine WL.load 27 (.pointer (some ⟨b917, i3 * 4, none⟩)) (.agg #[.int .u32 e915.vip, .int .i64 e915.first, .int .u32 e915.dip, .int .i64 e915.exp]) 130 (by kernel_rfl) (run_rdN (l := [.int .u32 e915.vip, .int .i64 e915.first, .int .u32 e915.dip, .int .i64 e915.exp]) rfl rfl (fun j u hu => by have hq_ := Rd.cell (own_rd rowG_m903 encL_len (by decide)) hA918 he916 j u hu; simpa [Nat.add_assoc] using hq_)) ?_
            refine WL.newM hC905 (fun b => .pointer (some ⟨b, 0, none⟩)) (.cells #[.int .u32 0, .int .i64 0, .int .u32 0, .int .i64 0] 27) 18 (fun _ => by kernel_rfl) (fun g920 w921 hb924 hF922 hC923 => ?_)
            have ho925 := own_fr rowG_m903 hF922 (by simp)
            have ho926 := own_fr rowL_m903 hF922 (by simp)
            have ho927 := own_fr row897_m903 hF922 (by simp)
            refine WL.storeM hC923 1 27 g920 0 (.agg #[.int .u32 e915.vip, .int .i64 e915.first, .int .u32 e915.dip, .int .i64 e915.exp]) (by kernel_rfl) rfl rfl (fun w928 hF930 hC931 => ?_)
            have ho932 := own_fr ho925 hF930 (hC923.apartM 0 1 rfl rfl)
            have ho933 := own_fr ho926 hF930 (hC923.apartM 1 1 rfl rfl)
            have ho934 := own_fr ho927 hF930 (hC923.apartM 2 1 rfl rfl)
            refine WL.done rfl ?_
            refine QX.then_normal (hK914 _ _ ?_)
            refine WC.seq (fun K935 hK936 => ?_)
            refine WC.region ?_
            refine WL.runs 2 [(133, .pointer (some ⟨g920, 0, none⟩)), (132, .slice A890 ((L.filter (pruneP now2)).length) c891)] (fun _ => by kernel_rfl) ?_
            refine WL.load 23 (.pointer (some ⟨g920, 0, none⟩)) (.int .u32 e915.vip) 134 (by kernel_rfl) (run_ld (hC931.get 1 rfl) rfl) ?_
            refine WL.runs 1 [(135, .pointer (some ⟨g920, 1, none⟩))] (fun _ => by kernel_rfl) ?_
            refine WL.load 3 (.pointer (some ⟨g920, 1, none⟩)) (.int .i64 e915.first) 136 (by kernel_rfl) (run_ld (hC931.get 1 rfl) rfl) ?_
            refine WL.runs 1 [(137, .int .i64 now2)] (fun _ => by kernel_rfl) ?_
            obtain ⟨_, _, _, _, hf1_, hf2_, _⟩ := hal3.ok _ (List.mem_of_getElem? he916)
            refine WL.call rfl rfl rfl rfl rfl (by kernel_rfl) (Find_ct A890 c891 (L.filter (pruneP now2)) e915.vip e915.first now2 w928 (own_rd ho934 encL_len (by decide)) hal3.okl (by first | omega | simp) (by omega)) ?_
            rintro _ w938 ⟨rfl, hF937⟩
            refine ⟨_, rfl, ?_⟩
            have hC939 := hC931.call hF937
            have ho940 := own_fr ho932 hF937 (by simp)
            have ho941 := own_fr ho933 hF937 (by simp)
            have ho942 := own_fr ho934 hF937 (by simp)
            refine WL.runs 3 [(140, .bool (hasL ((L.filter (pruneP now2)).filter (findP e915.vip e915.first now2)))), (139, .agg #[.int .u32 ((headL ((L.filter (pruneP now2)).filter (findP e915.vip e915.first now2))).vip), .int .i64 ((headL ((L.filter (pruneP now2)).filter (findP e915.vip e915.first now2))).first), .int .u32 ((headL ((L.filter (pruneP now2)).filter (findP e915.vip e915.first now2))).dip), .int .i64 ((headL ((L.filter (pruneP now2)).filter (findP e915.vip e915.first now2))).exp)]), (131, .tuple #[.agg #[.int .u32 ((headL ((L.filter (pruneP now2)).filter (findP e915.vip e915.first now2))).vip), .int .i64 ((headL ((L.filter (pruneP now2)).filter (findP e915.vip e915.first now2))).first), .int .u32 ((headL ((L.filter (pruneP now2)).filter (findP e915.vip e915.first now2))).dip), .int .i64 ((headL ((L.filter (pruneP now2)).filter (findP e915.vip e915.first now2))).exp)], .bool (hasL ((L.filter (pruneP now2)).filter (findP e915.vip e915.first now2)))])] (fun _ => by kernel_rfl) ?_
            refine WL.newM hC939 (fun b => .pointer (some ⟨b, 0, none⟩)) (.cells #[.int .u32 0, .int .i64 0, .int .u32 0, .int .i64 0] 27) 19 (fun _ => by kernel_rfl) (fun g943 w944 hb947 hF945 hC946 => ?_)
            have ho948 := own_fr ho940 hF945 (by simp)
            have ho949 := own_fr ho941 hF945 (by simp)
            have ho950 := own_fr ho942 hF945 (by simp)
            refine WL.storeM hC946 2 27 g943 0 (.agg #[.int .u32 ((headL ((L.filter (pruneP now2)).filter (findP e915.vip e915.first now2))).vip), .int .i64 ((headL ((L.filter (pruneP now2)).filter (findP e915.vip e915.first now2))).first), .int .u32 ((headL ((L.filter (pruneP now2)).filter (findP e915.vip e915.first now2))).dip), .int .i64 ((headL ((L.filter (pruneP now2)).filter (findP e915.vip e915.first now2))).exp)]) (by kernel_rfl) rfl rfl (fun w951 hF953 hC954 => ?_)
            have ho955 := own_fr ho948 hF953 (hC946.apartM 0 2 rfl rfl)
            have ho956 := own_fr ho949 hF953 (hC946.apartM 1 2 rfl rfl)
            have ho957 := own_fr ho950 hF953 (hC946.apartM 2 2 rfl rfl)
            refine WL.runs 1 [(20, .bool (hasL ((L.filter (pruneP now2)).filter (findP e915.vip e915.first now2))))] (fun _ => by kernel_rfl) ?_
            refine WL.done rfl ?_
            refine QX.then_normal (hK936 _ _ ?_)
            refine WC.seq (fun K958 hK959 => ?_)
            refine WC.seq (fun K960 hK961 => ?_)
            refine WC.region ?_
            refine WL.runs 1 [(141, .pointer (some ⟨g920, 3, none⟩))] (fun _ => by kernel_rfl) ?_
            refine WL.load 3 (.pointer (some ⟨g920, 3, none⟩)) (.int .i64 e915.exp) 142 (by kernel_rfl) (run_ld (hC954.get 1 rfl) rfl) ?_
            refine WL.runs 3 [(145, .bool (decide (e915.exp ≥ now2))), (144, .bool (decide (e915.exp ≥ now2))), (143, .int .i64 now2)] (fun _ => by kernel_rfl) ?_
            refine WL.test_at 145 (decide (e915.exp ≥ now2)) rfl (fun t962b => ?_) (fun t962b => ?_)
            · -- e915.exp ≥ now2: true
              have t962 : now2 ≤ e915.exp := by have q_ := of_decide_eq_true t962b; omega
              refine WL.runs 3 [(148, .bool (!(hasL ((L.filter (pruneP now2)).filter (findP e915.vip e915.first now2))))), (147, .bool (!(hasL ((L.filter (pruneP now2)).filter (findP e915.vip e915.first now2))))), (146, .bool (hasL ((L.filter (pruneP now2)).filter (findP e915.vip e915.first now2))))] (fun _ => by kernel_rfl) ?_
              refine WL.know 148 (.bool (!(hasL ((L.filter (pruneP now2)).filter (findP e915.vip e915.first now2))))) (.bool false) rfl (congrArg Value.bool (by rw [(alone_find hal3 (List.mem_of_getElem? he916) (by omega)).1]; rfl)) ?_
              refine WL.runs 1 [(149, .pointer (some ⟨g943, 2, none⟩))] (fun _ => by kernel_rfl) ?_
              refine WL.load 23 (.pointer (some ⟨g943, 2, none⟩)) (.int .u32 ((headL ((L.filter (pruneP now2)).filter (findP e915.vip e915.first now2))).dip)) 150 (by kernel_rfl) (run_ld (hC954.get 2 rfl) rfl) ?_
              refine WL.runs 1 [(151, .pointer (some ⟨g920, 2, none⟩))] (fun _ => by kernel_rfl) ?_
              refine WL.load 23 (.pointer (some ⟨g920, 2, none⟩)) (.int .u32 e915.dip) 152 (by kernel_rfl) (run_ld (hC954.get 1 rfl) rfl) ?_
              refine WL.runs 3 [(155, .bool (((headL ((L.filter (pruneP now2)).filter (findP e915.vip e915.first now2))).dip) != e915.dip)), (154, .bool (((headL ((L.filter (pruneP now2)).filter (findP e915.vip e915.first now2))).dip) != e915.dip)), (153, .bool (((headL ((L.filter (pruneP now2)).filter (findP e915.vip e915.first now2))).dip) != e915.dip))] (fun _ => by kernel_rfl) ?_
              refine WL.know 155 (.bool (((headL ((L.filter (pruneP now2)).filter (findP e915.vip e915.first now2))).dip) != e915.dip)) (.bool false) rfl (congrArg Value.bool (by rw [(alone_find hal3 (List.mem_of_getElem? he916) (by omega)).2.1]; simp)) ?_
              refine WL.runs 1 [(156, .pointer (some ⟨g943, 1, none⟩))] (fun _ => by kernel_rfl) ?_
              refine WL.load 3 (.pointer (some ⟨g943, 1, none⟩)) (.int .i64 ((headL ((L.filter (pruneP now2)).filter (findP e915.vip e915.first now2))).first)) 157 (by kernel_rfl) (run_ld (hC954.get 2 rfl) rfl) ?_
              refine WL.runs 1 [(158, .pointer (some ⟨g920, 1, none⟩))] (fun _ => by kernel_rfl) ?_
              refine WL.load 3 (.pointer (some ⟨g920, 1, none⟩)) (.int .i64 e915.first) 159 (by kernel_rfl) (run_ld (hC954.get 1 rfl) rfl) ?_
              refine WL.runs 3 [(162, .bool (((headL ((L.filter (pruneP now2)).filter (findP e915.vip e915.first now2))).first) != e915.first)), (161, .bool (((headL ((L.filter (pruneP now2)).filter (findP e915.vip e915.first now2))).first) != e915.first)), (160, .bool (((headL ((L.filter (pruneP now2)).filter (findP e915.vip e915.first now2))).first) != e915.first))] (fun _ => by kernel_rfl) ?_
              refine WL.know 162 (.bool (((headL ((L.filter (pruneP now2)).filter (findP e915.vip e915.first now2))).first) != e915.first)) (.bool false) rfl (congrArg Value.bool (by rw [(alone_find hal3 (List.mem_of_getElem? he916) (by omega)).2.2.1]; simp)) ?_
              refine WL.runs 1 [(163, .pointer (some ⟨g943, 3, none⟩))] (fun _ => by kernel_rfl) ?_
              refine WL.load 3 (.pointer (some ⟨g943, 3, none⟩)) (.int .i64 ((headL ((L.filter (pruneP now2)).filter (findP e915.vip e915.first now2))).exp)) 164 (by kernel_rfl) (run_ld (hC954.get 2 rfl) rfl) ?_
              refine WL.runs 1 [(165, .pointer (some ⟨g920, 3, none⟩))] (fun _ => by kernel_rfl) ?_
              refine WL.load 3 (.pointer (some ⟨g920, 3, none⟩)) (.int .i64 e915.exp) 166 (by kernel_rfl) (run_ld (hC954.get 1 rfl) rfl) ?_
              refine WL.runs 3 [(169, .bool (decide (((headL ((L.filter (pruneP now2)).filter (findP e915.vip e915.first now2))).exp) < e915.exp))), (168, .bool (decide (((headL ((L.filter (pruneP now2)).filter (findP e915.vip e915.first now2))).exp) < e915.exp))), (167, .bool (decide (((headL ((L.filter (pruneP now2)).filter (findP e915.vip e915.first now2))).exp) < e915.exp)))] (fun _ => by kernel_rfl) ?_
              refine WL.done rfl ?_
              refine QX.then_normal (hK961 _ _ ?_)
              refine WC.know 169 (.bool (decide (((headL ((L.filter (pruneP now2)).filter (findP e915.vip e915.first now2))).exp) < e915.exp))) (.bool false) rfl (congrArg Value.bool (by exact decide_eq_false (by have q_ := (alone_find hal3 (List.mem_of_getElem? he916) (by omega)).2.2.2; omega))) ?_
              refine WC.cond_false rfl ?_
              refine WC.skip ?_
              refine QX.then_normal (hK959 _ _ ?_)
              refine WC.seq (fun K963 hK964 => ?_)
              refine WC.region ?_
              refine WL.runs 1 [(170, .pointer (some ⟨g920, 3, none⟩))] (fun _ => by kernel_rfl) ?_
              refine WL.load 3 (.pointer (some ⟨g920, 3, none⟩)) (.int .i64 e915.exp) 171 (by kernel_rfl) (run_ld (hC954.get 1 rfl) rfl) ?_
              refine WL.runs 3 [(174, .bool (decide (e915.exp ≥ now2))), (173, .bool (decide (e915.exp ≥ now2))), (172, .int .i64 now2)] (fun _ => by kernel_rfl) ?_
              refine WL.know 174 (.bool (decide (e915.exp ≥ now2))) (.bool true) rfl (congrArg Value.bool (by exact t962b)) ?_
              refine WL.runs 2 [(176, .pointer (some ⟨g920, 2, none⟩)), (175, .slice A890 ((L.filter (pruneP now2)).length) c891)] (fun _ => by kernel_rfl) ?_
              refine WL.load 23 (.pointer (some ⟨g920, 2, none⟩)) (.int .u32 e915.dip) 177 (by kernel_rfl) (run_ld (hC954.get 1 rfl) rfl) ?_
              refine WL.runs 1 [(178, .int .i64 now2)] (fun _ => by kernel_rfl) ?_
              refine WL.call rfl rfl rfl rfl rfl (by kernel_rfl) (Of_ct A890 c891 (L.filter (pruneP now2)) e915.dip now2 w951 (own_rd ho957 encL_len (by decide)) hal3.okl (by first | omega | simp)) ?_
              rintro _ w967 ⟨v_, rfl, hF966, ho965⟩
              have hC968 := hC954.callN hF966 (own_ge ho965) (own_lt ho965)
              obtain ⟨A969, c970, rfl, hle971⟩ := own_form ho965
              have ho973 := own_base (b' := 0) ho965 (fun _ _ => Nat.zero_le _)
              refine ⟨_, rfl, ?_⟩
              have ho974 := own_fr ho955 hF966 (by simp)
              have ho975 := own_fr ho956 hF966 (by simp)
              have ho976 := own_fr ho957 hF966 (by simp)
              refine WL.runs 3 [(182, .bool (decide ((((L.filter (pruneP now2)).filter (ofP e915.dip now2)).length : Int) > 4))), (181, .bool (decide ((((L.filter (pruneP now2)).filter (ofP e915.dip now2)).length : Int) > 4))), (180, .int .i64 (((L.filter (pruneP now2)).filter (ofP e915.dip now2)).length : Int))] (fun _ => by kernel_rfl) ?_
              refine WL.done rfl ?_
              refine QX.then_normal (hK964 _ _ ?_)
              refine WC.know 182 (.bool (decide ((((L.filter (pruneP now2)).filter (ofP e915.dip now2)).length : Int) > 4))) (.bool false) rfl (congrArg Value.bool (by exact decide_eq_false (by have q_ := alone_of hal3 e915.dip; omega))) ?_
              refine WC.cond_false rfl ?_
              refine WC.skip ?_
              refine QX.block_normal ?_
              refine QX.then_normal (hK912 _ _ ?_)
              refine WC.region ?_
              refine WL.runs 1 [(183, .int .i64 (IntKind.i64.wrap ((i3 : Int) + 1)))] (fun _ => by kernel_rfl) ?_
              refine WL.recast (show (.int .i64 (IntKind.i64.wrap ((i3 : Int) + 1)) : Value) = .int .i64 ((i3 : Int) + 1) from by rw [wrap_in_i64 ((i3 : Int) + 1) (by omega) (by omega)]) ?_
              refine WL.runs 1 [(127, .int .i64 ((i3 : Int) + 1))] (fun _ => by kernel_rfl) ?_
              refine WL.done rfl ?_
              refine QX.then_normal ?_
              have hC978 := hC968.pick [0] [0, 1, 2] rfl rfl
              refine fun a_ ha_ => hK901 _ _ _ ?_ ⟨i3 + 1, rfl, rfl, hC978, ho974, ho975, ho976, by omega⟩ a_ (ha_.weaken (sub_of ⟨rfl, rfl, rfl, rfl, rfl, rfl, rfl, rfl, rfl, rfl, rfl, trivial⟩))
              omega
            · -- e915.exp ≥ now2: false
              have t962 : e915.exp < now2 := by have q_ := of_decide_eq_false t962b; omega
              refine WL.runs 24 [(169, .bool false), (168, undef), (167, undef), (166, undef), (165, undef), (164, undef), (163, undef), (162, undef), (161, undef), (160, undef), (159, undef), (158, undef), (157, undef), (156, undef), (155, undef), (154, undef), (153, undef), (152, undef), (151, undef), (150, undef), (149, undef), (148, undef), (147, undef), (146, undef)] (fun _ => by kernel_rfl) ?_
              refine WL.done rfl ?_
              refine QX.then_normal (hK961 _ _ ?_)
              refine WC.cond_false rfl ?_
              refine WC.skip ?_
              refine QX.then_normal (hK959 _ _ ?_)
              refine WC.seq (fun K979 hK980 => ?_)
              refine WC.region ?_
              refine WL.runs 1 [(170, .pointer (some ⟨g920, 3, none⟩))] (fun _ => by kernel_rfl) ?_
              refine WL.load 3 (.pointer (some ⟨g920, 3, none⟩)) (.int .i64 e915.exp) 171 (by kernel_rfl) (run_ld (hC954.get 1 rfl) rfl) ?_
              refine WL.runs 3 [(174, .bool (decide (e915.exp ≥ now2))), (173, .bool (decide (e915.exp ≥ now2))), (172, .int .i64 now2)] (fun _ => by kernel_rfl) ?_
              refine WL.know 174 (.bool (decide (e915.exp ≥ now2))) (.bool false) rfl (congrArg Value.bool (by exact t962b)) ?_
              refine WL.runs 8 [(182, .bool false), (181, undef), (180, undef), (179, undef), (178, undef), (177, undef), (176, undef), (175, undef)] (fun _ => by kernel_rfl) ?_
              refine WL.done rfl ?_
              refine QX.then_normal (hK980 _ _ ?_)
              refine WC.cond_false rfl ?_
              refine WC.skip ?_
              refine QX.block_normal ?_
              refine QX.then_normal (hK912 _ _ ?_)
              refine WC.region ?_
              refine WL.runs 1 [(183, .int .i64 (IntKind.i64.wrap ((i3 : Int) + 1)))] (fun _ => by kernel_rfl) ?_
              refine WL.recast (show (.int .i64 (IntKind.i64.wrap ((i3 : Int) + 1)) : Value) = .int .i64 ((i3 : Int) + 1) from by rw [wrap_in_i64 ((i3 : Int) + 1) (by omega) (by omega)]) ?_
              refine WL.runs 1 [(127, .int .i64 ((i3 : Int) + 1))] (fun _ => by kernel_rfl) ?_
              refine WL.done rfl ?_
              refine QX.then_normal ?_
              have hC981 := hC954.pick [0] [0, 1, 2] rfl rfl
              refine fun a_ ha_ => hK901 _ _ _ ?_ ⟨i3 + 1, rfl, rfl, hC981, ho955, ho956, ho957, by omega⟩ a_ (ha_.weaken (sub_of ⟨rfl, rfl, rfl, rfl, rfl, rfl, rfl, rfl, rfl, rfl, rfl, trivial⟩))
              omega
          · -- (i3 : Int) < (n4 : Int): false
            have t910 : (n4 : Int) ≤ (i3 : Int) := by have q_ := of_decide_eq_false t910b; omega
            refine WC.cond_false rfl ?_
            refine WC.exit ?_
            refine QX.then_exit ?_
            refine QX.then_exit ?_
            refine QX.block_hit ?_
            refine QX.block_normal ?_
            refine QX.then_normal (hK47 _ _ ?_)
            refine WC.region ?_
            refine WL.runs 1 [(184, .int .i64 (IntKind.i64.wrap ((k : Int) + 1)))] (fun _ => by kernel_rfl) ?_
            refine WL.recast (show (.int .i64 (IntKind.i64.wrap ((k : Int) + 1)) : Value) = .int .i64 ((k : Int) + 1) from by rw [wrap_in_i64 ((k : Int) + 1) (by omega) (by omega)]) ?_
            refine WL.runs 1 [(29, .int .i64 ((k : Int) + 1))] (fun _ => by kernel_rfl) ?_
            refine WL.done rfl ?_
            refine QX.then_normal ?_
            have hC982 := hC905.pick [] [0, 2] rfl rfl
            refine fun a_ ha_ => hK36 _ _ _ ?_ ⟨k + 1, A890, c891, A4, n4, c4, (L.filter (pruneP now2)), G, now2, rfl, rfl, hC982, rowG_m903, row897_m903, by omega, by omega, by omega, by omega, by omega, hal3⟩ a_ (ha_.weaken (sub_of ⟨rfl, rfl, rfl, rfl, rfl, rfl, rfl, trivial⟩))
            omega
    · -- (k : Int) < (ops.length : Int): false
      have t45 : (ops.length : Int) ≤ (k : Int) := by have q_ := of_decide_eq_false t45b; omega
      refine WC.cond_false rfl ?_
      refine WC.exit ?_
      refine QX.then_exit ?_
      refine QX.then_exit ?_
      refine QX.block_hit ?_
      refine QX.then_normal (hK29 _ _ ?_)
      refine WC.seq (fun K983 hK984 => ?_)
      refine WC.region ?_
      refine WL.runs 1 [(185, .slice A3 L.length c3)] (fun _ => by kernel_rfl) ?_
      refine WL.call rfl rfl rfl rfl rfl (by kernel_rfl) (Check_ct A3 c3 L w39 (own_rd hrL encL_len (by decide)) (by first | exact hal3.okl | exact hal2.okl | exact hal.okl) (by omega)) ?_
      rintro _ w986 ⟨rfl, hF985⟩
      refine ⟨_, rfl, ?_⟩
      have hC987 := hC40.call hF985
      have ho988 := own_fr hrG hF985 (by simp)
      have ho989 := own_fr hrL hF985 (by simp)
      have hr990 : ∀ w_, Sem.run Tryd.prog (do eqGuard .eql 29 (Operand.tmp 186) (Operand.const (.nilIface)) (errV 32 (if checkL L then 0 else 9)) (.nilIface); binOp .eql 29 (errV 32 (if checkL L then 0 else 9)) (.nilIface)) w_ = .ok (.bool (checkL L)) w_ := fun w_ => (err_eql _ (if checkL L then 0 else 9) (checkL L) (by cases checkL L <;> rfl) _)
      refine WL.sem (do eqGuard .eql 29 (Operand.tmp 186) (Operand.const (.nilIface)) (errV 32 (if checkL L then 0 else 9)) (.nilIface); binOp .eql 29 (errV 32 (if checkL L then 0 else 9)) (.nilIface)) 187 (.bool (checkL L)) (by kernel_rfl) (hr990 _) ?_
      refine WL.runs 1 [(2, .bool (checkL L))] (fun _ => by kernel_rfl) ?_
      refine WL.done rfl ?_
      refine QX.then_normal (hK984 _ _ ?_)
      refine WC.ret ?_
      refine (hret _ _ _ rfl ?_).1
      clear hN hret hret' hK984 hK44 hK42 hK31 hK29 hK27 hK20 hK18 hK13 hK11 hK6 hK4 hK2
      exact ⟨congrArg (fun b_ => Ending.returned (Value.bool b_)) (show (checkL L) = true from by exact hal.chk), hC987.fr⟩
end Go.Proofs.YtoambminolcgfaaDoor
