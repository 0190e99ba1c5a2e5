/- Contracts of functions of the program, each proved by a walk through its code; conditions stand in the statements. -/
import Derived.Test.YtkafccgbagbncaaProg
import Derived.Test.YtkafccgbagbncaaTwClr
namespace Go.Proofs.Ytkafccgbagbncaa
set_option linter.unusedSimpArgs false
set_option linter.unusedVariables false
set_option linter.unusedSectionVars false
open Go Go.RowKit Go.Tw
set_option linter.unusedVariables false
set_option maxRecDepth 20000
def cmpI (a b : Int) : Int := if a < b then -1 else if a > b then 1 else 0
def orI : List Int → Int
  | [] => 0
  | x :: r => if x ≠ 0 then x else orI r
theorem orI_drop {xs : List Int} {k : Nat} {x : Int} (h : xs[k]? = some x) : orI (xs.drop k) = if x ≠ 0 then x else orI (xs.drop (k + 1)) := by
  obtain ⟨hk, rfl⟩ := List.getElem?_eq_some_iff.1 h
  rw [List.drop_eq_getElem_cons hk, orI]
theorem isNaN_int (x : Int) (w : World) : Calls Try.prog 36 #[.int .i64 x] w fun e w' => e = .returned (.bool false) ∧ Fr w w' [] := by
  refine enterD (n := 6) Try.func36 rfl rfl (Nat.le_of_ble_eq_true rfl) ?_
  intro Q0 hN hret hret'
  have hC := Cx.start w
  refine WC.seq (fun K1 hK2 => ?_)
  refine WC.region ?_
  refine WL.runs 1 [(2, .bool false)] (fun _ => by kernel_rfl) ?_
  refine WL.done rfl ?_
  refine QX.then_normal (hK2 _ _ ?_)
  refine WC.seq (fun K3 hK4 => ?_)
  refine WC.region ?_
  refine WL.runs 4 [(2, .bool (x != x)), (5, .bool (x != x)), (4, .int .i64 x), (3, .int .i64 x)] (fun _ => by kernel_rfl) ?_
  refine WL.done rfl ?_
  refine QX.then_normal (hK4 _ _ ?_)
  refine WC.ret ?_
  refine (hret _ _ _ rfl ?_).1
  clear hN hret hret' hK4 hK2
  exact ⟨by simp [shut], hC.fr⟩

theorem compare_int (x y : Int) (w : World) : Calls Try.prog 30 #[.int .i64 x, .int .i64 y] w fun e w' => e = .returned (.int .i64 (cmpI x y)) ∧ Fr w w' [] := by
  refine enterD (n := 20) Try.func30 rfl rfl (Nat.le_of_ble_eq_true rfl) ?_
  intro Q0 hN hret hret'
  have hC := Cx.start w
  refine WC.seq (fun K1 hK2 => ?_)
  refine WC.region ?_
  refine WL.runs 1 [(4, .int .i64 0)] (fun _ => by kernel_rfl) ?_
  refine WL.done rfl ?_
  refine QX.then_normal (hK2 _ _ ?_)
  refine WC.seq (fun K3 hK4 => ?_)
  refine WC.region ?_
  refine WL.runs 1 [(7, .int .i64 x)] (fun _ => by kernel_rfl) ?_
  refine WL.call rfl rfl rfl rfl rfl (by kernel_rfl) (isNaN_int x w) ?_
  rintro _ w6 ⟨rfl, hF5⟩
  refine ⟨_, rfl, ?_⟩
  have hC7 := hC.call hF5
  refine WL.runs 1 [(5, .bool false)] (fun _ => by kernel_rfl) ?_
  refine WL.done rfl ?_
  refine QX.then_normal (hK4 _ _ ?_)
  refine WC.seq (fun K8 hK9 => ?_)
  refine WC.region ?_
  refine WL.runs 1 [(9, .int .i64 y)] (fun _ => by kernel_rfl) ?_
  refine WL.call rfl rfl rfl rfl rfl (by kernel_rfl) (isNaN_int y w6) ?_
  rintro _ w11 ⟨rfl, hF10⟩
  refine ⟨_, rfl, ?_⟩
  have hC12 := hC7.call hF10
  refine WL.runs 1 [(6, .bool false)] (fun _ => by kernel_rfl) ?_
  refine WL.done rfl ?_
  refine QX.then_normal (hK9 _ _ ?_)
  refine WC.seq (fun K13 hK14 => ?_)
  refine WC.seq (fun K15 hK16 => ?_)
  refine WC.region ?_
  refine WL.runs 1 [(11, .bool false)] (fun _ => by kernel_rfl) ?_
  refine WL.done rfl ?_
  refine QX.then_normal (hK16 _ _ ?_)
  refine WC.cond_false rfl ?_
  refine WC.skip ?_
  refine QX.then_normal (hK14 _ _ ?_)
  refine WC.seq (fun K17 hK18 => ?_)
  refine WC.seq (fun K19 hK20 => ?_)
  refine WC.region ?_
  refine WL.runs 1 [(13, .bool false)] (fun _ => by kernel_rfl) ?_
  refine WL.done rfl ?_
  refine QX.then_normal (hK20 _ _ ?_)
  refine WC.cond_false rfl ?_
  refine WC.skip ?_
  refine QX.then_normal (hK18 _ _ ?_)
  refine WC.seq (fun K21 hK22 => ?_)
  refine WC.seq (fun K23 hK24 => ?_)
  refine WC.region ?_
  refine WL.runs 3 [(16, .bool (decide (x < y))), (15, .int .i64 y), (14, .int .i64 x)] (fun _ => by kernel_rfl) ?_
  refine WL.done rfl ?_
  refine QX.then_normal (hK24 _ _ ?_)
  refine WC.test_at 16 (decide (x < y)) rfl (fun t25b => ?_) (fun t25b => ?_)
  · -- x < y: true
    have t25 : x < y := by have q_ := of_decide_eq_true t25b; omega
    refine WC.cond_true rfl ?_
    refine WC.seq (fun K26 hK27 => ?_)
    refine WC.region ?_
    refine WL.runs 1 [(4, .int .i64 (-1))] (fun _ => by kernel_rfl) ?_
    refine WL.done rfl ?_
    refine QX.then_normal (hK27 _ _ ?_)
    refine WC.ret ?_
    refine QX.then_ret ?_
    refine (hret _ _ _ rfl ?_).1
    clear hN hret hret' hK27 hK24 hK22 hK20 hK18 hK16 hK14 hK9 hK4 hK2
    exact ⟨by simp [shut, cmpI]; try grind, hC12.fr⟩
  · -- x < y: false
    have t25 : y ≤ x := by have q_ := of_decide_eq_false t25b; omega
    refine WC.cond_false rfl ?_
    refine WC.skip ?_
    refine QX.then_normal (hK22 _ _ ?_)
    refine WC.seq (fun K28 hK29 => ?_)
    refine WC.seq (fun K30 hK31 => ?_)
    refine WC.region ?_
    refine WL.runs 3 [(19, .bool (decide (x > y))), (18, .int .i64 y), (17, .int .i64 x)] (fun _ => by kernel_rfl) ?_
    refine WL.done rfl ?_
    refine QX.then_normal (hK31 _ _ ?_)
    refine WC.test_at 19 (decide (x > y)) rfl (fun t32b => ?_) (fun t32b => ?_)
    · -- x > y: true
      have t32 : y < x := by have q_ := of_decide_eq_true t32b; omega
      refine WC.cond_true rfl ?_
      refine WC.seq (fun K33 hK34 => ?_)
      refine WC.region ?_
      refine WL.runs 1 [(4, .int .i64 1)] (fun _ => by kernel_rfl) ?_
      refine WL.done rfl ?_
      refine QX.then_normal (hK34 _ _ ?_)
      refine WC.ret ?_
      refine QX.then_ret ?_
      refine (hret _ _ _ rfl ?_).1
      clear hN hret hret' hK34 hK31 hK29 hK24 hK22 hK20 hK18 hK16 hK14 hK9 hK4 hK2
      exact ⟨by simp [shut, cmpI]; try grind, hC12.fr⟩
    · -- x > y: false
      have t32 : x ≤ y := by have q_ := of_decide_eq_false t32b; omega
      refine WC.cond_false rfl ?_
      refine WC.skip ?_
      refine QX.then_normal (hK29 _ _ ?_)
      refine WC.seq (fun K35 hK36 => ?_)
      refine WC.region ?_
      refine WL.runs 1 [(4, .int .i64 0)] (fun _ => by kernel_rfl) ?_
      refine WL.done rfl ?_
      refine QX.then_normal (hK36 _ _ ?_)
      refine WC.ret ?_
      refine (hret _ _ _ rfl ?_).1
      clear hN hret hret' hK36 hK31 hK29 hK24 hK22 hK20 hK18 hK16 hK14 hK9 hK4 hK2
      exact ⟨by simp [shut, cmpI]; try grind, hC12.fr⟩

theorem or_int (A : Option Addr) (c : Nat) (xs : List Int) (w : World) (hr : Rd w 1 (encI .i64) A xs) (hm : xs.length < 2 ^ 60) : Calls Try.prog 29 #[.slice A xs.length c] w fun e w' => e = .returned (.int .i64 (orI xs)) ∧ Fr w w' [] := by
  refine enterD (n := 18) Try.func29 rfl rfl (Nat.le_of_ble_eq_true rfl) ?_
  intro Q0 hN hret hret'
  have hC := Cx.start w
  refine WC.seq (fun K1 hK2 => ?_)
  refine WC.region ?_
  refine WL.runs 1 [(2, .int .i64 0)] (fun _ => by kernel_rfl) ?_
  refine WL.done rfl ?_
  refine QX.then_normal (hK2 _ _ ?_)
  refine WC.seq (fun K3 hK4 => ?_)
  refine WC.region ?_
  refine WL.runs 1 [(3, .int .i64 0)] (fun _ => by kernel_rfl) ?_
  refine WL.done rfl ?_
  refine QX.then_normal (hK4 _ _ ?_)
  refine WC.seq (fun K5 hK6 => ?_)
  refine WC.seq (fun K7 hK8 => ?_)
  refine WC.region ?_
  refine WL.runs 3 [(8, .int .i64 0), (7, .int .i64 (xs.length : Int)), (6, .slice A xs.length c)] (fun _ => by kernel_rfl) ?_
  refine WL.done rfl ?_
  refine QX.then_normal (hK8 _ _ ?_)
  refine WC.block ?_
  refine WC.loop (fun m_ E_ w_ => ∃ (k : Nat), m_ = xs.length - k ∧ E_ = [(0, .slice A xs.length c), (3, .int .i64 0), (6, .slice A xs.length c), (7, .int .i64 (xs.length : Int)), (8, .int .i64 (k : Int))] ∧ Cx w [] w_ [] [] ∧ (k ≤ xs.length ∧ orI xs = orI (xs.drop k))) ⟨_, _, ⟨0, rfl, rfl, hC, Nat.zero_le _, rfl⟩, sub_of ⟨rfl, rfl, rfl, rfl, rfl, trivial⟩⟩ (fun m12 E_ w13 K9 hK10 hI11 => ?_)
  obtain ⟨k, rfl, rfl, hC14, hk, hor⟩ := hI11
  refine WC.seq (fun K15 hK16 => ?_)
  refine WC.region ?_
  refine WL.runs 1 [(9, .bool (decide ((k : Int) < (xs.length : Int))))] (fun _ => by kernel_rfl) ?_
  refine WL.done rfl ?_
  refine QX.then_normal (hK16 _ _ ?_)
  refine WC.seq (fun K17 hK18 => ?_)
  refine WC.test_at 9 (decide ((k : Int) < (xs.length : Int))) rfl (fun t19b => ?_) (fun t19b => ?_)
  · -- (k : Int) < (xs.length : Int): true
    have t19 : (k : Int) < (xs.length : Int) := by have q_ := of_decide_eq_true t19b; omega
    refine WC.cond_true rfl ?_
    refine WC.skip ?_
    refine QX.then_normal (hK18 _ _ ?_)
    refine WC.seq (fun K20 hK21 => ?_)
    refine WC.block ?_
    refine WC.seq (fun K22 hK23 => ?_)
    refine WC.region ?_
    obtain ⟨e24, he25⟩ := get_some (xs := xs) (i := k) (by omega)
    obtain ⟨b26, o28, hA27, hc29⟩ := hr.at_ _ _ he25
    refine WL.index A xs.length c 10 .i64 (k : Int) b26 o28 k 1 (by kernel_rfl) hA27 (by omega) (by omega) (o28 + k) (by first | (simp; done) | omega) ?_
    refine WL.load 3 (.pointer (some ⟨b26, o28 + k, none⟩)) (.int .i64 e24) 11 (by kernel_rfl) (run_load1 rfl (by simpa [Nat.add_assoc] using hC14.fr.cell (hc29 0 _ rfl) (by simp))) ?_
    refine WL.runs 1 [(5, .int .i64 e24)] (fun _ => by kernel_rfl) ?_
    refine WL.done rfl ?_
    refine QX.then_normal (hK23 _ _ ?_)
    refine WC.seq (fun K30 hK31 => ?_)
    refine WC.region ?_
    refine WL.runs 3 [(14, .bool (e24 != 0)), (13, .int .i64 0), (12, .int .i64 e24)] (fun _ => by kernel_rfl) ?_
    refine WL.done rfl ?_
    refine QX.then_normal (hK31 _ _ ?_)
    refine WC.test_at 14 (e24 != 0) rfl (fun t32b => ?_) (fun t32b => ?_)
    · -- e24 ≠ 0: true
      have t32 : e24 ≠ 0 := by simpa using t32b
      refine WC.cond_true rfl ?_
      refine WC.seq (fun K33 hK34 => ?_)
      refine WC.region ?_
      refine WL.runs 2 [(2, .int .i64 e24), (15, .int .i64 e24)] (fun _ => by kernel_rfl) ?_
      refine WL.done rfl ?_
      refine QX.then_normal (hK34 _ _ ?_)
      refine WC.ret ?_
      refine QX.block_ret ?_
      refine QX.then_ret ?_
      refine QX.then_ret ?_
      refine QX.block_ret ?_
      refine QX.then_ret ?_
      refine (hret _ _ _ rfl ?_).1
      clear hN hret hret' hK34 hK31 hK23 hK21 hK18 hK16 hK8 hK6 hK4 hK2
      exact ⟨by simp [shut]; rw [hor, orI_drop he25, if_pos (by assumption)], hC14.fr⟩
    · -- e24 ≠ 0: false
      have t32 : e24 = 0 := by simpa using t32b
      refine WC.cond_false rfl ?_
      refine WC.skip ?_
      refine QX.block_normal ?_
      refine QX.then_normal (hK21 _ _ ?_)
      refine WC.region ?_
      refine WL.runs 1 [(16, .int .i64 (IntKind.i64.wrap ((k : Int) + 1)))] (fun _ => by kernel_rfl) ?_
      refine WL.recast (show (.int .i64 (IntKind.i64.wrap ((k : Int) + 1)) : Value) = .int .i64 ((k : Int) + 1) from by rw [wrap_in_i64 ((k : Int) + 1) (by omega) (by omega)]) ?_
      refine WL.runs 1 [(8, .int .i64 ((k : Int) + 1))] (fun _ => by kernel_rfl) ?_
      refine WL.done rfl ?_
      refine QX.then_normal ?_
      have hC35 := hC14.pick [] [] rfl rfl
      refine fun a_ ha_ => hK10 _ _ _ ?_ ⟨k + 1, rfl, rfl, hC35, by omega, by rw [hor, orI_drop he25]; simp [*]⟩ a_ (ha_.weaken (sub_of ⟨rfl, rfl, rfl, rfl, rfl, trivial⟩))
      omega
  · -- (k : Int) < (xs.length : Int): false
    have t19 : (xs.length : Int) ≤ (k : Int) := by have q_ := of_decide_eq_false t19b; omega
    refine WC.cond_false rfl ?_
    refine WC.exit ?_
    refine QX.then_exit ?_
    refine QX.then_exit ?_
    refine QX.block_hit ?_
    refine QX.then_normal (hK6 _ _ ?_)
    refine WC.seq (fun K36 hK37 => ?_)
    refine WC.region ?_
    refine WL.runs 2 [(2, .int .i64 0), (17, .int .i64 0)] (fun _ => by kernel_rfl) ?_
    refine WL.done rfl ?_
    refine QX.then_normal (hK37 _ _ ?_)
    refine WC.ret ?_
    refine (hret _ _ _ rfl ?_).1
    clear hN hret hret' hK37 hK18 hK16 hK8 hK6 hK4 hK2
    exact ⟨by simp [shut]; rw [hor, List.drop_of_length_le (by omega)]; simp [orI], hC14.fr⟩

theorem app_run0 {P : Program} {w : World} {v : Value} {xs : List Value} (t ty e sz bytes nn m c : Nat) (A : Option Addr) (hty : rowTy P t e sz bytes = true)
    (hown : w.ownsRow 0 e sz v nn xs) (news : List Value) (hl : news.length = m * sz) (hnews : srcOk w A m news) (h1 : news.all Value.oneCell' = true) (h63 : nn + m ≤ maxLen) (hbytes : (nn + m) * bytes ≤ 140737488355328) :
    ∃ v' w', (Builtin.append_ #[t, t] ty #[v, .slice A m c]).run P w = .ok v' w' ∧ w'.ownsRow 0 e sz v' (nn + m) (xs ++ news) ∧ Fr w w' (blk v) ∧ (∀ x ∈ blk v', x ∈ blk v ∨ w.heap.size ≤ x) := by
  obtain ⟨hu, inf, z, hi, hz, hs, hb, hzs, hpos⟩ := rowTy_spec hty
  obtain ⟨v', w', hr, hown', hgrow, hnil, hat⟩ := run_append_src (P := P) w 0 t ty e hu hi hz hs hb hzs hpos hown hl hnews h1 h63 hbytes (Nat.zero_le _) (c := c)
  refine ⟨v', w', hr, hown', fr_grown hgrow rfl (fun _ => run_drawn _ _ _ _ hr), fun x hx => ?_⟩
  rw [mem_blk] at hx
  rcases hat with hat | hat
  · exact .inl (mem_blk.2 (hat ▸ hx))
  · rw [hat] at hx; simp at hx; exact .inr (by omega)
structure TRow where
  A : Option Addr
  c : Nat
  ts : List (Int × Int)
def tmC (t : Int × Int) : List Value := [.int .i64 t.1, .int .i64 t.2]
theorem tmC_len (t : Int × Int) : (tmC t).length = 2 := rfl
theorem tmC_one (t : Int × Int) : (tmC t).all Value.oneCell' = true := rfl
def TRow.v (r : TRow) : Value := .slice r.A r.ts.length r.c
def encR (r : TRow) : List Value := [.slice r.A r.ts.length r.c]
theorem encR_len (r : TRow) : (encR r).length = 1 := rfl
theorem encR_one (r : TRow) : (encR r).all Value.oneCell' = true := rfl
def rowsF (rows : List TRow) : List Nat := rows.flatMap fun r => blk r.v
def rowsO (w : World) (rows : List TRow) : Prop := (∀ r ∈ rows, w.ownsRow 0 67 2 r.v r.ts.length (r.ts.flatMap tmC)) ∧ ∀ (i j : Nat) (a b : TRow), rows[i]? = some a → rows[j]? = some b → i ≠ j → ∀ x ∈ blk a.v, x ∉ blk b.v
theorem mem_rowsF {rows : List TRow} {r : TRow} {i : Nat} (h : rows[i]? = some r) {x : Nat} (hx : x ∈ blk r.v) : x ∈ rowsF rows := List.mem_flatMap.2 ⟨r, List.mem_of_getElem? h, hx⟩
theorem rowsO_lt {w : World} {rows : List TRow} (h : rowsO w rows) : ∀ x ∈ rowsF rows, x < w.heap.size := by
  intro x hx
  obtain ⟨r, hr, hxr⟩ := List.mem_flatMap.1 hx
  exact own_lt (h.1 r hr) x hxr
theorem rowsO_fr {w w' : World} {rows : List TRow} {F : List Nat} (h : rowsO w rows) (hf : Fr w w' F) (hd : ∀ x ∈ rowsF rows, x ∉ F) : rowsO w' rows :=
  ⟨fun r hr => own_fr (h.1 r hr) hf (fun x hx => hd x (List.mem_flatMap.2 ⟨r, hr, hx⟩)), h.2⟩
theorem rowsO_set {w w' : World} {rows : List TRow} {i : Nat} {r r' : TRow} (h : rowsO w rows) (hi : rows[i]? = some r) (hf : Fr w w' (blk r.v)) (ho : w'.ownsRow 0 67 2 r'.v r'.ts.length (r'.ts.flatMap tmC)) (hs : ∀ x ∈ blk r'.v, x ∈ blk r.v ∨ w.heap.size ≤ x) :
    rowsO w' (rows.set i r') ∧ ∀ x ∈ rowsF (rows.set i r'), x ∈ rowsF rows ∨ w.heap.size ≤ x := by
  have hlt := rowsO_lt h
  have far : ∀ (j : Nat) (b : TRow), rows[j]? = some b → i ≠ j → ∀ x ∈ blk r'.v, x ∉ blk b.v := fun j b hj hij x hx hb => by
    rcases hs x hx with h1 | h1
    · exact h.2 i j r b hi hj hij x h1 hb
    · exact absurd (hlt x (mem_rowsF hj hb)) (Nat.not_lt.2 h1)
  refine ⟨⟨fun a ha => ?_, fun j k a b hj hk hjk x hx hb => ?_⟩, fun x hx => ?_⟩
  · obtain ⟨j, hj⟩ := List.mem_iff_getElem?.1 ha
    rw [List.getElem?_set] at hj
    split at hj
    · split at hj
      · cases hj; exact ho
      · cases hj
    · rename_i hij
      exact own_fr (h.1 a (List.mem_of_getElem? hj)) hf (fun x hx hb => h.2 i j r a hi hj hij x hb hx)
  · rw [List.getElem?_set] at hj hk
    split at hj
    · rename_i hij
      split at hj
      · cases hj
        rw [if_neg (by omega)] at hk
        exact far k b hk (by omega) x hx hb
      · cases hj
    · rename_i hij
      split at hk
      · rename_i hik
        split at hk
        · cases hk
          exact far j a hj hij x hb hx
        · cases hk
      · exact h.2 j k a b hj hk hjk x hx hb
  · obtain ⟨a, ha, hxa⟩ := List.mem_flatMap.1 hx
    obtain ⟨j, hj⟩ := List.mem_iff_getElem?.1 ha
    rw [List.getElem?_set] at hj
    split at hj
    · split at hj
      · cases hj
        rcases hs x hxa with h1 | h1
        · exact .inl (mem_rowsF hi h1)
        · exact .inr h1
      · cases hj
    · exact .inl (mem_rowsF hj hxa)
theorem rowsO_get {w : World} {rows : List TRow} {i : Nat} {r : TRow} (h : rowsO w rows) (hi : rows[i]? = some r) : w.ownsRow 0 67 2 (.slice r.A r.ts.length r.c) r.ts.length (r.ts.flatMap tmC) := h.1 r (List.mem_of_getElem? hi)
/-! ### what the slots hold -/
def slotN (N : Nat) (at_ : Int) : Nat := at_.toNat % N
structure wOk (N : Nat) (L : List TRow) (m : List (Int × Int)) : Prop where
  n : 1 ≤ N ∧ N ≤ 1024
  len : L.length = N
  keys : (m.map (·.1)).Nodup
  pos : ∀ t ∈ m, 0 ≤ t.2 ∧ t.2 ≤ 1099511627776
  row : ∀ i r, L[i]? = some r → r.ts.Nodup ∧ ∀ t, t ∈ r.ts ↔ t ∈ m ∧ slotN N t.2 = i
def eqK (k : Int) (t : Int × Int) : Bool := t.1 == k
theorem look_mem2 {m : List (Int × Int)} {k v : Int} (h : lookL m k = some v) : (k, v) ∈ m := by
  rw [lookL_at] at h
  cases hk : keyAt (m.map (·.1)) k with
  | none => rw [hk] at h; cases h
  | some i =>
    rw [hk] at h
    have h1 := keyAt_some hk
    obtain ⟨p, hp, hpk⟩ : ∃ p, m[i]? = some p ∧ p.2 = v := by simpa [Option.map_eq_some_iff] using h
    rw [List.getElem?_map, hp] at h1
    have h2 : p.1 = k := by simpa using h1
    subst hpk h2
    exact List.mem_of_getElem? hp
theorem look_none2 {m : List (Int × Int)} {k : Int} (h : lookL m k = none) : ∀ t ∈ m, t.1 ≠ k := by
  induction m with
  | nil => intro t ht; cases ht
  | cons a r ih =>
    obtain ⟨x, y⟩ := a
    unfold lookL at h
    split at h
    · cases h
    · rename_i e
      intro t ht
      rcases List.mem_cons.1 ht with rfl | ht
      · exact e
      · exact ih h t ht
theorem key_uniq {m : List (Int × Int)} (h : (m.map (·.1)).Nodup) {a b : Int × Int} (ha : a ∈ m) (hb : b ∈ m) (he : a.1 = b.1) : a = b := by
  induction m with
  | nil => cases ha
  | cons t r ih =>
    rw [List.map_cons, List.nodup_cons] at h
    rcases List.mem_cons.1 ha with h1 | ha
    · rcases List.mem_cons.1 hb with h2 | hb
      · rw [h1, h2]
      · exact absurd (List.mem_map.2 ⟨b, hb, by rw [← he, h1]⟩) h.1
    · rcases List.mem_cons.1 hb with h2 | hb
      · exact absurd (List.mem_map.2 ⟨a, ha, by rw [he, h2]⟩) h.1
      · exact ih h.2 ha hb
theorem mem_del {m : List (Int × Int)} (h : (m.map (·.1)).Nodup) (k : Int) (t : Int × Int) : t ∈ delL m k ↔ t ∈ m ∧ t.1 ≠ k := by
  induction m with
  | nil => simp [delL]
  | cons a r ih =>
    obtain ⟨x, y⟩ := a
    rw [List.map_cons, List.nodup_cons] at h
    unfold delL
    split
    · rename_i e
      constructor
      · intro ht
        refine ⟨List.mem_cons_of_mem _ ht, fun he => h.1 (List.mem_map.2 ⟨t, ht, ?_⟩)⟩
        rw [he]; exact e.symm
      · rintro ⟨ht, hne⟩
        rcases List.mem_cons.1 ht with rfl | ht
        · exact absurd e hne
        · exact ht
    · rename_i e
      simp only [List.mem_cons, ih h.2]
      constructor
      · rintro (rfl | ⟨h1, h2⟩)
        · exact ⟨.inl rfl, e⟩
        · exact ⟨.inr h1, h2⟩
      · rintro ⟨rfl | h1, h2⟩
        · exact .inl rfl
        · exact .inr ⟨h1, h2⟩
theorem put_new {m : List (Int × Int)} {k v : Int} (h : lookL m k = none) : putL m k v = m ++ [(k, v)] := by
  induction m with
  | nil => rfl
  | cons a r ih =>
    obtain ⟨x, y⟩ := a
    unfold lookL at h
    unfold putL
    split at h
    · cases h
    · rename_i e; rw [if_neg e, ih h]; rfl
theorem look_del {m : List (Int × Int)} (h : (m.map (·.1)).Nodup) (k : Int) : lookL (delL m k) k = none := by
  cases hl : lookL (delL m k) k with
  | none => rfl
  | some v => exact absurd rfl ((mem_del h k _).1 (look_mem2 hl)).2
theorem wOk_del {N : Nat} {L : List TRow} {m : List (Int × Int)} (h : wOk N L m) {k v : Int} (hk : lookL m k = some v) {r r' : TRow} (hr : L[slotN N v]? = some r) (hts : r'.ts = r.ts.filter fun t => !eqK k t) : wOk N (L.set (slotN N v) r') (delL m k) := by
  have hm := look_mem2 hk
  refine ⟨h.n, by rw [List.length_set]; exact h.len, delL_keys m k h.keys, fun t ht => h.pos t ((mem_del h.keys k t).1 ht).1, fun i a ha => ?_⟩
  rw [List.getElem?_set] at ha
  split at ha
  · rename_i hi
    split at ha
    · cases ha; subst hi
      have hrow := h.row _ r hr
      rw [hts]
      refine ⟨hrow.1.filter _, fun t => ?_⟩
      rw [List.mem_filter, hrow.2 t, mem_del h.keys]
      simp only [eqK, Bool.not_eq_true', beq_eq_false_iff_ne, ne_eq]
      constructor
      · rintro ⟨⟨a, b⟩, c⟩; exact ⟨⟨a, c⟩, b⟩
      · rintro ⟨⟨a, c⟩, b⟩; exact ⟨⟨a, b⟩, c⟩
    · cases ha
  · rename_i hi
    have hrow := h.row i a ha
    refine ⟨hrow.1, fun t => ?_⟩
    rw [hrow.2 t, mem_del h.keys]
    constructor
    · rintro ⟨h1, h2⟩
      refine ⟨⟨h1, fun he => hi ?_⟩, h2⟩
      have := key_uniq h.keys h1 hm he
      rw [← h2, this]
    · rintro ⟨⟨h1, _⟩, h2⟩; exact ⟨h1, h2⟩
theorem wOk_put {N : Nat} {L : List TRow} {m : List (Int × Int)} (h : wOk N L m) {k v : Int} (hk : lookL m k = none) (h0 : 0 ≤ v) (h1 : v ≤ 1099511627776) {r r' : TRow} (hr : L[slotN N v]? = some r) (hts : r'.ts = r.ts ++ [(k, v)]) : wOk N (L.set (slotN N v) r') (m ++ [(k, v)]) := by
  have hn := look_none2 hk
  refine ⟨h.n, by rw [List.length_set]; exact h.len, ?_, ?_, fun i a ha => ?_⟩
  · rw [List.map_append, List.nodup_append]
    refine ⟨h.keys, by simp, fun a ha b hb => ?_⟩
    simp only [List.map_cons, List.map_nil, List.mem_singleton] at hb
    obtain ⟨t, ht, rfl⟩ := List.mem_map.1 ha
    rw [hb]; exact hn t ht
  · intro t ht
    rcases List.mem_append.1 ht with ht | ht
    · exact h.pos t ht
    · rw [List.mem_singleton] at ht; subst ht; exact ⟨h0, h1⟩
  · rw [List.getElem?_set] at ha
    split at ha
    · rename_i hi
      split at ha
      · cases ha; subst hi
        have hrow := h.row _ r hr
        rw [hts]
        refine ⟨?_, fun t => ?_⟩
        · rw [List.nodup_append]
          refine ⟨hrow.1, by simp, fun a ha b hb => ?_⟩
          rw [List.mem_singleton] at hb; subst hb
          intro he; subst he
          exact hn _ ((hrow.2 _).1 ha).1 rfl
        · rw [List.mem_append, List.mem_append, hrow.2 t, List.mem_singleton]
          constructor
          · rintro (⟨a, b⟩ | rfl)
            · exact ⟨.inl a, b⟩
            · exact ⟨.inr rfl, rfl⟩
          · rintro ⟨a | rfl, b⟩
            · exact .inl ⟨a, b⟩
            · exact .inr rfl
      · cases ha
    · rename_i hi
      have hrow := h.row i a ha
      refine ⟨hrow.1, fun t => ?_⟩
      rw [hrow.2 t, List.mem_append, List.mem_singleton]
      constructor
      · rintro ⟨a, b⟩; exact ⟨.inl a, b⟩
      · rintro ⟨a | rfl, b⟩
        · exact ⟨a, b⟩
        · exact absurd b hi
theorem wOk_new {N : Nat} (h0 : 1 ≤ N) (h1 : N ≤ 1024) : wOk N (List.replicate N ⟨none, 0, []⟩) [] :=
  ⟨⟨h0, h1⟩, List.length_replicate, by simp, by simp, fun i r hr => by
    have := (List.mem_replicate.1 (List.mem_of_getElem? hr)).2
    subst this; simp⟩
theorem keyI : KeyL Try.prog 3 (fun n : Int => .int .i64 n) := KeyL.int rfl
def evI (n : Int) : Value := .int .i64 n
def ekI (n : Int) : Value := .int .i64 n
theorem keyI' : KeyL Try.prog 3 ekI := keyI
theorem isKey_ct (g : Nat) (k : Int) (t : Int × Int) (w : World) (hg : w.heap[g]? = some (.cells #[.int .i64 k] 3 (0, 0))) : Calls Try.prog 32 #[.agg #[.int .i64 t.1, .int .i64 t.2], .pointer (some ⟨g, 0, none⟩)] w fun e w' => e = .returned (.bool (eqK k t)) ∧ Fr w w' [] := by
  refine enterD (n := 8) Try.func32 rfl rfl (Nat.le_of_ble_eq_true rfl) ?_
  intro Q0 hN hret hret'
  have hC := Cx.startMs w [(g, .cells #[.int .i64 k] 3)] (by simp) (by simp [hg])
  refine WC.seq (fun K1 hK2 => ?_)
  refine WC.region ?_
  refine WL.newM hC (fun b => .pointer (some ⟨b, 0, none⟩)) (.cells #[.int .i64 t.1, .int .i64 t.2] 67) 2 (fun _ => by kernel_rfl) (fun g3 w4 hb7 hF5 hC6 => ?_)
  refine WL.runs 1 [(3, .bool false)] (fun _ => by kernel_rfl) ?_
  refine WL.done rfl ?_
  refine QX.then_normal (hK2 _ _ ?_)
  refine WC.seq (fun K8 hK9 => ?_)
  refine WC.region ?_
  refine WL.runs 1 [(4, .pointer (some ⟨g3, 0, none⟩))] (fun _ => by kernel_rfl) ?_
  refine WL.load 3 (.pointer (some ⟨g3, 0, none⟩)) (.int .i64 t.1) 5 (by kernel_rfl) (run_ld (hC6.get 1 rfl) rfl) ?_
  refine WL.load 3 (.pointer (some ⟨g, 0, none⟩)) (.int .i64 k) 6 (by kernel_rfl) (run_ld (hC6.get 0 rfl) rfl) ?_
  refine WL.runs 2 [(3, .bool (t.1 == k)), (7, .bool (t.1 == k))] (fun _ => by kernel_rfl) ?_
  refine WL.done rfl ?_
  refine QX.then_normal (hK9 _ _ ?_)
  refine WC.ret ?_
  refine (hret _ _ _ rfl ?_).1
  clear hN hret hret' hK9 hK2
  exact ⟨rfl, hC6.fr.shrink (by intro x hx; simp at hx; subst hx; exact (hC6.get 0 rfl).trans hg.symm)⟩

theorem cmpT_ct (a b : Int × Int) (w : World) : Calls Try.prog 28 #[.agg #[.int .i64 a.1, .int .i64 a.2], .agg #[.int .i64 b.1, .int .i64 b.2]] w fun e w' => e = .returned (.int .i64 (orI [cmpI a.2 b.2, cmpI a.1 b.1])) ∧ Fr w w' [] := by
  refine enterD (n := 17) Try.func28 rfl rfl (Nat.le_of_ble_eq_true rfl) ?_
  intro Q0 hN hret hret'
  have hC := Cx.start w
  refine WC.seq (fun K1 hK2 => ?_)
  refine WC.region ?_
  refine WL.newM hC (fun b => .pointer (some ⟨b, 0, none⟩)) (.cells #[.int .i64 a.1, .int .i64 a.2] 67) 2 (fun _ => by kernel_rfl) (fun g3 w4 hb7 hF5 hC6 => ?_)
  refine WL.newM hC6 (fun b => .pointer (some ⟨b, 0, none⟩)) (.cells #[.int .i64 b.1, .int .i64 b.2] 67) 3 (fun _ => by kernel_rfl) (fun g8 w9 hb12 hF10 hC11 => ?_)
  refine WL.runs 1 [(4, .int .i64 0)] (fun _ => by kernel_rfl) ?_
  refine WL.done rfl ?_
  refine QX.then_normal (hK2 _ _ ?_)
  refine WC.seq (fun K13 hK14 => ?_)
  refine WC.drawC hC11 [] (by kernel_rfl) (fun w15 hF16 hC17 hS18 => ?_)
  refine WD.pure (NoPanic.then hN) 0 5 (.pointer (some ⟨g3, 1, none⟩)) (by kernel_rfl) (fun _ => by kernel_rfl) hS18 ?_
  refine WD.pure (NoPanic.then hN) 2 7 (.pointer (some ⟨g8, 1, none⟩)) (by kernel_rfl) (fun _ => by kernel_rfl) hS18 ?_
  refine WD.pure (NoPanic.then hN) 5 10 (.pointer (some ⟨g3, 0, none⟩)) (by kernel_rfl) (fun _ => by kernel_rfl) hS18 ?_
  refine WD.pure (NoPanic.then hN) 7 12 (.pointer (some ⟨g8, 0, none⟩)) (by kernel_rfl) (fun _ => by kernel_rfl) hS18 ?_
  refine WD.load (NoPanic.then hN) 1 3 (.pointer (some ⟨g3, 1, none⟩)) (.int .i64 a.2) 6 (by kernel_rfl) (by kernel_rfl) (fun _ hS_ => run_ld (Fr.has hS_ (hC17.get 0 rfl) (by simp)) rfl) hS18 ?_
  refine WD.load (NoPanic.then hN) 3 3 (.pointer (some ⟨g8, 1, none⟩)) (.int .i64 b.2) 8 (by kernel_rfl) (by kernel_rfl) (fun _ hS_ => run_ld (Fr.has hS_ (hC17.get 1 rfl) (by simp)) rfl) hS18 ?_
  refine WD.load (NoPanic.then hN) 6 3 (.pointer (some ⟨g3, 0, none⟩)) (.int .i64 a.1) 11 (by kernel_rfl) (by kernel_rfl) (fun _ hS_ => run_ld (Fr.has hS_ (hC17.get 0 rfl) (by simp)) rfl) hS18 ?_
  refine WD.load (NoPanic.then hN) 8 3 (.pointer (some ⟨g8, 0, none⟩)) (.int .i64 b.1) 13 (by kernel_rfl) (by kernel_rfl) (fun _ hS_ => run_ld (Fr.has hS_ (hC17.get 1 rfl) (by simp)) rfl) hS18 ?_
  refine WD.call 4 (by kernel_rfl) rfl rfl rfl rfl rfl (by kernel_rfl) (compare_int a.2 b.2 w15) ?_
  rintro _ w20 ⟨rfl, hF19⟩
  have hS22 := hS18.trans hF19 (by simp)
  refine ⟨_, rfl, hS22, ?_⟩
  have hC21 := hC17.call hF19
  refine WD.call 9 (by kernel_rfl) rfl rfl rfl rfl rfl (by kernel_rfl) (compare_int a.1 b.1 w20) ?_
  rintro _ w24 ⟨rfl, hF23⟩
  have hS26 := hS22.trans hF23 (by simp)
  refine ⟨_, rfl, hS26, ?_⟩
  have hC25 := hC21.call hF23
  refine WD.new 10 (fun b => .slice (some ⟨b, 0, none⟩) 2 2) (.cells #[.int .i64 (cmpI a.2 b.2), .int .i64 (cmpI a.1 b.1)] 3) (by kernel_rfl) rfl rfl rfl rfl rfl (fun _ => by kernel_rfl) (fun g27 w28 hb31 hl32 hF29 ho33 => ?_)
  have hC30 := hC25.callB hF29 hb31 ho33
  have hS34 := hS26.trans hF29 (by simp)
  refine ⟨hS34, ?_⟩
  refine WD.call 11 (by kernel_rfl) rfl rfl rfl rfl rfl (by kernel_rfl) (or_int (some ⟨g27, 0, none⟩) 2 [cmpI a.2 b.2, cmpI a.1 b.1] w28 (Rd.blk (hC30.get 2 rfl) (encI_len _) rfl) (by simp)) ?_
  rintro _ w36 ⟨rfl, hF35⟩
  have hS38 := hS34.trans hF35 (by simp)
  refine ⟨_, rfl, hS38, ?_⟩
  have hC37 := hC30.call hF35
  refine WD.pure (NoPanic.then hN) 12 4 (.int .i64 (orI [cmpI a.2 b.2, cmpI a.1 b.1])) (by kernel_rfl) (fun _ => by kernel_rfl) hS38 ?_
  refine WD.done (by kernel_rfl) ?_
  refine QX.then_normal (hK14 _ _ ?_)
  refine WC.ret ?_
  refine (hret _ _ _ rfl ?_).1
  clear hN hret hret' hK14 hK2
  exact ⟨rfl, hC37.fr⟩

def idxK (k : Int) (ts : List (Int × Int)) : Int := match ts.findIdx? (eqK k) with
  | some i => (i : Int)
  | none => -1
def outK (k : Int) (ts : List (Int × Int)) : List (Int × Int) := ts.filter fun t => !eqK k t
theorem idx_hit {ts : List (Int × Int)} {k : Int} {i : Nat} {e : Int × Int} (he : ts[i]? = some e) (hm : (ts.take i).all (fun t => !eqK k t) = true) (h : eqK k e = true) : idxK k ts = (i : Int) := by
  obtain ⟨hi, rfl⟩ := List.getElem?_eq_some_iff.1 he
  have : ts.findIdx? (eqK k) = some i := by
    rw [List.findIdx?_eq_some_iff_getElem]
    refine ⟨hi, h, fun j hj => ?_⟩
    rw [List.all_eq_true] at hm
    have := hm ts[j] (by rw [List.mem_iff_getElem?]; exact ⟨j, by rw [List.getElem?_take, if_pos hj]; exact List.getElem?_eq_getElem (by omega)⟩)
    simpa using this
  unfold idxK; rw [this]
theorem idx_none {ts : List (Int × Int)} {k : Int} (hm : ts.all (fun t => !eqK k t) = true) : idxK k ts = -1 := by
  have : ts.findIdx? (eqK k) = none := by
    rw [List.findIdx?_eq_none_iff]
    intro x hx
    rw [List.all_eq_true] at hm
    simpa using hm x hx
  unfold idxK; rw [this]
theorem take_allT {ts : List (Int × Int)} {i : Nat} (h : ¬ i < ts.length) : ts.take i = ts := List.take_of_length_le (by omega)
theorem all_snocT {ts : List (Int × Int)} {k : Int} {i : Nat} {e : Int × Int} (he : ts[i]? = some e) (hm : (ts.take i).all (fun t => !eqK k t) = true) (h : eqK k e = false) : (ts.take (i + 1)).all (fun t => !eqK k t) = true := by
  obtain ⟨hi, rfl⟩ := List.getElem?_eq_some_iff.1 he
  rw [List.take_succ_eq_append_getElem hi, List.all_append, hm]; simp [h]
theorem idx_cases (k : Int) (ts : List (Int × Int)) : (idxK k ts = -1 ∧ outK k ts = ts) ∨ ∃ i : Nat, idxK k ts = (i : Int) ∧ i < ts.length ∧ ts.take i = outK k (ts.take (i + 1)) := by
  unfold idxK
  cases h : ts.findIdx? (eqK k) with
  | none =>
    left
    refine ⟨rfl, ?_⟩
    rw [List.findIdx?_eq_none_iff] at h
    exact List.filter_eq_self.2 fun x hx => by simp [h x hx]
  | some i =>
    right
    obtain ⟨hi, h1, h2⟩ := List.findIdx?_eq_some_iff_getElem.1 h
    refine ⟨i, rfl, hi, ?_⟩
    have hf : (ts.take i).filter (fun t => !eqK k t) = ts.take i := List.filter_eq_self.2 fun x hx => by
      obtain ⟨j, hj⟩ := List.mem_iff_getElem?.1 hx
      rw [List.getElem?_take] at hj
      split at hj
      · rename_i hji
        obtain ⟨hj2, rfl⟩ := List.getElem?_eq_some_iff.1 hj
        simpa using h2 j hji
      · cases hj
    unfold outK
    rw [List.take_succ_eq_append_getElem hi, List.filter_append, hf]
    simp [h1]
structure DelI (k : Int) (ts L : List (Int × Int)) (i j : Nat) : Prop where
  ij : i < j ∧ j ≤ ts.length
  len : L.length = ts.length
  pre : L.take i = outK k (ts.take j)
  post : L.drop j = ts.drop j
theorem DelI.el {k : Int} {ts L : List (Int × Int)} {i j : Nat} (h : DelI k ts L i j) {e : Int × Int} (he : L[j]? = some e) : ts[j]? = some e := by
  have h1 : (L.drop j)[0]? = (ts.drop j)[0]? := by rw [h.post]
  rw [List.getElem?_drop, List.getElem?_drop, Nat.add_zero] at h1
  rw [← h1]; exact he
theorem outK_snoc {k : Int} {ts : List (Int × Int)} {j : Nat} {e : Int × Int} (he : ts[j]? = some e) : outK k (ts.take (j + 1)) = outK k (ts.take j) ++ (if eqK k e then [] else [e]) := by
  obtain ⟨hj, rfl⟩ := List.getElem?_eq_some_iff.1 he
  unfold outK
  rw [List.take_succ_eq_append_getElem hj, List.filter_append]
  cases h : eqK k ts[j] <;> simp [h]
theorem DelI.skip {k : Int} {ts L : List (Int × Int)} {i j : Nat} (h : DelI k ts L i j) {e : Int × Int} (he : L[j]? = some e) (hk : eqK k e = true) : DelI k ts L i (j + 1) := by
  have hj := (List.getElem?_eq_some_iff.1 (h.el he)).1
  refine ⟨⟨by have := h.ij; omega, by omega⟩, h.len, ?_, ?_⟩
  · rw [outK_snoc (h.el he), hk, h.pre]; simp
  · rw [← List.drop_drop, h.post, List.drop_drop]
theorem DelI.keep {k : Int} {ts L : List (Int × Int)} {i j : Nat} (h : DelI k ts L i j) {e : Int × Int} (he : L[j]? = some e) (hk : eqK k e = false) : DelI k ts (L.set i e) (i + 1) (j + 1) := by
  have hj := (List.getElem?_eq_some_iff.1 (h.el he)).1
  have hij := h.ij
  refine ⟨⟨by omega, by omega⟩, by rw [List.length_set]; exact h.len, ?_, ?_⟩
  · rw [outK_snoc (h.el he), hk, ← h.pre]
    have hi : i < (L.set i e).length := by rw [List.length_set, h.len]; omega
    rw [List.take_succ_eq_append_getElem hi, List.getElem_set_self, List.take_set_of_le (by omega)]
    simp
  · rw [List.drop_set_of_lt (by omega), ← List.drop_drop, h.post, List.drop_drop]
theorem nodup_sub_len {α : Type} [BEq α] [LawfulBEq α] : ∀ {l m : List α}, l.Nodup → (∀ x ∈ l, x ∈ m) → l.length ≤ m.length
  | [], _, _, _ => Nat.zero_le _
  | a :: r, m, h, hs => by
    rw [List.nodup_cons] at h
    have h1 := nodup_sub_len (l := r) (m := m.erase a) h.2 (fun x hx => (List.mem_erase_of_ne (fun e => h.1 (by rw [← e]; exact hx))).2 (hs x (List.mem_cons_of_mem _ hx)))
    have h2 := List.length_erase_of_mem (hs a List.mem_cons_self)
    have h3 : 0 < m.length := List.length_pos_of_mem (hs a List.mem_cons_self)
    rw [List.length_cons]; omega
theorem wOk.row_len {N : Nat} {L : List TRow} {m : List (Int × Int)} (h : wOk N L m) {i : Nat} {r : TRow} (hr : L[i]? = some r) : r.ts.length ≤ m.length :=
  nodup_sub_len (h.row i r hr).1 fun x hx => (((h.row i r hr).2 x).1 hx).1
theorem IndexFunc_ct (g : Nat) (k : Int) (A : Option Addr) (c : Nat) (ts : List (Int × Int)) (w : World) (hg : w.heap[g]? = some (.cells #[.int .i64 k] 3 (0, 0))) (hr : Rd w 2 tmC A ts) (hlen : ts.length ≤ 9223372036854775807) : Calls Try.prog 37 #[.slice A ts.length c, .func (.func 32) #[] #[.pointer (some ⟨g, 0, none⟩)]] w fun e w' => e = .returned (.int .i64 (idxK k ts)) ∧ Fr w w' [] := by
  refine enterD (n := 19) Try.func37 rfl rfl (Nat.le_of_ble_eq_true rfl) ?_
  intro Q0 hN hret hret'
  have hC := Cx.start w
  refine WC.seq (fun K1 hK2 => ?_)
  refine WC.region ?_
  refine WL.runs 1 [(4, .int .i64 0)] (fun _ => by kernel_rfl) ?_
  refine WL.done rfl ?_
  refine QX.then_normal (hK2 _ _ ?_)
  refine WC.seq (fun K3 hK4 => ?_)
  refine WC.seq (fun K5 hK6 => ?_)
  refine WC.region ?_
  refine WL.runs 3 [(8, .int .i64 0), (7, .int .i64 (ts.length : Int)), (6, .slice A ts.length c)] (fun _ => by kernel_rfl) ?_
  refine WL.done rfl ?_
  refine QX.then_normal (hK6 _ _ ?_)
  refine WC.block ?_
  refine WC.loop (fun m_ E_ w_ => ∃ (i : Nat), m_ = ts.length - i ∧ E_ = [(0, .slice A ts.length c), (1, .func (.func 32) #[] #[.pointer (some ⟨g, 0, none⟩)]), (7, .int .i64 (ts.length : Int)), (8, .int .i64 (i : Int))] ∧ Cx w [] w_ [] [] ∧ (i ≤ ts.length ∧ (ts.take i).all (fun t => !eqK k t) = true)) ⟨_, _, ⟨0, rfl, rfl, hC, Nat.zero_le _, rfl⟩, sub_of ⟨rfl, rfl, rfl, rfl, trivial⟩⟩ (fun m10 E_ w11 K7 hK8 hI9 => ?_)
  obtain ⟨i, rfl, rfl, hC12, hi, hall⟩ := hI9
  refine WC.seq (fun K13 hK14 => ?_)
  refine WC.region ?_
  refine WL.runs 1 [(9, .bool (decide ((i : Int) < (ts.length : Int))))] (fun _ => by kernel_rfl) ?_
  refine WL.done rfl ?_
  refine QX.then_normal (hK14 _ _ ?_)
  refine WC.seq (fun K15 hK16 => ?_)
  refine WC.test_at 9 (decide ((i : Int) < (ts.length : Int))) rfl (fun t17b => ?_) (fun t17b => ?_)
  · -- (i : Int) < (ts.length : Int): true
    have t17 : (i : Int) < (ts.length : Int) := by have q_ := of_decide_eq_true t17b; omega
    refine WC.cond_true rfl ?_
    refine WC.skip ?_
    refine QX.then_normal (hK16 _ _ ?_)
    refine WC.seq (fun K18 hK19 => ?_)
    refine WC.block ?_
    refine WC.seq (fun K20 hK21 => ?_)
    refine WC.region ?_
    refine WL.runs 2 [(5, .int .i64 (i : Int)), (10, .int .i64 (i : Int))] (fun _ => by kernel_rfl) ?_
    refine WL.done rfl ?_
    refine QX.then_normal (hK21 _ _ ?_)
    refine WC.seq (fun K22 hK23 => ?_)
    refine WC.region ?_
    refine WL.runs 3 [(13, .int .i64 (i : Int)), (12, .slice A ts.length c), (11, .func (.func 32) #[] #[.pointer (some ⟨g, 0, none⟩)])] (fun _ => by kernel_rfl) ?_
    obtain ⟨e24, he25⟩ := get_some (xs := ts) (i := i) (by omega)
    obtain ⟨b26, o28, hA27, hc29⟩ := hr.at_ _ _ he25
    refine WL.index A ts.length c 14 .i64 (i : Int) b26 o28 i 2 (by kernel_rfl) hA27 (by omega) (by omega) (o28 + i * 2) (by first | (simp; done) | omega) ?_
    refine WL.load 67 (.pointer (some ⟨b26, o28 + i * 2, none⟩)) (.agg #[.int .i64 e24.1, .int .i64 e24.2]) 15 (by kernel_rfl) (run_rdN (l := [.int .i64 e24.1, .int .i64 e24.2]) rfl rfl (fun j u hu => by have hq_ := hC12.fr.cell (hc29 j u hu) (by simp); simpa [Nat.add_assoc] using hq_)) ?_
    refine WL.call rfl rfl rfl rfl rfl (by kernel_rfl) (isKey_ct g k e24 w11 (hC12.fr.has hg (by simp))) ?_
    rintro _ w31 ⟨rfl, hF30⟩
    refine ⟨_, rfl, ?_⟩
    have hC32 := hC12.call hF30
    refine WL.done rfl ?_
    refine QX.then_normal (hK23 _ _ ?_)
    refine WC.test_at 16 (eqK k e24) rfl (fun t33b => ?_) (fun t33b => ?_)
    · -- (eqK k e24) = true: true
      refine WC.cond_true rfl ?_
      refine WC.seq (fun K34 hK35 => ?_)
      refine WC.region ?_
      refine WL.runs 2 [(4, .int .i64 (i : Int)), (17, .int .i64 (i : Int))] (fun _ => by kernel_rfl) ?_
      refine WL.done rfl ?_
      refine QX.then_normal (hK35 _ _ ?_)
      refine WC.ret ?_
      refine QX.block_ret ?_
      refine QX.then_ret ?_
      refine QX.then_ret ?_
      refine QX.block_ret ?_
      refine QX.then_ret ?_
      refine (hret _ _ _ rfl ?_).1
      clear hN hret hret' hK35 hK23 hK21 hK19 hK16 hK14 hK6 hK4 hK2
      exact ⟨by show Ending.returned (.int .i64 (i : Int)) = _; rw [idx_hit he25 hall (by simpa using t33b)], hC32.fr⟩
    · -- (eqK k e24) = true: false
      refine WC.cond_false rfl ?_
      refine WC.skip ?_
      refine QX.block_normal ?_
      refine QX.then_normal (hK19 _ _ ?_)
      refine WC.region ?_
      refine WL.runs 1 [(18, .int .i64 (IntKind.i64.wrap ((i : Int) + 1)))] (fun _ => by kernel_rfl) ?_
      refine WL.recast (show (.int .i64 (IntKind.i64.wrap ((i : Int) + 1)) : Value) = .int .i64 ((i : Int) + 1) from by rw [wrap_in_i64 ((i : Int) + 1) (by omega) (by omega)]) ?_
      refine WL.runs 1 [(8, .int .i64 ((i : Int) + 1))] (fun _ => by kernel_rfl) ?_
      refine WL.done rfl ?_
      refine QX.then_normal ?_
      have hC36 := hC32.pick [] [] rfl rfl
      refine fun a_ ha_ => hK8 _ _ _ ?_ ⟨i + 1, rfl, rfl, hC36, by omega, all_snocT he25 hall (by simpa using t33b)⟩ a_ (ha_.weaken (sub_of ⟨rfl, rfl, rfl, rfl, trivial⟩))
      omega
  · -- (i : Int) < (ts.length : Int): false
    have t17 : (ts.length : Int) ≤ (i : Int) := by have q_ := of_decide_eq_false t17b; omega
    refine WC.cond_false rfl ?_
    refine WC.exit ?_
    refine QX.then_exit ?_
    refine QX.then_exit ?_
    refine QX.block_hit ?_
    refine QX.then_normal (hK4 _ _ ?_)
    refine WC.seq (fun K37 hK38 => ?_)
    refine WC.region ?_
    refine WL.runs 1 [(4, .int .i64 (-1))] (fun _ => by kernel_rfl) ?_
    refine WL.done rfl ?_
    refine QX.then_normal (hK38 _ _ ?_)
    refine WC.ret ?_
    refine (hret _ _ _ rfl ?_).1
    clear hN hret hret' hK38 hK16 hK14 hK6 hK4 hK2
    rw [take_allT (by omega)] at hall
    exact ⟨by show Ending.returned (.int .i64 (-1)) = _; rw [idx_none hall], hC12.fr⟩

set_option maxHeartbeats 1000000 in
theorem DeleteFunc_ct (g : Nat) (k : Int) (A : Option Addr) (c : Nat) (ts : List (Int × Int)) (w : World) (hg : w.heap[g]? = some (.cells #[.int .i64 k] 3 (0, 0))) (hgF : g ∉ blk (.slice A ts.length c)) (hown : w.ownsRow 0 67 2 (.slice A ts.length c) ts.length (ts.flatMap tmC)) (hlen : ts.length ≤ 9223372036854775807) : Calls Try.prog 31 #[.slice A ts.length c, .func (.func 32) #[] #[.pointer (some ⟨g, 0, none⟩)]] w fun e w' => e = .returned (.slice A (outK k ts).length c) ∧ Fr w w' (blk (.slice A ts.length c)) ∧ w'.ownsRow 0 67 2 (.slice A (outK k ts).length c) (outK k ts).length ((outK k ts).flatMap tmC) := by
  refine enterD (n := 42) Try.func31 rfl rfl (Nat.le_of_ble_eq_true rfl) ?_
  intro Q0 hN hret hret'
  have hln_ : ts.length ≤ 9223372036854775807 := hlen
  have hcc_ := own_le hown
  have hC := Cx.start1 w (own_lt hown)
  refine WC.seq (fun K1 hK2 => ?_)
  refine WC.region ?_
  refine WL.runs 1 [(4, .slice none 0 0)] (fun _ => by kernel_rfl) ?_
  refine WL.done rfl ?_
  refine QX.then_normal (hK2 _ _ ?_)
  refine WC.seq (fun K3 hK4 => ?_)
  refine WC.region ?_
  refine WL.runs 2 [(9, .func (.func 32) #[] #[.pointer (some ⟨g, 0, none⟩)]), (8, .slice A ts.length c)] (fun _ => by kernel_rfl) ?_
  refine WL.call rfl rfl rfl rfl rfl (by kernel_rfl) (IndexFunc_ct g k A c ts w (hC.fr.has hg hgF) (own_rd hown tmC_len (by decide)) hlen) ?_
  rintro _ w6 ⟨rfl, hF5⟩
  refine ⟨_, rfl, ?_⟩
  have hC7 := hC.call hF5
  have ho8 := own_fr hown hF5 (by simp)
  rcases idx_cases k ts with ⟨hx9, hsame_⟩ | ⟨i0, hx9, hlt_, hpre_⟩
  · skip
    refine WL.recast (show (.int .i64 (idxK k ts) : Value) = .int .i64 (-1) from congrArg (Value.int .i64) hx9) ?_
    refine WL.runs 1 [(5, .int .i64 (-1))] (fun _ => by kernel_rfl) ?_
    refine WL.done rfl ?_
    refine QX.then_normal (hK4 _ _ ?_)
    refine WC.seq (fun K10 hK11 => ?_)
    refine WC.seq (fun K12 hK13 => ?_)
    refine WC.region ?_
    refine WL.runs 2 [(12, .bool true), (11, .int .i64 (-1))] (fun _ => by kernel_rfl) ?_
    refine WL.done rfl ?_
    refine QX.then_normal (hK13 _ _ ?_)
    refine WC.cond_true rfl ?_
    refine WC.seq (fun K14 hK15 => ?_)
    refine WC.region ?_
    refine WL.runs 2 [(4, .slice A ts.length c), (13, .slice A ts.length c)] (fun _ => by kernel_rfl) ?_
    refine WL.done rfl ?_
    refine QX.then_normal (hK15 _ _ ?_)
    refine WC.ret ?_
    refine QX.then_ret ?_
    refine (hret _ _ _ rfl ?_).1
    clear hN hret hret' hK15 hK13 hK11 hK4 hK2
    rw [hsame_]
    exact ⟨rfl, hC7.fr, ho8⟩
  · skip
    refine WL.recast (show (.int .i64 (idxK k ts) : Value) = .int .i64 (i0 : Int) from congrArg (Value.int .i64) hx9) ?_
    refine WL.runs 1 [(5, .int .i64 (i0 : Int))] (fun _ => by kernel_rfl) ?_
    refine WL.done rfl ?_
    refine QX.then_normal (hK4 _ _ ?_)
    refine WC.seq (fun K16 hK17 => ?_)
    refine WC.seq (fun K18 hK19 => ?_)
    refine WC.region ?_
    refine WL.runs 2 [(12, .bool ((i0 : Int) == (-1))), (11, .int .i64 (i0 : Int))] (fun _ => by kernel_rfl) ?_
    refine WL.done rfl ?_
    refine QX.then_normal (hK19 _ _ ?_)
    refine WC.know 12 (.bool ((i0 : Int) == (-1))) (.bool false) rfl (congrArg Value.bool (by first | (simp; done) | (simp; omega))) ?_
    refine WC.cond_false rfl ?_
    refine WC.skip ?_
    refine QX.then_normal (hK17 _ _ ?_)
    refine WC.seq (fun K20 hK21 => ?_)
    refine WC.seq (fun K22 hK23 => ?_)
    refine WC.region ?_
    refine WL.runs 2 [(15, .int .i64 (IntKind.i64.wrap ((i0 : Int) + 1))), (14, .int .i64 (i0 : Int))] (fun _ => by kernel_rfl) ?_
    refine WL.recast (show (.int .i64 (IntKind.i64.wrap ((i0 : Int) + 1)) : Value) = .int .i64 ((i0 : Int) + 1) from by rw [wrap_in_i64 ((i0 : Int) + 1) (by omega) (by omega)]) ?_
    refine WL.runs 1 [(6, .int .i64 ((i0 : Int) + 1))] (fun _ => by kernel_rfl) ?_
    refine WL.done rfl ?_
    refine QX.then_normal (hK23 _ _ ?_)
    refine WC.block ?_
    refine WC.loop (fun m_ E_ w_ => ∃ (i j : Nat) (L : List (Int × Int)), m_ = ts.length - j ∧ E_ = [(0, .slice A ts.length c), (1, .func (.func 32) #[] #[.pointer (some ⟨g, 0, none⟩)]), (4, .slice none 0 0), (5, .int .i64 (i : Int)), (6, .int .i64 (j : Int))] ∧ Cx w (blk (.slice A ts.length c)) w_ [] [blk (.slice A ts.length c)] ∧ World.ownsRow w_ 0 67 2 (.slice A ts.length c) ts.length (L.flatMap tmC) ∧ (DelI k ts L i j)) ⟨_, _, ⟨i0, i0 + 1, ts, rfl, rfl, hC7, ho8, ⟨⟨by omega, by omega⟩, rfl, hpre_, rfl⟩⟩, sub_of ⟨rfl, rfl, rfl, rfl, rfl, trivial⟩⟩ (fun m27 E_ w28 K24 hK25 hI26 => ?_)
    obtain ⟨i, j, L, rfl, rfl, hC29, hrow, hd⟩ := hI26
    have hij_ := hd.ij
    have hLl_ := hd.len
    refine WC.seq (fun K30 hK31 => ?_)
    refine WC.seq (fun K32 hK33 => ?_)
    refine WC.region ?_
    refine WL.runs 4 [(19, .bool (decide ((j : Int) < (ts.length : Int)))), (18, .int .i64 (ts.length : Int)), (17, .slice A ts.length c), (16, .int .i64 (j : Int))] (fun _ => by kernel_rfl) ?_
    refine WL.done rfl ?_
    refine QX.then_normal (hK33 _ _ ?_)
    refine WC.test_at 19 (decide ((j : Int) < (ts.length : Int))) rfl (fun t34b => ?_) (fun t34b => ?_)
    · -- (j : Int) < (ts.length : Int): true
      have t34 : (j : Int) < (ts.length : Int) := by have q_ := of_decide_eq_true t34b; omega
      refine WC.cond_true rfl ?_
      refine WC.skip ?_
      refine QX.then_normal (hK31 _ _ ?_)
      refine WC.seq (fun K35 hK36 => ?_)
      refine WC.block ?_
      refine WC.seq (fun K37 hK38 => ?_)
      refine WC.region ?_
      refine WL.runs 2 [(23, .int .i64 (j : Int)), (22, .slice A ts.length c)] (fun _ => by kernel_rfl) ?_
      have hn43 := own_count tmC_len (by decide) hrow
      obtain ⟨e39, he40⟩ := get_some (xs := L) (i := j) (by omega)
      obtain ⟨b41, hA42⟩ := own_addr (by decide) tmC_len hrow he40
      refine WL.index A ts.length c 24 .i64 (j : Int) b41 0 j 2 (by kernel_rfl) hA42 (by omega) (by omega) (j * 2) (by first | (simp; done) | omega) ?_
      refine WL.load 67 (.pointer (some ⟨b41, j * 2, none⟩)) (.agg #[.int .i64 e39.1, .int .i64 e39.2]) 25 (by kernel_rfl) (run_rdN (l := [.int .i64 e39.1, .int .i64 e39.2]) rfl rfl (fun j u hu => by have hq_ := Rd.cell (own_rd hrow tmC_len (by decide)) hA42 he40 j u hu; simpa [Nat.add_assoc] using hq_)) ?_
      refine WL.newM hC29 (fun b => .pointer (some ⟨b, 0, none⟩)) (.cells #[.int .i64 0, .int .i64 0] 67) 7 (fun _ => by kernel_rfl) (fun g44 w45 hb48 hF46 hC47 => ?_)
      have ho49 := own_fr hrow hF46 (by simp)
      refine WL.storeM (c' := #[.int .i64 e39.1, .int .i64 e39.2]) hC47 0 67 g44 0 (.agg #[.int .i64 e39.1, .int .i64 e39.2]) (by kernel_rfl) rfl (by kernel_rfl) (fun w50 hF52 hC53 => ?_)
      have ho54 := own_fr ho49 hF52 (hC47.apartM 0 0 rfl rfl)
      refine WL.done rfl ?_
      refine QX.then_normal (hK38 _ _ ?_)
      refine WC.seq (fun K55 hK56 => ?_)
      refine WC.region ?_
      refine WL.runs 1 [(26, .func (.func 32) #[] #[.pointer (some ⟨g, 0, none⟩)])] (fun _ => by kernel_rfl) ?_
      refine WL.load 67 (.pointer (some ⟨g44, 0, none⟩)) (.agg #[.int .i64 e39.1, .int .i64 e39.2]) 27 (by kernel_rfl) (run_ld (hC53.get 0 rfl) rfl) ?_
      refine WL.call rfl rfl rfl rfl rfl (by kernel_rfl) (isKey_ct g k e39 w50 (hC53.fr.has hg hgF)) ?_
      rintro _ w58 ⟨rfl, hF57⟩
      refine ⟨_, rfl, ?_⟩
      have hC59 := hC53.call hF57
      have ho60 := own_fr ho54 hF57 (by simp)
      refine WL.runs 1 [(29, .bool (!(eqK k e39)))] (fun _ => by kernel_rfl) ?_
      refine WL.done rfl ?_
      refine QX.then_normal (hK56 _ _ ?_)
      refine WC.test_at 29 (!(eqK k e39)) rfl (fun t61b => ?_) (fun t61b => ?_)
      · -- (!(eqK k e39)) = true: true
        have t61 : (eqK k e39) = false := by first | (simpa only [Bool.not_eq_true', Bool.not_eq_false'] using t61b) | simpa using t61b
        refine WC.cond_true rfl ?_
        refine WC.seq (fun K62 hK63 => ?_)
        refine WC.region ?_
        refine WL.runs 2 [(31, .int .i64 (i : Int)), (30, .slice A ts.length c)] (fun _ => by kernel_rfl) ?_
        refine WL.load 67 (.pointer (some ⟨g44, 0, none⟩)) (.agg #[.int .i64 e39.1, .int .i64 e39.2]) 32 (by kernel_rfl) (run_ld (hC59.get 0 rfl) rfl) ?_
        have hn68 := own_count tmC_len (by decide) ho60
        obtain ⟨e64, he65⟩ := get_some (xs := L) (i := i) (by omega)
        obtain ⟨b66, hA67⟩ := own_addr (by decide) tmC_len ho60 he65
        refine WL.index A ts.length c 33 .i64 (i : Int) b66 0 i 2 (by kernel_rfl) hA67 (by omega) (by omega) (i * 2) (by first | (simp; done) | omega) ?_
        obtain ⟨w69, hr70, hF71, ho73, hC72⟩ := stoE_run Try.prog tmC_len hC59 0 hA67 rfl ho60 i 0 (x := e64) he65 e39 [.int .i64 e39.1, .int .i64 e39.2] rfl 67 (.agg #[.int .i64 e39.1, .int .i64 e39.2]) (i * 2) rfl rfl rfl (by simp [Nat.add_assoc])
        refine WL.semU (Instr.storeAt 67 (.pointer (some ⟨b66, i * 2, none⟩)) (.agg #[.int .i64 e39.1, .int .i64 e39.2])) (by kernel_rfl) hr70 ?_
        refine WL.done rfl ?_
        refine QX.then_normal (hK63 _ _ ?_)
        refine WC.region ?_
        refine WL.runs 2 [(35, .int .i64 (IntKind.i64.wrap ((i : Int) + 1))), (34, .int .i64 (i : Int))] (fun _ => by kernel_rfl) ?_
        refine WL.recast (show (.int .i64 (IntKind.i64.wrap ((i : Int) + 1)) : Value) = .int .i64 ((i : Int) + 1) from by rw [wrap_in_i64 ((i : Int) + 1) (by omega) (by omega)]) ?_
        refine WL.runs 1 [(5, .int .i64 ((i : Int) + 1))] (fun _ => by kernel_rfl) ?_
        refine WL.done rfl ?_
        refine QX.block_normal ?_
        refine QX.then_normal (hK36 _ _ ?_)
        refine WC.region ?_
        refine WL.runs 2 [(21, .int .i64 (IntKind.i64.wrap ((j : Int) + 1))), (20, .int .i64 (j : Int))] (fun _ => by kernel_rfl) ?_
        refine WL.recast (show (.int .i64 (IntKind.i64.wrap ((j : Int) + 1)) : Value) = .int .i64 ((j : Int) + 1) from by rw [wrap_in_i64 ((j : Int) + 1) (by omega) (by omega)]) ?_
        refine WL.runs 1 [(6, .int .i64 ((j : Int) + 1))] (fun _ => by kernel_rfl) ?_
        refine WL.done rfl ?_
        refine QX.then_normal ?_
        have hC74 := hC72.pick [] [0] rfl rfl
        refine fun a_ ha_ => hK25 _ _ _ ?_ ⟨i + 1, j + 1, L.set i e39, rfl, rfl, hC74, ho73, hd.keep he40 (by simpa using t61)⟩ a_ (ha_.weaken (sub_of ⟨rfl, rfl, rfl, rfl, rfl, trivial⟩))
        omega
      · -- (!(eqK k e39)) = true: false
        have t61 : (eqK k e39) = true := by first | (simpa only [Bool.not_eq_true', Bool.not_eq_false'] using t61b) | simpa using t61b
        refine WC.cond_false rfl ?_
        refine WC.skip ?_
        refine QX.block_normal ?_
        refine QX.then_normal (hK36 _ _ ?_)
        refine WC.region ?_
        refine WL.runs 2 [(21, .int .i64 (IntKind.i64.wrap ((j : Int) + 1))), (20, .int .i64 (j : Int))] (fun _ => by kernel_rfl) ?_
        refine WL.recast (show (.int .i64 (IntKind.i64.wrap ((j : Int) + 1)) : Value) = .int .i64 ((j : Int) + 1) from by rw [wrap_in_i64 ((j : Int) + 1) (by omega) (by omega)]) ?_
        refine WL.runs 1 [(6, .int .i64 ((j : Int) + 1))] (fun _ => by kernel_rfl) ?_
        refine WL.done rfl ?_
        refine QX.then_normal ?_
        have hC75 := hC59.pick [] [0] rfl rfl
        refine fun a_ ha_ => hK25 _ _ _ ?_ ⟨i, j + 1, L, rfl, rfl, hC75, ho60, hd.skip he40 (by simpa using t61)⟩ a_ (ha_.weaken (sub_of ⟨rfl, rfl, rfl, rfl, rfl, trivial⟩))
        omega
    · -- (j : Int) < (ts.length : Int): false
      have t34 : (ts.length : Int) ≤ (j : Int) := by have q_ := of_decide_eq_false t34b; omega
      refine WC.cond_false rfl ?_
      refine WC.exit ?_
      refine QX.then_exit ?_
      refine QX.then_exit ?_
      refine QX.block_hit ?_
      refine QX.then_normal (hK21 _ _ ?_)
      refine WC.seq (fun K76 hK77 => ?_)
      refine WC.region ?_
      refine WL.runs 2 [(37, .int .i64 (i : Int)), (36, .slice A ts.length c)] (fun _ => by kernel_rfl) ?_
      obtain ⟨A78, hA79⟩ : ∃ A_, slcAt A i c 2 = A_ := ⟨_, rfl⟩
      have hle_ := own_le hrow
      have hb80 : ts.length ≤ c := by omega
      refine WL.slc 65 67 2 A A78 ts.length c i ts.length (ts.length - i) (c - i) (some (.int .i64 (i : Int))) none 38 (by kernel_rfl) (by kernel_rfl) (bnd.yes (by omega)) bnd.no (by omega) hb80 hA79 (by first | rfl | omega) (by first | rfl | omega) ?_
      obtain ⟨w81, hr82, hF83, hC84, ho85⟩ := clear_run (P := Try.prog) hC29 0 (t := 65) (ty := 0) (bytes := 16) (by kernel_rfl) (by kernel_rfl) rfl hrow (by omega) hA79
      have ho86 := ho85
      rw [flat_take tmC_len] at ho86
      refine WL.semN (Builtin.clear_ #[65] 0 #[.slice A78 (ts.length - i) (c - i)]) _ (by kernel_rfl) hr82 ?_
      refine WL.done rfl ?_
      refine QX.then_normal (hK77 _ _ ?_)
      refine WC.seq (fun K87 hK88 => ?_)
      refine WC.region ?_
      refine WL.runs 2 [(40, .int .i64 (i : Int)), (39, .slice A ts.length c)] (fun _ => by kernel_rfl) ?_
      have hb89 : i ≤ c := by omega
      refine WL.slc 65 67 2 A A ts.length c 0 i i c none (some (.int .i64 (i : Int))) 41 (by kernel_rfl) (by kernel_rfl) bnd.no (bnd.yes (by omega)) (by omega) hb89 (slcAt_pre _ _ _) (by first | rfl | omega) (by first | rfl | omega) ?_
      refine WL.runs 1 [(4, .slice A i c)] (fun _ => by kernel_rfl) ?_
      refine WL.done rfl ?_
      refine QX.then_normal (hK88 _ _ ?_)
      refine WC.ret ?_
      refine (hret _ _ _ rfl ?_).1
      clear hN hret hret' hK88 hK77 hK33 hK31 hK23 hK21 hK19 hK17 hK4 hK2
      have hend_ : (L.take i) = outK k ts := by rw [hd.pre, List.take_of_length_le (by omega)]
      have hcn_ : (outK k ts).length = i := by rw [← hend_, List.length_take]; omega
      rw [hend_] at ho86
      rw [hcn_]
      exact ⟨rfl, hC84.fr, ho86⟩

end Go.Proofs.Ytkafccgbagbncaa
