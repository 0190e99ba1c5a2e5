/- Contracts of functions of the program, each proved by a walk through its code; conditions stand in the statements. -/
import Derived.Test.YtelmklombehhkaaSbL13
namespace Go.Proofs.Ytelmklombehhkaa
set_option linter.unusedSimpArgs false
set_option linter.unusedVariables false
set_option linter.unusedSectionVars false
open Go Go.RowKit Go.Tw
set_option linter.unusedVariables false
set_option maxRecDepth 20000
theorem rowBytes {w : World} {F : List Nat} {p : Nat} {N Y : Ct} {size : Int} (h : stAt w F p N Y size) {k : ByteArray} {xs : List Int} (hl : lookL N k = some xs) : byteL xs := by
  obtain ⟨b1, b2, m1, m2, _, h1, h2, rfl, rfl, _⟩ := h
  obtain ⟨y, hy, e⟩ := List.mem_map.1 (look_mem hl)
  have := (h1.rows y hy).byt
  cases e; exact this
set_option maxHeartbeats 2000000 in
theorem StableSynced_ct (A B : Option Addr) (c d : Nat) (ops1 ops2 : List StOp) (size : Int) (w : World) (hr1 : Rd w 5 cellO A ops1) (hr2 : Rd w 5 cellO B ops2) (hok1 : ∀ o ∈ ops1, opAt w o) (hok2 : ∀ o ∈ ops2, opAt w o) (hl1 : ops1.length ≤ 9223372036854775807) (hl2 : ops2.length ≤ 9223372036854775807) : Calls Try.prog 7 #[.slice A ops1.length c, .slice B ops2.length d, .int .i64 size] w fun e w' => e = .returned (.bool true) ∧ Fr w w' [] := by
  refine enterD (n := 130) Try.func7 rfl rfl (Nat.le_of_ble_eq_true rfl) ?_
  intro Q0 hN hret hret'
  have hC := Cx.start w
  refine WC.seq (fun K1 hK2 => ?_)
  refine WC.region ?_
  refine WL.runs 1 [(6, .bool false)] (fun _ => by kernel_rfl) ?_
  refine WL.done rfl ?_
  refine QX.then_normal (hK2 _ _ ?_)
  refine WC.seq (fun K3 hK4 => ?_)
  refine WC.seq (fun K5 hK6 => ?_)
  refine WC.region ?_
  refine WL.call rfl rfl rfl rfl rfl (by kernel_rfl) (alive_ct w) ?_
  rintro _ w8 ⟨rfl, hF7⟩
  refine ⟨_, rfl, ?_⟩
  have hC9 := hC.call hF7
  refine WL.runs 1 [(19, .bool false)] (fun _ => by kernel_rfl) ?_
  refine WL.done rfl ?_
  refine QX.then_normal (hK6 _ _ ?_)
  refine WC.cond_false rfl ?_
  refine WC.skip ?_
  refine QX.then_normal (hK4 _ _ ?_)
  refine WC.seq (fun K10 hK11 => ?_)
  refine WC.seq (fun K12 hK13 => ?_)
  refine WC.region ?_
  refine WL.runs 1 [(20, .slice A ops1.length c)] (fun _ => by kernel_rfl) ?_
  refine WL.call rfl rfl rfl rfl rfl (by kernel_rfl) (long_ct A c ops1 w8 (Rd.fr hr1 hC9.fr) (fun o_ h_ => (hok1 o_ h_).fr' hC9.fr) hl1) ?_
  rintro _ w16 ⟨b14, rfl, hF15⟩
  refine ⟨_, rfl, ?_⟩
  have hC17 := hC9.call hF15
  refine WL.runs 1 [(22, .bool b14)] (fun _ => by kernel_rfl) ?_
  refine WL.test_at 22 (b14) rfl (fun t18b => ?_) (fun t18b => ?_)
  · -- b14 = true: true
    refine WL.runs 11 [(33, .bool true), (32, undef), (31, undef), (30, .bool true), (29, .bool true), (28, undef), (27, undef), (26, .bool true), (25, .bool true), (24, undef), (23, undef)] (fun _ => by kernel_rfl) ?_
    refine WL.done rfl ?_
    refine QX.then_normal (hK13 _ _ ?_)
    refine WC.cond_true rfl ?_
    refine WC.seq (fun K19 hK20 => ?_)
    refine WC.region ?_
    refine WL.runs 1 [(6, .bool true)] (fun _ => by kernel_rfl) ?_
    refine WL.done rfl ?_
    refine QX.then_normal (hK20 _ _ ?_)
    refine WC.ret ?_
    refine QX.then_ret ?_
    refine (hret _ _ _ rfl ?_).1
    clear hN hret hret' hK20 hK13 hK11 hK6 hK4 hK2
    exact ⟨rfl, hC17.fr⟩
  · -- b14 = true: false
    refine WL.runs 1 [(23, .slice B ops2.length d)] (fun _ => by kernel_rfl) ?_
    refine WL.call rfl rfl rfl rfl rfl (by kernel_rfl) (long_ct B d ops2 w16 (Rd.fr hr2 hC17.fr) (fun o_ h_ => (hok2 o_ h_).fr' hC17.fr) hl2) ?_
    rintro _ w23 ⟨b21, rfl, hF22⟩
    refine ⟨_, rfl, ?_⟩
    have hC24 := hC17.call hF22
    refine WL.runs 2 [(26, .bool b21), (25, .bool b21)] (fun _ => by kernel_rfl) ?_
    refine WL.test_at 26 (b21) rfl (fun t25b => ?_) (fun t25b => ?_)
    · -- b21 = true: true
      refine WL.runs 7 [(33, .bool true), (32, undef), (31, undef), (30, .bool true), (29, .bool true), (28, undef), (27, undef)] (fun _ => by kernel_rfl) ?_
      refine WL.done rfl ?_
      refine QX.then_normal (hK13 _ _ ?_)
      refine WC.cond_true rfl ?_
      refine WC.seq (fun K26 hK27 => ?_)
      refine WC.region ?_
      refine WL.runs 1 [(6, .bool true)] (fun _ => by kernel_rfl) ?_
      refine WL.done rfl ?_
      refine QX.then_normal (hK27 _ _ ?_)
      refine WC.ret ?_
      refine QX.then_ret ?_
      refine (hret _ _ _ rfl ?_).1
      clear hN hret hret' hK27 hK13 hK11 hK6 hK4 hK2
      exact ⟨rfl, hC24.fr⟩
    · -- b21 = true: false
      refine WL.runs 4 [(30, .bool (decide (size < 0))), (29, .bool (decide (size < 0))), (28, .bool (decide (size < 0))), (27, .int .i64 size)] (fun _ => by kernel_rfl) ?_
      refine WL.test_at 30 (decide (size < 0)) rfl (fun t28b => ?_) (fun t28b => ?_)
      · -- size < 0: true
        have t28 : size < 0 := by have q_ := of_decide_eq_true t28b; omega
        refine WL.runs 3 [(33, .bool true), (32, undef), (31, undef)] (fun _ => by kernel_rfl) ?_
        refine WL.done rfl ?_
        refine QX.then_normal (hK13 _ _ ?_)
        refine WC.cond_true rfl ?_
        refine WC.seq (fun K29 hK30 => ?_)
        refine WC.region ?_
        refine WL.runs 1 [(6, .bool true)] (fun _ => by kernel_rfl) ?_
        refine WL.done rfl ?_
        refine QX.then_normal (hK30 _ _ ?_)
        refine WC.ret ?_
        refine QX.then_ret ?_
        refine (hret _ _ _ rfl ?_).1
        clear hN hret hret' hK30 hK13 hK11 hK6 hK4 hK2
        exact ⟨rfl, hC24.fr⟩
      · -- size < 0: false
        have t28 : (0 : Int) ≤ size := by have q_ := of_decide_eq_false t28b; omega
        refine WL.runs 3 [(33, .bool (decide (size > 1048576))), (32, .bool (decide (size > 1048576))), (31, .int .i64 size)] (fun _ => by kernel_rfl) ?_
        refine WL.done rfl ?_
        refine QX.then_normal (hK13 _ _ ?_)
        refine WC.test_at 33 (decide (size > 1048576)) rfl (fun t31b => ?_) (fun t31b => ?_)
        · -- size > 1048576: true
          have t31 : (1048576 : Int) < size := by have q_ := of_decide_eq_true t31b; omega
          refine WC.cond_true rfl ?_
          refine WC.seq (fun K32 hK33 => ?_)
          refine WC.region ?_
          refine WL.runs 1 [(6, .bool true)] (fun _ => by kernel_rfl) ?_
          refine WL.done rfl ?_
          refine QX.then_normal (hK33 _ _ ?_)
          refine WC.ret ?_
          refine QX.then_ret ?_
          refine (hret _ _ _ rfl ?_).1
          clear hN hret hret' hK33 hK13 hK11 hK6 hK4 hK2
          exact ⟨rfl, hC24.fr⟩
        · -- size > 1048576: false
          have t31 : size ≤ 1048576 := by have q_ := of_decide_eq_false t31b; omega
          refine WC.cond_false rfl ?_
          refine WC.skip ?_
          refine QX.then_normal (hK11 _ _ ?_)
          refine WC.seq (fun K34 hK35 => ?_)
          refine WC.region ?_
          refine WL.runs 1 [(35, .int .i64 size)] (fun _ => by kernel_rfl) ?_
          refine WL.call rfl rfl rfl rfl rfl (by kernel_rfl) (New_ct size w23 (by omega) (by omega)) ?_
          rintro _ w39 ⟨p36, F37, rfl, hF38, hT41, hge42⟩
          have hC40 := hC24.callN hF38 hge42 (stAt_lt hT41)
          refine ⟨_, rfl, ?_⟩
          refine WL.runs 5 [(8, .nilIface), (7, .pointer (some ⟨p36, 0, none⟩)), (38, .nilIface), (37, .pointer (some ⟨p36, 0, none⟩)), (34, .tuple #[.pointer (some ⟨p36, 0, none⟩), .nilIface])] (fun _ => by kernel_rfl) ?_
          refine WL.done rfl ?_
          refine QX.then_normal (hK35 _ _ ?_)
          refine WC.seq (fun K44 hK45 => ?_)
          refine WC.seq (fun K46 hK47 => ?_)
          refine WC.region ?_
          refine WL.runs 6 [(44, .bool false), (43, .bool false), (42, .pointer (some ⟨p36, 0, none⟩)), (41, .bool false), (40, .bool false), (39, .nilIface)] (fun _ => by kernel_rfl) ?_
          refine WL.done rfl ?_
          refine QX.then_normal (hK47 _ _ ?_)
          refine WC.cond_false rfl ?_
          refine WC.skip ?_
          refine QX.then_normal (hK45 _ _ ?_)
          refine WC.seq (fun K48 hK49 => ?_)
          refine WC.seq (fun K50 hK51 => ?_)
          refine WC.region ?_
          refine WL.runs 3 [(47, .int .i64 0), (46, .int .i64 (ops1.length : Int)), (45, .slice A ops1.length c)] (fun _ => by kernel_rfl) ?_
          refine WL.done rfl ?_
          refine QX.then_normal (hK51 _ _ ?_)
          refine WC.block ?_
          refine WC.loop (fun m_ E_ w_ => ∃ (i : Nat) (F5 : List Nat) (N5 : Ct), m_ = ops1.length - i ∧ E_ = [(0, .slice A ops1.length c), (1, .slice B ops2.length d), (2, .int .i64 size), (6, .bool false), (7, .pointer (some ⟨p36, 0, none⟩)), (45, .slice A ops1.length c), (46, .int .i64 (ops1.length : Int)), (47, .int .i64 (i : Int))] ∧ Cx w [] w_ [] [F5] ∧ stAt w_ F5 p36 N5 [] size ∧ (i ≤ ops1.length)) ⟨_, _, ⟨0, F37, [], rfl, rfl, hC40, hT41, Nat.zero_le _⟩, sub_of ⟨rfl, rfl, rfl, rfl, rfl, rfl, rfl, rfl, trivial⟩⟩ (fun m55 E_ w56 K52 hK53 hI54 => ?_)
          obtain ⟨i, F5, N5, rfl, rfl, hC57, hTi, hi⟩ := hI54
          skip
          refine WC.seq (fun K58 hK59 => ?_)
          refine WC.region ?_
          refine WL.runs 1 [(48, .bool (decide ((i : Int) < (ops1.length : Int))))] (fun _ => by kernel_rfl) ?_
          refine WL.done rfl ?_
          refine QX.then_normal (hK59 _ _ ?_)
          refine WC.seq (fun K60 hK61 => ?_)
          refine WC.test_at 48 (decide ((i : Int) < (ops1.length : Int))) rfl (fun t62b => ?_) (fun t62b => ?_)
          · -- (i : Int) < (ops1.length : Int): true
            have t62 : (i : Int) < (ops1.length : Int) := by have q_ := of_decide_eq_true t62b; omega
            refine WC.cond_true rfl ?_
            refine WC.skip ?_
            refine QX.then_normal (hK61 _ _ ?_)
            refine WC.seq (fun K63 hK64 => ?_)
            refine WC.block ?_
            refine WC.seq (fun K65 hK66 => ?_)
            refine WC.region ?_
            obtain ⟨e67, he68⟩ := get_some (xs := ops1) (i := i) (by omega)
            obtain ⟨b69, o71, hA70, hc72⟩ := hr1.at_ _ _ he68
            have hop_e67 := hok1 _ (List.mem_of_getElem? he68)
            refine WL.index A ops1.length c 49 .i64 (i : Int) b69 o71 i 5 (by kernel_rfl) hA70 (by omega) (by omega) (o71 + i * 5) (by first | (simp; done) | omega) ?_
            refine WL.load 54 (.pointer (some ⟨b69, o71 + i * 5, none⟩)) (.agg #[.int .i64 e67.kind, .string e67.key, .slice e67.more.a e67.more.n e67.more.c, .slice e67.row.a e67.row.n e67.row.c, .int .i64 e67.cut]) 50 (by kernel_rfl) (run_rdN (l := [.int .i64 e67.kind, .string e67.key, .slice e67.more.a e67.more.n e67.more.c, .slice e67.row.a e67.row.n e67.row.c, .int .i64 e67.cut]) rfl rfl (fun j u hu => by have hq_ := hC57.fr.cell (hc72 j u hu) (by simp); simpa [Nat.add_assoc] using hq_)) ?_
            refine WL.newM hC57 (fun b => .pointer (some ⟨b, 0, none⟩)) (.cells #[.int .i64 0, .string ⟨#[]⟩, .slice none 0 0, .slice none 0 0, .int .i64 0] 54) 10 (fun _ => by kernel_rfl) (fun g73 w74 hb77 hF75 hC76 => ?_)
            have hf78 := stAt_fr hTi hF75 (by simp)
            refine WL.storeM (c' := #[.int .i64 e67.kind, .string e67.key, .slice e67.more.a e67.more.n e67.more.c, .slice e67.row.a e67.row.n e67.row.c, .int .i64 e67.cut]) hC76 0 54 g73 0 (.agg #[.int .i64 e67.kind, .string e67.key, .slice e67.more.a e67.more.n e67.more.c, .slice e67.row.a e67.row.n e67.row.c, .int .i64 e67.cut]) (by kernel_rfl) rfl (by kernel_rfl) (fun w79 hF81 hC82 => ?_)
            have hf83 := stAt_fr hf78 hF81 (hC76.apartM 0 0 rfl rfl)
            refine WL.done rfl ?_
            refine QX.then_normal (hK66 _ _ ?_)
            refine WC.seq (fun K84 hK85 => ?_)
            refine WC.region ?_
            refine WL.runs 2 [(52, .pointer (some ⟨g73, 1, none⟩)), (51, .pointer (some ⟨p36, 0, none⟩))] (fun _ => by kernel_rfl) ?_
            refine WL.load 9 (.pointer (some ⟨g73, 1, none⟩)) (.string e67.key) 53 (by kernel_rfl) (run_ld (hC82.get 0 rfl) rfl) ?_
            refine WL.runs 1 [(54, .pointer (some ⟨g73, 3, none⟩))] (fun _ => by kernel_rfl) ?_
            refine WL.load 22 (.pointer (some ⟨g73, 3, none⟩)) (.slice e67.row.a e67.row.n e67.row.c) 55 (by kernel_rfl) (run_ld (hC82.get 0 rfl) rfl) ?_
            refine WL.newM hC82 (fun b => .slice (some ⟨b, 0, none⟩) 1 1) (.cells #[.slice e67.row.a e67.row.n e67.row.c] 22) 56 (fun _ => by kernel_rfl) (fun g86 w87 hb90 hF88 hC89 => ?_)
            have hf91 := stAt_fr hf83 hF88 (by simp)
            have hr92 : ∀ r_ ∈ ([e67.row] : List BRow), rowAt w87 r_ := by
              intro r_ hr_; simp only [List.mem_cons, List.not_mem_nil, or_false] at hr_
              rcases hr_ with rfl
              · exact ((hop_e67).row.fr hC89.fr (fun _ _ => by simp))
            refine WL.call rfl rfl rfl rfl rfl (by kernel_rfl) (Put_any F5 p36 N5 [] size e67.key (some ⟨g86, 0, none⟩) 1 [e67.row] e67.row.xs w87 hf91 (Rd.blk (hC89.get 1 rfl) cellB_len rfl) hr92 (by simp) (cat1 _ _ _ _)) ?_
            rintro _ w94 ⟨F97, rfl, hF93, hT96, hsub98⟩
            have hT96' : stAt w94 F97 p36 (putS N5 size e67.key e67.row.xs) [] size := hT96
            have hC95 := hC89.callF 0 rfl hF93 hsub98 (stAt_lt hT96')
            refine ⟨_, rfl, ?_⟩
            refine WL.done rfl ?_
            refine QX.then_normal (hK85 _ _ ?_)
            refine WC.seq (fun K99 hK100 => ?_)
            refine WC.region ?_
            refine WL.runs 1 [(58, .pointer (some ⟨g73, 0, none⟩))] (fun _ => by kernel_rfl) ?_
            refine WL.load 3 (.pointer (some ⟨g73, 0, none⟩)) (.int .i64 e67.kind) 59 (by kernel_rfl) (run_ld (hC95.get 0 rfl) rfl) ?_
            refine WL.runs 1 [(60, .bool (e67.kind == 1))] (fun _ => by kernel_rfl) ?_
            refine WL.done rfl ?_
            refine QX.then_normal (hK100 _ _ ?_)
            refine WC.test_at 60 (e67.kind == 1) rfl (fun t101b => ?_) (fun t101b => ?_)
            · -- e67.kind = 1: true
              have t101 : e67.kind = 1 := by simpa using t101b
              refine WC.cond_true rfl ?_
              refine WC.region ?_
              refine WL.runs 2 [(62, .pointer (some ⟨g73, 1, none⟩)), (61, .pointer (some ⟨p36, 0, none⟩))] (fun _ => by kernel_rfl) ?_
              refine WL.load 9 (.pointer (some ⟨g73, 1, none⟩)) (.string e67.key) 63 (by kernel_rfl) (run_ld (hC95.get 0 rfl) rfl) ?_
              refine WL.newM hC95 (fun b => .slice (some ⟨b, 0, none⟩) 1 1) (.cells #[.string e67.key] 9) 64 (fun _ => by kernel_rfl) (fun g102 w103 hb106 hF104 hC105 => ?_)
              have hf107 := stAt_fr hT96' hF104 (by simp)
              refine WL.call rfl rfl rfl rfl rfl (by kernel_rfl) (Drop_ct F97 p36 (putS N5 size e67.key e67.row.xs) [] size (some ⟨g102, 0, none⟩) 1 [e67.key] w103 hf107 (Rd.blk (hC105.get 2 rfl) Go.Tw.encS_len rfl) (by simp) (fun _ _ e_ => by cases e_; exact hC105.notin 0 2 rfl rfl)) ?_
              rintro _ w109 ⟨F112, rfl, hF108, hT111, hsub113⟩
              have hT111' : stAt w109 F112 p36 (delL (putS N5 size e67.key e67.row.xs) e67.key) [] size := hT111
              have hC110 := hC105.callF 0 rfl hF108 hsub113 (stAt_lt hT111')
              refine ⟨_, rfl, ?_⟩
              refine WL.done rfl ?_
              refine QX.block_normal ?_
              refine QX.then_normal (hK64 _ _ ?_)
              refine WC.region ?_
              refine WL.runs 1 [(66, .int .i64 (IntKind.i64.wrap ((i : Int) + 1)))] (fun _ => by kernel_rfl) ?_
              refine WL.recast (show (.int .i64 (IntKind.i64.wrap ((i : Int) + 1)) : Value) = .int .i64 ((i : Int) + 1) from by rw [wrap_in_i64 ((i : Int) + 1) (by omega) (by omega)]) ?_
              refine WL.runs 1 [(47, .int .i64 ((i : Int) + 1))] (fun _ => by kernel_rfl) ?_
              refine WL.done rfl ?_
              refine QX.then_normal ?_
              have hC114 := hC110.pick [] [0] rfl rfl
              refine fun a_ ha_ => hK53 _ _ _ ?_ ⟨i + 1, F112, delL (putS N5 size e67.key e67.row.xs) e67.key, rfl, rfl, hC114, hT111', by omega⟩ a_ (ha_.weaken (sub_of ⟨rfl, rfl, rfl, rfl, rfl, rfl, rfl, rfl, trivial⟩))
              omega
            · -- e67.kind = 1: false
              have t101 : ¬ (e67.kind = 1) := by simpa using t101b
              refine WC.cond_false rfl ?_
              refine WC.skip ?_
              refine QX.block_normal ?_
              refine QX.then_normal (hK64 _ _ ?_)
              refine WC.region ?_
              refine WL.runs 1 [(66, .int .i64 (IntKind.i64.wrap ((i : Int) + 1)))] (fun _ => by kernel_rfl) ?_
              refine WL.recast (show (.int .i64 (IntKind.i64.wrap ((i : Int) + 1)) : Value) = .int .i64 ((i : Int) + 1) from by rw [wrap_in_i64 ((i : Int) + 1) (by omega) (by omega)]) ?_
              refine WL.runs 1 [(47, .int .i64 ((i : Int) + 1))] (fun _ => by kernel_rfl) ?_
              refine WL.done rfl ?_
              refine QX.then_normal ?_
              have hC115 := hC95.pick [] [0] rfl rfl
              refine fun a_ ha_ => hK53 _ _ _ ?_ ⟨i + 1, F97, putS N5 size e67.key e67.row.xs, rfl, rfl, hC115, hT96', by omega⟩ a_ (ha_.weaken (sub_of ⟨rfl, rfl, rfl, rfl, rfl, rfl, rfl, rfl, trivial⟩))
              omega
          · -- (i : Int) < (ops1.length : Int): false
            have t62 : (ops1.length : Int) ≤ (i : Int) := by have q_ := of_decide_eq_false t62b; omega
            refine WC.cond_false rfl ?_
            refine WC.exit ?_
            refine QX.then_exit ?_
            refine QX.then_exit ?_
            refine QX.block_hit ?_
            refine QX.then_normal (hK49 _ _ ?_)
            refine WC.seq (fun K116 hK117 => ?_)
            refine WC.region ?_
            refine WL.runs 1 [(67, .pointer (some ⟨p36, 0, none⟩))] (fun _ => by kernel_rfl) ?_
            refine WL.call rfl rfl rfl rfl rfl (by kernel_rfl) (Sync_ct F5 p36 N5 [] size w56 hTi) ?_
            rintro _ w119 ⟨F122, rfl, hF118, hT121, hsub123⟩
            have hT121' : stAt w119 F122 p36 N5 N5 size := hT121
            have hC120 := hC57.callF 0 rfl hF118 hsub123 (stAt_lt hT121')
            refine ⟨_, rfl, ?_⟩
            refine WL.done rfl ?_
            refine QX.then_normal (hK117 _ _ ?_)
            refine WC.seq (fun K124 hK125 => ?_)
            refine WC.seq (fun K126 hK127 => ?_)
            refine WC.region ?_
            refine WL.runs 1 [(69, .pointer (some ⟨p36, 0, none⟩))] (fun _ => by kernel_rfl) ?_
            refine WL.call rfl rfl rfl rfl rfl (by kernel_rfl) (Sync_ct F122 p36 N5 N5 size w119 hT121') ?_
            rintro _ w129 ⟨F132, rfl, hF128, hT131, hsub133⟩
            have hT131' : stAt w129 F132 p36 N5 N5 size := hT131
            have hC130 := hC120.callF 0 rfl hF128 hsub133 (stAt_lt hT131')
            refine ⟨_, rfl, ?_⟩
            refine WL.runs 1 [(71, .bool ((unlN N5 N5 : Int) != 0))] (fun _ => by kernel_rfl) ?_
            refine WL.done rfl ?_
            refine QX.then_normal (hK127 _ _ ?_)
            refine WC.know 71 (.bool ((unlN N5 N5 : Int) != 0)) (.bool false) rfl (congrArg Value.bool (by simp [unl_self (stAt_nodup hT131').1])) ?_
            refine WC.cond_false rfl ?_
            refine WC.skip ?_
            refine QX.then_normal (hK125 _ _ ?_)
            refine WC.seq (fun K134 hK135 => ?_)
            refine WC.region ?_
            refine WL.newM hC130 (fun b => .slice (some ⟨b, 0, none⟩) 0 0) (.cells #[] 65) 72 (fun _ => by kernel_rfl) (fun g136 w137 hb140 hF138 hC139 => ?_)
            have hf141 := stAt_fr hT131' hF138 (by simp)
            refine WL.runs 1 [(11, .slice (some ⟨g136, 0, none⟩) 0 0)] (fun _ => by kernel_rfl) ?_
            refine WL.done rfl ?_
            refine QX.then_normal (hK135 _ _ ?_)
            refine WC.seq (fun K142 hK143 => ?_)
            refine WC.seq (fun K144 hK145 => ?_)
            refine WC.region ?_
            refine WL.runs 1 [(73, .pointer (some ⟨p36, 0, none⟩))] (fun _ => by kernel_rfl) ?_
            refine WL.call rfl rfl rfl rfl rfl (by kernel_rfl) (Keys_ct F132 p36 N5 N5 size w137 hf141) ?_
            rintro _ w148 ⟨v_, rfl, hF147, ho146⟩
            have hC149 := hC139.callN hF147 (own_ge ho146) (own_lt ho146)
            obtain ⟨A150, c151, rfl, hle152⟩ := own_form ho146
            have ho154 := own_base (b' := 0) ho146 (fun _ _ => Nat.zero_le _)
            refine ⟨_, rfl, ?_⟩
            have hf155 := stAt_fr hf141 hF147 (by simp)
            refine WL.runs 2 [(76, .int .i64 0), (75, .int .i64 ((keysL N5).length : Int))] (fun _ => by kernel_rfl) ?_
            refine WL.done rfl ?_
            refine QX.then_normal (hK145 _ _ ?_)
            refine WC.block ?_
            have ho158 : World.ownsRow w148 0 65 2 (.slice (some ⟨g136, 0, none⟩) 0 0) 0 [] := own_of_blk (Nat.zero_le _) (hC149.get 0 rfl) (Nat.le_refl _) (Nat.zero_le _) (by simp) rfl
            have hC157 := hC149.toF 0 rfl
            have hC159 := hC157.addNil
            have hrw0_ : rowsIn w148 (blk (.slice none 0 0)) [] := ⟨fun _ h_ => (nomatch h_), fun _ h_ => (nomatch h_)⟩
            have hkl_ := keysL_len N5
            obtain ⟨hub1_, hub2_, hub3_, hub4_⟩ := stAt_used hf155
            refine WC.loop (fun m_ E_ w_ => ∃ (i2 : Nat) (A5 : Option Addr) (n5 c5 : Nat) (RW5 : List Nat) (ps5 : Mt), m_ = (keysL N5).length - i2 ∧ E_ = [(0, .slice A ops1.length c), (1, .slice B ops2.length d), (6, .bool false), (7, .pointer (some ⟨p36, 0, none⟩)), (11, .slice A5 n5 c5), (74, .slice A150 ((keysL N5).length) c151), (75, .int .i64 ((keysL N5).length : Int)), (76, .int .i64 (i2 : Int))] ∧ Cx w [] w_ [] [F132, blk (.slice A150 ((keysL N5).length) c151), blk (.slice A5 n5 c5), RW5] ∧ stAt w_ F132 p36 N5 N5 size ∧ World.ownsRow w_ 0 9 1 (.slice A150 ((keysL N5).length) c151) ((keysL N5).length) ((keysL N5).flatMap Go.Tw.encS) ∧ World.ownsRow w_ 0 65 2 (.slice A5 n5 c5) n5 (ps5.flatMap cellP) ∧ rowsIn w_ RW5 ps5 ∧ (i2 ≤ (keysL N5).length ∧ ct ps5 = (listL N5).take i2)) ⟨_, _, ⟨0, some ⟨g136, 0, none⟩, 0, 0, (blk (.slice none 0 0)), [], rfl, rfl, hC159, hf155, ho154, ho158, hrw0_, Nat.zero_le _, rfl⟩, sub_of ⟨rfl, rfl, rfl, rfl, rfl, rfl, rfl, rfl, trivial⟩⟩ (fun m163 E_ w164 K160 hK161 hI162 => ?_)
            obtain ⟨i2, A5, n5, c5, RW5, ps5, rfl, rfl, hC165, sto43_m163, row156_m163, hwas5, hrw5, hi2, hct5⟩ := hI162
            have hcn_ := own_count cellP_len (by decide) hwas5
            have hpl5_ : ps5.length ≤ (keysL N5).length := by have q_ := congrArg List.length hct5; rw [List.length_take, listL_len] at q_; have q2_ : (ct ps5).length = ps5.length := (by simp [ct]); omega
            refine WC.seq (fun K166 hK167 => ?_)
            refine WC.region ?_
            refine WL.runs 1 [(77, .bool (decide ((i2 : Int) < ((keysL N5).length : Int))))] (fun _ => by kernel_rfl) ?_
            refine WL.done rfl ?_
            refine QX.then_normal (hK167 _ _ ?_)
            refine WC.seq (fun K168 hK169 => ?_)
            refine WC.test_at 77 (decide ((i2 : Int) < ((keysL N5).length : Int))) rfl (fun t170b => ?_) (fun t170b => ?_)
            · -- (i2 : Int) < ((keysL N5).length : Int): true
              have t170 : (i2 : Int) < ((keysL N5).length : Int) := by have q_ := of_decide_eq_true t170b; omega
              refine WC.cond_true rfl ?_
              refine WC.skip ?_
              refine QX.then_normal (hK169 _ _ ?_)
              refine WC.seq (fun K171 hK172 => ?_)
              refine WC.block ?_
              refine WC.seq (fun K173 hK174 => ?_)
              refine WC.region ?_
              have hn179 := own_count Go.Tw.encS_len (by decide) row156_m163
              obtain ⟨e175, he176⟩ := get_some (xs := (keysL N5)) (i := i2) (by omega)
              obtain ⟨b177, hA178⟩ := own_addr (by decide) Go.Tw.encS_len row156_m163 he176
              refine WL.index A150 ((keysL N5).length) c151 78 .i64 (i2 : Int) b177 0 i2 1 (by kernel_rfl) hA178 (by omega) (by omega) i2 (by first | (simp; done) | omega) ?_
              obtain ⟨xs_, hxs_⟩ := keys_look he176
              have hxl_ := hub4_ _ (look_mem hxs_)
              dsimp only at hxl_
              refine WL.load 9 (.pointer (some ⟨b177, i2, none⟩)) (.string e175) 79 (by kernel_rfl) (run_load1 rfl (by simpa [Nat.add_assoc] using Rd.cell (own_rd row156_m163 Go.Tw.encS_len (by decide)) hA178 he176 0 _ rfl)) ?_
              refine WL.runs 1 [(13, .string e175)] (fun _ => by kernel_rfl) ?_
              refine WL.done rfl ?_
              refine QX.then_normal (hK174 _ _ ?_)
              refine WC.seq (fun K180 hK181 => ?_)
              refine WC.region ?_
              refine WL.runs 2 [(82, .string e175), (81, .pointer (some ⟨p36, 0, none⟩))] (fun _ => by kernel_rfl) ?_
              refine WL.call rfl rfl rfl rfl rfl (by kernel_rfl) (Get_yes F132 p36 N5 N5 size e175 xs_ w164 sto43_m163 hxs_) ?_
              rintro _ w184 ⟨v_, rfl, hF183, ho182⟩
              have hC185 := absorbC hC165 3 rfl hF183 (own_ge ho182) (own_lt ho182)
              obtain ⟨A186, c187, rfl, hle188⟩ := own_form ho182
              refine ⟨_, rfl, ?_⟩
              have hf190 := stAt_fr sto43_m163 hF183 (by simp)
              have ho191 := own_fr row156_m163 hF183 (by simp)
              have ho192 := own_fr hwas5 hF183 (by simp)
              have hf193 := rowsIn_fr hrw5 hF183 (by simp)
              have hra189 : rowAt w184 (⟨A186, xs_.length, c187, xs_⟩ : BRow) := ⟨own_rd ho182 (Go.Tw.encI_len _) (by decide), rfl, rowBytes hf190 hxs_⟩
              have hrw194 : rowsIn w184 (RW5 ++ blk (.slice A186 xs_.length c187)) (ps5 ++ [(e175, (⟨A186, xs_.length, c187, xs_⟩ : BRow))]) := rowsIn_snoc (rowsIn_mono hf193 (fun _ h_ => List.mem_append_left _ h_)) hra189 (fun _ h_ => List.mem_append_right _ h_)
              refine WL.runs 5 [(15, .nilIface), (14, .slice A186 xs_.length c187), (85, .nilIface), (84, .slice A186 xs_.length c187), (80, .tuple #[.slice A186 xs_.length c187, .nilIface])] (fun _ => by kernel_rfl) ?_
              refine WL.done rfl ?_
              refine QX.then_normal (hK181 _ _ ?_)
              refine WC.region ?_
              refine WL.runs 4 [(89, .agg #[.string e175, .slice A186 xs_.length c187]), (88, .slice A186 xs_.length c187), (87, .string e175), (86, .slice A5 n5 c5)] (fun _ => by kernel_rfl) ?_
              refine WL.newM hC185 (fun b => .slice (some ⟨b, 0, none⟩) 1 1) (.cells #[.string e175, .slice A186 xs_.length c187] 65) 90 (fun _ => by kernel_rfl) (fun g195 w196 hb199 hF197 hC198 => ?_)
              have hf200 := stAt_fr hf190 hF197 (by simp)
              have ho201 := own_fr ho191 hF197 (by simp)
              have ho202 := own_fr ho192 hF197 (by simp)
              have hf203 := rowsIn_fr hrw194 hF197 (by simp)
              obtain ⟨v204, w205, hr206, ho207, hF208, hC209, hnil210, hsub211⟩ := app_run Try.prog hC198 2 (v := .slice A5 n5 c5) rfl 50 50 65 2 40 n5 1 1 (some ⟨g195, 0, none⟩) rfl ho202 [.string e175, .slice A186 xs_.length c187] rfl (srcOk.blk 1 (hC198.get 0 rfl)) rfl (by simp only [maxLen]; omega) (by omega)
              have ho215 := own_snoc (enc := cellP) (ys := ps5) (e175, (⟨A186, xs_.length, c187, xs_⟩ : BRow)) ho207
              obtain ⟨A212, c213, rfl, hle214⟩ := own_form ho215
              refine WL.sem (Builtin.append_ #[50, 50] 50 #[.slice A5 n5 c5, .slice (some ⟨g195, 0, none⟩) 1 1]) 91 (.slice A212 (n5 + 1) c213) (by kernel_rfl) hr206 ?_
              have hf216 := stAt_fr hf200 hF208 (hC198.disj 0 2 rfl rfl (by decide))
              have ho217 := own_fr ho201 hF208 (hC198.disj 1 2 rfl rfl (by decide))
              have hf218 := rowsIn_fr hf203 hF208 (hC198.disj 3 2 rfl rfl (by decide))
              refine WL.runs 1 [(11, .slice A212 (n5 + 1) c213)] (fun _ => by kernel_rfl) ?_
              refine WL.done rfl ?_
              refine QX.block_normal ?_
              refine QX.then_normal (hK172 _ _ ?_)
              refine WC.region ?_
              refine WL.runs 1 [(92, .int .i64 (IntKind.i64.wrap ((i2 : Int) + 1)))] (fun _ => by kernel_rfl) ?_
              refine WL.recast (show (.int .i64 (IntKind.i64.wrap ((i2 : Int) + 1)) : Value) = .int .i64 ((i2 : Int) + 1) from by rw [wrap_in_i64 ((i2 : Int) + 1) (by omega) (by omega)]) ?_
              refine WL.runs 1 [(76, .int .i64 ((i2 : Int) + 1))] (fun _ => by kernel_rfl) ?_
              refine WL.done rfl ?_
              refine QX.then_normal ?_
              have hC219 := hC209.pick [] [0, 1, 2, 3] rfl rfl
              refine fun a_ ha_ => hK161 _ _ _ ?_ ⟨i2 + 1, A212, n5 + 1, c213, (RW5 ++ blk (.slice A186 xs_.length c187)), (ps5 ++ [(e175, (⟨A186, xs_.length, c187, xs_⟩ : BRow))]), rfl, rfl, hC219, hf216, ho217, ho215, hf218, by omega, by rw [take_listL he176 hxs_, ← hct5]; exact ct_snoc _ _ _⟩ a_ (ha_.weaken (sub_of ⟨rfl, rfl, rfl, rfl, rfl, rfl, rfl, rfl, trivial⟩))
              omega
            · -- (i2 : Int) < ((keysL N5).length : Int): false
              have t170 : ((keysL N5).length : Int) ≤ (i2 : Int) := by have q_ := of_decide_eq_false t170b; omega
              refine WC.cond_false rfl ?_
              have hcw_ := own_count cellP_len (by decide) hwas5
              subst hcw_
              have hie_ : i2 = (keysL N5).length := by omega
              have hctw_ : ct ps5 = listL N5 := by rw [hct5, hie_, List.take_of_length_le (by rw [listL_len, keysL_len]; exact Nat.le_refl _)]
              refine WC.exit ?_
              refine QX.then_exit ?_
              refine QX.then_exit ?_
              refine QX.block_hit ?_
              refine QX.then_normal (hK143 _ _ ?_)
              refine WC.seq (fun K220 hK221 => ?_)
              refine WC.seq (fun K222 hK223 => ?_)
              refine WC.region ?_
              refine WL.runs 3 [(95, .int .i64 0), (94, .int .i64 (ops2.length : Int)), (93, .slice B ops2.length d)] (fun _ => by kernel_rfl) ?_
              refine WL.done rfl ?_
              refine QX.then_normal (hK223 _ _ ?_)
              refine WC.block ?_
              refine WC.loop (fun m_ E_ w_ => ∃ (i3 : Nat) (F6 : List Nat) (N6 : Ct), m_ = ops2.length - i3 ∧ E_ = [(1, .slice B ops2.length d), (6, .bool false), (7, .pointer (some ⟨p36, 0, none⟩)), (11, .slice A5 ps5.length c5), (93, .slice B ops2.length d), (94, .int .i64 (ops2.length : Int)), (95, .int .i64 (i3 : Int))] ∧ Cx w [] w_ [] [F6, blk (.slice A150 ((keysL N5).length) c151), blk (.slice A5 ps5.length c5), RW5] ∧ World.ownsRow w_ 0 9 1 (.slice A150 ((keysL N5).length) c151) ((keysL N5).length) ((keysL N5).flatMap Go.Tw.encS) ∧ World.ownsRow w_ 0 65 2 (.slice A5 ps5.length c5) ps5.length (ps5.flatMap cellP) ∧ rowsIn w_ RW5 ps5 ∧ stAt w_ F6 p36 N6 N5 size ∧ (i3 ≤ ops2.length)) ⟨_, _, ⟨0, F132, N5, rfl, rfl, hC165, row156_m163, hwas5, hrw5, sto43_m163, Nat.zero_le _⟩, sub_of ⟨rfl, rfl, rfl, rfl, rfl, rfl, rfl, trivial⟩⟩ (fun m227 E_ w228 K224 hK225 hI226 => ?_)
              obtain ⟨i3, F6, N6, rfl, rfl, hC229, row156_m227, was_m227, rws_m227, hTi3, hi3⟩ := hI226
              skip
              refine WC.seq (fun K230 hK231 => ?_)
              refine WC.region ?_
              refine WL.runs 1 [(96, .bool (decide ((i3 : Int) < (ops2.length : Int))))] (fun _ => by kernel_rfl) ?_
              refine WL.done rfl ?_
              refine QX.then_normal (hK231 _ _ ?_)
              refine WC.seq (fun K232 hK233 => ?_)
              refine WC.test_at 96 (decide ((i3 : Int) < (ops2.length : Int))) rfl (fun t234b => ?_) (fun t234b => ?_)
              · -- (i3 : Int) < (ops2.length : Int): true
                have t234 : (i3 : Int) < (ops2.length : Int) := by have q_ := of_decide_eq_true t234b; omega
                refine WC.cond_true rfl ?_
                refine WC.skip ?_
                refine QX.then_normal (hK233 _ _ ?_)
                refine WC.seq (fun K235 hK236 => ?_)
                refine WC.block ?_
                refine WC.seq (fun K237 hK238 => ?_)
                refine WC.region ?_
                obtain ⟨e239, he240⟩ := get_some (xs := ops2) (i := i3) (by omega)
                obtain ⟨b241, o243, hA242, hc244⟩ := hr2.at_ _ _ he240
                have hop_e239 := hok2 _ (List.mem_of_getElem? he240)
                refine WL.index B ops2.length d 97 .i64 (i3 : Int) b241 o243 i3 5 (by kernel_rfl) hA242 (by omega) (by omega) (o243 + i3 * 5) (by first | (simp; done) | omega) ?_
                refine WL.load 54 (.pointer (some ⟨b241, o243 + i3 * 5, none⟩)) (.agg #[.int .i64 e239.kind, .string e239.key, .slice e239.more.a e239.more.n e239.more.c, .slice e239.row.a e239.row.n e239.row.c, .int .i64 e239.cut]) 98 (by kernel_rfl) (run_rdN (l := [.int .i64 e239.kind, .string e239.key, .slice e239.more.a e239.more.n e239.more.c, .slice e239.row.a e239.row.n e239.row.c, .int .i64 e239.cut]) rfl rfl (fun j u hu => by have hq_ := hC229.fr.cell (hc244 j u hu) (by simp); simpa [Nat.add_assoc] using hq_)) ?_
                refine WL.newM hC229 (fun b => .pointer (some ⟨b, 0, none⟩)) (.cells #[.int .i64 0, .string ⟨#[]⟩, .slice none 0 0, .slice none 0 0, .int .i64 0] 54) 17 (fun _ => by kernel_rfl) (fun g245 w246 hb249 hF247 hC248 => ?_)
                have ho250 := own_fr row156_m227 hF247 (by simp)
                have ho251 := own_fr was_m227 hF247 (by simp)
                have hf252 := rowsIn_fr rws_m227 hF247 (by simp)
                have hf253 := stAt_fr hTi3 hF247 (by simp)
                refine WL.storeM (c' := #[.int .i64 e239.kind, .string e239.key, .slice e239.more.a e239.more.n e239.more.c, .slice e239.row.a e239.row.n e239.row.c, .int .i64 e239.cut]) hC248 0 54 g245 0 (.agg #[.int .i64 e239.kind, .string e239.key, .slice e239.more.a e239.more.n e239.more.c, .slice e239.row.a e239.row.n e239.row.c, .int .i64 e239.cut]) (by kernel_rfl) rfl (by kernel_rfl) (fun w254 hF256 hC257 => ?_)
                have ho258 := own_fr ho250 hF256 (hC248.apartM 1 0 rfl rfl)
                have ho259 := own_fr ho251 hF256 (hC248.apartM 2 0 rfl rfl)
                have hf260 := rowsIn_fr hf252 hF256 (hC248.apartM 3 0 rfl rfl)
                have hf261 := stAt_fr hf253 hF256 (hC248.apartM 0 0 rfl rfl)
                refine WL.done rfl ?_
                refine QX.then_normal (hK238 _ _ ?_)
                refine WC.seq (fun K262 hK263 => ?_)
                refine WC.region ?_
                refine WL.runs 1 [(99, .pointer (some ⟨g245, 0, none⟩))] (fun _ => by kernel_rfl) ?_
                refine WL.load 3 (.pointer (some ⟨g245, 0, none⟩)) (.int .i64 e239.kind) 100 (by kernel_rfl) (run_ld (hC257.get 0 rfl) rfl) ?_
                refine WL.runs 1 [(101, .bool (e239.kind == 1))] (fun _ => by kernel_rfl) ?_
                refine WL.done rfl ?_
                refine QX.then_normal (hK263 _ _ ?_)
                refine WC.test_at 101 (e239.kind == 1) rfl (fun t264b => ?_) (fun t264b => ?_)
                · -- e239.kind = 1: true
                  have t264 : e239.kind = 1 := by simpa using t264b
                  refine WC.cond_true rfl ?_
                  refine WC.region ?_
                  refine WL.runs 2 [(103, .pointer (some ⟨g245, 1, none⟩)), (102, .pointer (some ⟨p36, 0, none⟩))] (fun _ => by kernel_rfl) ?_
                  refine WL.load 9 (.pointer (some ⟨g245, 1, none⟩)) (.string e239.key) 104 (by kernel_rfl) (run_ld (hC257.get 0 rfl) rfl) ?_
                  refine WL.newM hC257 (fun b => .slice (some ⟨b, 0, none⟩) 1 1) (.cells #[.string e239.key] 9) 105 (fun _ => by kernel_rfl) (fun g265 w266 hb269 hF267 hC268 => ?_)
                  have ho270 := own_fr ho258 hF267 (by simp)
                  have ho271 := own_fr ho259 hF267 (by simp)
                  have hf272 := rowsIn_fr hf260 hF267 (by simp)
                  have hf273 := stAt_fr hf261 hF267 (by simp)
                  refine WL.call rfl rfl rfl rfl rfl (by kernel_rfl) (Drop_ct F6 p36 N6 N5 size (some ⟨g265, 0, none⟩) 1 [e239.key] w266 hf273 (Rd.blk (hC268.get 1 rfl) Go.Tw.encS_len rfl) (by simp) (fun _ _ e_ => by cases e_; exact hC268.notin 0 1 rfl rfl)) ?_
                  rintro _ w275 ⟨F278, rfl, hF274, hT277, hsub279⟩
                  have hT277' : stAt w275 F278 p36 (delL N6 e239.key) N5 size := hT277
                  have hC276 := hC268.callF 0 rfl hF274 hsub279 (stAt_lt hT277')
                  refine ⟨_, rfl, ?_⟩
                  have ho280 := own_fr ho270 hF274 (hC268.disj 1 0 rfl rfl (by decide))
                  have ho281 := own_fr ho271 hF274 (hC268.disj 2 0 rfl rfl (by decide))
                  have hf282 := rowsIn_fr hf272 hF274 (hC268.disj 3 0 rfl rfl (by decide))
                  refine WL.done rfl ?_
                  refine QX.block_normal ?_
                  refine QX.then_normal (hK236 _ _ ?_)
                  refine WC.region ?_
                  refine WL.runs 1 [(114, .int .i64 (IntKind.i64.wrap ((i3 : Int) + 1)))] (fun _ => by kernel_rfl) ?_
                  refine WL.recast (show (.int .i64 (IntKind.i64.wrap ((i3 : Int) + 1)) : Value) = .int .i64 ((i3 : Int) + 1) from by rw [wrap_in_i64 ((i3 : Int) + 1) (by omega) (by omega)]) ?_
                  refine WL.runs 1 [(95, .int .i64 ((i3 : Int) + 1))] (fun _ => by kernel_rfl) ?_
                  refine WL.done rfl ?_
                  refine QX.then_normal ?_
                  have hC283 := hC276.pick [] [0, 1, 2, 3] rfl rfl
                  refine fun a_ ha_ => hK225 _ _ _ ?_ ⟨i3 + 1, F278, delL N6 e239.key, rfl, rfl, hC283, ho280, ho281, hf282, hT277', by omega⟩ a_ (ha_.weaken (sub_of ⟨rfl, rfl, rfl, rfl, rfl, rfl, rfl, trivial⟩))
                  omega
                · -- e239.kind = 1: false
                  have t264 : ¬ (e239.kind = 1) := by simpa using t264b
                  refine WC.cond_false rfl ?_
                  refine WC.region ?_
                  refine WL.runs 2 [(108, .pointer (some ⟨g245, 1, none⟩)), (107, .pointer (some ⟨p36, 0, none⟩))] (fun _ => by kernel_rfl) ?_
                  refine WL.load 9 (.pointer (some ⟨g245, 1, none⟩)) (.string e239.key) 109 (by kernel_rfl) (run_ld (hC257.get 0 rfl) rfl) ?_
                  refine WL.runs 1 [(110, .pointer (some ⟨g245, 3, none⟩))] (fun _ => by kernel_rfl) ?_
                  refine WL.load 22 (.pointer (some ⟨g245, 3, none⟩)) (.slice e239.row.a e239.row.n e239.row.c) 111 (by kernel_rfl) (run_ld (hC257.get 0 rfl) rfl) ?_
                  refine WL.newM hC257 (fun b => .slice (some ⟨b, 0, none⟩) 1 1) (.cells #[.slice e239.row.a e239.row.n e239.row.c] 22) 112 (fun _ => by kernel_rfl) (fun g284 w285 hb288 hF286 hC287 => ?_)
                  have ho289 := own_fr ho258 hF286 (by simp)
                  have ho290 := own_fr ho259 hF286 (by simp)
                  have hf291 := rowsIn_fr hf260 hF286 (by simp)
                  have hf292 := stAt_fr hf261 hF286 (by simp)
                  have hr293 : ∀ r_ ∈ ([e239.row] : List BRow), rowAt w285 r_ := by
                    intro r_ hr_; simp only [List.mem_cons, List.not_mem_nil, or_false] at hr_
                    rcases hr_ with rfl
                    · exact ((hop_e239).row.fr hC287.fr (fun _ _ => by simp))
                  refine WL.call rfl rfl rfl rfl rfl (by kernel_rfl) (Put_any F6 p36 N6 N5 size e239.key (some ⟨g284, 0, none⟩) 1 [e239.row] e239.row.xs w285 hf292 (Rd.blk (hC287.get 1 rfl) cellB_len rfl) hr293 (by simp) (cat1 _ _ _ _)) ?_
                  rintro _ w295 ⟨F298, rfl, hF294, hT297, hsub299⟩
                  have hT297' : stAt w295 F298 p36 (putS N6 size e239.key e239.row.xs) N5 size := hT297
                  have hC296 := hC287.callF 0 rfl hF294 hsub299 (stAt_lt hT297')
                  refine ⟨_, rfl, ?_⟩
                  have ho300 := own_fr ho289 hF294 (hC287.disj 1 0 rfl rfl (by decide))
                  have ho301 := own_fr ho290 hF294 (hC287.disj 2 0 rfl rfl (by decide))
                  have hf302 := rowsIn_fr hf291 hF294 (hC287.disj 3 0 rfl rfl (by decide))
                  refine WL.done rfl ?_
                  refine QX.block_normal ?_
                  refine QX.then_normal (hK236 _ _ ?_)
                  refine WC.region ?_
                  refine WL.runs 1 [(114, .int .i64 (IntKind.i64.wrap ((i3 : Int) + 1)))] (fun _ => by kernel_rfl) ?_
                  refine WL.recast (show (.int .i64 (IntKind.i64.wrap ((i3 : Int) + 1)) : Value) = .int .i64 ((i3 : Int) + 1) from by rw [wrap_in_i64 ((i3 : Int) + 1) (by omega) (by omega)]) ?_
                  refine WL.runs 1 [(95, .int .i64 ((i3 : Int) + 1))] (fun _ => by kernel_rfl) ?_
                  refine WL.done rfl ?_
                  refine QX.then_normal ?_
                  have hC303 := hC296.pick [] [0, 1, 2, 3] rfl rfl
                  refine fun a_ ha_ => hK225 _ _ _ ?_ ⟨i3 + 1, F298, putS N6 size e239.key e239.row.xs, rfl, rfl, hC303, ho300, ho301, hf302, hT297', by omega⟩ a_ (ha_.weaken (sub_of ⟨rfl, rfl, rfl, rfl, rfl, rfl, rfl, trivial⟩))
                  omega
              · -- (i3 : Int) < (ops2.length : Int): false
                have t234 : (ops2.length : Int) ≤ (i3 : Int) := by have q_ := of_decide_eq_false t234b; omega
                refine WC.cond_false rfl ?_
                refine WC.exit ?_
                refine QX.then_exit ?_
                refine QX.then_exit ?_
                refine QX.block_hit ?_
                refine QX.then_normal (hK221 _ _ ?_)
                refine WC.seq (fun K304 hK305 => ?_)
                refine WC.region ?_
                refine WL.runs 1 [(115, .pointer (some ⟨p36, 0, none⟩))] (fun _ => by kernel_rfl) ?_
                refine WL.call rfl rfl rfl rfl rfl (by kernel_rfl) (Crash_ct F6 p36 N6 N5 size w228 hTi3) ?_
                rintro _ w307 ⟨F310, rfl, hF306, hT309, hsub311⟩
                have hT309' : stAt w307 F310 p36 N5 N5 size := hT309
                have hC308 := hC229.callF 0 rfl hF306 hsub311 (stAt_lt hT309')
                refine ⟨_, rfl, ?_⟩
                have ho312 := own_fr row156_m227 hF306 (hC229.disj 1 0 rfl rfl (by decide))
                have ho313 := own_fr was_m227 hF306 (hC229.disj 2 0 rfl rfl (by decide))
                have hf314 := rowsIn_fr rws_m227 hF306 (hC229.disj 3 0 rfl rfl (by decide))
                refine WL.done rfl ?_
                refine QX.then_normal (hK305 _ _ ?_)
                refine WC.seq (fun K315 hK316 => ?_)
                refine WC.region ?_
                refine WL.runs 2 [(118, .slice A5 ps5.length c5), (117, .pointer (some ⟨p36, 0, none⟩))] (fun _ => by kernel_rfl) ?_
                refine WL.call rfl rfl rfl rfl rfl (by kernel_rfl) (same_ct F310 p36 N5 N5 size A5 c5 ps5 RW5 w307 hT309' (own_rd ho313 cellP_len (by decide)) hf314 hctw_) ?_
                rintro _ w318 ⟨rfl, hF317⟩
                refine ⟨_, rfl, ?_⟩
                have hC319 := hC308.call hF317
                have ho320 := own_fr ho312 hF317 (by simp)
                have ho321 := own_fr ho313 hF317 (by simp)
                have hf322 := rowsIn_fr hf314 hF317 (by simp)
                have hf323 := stAt_fr hT309' hF317 (by simp)
                refine WL.runs 2 [(121, .pointer (some ⟨p36, 0, none⟩)), (120, .bool true)] (fun _ => by kernel_rfl) ?_
                refine WL.call rfl rfl rfl rfl rfl (by kernel_rfl) (Crash_ct F310 p36 N5 N5 size w318 hf323) ?_
                rintro _ w325 ⟨F328, rfl, hF324, hT327, hsub329⟩
                have hT327' : stAt w325 F328 p36 N5 N5 size := hT327
                have hC326 := hC319.callF 0 rfl hF324 hsub329 (stAt_lt hT327')
                refine ⟨_, rfl, ?_⟩
                have ho330 := own_fr ho320 hF324 (hC319.disj 1 0 rfl rfl (by decide))
                have ho331 := own_fr ho321 hF324 (hC319.disj 2 0 rfl rfl (by decide))
                have hf332 := rowsIn_fr hf322 hF324 (hC319.disj 3 0 rfl rfl (by decide))
                refine WL.runs 3 [(125, .bool ((unlN N5 N5 : Int) == 0)), (124, .bool ((unlN N5 N5 : Int) == 0)), (123, .bool ((unlN N5 N5 : Int) == 0))] (fun _ => by kernel_rfl) ?_
                refine WL.know 125 (.bool ((unlN N5 N5 : Int) == 0)) (.bool true) rfl (congrArg Value.bool (by simp [unl_self (stAt_nodup hT327').1])) ?_
                refine WL.runs 2 [(127, .slice A5 ps5.length c5), (126, .pointer (some ⟨p36, 0, none⟩))] (fun _ => by kernel_rfl) ?_
                refine WL.call rfl rfl rfl rfl rfl (by kernel_rfl) (same_ct F328 p36 N5 N5 size A5 c5 ps5 RW5 w325 hT327' (own_rd ho331 cellP_len (by decide)) hf332 hctw_) ?_
                rintro _ w334 ⟨rfl, hF333⟩
                refine ⟨_, rfl, ?_⟩
                have hC335 := hC326.call hF333
                have ho336 := own_fr ho330 hF333 (by simp)
                have ho337 := own_fr ho331 hF333 (by simp)
                have hf338 := rowsIn_fr hf332 hF333 (by simp)
                have hf339 := stAt_fr hT327' hF333 (by simp)
                refine WL.runs 2 [(6, .bool true), (129, .bool true)] (fun _ => by kernel_rfl) ?_
                refine WL.done rfl ?_
                refine QX.then_normal (hK316 _ _ ?_)
                refine WC.ret ?_
                refine (hret _ _ _ rfl ?_).1
                clear hN hret hret' hK316 hK305 hK233 hK231 hK223 hK221 hK169 hK167 hK145 hK143 hK135 hK127 hK125 hK117 hK61 hK59 hK51 hK49 hK47 hK45 hK35 hK13 hK11 hK6 hK4 hK2
                exact ⟨rfl, hC335.fr⟩

end Go.Proofs.Ytelmklombehhkaa
