/- Contracts of the program's functions and plain words (part 2): each says what a call answers and that what lay in memory lies; no condition but what stands in each theorem -/
import Derived.Test.YteopooljohdoiaaK1
set_option linter.unusedVariables false
set_option linter.unusedSimpArgs false
namespace Go.Proofs.Yteopooljohdoiaa.Px
open Go.RowKit Go.Proofs.YteopooljohdoiaaW.PrintWords Go.Proofs.YteopooljohdoiaaW.PrintLast Go.Proofs.YteopooljohdoiaaW.PrintMore
attribute [local go_sem] max2_int min2_int max_two min_two max_three min_three max_four min_four
set_option maxHeartbeats 8000000 in
set_option maxRecDepth 100000 in
theorem sortStable_calls (ad : Option Addr) (n cap : Nat) (f : Value) (w : World) (Q : World → Prop)
    (hi : Calls Try.prog 120 #[.slice ad n cap, .int .i64 (n : Int), f] w fun e w' => e = .returned (.tuple #[]) ∧ Q w') :
    Calls Try.prog 106 #[.slice ad n cap, f] w fun e w' => e = .returned (.tuple #[]) ∧ Q w' := by
  have HS := Aside0.mk hi
  clear hi
  go_enter Try.func106, Try.ntmps106
  go_wp2_with (go_at_call 120; refine HS.out.mono ?_; rintro e w2 ⟨rfl, hq⟩; have HQ := Aside0.mk hq; clear hq)
  first | go_end0 | (refine bodyPost_ret (results_none rfl _ _ _) rfl ?_)
  exact ⟨rfl, HQ.out⟩
theorem own_two {w : World} {B : Nat} {ok : Nat → Prop} {v : Value} {xs : List Int} (h : Kd.R (Kd.int .i64) 3 w B ok v xs) : (v = .slice none 0 0 ∧ xs = []) ∨ ∃ g cap, v = .slice (some ⟨g, 0, none⟩) xs.length cap ∧ B ≤ g := by
  obtain ⟨inner, ho⟩ := Kd.R_own h
  rcases ho.2 with ⟨rfl, h0⟩ | ⟨g, cap, cur, rfl, hg, _⟩
  · exact .inl ⟨rfl, List.eq_nil_of_length_eq_zero h0⟩
  · exact .inr ⟨g, cap, rfl, hg⟩
theorem sortStable_own (gf : Nat) (lb : Array Value) (lt : Int → Int → Bool) (p : Int → Prop) (B : Nat) (xs : List Int) (v : Value) (w : World) (ok : Nat → Prop) (eg : ∀ args w, (callFunc gf args).run Try.prog w = .ok (.enter gf args) w)
    (hR : Kd.R (Kd.int .i64) 3 w B ok v xs) (hl : xs.length ≤ 40) (hp : ∀ x ∈ xs, p x) (hc : ∀ g, B ≤ g → CmpB Try.prog gf lb lt p g w) :
    Calls Try.prog 106 #[v, .func (.func gf) #[] lb] w fun e w' => e = .returned (.tuple #[]) ∧ Kd.R (Kd.int .i64) 3 w' B ok v (stabS lt xs.length xs) ∧ ∃ g, B ≤ g ∧ ButG w w' g := by
  rcases own_two hR with ⟨rfl, rfl⟩ | ⟨g, cap, rfl, hg⟩
  · refine (sortStable_calls none 0 0 (.func (.func gf) #[] lb) w (fun w' => Below w.heap.size w w') (stableLow_calls none 0 0 _ w _ (by decide) (insNil_calls _ _))).mono ?_
    rintro e w' ⟨rfl, hb⟩
    exact ⟨rfl, Kd.R_below hR hb, B, Nat.le_refl _, (ButG.refl w B).below hb⟩
  · have key : Calls Try.prog 120 #[.slice (some ⟨g, 0, none⟩) xs.length cap, .int .i64 (xs.length : Int), .func (.func gf) #[] lb] w fun e w' => e = .returned (.tuple #[]) ∧ (Kd.R (Kd.int .i64) 3 w' B ok (.slice (some ⟨g, 0, none⟩) xs.length cap) (stabS lt xs.length xs) ∧ ButG w w' g) := by
      rcases Nat.lt_or_ge xs.length 20 with h20 | h20
      · have hs : stabS lt xs.length xs = insA lt 0 (xs.length - 0) xs := by unfold stabS; rw [if_pos (by omega), Nat.sub_zero]
        rw [hs]
        exact stableLow_calls (some ⟨g, 0, none⟩) xs.length cap _ w _ h20 (insCmp_calls gf lb lt p g cap xs.length B 0 xs.length xs w ok eg hR (by omega) (by omega) (by omega) hp (hc g hg))
      · rcases Nat.lt_or_ge xs.length 40 with h40 | h40
        · exact stableTwo_calls gf lb lt p g cap xs.length B xs w ok eg h20 h40 hR hp (hc g hg)
        · have h : xs.length = 40 := by omega
          rw [h] at hR ⊢
          exact stableForty_calls gf lb lt p g cap B xs w ok eg hR hp (hc g hg)
    refine (sortStable_calls (some ⟨g, 0, none⟩) xs.length cap (.func (.func gf) #[] lb) w _ key).mono ?_
    rintro e w' ⟨rfl, h1, h2⟩
    exact ⟨rfl, h1, g, hg, h2⟩
def cmp_isNaN_int.f (a0 : Int) : Option (Bool) := some (a0 != a0)
set_option maxHeartbeats 8000000 in
set_option maxRecDepth 100000 in
theorem cmp_isNaN_int.calls (a0 : Int) (r : Bool) (w : World) (h : cmp_isNaN_int.f a0 = some r) :
    Calls Try.prog 121 #[.int .i64 a0] w fun e w' => e = .returned (.bool r) ∧ Drawn0 w w' := by
  have H : (some (a0 != a0)) = some r := h
  clear h
  obtain rfl := Option.some.inj H
  go_enter Try.func121, Try.ntmps121
  go_wp2
  go_ret
  exact ⟨by first | rfl | (simp; done) | (simp [*]; done), by repeat (first | exact Drawn0.refl _ | apply Drawn0.step)⟩
def cmp_Compare_int.f (a0 : Int) (a1 : Int) : Option (Int) := (cmp_isNaN_int.f a0).bind fun t324001 => ((cmp_isNaN_int.f a1).bind fun t324002 => (if t324001 = true then (if t324002 = true then (some 0) else (some (-1))) else (if t324002 = true then (some 1) else (if a0 < a1 then (some (-1)) else (if a0 > a1 then (some 1) else (some 0))))))
set_option maxHeartbeats 8000000 in
set_option maxRecDepth 100000 in
theorem cmp_Compare_int.calls (a0 : Int) (a1 : Int) (r : Int) (w : World) (h : cmp_Compare_int.f a0 a1 = some r) :
    Calls Try.prog 108 #[.int .i64 a0, .int .i64 a1] w fun e w' => e = .returned (.int .i64 r) ∧ Drawn0 w w' := by
  have H : ((cmp_isNaN_int.f a0).bind fun t324001 => ((cmp_isNaN_int.f a1).bind fun t324002 => (if t324001 = true then (if t324002 = true then (some 0) else (some (-1))) else (if t324002 = true then (some 1) else (if a0 < a1 then (some (-1)) else (if a0 > a1 then (some 1) else (some 0))))))) = some r := h
  clear h
  replace H := Option.bind_eq_some_iff.mp H
  obtain ⟨t324001, A30, H⟩ := H
  replace H : ((cmp_isNaN_int.f a1).bind fun t324002 => (if t324001 = true then (if t324002 = true then (some 0) else (some (-1))) else (if t324002 = true then (some 1) else (if a0 < a1 then (some (-1)) else (if a0 > a1 then (some 1) else (some 0)))))) = some r := H
  have A3 := Aside0.mk A30
  clear A30
  replace H := Option.bind_eq_some_iff.mp H
  obtain ⟨t324002, A40, H⟩ := H
  replace H : (if t324001 = true then (if t324002 = true then (some 0) else (some (-1))) else (if t324002 = true then (some 1) else (if a0 < a1 then (some (-1)) else (if a0 > a1 then (some 1) else (some 0))))) = some r := H
  have A4 := Aside0.mk A40
  clear A40
  by_cases c5 : t324001 = true
  · subst c5
    have H1 : (if t324002 = true then (some 0) else (some (-1))) = some r := by rw [if_pos rfl] at H; exact H
    clear H
    have H := H1
    clear H1
    by_cases c6 : t324002 = true
    · subst c6
      have H1 : (some 0) = some r := by rw [if_pos rfl] at H; exact H
      clear H
      have H := H1
      clear H1
      obtain rfl := Option.some.inj H
      go_enter Try.func108, Try.ntmps108
      go_wp2_with (first | ((with_reducible refine gate_callee (f := 121) rfl ?_); refine goesL_ (some 8) rfl rfl Try.func121 (by kernel_rfl) rfl #[.int .i64 a0] rfl mpa ?_; (with_reducible refine (cmp_isNaN_int.calls a0 true _ A3.out).mono ?_); rintro e w' ⟨rfl, ⟨nd, rfl⟩⟩; refine ⟨_, rfl, ?_⟩) | ((with_reducible refine gate_callee (f := 121) rfl ?_); refine goesL_ (some 10) rfl rfl Try.func121 (by kernel_rfl) rfl #[.int .i64 a1] rfl mpa ?_; (with_reducible refine (cmp_isNaN_int.calls a1 true _ A4.out).mono ?_); rintro e w' ⟨rfl, ⟨nd, rfl⟩⟩; refine ⟨_, rfl, ?_⟩))
      go_ret
      exact ⟨by first | rfl | (simp; done) | (simp [*]; done), by repeat (first | exact Drawn0.refl _ | apply Drawn0.step)⟩
    · replace c6 := Bool.eq_false_iff.mpr c6
      subst c6
      have H1 : (some (-1)) = some r := by rw [if_neg (show ¬ (false = true) by decide)] at H; exact H
      clear H
      have H := H1
      clear H1
      obtain rfl := Option.some.inj H
      go_enter Try.func108, Try.ntmps108
      go_wp2_with (first | ((with_reducible refine gate_callee (f := 121) rfl ?_); refine goesL_ (some 8) rfl rfl Try.func121 (by kernel_rfl) rfl #[.int .i64 a0] rfl mpa ?_; (with_reducible refine (cmp_isNaN_int.calls a0 true _ A3.out).mono ?_); rintro e w' ⟨rfl, ⟨nd, rfl⟩⟩; refine ⟨_, rfl, ?_⟩) | ((with_reducible refine gate_callee (f := 121) rfl ?_); refine goesL_ (some 10) rfl rfl Try.func121 (by kernel_rfl) rfl #[.int .i64 a1] rfl mpa ?_; (with_reducible refine (cmp_isNaN_int.calls a1 false _ A4.out).mono ?_); rintro e w' ⟨rfl, ⟨nd, rfl⟩⟩; refine ⟨_, rfl, ?_⟩))
      go_ret
      exact ⟨by first | rfl | (simp; done) | (simp [*]; done), by repeat (first | exact Drawn0.refl _ | apply Drawn0.step)⟩
  · replace c5 := Bool.eq_false_iff.mpr c5
    subst c5
    have H1 : (if t324002 = true then (some 1) else (if a0 < a1 then (some (-1)) else (if a0 > a1 then (some 1) else (some 0)))) = some r := by rw [if_neg (show ¬ (false = true) by decide)] at H; exact H
    clear H
    have H := H1
    clear H1
    by_cases c7 : t324002 = true
    · subst c7
      have H1 : (some 1) = some r := by rw [if_pos rfl] at H; exact H
      clear H
      have H := H1
      clear H1
      obtain rfl := Option.some.inj H
      go_enter Try.func108, Try.ntmps108
      go_wp2_with (first | ((with_reducible refine gate_callee (f := 121) rfl ?_); refine goesL_ (some 8) rfl rfl Try.func121 (by kernel_rfl) rfl #[.int .i64 a0] rfl mpa ?_; (with_reducible refine (cmp_isNaN_int.calls a0 false _ A3.out).mono ?_); rintro e w' ⟨rfl, ⟨nd, rfl⟩⟩; refine ⟨_, rfl, ?_⟩) | ((with_reducible refine gate_callee (f := 121) rfl ?_); refine goesL_ (some 10) rfl rfl Try.func121 (by kernel_rfl) rfl #[.int .i64 a1] rfl mpa ?_; (with_reducible refine (cmp_isNaN_int.calls a1 true _ A4.out).mono ?_); rintro e w' ⟨rfl, ⟨nd, rfl⟩⟩; refine ⟨_, rfl, ?_⟩))
      go_ret
      exact ⟨by first | rfl | (simp; done) | (simp [*]; done), by repeat (first | exact Drawn0.refl _ | apply Drawn0.step)⟩
    · replace c7 := Bool.eq_false_iff.mpr c7
      subst c7
      have H1 : (if a0 < a1 then (some (-1)) else (if a0 > a1 then (some 1) else (some 0))) = some r := by rw [if_neg (show ¬ (false = true) by decide)] at H; exact H
      clear H
      have H := H1
      clear H1
      by_cases c8 : a0 < a1
      · rw [if_pos c8] at H
        have c8b0 : decide (a0 < a1) = true := decide_eq_true c8
        clear c8
        obtain rfl := Option.some.inj H
        go_enter Try.func108, Try.ntmps108
        go_wp2_with (first | ((with_reducible refine gate_callee (f := 121) rfl ?_); refine goesL_ (some 8) rfl rfl Try.func121 (by kernel_rfl) rfl #[.int .i64 a0] rfl mpa ?_; (with_reducible refine (cmp_isNaN_int.calls a0 false _ A3.out).mono ?_); rintro e w' ⟨rfl, ⟨nd, rfl⟩⟩; refine ⟨_, rfl, ?_⟩) | ((with_reducible refine gate_callee (f := 121) rfl ?_); refine goesL_ (some 10) rfl rfl Try.func121 (by kernel_rfl) rfl #[.int .i64 a1] rfl mpa ?_; (with_reducible refine (cmp_isNaN_int.calls a1 false _ A4.out).mono ?_); rintro e w' ⟨rfl, ⟨nd, rfl⟩⟩; refine ⟨_, rfl, ?_⟩))
        go_ret
        exact ⟨by first | rfl | (simp; done) | (simp [*]; done), by repeat (first | exact Drawn0.refl _ | apply Drawn0.step)⟩
      · rw [if_neg c8] at H
        have c8b0 : decide (a0 < a1) = false := decide_eq_false c8
        clear c8
        by_cases c9 : a0 > a1
        · rw [if_pos c9] at H
          have c9b0 : decide (a1 < a0) = true := decide_eq_true c9
          clear c9
          obtain rfl := Option.some.inj H
          go_enter Try.func108, Try.ntmps108
          go_wp2_with (first | ((with_reducible refine gate_callee (f := 121) rfl ?_); refine goesL_ (some 8) rfl rfl Try.func121 (by kernel_rfl) rfl #[.int .i64 a0] rfl mpa ?_; (with_reducible refine (cmp_isNaN_int.calls a0 false _ A3.out).mono ?_); rintro e w' ⟨rfl, ⟨nd, rfl⟩⟩; refine ⟨_, rfl, ?_⟩) | ((with_reducible refine gate_callee (f := 121) rfl ?_); refine goesL_ (some 10) rfl rfl Try.func121 (by kernel_rfl) rfl #[.int .i64 a1] rfl mpa ?_; (with_reducible refine (cmp_isNaN_int.calls a1 false _ A4.out).mono ?_); rintro e w' ⟨rfl, ⟨nd, rfl⟩⟩; refine ⟨_, rfl, ?_⟩))
          go_ret
          exact ⟨by first | rfl | (simp; done) | (simp [*]; done), by repeat (first | exact Drawn0.refl _ | apply Drawn0.step)⟩
        · rw [if_neg c9] at H
          have c9b0 : decide (a1 < a0) = false := decide_eq_false c9
          clear c9
          obtain rfl := Option.some.inj H
          go_enter Try.func108, Try.ntmps108
          go_wp2_with (first | ((with_reducible refine gate_callee (f := 121) rfl ?_); refine goesL_ (some 8) rfl rfl Try.func121 (by kernel_rfl) rfl #[.int .i64 a0] rfl mpa ?_; (with_reducible refine (cmp_isNaN_int.calls a0 false _ A3.out).mono ?_); rintro e w' ⟨rfl, ⟨nd, rfl⟩⟩; refine ⟨_, rfl, ?_⟩) | ((with_reducible refine gate_callee (f := 121) rfl ?_); refine goesL_ (some 10) rfl rfl Try.func121 (by kernel_rfl) rfl #[.int .i64 a1] rfl mpa ?_; (with_reducible refine (cmp_isNaN_int.calls a1 false _ A4.out).mono ?_); rintro e w' ⟨rfl, ⟨nd, rfl⟩⟩; refine ⟨_, rfl, ?_⟩))
          go_ret
          exact ⟨by first | rfl | (simp; done) | (simp [*]; done), by repeat (first | exact Drawn0.refl _ | apply Drawn0.step)⟩
def okValley (ss : List S112) (hs : List Int) : Prop := (∀ s ∈ ss, (0 ≤ s.f0 ∧ s.f0 ≤ 1000000) ∧ (0 ≤ s.f1 ∧ s.f1 ≤ 1000000)) ∧ (∀ h ∈ hs, 0 ≤ h ∧ h ≤ 1000000)
instance (ss : List S112) (hs : List Int) : Decidable (okValley ss hs) := inferInstanceAs (Decidable (_ ∧ _))
def hearsP (x : Int) (s : S112) : Bool := decide (s.f0 - s.f1 ≤ x) && decide (x ≤ s.f0 + s.f1)
theorem getD_mem {α : Type} (l : List α) (i : Nat) (z : α) (h : i < l.length) : l.getD i z ∈ l := by
  rw [List.getD_eq_getElem?_getD, List.getElem?_eq_getElem h]
  exact List.getElem_mem h
theorem hears_f (ss : List S112) (hs : List Int) (s : S112) (h : Nat) (hv : okValley ss hs) (hs' : s ∈ ss) (hh : h < hs.length) : dam_valley_hears.f ss hs (h : Int) s.f0 s.f1 = some (hearsP (hs.getD h 0) s) := by
  have h1 := hv.1 s hs'
  have h2 := hv.2 _ (getD_mem hs h 0 hh)
  unfold dam_valley_hears.f
  rw [if_pos (by omega), if_pos (by omega), show rd hs (h : Int) = hs.getD h 0 from rfl]
  generalize hs.getD h 0 = x at *
  rw [w64 (by omega) (by omega)]
  unfold dam_size.f hearsP
  rw [w64 (n := -(x - s.f0)) (by omega) (by omega)]
  simp only [Option.bind_some, Option.some.injEq]
  unfold mx
  rw [← Bool.decide_and]
  apply decide_eq_decide.2
  (try split) <;> omega
theorem keep5 {wr W : World} {a b c d e : Addr} {u v x y z : Value} (ha : wr.cell? a = some u) (hb : wr.cell? b = some v) (hc : wr.cell? c = some x) (hd : wr.cell? d = some y) (he : wr.cell? e = some z) (h : Below wr.heap.size wr W) : W.cell? a = some u ∧ W.cell? b = some v ∧ W.cell? c = some x ∧ W.cell? d = some y ∧ W.cell? e = some z ∧ Below wr.heap.size wr W :=
  ⟨(h.cell (World.block_lt_of_cell? wr _ ha)).trans ha, (h.cell (World.block_lt_of_cell? wr _ hb)).trans hb, (h.cell (World.block_lt_of_cell? wr _ hc)).trans hc, (h.cell (World.block_lt_of_cell? wr _ hd)).trans hd, (h.cell (World.block_lt_of_cell? wr _ he)).trans he, h⟩
set_option maxHeartbeats 8000000 in
set_option maxRecDepth 100000 in
theorem sweep1_calls (A0 : Option Addr) (c0 : Nat) (ss : List S112) (A1 : Option Addr) (c1 : Nat) (hs : List Int) (X H h i : Nat) (w : World)
    (hX : w.heap[X]? = some (.cells #[.slice A0 ss.length c0, .slice A1 hs.length c1] 116 (0, 0))) (hH : w.heap[H]? = some (.cells #[.int .i64 (h : Int)] 3 (0, 0)))
    (hr0 : Kd.C k112 w A0 ss.length ss) (hc0 : ss.length ≤ c0) (hr1 : Kd.C (Kd.int .i64) w A1 hs.length hs) (hc1 : hs.length ≤ c1) (hv : okValley ss hs) (hi : i < ss.length) (hh : h < hs.length) :
    Calls Try.prog 104 #[.int .i64 (i : Int), .pointer (some ⟨X, 0, none⟩), .pointer (some ⟨H, 0, none⟩)] w fun e w' => e = .returned (.bool (hearsP (hs.getD h 0) (ss.getD i z112))) ∧ Below w.heap.size w w' := by
  have hu := Try.underlying116
  have hu1 := Try.underlying39
  have hu2 := Try.underlying112
  have hx0 : w.cell? ⟨X, 0, none⟩ = some (.slice A0 ss.length c0) := (blk_cell hX 0).trans rfl
  have hx1 : w.cell? ⟨X, 1, none⟩ = some (.slice A1 hs.length c1) := (blk_cell hX 1).trans rfl
  have hh0 : w.cell? ⟨H, 0, none⟩ = some (.int .i64 (h : Int)) := (blk_cell hH 0).trans rfl
  obtain ⟨ad, e1, hy0, hy1⟩ := at_T112 hr0 (i : Int) (by omega) (by omega)
  subst e1
  rw [show rd_T112 ss (i : Int) = ss.getD i z112 from rfl] at hy0 hy1
  rw [Int.toNat_natCast] at hy0 hy1
  have hf := hears_f ss hs (ss.getD i z112) h hv (getD_mem ss i _ hi) hh
  have HF := Aside0.mk (fun W (hb : Below w.heap.size w W) => dam_valley_hears.calls (some ad) c0 ss A1 c1 hs (h : Int) (ss.getD i z112).f0 (ss.getD i z112).f1 _ W (Kd.C_below hr0 hb) hc0 (Kd.C_below hr1 hb) hc1 hf)
  generalize ss.getD i z112 = s at *
  generalize hearsP (hs.getD h 0) s = r at *
  have hiz : (i : Int) < (ss.length : Int) := by omega
  have hiz0 : (0 : Int) ≤ (i : Int) := by omega
  clear hf hr0 hr1 hX hH hv
  go_enter Try.func104, Try.ntmps104
  go_upto_region 1 with fail
  go_region_held3 (fun w' => w'.cell? ⟨X, 0, none⟩ = some (.slice (some ad) ss.length c0) ∧ w'.cell? ⟨X, 1, none⟩ = some (.slice A1 hs.length c1) ∧ w'.cell? ⟨H, 0, none⟩ = some (.int .i64 (h : Int)) ∧ w'.cell? (ad.add (i * 2)) = some (.int .i64 s.f0) ∧ w'.cell? ⟨(ad.add (i * 2)).block, (ad.add (i * 2)).off + 1, none⟩ = some (.int .i64 s.f1) ∧ Below w.heap.size w w')
    ((refine keep5 hx0 hx1 hh0 hy0 hy1 ?_; repeat (first | assumption | exact Below.refl _ _ | apply pw_below_drewN | apply below_drew | apply below_alloc | (iterate 5 apply And.right; assumption) | refine below_step ?_ (by assumption))))
    (first | (go_at_call 105; refine (HF.out _ (by (repeat (first | assumption | exact Below.refl _ _ | apply pw_below_drewN | apply below_drew | apply below_alloc | (iterate 5 apply And.right; assumption))))).mono ?_; rintro e w3 ⟨rfl, hb4⟩))
  go_wp2
  go_ret
  exact ⟨rfl, by iterate 5 apply And.right
                 assumption⟩
def cmpI (x y : Int) : Int := if x < y then -1 else if x > y then 1 else 0
theorem cmp_f (x y : Int) : cmp_Compare_int.f x y = some (cmpI x y) := by
  unfold cmp_Compare_int.f cmp_isNaN_int.f cmpI
  by_cases h1 : x < y <;> by_cases h2 : x > y <;> simp [h1, h2]
theorem cmpI_lt (x y : Int) : decide (cmpI x y < 0) = decide (x < y) := by
  unfold cmpI
  by_cases h1 : x < y
  · simp [h1]
  · rw [if_neg h1]
    split <;> simp [h1]
theorem keep3 {wr W : World} {a b c : Addr} {u v x : Value} (ha : wr.cell? a = some u) (hb : wr.cell? b = some v) (hc : wr.cell? c = some x) (h : Below wr.heap.size wr W) : W.cell? a = some u ∧ W.cell? b = some v ∧ W.cell? c = some x ∧ Below wr.heap.size wr W :=
  ⟨(h.cell (World.block_lt_of_cell? wr _ ha)).trans ha, (h.cell (World.block_lt_of_cell? wr _ hb)).trans hb, (h.cell (World.block_lt_of_cell? wr _ hc)).trans hc, h⟩
set_option maxHeartbeats 8000000 in
set_option maxRecDepth 100000 in
theorem sweep2_calls (A0 : Option Addr) (c0 n0 : Nat) (A1 : Option Addr) (c1 : Nat) (hs : List Int) (X a b : Nat) (w : World)
    (hX : w.heap[X]? = some (.cells #[.slice A0 n0 c0, .slice A1 hs.length c1] 116 (0, 0)))
    (hr1 : Kd.C (Kd.int .i64) w A1 hs.length hs) (ha : a < hs.length) (hb : b < hs.length) :
    Calls Try.prog 107 #[.int .i64 (a : Int), .int .i64 (b : Int), .pointer (some ⟨X, 0, none⟩)] w fun e w' => ∃ c : Int, e = .returned (.int .i64 c) ∧ decide (c < 0) = decide (hs.getD a 0 < hs.getD b 0) ∧ Below w.heap.size w w' := by
  have hu := Try.underlying116
  have hu1 := Try.underlying39
  have hx1 : w.cell? ⟨X, 1, none⟩ = some (.slice A1 hs.length c1) := (blk_cell hX 1).trans rfl
  obtain ⟨ad, e1, hya⟩ := Kd.at_int hr1 (a : Int) (by omega) (by omega)
  subst e1
  obtain ⟨ad', e1, hyb⟩ := Kd.at_int hr1 (b : Int) (by omega) (by omega)
  cases e1
  rw [show rd hs (a : Int) = hs.getD a 0 from rfl, Int.toNat_natCast] at hya
  rw [show rd hs (b : Int) = hs.getD b 0 from rfl, Int.toNat_natCast] at hyb
  have HF := Aside0.mk (cmp_f (hs.getD a 0) (hs.getD b 0))
  have HL := Aside0.mk (cmpI_lt (hs.getD a 0) (hs.getD b 0))
  generalize hs.getD a 0 = x at *
  generalize hs.getD b 0 = y at *
  obtain ⟨c, hc⟩ : ∃ c, c = cmpI x y := ⟨_, rfl⟩
  rw [← hc] at HF HL
  have haz : (a : Int) < (hs.length : Int) := by omega
  have haz0 : (0 : Int) ≤ (a : Int) := by omega
  have hbz : (b : Int) < (hs.length : Int) := by omega
  have hbz0 : (0 : Int) ≤ (b : Int) := by omega
  clear hr1 hX hc ha hb
  go_enter Try.func107, Try.ntmps107
  go_upto_region 1 with fail
  go_region_held3 (fun w' => w'.cell? ⟨X, 1, none⟩ = some (.slice (some ad) hs.length c1) ∧ w'.cell? (ad.add a) = some (.int .i64 x) ∧ w'.cell? (ad.add b) = some (.int .i64 y) ∧ Below w.heap.size w w')
    ((refine keep3 hx1 hya hyb ?_; repeat (first | assumption | exact Below.refl _ _ | apply pw_below_drewN | apply below_drew | apply below_alloc | (iterate 3 apply And.right; assumption) | refine below_step ?_ (by assumption))))
    (first | (go_at_call 108; refine (cmp_Compare_int.calls _ _ _ _ HF.out).mono ?_; rintro e w3 ⟨rfl, hb3⟩; have hb4 := hb3.below; clear hb3))
  go_wp2
  go_ret
  exact ⟨c, rfl, HL.out, by iterate 3 apply And.right
                            assumption⟩
def leftTo (ss : List S112) (hs some_ : List Int) (i : Nat) : List Int := ((List.range i).filter (fun h : Nat => !(some_.any fun k : Int => hearsP (hs.getD h 0) (ss.getD k.toNat z112)))).map (fun h : Nat => (h : Int))
def endTo (l : List S112) (x : Int) : Int := l.foldl (fun e s => if hearsP x s = true then mx e (s.f0 + s.f1) else e) (-1)
def sweepGo (ss : List S112) (hs : List Int) (frm : Nat) : Int → List Int → List Int → List Int × Bool
  | _, out, [] => (out, true)
  | e, out, h :: t =>
    if hs.getD h.toNat 0 ≤ e then sweepGo ss hs frm e out t
    else if endTo (ss.drop frm) (hs.getD h.toNat 0) < 0 then ([], false)
    else sweepGo ss hs frm (endTo (ss.drop frm) (hs.getD h.toNat 0)) (out ++ [h]) t
def byHouse (hs : List Int) : Int → Int → Bool := ltK (fun a => hs.getD a.toNat 0)
def sweepOut (ss : List S112) (hs some_ : List Int) (frm : Nat) : List Int × Bool :=
  sweepGo ss hs frm (-1) [] (stabS (byHouse hs) (leftTo ss hs some_ hs.length).length (leftTo ss hs some_ hs.length))
def dam_valley_sweep.f (l0_0 : List S112) (l0_1 : List Int) (l1 : List Int) (a2 : Int) : Option (List Int × Bool) :=
  if okValley l0_0 l0_1 ∧ l0_1.length ≤ 40 ∧ (∀ k ∈ l1, 0 ≤ k ∧ k < (l0_0.length : Int)) ∧ 0 ≤ a2 ∧ a2 ≤ (l0_0.length : Int) then some (sweepOut l0_0 l0_1 l1 a2.toNat) else none
theorem leftTo_succ (ss : List S112) (hs some_ : List Int) (i : Nat) : leftTo ss hs some_ (i + 1) = if (some_.any fun k => hearsP (hs.getD i 0) (ss.getD k.toNat z112)) = true then leftTo ss hs some_ i else leftTo ss hs some_ i ++ [(i : Int)] := by
  unfold leftTo
  rw [List.range_succ, List.filter_append, List.map_append]
  cases h : (some_.any fun k => hearsP (hs.getD i 0) (ss.getD k.toNat z112))
  · rw [if_neg (by decide), List.filter_cons_of_pos (by show (!(some_.any fun k => hearsP (hs.getD i 0) (ss.getD k.toNat z112))) = true; rw [h]; rfl)]
    rfl
  · rw [if_pos rfl, List.filter_cons_of_neg (by show ¬ (!(some_.any fun k => hearsP (hs.getD i 0) (ss.getD k.toNat z112))) = true; rw [h]; decide)]
    simp
theorem leftTo_len (ss : List S112) (hs some_ : List Int) : ∀ i, (leftTo ss hs some_ i).length ≤ i := by
  intro i
  unfold leftTo
  rw [List.length_map]
  exact Nat.le_trans (List.length_filter_le _ _) (by simp)
theorem leftTo_all (ss : List S112) (hs some_ : List Int) (i : Nat) : ∀ x ∈ leftTo ss hs some_ i, ∃ n : Nat, x = (n : Int) ∧ n < i := by
  intro x hx
  unfold leftTo at hx
  obtain ⟨n, hn, rfl⟩ := List.mem_map.1 hx
  exact ⟨n, rfl, List.mem_range.1 (List.mem_filter.1 hn).1⟩
theorem endTo_snoc (l : List S112) (x : Int) (k : Nat) (hk : k < l.length) : endTo (l.take (k + 1)) x = if hearsP x (l.getD k z112) = true then mx (endTo (l.take k) x) ((l.getD k z112).f0 + (l.getD k z112).f1) else endTo (l.take k) x := by
  unfold endTo
  rw [List.take_add_one, List.getElem?_eq_getElem hk, List.foldl_append, List.getD_eq_getElem?_getD, List.getElem?_eq_getElem hk]
  rfl
set_option maxHeartbeats 8000000 in
set_option maxRecDepth 100000 in
theorem dam_valley_sweep.calls (A0_0 : Option Addr) (c0_0 : Nat) (l0_0 : List S112) (A0_1 : Option Addr) (c0_1 : Nat) (l0_1 : List Int) (A1 : Option Addr) (c1 : Nat) (l1 : List Int) (a2 : Int) (r1 : List Int) (r2 : Bool) (w : World) (hr0_0 : Kd.C k112 w A0_0 l0_0.length l0_0) (hc0_0 : l0_0.length ≤ c0_0) (hr0_1 : Kd.C (Kd.int .i64) w A0_1 l0_1.length l0_1) (hc0_1 : l0_1.length ≤ c0_1) (hr1 : Kd.C (Kd.int .i64) w A1 l1.length l1) (hc1 : l1.length ≤ c1) (h : dam_valley_sweep.f l0_0 l0_1 l1 a2 = some (r1, r2)) :
    Calls Try.prog 74 #[.agg #[.slice A0_0 l0_0.length c0_0, .slice A0_1 l0_1.length c0_1], .slice A1 l1.length c1, .int .i64 a2] w fun e w' => ∃ v0_ : Value, e = .returned (.tuple #[v0_, .bool r2]) ∧ Kd.R (Kd.int .i64) 3 w' w.heap.size (fun _ => True) v0_ r1 ∧ Below w.heap.size w w' := by
  have hu := Try.underlying116
  have hu1 := Try.underlying39
  have hu2 := Try.underlying112
  have hh : (okValley l0_0 l0_1 ∧ l0_1.length ≤ 40 ∧ (∀ k ∈ l1, 0 ≤ k ∧ k < (l0_0.length : Int)) ∧ 0 ≤ a2 ∧ a2 ≤ (l0_0.length : Int)) ∧ sweepOut l0_0 l0_1 l1 a2.toNat = (r1, r2) := by
    unfold dam_valley_sweep.f at h
    split at h
    · exact ⟨by assumption, Option.some.inj h⟩
    · exact absurd h (by simp)
  clear h
  obtain ⟨⟨hv, hn20, hk1, ha0, han⟩, hout⟩ := hh
  obtain ⟨frm, rfl⟩ : ∃ frm : Nat, a2 = (frm : Int) := ⟨a2.toNat, by omega⟩
  rw [Int.toNat_natCast] at hout
  have HR0 := Aside0.mk hr0_0
  have HR1 := Aside0.mk hr0_1
  have HRS := Aside0.mk hr1
  have HC := Aside0.mk (And.intro hc0_0 hc0_1)
  have HV := Aside0.mk hv
  have HK := Aside0.mk hk1
  have HOUT := Aside0.mk hout
  clear hr0_0 hr0_1 hr1 hc0_0 hc0_1 hc1 hv hk1 hout
  go_enter Try.func74, Try.ntmps74
  go_upto_region 1 with fail
  have hbl := blk_new w (.cells #[.slice A0_0 l0_0.length c0_0, .slice A0_1 l0_1.length c0_1] 116)
  have hb1 := below_alloc (Below.refl _ w) (.cells #[.slice A0_0 l0_0.length c0_0, .slice A0_1 l0_1.length c0_1] 116)
  generalize w.alloc (.cells #[.slice A0_0 l0_0.length c0_0, .slice A0_1 l0_1.length c0_1] 116) = w1 at *
  have hx1 : w1.cell? ⟨w.heap.size, 1, none⟩ = some (.slice A0_1 l0_1.length c0_1) := (blk_cell hbl 1).trans rfl
  have HBL := Aside0.mk hbl
  have HB1 := Aside0.mk hb1
  have HXL := Aside0.mk (blk_lt hbl)
  have HB0 := Aside0.mk (Below.refl w1.heap.size w1)
  clear hbl hb1
  go_wp2
  go_loopg [8, 20] l0_1.length (fun gg s8 s20 W => ∃ (i : Nat), i ≤ l0_1.length ∧ l0_1.length - i ≤ gg ∧ s20 = .int .i64 i ∧ Aside0 (Kd.R (Kd.int .i64) 3 W w1.heap.size (fun _ => True) s8 (leftTo l0_0 l0_1 l1 i)) ∧ Aside0 (Below w1.heap.size w1 W))
  case atStart => exact ⟨0, by omega, by omega, rfl, ⟨Kd.R_nil _ _ _ _ _⟩, HB0⟩
  case round =>
    obtain ⟨i, hi, hgg, rfl, HRi, HBi⟩ := hrel
    clear HB0
    obtain ⟨wA, hwA⟩ : ∃ wA, wA = wr := ⟨_, rfl⟩
    subst hwA
    by_cases hin : i < l0_1.length
    case pos =>
      have hin2 : (i : Int) < (l0_1.length : Int) := by omega
      clear hx1
      go_upto_region 5 with fail
      have hH := blk_new wA (.cells #[.int .i64 (i : Int)] 3)
      have hb2 := below_weaken HBi.out HBi.out.size (below_alloc (Below.refl _ wA) (.cells #[.int .i64 (i : Int)] 3))
      have hR2 := Kd.R_alloc HRi.out (.cells #[.int .i64 (i : Int)] 3)
      generalize wA.alloc (.cells #[.int .i64 (i : Int)] 3) = w2 at *
      generalize wA.heap.size = H at *
      have hbw := below_weaken HB1.out HB1.out.size hb2
      have HKK := Aside0.mk (hContainsInt 104 #[.pointer (some ⟨w.heap.size, 0, none⟩), .pointer (some ⟨H, 0, none⟩)] (fun k => hearsP (l0_1.getD i 0) (l0_0.getD k.toNat z112)) (fun args w => by rfl) A1 c1 l1 w2 (Kd.C_below HRS.out hbw) (fun W y hy hb => by
        have hky := HK.out y hy
        obtain ⟨m, rfl⟩ : ∃ m : Nat, y = (m : Int) := ⟨y.toNat, by omega⟩
        dsimp only
        rw [Int.toNat_natCast]
        exact sweep1_calls A0_0 c0_0 l0_0 A0_1 c0_1 l0_1 w.heap.size H i m W (blk_below (blk_below HBL.out hb2) hb) (blk_below hH hb) (Kd.C_below HR0.out (below_step hbw hb)) HC.out.1 (Kd.C_below HR1.out (below_step hbw hb)) HC.out.2 HV.out (by omega) hin))
      obtain ⟨kb, hkb⟩ : ∃ kb, kb = l1.any (fun k => hearsP (l0_1.getD i 0) (l0_0.getD k.toNat z112)) := ⟨_, rfl⟩
      rw [← hkb] at HKK
      have hls := leftTo_succ l0_0 l0_1 l1 i
      rw [← hkb] at hls
      have HLS := Aside0.mk hls
      have HH := Aside0.mk hH
      have HB2 := Aside0.mk hb2
      have HR2 := Aside0.mk hR2
      have HLL := Aside0.mk (leftTo_len l0_0 l0_1 l1 i)
      clear hkb hls hH hb2 hR2 hbw
      cases kb
      case true =>
        go_wp2_with (go_at_call 91; refine HKK.out.mono ?_; rintro e w3 ⟨rfl, hb3⟩; have HB3 := Aside0.mk hb3; clear hb3)
        go_roundg (l0_1.length - (i + 1))
        case measure => omega
        case rel => exact ⟨i + 1, by omega, by omega, by go_num, ⟨by rw [show leftTo l0_0 l0_1 l1 (i + 1) = leftTo l0_0 l0_1 l1 i from by have h := HLS.out; simpa using h]; exact Kd.R_below HR2.out HB3.out⟩, ⟨below_weaken HB2.out HB2.out.size HB3.out⟩⟩
      case false =>
        go_wp2_with (first | (go_at_call 91; refine HKK.out.mono ?_; rintro e w3 ⟨rfl, hb3⟩; have hhc : w3.cell? ⟨H, 0, none⟩ = some (.int .i64 (i : Int)) := (blk_cell (blk_below HH.out hb3) 0).trans rfl; have HB := Aside0.mk (below_weaken HB2.out HB2.out.size hb3); have HO := Aside0.mk (Kd.R_below HR2.out hb3); clear hb3) | ((with_reducible refine gate_builtin (b := .append) (xs := #[.tmp 27, .tmp 29]) rfl ?_); at_builtin; refine Kd.R_append (Kd.int .i64) (w0 := w1) w1.heap.size rfl (.tmp 27) (.tmp 29) 22 3 (.int .i64 0) 8 rfl Try.underlying22 info3 rfl (by decide) (by omega) u8 (leftTo l0_0 l0_1 l1 i) (i : Int) [.int .i64 (i : Int)] (fun _ => True) (fun _ => False) rfl rfl ?aP (fun _ hk => hk.elim) ?aF ?aO ?aB ?aS ?aL ?_; (case aP => exact rfl); (case aB => exact (bel HB.out)); (case aF => exact (fun _ _ => trivial)); (case aO => exact (krl HO.out)); (case aS => exact (below_size (bel HB.out))); (case aL => have := HLL.out; omega); intro v170 w6 ho hb hg hat; have HBN := Aside0.mk hb; have HON := Aside0.mk ho; clear ho hb hg hat))
        go_roundg (l0_1.length - (i + 1))
        case measure => omega
        case rel => exact ⟨i + 1, by omega, by omega, by go_num, ⟨by rw [show leftTo l0_0 l0_1 l1 (i + 1) = leftTo l0_0 l0_1 l1 i ++ [(i : Int)] from by have h := HLS.out; simpa using h]; exact HON.out⟩, HBN⟩
    case neg =>
      obtain rfl : i = l0_1.length := by omega
      obtain ⟨left, hleft⟩ : ∃ left, left = leftTo l0_0 l0_1 l1 l0_1.length := ⟨_, rfl⟩
      have hRi := HRi.out
      rw [← hleft] at hRi
      have hll : left.length ≤ 40 := by have := leftTo_len l0_0 l0_1 l1 l0_1.length; rw [hleft]; omega
      have hall : ∀ x ∈ left, ∃ n : Nat, x = (n : Int) ∧ n < l0_1.length := by rw [hleft]; exact leftTo_all _ _ _ _
      have hout := HOUT.out
      unfold sweepOut at hout
      rw [← hleft] at hout
      have hbw := below_weaken HB1.out HB1.out.size HBi.out
      have hcmp : ∀ g, w1.heap.size ≤ g → CmpB Try.prog 107 #[.pointer (some ⟨w.heap.size, 0, none⟩)] (byHouse l0_1) (fun x => ∃ n : Nat, x = (n : Int) ∧ n < l0_1.length) g wA := by
        rintro g hg W x y ⟨a, rfl, ha⟩ ⟨b, rfl, hb⟩ hbut
        have hxl := HXL.out
        have hsz := HBi.out.size
        have hX := (hbut.2.2.2.2 w.heap.size (by omega) (by omega)).trans (blk_below HBL.out HBi.out)
        have hC := Kd.C_below HR1.out (hbut.toBelow hbw (by omega))
        have hq := sweep2_calls A0_0 c0_0 l0_0.length A0_1 c0_1 l0_1 w.heap.size a b W hX hC ha hb
        rw [show byHouse l0_1 (a : Int) (b : Int) = decide (l0_1.getD a 0 < l0_1.getD b 0) from by show decide (l0_1.getD (a : Int).toNat 0 < l0_1.getD (b : Int).toNat 0) = _; simp only [Int.toNat_natCast]]
        exact hq
      have HSORT := Aside0.mk (sortStable_own 107 #[.pointer (some ⟨w.heap.size, 0, none⟩)] (byHouse l0_1) (fun x => ∃ n : Nat, x = (n : Int) ∧ n < l0_1.length) w1.heap.size left u8 wA (fun _ => True) (fun args w => by rfl) hRi hll hall hcmp)
      have hsall : ∀ x ∈ stabS (byHouse l0_1) left.length left, ∃ n : Nat, x = (n : Int) ∧ n < l0_1.length := fun x hx => hall x (((stabS_spec (fun a => l0_1.getD a.toNat 0) left).1.mem_iff (a := x)).1 hx)
      have HLEFT := Aside0.mk hleft
      have HSL := Aside0.mk (show (stabS (byHouse l0_1) left.length left).length ≤ 40 by rw [show byHouse l0_1 = ltK (fun a => l0_1.getD a.toNat 0) from rfl, (stabS_spec (fun a => l0_1.getD a.toNat 0) left).1.length_eq]; exact hll)
      generalize stabS (byHouse l0_1) left.length left = srt at *
      have HSA := Aside0.mk hsall
      have HGO := Aside0.mk hout
      clear hRi hcmp hout hsall hall hleft hll hbw HOUT HRi hx1 HLEFT
      go_upto_region 9 with (go_at_call 106; refine HSORT.out.mono ?_; rintro e wS ⟨rfl, hRS, g, hg, hbut⟩; have HBS := Aside0.mk (hbut.toBelow HBi.out hg); have HRS8 := Aside0.mk hRS; clear hRS hg hbut)
      clear HSORT
      obtain ⟨A8, c8, e8, hc8, hC8⟩ := Kd.R_reads HRS8.out
      subst e8
      have hs8 : srt.length ≤ 9223372036854775807 := hC8.2.1
      have HC8 := Aside0.mk hC8
      clear hC8 hc8
      have HBws := Aside0.mk (below_weaken HB1.out HB1.out.size HBS.out)
      have HBL2 := Aside0.mk (blk_below HBL.out HBS.out)
      have HB0 := Aside0.mk (Below.refl wS.heap.size wS)
      go_wp2
      go_loopg [10, 11, 37] srt.length (fun gg s10 s11 s37 W => ∃ (j : Nat) (e : Int) (out : List Int), j ≤ srt.length ∧ srt.length - j ≤ gg ∧ s37 = .int .i64 j ∧ s11 = .int .i64 e ∧ Aside0 (Kd.R (Kd.int .i64) 3 W wS.heap.size (fun _ => True) s10 out) ∧ Aside0 (out.length ≤ j) ∧ Aside0 (sweepGo l0_0 l0_1 frm e out (srt.drop j) = (r1, r2)) ∧ Aside0 (Below wS.heap.size wS W))
      case atStart => exact ⟨0, -1, [], by omega, by omega, rfl, by first | rfl | go_num, ⟨Kd.R_nil _ _ _ _ _⟩, ⟨by simp⟩, HGO, HB0⟩
      case round =>
        obtain ⟨j, e, out, hj, hgg2, rfl, rfl, HRj, HOL, HGj, HBj⟩ := hrel
        clear HB0
        obtain ⟨wB, hwB⟩ : ∃ wB, wB = wr := ⟨_, rfl⟩
        subst hwB
        by_cases hjn : j < srt.length
        case pos =>
          have hjn2 : (j : Int) < (srt.length : Int) := by omega
          have HBwB := Aside0.mk (below_weaken HBws.out HBws.out.size HBj.out)
          obtain ⟨hn, hhn, hhl⟩ := HSA.out _ (getD_mem srt j 0 hjn)
          obtain ⟨ad8, e1, hu1⟩ := Kd.at_int (Kd.C_below HC8.out HBj.out) (j : Int) (by omega) (by omega)
          cases e1
          rw [show rd srt (j : Int) = srt.getD j 0 from rfl, Int.toNat_natCast, hhn] at hu1
          have hhz : (hn : Int) < (l0_1.length : Int) := by omega
          obtain ⟨ad9, e1, hv1⟩ := Kd.at_int (Kd.C_below HR1.out HBwB.out) (hn : Int) (by omega) (by omega)
          cases e1
          rw [show rd l0_1 (hn : Int) = l0_1.getD hn 0 from rfl, Int.toNat_natCast] at hv1
          have hxb := blk_below HBL2.out HBj.out
          have hx0 : wB.cell? ⟨w.heap.size, 0, none⟩ = some (.slice A0_0 l0_0.length c0_0) := (blk_cell hxb 0).trans rfl
          have hx1 : wB.cell? ⟨w.heap.size, 1, none⟩ = some (.slice (some ad9) l0_1.length c0_1) := (blk_cell hxb 1).trans rfl
          have hgo := HGj.out
          rw [show srt.drop j = (hn : Int) :: srt.drop (j + 1) from by
            rw [List.drop_eq_getElem_cons hjn, ← hhn, List.getD_eq_getElem?_getD, List.getElem?_eq_getElem hjn]; rfl] at hgo
          simp only [sweepGo, Int.toNat_natCast] at hgo
          obtain ⟨x, hx⟩ : ∃ x, x = l0_1.getD hn 0 := ⟨_, rfl⟩
          rw [← hx] at hv1 hgo
          have HX := Aside0.mk hx
          have HHN := Aside0.mk (And.intro hhn hhl)
          clear hx hhn hhl hxb
          by_cases hle : x ≤ e
          case pos =>
            rw [if_pos hle] at hgo
            have HGN := Aside0.mk hgo
            clear hgo
            go_wp2
            go_roundg (srt.length - (j + 1))
            case measure => omega
            case rel => exact ⟨j + 1, e, out, by omega, by omega, by go_num, rfl, HRj, ⟨by have := HOL.out; omega⟩, HGN, HBj⟩
          case neg =>
            rw [if_neg hle] at hgo
            have HGN := Aside0.mk hgo
            clear hgo
            have hcc := HC.out.1
            have hfz : (frm : Int) ≤ (c0_0 : Int) := by omega
            obtain ⟨dl, hdl⟩ : ∃ dl, dl = l0_0.drop frm := ⟨_, rfl⟩
            obtain ⟨m, hm⟩ : ∃ m, m = l0_0.length - frm := ⟨_, rfl⟩
            have hfl : frm ≤ l0_0.length := Int.ofNat_le.1 han
            have hCD0 := Kd.C_drop (m := frm) HR0.out hfl HC.out.1
            have hkz : k112.sz = 2 := rfl
            rw [← hdl, hkz] at hCD0
            have HCD0 := Aside0.mk hCD0
            have HML := Aside0.mk (show dl.length = m by rw [hdl, hm]; simp)
            have HDM := Aside0.mk (show ∀ s ∈ dl, s ∈ l0_0 by rw [hdl]; exact fun s hs => List.mem_of_mem_drop hs)
            have hmb : m ≤ 9223372036854775807 := by have := HR0.out.2.1; omega
            have hgn := HGN.out
            rw [← hdl] at hgn
            have HGN := Aside0.mk hgn
            have HMM := Aside0.mk hm
            clear hdl hm hCD0 hkz hfl hgn
            cases A0_0
            all_goals go_wp2
            all_goals
              try subst h
              first
                | (have hCD := HCD0.out
                   simp only [Option.map_none, ite_self] at hCD
                   have HCD := Aside0.mk hCD
                   clear hCD)
                | (have hCD := HCD0.out
                   rw [if_pos rfl] at hCD
                   have HCD := Aside0.mk hCD
                   clear hCD)
                | (have hCD := HCD0.out
                   rw [if_neg (by assumption), Option.map_some] at hCD
                   have HCD := Aside0.mk hCD
                   clear hCD)
              rw [← HMM.out]
              clear hx0 hx1 HCD0
              try clear h
              go_loopg [11, 55] m (fun gg s11 s55 W => ∃ (k : Nat), k ≤ m ∧ m - k ≤ gg ∧ s55 = .int .i64 k ∧ s11 = .int .i64 (endTo (dl.take k) x) ∧ Aside0 (Below wB.heap.size wB W))
              case atStart => exact ⟨0, by omega, by omega, rfl, rfl, ⟨Below.refl _ _⟩⟩
              case round =>
                obtain ⟨k, hk, hgg3, rfl, rfl, HBk⟩ := hrel
                obtain ⟨wD, hwD⟩ : ∃ wD, wD = wr := ⟨_, rfl⟩
                subst hwD
                have HB := Aside0.mk (below_weaken HBj.out HBj.out.size HBk.out)
                have HBwD := Aside0.mk (below_weaken HBws.out HBws.out.size HB.out)
                by_cases hkn : k < m
                case pos =>
                  have hkn2 : (k : Int) < (m : Int) := by omega
                  obtain ⟨ad3, e1, hz0, hz1⟩ := at_T112 (Kd.C_below HCD.out HBwD.out) (k : Int) (by omega) (by have := HML.out; omega)
                  cases e1
                  all_goals
                    rw [show rd_T112 dl (k : Int) = dl.getD k z112 from rfl] at hz0 hz1
                    rw [Int.toNat_natCast] at hz0 hz1
                    have hkd : k < dl.length := by rw [HML.out]; exact hkn
                    have hsm := HDM.out _ (getD_mem dl k z112 hkd)
                    have hsn := endTo_snoc dl x k hkd
                    have hbd := HV.out.1 _ hsm
                    have hhf := hears_f l0_0 l0_1 (dl.getD k z112) hn HV.out hsm HHN.out.2
                    rw [← HX.out] at hhf
                    generalize dl.getD k z112 = s at *
                    obtain ⟨⟨hq1, hq2⟩, hq3, hq4⟩ := hbd
                    obtain ⟨e0, he0⟩ : ∃ e0, e0 = endTo (dl.take k) x := ⟨_, rfl⟩
                    rw [← he0] at hsn ⊢
                    have HE0 := Aside0.mk he0
                    have HSN := Aside0.mk hsn
                    obtain ⟨hb, hhb⟩ : ∃ hb, hb = hearsP x s := ⟨_, rfl⟩
                    rw [← hhb] at hhf
                    have HHB := Aside0.mk hhb
                    have HHF := Aside0.mk hhf
                    clear hsm hsn he0 hhb hhf
                    go_upto_region 19 with fail
                    have hSb := blk_new wD (.cells #[.int .i64 s.f0, .int .i64 s.f1] 112)
                    have hb2 := below_weaken HBk.out HBk.out.size (below_alloc (Below.refl _ wD) (.cells #[.int .i64 s.f0, .int .i64 s.f1] 112))
                    clear hz0 hz1
                    generalize wD.alloc (.cells #[.int .i64 s.f0, .int .i64 s.f1] 112) = w2 at *
                    generalize wD.heap.size = SB at *
                    have hbq := below_weaken HBj.out HBj.out.size hb2
                    have hbw2 := below_weaken HBws.out HBws.out.size hbq
                    have hxb := blk_below HBL2.out hbq
                    have hx0 := (blk_cell hxb 0).trans rfl
                    have hx1 := (blk_cell hxb 1).trans rfl
                    have hs0 : w2.cell? ⟨SB, 0, none⟩ = some (.int .i64 s.f0) := (blk_cell hSb 0).trans rfl
                    have hs1 : w2.cell? ⟨SB, 1, none⟩ = some (.int .i64 s.f1) := (blk_cell hSb 1).trans rfl
                    have HCALL := Aside0.mk (dam_valley_hears.calls _ c0_0 l0_0 _ c0_1 l0_1 (hn : Int) s.f0 s.f1 hb w2 (Kd.C_below HR0.out hbw2) HC.out.1 (Kd.C_below HR1.out hbw2) HC.out.2 HHF.out)
                    have HB2 := Aside0.mk hb2
                    have HSB := Aside0.mk hSb
                    clear hb2 hbq hbw2 hxb hSb
                    cases hb
                    case false =>
                      go_wp2_with (go_at_call 105; refine HCALL.out.mono ?_; rintro e' w3 ⟨rfl, hb3⟩; have HB3 := Aside0.mk hb3; clear hb3)
                      go_roundg (m - (k + 1))
                      case measure => omega
                      case rel => exact ⟨k + 1, by omega, by omega, by go_num, by rw [HSN.out, ← HHB.out]; rfl, ⟨below_weaken HB2.out HB2.out.size HB3.out⟩⟩
                    case true =>
                      rcases (show e0 < s.f0 + s.f1 ∨ ¬ e0 < s.f0 + s.f1 by omega) with hem | hem
                      all_goals
                        have HEM := Aside0.mk hem
                        go_wp2_with (go_at_call 105; refine HCALL.out.mono ?_; rintro e' w3 ⟨rfl, hb3⟩; have ht0 : w3.cell? ⟨SB, 0, none⟩ = some (.int .i64 s.f0) := (blk_cell (blk_below HSB.out hb3) 0).trans rfl; have ht1 : w3.cell? ⟨SB, 1, none⟩ = some (.int .i64 s.f1) := (blk_cell (blk_below HSB.out hb3) 1).trans rfl; have HB3 := Aside0.mk hb3; clear hb3)
                        go_roundg (m - (k + 1))
                        case measure => omega
                        case rel =>
                          refine ⟨k + 1, by omega, by omega, by go_num, ?_, ⟨below_weaken HB2.out HB2.out.size HB3.out⟩⟩
                          rw [HSN.out, ← HHB.out]
                          unfold mx
                          rw [if_pos rfl]
                          have he := HEM.out
                          first | (rw [if_pos (by omega)]; done) | (rw [if_neg (by omega)]; done) | (congr 1; split <;> omega)
                case neg =>
                  obtain rfl : k = m := by omega
                  have htk : dl.take k = dl := List.take_of_length_le (by rw [HML.out]; exact Nat.le_refl _)
                  rw [htk]
                  have hgo := HGN.out
                  obtain ⟨e2, he2⟩ : ∃ e2, e2 = endTo dl x := ⟨_, rfl⟩
                  rw [← he2] at hgo ⊢
                  clear htk he2
                  by_cases hneg : e2 < 0
                  case pos =>
                    rw [if_pos hneg] at hgo
                    simp only [Prod.mk.injEq] at hgo
                    obtain ⟨rfl, rfl⟩ := hgo
                    go_wp2
                    refine bodyPost_ret (results_tmp2 rfl _ _ _) rfl ⟨_, rfl, Kd.R_nil _ _ _ _ _, HBwD.out⟩
                  case neg =>
                    rw [if_neg hneg] at hgo
                    have HGO2 := Aside0.mk hgo
                    clear hgo
                    have HO := Aside0.mk (Kd.R_below HRj.out HBk.out)
                    go_wp2_with ((with_reducible refine gate_builtin (b := .append) (xs := #[.tmp 73, .tmp 75]) rfl ?_); at_builtin; refine Kd.R_append (Kd.int .i64) (w0 := wS) wS.heap.size rfl (.tmp 73) (.tmp 75) 22 3 (.int .i64 0) 8 rfl Try.underlying22 info3 rfl (by decide) (by omega) u10 out (hn : Int) [.int .i64 (hn : Int)] (fun _ => True) (fun _ => False) rfl rfl ?aP (fun _ hk => hk.elim) ?aF ?aO ?aB ?aS ?aL ?_; (case aP => exact rfl); (case aB => exact (bel HB.out)); (case aF => exact (fun _ _ => trivial)); (case aO => exact (krl HO.out)); (case aS => exact (below_size (bel HB.out))); (case aL => have h1 := HOL.out; have h2 := HSL.out; omega); intro v170 w6 ho hb hg hat; have HBN := Aside0.mk hb; have HON := Aside0.mk ho; clear ho hb hg hat)
                    go_roundg (srt.length - (j + 1))
                    case measure => omega
                    case rel => exact ⟨j + 1, e2, out ++ [(hn : Int)], by omega, by omega, by go_num, rfl, HON, ⟨by rw [List.length_append]; have := HOL.out; simp; omega⟩, HGO2, HBN⟩
        case neg =>
          obtain rfl : j = srt.length := by omega
          have hgo := HGj.out
          rw [List.drop_length] at hgo
          simp only [sweepGo, Prod.mk.injEq] at hgo
          obtain ⟨rfl, rfl⟩ := hgo
          go_wp2
          refine bodyPost_ret (results_tmp2 rfl _ _ _) rfl ⟨_, rfl, Kd.R_lower HRj.out HBws.out.size, below_weaken HBws.out HBws.out.size HBj.out⟩
def dam_CheckValley_1.f (a0 : Int) : Option (Bool) := (dam_within.f a0 0 1000000).bind fun t201001 => (some t201001)
set_option maxHeartbeats 8000000 in
set_option maxRecDepth 100000 in
theorem dam_CheckValley_1.calls (a0 : Int) (r : Bool) (w : World) (h : dam_CheckValley_1.f a0 = some r) :
    Calls Try.prog 67 #[.int .i64 a0] w fun e w' => e = .returned (.bool r) ∧ Drawn0 w w' := by
  have H : ((dam_within.f a0 0 1000000).bind fun t201001 => (some t201001)) = some r := h
  clear h
  replace H := Option.bind_eq_some_iff.mp H
  obtain ⟨t201001, A20, H⟩ := H
  replace H : (some t201001) = some r := H
  have A2 := Aside0.mk A20
  clear A20
  obtain rfl := Option.some.inj H
  go_enter Try.func67, Try.ntmps67
  go_wp2_with (first | ((with_reducible refine gate_callee (f := 65) rfl ?_); refine goesL_ (some 4) rfl rfl Try.func65 (by kernel_rfl) rfl #[.int .i64 a0, .int .i64 0, .int .i64 1000000] rfl mpa ?_; (with_reducible refine (dam_within.calls a0 0 1000000 t201001 _ A2.out).mono ?_); rintro e w' ⟨rfl, ⟨nd, rfl⟩⟩; refine ⟨_, rfl, ?_⟩))
  go_ret
  exact ⟨by first | rfl | (simp; done) | (simp [*]; done), by repeat (first | exact Drawn0.refl _ | apply Drawn0.step)⟩
set_option maxHeartbeats 8000000 in
set_option maxRecDepth 100000 in
theorem hIndexSiren (g : Nat) (lb : Array Value) (p : S112 → Bool) (eg : ∀ args w, (callFunc g args).run Try.prog w = .ok (.enter g args) w) (A0 : Option Addr) (c0 : Nat) (l0 : List S112) (w : World) (hr0 : Kd.C k112 w A0 l0.length l0) (hp : PredB Try.prog g lb (fun x : S112 => .agg #[.int .i64 x.f0, .int .i64 x.f1]) p l0 w) :
    Calls Try.prog 68 #[.slice A0 l0.length c0, .func (.func g) #[] lb] w fun e w' => e = .returned (.int .i64 (idxF p l0)) ∧ Below w.heap.size w w' := by
  have hlen : l0.length ≤ 9223372036854775807 := hr0.2.1
  have HR0 := Aside0.mk hr0
  have HP := Aside0.mk hp
  clear hr0 hp
  go_enter Try.func68, Try.ntmps68
  go_wp2
  go_loopg [5, 8] l0.length (fun gg _ s8 wr => ∃ kk : Nat, kk ≤ l0.length ∧ l0.length - kk ≤ gg ∧ s8 = .int .i64 kk ∧ Aside0 (Below w.heap.size w wr) ∧ Aside0 (∀ j, j < kk → p (l0.getD j z112) = false))
  case atStart => exact ⟨0, Nat.zero_le _, by omega, rfl, ⟨Below.refl _ _⟩, ⟨fun j hj => absurd hj (Nat.not_lt_zero _)⟩⟩
  case round =>
    obtain ⟨kk, hkk, hg, rfl, HB, A⟩ := hrel
    by_cases hlt : kk < l0.length
    · have hltz : (kk : Int) < (l0.length : Int) := by omega
      obtain ⟨ad, e1, hx1, hx2⟩ := at_T112 (Kd.C_below HR0.out HB.out) (kk : Int) (by omega) (by omega)
      cases e1
      have hmem : l0.getD kk z112 ∈ l0 := by rw [List.getD_eq_getElem?_getD, List.getElem?_eq_getElem hlt]; exact List.getElem_mem hlt
      have hrd : rd_T112 l0 (kk : Int) = l0.getD kk z112 := rfl
      rw [hrd, Int.toNat_natCast] at hx1 hx2
      clear hrd
      generalize hy : l0.getD kk z112 = y at hx1 hx2 hmem
      have B := Aside0.mk hy
      clear hy
      have hcall := HP.out wr y hmem HB.out
      have hu := Try.underlying112
      cases hq : p y with
      | true =>
        rw [hq] at hcall
        have HC := Aside0.mk hcall
        have HQ := Aside0.mk hq
        clear hcall hq
        go_wp2_with (go_at_fn g; refine HC.out.mono ?_; rintro e w' ⟨rfl, hb⟩)
        go_ret
        refine ⟨?_, ?_⟩
        · rw [idxF_hit hlt A.out (by rw [B.out]; exact HQ.out)]; rfl
        · exact below_step HB.out (by assumption)
      | false =>
        rw [hq] at hcall
        have HC := Aside0.mk hcall
        have HQ := Aside0.mk hq
        clear hcall hq
        go_wp2_with (go_at_fn g; refine HC.out.mono ?_; rintro e w' ⟨rfl, hb⟩; have HB2 := Aside0.mk (below_step HB.out hb); clear hb)
        go_roundg (l0.length - (kk + 1))
        case measure => omega
        case rel =>
          refine ⟨kk + 1, by omega, by omega, by go_num, by assumption, ⟨fun j hj => ?_⟩⟩
          by_cases e : j = kk
          · subst e
            rw [B.out]; exact HQ.out
          · exact A.out j (by omega)
    · have hltz : ¬ (kk : Int) < (l0.length : Int) := by omega
      obtain rfl : kk = l0.length := by omega
      go_wp2
      go_ret
      refine ⟨?_, HB.out⟩
      rw [idxF_miss A.out]; rfl
def isPos (n : Int) : Bool := decide (0 ≤ n) && decide (n ≤ 1000000)
def badSiren (s : S112) : Bool := !isPos s.f0 || !isPos s.f1
def valleyOut (ss : List S112) (hs : List Int) : Int × Int :=
  if (20 : Int) < (ss.length : Int) ∨ (40 : Int) < (hs.length : Int) then (0, 8) else
  if 0 ≤ idxF badSiren ss then (idxF badSiren ss, 2) else
  if 0 ≤ idxF (fun n => !isPos n) hs then (idxF (fun n => !isPos n) hs, 2) else (0, 0)
def dam_CheckValley.f (l0_0 : List S112) (l0_1 : List Int) : Option (Int × Int) := some (valleyOut l0_0 l0_1)
theorem within_v (a b c : Int) : dam_within.f a b c = some (decide (b ≤ a) && decide (a ≤ c)) := by
  unfold dam_within.f
  by_cases h : b ≤ a <;> simp [h]
theorem pos_f (n : Int) : dam_CheckValley_1.f n = some (isPos n) := by
  unfold dam_CheckValley_1.f
  rw [within_v]
  rfl
set_option maxHeartbeats 8000000 in
set_option maxRecDepth 100000 in
theorem checkValley3_calls (n : Int) (P : Nat) (w : World) (hc : w.cell? ⟨P, 0, none⟩ = some (.func (.func 67) #[] #[])) :
    Calls Try.prog 71 #[.int .i64 n, .pointer (some ⟨P, 0, none⟩)] w fun e w' => e = .returned (.bool (!isPos n)) ∧ Below w.heap.size w w' := by
  have H := Aside0.mk (pos_f n)
  obtain ⟨b, hb⟩ : ∃ b, b = isPos n := ⟨_, rfl⟩
  rw [← hb] at H
  rw [← hb]
  clear hb
  go_enter Try.func71, Try.ntmps71
  go_wp2_with (go_at_call 67; refine (dam_CheckValley_1.calls _ _ _ H.out).mono ?_; rintro e w' ⟨rfl, hb⟩; have HB := Aside0.mk hb.below; clear hb)
  go_ret
  exact ⟨rfl, HB.out⟩
set_option maxHeartbeats 8000000 in
set_option maxRecDepth 100000 in
theorem checkValley2_calls (x : S112) (P : Nat) (w : World) (hc : w.cell? ⟨P, 0, none⟩ = some (.func (.func 67) #[] #[])) :
    Calls Try.prog 69 #[.agg #[.int .i64 x.f0, .int .i64 x.f1], .pointer (some ⟨P, 0, none⟩)] w fun e w' => e = .returned (.bool (badSiren x)) ∧ Below w.heap.size w w' := by
  have hu := Try.underlying112
  unfold badSiren
  have H := Aside0.mk (pos_f x.f0)
  have H2 := Aside0.mk (pos_f x.f1)
  obtain ⟨b, hb⟩ : ∃ b, b = isPos x.f0 := ⟨_, rfl⟩
  obtain ⟨b2, hb2⟩ : ∃ b2, b2 = isPos x.f1 := ⟨_, rfl⟩
  rw [← hb] at H
  rw [← hb2] at H2
  rw [← hb, ← hb2]
  clear hb hb2
  cases b
  all_goals
    go_enter Try.func69, Try.ntmps69
    go_upto_region 1 with fail
    have hbl := blk_new w (.cells #[.int .i64 x.f0, .int .i64 x.f1] 112)
    have hb1 := below_alloc (Below.refl _ w) (.cells #[.int .i64 x.f0, .int .i64 x.f1] 112)
    have hcc := (hb1.cell (World.block_lt_of_cell? w _ hc)).trans hc
    generalize w.alloc (.cells #[.int .i64 x.f0, .int .i64 x.f1] 112) = w1 at *
    have hx0 : w1.cell? ⟨w.heap.size, 0, none⟩ = some (.int .i64 x.f0) := (blk_cell hbl 0).trans rfl
    have hx1 : w1.cell? ⟨w.heap.size, 1, none⟩ = some (.int .i64 x.f1) := (blk_cell hbl 1).trans rfl
    have HB1 := Aside0.mk hb1
    have HBL := Aside0.mk hbl
    clear hb1 hbl hc
    go_wp2_with (first | (go_at_call 67; refine (dam_CheckValley_1.calls _ _ _ H.out).mono ?_; rintro e w' ⟨rfl, ⟨nd, rfl⟩⟩) | (go_at_call 67; refine (dam_CheckValley_1.calls _ _ _ H2.out).mono ?_; rintro e w' ⟨rfl, ⟨nd2, rfl⟩⟩))
    go_ret
    exact ⟨rfl, by repeat (first | exact HB1.out | apply pw_below_drewN | apply below_drew)⟩
set_option maxHeartbeats 8000000 in
set_option maxRecDepth 100000 in
theorem dam_CheckValley.calls (A0_0 : Option Addr) (c0_0 : Nat) (l0_0 : List S112) (A0_1 : Option Addr) (c0_1 : Nat) (l0_1 : List Int) (r1 : Int) (r2 : Int) (w : World) (hr0_0 : Kd.C k112 w A0_0 l0_0.length l0_0) (hc0_0 : l0_0.length ≤ c0_0) (hr0_1 : Kd.C (Kd.int .i64) w A0_1 l0_1.length l0_1) (hc0_1 : l0_1.length ≤ c0_1) (h : dam_CheckValley.f l0_0 l0_1 = some (r1, r2)) :
    Calls Try.prog 20 #[.agg #[.slice A0_0 l0_0.length c0_0, .slice A0_1 l0_1.length c0_1]] w fun e w' => e = .returned (.tuple #[.int .i64 r1, .int .i64 r2]) ∧ Below w.heap.size w w' := by
  have hu := Try.underlying39
  have hout : valleyOut l0_0 l0_1 = (r1, r2) := Option.some.inj h
  clear h
  unfold valleyOut at hout
  have HR0 := Aside0.mk hr0_0
  have HR1 := Aside0.mk hr0_1
  clear hr0_0 hr0_1 hc0_0 hc0_1
  have hb1 := below_alloc (Below.refl _ w) (.cells #[.slice A0_0 l0_0.length c0_0, .slice A0_1 l0_1.length c0_1] 39)
  have HB1 := Aside0.mk hb1
  clear hb1
  by_cases hs : (20 : Int) < (l0_0.length : Int)
  case pos =>
    rw [if_pos (.inl hs)] at hout
    simp only [Prod.mk.injEq] at hout
    obtain ⟨rfl, rfl⟩ := hout
    go_enter Try.func20, Try.ntmps20
    go_wp2
    go_ret2
    exact ⟨rfl, HB1.out⟩
  case neg =>
  by_cases hs2 : (40 : Int) < (l0_1.length : Int)
  case pos =>
    rw [if_pos (.inr hs2)] at hout
    simp only [Prod.mk.injEq] at hout
    obtain ⟨rfl, rfl⟩ := hout
    go_enter Try.func20, Try.ntmps20
    go_wp2
    go_ret2
    exact ⟨rfl, HB1.out⟩
  case neg =>
    rw [if_neg (by omega)] at hout
    obtain ⟨i, hi⟩ : ∃ i, i = idxF badSiren l0_0 := ⟨_, rfl⟩
    obtain ⟨j, hj⟩ : ∃ j, j = idxF (fun n => !isPos n) l0_1 := ⟨_, rfl⟩
    rw [← hi, ← hj] at hout
    have HI := Aside0.mk hi
    have HJ := Aside0.mk hj
    have HOUT := Aside0.mk hout
    clear hi hj hout
    have hwalk : ∀ (hi0 : 0 ≤ i ∨ ¬ 0 ≤ i) (hj0 : 0 ≤ j ∨ ¬ 0 ≤ j), Calls Try.prog 20 #[.agg #[.slice A0_0 l0_0.length c0_0, .slice A0_1 l0_1.length c0_1]] w fun e w' => e = .returned (.tuple #[.int .i64 r1, .int .i64 r2]) ∧ Below w.heap.size w w' := by
      intro hi0 hj0
      rcases hi0 with hi0 | hi0 <;> rcases hj0 with hj0 | hj0
      all_goals
        have ks : ∀ (W : World) (a : Addr), (store a (.func (.func 67) #[] #[])).run Try.prog W = stored Try.prog W a (.func (.func 67) #[] #[]) .plain := fun W a => run_store _ _ _ _ _ rfl
        have ho := HOUT.out
        first
          | (rw [if_pos hi0] at ho
             have HO := Aside0.mk ho
             clear ho)
          | (rw [if_neg hi0, if_pos hj0] at ho
             have HO := Aside0.mk ho
             clear ho)
          | (rw [if_neg hi0, if_neg hj0] at ho
             have HO := Aside0.mk ho
             clear ho)
        go_enter Try.func20, Try.ntmps20
        go_upto_region 4 with fail
        have hbl := blk_alloc (blk_new w (.cells #[.slice A0_0 l0_0.length c0_0, .slice A0_1 l0_1.length c0_1] 39)) (.cells #[.func (.func 67) #[] #[]] 109)
        have hpl := blk_new (w.alloc (.cells #[.slice A0_0 l0_0.length c0_0, .slice A0_1 l0_1.length c0_1] 39)) (.cells #[.func (.func 67) #[] #[]] 109)
        rw [show (w.alloc (.cells #[.slice A0_0 l0_0.length c0_0, .slice A0_1 l0_1.length c0_1] 39)).heap.size = w.heap.size + 1 from Array.size_push _] at hpl
        have hb2 := below_alloc HB1.out (.cells #[.func (.func 67) #[] #[]] 109)
        generalize (w.alloc (.cells #[.slice A0_0 l0_0.length c0_0, .slice A0_1 l0_1.length c0_1] 39)).alloc (.cells #[.func (.func 67) #[] #[]] 109) = w1 at *
        have hx0 : w1.cell? ⟨w.heap.size, 0, none⟩ = some (.slice A0_0 l0_0.length c0_0) := (blk_cell hbl 0).trans rfl
        have hx1 : w1.cell? ⟨w.heap.size, 1, none⟩ = some (.slice A0_1 l0_1.length c0_1) := (blk_cell hbl 1).trans rfl
        have hp0 : w1.cell? ⟨w.heap.size + 1, 0, none⟩ = some (.func (.func 67) #[] #[]) := (blk_cell hpl 0).trans rfl
        have HK := Aside0.mk (hIndexSiren 69 #[.pointer (some ⟨w.heap.size + 1, 0, none⟩)] badSiren (fun args w => by rfl) A0_0 c0_0 l0_0 w1 (Kd.C_below HR0.out hb2) (fun W y _ hb => checkValley2_calls y _ W ((hb.cell (World.block_lt_of_cell? w1 _ hp0)).trans hp0)))
        rw [← HI.out] at HK
        have HB2 := Aside0.mk hb2
        have HBL := Aside0.mk hbl
        have HP0 := Aside0.mk hp0
        clear hbl hpl hb2 hp0 hs hs2
        first
          | (go_wp2_with (first | (go_at_call 68; refine HK.out.mono ?_; rintro e w2 ⟨rfl, hb3⟩; have HB3 := Aside0.mk hb3; have hx1 := (hb3.cell (World.block_lt_of_cell? w1 _ hx1)).trans hx1; have HK2 := Aside0.mk (hIndexInt 71 #[.pointer (some ⟨w.heap.size + 1, 0, none⟩)] (fun n => !isPos n) (fun args w => by rfl) A0_1 c0_1 l0_1 w2 (Kd.C_below HR1.out (below_step HB2.out hb3)) (fun W y _ hb => checkValley3_calls y _ W (((below_step hb3 hb).cell (World.block_lt_of_cell? w1 _ HP0.out)).trans HP0.out))); rw [← HJ.out] at HK2; clear hb3) | (go_at_call 70; refine HK2.out.mono ?_; rintro e w3 ⟨rfl, hb4⟩; have HB4 := Aside0.mk hb4; clear hb4)))
        go_ret2
        have ho := HO.out
        simp only [Prod.mk.injEq] at ho
        obtain ⟨rfl, rfl⟩ := ho
        first
          | exact ⟨rfl, below_step (below_step HB2.out HB3.out) HB4.out⟩
          | exact ⟨rfl, below_step HB2.out HB3.out⟩
    exact hwalk (by omega) (by omega)
def cmp_Less_int.f (a0 : Int) (a1 : Int) : Option (Bool) := (cmp_isNaN_int.f a0).bind fun t372001 => (if t372001 = true then ((cmp_isNaN_int.f a1).bind fun t372002 => (if t372002 = true then (some (decide (a0 < a1))) else (some true))) else (some (decide (a0 < a1))))
set_option maxHeartbeats 8000000 in
set_option maxRecDepth 100000 in
theorem cmp_Less_int.calls (a0 : Int) (a1 : Int) (r : Bool) (w : World) (h : cmp_Less_int.f a0 a1 = some r) :
    Calls Try.prog 124 #[.int .i64 a0, .int .i64 a1] w fun e w' => e = .returned (.bool r) ∧ Drawn0 w w' := by
  have H : ((cmp_isNaN_int.f a0).bind fun t372001 => (if t372001 = true then ((cmp_isNaN_int.f a1).bind fun t372002 => (if t372002 = true then (some (decide (a0 < a1))) else (some true))) else (some (decide (a0 < a1))))) = some r := h
  clear h
  replace H := Option.bind_eq_some_iff.mp H
  obtain ⟨t372001, A30, H⟩ := H
  replace H : (if t372001 = true then ((cmp_isNaN_int.f a1).bind fun t372002 => (if t372002 = true then (some (decide (a0 < a1))) else (some true))) else (some (decide (a0 < a1)))) = some r := H
  have A3 := Aside0.mk A30
  clear A30
  by_cases c4 : t372001 = true
  · subst c4
    have H1 : ((cmp_isNaN_int.f a1).bind fun t372002 => (if t372002 = true then (some (decide (a0 < a1))) else (some true))) = some r := by rw [if_pos rfl] at H; exact H
    clear H
    have H := H1
    clear H1
    replace H := Option.bind_eq_some_iff.mp H
    obtain ⟨t372002, A50, H⟩ := H
    replace H : (if t372002 = true then (some (decide (a0 < a1))) else (some true)) = some r := H
    have A5 := Aside0.mk A50
    clear A50
    by_cases c6 : t372002 = true
    · subst c6
      have H1 : (some (decide (a0 < a1))) = some r := by rw [if_pos rfl] at H; exact H
      clear H
      have H := H1
      clear H1
      obtain rfl := Option.some.inj H
      go_enter Try.func124, Try.ntmps124
      go_wp2_with (first | ((with_reducible refine gate_callee (f := 121) rfl ?_); refine goesL_ (some 6) rfl rfl Try.func121 (by kernel_rfl) rfl #[.int .i64 a0] rfl mpa ?_; (with_reducible refine (cmp_isNaN_int.calls a0 true _ A3.out).mono ?_); rintro e w' ⟨rfl, ⟨nd, rfl⟩⟩; refine ⟨_, rfl, ?_⟩) | (go_at_call 121; (with_reducible refine (cmp_isNaN_int.calls a1 true _ A5.out).mono ?_); rintro e w' ⟨rfl, ⟨nd, rfl⟩⟩))
      go_ret
      exact ⟨by first | rfl | (simp; done) | (simp [*]; done), by repeat (first | exact Drawn0.refl _ | apply Drawn0.step)⟩
    · replace c6 := Bool.eq_false_iff.mpr c6
      subst c6
      have H1 : (some true) = some r := by rw [if_neg (show ¬ (false = true) by decide)] at H; exact H
      clear H
      have H := H1
      clear H1
      obtain rfl := Option.some.inj H
      go_enter Try.func124, Try.ntmps124
      go_wp2_with (first | ((with_reducible refine gate_callee (f := 121) rfl ?_); refine goesL_ (some 6) rfl rfl Try.func121 (by kernel_rfl) rfl #[.int .i64 a0] rfl mpa ?_; (with_reducible refine (cmp_isNaN_int.calls a0 true _ A3.out).mono ?_); rintro e w' ⟨rfl, ⟨nd, rfl⟩⟩; refine ⟨_, rfl, ?_⟩) | (go_at_call 121; (with_reducible refine (cmp_isNaN_int.calls a1 false _ A5.out).mono ?_); rintro e w' ⟨rfl, ⟨nd, rfl⟩⟩))
      go_ret
      exact ⟨by first | rfl | (simp; done) | (simp [*]; done), by repeat (first | exact Drawn0.refl _ | apply Drawn0.step)⟩
  · replace c4 := Bool.eq_false_iff.mpr c4
    subst c4
    have H1 : (some (decide (a0 < a1))) = some r := by rw [if_neg (show ¬ (false = true) by decide)] at H; exact H
    clear H
    have H := H1
    clear H1
    obtain rfl := Option.some.inj H
    go_enter Try.func124, Try.ntmps124
    go_wp2_with (first | ((with_reducible refine gate_callee (f := 121) rfl ?_); refine goesL_ (some 6) rfl rfl Try.func121 (by kernel_rfl) rfl #[.int .i64 a0] rfl mpa ?_; (with_reducible refine (cmp_isNaN_int.calls a0 false _ A3.out).mono ?_); rintro e w' ⟨rfl, ⟨nd, rfl⟩⟩; refine ⟨_, rfl, ?_⟩))
    go_ret
    exact ⟨by first | rfl | (simp; done) | (simp [*]; done), by repeat (first | exact Drawn0.refl _ | apply Drawn0.step)⟩
def ltI (x y : Int) : Bool := decide (x < y)
theorem less_f (x y : Int) : cmp_Less_int.f x y = some (ltI x y) := by
  unfold cmp_Less_int.f cmp_isNaN_int.f
  simp [ltI]
set_option maxHeartbeats 8000000 in
set_option maxRecDepth 100000 in
theorem insOrd_calls (g cap n B : Nat) (xs : List Int) (w : World) (ok : Nat → Prop)
    (hR : Kd.R (Kd.int .i64) 3 w B ok (.slice (some ⟨g, 0, none⟩) n cap) xs) :
    Calls Try.prog 126 #[.slice (some ⟨g, 0, none⟩) n cap, .int .i64 0, .int .i64 (n : Int)] w fun e w' => e = .returned (.tuple #[]) ∧ Kd.R (Kd.int .i64) 3 w' B ok (.slice (some ⟨g, 0, none⟩) n cap) (insTo ltI n xs) ∧ ButG w w' g := by
  obtain ⟨hn, hcap, hC⟩ := Kd.R_reads' hR
  have hm : n ≤ 9223372036854775807 := by rw [hn]; exact hC.2.1
  have HR := Aside0.mk hR
  have HN := Aside0.mk hn
  clear hR hn hC hcap
  go_enter Try.func126, Try.ntmps126
  go_wp2
  go_loopg [6] n (fun gg s8 W => ∃ (i : Nat), 1 ≤ i ∧ i ≤ n + 1 ∧ n + 1 - i ≤ gg ∧ s8 = .int .i64 i ∧ Aside0 (i ≤ n ∨ n = 0) ∧ Aside0 (Kd.R (Kd.int .i64) 3 W B ok (.slice (some ⟨g, 0, none⟩) n cap) (insTo ltI i xs)) ∧ Aside0 (ButG w W g))
  case atStart => exact ⟨1, by omega, by omega, by omega, by first | rfl | go_num, ⟨by omega⟩, HR, ⟨ButG.refl _ _⟩⟩
  case round =>
    obtain ⟨i, hi1, hi, hgg, rfl, HI, HRi, HBi⟩ := hrel
    by_cases hin : i < n
    case pos =>
      have hin2 : (i : Int) < (n : Int) := by omega
      go_wp2
      have hsw : insTo ltI (i + 1) xs = sink ltI i (insTo ltI i xs) := rfl
      have HSW := Aside0.mk hsw
      have hal : True := trivial
      have HAL := Aside0.mk hal
      have hll : (insTo ltI i xs).length = n := by rw [insTo_len]; exact HN.out.symm
      have HLL := Aside0.mk hll
      clear hal hll hsw
      go_loopg [7] i (fun gg s9 W => ∃ (j : Nat) (cur : List Int), j ≤ i ∧ j ≤ gg ∧ s9 = .int .i64 j ∧ Aside0 (sink ltI j cur = sink ltI i (insTo ltI i xs)) ∧ Aside0 (True) ∧ Aside0 (cur.length = n) ∧ Aside0 (Kd.R (Kd.int .i64) 3 W B ok (.slice (some ⟨g, 0, none⟩) n cap) cur) ∧ Aside0 (ButG w W g))
      case atStart => exact ⟨i, insTo ltI i xs, by omega, by omega, rfl, ⟨rfl⟩, HAL, HLL, HRi, HBi⟩
      case round =>
        obtain ⟨j, cur, hj, hgg2, rfl, HT, HPc, HLc, HRc, HBc⟩ := hrel
        obtain ⟨wC, hwC⟩ : ∃ wC, wC = wr := ⟨_, rfl⟩
        subst hwC
        rcases (show j = 0 ∨ 0 < j by omega) with hj0 | hj0
        case inl =>
          subst hj0
          go_upto_region 4 with fail
          go_region
          all_goals go_wp2
          go_roundg (n + 1 - (i + 1))
          case measure => omega
          case rel => exact ⟨i + 1, by omega, by omega, by omega, by first | go_num | (rw [w64 (by omega) (by omega)]; go_num), ⟨.inl (by omega)⟩, ⟨Kd.R_drew (by have := HRc.out; have h := HT.out; rw [HSW.out, ← h]; exact this)⟩, ⟨HBc.out.below (below_drew (Below.refl _ _))⟩⟩
        case inr =>
          obtain ⟨m, rfl⟩ : ∃ m, j = m + 1 := ⟨j - 1, by omega⟩
          have hmn : (m : Int) + 1 < (n : Int) := by omega
          have hmn1 : (m : Int) < (n : Int) := by omega
          have hm0 : (0 : Int) < (m : Int) + 1 := by omega
          obtain ⟨hx1, hf1⟩ := Kd.R_celln 0 HRc.out ((m + 1 : Nat) : Int) (by omega) (by omega)
          obtain ⟨hx0, hf0⟩ := Kd.R_celln 0 HRc.out (m : Int) (by omega) (by omega)
          rw [Int.toNat_natCast] at hx0 hx1 hf0 hf1
          rw [show rdOf 0 cur ((m + 1 : Nat) : Int) = cur.getD (m + 1) 0 from rfl] at hx1
          rw [show rdOf 0 cur (m : Int) = cur.getD m 0 from rfl] at hx0
          obtain ⟨x, hxx⟩ : ∃ x, x = cur.getD (m + 1) 0 := ⟨_, rfl⟩
          obtain ⟨y, hyy⟩ : ∃ y, y = cur.getD m 0 := ⟨_, rfl⟩
          rw [← hxx] at hx1
          rw [← hyy] at hx0
          have hpx : True := trivial
          have hpy : True := trivial
          have HXY := Aside0.mk (And.intro hxx hyy)
          have HPP := Aside0.mk (And.intro hpx hpy)
          obtain ⟨c, hcd⟩ : ∃ c, c = ltI x y := ⟨_, rfl⟩
          have HLS := Aside0.mk ((less_f x y).trans (by rw [← hcd]))
          have HCD := Aside0.mk hcd
          clear hcd
          have HJ := Aside0.mk hj
          clear hxx hyy hpx hpy hj hf0 hf1
          have hk1 : (0 : Int) ≤ (m : Int) + 1 := by omega
          have hk0 : (0 : Int) ≤ (m : Int) := by omega
          have hk2 : IntKind.i64.wrap ((m : Int) + 1 - 1) = (m : Int) := by rw [i64_w, w64 (by omega) (by omega)]; omega
          have hk5 : IntKind.i64.wrap (m : Int) = (m : Int) := by rw [i64_w, w64 (by omega) (by omega)]
          have hk6 : wrap64 (m : Int) = (m : Int) := by rw [w64 (by omega) (by omega)]
          simp only [Int.natCast_add, Int.natCast_one]
          go_upto_region 4 with fail
          go_region_held3 (fun w' => w'.cell? ⟨g, m + 1, none⟩ = some (.int .i64 x) ∧ w'.cell? ⟨g, m, none⟩ = some (.int .i64 y) ∧ Below wC.heap.size wC w')
            ((refine keep2 hx1 hx0 ?_; repeat (first | assumption | exact Below.refl _ _ | apply pw_below_drewN | apply below_drew | apply below_alloc | (apply And.right; apply And.right; assumption) | refine below_step ?_ (by assumption))))
            (first | (go_at_call 124; refine (cmp_Less_int.calls x y c _ HLS.out).mono ?_; rintro e w3 ⟨rfl, hb3⟩; have hb4 := hb3.below; clear hb3))
          have hBw : Below wC.heap.size wC w3 := by
            apply And.right
            apply And.right
            assumption
          have hR3 := Kd.R_below HRc.out hBw
          have HBw := Aside0.mk (HBc.out.below hBw)
          obtain ⟨hz1, hf1⟩ := Kd.R_celln 0 hR3 ((m + 1 : Nat) : Int) (by omega) (by omega)
          obtain ⟨hz0, hf0⟩ := Kd.R_celln 0 hR3 (m : Int) (by omega) (by omega)
          rw [Int.toNat_natCast] at hz0 hz1 hf0 hf1
          rw [show rdOf 0 cur ((m + 1 : Nat) : Int) = cur.getD (m + 1) 0 from rfl, ← HXY.out.1] at hz1
          rw [show rdOf 0 cur (m : Int) = cur.getD m 0 from rfl, ← HXY.out.2] at hz0
          have HR3 := Aside0.mk hR3
          clear hBw hR3 hx0 hx1
          cases hlt : c
          case true =>
            subst hlt
            have HLT := Aside0.mk HCD.out.symm
            clear HCD
            have hRn := Kd.R_putn (Kd.R_putn HR3.out ((m + 1 : Nat) : Int) y) (m : Int) x
            rw [Int.toNat_natCast, Int.toNat_natCast] at hRn
            have hsw : (cur.set (m + 1) y).set m x = swap2 cur m := by rw [HXY.out.1, HXY.out.2]; rfl
            rw [hsw] at hRn
            have hBn := (HBw.out.set (m + 1) (.int .i64 y)).set m (.int .i64 x)
            have hTn : sink ltI m (swap2 cur m) = sink ltI i (insTo ltI i xs) := by
              rw [← HT.out]
              show _ = sink ltI (m + 1) cur
              rw [sink, if_pos (by rw [← HXY.out.1, ← HXY.out.2]; exact HLT.out)]
            have HRn := Aside0.mk hRn
            have HBn := Aside0.mk hBn
            have HTn := Aside0.mk hTn
            have HPn := Aside0.mk (trivial : True)
            have HLn := Aside0.mk ((swap2_len cur m).trans HLc.out)
            clear hRn hBn hTn hsw
            go_upto_region 6 with fail
            go_region
            all_goals go_wp2
            go_roundg m
            case measure => omega
            case rel => exact ⟨m, swap2 cur m, by have := HJ.out; omega, by omega, by first | rfl | go_num, HTn, HPn, HLn, ⟨Kd.R_drew HRn.out⟩, ⟨HBn.out.below (below_drew (Below.refl _ _))⟩⟩
          case false =>
            subst hlt
            have HLT := Aside0.mk HCD.out.symm
            clear HCD
            go_wp2
            go_roundg (n + 1 - (i + 1))
            case measure => omega
            case rel => exact ⟨i + 1, by omega, by omega, by omega, by first | go_num | (rw [w64 (by omega) (by omega)]; go_num), ⟨.inl (by omega)⟩, ⟨by have h := HT.out; rw [sink, if_neg (by rw [← HXY.out.1, ← HXY.out.2, HLT.out]; decide)] at h; rw [HSW.out, ← h]; exact HR3.out⟩, ⟨HBw.out⟩⟩
    case neg =>
      have hfin : insTo ltI i xs = insTo ltI n xs := by
        rcases HI.out with h | h
        · rw [show i = n by omega]
        · have hx0 : xs = [] := List.eq_nil_of_length_eq_zero (by rw [← HN.out]; exact h)
          have : i = 1 := by omega
          subst this
          subst hx0
          rw [h]
          rfl
      have hRi := HRi.out
      rw [hfin] at hRi
      have HRF := Aside0.mk hRi
      clear hRi
      go_wp2
      first | go_end0 | (refine bodyPost_ret (results_none rfl _ _ _) rfl ?_)
      exact ⟨rfl, HRF.out, HBi.out⟩
set_option maxHeartbeats 8000000 in
set_option maxRecDepth 100000 in
theorem ordNil_calls (w : World) :
    Calls Try.prog 126 #[.slice none 0 0, .int .i64 0, .int .i64 0] w fun e w' => e = .returned (.tuple #[]) ∧ Below w.heap.size w w' := by
  go_enter Try.func126, Try.ntmps126
  go_wp2
  go_loopg [6] 0 (fun gg s8 W => s8 = .int .i64 1 ∧ W = w)
  case atStart => exact ⟨rfl, rfl⟩
  case round =>
    obtain ⟨rfl, rfl⟩ := hrel
    go_wp2
    first | go_end0 | (refine bodyPost_ret (results_none rfl _ _ _) rfl ?_)
    exact ⟨rfl, Below.refl _ _⟩
set_option maxHeartbeats 8000000 in
set_option maxRecDepth 100000 in
theorem bitsLen_calls (n : Nat) (hn : n ≤ 12) (w : World) :
    Calls Try.prog 119 #[.int .u64 (n : Int)] w fun e w' => ∃ r : Int, e = .returned (.int .i64 r) ∧ Below w.heap.size w w' := by
  rcases (show n = 0 ∨ n = 1 ∨ n = 2 ∨ n = 3 ∨ n = 4 ∨ n = 5 ∨ n = 6 ∨ n = 7 ∨ n = 8 ∨ n = 9 ∨ n = 10 ∨ n = 11 ∨ n = 12 by omega) with rfl | rfl | rfl | rfl | rfl | rfl | rfl | rfl | rfl | rfl | rfl | rfl | rfl
  all_goals
    go_enter Try.func119, Try.ntmps119
    go_wp2
    go_ret
    exact ⟨_, rfl, by repeat (first | exact Below.refl _ _ | apply pw_below_drewN | apply below_drew)⟩
set_option maxHeartbeats 8000000 in
set_option maxRecDepth 100000 in
theorem pdq_calls (ad : Option Addr) (n cap : Nat) (l : Int) (w : World) (Q : World → Prop) (hn : n ≤ 12)
    (hi : Calls Try.prog 126 #[.slice ad n cap, .int .i64 0, .int .i64 (n : Int)] w fun e w' => e = .returned (.tuple #[]) ∧ Q w') :
    Calls Try.prog 118 #[.slice ad n cap, .int .i64 0, .int .i64 (n : Int), .int .i64 l] w fun e w' => e = .returned (.tuple #[]) ∧ Q w' := by
  have HI := Aside0.mk hi
  have h1 : (n : Int) ≤ 12 := by omega
  clear hi
  go_enter Try.func118, Try.ntmps118
  go_wp2
  go_loopg [1, 2, 3, 8, 9] 0 (fun gg s1 s2 s3 s8 s9 W => s1 = .int .i64 0 ∧ s2 = .int .i64 (n : Int) ∧ s3 = .int .i64 l ∧ s8 = .bool true ∧ s9 = .bool true ∧ W = w)
  case atStart => exact ⟨rfl, rfl, rfl, rfl, rfl, rfl⟩
  case round =>
    obtain ⟨rfl, rfl, rfl, rfl, rfl, rfl⟩ := hrel
    go_wp2_with (go_at_call 126; refine HI.out.mono ?_; rintro e w2 ⟨rfl, hq⟩; have HQ := Aside0.mk hq; clear hq)
    first | go_end0 | (refine bodyPost_ret (results_none rfl _ _ _) rfl ?_)
    exact ⟨rfl, HQ.out⟩
set_option maxHeartbeats 8000000 in
set_option maxRecDepth 100000 in
theorem sliceSort_calls (ad : Option Addr) (n cap : Nat) (w : World) (Q : World → Prop) (hn : n ≤ 12)
    (hi : ∀ W, Below w.heap.size w W → Calls Try.prog 126 #[.slice ad n cap, .int .i64 0, .int .i64 (n : Int)] W fun e w' => e = .returned (.tuple #[]) ∧ Q w') :
    Calls Try.prog 103 #[.slice ad n cap] w fun e w' => e = .returned (.tuple #[]) ∧ Q w' := by
  have HI := Aside0.mk hi
  have HL := Aside0.mk (bitsLen_calls n hn w)
  have hb : (0 : Int) ≤ (n : Int) := by omega
  have hb2 : (n : Int) < 18446744073709551616 := by omega
  clear hi
  go_enter Try.func103, Try.ntmps103
  go_wp2_with (first | (go_at_call 119; refine HL.out.mono ?_; rintro e w1 ⟨r, rfl, hb1⟩; have HB1 := Aside0.mk hb1; clear hb1) | (go_at_call 118; refine (pdq_calls ad n cap r w1 Q hn (HI.out w1 HB1.out)).mono ?_; rintro e w2 ⟨rfl, hq⟩; have HQ := Aside0.mk hq; clear hq))
  first | go_end0 | (refine bodyPost_ret (results_none rfl _ _ _) rfl ?_)
  exact ⟨rfl, HQ.out⟩
theorem sliceSort_own (B : Nat) (xs : List Int) (v : Value) (w : World) (ok : Nat → Prop)
    (hR : Kd.R (Kd.int .i64) 3 w B ok v xs) (hl : xs.length ≤ 12) :
    Calls Try.prog 103 #[v] w fun e w' => e = .returned (.tuple #[]) ∧ Kd.R (Kd.int .i64) 3 w' B ok v (insTo ltI xs.length xs) ∧ ∃ g, B ≤ g ∧ ButG w w' g := by
  rcases Kd.R_twoS hR with ⟨rfl, rfl⟩ | ⟨g, cap, rfl, hg⟩
  · refine (sliceSort_calls none 0 0 w (fun w' => Below w.heap.size w w') (by decide) (fun W hb => (ordNil_calls W).mono ?_)).mono ?_
    · rintro e w' ⟨rfl, h⟩
      exact ⟨rfl, below_step hb h⟩
    · rintro e w' ⟨rfl, hb⟩
      exact ⟨rfl, Kd.R_below hR hb, B, Nat.le_refl _, (ButG.refl w B).below hb⟩
  · refine (sliceSort_calls (some ⟨g, 0, none⟩) xs.length cap w (fun w' => Kd.R (Kd.int .i64) 3 w' B ok (.slice (some ⟨g, 0, none⟩) xs.length cap) (insTo ltI xs.length xs) ∧ ButG w w' g) hl (fun W hb => (insOrd_calls g cap xs.length B xs W ok (Kd.R_below hR hb)).mono ?_)).mono ?_
    · rintro e w' ⟨rfl, h1, h2⟩
      exact ⟨rfl, h1, ButG.after hb h2⟩
    · rintro e w' ⟨rfl, h1, h2⟩
      exact ⟨rfl, h1, g, hg, h2⟩
def unlessV (b : Bool) (e : Int) : Int := if b then 0 else e
theorem unlessV_f (b : Bool) (e : Int) : dam_unless.f b e = some (unlessV b e) := by cases b <;> rfl
def dam_openValley.f (l0_0 : List S112) (l0_1 : List Int) : Option (List Int × Int) :=
  (dam_CheckValley.f l0_0 l0_1).bind fun c => if c.2 = 0 then (dam_valley_sweep.f l0_0 l0_1 [] 0).bind fun s => if s.1.length ≤ 12 then some (insTo ltI s.1.length s.1, unlessV s.2 12) else none else some ([], c.2)
theorem int_ne_valley : ∀ q, q ∈ 3 :: (Kd.int .i64).E → q ≠ 116 := by
  intro q hq
  have : q = 3 := by simpa [Kd.int, Kd.scalar] using hq
  rw [this]
  decide
set_option maxHeartbeats 8000000 in
set_option maxRecDepth 100000 in
theorem dam_openValley.calls (A0_0 : Option Addr) (c0_0 : Nat) (l0_0 : List S112) (A0_1 : Option Addr) (c0_1 : Nat) (l0_1 : List Int) (r1 : List Int) (r2 : Int) (w : World) (hr0_0 : Kd.C k112 w A0_0 l0_0.length l0_0) (hc0_0 : l0_0.length ≤ c0_0) (hr0_1 : Kd.C (Kd.int .i64) w A0_1 l0_1.length l0_1) (hc0_1 : l0_1.length ≤ c0_1) (h : dam_openValley.f l0_0 l0_1 = some (r1, r2)) :
    Calls Try.prog 72 #[.agg #[.slice A0_0 l0_0.length c0_0, .slice A0_1 l0_1.length c0_1]] w fun e w' => ∃ v0_ : Value, e = .returned (.tuple #[.agg #[.slice A0_0 l0_0.length c0_0, .slice A0_1 l0_1.length c0_1], v0_, .int .i64 r2]) ∧ Kd.R (Kd.int .i64) 3 w' w.heap.size (fun _ => True) v0_ r1 ∧ Below w.heap.size w w' := by
  have hu := Try.underlying116
  have hu1 := Try.underlying39
  have HR0 := Aside0.mk hr0_0
  have HR1 := Aside0.mk hr0_1
  have HC := Aside0.mk (And.intro hc0_0 hc0_1)
  clear hr0_0 hr0_1 hc0_0 hc0_1
  unfold dam_openValley.f at h
  replace h := Option.bind_eq_some_iff.mp h
  obtain ⟨⟨c1, e1⟩, hcv, h⟩ := h
  have HCV := Aside0.mk hcv
  have HOUT := Aside0.mk h
  clear h hcv
  go_enter Try.func72, Try.ntmps72
  go_upto_region 2 with fail
  have hX := blk_alloc (blk_alloc (blk_new w (.cells #[.slice A0_0 l0_0.length c0_0, .slice A0_1 l0_1.length c0_1] 39)) (.cells #[.slice none 0 0, .slice none 0 0] 116)) (.cells #[.slice A0_0 l0_0.length c0_0, .slice A0_1 l0_1.length c0_1] 116)
  have hRC := blk_alloc (blk_new (w.alloc (.cells #[.slice A0_0 l0_0.length c0_0, .slice A0_1 l0_1.length c0_1] 39)) (.cells #[.slice none 0 0, .slice none 0 0] 116)) (.cells #[.slice A0_0 l0_0.length c0_0, .slice A0_1 l0_1.length c0_1] 116)
  have hV := blk_new ((w.alloc (.cells #[.slice A0_0 l0_0.length c0_0, .slice A0_1 l0_1.length c0_1] 39)).alloc (.cells #[.slice none 0 0, .slice none 0 0] 116)) (.cells #[.slice A0_0 l0_0.length c0_0, .slice A0_1 l0_1.length c0_1] 116)
  rw [show (w.alloc (.cells #[.slice A0_0 l0_0.length c0_0, .slice A0_1 l0_1.length c0_1] 39)).heap.size = w.heap.size + 1 from Array.size_push _] at hRC
  rw [show ((w.alloc (.cells #[.slice A0_0 l0_0.length c0_0, .slice A0_1 l0_1.length c0_1] 39)).alloc (.cells #[.slice none 0 0, .slice none 0 0] 116)).heap.size = w.heap.size + 1 + 1 from (Array.size_push _).trans (congrArg (· + 1) (Array.size_push _))] at hV
  have hb1 := below_alloc (below_alloc (below_alloc (Below.refl _ w) (.cells #[.slice A0_0 l0_0.length c0_0, .slice A0_1 l0_1.length c0_1] 39)) (.cells #[.slice none 0 0, .slice none 0 0] 116)) (.cells #[.slice A0_0 l0_0.length c0_0, .slice A0_1 l0_1.length c0_1] 116)
  generalize ((w.alloc (.cells #[.slice A0_0 l0_0.length c0_0, .slice A0_1 l0_1.length c0_1] 39)).alloc (.cells #[.slice none 0 0, .slice none 0 0] 116)).alloc (.cells #[.slice A0_0 l0_0.length c0_0, .slice A0_1 l0_1.length c0_1] 116) = w1 at *
  have hx0 := (blk_cell hX 0).trans rfl
  have hx1 := (blk_cell hX 1).trans rfl
  have HRC := Aside0.mk hRC
  have HV := Aside0.mk hV
  have HB1 := Aside0.mk hb1
  clear hX hRC hV hb1
  go_upto_region 3 with (go_at_call 20; refine (dam_CheckValley.calls A0_0 c0_0 l0_0 A0_1 c0_1 l0_1 c1 e1 _ (Kd.C_below HR0.out HB1.out) HC.out.1 (Kd.C_below HR1.out HB1.out) HC.out.2 HCV.out).mono ?_; rintro e w2 ⟨rfl, hb2⟩; have HB2 := Aside0.mk hb2; clear hb2)
  clear hx0 hx1
  have hv0 := (blk_cell (blk_below HV.out HB2.out) 0).trans rfl
  have hv1 := (blk_cell (blk_below HV.out HB2.out) 1).trans rfl
  have HBW2 := Aside0.mk (below_step HB1.out HB2.out)
  by_cases hz : e1 = 0
  case neg =>
    have hzb : (e1 != 0) = true := bne_iff_ne.2 hz
    have ho := HOUT.out
    rw [if_neg hz] at ho
    simp only [Option.some.injEq, Prod.mk.injEq] at ho
    obtain ⟨rfl, rfl⟩ := ho
    have hrl := blk_below HRC.out HB2.out
    have hy0 := (blk_cell hrl 0).trans rfl
    have hy1 := (blk_cell hrl 1).trans rfl
    have hf0 := blk_frozen hrl 0
    have hf1 := blk_frozen hrl 1
    have HRL := Aside0.mk hrl
    clear hrl hz
    go_wp2
    refine bodyPost_ret (results_ctt rfl _ _ (w.heap.size + 1) 116 #[.slice A0_0 l0_0.length c0_0, .slice A0_1 l0_1.length c0_1] (0, 0) _ rfl (blk_put (blk_put HRL.out 0 _ rfl) 1 _ rfl) Try.underlying116 (by rfl) (by rfl)) rfl ⟨_, rfl, Kd.R_nil _ _ _ _ _, ?_⟩
    exact below_set (below_set HBW2.out (Nat.le_succ _)) (Nat.le_succ _)
  case pos =>
    subst hz
    have ho := HOUT.out
    rw [if_pos rfl] at ho
    replace ho := Option.bind_eq_some_iff.mp ho
    obtain ⟨⟨s1, s2⟩, hsw, ho⟩ := ho
    have hlen : s1.length ≤ 12 := by
      apply Decidable.by_contra
      intro hn
      simp only [if_neg hn] at ho
      exact absurd ho (by simp)
    simp only [if_pos hlen, Option.some.injEq, Prod.mk.injEq] at ho
    obtain ⟨rfl, rfl⟩ := ho
    have HSW := Aside0.mk hsw
    have HLEN := Aside0.mk hlen
    clear hsw hlen HOUT
    go_upto_region 7 with (first | (go_at_call 74; refine (dam_valley_sweep.calls A0_0 c0_0 l0_0 A0_1 c0_1 l0_1 none 0 [] 0 s1 s2 _ (Kd.C_below HR0.out HBW2.out) HC.out.1 (Kd.C_below HR1.out HBW2.out) HC.out.2 (Kd.C_nil _ _) (Nat.le_refl _) HSW.out).mono ?_; rintro e w3 ⟨v3, rfl, hR3, hb3⟩; have HR3 := Aside0.mk hR3; have HB3 := Aside0.mk hb3; clear hR3 hb3) | (go_at_call 103; refine (sliceSort_own w2.heap.size s1 v3 w3 (fun _ => True) HR3.out HLEN.out).mono ?_; rintro e w4 ⟨rfl, hR4, g, hg, hbut⟩; have HR4 := Aside0.mk hR4; have HB4 := Aside0.mk (hbut.toBelow HB3.out hg); clear hR4 hg hbut))
    clear hv0 hv1
    have hb4w := below_weaken HBW2.out HBW2.out.size HB4.out
    have hvb := blk_below (blk_below HV.out HB2.out) HB4.out
    have hrl := blk_below (blk_below HRC.out HB2.out) HB4.out
    have hv0 := (blk_cell hvb 0).trans rfl
    have hv1 := (blk_cell hvb 1).trans rfl
    have hy0 := (blk_cell hrl 0).trans rfl
    have hy1 := (blk_cell hrl 1).trans rfl
    have hf0 := blk_frozen hrl 0
    have hf1 := blk_frozen hrl 1
    have HRL := Aside0.mk hrl
    have HBW4 := Aside0.mk hb4w
    clear hrl hvb hb4w
    go_region_with (go_at_call 64; refine (dam_unless.calls _ _ _ _ (unlessV_f _ _)).mono ?_; rintro e w5 ⟨rfl, ⟨nd, rfl⟩⟩)
    all_goals go_wp2
    all_goals
      have hn := blk_drewN HRL.out (1 + nd)
      have hp1 := blk_put hn 0 (.slice A0_0 l0_0.length c0_0) rfl
      refine bodyPost_ret (results_ctt rfl _ _ (w.heap.size + 1) 116 #[.slice A0_0 l0_0.length c0_0, .slice A0_1 l0_1.length c0_1] (0, 0) _ rfl (blk_put hp1 1 _ rfl) Try.underlying116 (by rfl) (by rfl)) rfl ⟨_, rfl, ?_, ?_⟩
      · exact Kd.R_lower (Kd.R_set (Kd.R_set (Kd.R_drewN HR4.out (1 + nd)) hn int_ne_valley 0 _) hp1 int_ne_valley 1 _) HBW2.out.size
      · exact below_set (below_set (pw_below_drewN HBW4.out _) (Nat.le_succ _)) (Nat.le_succ _)
def slices_Clone_int_int.f (l0 : List Int) : Option (List Int) := if l0.length < 17592186044416 then some l0 else none
set_option maxHeartbeats 8000000 in
set_option maxRecDepth 100000 in
theorem slices_Clone_int_int.calls (A0 : Option Addr) (c0 : Nat) (l0 : List Int) (r : List Int) (w : World) (hr0 : Kd.C (Kd.int .i64) w A0 l0.length l0) (hc0 : l0.length ≤ c0) (h : slices_Clone_int_int.f l0 = some r) :
    Calls Try.prog 73 #[.slice A0 l0.length c0] w fun e w' => ∃ v0_ : Value, e = .returned (v0_) ∧ Kd.R (Kd.int .i64) 3 w' w.heap.size (fun _ => True) v0_ r ∧ Below w.heap.size w w' := by
  have HR0 := Aside0.mk hr0
  have HC0 := Aside0.mk hc0
  have HB := Aside0.mk (Below.refl w.heap.size w)
  have hh : l0.length < 17592186044416 ∧ l0 = r := by
    unfold slices_Clone_int_int.f at h
    split at h
    · exact ⟨by assumption, Option.some.inj h⟩
    · exact absurd h (by simp)
  clear h
  obtain ⟨hl, rfl⟩ := hh
  have LM := Aside0.mk hl
  clear hl
  have qT : ∀ (w : World) (a : Option Addr) (n c n' c' : Nat), (binOp .eql 22 (.slice a n c) (.slice none n' c')).run Try.prog w = .ok (.bool a.isNone) w := fun w a n c n' c' => Lib.run_eql_slice_nil w _ _ a n c n' c' Try.underlying22
  cases A0 with
  | none =>
    have hz : l0 = [] := by
      rcases Nat.eq_zero_or_pos l0.length with h0 | h0
      · exact List.eq_nil_of_length_eq_zero h0
      · obtain ⟨ad, he, _⟩ := hr0.2.2 h0
        exact absurd he (by simp)
    subst hz
    clear hr0 hc0
    go_enter Try.func73, Try.ntmps73
    go_wp2
    go_ret
    exact ⟨_, rfl, Kd.R_nil _ _ _ _ _, HB.out⟩
  | some ad =>
    clear hr0 hc0
    obtain ⟨y1, hy1⟩ : ∃ y_ : List Int, y_ = ([] : List Int) := ⟨_, rfl⟩
    have Ny1 := Aside0.mk hy1
    clear hy1
    obtain ⟨y2, hy2⟩ : ∃ y_ : List Int, y_ = y1 ++ l0 := ⟨_, rfl⟩
    have Ny2 := Aside0.mk hy2
    clear hy2
    go_enter Try.func73, Try.ntmps73
    go_wp2_with (first | ((with_reducible refine gate_dst (N := 5) rfl ?_); refine Kd.R_lit (Kd.int .i64) _ 3 ?hg (N := 5) ?hd (xs := ([] : List Int)) (inner := []) (ok := fun _ => True) (okp := fun _ => True) ?hr ?hp (fun _ hk => hk) trivial (Below.refl _ _) (Nat.le_refl _) (by simp) ?_; (case hd => rfl); (case hg => rfl); (case hr => first | (go_simp; done) | (go_simp; rfl)); (case hp => exact (Reps.none _ _)); intro v356 w3 ho4 hb hg_ hnew_; clear hg_ hnew_; rw [← Ny1.out] at ho4; have n0_ := Aside0.mk (Kd.R_lower ho4 (below_size HB.out)); have n1_ := Aside0.mk (below_step HB.out hb); clear HB; have HO357 := n0_; have HB := n1_; clear n0_ n1_; clear hb ho4) | ((with_reducible refine gate_builtin (b := .append) (xs := #[.tmp 5, .tmp 6]) rfl ?_); at_builtin; refine Kd.R_append_rows (Kd.int .i64) (w0 := w) w.heap.size rfl (.tmp 5) (.tmp 6) 22 3 (.int .i64 0) 8 rfl Try.underlying22 info3 rfl (by decide) (by omega) v356 y1 l0 _ _ _ (fun _ => True) (fun _ => False) rfl rfl ?aO ?aR (fun _ _ h => h) (fun _ h => h.elim) ?aF ?aB ?aS ?aL ?_; (case aR => exact (Kd.C_below HR0.out HB.out)); (case aB => exact HB.out); (case aF => exact (fun _ _ => trivial)); (case aO => exact HO357.out); (case aS => exact (below_size HB.out)); (case aL => have := LM.out; rw [Ny1.out]; simp only [List.length_nil]; omega); intro v374 w5 ho hb hg hat; rw [← Ny2.out] at ho; have n0_ := Aside0.mk (hb); have n1_ := Aside0.mk (ho); clear HB; clear HO357; have HB := n0_; have HO375 := n1_; clear n0_ n1_; clear ho hb hg hat))
    go_ret
    exact ⟨_, rfl, by have := HO375.out; rw [Ny2.out, Ny1.out] at this; simpa using this, HB.out⟩
def coverGo (ss : List S112) (hs : List Int) (np : Nat) : Nat → List Int → Nat → Option (List Int)
  | 0, _, _ => none
  | k + 1, out, i =>
    if out.length < np then (dam_valley_sweep.f ss hs (out ++ [(i : Int)]) ((i : Int) + 1)).bind fun s => coverGo ss hs np k (if s.2 = true ∧ (out ++ [(i : Int)]).length + s.1.length ≤ np then out ++ [(i : Int)] else out) (i + 1)
    else some out
def dam_CoverOf.f (k : Nat) (l0_0 : List S112) (l0_1 : List Int) : Option (List Int × Int) :=
  (dam_openValley.f l0_0 l0_1).bind fun o => if o.2 = 0 then (coverGo l0_0 l0_1 o.1.length k [] 0).bind fun l => some (l, 0) else some ([], o.2)
theorem openValley_small {ss : List S112} {hs : List Int} {r : List Int × Int} (h : dam_openValley.f ss hs = some r) : r.1.length ≤ 12 := by
  unfold dam_openValley.f at h
  obtain ⟨c, _, h⟩ := Option.bind_eq_some_iff.mp h
  split at h
  · obtain ⟨s, _, h⟩ := Option.bind_eq_some_iff.mp h
    split at h
    · obtain rfl := Option.some.inj h
      simpa [insTo_len] using by assumption
    · exact absurd h (by simp)
  · obtain rfl := Option.some.inj h
    simp
theorem sweep_some {ss : List S112} {hs l : List Int} {a : Int} {r : List Int × Bool} (h : dam_valley_sweep.f ss hs l a = some r) : a ≤ (ss.length : Int) ∧ r.1.length ≤ 40 := by
  unfold dam_valley_sweep.f at h
  split at h
  · rename_i hc
    refine ⟨hc.2.2.2.2, ?_⟩
    have hgo : ∀ (srt : List Int) (e : Int) (out : List Int) (n : Nat), out.length + srt.length ≤ n → (sweepGo ss hs a.toNat e out srt).1.length ≤ n := by
      intro srt
      induction srt with
      | nil => intro e out n hn; simp only [sweepGo]; simpa using hn
      | cons x t ih =>
        intro e out n hn
        simp only [List.length_cons] at hn
        unfold sweepGo
        split
        · exact ih _ _ _ (by omega)
        · split
          · simp
          · exact ih _ _ _ (by simp; omega)
    have := Option.some.inj h
    subst this
    have hl := leftTo_len ss hs l hs.length
    have hc2 := hc.2.1
    exact hgo _ _ _ _ (by rw [show (stabS (byHouse hs) (leftTo ss hs l hs.length).length (leftTo ss hs l hs.length)).length = (leftTo ss hs l hs.length).length from (stabS_spec (fun a => hs.getD a.toNat 0) _).1.length_eq]; simp; omega)
  · exact absurd h (by simp)
set_option maxHeartbeats 8000000 in
set_option maxRecDepth 100000 in
theorem dam_CoverOf.calls (k : Nat) (A0_0 : Option Addr) (c0_0 : Nat) (l0_0 : List S112) (A0_1 : Option Addr) (c0_1 : Nat) (l0_1 : List Int) (r1 : List Int) (r2 : Int) (w : World) (hr0_0 : Kd.C k112 w A0_0 l0_0.length l0_0) (hc0_0 : l0_0.length ≤ c0_0) (hr0_1 : Kd.C (Kd.int .i64) w A0_1 l0_1.length l0_1) (hc0_1 : l0_1.length ≤ c0_1) (h : dam_CoverOf.f k l0_0 l0_1 = some (r1, r2)) :
    Calls Try.prog 22 #[.agg #[.slice A0_0 l0_0.length c0_0, .slice A0_1 l0_1.length c0_1]] w fun e w' => ∃ v0_ : Value, e = .returned (.tuple #[v0_, .int .i64 r2]) ∧ Kd.R (Kd.int .i64) 3 w' w.heap.size (fun _ => True) v0_ r1 ∧ Below w.heap.size w w' := by
  have hu := Try.underlying116
  have hu1 := Try.underlying39
  have HR0 := Aside0.mk hr0_0
  have HR1 := Aside0.mk hr0_1
  have HC := Aside0.mk (And.intro hc0_0 hc0_1)
  clear hr0_0 hr0_1 hc0_0 hc0_1
  unfold dam_CoverOf.f at h
  replace h := Option.bind_eq_some_iff.mp h
  obtain ⟨⟨pk, e1⟩, hov, h⟩ := h
  have HOV := Aside0.mk hov
  have HOUT := Aside0.mk h
  clear h hov
  go_enter Try.func22, Try.ntmps22
  go_upto_region 1 with fail
  have hX := blk_new w (.cells #[.slice A0_0 l0_0.length c0_0, .slice A0_1 l0_1.length c0_1] 39)
  have hb1 := below_alloc (Below.refl _ w) (.cells #[.slice A0_0 l0_0.length c0_0, .slice A0_1 l0_1.length c0_1] 39)
  generalize w.alloc (.cells #[.slice A0_0 l0_0.length c0_0, .slice A0_1 l0_1.length c0_1] 39) = w1 at *
  have hx0 := (blk_cell hX 0).trans rfl
  have hx1 := (blk_cell hX 1).trans rfl
  have HB1 := Aside0.mk hb1
  clear hX hb1
  go_upto_region 2 with (go_at_call 72; refine (dam_openValley.calls A0_0 c0_0 l0_0 A0_1 c0_1 l0_1 pk e1 _ (Kd.C_below HR0.out HB1.out) HC.out.1 (Kd.C_below HR1.out HB1.out) HC.out.2 HOV.out).mono ?_; rintro e w2 ⟨v2, rfl, hR2, hb2⟩; have HR2 := Aside0.mk hR2; have HB2 := Aside0.mk hb2; clear hR2 hb2)
  clear hx0 hx1
  obtain ⟨A2, c2, e2, hc2, hC2⟩ := Kd.R_reads HR2.out
  subst e2
  have hX := blk_new w2 (.cells #[.slice A0_0 l0_0.length c0_0, .slice A0_1 l0_1.length c0_1] 116)
  have hb3 := below_alloc (below_step HB1.out HB2.out) (.cells #[.slice A0_0 l0_0.length c0_0, .slice A0_1 l0_1.length c0_1] 116)
  generalize w2.alloc (.cells #[.slice A0_0 l0_0.length c0_0, .slice A0_1 l0_1.length c0_1] 116) = w3 at *
  generalize w2.heap.size = X at *
  have HX := Aside0.mk hX
  have HB3 := Aside0.mk hb3
  have hpm : pk.length ≤ 12 := openValley_small HOV.out
  clear hX hb3 hc2 hC2 HR2
  by_cases hz : e1 = 0
  case neg =>
    have hzb : (e1 != 0) = true := bne_iff_ne.2 hz
    have ho := HOUT.out
    rw [if_neg hz] at ho
    simp only [Option.some.injEq, Prod.mk.injEq] at ho
    obtain ⟨rfl, rfl⟩ := ho
    clear hz
    go_wp2
    refine bodyPost_ret (results_tmp2 rfl _ _ _) rfl ⟨_, rfl, Kd.R_nil _ _ _ _ _, HB3.out⟩
  case pos =>
    subst hz
    have ho := HOUT.out
    rw [if_pos rfl] at ho
    replace ho := Option.bind_eq_some_iff.mp ho
    obtain ⟨l, hgo, ho⟩ := ho
    simp only [Option.some.injEq, Prod.mk.injEq] at ho
    obtain ⟨rfl, rfl⟩ := ho
    have HGO := Aside0.mk hgo
    have HB0 := Aside0.mk (Below.refl w3.heap.size w3)
    clear hgo HOUT
    go_wp2
    go_loopg [7, 8] k (fun gg s7 s8 W => ∃ (i kk : Nat) (out : List Int), kk ≤ gg ∧ s8 = .int .i64 i ∧ Aside0 (Kd.R (Kd.int .i64) 3 W w3.heap.size (fun _ => True) s7 out) ∧ Aside0 (out.length ≤ i) ∧ Aside0 (coverGo l0_0 l0_1 pk.length kk out i = some l) ∧ Aside0 (Below w3.heap.size w3 W))
    case atStart => exact ⟨0, k, [], Nat.le_refl _, by first | rfl | go_num, ⟨Kd.R_nil _ _ _ _ _⟩, ⟨Nat.le_refl _⟩, HGO, HB0⟩
    case round =>
      obtain ⟨i, kk, out, hkk, rfl, HO, HOL, HG, HB⟩ := hrel
      clear HB0 HGO
      obtain ⟨wB, hwB⟩ : ∃ wB, wB = wr := ⟨_, rfl⟩
      subst hwB
      obtain ⟨A7, c7, e7, hc7, hC7⟩ := Kd.R_reads HO.out
      subst e7
      have hom : out.length ≤ 9223372036854775807 := hC7.2.1
      have HC7 := Aside0.mk (And.intro hc7 hC7)
      clear hc7 hC7
      cases kk with
      | zero => exact absurd HG.out (by simp [coverGo])
      | succ kk =>
      have hg := HG.out
      unfold coverGo at hg
      by_cases hlt : out.length < pk.length
      case neg =>
        rw [if_neg hlt] at hg
        obtain rfl := Option.some.inj hg
        have hltz : ¬ (out.length : Int) < (pk.length : Int) := by omega
        clear hlt hg
        go_wp2
        refine bodyPost_ret (results_tmp2 rfl _ _ _) rfl ⟨_, rfl, Kd.R_lower HO.out HB3.out.size, below_weaken HB3.out HB3.out.size HB.out⟩
      case pos =>
        rw [if_pos hlt] at hg
        replace hg := Option.bind_eq_some_iff.mp hg
        obtain ⟨⟨s1, s2⟩, hsw, hg⟩ := hg
        obtain ⟨hle1, hle2⟩ := sweep_some hsw
        have hsm : l0_0.length ≤ 9223372036854775807 := HR0.out.2.1
        have HSW := Aside0.mk hsw
        have HGN := Aside0.mk hg
        have hltz : (out.length : Int) < (pk.length : Int) := by omega
        have HCL := Aside0.mk (show slices_Clone_int_int.f out = some out by unfold slices_Clone_int_int.f; rw [if_pos (by omega)])
        clear hsw hg hlt
        have HBw := Aside0.mk (below_weaken HB3.out HB3.out.size HB.out)
        obtain ⟨nw, hnw⟩ : ∃ nw, nw = out ++ [(i : Int)] := ⟨_, rfl⟩
        have hnl : nw.length = out.length + 1 := by rw [hnw]; simp
        have HNL := Aside0.mk hnl
        have HNW := Aside0.mk hnw
        have hsw := HSW.out
        have hgn := HGN.out
        rw [← hnw] at hsw hgn
        have HSW := Aside0.mk hsw
        have HGN := Aside0.mk hgn
        clear hnw hnl hsw hgn
        go_upto_region 9 with (first | (go_at_call 73; refine (slices_Clone_int_int.calls A7 c7 out out _ HC7.out.2 HC7.out.1 HCL.out).mono ?_; rintro e w5 ⟨v5, rfl, hR5, hb5⟩; have HO5 := Aside0.mk hR5; have HB5 := Aside0.mk hb5; clear hR5 hb5) | ((with_reducible refine gate_builtin (b := .append) (xs := #[.tmp 29, .tmp 31]) rfl ?_); at_builtin; refine Kd.R_append (Kd.int .i64) (w0 := wB) wB.heap.size rfl (.tmp 29) (.tmp 31) 22 3 (.int .i64 0) 8 rfl Try.underlying22 info3 rfl (by decide) (by omega) v5 out (i : Int) [.int .i64 (i : Int)] (fun _ => True) (fun _ => False) rfl rfl ?aP (fun _ hk => hk.elim) ?aF ?aO ?aB ?aS ?aL ?_; (case aP => exact rfl); (case aB => exact (bel HB5.out)); (case aF => exact (fun _ _ => trivial)); (case aO => exact (krl HO5.out)); (case aS => exact (below_size (bel HB5.out))); (case aL => omega); intro v9 w6 ho hb hg hat; rw [← HNW.out] at ho; have HB6 := Aside0.mk hb; have HO6 := Aside0.mk ho; clear ho hb hg hat))
        obtain ⟨A9, c9, e9, hc9, hC9⟩ := Kd.R_reads HO6.out
        subst e9
        have HC9 := Aside0.mk (And.intro hc9 hC9)
        clear hc9 hC9
        have hbw6 := below_weaken HB.out HB.out.size HB6.out
        have HBw6 := Aside0.mk (below_weaken HB3.out HB3.out.size hbw6)
        have hx0 := (blk_cell (blk_below HX.out hbw6) 0).trans rfl
        have hx1 := (blk_cell (blk_below HX.out hbw6) 1).trans rfl
        clear hbw6
        go_upto_region 10 with (go_at_call 74; refine (dam_valley_sweep.calls A0_0 c0_0 l0_0 A0_1 c0_1 l0_1 A9 c9 nw ((i : Int) + 1) s1 s2 _ (Kd.C_below HR0.out HBw6.out) HC.out.1 (Kd.C_below HR1.out HBw6.out) HC.out.2 HC9.out.2 HC9.out.1 HSW.out).mono ?_; rintro e w7 ⟨v7, rfl, hR7, hb7⟩; have HR7 := Aside0.mk hR7; have HB7 := Aside0.mk hb7; clear hR7 hb7)
        obtain ⟨A10, c10, e10, hc10, hC10⟩ := Kd.R_reads HR7.out
        subst e10
        have HOk := Aside0.mk (Kd.R_below HO.out (below_step HB6.out HB7.out))
        have HOn := Aside0.mk (Kd.R_lower (Kd.R_below HO6.out HB7.out) HB.out.size)
        have HBn := Aside0.mk (below_weaken HB.out HB.out.size (below_step HB6.out HB7.out))
        have hs1 : s1.length ≤ 40 := hle2
        have hnl := HNL.out
        obtain ⟨m, hm⟩ : ∃ m, m = nw.length := ⟨_, rfl⟩
        have hmb : m ≤ 13 := by omega
        obtain ⟨q, hq⟩ : ∃ q, q = s1.length := ⟨_, rfl⟩
        have hqb : q ≤ 40 := by omega
        have hgn := HGN.out
        try simp only at hgn
        rw [← hm, ← hq] at hgn
        have HM := Aside0.mk hm
        have HQ := Aside0.mk hq
        have HGN := Aside0.mk hgn
        rw [← hm] at HOn
        rw [← hm, ← hq]
        clear hx0 hx1 hc10 hC10 hgn hnl hle2 hs1 hm hq
        have hil : out.length + 1 ≤ i + 1 := by have := HOL.out; omega
        cases s2
        case false =>
          have hgn := HGN.out
          rw [if_neg (fun hh => absurd hh.1 (by decide))] at hgn
          have HGN2 := Aside0.mk hgn
          clear HGN
          clear hgn
          go_wp2
          go_roundg kk
          case measure => omega
          case rel => exact ⟨i + 1, kk, out, Nat.le_refl _, by go_num, HOk, ⟨by omega⟩, HGN2, HBn⟩
        case true =>
          by_cases hle : m + q ≤ pk.length
          · have hgn := HGN.out
            rw [if_pos ⟨rfl, hle⟩] at hgn
            have hlez : (m : Int) + (q : Int) ≤ (pk.length : Int) := by omega
            have HGN2 := Aside0.mk hgn
            clear HGN
            have hnl : nw.length ≤ i + 1 := by have := HNL.out; omega
            clear hgn hle
            go_wp2
            go_roundg kk
            case measure => omega
            case rel => exact ⟨i + 1, kk, nw, Nat.le_refl _, by go_num, HOn, ⟨hnl⟩, HGN2, HBn⟩
          · have hgn := HGN.out
            rw [if_neg (fun hh => hle hh.2)] at hgn
            have hlez : ¬ (m : Int) + (q : Int) ≤ (pk.length : Int) := by omega
            have HGN2 := Aside0.mk hgn
            clear HGN
            clear hgn hle
            go_wp2
            go_roundg kk
            case measure => omega
            case rel => exact ⟨i + 1, kk, out, Nat.le_refl _, by go_num, HOk, ⟨by omega⟩, HGN2, HBn⟩
def guidevanebase_Ints.l0 : Nat → List Int → List Int → Int → Option (Bool)
  | 0, _, _, _ => none
  | k + 1, x0, x1, x5 => if x5 < (x0.length : Int) then (if 0 ≤ x5 then (if x5 < (x1.length : Int) then (if (rd x0 x5) = (rd x1 x5) then (guidevanebase_Ints.l0 k x0 x1 (wrap64 (x5 + 1))) else (some false)) else (none)) else (none)) else (some true)
def guidevanebase_Ints.f (k : Nat) (l0 : List Int) (l1 : List Int) : Option (Bool) := if (l0.length : Int) = (l1.length : Int) then (guidevanebase_Ints.l0 k l0 l1 0) else (some false)
set_option maxHeartbeats 8000000 in
set_option maxRecDepth 100000 in
theorem guidevanebase_Ints.calls (k : Nat) (A0 : Option Addr) (c0 : Nat) (l0 : List Int) (A1 : Option Addr) (c1 : Nat) (l1 : List Int) (r : Bool) (w : World) (hr0 : Kd.C (Kd.int .i64) w A0 l0.length l0) (hc0 : l0.length ≤ c0) (hr1 : Kd.C (Kd.int .i64) w A1 l1.length l1) (hc1 : l1.length ≤ c1) (h : guidevanebase_Ints.f k l0 l1 = some r) :
    Calls Try.prog 26 #[.slice A0 l0.length c0, .slice A1 l1.length c1] w fun e w' => e = .returned (.bool r) ∧ Drawn0 w w' := by
  have HR0 := Aside0.mk hr0
  have HC0 := Aside0.mk hc0
  clear hr0 hc0
  have HR1 := Aside0.mk hr1
  have HC1 := Aside0.mk hc1
  clear hr1 hc1
  have H : (if (l0.length : Int) = (l1.length : Int) then (guidevanebase_Ints.l0 k l0 l1 0) else (some false)) = some r := h
  clear h
  by_cases c3 : (l0.length : Int) = (l1.length : Int)
  · rw [if_pos c3] at H
    have c3b0 : ((l0.length : Int) == (l1.length : Int)) = true := beq_iff_eq.mpr c3
    have c3b1 : ((l0.length : Int) != (l1.length : Int)) = false := bne_eq_false_iff_eq.mpr c3
    have c3b2 : (l0.length == l1.length) = true := by first | simpa using c3 | (simp at c3 ⊢; omega)
    clear c3
    have H' := Aside0.mk H
    clear H
    go_enter Try.func26, Try.ntmps26
    go_wp2
    repeat (go_quiet (fail); try go_wp2)
    go_loopg [5] k (fun kq v5 w' => ∃ (x5_1 : Int), v5 = .int .i64 x5_1 ∧ Aside0 (guidevanebase_Ints.l0 kq l0 l1 x5_1 = some r) ∧ Aside0 (kq ≤ k) ∧ Drawn0 w w')
    case atStart => exact ⟨(0), (by first | rfl | (simp; done) | (simp [*]; done)), H', ⟨Nat.le_refl _⟩, by repeat (first | exact Drawn0.refl _ | apply Drawn0.step)⟩
    case round =>
      clear H'
      try clear c1
      try clear c2
      try clear p2
      try clear c3
      try clear c3b0
      try clear c3b1
      try clear c3b2
      obtain ⟨x5_1, rfl, HA, HK1, ⟨m1, rfl⟩⟩ := hrel
      cases gk with
      | zero => exact absurd HA.out (by simp [guidevanebase_Ints.l0])
      | succ k1 =>
        have H := HA.out
        clear HA
        simp only [guidevanebase_Ints.l0] at H
        by_cases c4 : x5_1 < (l0.length : Int)
        · rw [if_pos c4] at H
          have c4b0 : decide (x5_1 < (l0.length : Int)) = true := decide_eq_true c4
          clear c4
          by_cases c5 : 0 ≤ x5_1
          · rw [if_pos c5] at H
            have c5b0 : decide (0 ≤ x5_1) = true := decide_eq_true c5
            clear c5
            by_cases c6 : x5_1 < (l1.length : Int)
            · rw [if_pos c6] at H
              have c6b0 : decide (x5_1 < (l1.length : Int)) = true := decide_eq_true c6
              clear c6
              by_cases c7 : (rd l0 x5_1) = (rd l1 x5_1)
              · rw [if_pos c7] at H
                have c7b0 : ((rd l0 x5_1) == (rd l1 x5_1)) = true := beq_iff_eq.mpr c7
                have c7b1 : ((rd l0 x5_1) != (rd l1 x5_1)) = false := bne_eq_false_iff_eq.mpr c7
                clear c7
                have H' := Aside0.mk H
                clear H
                have p78001 : 0 ≤ (x5_1 : Int) := of_decide_eq_true asm_
                have q78001 : x5_1 < (l0.length : Int) := of_decide_eq_true asm_
                obtain ⟨ad78001, e78001, hx78001_0⟩ := Kd.at_int HR0.out x5_1 p78001 q78001
                cases e78001
                replace p78001 := eq_true p78001
                replace q78001 := eq_true q78001
                have p78002 : 0 ≤ (x5_1 : Int) := of_decide_eq_true asm_
                have q78002 : x5_1 < (l1.length : Int) := of_decide_eq_true asm_
                obtain ⟨ad78002, e78002, hx78002_0⟩ := Kd.at_int HR1.out x5_1 p78002 q78002
                cases e78002
                replace p78002 := eq_true p78002
                replace q78002 := eq_true q78002
                go_wp2
                repeat (go_quiet (fail); try go_wp2)
                go_roundg k1
                case measure => have := HK1.out; omega
                case rel => exact ⟨(wrap64 (x5_1 + 1)), (by first | rfl | (simp; done) | (simp [*]; done)), H', ⟨by have := HK1.out; omega⟩, by repeat (first | exact Drawn0.refl _ | apply Drawn0.step)⟩
              · rw [if_neg c7] at H
                have c7b0 : ((rd l0 x5_1) == (rd l1 x5_1)) = false := beq_eq_false_iff_ne.mpr c7
                have c7b1 : ((rd l0 x5_1) != (rd l1 x5_1)) = true := bne_iff_ne.mpr c7
                obtain rfl := Option.some.inj H
                have p78001 : 0 ≤ (x5_1 : Int) := of_decide_eq_true asm_
                have q78001 : x5_1 < (l0.length : Int) := of_decide_eq_true asm_
                obtain ⟨ad78001, e78001, hx78001_0⟩ := Kd.at_int HR0.out x5_1 p78001 q78001
                cases e78001
                replace p78001 := eq_true p78001
                replace q78001 := eq_true q78001
                have p78002 : 0 ≤ (x5_1 : Int) := of_decide_eq_true asm_
                have q78002 : x5_1 < (l1.length : Int) := of_decide_eq_true asm_
                obtain ⟨ad78002, e78002, hx78002_0⟩ := Kd.at_int HR1.out x5_1 p78002 q78002
                cases e78002
                replace p78002 := eq_true p78002
                replace q78002 := eq_true q78002
                go_wp2
                repeat (go_quiet (fail); try go_wp2)
                go_ret
                exact ⟨by first | rfl | (simp; done) | (simp [*]; done), by repeat (first | exact Drawn0.refl _ | apply Drawn0.step)⟩
            · rw [if_neg c6] at H
              exact absurd H (by simp)
          · rw [if_neg c5] at H
            exact absurd H (by simp)
        · rw [if_neg c4] at H
          have c4b0 : decide (x5_1 < (l0.length : Int)) = false := decide_eq_false c4
          clear c4
          obtain rfl := Option.some.inj H
          go_wp2
          repeat (go_quiet (fail); try go_wp2)
          go_ret
          exact ⟨by first | rfl | (simp; done) | (simp [*]; done), by repeat (first | exact Drawn0.refl _ | apply Drawn0.step)⟩
  · rw [if_neg c3] at H
    have c3b0 : ((l0.length : Int) == (l1.length : Int)) = false := beq_eq_false_iff_ne.mpr c3
    have c3b1 : ((l0.length : Int) != (l1.length : Int)) = true := bne_iff_ne.mpr c3
    have c3b2 : (l0.length == l1.length) = false := by first | simpa using c3 | (simp at c3 ⊢; omega)
    obtain rfl := Option.some.inj H
    go_enter Try.func26, Try.ntmps26
    go_wp2
    repeat (go_quiet (fail); try go_wp2)
    go_ret
    exact ⟨by first | rfl | (simp; done) | (simp [*]; done), by repeat (first | exact Drawn0.refl _ | apply Drawn0.step)⟩
def season0 (q : Int) : Int := if q = 0 then 1 else if q = 2 then -1 else 0
def season1 (q : Int) : Int := if q = 1 then 1 else if q = 3 then -1 else 0
def dam_terms.f (a0_0 : Int) (a0_1 : Int) (a0_2 : Int) : Option (Int × Int × Int × Int × Int) := if 0 ≤ a0_0 ∧ a0_0 ≤ 36000 then some (1, a0_1, season0 (a0_0 % 360 * 4 / 360), season1 (a0_0 % 360 * 4 / 360), a0_0 / 360) else none
set_option maxHeartbeats 8000000 in
set_option maxRecDepth 100000 in
theorem dam_terms.calls (a0_0 : Int) (a0_1 : Int) (a0_2 : Int) (r1 : Int) (r2 : Int) (r3 : Int) (r4 : Int) (r5 : Int) (w : World) (h : dam_terms.f a0_0 a0_1 a0_2 = some (r1, r2, r3, r4, r5)) :
    Calls Try.prog 77 #[.agg #[.int .i64 a0_0, .int .i64 a0_1, .int .i64 a0_2]] w fun e w' => e = .returned (.agg #[.int .i64 r1, .int .i64 r2, .int .i64 r3, .int .i64 r4, .int .i64 r5]) ∧ Below w.heap.size w w' := by
  have hu := Try.underlying53
  have hu2 := Try.underlying54
  have hu3 := Try.underlying151
  have hu4 := Try.underlying152
  unfold dam_terms.f at h
  split at h
  case isFalse => exact absurd h (by simp)
  case isTrue hb =>
    obtain ⟨hb0, hb1⟩ := hb
    simp only [Option.some.injEq, Prod.mk.injEq] at h
    obtain ⟨rfl, rfl, h3, h4, rfl⟩ := h
    have i0 : ∀ w, (Instr.index 152 (.agg #[.int .i64 1, .int .i64 0, .int .i64 0, .int .i64 1, .int .i64 (-1), .int .i64 0, .int .i64 0, .int .i64 (-1)]) (.int .i64 0)).run Try.prog w = .ok (.agg #[.int .i64 1, .int .i64 0]) w := fun _ => by kernel_rfl
    have i1 : ∀ w, (Instr.index 152 (.agg #[.int .i64 1, .int .i64 0, .int .i64 0, .int .i64 1, .int .i64 (-1), .int .i64 0, .int .i64 0, .int .i64 (-1)]) (.int .i64 1)).run Try.prog w = .ok (.agg #[.int .i64 0, .int .i64 1]) w := fun _ => by kernel_rfl
    have i2 : ∀ w, (Instr.index 152 (.agg #[.int .i64 1, .int .i64 0, .int .i64 0, .int .i64 1, .int .i64 (-1), .int .i64 0, .int .i64 0, .int .i64 (-1)]) (.int .i64 2)).run Try.prog w = .ok (.agg #[.int .i64 (-1), .int .i64 0]) w := fun _ => by kernel_rfl
    have i3 : ∀ w, (Instr.index 152 (.agg #[.int .i64 1, .int .i64 0, .int .i64 0, .int .i64 1, .int .i64 (-1), .int .i64 0, .int .i64 0, .int .i64 (-1)]) (.int .i64 3)).run Try.prog w = .ok (.agg #[.int .i64 0, .int .i64 (-1)]) w := fun _ => by kernel_rfl
    have hq : a0_0 % 360 * 4 / 360 = 0 ∨ a0_0 % 360 * 4 / 360 = 1 ∨ a0_0 % 360 * 4 / 360 = 2 ∨ a0_0 % 360 * 4 / 360 = 3 := by omega
    rcases hq with hq | hq | hq | hq
    all_goals
      rw [hq] at h3 h4
      have h3' : r3 = _ := h3.symm
      have h4' : r4 = _ := h4.symm
      simp only [season0, season1] at h3' h4'
      subst h3' h4'
      clear h3 h4
      go_enter Try.func77, Try.ntmps77
      go_wp2
      refine bodyPost_ret (v := .agg #[.int .i64 1, .int .i64 a0_1, .int .i64 _, .int .i64 _, .int .i64 (a0_0 / 360)]) (by simp [results, Try.results77, go_sem]) rfl ⟨rfl, ?_⟩
      exact below_alloc (below_alloc (below_alloc (Below.refl _ _) _) _) _
def dam_isSized.f (a0 : Int) (a1 : Int) : Option (Bool) := (dam_within.f a0 (wrap64 (-a1)) a1).bind fun t234001 => (some t234001)
set_option maxHeartbeats 8000000 in
set_option maxRecDepth 100000 in
theorem dam_isSized.calls (a0 : Int) (a1 : Int) (r : Bool) (w : World) (h : dam_isSized.f a0 a1 = some r) :
    Calls Try.prog 78 #[.int .i64 a0, .int .i64 a1] w fun e w' => e = .returned (.bool r) ∧ Drawn0 w w' := by
  have H : ((dam_within.f a0 (wrap64 (-a1)) a1).bind fun t234001 => (some t234001)) = some r := h
  clear h
  replace H := Option.bind_eq_some_iff.mp H
  obtain ⟨t234001, A30, H⟩ := H
  replace H : (some t234001) = some r := H
  have A3 := Aside0.mk A30
  clear A30
  obtain rfl := Option.some.inj H
  go_enter Try.func78, Try.ntmps78
  go_wp2_with (first | ((with_reducible refine gate_callee (f := 65) rfl ?_); refine goesL_ (some 9) rfl rfl Try.func65 (by kernel_rfl) rfl #[.int .i64 a0, .int .i64 (wrap64 (-a1)), .int .i64 a1] rfl mpa ?_; (with_reducible refine (dam_within.calls a0 (wrap64 (-a1)) a1 t234001 _ A3.out).mono ?_); rintro e w' ⟨rfl, ⟨nd, rfl⟩⟩; refine ⟨_, rfl, ?_⟩))
  go_ret
  exact ⟨by first | rfl | (simp; done) | (simp [*]; done), by repeat (first | exact Drawn0.refl _ | apply Drawn0.step)⟩
def dam_CheckReading.f (a0_0 : Int) (a0_1 : Int) (a0_2 : Int) : Option (Int) := (dam_within.f a0_0 0 36000).bind fun t99002 => (if t99002 = true then ((dam_isSized.f a0_1 50).bind fun t99003 => (if t99003 = true then ((dam_isSized.f a0_2 2000).bind fun t99004 => ((dam_unless.f t99004 2).bind fun t99005 => (some t99005))) else ((dam_unless.f false 2).bind fun t99006 => (some t99006)))) else ((dam_unless.f false 2).bind fun t99007 => (some t99007)))
set_option maxHeartbeats 8000000 in
set_option maxRecDepth 100000 in
theorem dam_CheckReading.calls (a0_0 : Int) (a0_1 : Int) (a0_2 : Int) (r : Int) (w : World) (h : dam_CheckReading.f a0_0 a0_1 a0_2 = some r) :
    Calls Try.prog 33 #[.agg #[.int .i64 a0_0, .int .i64 a0_1, .int .i64 a0_2]] w fun e w' => e = .returned (.int .i64 r) ∧ Below w.heap.size w w' := by
  have hu53 := Try.underlying53
  have HB := Aside0.mk (Below.refl w.heap.size w)
  have H : ((dam_within.f a0_0 0 36000).bind fun t99002 => (if t99002 = true then ((dam_isSized.f a0_1 50).bind fun t99003 => (if t99003 = true then ((dam_isSized.f a0_2 2000).bind fun t99004 => ((dam_unless.f t99004 2).bind fun t99005 => (some t99005))) else ((dam_unless.f false 2).bind fun t99006 => (some t99006)))) else ((dam_unless.f false 2).bind fun t99007 => (some t99007)))) = some r := h
  clear h
  replace H := Option.bind_eq_some_iff.mp H
  obtain ⟨t99002, A20, H⟩ := H
  replace H : (if t99002 = true then ((dam_isSized.f a0_1 50).bind fun t99003 => (if t99003 = true then ((dam_isSized.f a0_2 2000).bind fun t99004 => ((dam_unless.f t99004 2).bind fun t99005 => (some t99005))) else ((dam_unless.f false 2).bind fun t99006 => (some t99006)))) else ((dam_unless.f false 2).bind fun t99007 => (some t99007))) = some r := H
  have A2 := Aside0.mk A20
  clear A20
  by_cases c3 : t99002 = true
  · subst c3
    have H1 : ((dam_isSized.f a0_1 50).bind fun t99003 => (if t99003 = true then ((dam_isSized.f a0_2 2000).bind fun t99004 => ((dam_unless.f t99004 2).bind fun t99005 => (some t99005))) else ((dam_unless.f false 2).bind fun t99006 => (some t99006)))) = some r := by rw [if_pos rfl] at H; exact H
    clear H
    have H := H1
    clear H1
    replace H := Option.bind_eq_some_iff.mp H
    obtain ⟨t99003, A40, H⟩ := H
    replace H : (if t99003 = true then ((dam_isSized.f a0_2 2000).bind fun t99004 => ((dam_unless.f t99004 2).bind fun t99005 => (some t99005))) else ((dam_unless.f false 2).bind fun t99006 => (some t99006))) = some r := H
    have A4 := Aside0.mk A40
    clear A40
    by_cases c5 : t99003 = true
    · subst c5
      have H1 : ((dam_isSized.f a0_2 2000).bind fun t99004 => ((dam_unless.f t99004 2).bind fun t99005 => (some t99005))) = some r := by rw [if_pos rfl] at H; exact H
      clear H
      have H := H1
      clear H1
      replace H := Option.bind_eq_some_iff.mp H
      obtain ⟨t99004, A60, H⟩ := H
      replace H : ((dam_unless.f t99004 2).bind fun t99005 => (some t99005)) = some r := H
      have A6 := Aside0.mk A60
      clear A60
      replace H := Option.bind_eq_some_iff.mp H
      obtain ⟨t99005, A70, H⟩ := H
      replace H : (some t99005) = some r := H
      have A7 := Aside0.mk A70
      clear A70
      obtain rfl := Option.some.inj H
      go_enter Try.func33, Try.ntmps33
      go_wp2_with (first | ((with_reducible refine gate_dst (N := 1) rfl ?_); refine box_event ?hg (N := 1) ?hd (cs := #[.int .i64 a0_0, .int .i64 a0_1, .int .i64 a0_2]) (t := 53) ?hr ?_; (case hd => rfl); (case hg => rfl); (case hr => first | (go_simp; done) | (go_simp; rfl)); intro gb99001 hg w8 hbox hb; have n0_ := Aside0.mk (below_step (bel HB.out) hb); have n1_ := Aside0.mk (hbox); have n2_ := Aside0.mk ((by rw [hg]; exact (below_size (bel HB.out)) : w.heap.size ≤ gb99001)); have n3_ := Aside0.mk ((by rw [hg]; exact (below_size (bel HB.out)) : w.heap.size ≤ gb99001)); clear HB; have HB := n0_; have BK99001 := n1_; have GW99001 := n2_; have GE99001 := n3_; clear n0_ n1_ n2_ n3_; clear hb hbox hg; have hcz9_0 : w8.cell? ⟨gb99001, 0, none⟩ = some (.int .i64 a0_0) := (blk_cell BK99001.out 0).trans rfl; have hcz9_1 : w8.cell? ⟨gb99001, 1, none⟩ = some (.int .i64 a0_1) := (blk_cell BK99001.out 1).trans rfl; have hcz9_2 : w8.cell? ⟨gb99001, 2, none⟩ = some (.int .i64 a0_2) := (blk_cell BK99001.out 2).trans rfl; have hfz9_0 := blk_frozen BK99001.out 0; have hfz9_1 := blk_frozen BK99001.out 1; have hfz9_2 := blk_frozen BK99001.out 2) | ((with_reducible refine gate_callee (f := 65) rfl ?_); refine goesL_ (some 5) rfl rfl Try.func65 (by kernel_rfl) rfl #[.int .i64 a0_0, .int .i64 0, .int .i64 36000] rfl mpa ?_; (with_reducible refine (dam_within.calls a0_0 0 36000 true _ A2.out).mono ?_); rintro e w' ⟨rfl, ⟨nd, rfl⟩⟩; refine ⟨_, rfl, ?_⟩) | (go_at_call 78; (with_reducible refine (dam_isSized.calls a0_1 50 true _ A4.out).mono ?_); rintro e w' ⟨rfl, ⟨nd, rfl⟩⟩) | (go_at_call 78; (with_reducible refine (dam_isSized.calls a0_2 2000 t99004 _ A6.out).mono ?_); rintro e w' ⟨rfl, ⟨nd, rfl⟩⟩) | ((with_reducible refine gate_callee (f := 64) rfl ?_); refine goesL_ (some 16) rfl rfl Try.func64 (by kernel_rfl) rfl #[.bool t99004, .int .i64 2] rfl mpa ?_; (with_reducible refine (dam_unless.calls t99004 2 t99005 _ A7.out).mono ?_); rintro e w' ⟨rfl, ⟨nd, rfl⟩⟩; refine ⟨_, rfl, ?_⟩))
      go_ret
      exact ⟨by first | rfl | (simp [errW_none, errW_some] <;> rfl) | (simp [*, errW_none, errW_some] <;> rfl), belS HB.out GE99001.out⟩
    · replace c5 := Bool.eq_false_iff.mpr c5
      subst c5
      have H1 : ((dam_unless.f false 2).bind fun t99006 => (some t99006)) = some r := by rw [if_neg (show ¬ (false = true) by decide)] at H; exact H
      clear H
      have H := H1
      clear H1
      replace H := Option.bind_eq_some_iff.mp H
      obtain ⟨t99006, A100, H⟩ := H
      replace H : (some t99006) = some r := H
      have A10 := Aside0.mk A100
      clear A100
      obtain rfl := Option.some.inj H
      go_enter Try.func33, Try.ntmps33
      go_wp2_with (first | ((with_reducible refine gate_dst (N := 1) rfl ?_); refine box_event ?hg (N := 1) ?hd (cs := #[.int .i64 a0_0, .int .i64 a0_1, .int .i64 a0_2]) (t := 53) ?hr ?_; (case hd => rfl); (case hg => rfl); (case hr => first | (go_simp; done) | (go_simp; rfl)); intro gb99001 hg w11 hbox hb; have n0_ := Aside0.mk (below_step (bel HB.out) hb); have n1_ := Aside0.mk (hbox); have n2_ := Aside0.mk ((by rw [hg]; exact (below_size (bel HB.out)) : w.heap.size ≤ gb99001)); have n3_ := Aside0.mk ((by rw [hg]; exact (below_size (bel HB.out)) : w.heap.size ≤ gb99001)); clear HB; have HB := n0_; have BK99001 := n1_; have GW99001 := n2_; have GE99001 := n3_; clear n0_ n1_ n2_ n3_; clear hb hbox hg; have hcz12_0 : w11.cell? ⟨gb99001, 0, none⟩ = some (.int .i64 a0_0) := (blk_cell BK99001.out 0).trans rfl; have hcz12_1 : w11.cell? ⟨gb99001, 1, none⟩ = some (.int .i64 a0_1) := (blk_cell BK99001.out 1).trans rfl; have hcz12_2 : w11.cell? ⟨gb99001, 2, none⟩ = some (.int .i64 a0_2) := (blk_cell BK99001.out 2).trans rfl; have hfz12_0 := blk_frozen BK99001.out 0; have hfz12_1 := blk_frozen BK99001.out 1; have hfz12_2 := blk_frozen BK99001.out 2) | ((with_reducible refine gate_callee (f := 65) rfl ?_); refine goesL_ (some 5) rfl rfl Try.func65 (by kernel_rfl) rfl #[.int .i64 a0_0, .int .i64 0, .int .i64 36000] rfl mpa ?_; (with_reducible refine (dam_within.calls a0_0 0 36000 true _ A2.out).mono ?_); rintro e w' ⟨rfl, ⟨nd, rfl⟩⟩; refine ⟨_, rfl, ?_⟩) | (go_at_call 78; (with_reducible refine (dam_isSized.calls a0_1 50 false _ A4.out).mono ?_); rintro e w' ⟨rfl, ⟨nd, rfl⟩⟩) | ((with_reducible refine gate_callee (f := 64) rfl ?_); refine goesL_ (some 16) rfl rfl Try.func64 (by kernel_rfl) rfl #[.bool false, .int .i64 2] rfl mpa ?_; (with_reducible refine (dam_unless.calls false 2 t99006 _ A10.out).mono ?_); rintro e w' ⟨rfl, ⟨nd, rfl⟩⟩; refine ⟨_, rfl, ?_⟩))
      go_ret
      exact ⟨by first | rfl | (simp [errW_none, errW_some] <;> rfl) | (simp [*, errW_none, errW_some] <;> rfl), belS HB.out GE99001.out⟩
  · replace c3 := Bool.eq_false_iff.mpr c3
    subst c3
    have H1 : ((dam_unless.f false 2).bind fun t99007 => (some t99007)) = some r := by rw [if_neg (show ¬ (false = true) by decide)] at H; exact H
    clear H
    have H := H1
    clear H1
    replace H := Option.bind_eq_some_iff.mp H
    obtain ⟨t99007, A130, H⟩ := H
    replace H : (some t99007) = some r := H
    have A13 := Aside0.mk A130
    clear A130
    obtain rfl := Option.some.inj H
    go_enter Try.func33, Try.ntmps33
    go_wp2_with (first | ((with_reducible refine gate_dst (N := 1) rfl ?_); refine box_event ?hg (N := 1) ?hd (cs := #[.int .i64 a0_0, .int .i64 a0_1, .int .i64 a0_2]) (t := 53) ?hr ?_; (case hd => rfl); (case hg => rfl); (case hr => first | (go_simp; done) | (go_simp; rfl)); intro gb99001 hg w14 hbox hb; have n0_ := Aside0.mk (below_step (bel HB.out) hb); have n1_ := Aside0.mk (hbox); have n2_ := Aside0.mk ((by rw [hg]; exact (below_size (bel HB.out)) : w.heap.size ≤ gb99001)); have n3_ := Aside0.mk ((by rw [hg]; exact (below_size (bel HB.out)) : w.heap.size ≤ gb99001)); clear HB; have HB := n0_; have BK99001 := n1_; have GW99001 := n2_; have GE99001 := n3_; clear n0_ n1_ n2_ n3_; clear hb hbox hg; have hcz15_0 : w14.cell? ⟨gb99001, 0, none⟩ = some (.int .i64 a0_0) := (blk_cell BK99001.out 0).trans rfl; have hcz15_1 : w14.cell? ⟨gb99001, 1, none⟩ = some (.int .i64 a0_1) := (blk_cell BK99001.out 1).trans rfl; have hcz15_2 : w14.cell? ⟨gb99001, 2, none⟩ = some (.int .i64 a0_2) := (blk_cell BK99001.out 2).trans rfl; have hfz15_0 := blk_frozen BK99001.out 0; have hfz15_1 := blk_frozen BK99001.out 1; have hfz15_2 := blk_frozen BK99001.out 2) | ((with_reducible refine gate_callee (f := 65) rfl ?_); refine goesL_ (some 5) rfl rfl Try.func65 (by kernel_rfl) rfl #[.int .i64 a0_0, .int .i64 0, .int .i64 36000] rfl mpa ?_; (with_reducible refine (dam_within.calls a0_0 0 36000 false _ A2.out).mono ?_); rintro e w' ⟨rfl, ⟨nd, rfl⟩⟩; refine ⟨_, rfl, ?_⟩) | ((with_reducible refine gate_callee (f := 64) rfl ?_); refine goesL_ (some 16) rfl rfl Try.func64 (by kernel_rfl) rfl #[.bool false, .int .i64 2] rfl mpa ?_; (with_reducible refine (dam_unless.calls false 2 t99007 _ A13.out).mono ?_); rintro e w' ⟨rfl, ⟨nd, rfl⟩⟩; refine ⟨_, rfl, ?_⟩))
    go_ret
    exact ⟨by first | rfl | (simp [errW_none, errW_some] <;> rfl) | (simp [*, errW_none, errW_some] <;> rfl), belS HB.out GE99001.out⟩
def dam_readingsErr.l0 : Nat → List (S53) → Int → Int → Option (Int)
  | 0, _, _, _ => none
  | k + 1, x0, x3, x4 => if x4 < (x0.length : Int) then (if x3 = 0 then (if 0 ≤ x4 then ((dam_CheckReading.f ((rd_T53 x0 x4).f0) ((rd_T53 x0 x4).f1) ((rd_T53 x0 x4).f2)).bind fun t237008 => (dam_readingsErr.l0 k x0 t237008 (wrap64 (x4 + 1)))) else (none)) else (some x3)) else (some x3)
def dam_readingsErr.f (k : Nat) (l0 : List (S53)) : Option (Int) := (dam_unless.f (decide ((l0.length : Int) > 0)) 10).bind fun t237001 => ((dam_unless.f (decide ((l0.length : Int) ≤ 12)) 8).bind fun t237002 => ((dam_first.f k (([t237001, t237002] : List Int))).bind fun t237006 => (dam_readingsErr.l0 k l0 t237006 0)))
set_option maxHeartbeats 8000000 in
set_option maxRecDepth 100000 in
theorem dam_readingsErr.calls (k : Nat) (A0 : Option Addr) (c0 : Nat) (l0 : List (S53)) (r : Int) (w : World) (hr0 : Kd.C k53 w A0 l0.length l0) (hc0 : l0.length ≤ c0) (h : dam_readingsErr.f k l0 = some r) :
    Calls Try.prog 79 #[.slice A0 l0.length c0] w fun e w' => e = .returned (.int .i64 r) ∧ Below w.heap.size w w' := by
  have hu53 := Try.underlying53
  have HR0 := Aside0.mk hr0
  have HC0 := Aside0.mk hc0
  clear hr0 hc0
  have HB := Aside0.mk (Below.refl w.heap.size w)
  have H : ((dam_unless.f (decide ((l0.length : Int) > 0)) 10).bind fun t237001 => ((dam_unless.f (decide ((l0.length : Int) ≤ 12)) 8).bind fun t237002 => ((dam_first.f k (([t237001, t237002] : List Int))).bind fun t237006 => (dam_readingsErr.l0 k l0 t237006 0)))) = some r := h
  rw [show decide ((l0.length : Int) > 0) = decide (0 < l0.length) from by (apply decide_eq_decide.mpr; omega)] at H
  clear h
  replace H := Option.bind_eq_some_iff.mp H
  obtain ⟨t237001, A20, H⟩ := H
  replace H : ((dam_unless.f (decide ((l0.length : Int) ≤ 12)) 8).bind fun t237002 => ((dam_first.f k (([t237001, t237002] : List Int))).bind fun t237006 => (dam_readingsErr.l0 k l0 t237006 0))) = some r := H
  have A2 := Aside0.mk A20
  clear A20
  replace H := Option.bind_eq_some_iff.mp H
  obtain ⟨t237002, A30, H⟩ := H
  replace H : ((dam_first.f k (([t237001, t237002] : List Int))).bind fun t237006 => (dam_readingsErr.l0 k l0 t237006 0)) = some r := H
  have A3 := Aside0.mk A30
  clear A30
  obtain ⟨y237003, hy237003⟩ : ∃ y_ : List Int, y_ = (([t237001, t237002] : List Int)) := ⟨_, rfl⟩
  replace H : ((dam_first.f k y237003).bind fun t237006 => (dam_readingsErr.l0 k l0 t237006 0)) = some r := by first | (rw [hy237003]; with_reducible exact H) | (have H2_ := (Option.bind_some _ _).symm.trans H; rw [hy237003]; with_reducible exact H2_) | (have H2_ := (Option.bind_some _ _).symm.trans H; with_reducible exact H2_) | with_reducible exact H | (rw [hy237003]; exact H) | exact H
  have Ny237003 := Aside0.mk hy237003
  clear hy237003
  replace H := Option.bind_eq_some_iff.mp H
  obtain ⟨t237006, A40, H⟩ := H
  replace H : (dam_readingsErr.l0 k l0 t237006 0) = some r := H
  have A4 := Aside0.mk A40
  clear A40
  have H' := Aside0.mk H
  clear H
  go_enter Try.func79, Try.ntmps79
  go_wp2_with (first | ((with_reducible refine gate_callee (f := 64) rfl ?_); refine goesL_ (some 8) rfl rfl Try.func64 (by kernel_rfl) rfl #[.bool (decide (0 < l0.length)), .int .i64 10] rfl mpa ?_; (with_reducible refine (dam_unless.calls (decide (0 < l0.length)) 10 t237001 _ A2.out).mono ?_); rintro e w' ⟨rfl, ⟨nd, rfl⟩⟩; refine ⟨_, rfl, ?_⟩) | ((with_reducible refine gate_callee (f := 64) rfl ?_); refine goesL_ (some 12) rfl rfl Try.func64 (by kernel_rfl) rfl #[.bool (decide ((l0.length : Int) ≤ 12)), .int .i64 8] rfl mpa ?_; (with_reducible refine (dam_unless.calls (decide ((l0.length : Int) ≤ 12)) 8 t237002 _ A3.out).mono ?_); rintro e w' ⟨rfl, ⟨nd, rfl⟩⟩; refine ⟨_, rfl, ?_⟩) | ((with_reducible refine gate_dst (N := 13) rfl ?_); refine Kd.R_lit (Kd.int .i64) _ 26 ?hg (N := 13) ?hd (xs := ([t237001, t237002] : List Int)) (inner := [.int .i64 t237001, .int .i64 t237002]) (ok := fun _ => True) (okp := fun _ => True) ?hr ?hp (fun _ hk => hk) trivial (Below.refl _ _) (Nat.le_refl _) (by simp) ?_; (case hd => rfl); (case hg => rfl); (case hr => first | (go_simp; done) | (go_simp; rfl)); (case hp => exact (Reps.one (show Kd.M (Kd.int .i64) _ _ _ t237001 [.int .i64 t237001] from rfl) (Reps.one (show Kd.M (Kd.int .i64) _ _ _ t237002 [.int .i64 t237002] from rfl) (Reps.none _ _)))); intro v237004 w5 ho6 hb hg_ hnew_; clear hg_ hnew_; (first | rw [← Ny237003.out] at ho6 | (simp only [Int.reduceToNat] at ho6; rw [← Ny237003.out] at ho6)); have n0_ := Aside0.mk (Kd.R_lower ho6 (below_size (bel HB.out))); have n1_ := Aside0.mk (below_step (bel HB.out) hb); clear HB; have HO237005 := n0_; have HB := n1_; clear n0_ n1_; clear hb ho6; obtain ⟨Ao7, co7, eo7⟩ := Kd.R_slice HO237005.out; subst eo7) | ((with_reducible refine gate_callee (f := 63) rfl ?_); refine goesL_ (some 14) rfl rfl Try.func63 (by kernel_rfl) rfl #[.slice Ao7 y237003.length co7] rfl mpa ?_; (with_reducible refine (dam_first.calls k _ _ y237003 t237006 _ ?side1 ?side2 A4.out).mono ?_); (case side1 => repeat (first | exact (Kd.R_reads' HO237005.out).2.2 | (with_reducible refine Kd.C_alloc ?_ _) | (with_reducible refine Kd.C_drewN ?_ _) | (with_reducible refine Kd.C_drew ?_))); (case side2 => exact (Kd.R_reads' HO237005.out).2.1); rintro e w' ⟨rfl, ⟨nd, rfl⟩⟩; refine ⟨_, rfl, ?_⟩))
  go_loopg [3, 4] k (fun kq v3 v4 w' => ∃ (x3_1 : Int) (x4_1 : Int), v3 = .int .i64 x3_1 ∧ v4 = .int .i64 x4_1 ∧ Aside0 (dam_readingsErr.l0 kq l0 x3_1 x4_1 = some r) ∧ Aside0 (kq ≤ k) ∧ Aside0 (Below w.heap.size w w'))
  case atStart => exact ⟨(t237006), (0), (by first | rfl | (simp; done) | (simp [*]; done)), (by first | rfl | (simp; done) | (simp [*]; done)), H', ⟨Nat.le_refl _⟩, ⟨bel HB.out⟩⟩
  case round =>
    clear H'
    try clear p2
    try clear c6
    try clear c7
    obtain ⟨x3_1, x4_1, rfl, rfl, HA, HK1, HB⟩ := hrel
    cases gk with
    | zero => exact absurd HA.out (by simp [dam_readingsErr.l0])
    | succ k1 =>
      have H := HA.out
      clear HA
      simp only [dam_readingsErr.l0] at H
      by_cases c8 : x4_1 < (l0.length : Int)
      · rw [if_pos c8] at H
        have c8b0 : decide (x4_1 < (l0.length : Int)) = true := decide_eq_true c8
        clear c8
        by_cases c9 : x3_1 = 0
        · rw [if_pos c9] at H
          have c9b0 : (x3_1 == 0) = true := beq_iff_eq.mpr c9
          have c9b1 : (x3_1 != 0) = false := bne_eq_false_iff_eq.mpr c9
          clear c9
          by_cases c10 : 0 ≤ x4_1
          · rw [if_pos c10] at H
            have c10b0 : decide (0 ≤ x4_1) = true := decide_eq_true c10
            clear c10
            replace H := Option.bind_eq_some_iff.mp H
            obtain ⟨t237008, A110, H⟩ := H
            replace H : (dam_readingsErr.l0 k1 l0 t237008 (wrap64 (x4_1 + 1))) = some r := H
            have A11 := Aside0.mk A110
            clear A110
            have H' := Aside0.mk H
            clear H
            have p237007 : 0 ≤ (x4_1 : Int) := of_decide_eq_true asm_
            have q237007 : x4_1 < (l0.length : Int) := of_decide_eq_true asm_
            obtain ⟨ad237007, e237007, hx237007_0, hx237007_1, hx237007_2⟩ := at_T53 HR0.out x4_1 p237007 q237007
            cases e237007
            replace hx237007_0 := (HB.out.cell (World.block_lt_of_cell? w _ hx237007_0)).trans hx237007_0
            replace hx237007_1 := (HB.out.cell (World.block_lt_of_cell? w _ hx237007_1)).trans hx237007_1
            replace hx237007_2 := (HB.out.cell (World.block_lt_of_cell? w _ hx237007_2)).trans hx237007_2
            replace p237007 := eq_true p237007
            replace q237007 := eq_true q237007
            go_wp2_with (first | ((with_reducible refine gate_callee (f := 33) rfl ?_); refine goesL_ (some 29) rfl rfl Try.func33 (by kernel_rfl) rfl #[.agg #[.int .i64 ((rd_T53 l0 x4_1).f0), .int .i64 ((rd_T53 l0 x4_1).f1), .int .i64 ((rd_T53 l0 x4_1).f2)]] rfl mpa ?_; (with_reducible refine (dam_CheckReading.calls ((rd_T53 l0 x4_1).f0) ((rd_T53 l0 x4_1).f1) ((rd_T53 l0 x4_1).f2) t237008 _ A11.out).mono ?_); rintro e w12 ⟨rfl, hb⟩; refine ⟨_, rfl, ?_⟩; have n0_ := Aside0.mk (below_step (bel HB.out) hb); clear HB; have HB := n0_; clear n0_; (try clear hb); (try clear hb2); (try clear hk); (try clear hi)))
            go_roundg k1
            case measure => have := HK1.out; omega
            case rel => exact ⟨(t237008), (wrap64 (x4_1 + 1)), (by first | rfl | (simp; done) | (simp [*]; done)), (by first | rfl | (simp; done) | (simp [*]; done)), H', ⟨by have := HK1.out; omega⟩, ⟨bel HB.out⟩⟩
          · rw [if_neg c10] at H
            exact absurd H (by simp)
        · rw [if_neg c9] at H
          have c9b0 : (x3_1 == 0) = false := beq_eq_false_iff_ne.mpr c9
          have c9b1 : (x3_1 != 0) = true := bne_iff_ne.mpr c9
          obtain rfl := Option.some.inj H
          go_wp2
          go_ret
          exact ⟨by first | rfl | (simp [errW_none, errW_some] <;> rfl) | (simp [*, errW_none, errW_some] <;> rfl), bel HB.out⟩
      · rw [if_neg c8] at H
        have c8b0 : decide (x4_1 < (l0.length : Int)) = false := decide_eq_false c8
        clear c8
        obtain rfl := Option.some.inj H
        go_wp2
        go_ret
        exact ⟨by first | rfl | (simp [errW_none, errW_some] <;> rfl) | (simp [*, errW_none, errW_some] <;> rfl), bel HB.out⟩
def dam_model_err.f (a0 : Int) : Option (Int) := (dam_within.f a0 1 31).bind fun t240001 => ((dam_unless.f t240001 2).bind fun t240002 => (some t240002))
set_option maxHeartbeats 8000000 in
set_option maxRecDepth 100000 in
theorem dam_model_err.calls (a0 : Int) (r : Int) (w : World) (h : dam_model_err.f a0 = some r) :
    Calls Try.prog 80 #[.int .i64 a0] w fun e w' => e = .returned (.int .i64 r) ∧ Drawn0 w w' := by
  have H : ((dam_within.f a0 1 31).bind fun t240001 => ((dam_unless.f t240001 2).bind fun t240002 => (some t240002))) = some r := h
  clear h
  replace H := Option.bind_eq_some_iff.mp H
  obtain ⟨t240001, A20, H⟩ := H
  replace H : ((dam_unless.f t240001 2).bind fun t240002 => (some t240002)) = some r := H
  have A2 := Aside0.mk A20
  clear A20
  replace H := Option.bind_eq_some_iff.mp H
  obtain ⟨t240002, A30, H⟩ := H
  replace H : (some t240002) = some r := H
  have A3 := Aside0.mk A30
  clear A30
  obtain rfl := Option.some.inj H
  go_enter Try.func80, Try.ntmps80
  go_wp2_with (first | ((with_reducible refine gate_callee (f := 65) rfl ?_); refine goesL_ (some 4) rfl rfl Try.func65 (by kernel_rfl) rfl #[.int .i64 a0, .int .i64 1, .int .i64 31] rfl mpa ?_; (with_reducible refine (dam_within.calls a0 1 31 t240001 _ A2.out).mono ?_); rintro e w' ⟨rfl, ⟨nd, rfl⟩⟩; refine ⟨_, rfl, ?_⟩) | ((with_reducible refine gate_callee (f := 64) rfl ?_); refine goesL_ (some 5) rfl rfl Try.func64 (by kernel_rfl) rfl #[.bool t240001, .int .i64 2] rfl mpa ?_; (with_reducible refine (dam_unless.calls t240001 2 t240002 _ A3.out).mono ?_); rintro e w' ⟨rfl, ⟨nd, rfl⟩⟩; refine ⟨_, rfl, ?_⟩))
  go_ret
  exact ⟨by first | rfl | (simp; done) | (simp [*]; done), by repeat (first | exact Drawn0.refl _ | apply Drawn0.step)⟩
def dam_model_has.f (a0 : Int) (a1 : Int) : Option (Bool) := if 0 ≤ a1 then (some ((Go.bits .and .i64 (shr .i64 a0 a1) 1) == 1)) else (none)
set_option maxHeartbeats 8000000 in
set_option maxRecDepth 100000 in
theorem dam_model_has.calls (a0 : Int) (a1 : Int) (r : Bool) (w : World) (h : dam_model_has.f a0 a1 = some r) :
    Calls Try.prog 110 #[.int .i64 a0, .int .i64 a1] w fun e w' => e = .returned (.bool r) ∧ Drawn0 w w' := by
  have H : (if 0 ≤ a1 then (some ((Go.bits .and .i64 (shr .i64 a0 a1) 1) == 1)) else (none)) = some r := h
  clear h
  by_cases c3 : 0 ≤ a1
  · rw [if_pos c3] at H
    have c3b0 := eq_true c3
    have c3b1 : decide (0 ≤ a1) = true := decide_eq_true c3
    clear c3
    obtain ⟨ji4, hji4⟩ : ∃ j_ : Int, (shr .i64 a0 a1) = j_ := ⟨_, rfl⟩
    replace H : (some ((Go.bits .and .i64 (ji4) 1) == 1)) = some r := by first | (rw [hji4] at H; exact H) | (simp only [hji4] at H ⊢; exact H)
    have hji4_ : (a0 / 2 ^ min a1.toNat 64) = ji4 := hji4
    have hji4z : a1 ≤ 64 → (a0 / 2 ^ a1.toNat) = ji4 := shr_small hji4
    obtain rfl := Option.some.inj H
    go_enter Try.func110, Try.ntmps110
    go_wp2
    go_ret
    exact ⟨by first | rfl | (simp; done) | (simp only [← hji4] <;> (first | rfl | simp)) | (simp [*]; done), by repeat (first | exact Drawn0.refl _ | apply Drawn0.step)⟩
  · rw [if_neg c3] at H
    exact absurd H (by simp)
def dam_model_chosen.l0 : Nat → Int → List Int → Int → Option (List Int)
  | 0, _, _, _ => none
  | k + 1, x0, x3, x5 => if x5 < 5 then ((dam_model_has.f x0 x5).bind fun t243001 => (if t243001 = true then (if x3.length < 17592186044416 then (dam_model_chosen.l0 k x0 (x3 ++ [x5]) (wrap64 (x5 + 1))) else (none)) else (dam_model_chosen.l0 k x0 x3 (wrap64 (x5 + 1))))) else (some x3)
def dam_model_chosen.f (k : Nat) (a0 : Int) : Option (List Int) := dam_model_chosen.l0 k a0 ([] : List Int) 0
set_option maxHeartbeats 8000000 in
set_option maxRecDepth 100000 in
theorem dam_model_chosen.calls (k : Nat) (a0 : Int) (r : List Int) (w : World) (h : dam_model_chosen.f k a0 = some r) :
    Calls Try.prog 81 #[.int .i64 a0] w fun e w' => ∃ v0_ : Value, e = .returned (v0_) ∧ Kd.R (Kd.int .i64) 3 w' w.heap.size (fun _ => True) v0_ r ∧ Below w.heap.size w w' := by
  have HB := Aside0.mk (Below.refl w.heap.size w)
  have H : (dam_model_chosen.l0 k a0 ([] : List Int) 0) = some r := h
  clear h
  have H' := Aside0.mk H
  clear H
  go_enter Try.func81, Try.ntmps81
  go_wp2
  go_loopg [3, 5] k (fun kq v3 v5 w' => ∃ (x3_1 : List Int) (x5_1 : Int), v5 = .int .i64 x5_1 ∧ Aside0 (dam_model_chosen.l0 kq a0 x3_1 x5_1 = some r) ∧ Aside0 (kq ≤ k) ∧ Aside0 (Kd.R (Kd.int .i64) 3 w' w.heap.size (fun _ => True) v3 x3_1) ∧ Aside0 (Below w.heap.size w w'))
  case atStart => exact ⟨(([] : List Int)), (0), (by first | rfl | (simp; done) | (simp [*]; done)), H', ⟨Nat.le_refl _⟩, ⟨by first | exact Kd.R_nil _ _ _ _ _ | exact Kd.N_nil _ _ _ _ _ | exact Kd.V_nil _ _ _ _ _ | exact Kd.Q_nil _ _ _ _ _ | exact Kd.S_nil _ _ _ _ _⟩, ⟨bel HB.out⟩⟩
  case round =>
    clear H'
    obtain ⟨x3_1, x5_1, rfl, HA, HK1, HO_3, HB⟩ := hrel
    cases gk with
    | zero => exact absurd HA.out (by simp [dam_model_chosen.l0])
    | succ k1 =>
      have H := HA.out
      clear HA
      simp only [dam_model_chosen.l0] at H
      by_cases c2 : x5_1 < 5
      · rw [if_pos c2] at H
        have c2b0 : decide (x5_1 < 5) = true := decide_eq_true c2
        clear c2
        replace H := Option.bind_eq_some_iff.mp H
        obtain ⟨t243001, A30, H⟩ := H
        replace H : (if t243001 = true then (if x3_1.length < 17592186044416 then (dam_model_chosen.l0 k1 a0 (x3_1 ++ [x5_1]) (wrap64 (x5_1 + 1))) else (none)) else (dam_model_chosen.l0 k1 a0 x3_1 (wrap64 (x5_1 + 1)))) = some r := H
        have A3 := Aside0.mk A30
        clear A30
        by_cases c4 : t243001 = true
        · subst c4
          have H1 : (if x3_1.length < 17592186044416 then (dam_model_chosen.l0 k1 a0 (x3_1 ++ [x5_1]) (wrap64 (x5_1 + 1))) else (none)) = some r := by rw [if_pos rfl] at H; exact H
          clear H
          have H := H1
          clear H1
          by_cases c5 : x3_1.length < 17592186044416
          · rw [if_pos c5] at H
            have LMc5 := Aside0.mk c5
            clear c5
            obtain ⟨y243002, hy243002⟩ : ∃ y_ : List Int, y_ = (x3_1 ++ [x5_1]) := ⟨_, rfl⟩
            replace H : (dam_model_chosen.l0 k1 a0 y243002 (wrap64 (x5_1 + 1))) = some r := by first | (rw [hy243002]; with_reducible exact H) | (have H2_ := (Option.bind_some _ _).symm.trans H; rw [hy243002]; with_reducible exact H2_) | (have H2_ := (Option.bind_some _ _).symm.trans H; with_reducible exact H2_) | with_reducible exact H | (rw [hy243002]; exact H) | exact H
            have Ny243002 := Aside0.mk hy243002
            clear hy243002
            have H' := Aside0.mk H
            clear H
            go_wp2_with (first | ((with_reducible refine gate_callee (f := 110) rfl ?_); refine goesL_ (some 10) rfl rfl Try.func110 (by kernel_rfl) rfl #[.int .i64 a0, .int .i64 x5_1] rfl mpa ?_; (with_reducible refine (dam_model_has.calls a0 x5_1 true _ A3.out).mono ?_); rintro e w' ⟨rfl, ⟨nd, rfl⟩⟩; refine ⟨_, rfl, ?_⟩) | ((with_reducible refine gate_builtin (b := .append) (xs := #[.tmp 11, .tmp 13]) rfl ?_); at_builtin; refine Kd.R_append (Kd.int .i64) (w0 := w) w.heap.size rfl (.tmp 11) (.tmp 13) 22 3 (.int .i64 0) 8 rfl Try.underlying22 info3 rfl (by decide) (by omega) u3 x3_1 x5_1 [.int .i64 x5_1] (fun _ => True) (fun _ => False) rfl rfl ?aP (fun _ hk => hk.elim) ?aF ?aO ?aB ?aS ?aL ?_; (case aP => exact rfl); (case aB => exact (bel HB.out)); (case aF => exact (fun _ _ => trivial)); (case aO => exact (krl HO_3.out)); (case aS => exact (below_size (bel HB.out))); (case aL => have := LMc5.out; omega); intro v243003 w6 ho hb hg hat; rw [← Ny243002.out] at ho; have n0_ := Aside0.mk (hb); have n1_ := Aside0.mk (ho); clear HB; clear HO_3; have HB := n0_; have HO243004 := n1_; clear n0_ n1_; clear ho hb hg hat))
            go_roundg k1
            case measure => have := HK1.out; omega
            case rel => exact ⟨(y243002), (wrap64 (x5_1 + 1)), (by first | rfl | (simp; done) | (simp [*]; done)), H', ⟨by have := HK1.out; omega⟩, ⟨krl HO243004.out⟩, ⟨bel HB.out⟩⟩
          · rw [if_neg c5] at H
            exact absurd H (by simp)
        · replace c4 := Bool.eq_false_iff.mpr c4
          subst c4
          have H1 : (dam_model_chosen.l0 k1 a0 x3_1 (wrap64 (x5_1 + 1))) = some r := by rw [if_neg (show ¬ (false = true) by decide)] at H; exact H
          clear H
          have H := H1
          clear H1
          have H' := Aside0.mk H
          clear H
          go_wp2_with (first | ((with_reducible refine gate_callee (f := 110) rfl ?_); refine goesL_ (some 10) rfl rfl Try.func110 (by kernel_rfl) rfl #[.int .i64 a0, .int .i64 x5_1] rfl mpa ?_; (with_reducible refine (dam_model_has.calls a0 x5_1 false _ A3.out).mono ?_); rintro e w' ⟨rfl, ⟨nd, rfl⟩⟩; refine ⟨_, rfl, ?_⟩))
          go_roundg k1
          case measure => have := HK1.out; omega
          case rel => exact ⟨(x3_1), (wrap64 (x5_1 + 1)), (by first | rfl | (simp; done) | (simp [*]; done)), H', ⟨by have := HK1.out; omega⟩, ⟨krl HO_3.out⟩, ⟨bel HB.out⟩⟩
      · rw [if_neg c2] at H
        have c2b0 : decide (x5_1 < 5) = false := decide_eq_false c2
        clear c2
        obtain rfl := Option.some.inj H
        go_wp2
        go_ret
        exact ⟨_, by first | rfl | (simp [errW_none, errW_some] <;> rfl) | (simp [*, errW_none, errW_some] <;> rfl), by (with_reducible repeat (first | apply Kd.R_alloc | apply Kd.R_drewN | apply Kd.R_drew)); exact HO_3.out, bel HB.out⟩
def slices_Index_int_int.l0 : Nat → List Int → Int → Int → Int → Option (Int)
  | 0, _, _, _, _ => none
  | k + 1, x0, x1, x7, x8 => if x8 < x7 then (if 0 ≤ x8 then (if x8 < (x0.length : Int) then (if x1 = (rd x0 x8) then (some x8) else (slices_Index_int_int.l0 k x0 x1 x7 (wrap64 (x8 + 1)))) else (none)) else (none)) else (some (-1))
def slices_Index_int_int.f (k : Nat) (l0 : List Int) (a1 : Int) : Option (Int) := slices_Index_int_int.l0 k l0 a1 (l0.length : Int) 0
set_option maxHeartbeats 8000000 in
set_option maxRecDepth 100000 in
theorem slices_Index_int_int.calls (k : Nat) (A0 : Option Addr) (c0 : Nat) (l0 : List Int) (a1 : Int) (r : Int) (w : World) (hr0 : Kd.C (Kd.int .i64) w A0 l0.length l0) (hc0 : l0.length ≤ c0) (h : slices_Index_int_int.f k l0 a1 = some r) :
    Calls Try.prog 145 #[.slice A0 l0.length c0, .int .i64 a1] w fun e w' => e = .returned (.int .i64 r) ∧ Drawn0 w w' := by
  have HR0 := Aside0.mk hr0
  have HC0 := Aside0.mk hc0
  clear hr0 hc0
  have H : (slices_Index_int_int.l0 k l0 a1 (l0.length : Int) 0) = some r := h
  clear h
  have H' := Aside0.mk H
  clear H
  go_enter Try.func145, Try.ntmps145
  go_wp2
  go_loopg [8] k (fun kq v8 w' => ∃ (x8_1 : Int), v8 = .int .i64 x8_1 ∧ Aside0 (slices_Index_int_int.l0 kq l0 a1 (l0.length : Int) x8_1 = some r) ∧ Aside0 (kq ≤ k) ∧ Drawn0 w w')
  case atStart => exact ⟨(0), (by first | rfl | (simp; done) | (simp [*]; done)), H', ⟨Nat.le_refl _⟩, by repeat (first | exact Drawn0.refl _ | apply Drawn0.step)⟩
  case round =>
    clear H'
    try clear c1
    try clear p2
    obtain ⟨x8_1, rfl, HA, HK1, ⟨m1, rfl⟩⟩ := hrel
    cases gk with
    | zero => exact absurd HA.out (by simp [slices_Index_int_int.l0])
    | succ k1 =>
      have H := HA.out
      clear HA
      simp only [slices_Index_int_int.l0] at H
      by_cases c3 : x8_1 < (l0.length : Int)
      · rw [if_pos c3] at H
        have c3b0 : decide (x8_1 < (l0.length : Int)) = true := decide_eq_true c3
        clear c3
        by_cases c4 : 0 ≤ x8_1
        · rw [if_pos c4] at H
          have c4b0 : decide (0 ≤ x8_1) = true := decide_eq_true c4
          clear c4
          by_cases c5 : x8_1 < (l0.length : Int)
          · rw [if_pos c5] at H
            have c5b0 : decide (x8_1 < (l0.length : Int)) = true := decide_eq_true c5
            clear c5
            by_cases c6 : a1 = (rd l0 x8_1)
            · rw [if_pos c6] at H
              have c6b0 : (a1 == (rd l0 x8_1)) = true := beq_iff_eq.mpr c6
              have c6b1 : (a1 != (rd l0 x8_1)) = false := bne_eq_false_iff_eq.mpr c6
              clear c6
              obtain rfl := Option.some.inj H
              have p435001 : 0 ≤ (x8_1 : Int) := of_decide_eq_true asm_
              have q435001 : x8_1 < (l0.length : Int) := of_decide_eq_true asm_
              obtain ⟨ad435001, e435001, hx435001_0⟩ := Kd.at_int HR0.out x8_1 p435001 q435001
              cases e435001
              replace p435001 := eq_true p435001
              replace q435001 := eq_true q435001
              go_wp2
              go_ret
              exact ⟨by first | rfl | (simp; done) | (simp [*]; done), by repeat (first | exact Drawn0.refl _ | apply Drawn0.step)⟩
            · rw [if_neg c6] at H
              have c6b0 : (a1 == (rd l0 x8_1)) = false := beq_eq_false_iff_ne.mpr c6
              have c6b1 : (a1 != (rd l0 x8_1)) = true := bne_iff_ne.mpr c6
              have H' := Aside0.mk H
              clear H
              have p435001 : 0 ≤ (x8_1 : Int) := of_decide_eq_true asm_
              have q435001 : x8_1 < (l0.length : Int) := of_decide_eq_true asm_
              obtain ⟨ad435001, e435001, hx435001_0⟩ := Kd.at_int HR0.out x8_1 p435001 q435001
              cases e435001
              replace p435001 := eq_true p435001
              replace q435001 := eq_true q435001
              go_wp2
              go_roundg k1
              case measure => have := HK1.out; omega
              case rel => exact ⟨(wrap64 (x8_1 + 1)), (by first | rfl | (simp; done) | (simp [*]; done)), H', ⟨by have := HK1.out; omega⟩, by repeat (first | exact Drawn0.refl _ | apply Drawn0.step)⟩
          · rw [if_neg c5] at H
            exact absurd H (by simp)
        · rw [if_neg c4] at H
          exact absurd H (by simp)
      · rw [if_neg c3] at H
        have c3b0 : decide (x8_1 < (l0.length : Int)) = false := decide_eq_false c3
        clear c3
        obtain rfl := Option.some.inj H
        go_wp2
        go_ret
        exact ⟨by first | rfl | (simp; done) | (simp [*]; done), by repeat (first | exact Drawn0.refl _ | apply Drawn0.step)⟩
def slices_Contains_int_int.f (k : Nat) (l0 : List Int) (a1 : Int) : Option (Bool) := (slices_Index_int_int.f k l0 a1).bind fun t414001 => (some (decide (t414001 ≥ 0)))
set_option maxHeartbeats 8000000 in
set_option maxRecDepth 100000 in
theorem slices_Contains_int_int.calls (k : Nat) (A0 : Option Addr) (c0 : Nat) (l0 : List Int) (a1 : Int) (r : Bool) (w : World) (hr0 : Kd.C (Kd.int .i64) w A0 l0.length l0) (hc0 : l0.length ≤ c0) (h : slices_Contains_int_int.f k l0 a1 = some r) :
    Calls Try.prog 138 #[.slice A0 l0.length c0, .int .i64 a1] w fun e w' => e = .returned (.bool r) ∧ Drawn0 w w' := by
  have HR0 := Aside0.mk hr0
  have HC0 := Aside0.mk hc0
  clear hr0 hc0
  have H : ((slices_Index_int_int.f k l0 a1).bind fun t414001 => (some (decide (t414001 ≥ 0)))) = some r := h
  clear h
  replace H := Option.bind_eq_some_iff.mp H
  obtain ⟨t414001, A30, H⟩ := H
  replace H : (some (decide (t414001 ≥ 0))) = some r := H
  have A3 := Aside0.mk A30
  clear A30
  obtain rfl := Option.some.inj H
  go_enter Try.func138, Try.ntmps138
  go_wp2_with (first | ((with_reducible refine gate_callee (f := 145) rfl ?_); refine goesL_ (some 7) rfl rfl Try.func145 (by kernel_rfl) rfl #[.slice A0 l0.length c0, .int .i64 a1] rfl mpa ?_; (with_reducible refine (slices_Index_int_int.calls k _ _ l0 a1 t414001 _ ?side1 ?side2 A3.out).mono ?_); (case side1 => repeat (first | exact HR0.out | (with_reducible refine Kd.C_alloc ?_ _) | (with_reducible refine Kd.C_drewN ?_ _) | (with_reducible refine Kd.C_drew ?_))); (case side2 => exact HC0.out); rintro e w' ⟨rfl, ⟨nd, rfl⟩⟩; refine ⟨_, rfl, ?_⟩))
  go_ret
  exact ⟨by first | rfl | (simp; done) | (simp [*]; done), by repeat (first | exact Drawn0.refl _ | apply Drawn0.step)⟩
end Go.Proofs.Yteopooljohdoiaa.Px
namespace Go.Proofs.Yteopooljohdoiaa.Px
open Go.RowKit Go.Proofs.YteopooljohdoiaaW.PrintWords Go.Proofs.YteopooljohdoiaaW.PrintLast Go.Proofs.YteopooljohdoiaaW.PrintMore
attribute [local go_sem] max2_int min2_int max_two min_two max_three min_three max_four min_four
theorem index_says (l0 : List Int) (a1 : Int) (hlen : l0.length < 4611686018427387904) (d : Nat) : ∀ (i k : Nat), i + d = l0.length → d < k → (∀ j, j < i → l0.getD j 0 ≠ a1) →
    ∃ r, slices_Index_int_int.l0 k l0 a1 (l0.length : Int) (i : Int) = some r ∧ decide (r ≥ 0) = l0.contains a1 := by
  induction d with
  | zero =>
    intro i k hi hk hno
    obtain ⟨k, rfl⟩ : ∃ m, k = m + 1 := ⟨k - 1, by omega⟩
    refine ⟨-1, by simp only [slices_Index_int_int.l0]; rw [if_neg (by omega)], ?_⟩
    have : l0.contains a1 = false := by
      rw [Bool.eq_false_iff]
      intro h
      rw [List.contains_iff_mem] at h
      obtain ⟨j, hj, e⟩ := List.getElem_of_mem h
      refine hno j (by omega) ?_
      rw [List.getD_eq_getElem?_getD, List.getElem?_eq_getElem hj]
      exact e
    rw [this]
    rfl
  | succ d ih =>
    intro i k hi hk hno
    obtain ⟨k, rfl⟩ : ∃ m, k = m + 1 := ⟨k - 1, by omega⟩
    by_cases e : a1 = rd l0 (i : Int)
    · refine ⟨(i : Int), by simp only [slices_Index_int_int.l0]; rw [if_pos (by omega), if_pos (by omega), if_pos (by omega), if_pos e], ?_⟩
      have hj : i < l0.length := by omega
      have : l0.contains a1 = true := by
        rw [List.contains_iff_mem, e]
        show l0.getD (i : Int).toNat 0 ∈ l0
        rw [Int.toNat_natCast, List.getD_eq_getElem?_getD, List.getElem?_eq_getElem hj]
        exact List.getElem_mem hj
      rw [this]
      simp
    · obtain ⟨r, hr, h2⟩ := ih (i + 1) k (by omega) (by omega) (fun j hj => by
        by_cases ej : j = i
        · subst ej
          exact fun h => e h.symm
        · exact hno j (by omega))
      refine ⟨r, ?_, h2⟩
      simp only [slices_Index_int_int.l0]
      rw [if_pos (by omega), if_pos (by omega), if_pos (by omega), if_neg e, show wrap64 ((i : Int) + 1) = ((i + 1 : Nat) : Int) from by unfold wrap64; omega]
      exact hr
theorem contains_says (l0 : List Int) (a1 : Int) (hlen : l0.length < 4611686018427387904) : slices_Contains_int_int.f (l0.length + 1) l0 a1 = some (l0.contains a1) := by
  obtain ⟨r, hr, h⟩ := index_says l0 a1 hlen l0.length 0 (l0.length + 1) (by omega) (by omega) (fun j hj => absurd hj (Nat.not_lt_zero _))
  have hr' : slices_Index_int_int.l0 (l0.length + 1) l0 a1 (l0.length : Int) 0 = some r := hr
  unfold slices_Contains_int_int.f slices_Index_int_int.f
  rw [hr']
  simp only [Option.bind_some, h]
section
open Go.Shelf
attribute [local go_sem] Oper.semAt_some
def OrdRound (count l s : Nat) (J : List (List Int × Int) → World → Prop) : Prop :=
  ∀ m pre (A : Option Addr) (c : Nat) (o : List Int) (sg : Int) (W1 : World), J pre W1 → o.length = count → (∀ x ∈ o, 0 ≤ x ∧ x < count) → Kd.C (Kd.int .i64) W1 A o.length o → o.length ≤ c →
    YieldAt Fence.wide m Try.prog l #[.slice A o.length c, .int .i64 sg] W1 fun e W' => e = .returned (.bool true) ∧ J (pre ++ [(o, sg)]) W' ∧ KeepSL s l W1 W'
def OrdKept (l s : Nat) (J : List (List Int × Int) → World → Prop) : Prop :=
  ∀ pre W, J pre W → l < W.heap.size ∧ s < W.heap.size ∧ ∀ W', Below W.heap.size W W' → J pre W'
theorem C_keepSL {s l : Nat} {W W' : World} {A : Option Addr} {xs : List Int} (h : Kd.C (Kd.int .i64) W A xs.length xs) (hk : KeepSL s l W W') (hA : ∀ ad, A = some ad → 0 < xs.length → ad.block ≠ s ∧ ad.block ≠ l) : Kd.C (Kd.int .i64) W' A xs.length xs := by
  refine Kd.C_of_reads (d := (0 : Int)) (h1 := fun _ => rfl) ⟨rfl, h.2.1, fun hn => ?_⟩
  obtain ⟨ad, e, _⟩ := h.2.2 hn
  subst e
  obtain ⟨h1, h2⟩ := hA ad rfl hn
  refine ⟨ad, rfl, fun j hj => ?_⟩
  obtain ⟨ad', e', hc⟩ := Kd.at_int h (j : Int) (by omega) (by omega)
  cases e'
  rw [Int.toNat_natCast] at hc
  have hb : (ad.add j).block = ad.block := by unfold Addr.add; split <;> rfl
  have hlt := World.block_lt_of_cell? W _ hc
  unfold World.cell? at hc ⊢
  rw [hk.2 _ hlt (by rw [hb]; exact h1) (by rw [hb]; exact h2)]
  exact hc
theorem ord_next {count l s d : Nat} {J : List (List Int × Int) → World → Prop}
    (ih : ∀ (n : Nat) (A : Option Addr) (c : Nat) (b : List Int) (sg : Int) (pre : List (List Int × Int)) (W : World), b.length + d = count → (∀ x ∈ b, 0 ≤ x ∧ x < count) → (sg = 1 ∨ sg = -1) → Kd.C (Kd.int .i64) W A b.length b → b.length ≤ c →
      (∀ ad, A = some ad → 0 < b.length → ad.block ≠ s ∧ ad.block ≠ l) → J pre W →
      CallsIn Fence.wide n Try.prog 123 #[.slice A b.length c, .int .i64 count, .int .i64 sg, .func (.yield l) #[] #[]] W fun e W' =>
        e = .returned (.bool true) ∧ J (pre ++ permsOf count d b sg) W' ∧ KeepSL s l W W') (hK : OrdKept l s J) (n : Nat)
    {b : List Int} (hb : ∀ x ∈ b, 0 ≤ x ∧ x < count) (hd : b.length + (d + 1) = count) {sg : Int} (hsg : sg = 1 ∨ sg = -1) {k : Nat} (hk : k < count) {pre : List (List Int × Int)} {wr w1 w2 w3 : World} {v1 v3 : Value}
    (hJ : J pre wr) (h1 : Below wr.heap.size wr w1) (hR1 : Kd.R (Kd.int .i64) 3 w2 w1.heap.size (fun _ => True) v1 b) (h2 : Below w1.heap.size w1 w2)
    (hown : w3.ownsRow w1.heap.size 3 1 v3 (b.length + 1) (encs (Value.int .i64) b ++ [.int .i64 (k : Int)])) (hgr : (w2.alloc (.cells #[.int .i64 (k : Int)] 3)).grownBy w3 v1.ownBlock) :
    ∃ A3 c3, v3 = .slice A3 (b.length + 1) c3 ∧ CallsIn Fence.wide n Try.prog 123 #[.slice A3 (b.length + 1) c3, .int .i64 count, .int .i64 sg, .func (.yield l) #[] #[]] w3 fun e W' =>
        e = .returned (.bool true) ∧ J (pre ++ permsOf count d (b ++ [(k : Int)]) sg) W' ∧ KeepSL s l wr W' := by
  have hl : (b ++ [(k : Int)]).length = b.length + 1 := by simp
  have ho : w3.ownsRow w1.heap.size 3 1 v3 (b ++ [(k : Int)]).length (encs (Value.int .i64) (b ++ [(k : Int)])) := by
    rw [hl]
    simpa [encs] using hown
  have hR3 : Kd.R (Kd.int .i64) 3 w3 w1.heap.size (fun _ => True) v3 (b ++ [(k : Int)]) := Kd.R_of_own ho (fun _ _ => trivial)
  obtain ⟨A3, c3, e3, hle, hC3⟩ := Kd.R_reads hR3
  obtain ⟨hl1, hs1, hJb⟩ := hK _ _ hJ
  have hb13 : Below w1.heap.size w1 w3 := by
    refine (h2.alloc h2.size _).grown hgr (by have := h2.size; simp; omega) ?_
    exact fun q hq => Kd.R_base hR1 q hq
  have hb3 : Below wr.heap.size wr w3 := below_step h1 hb13
  have h := ih n A3 c3 (b ++ [(k : Int)]) sg pre w3 (by rw [hl]; omega) (fun x hx => by
    rcases List.mem_append.1 hx with h | h
    · exact hb x h
    · rw [List.mem_singleton.1 h]
      omega) hsg hC3 hle (fun ad e hpos => by
    obtain ⟨g, cap, ef, hg, _⟩ := Kd.R_form hR3 hpos
    rw [e3, e] at ef
    injection ef with ef
    injection ef with ef
    have := h1.size
    rw [ef]
    exact ⟨by show g ≠ s; omega, by show g ≠ l; omega⟩) (hJb _ hb3)
  rw [hl] at h e3
  exact ⟨A3, c3, e3, h.mono fun e W' ⟨he, hj, hk'⟩ => ⟨he, hj, (KeepSL.of_below hb3).trans hk'⟩⟩
set_option maxHeartbeats 4000000 in
set_option maxRecDepth 100000 in
theorem ordered_in (count l s : Nat) (hcount : count ≤ 1000) (J : List (List Int × Int) → World → Prop) (hY : OrdRound count l s J) (hK : OrdKept l s J) (d : Nat) :
    ∀ (n : Nat) (A : Option Addr) (c : Nat) (b : List Int) (sg : Int) (pre : List (List Int × Int)) (W : World), b.length + d = count → (∀ x ∈ b, 0 ≤ x ∧ x < count) → (sg = 1 ∨ sg = -1) → Kd.C (Kd.int .i64) W A b.length b → b.length ≤ c →
      (∀ ad, A = some ad → 0 < b.length → ad.block ≠ s ∧ ad.block ≠ l) → J pre W →
      CallsIn Fence.wide n Try.prog 123 #[.slice A b.length c, .int .i64 count, .int .i64 sg, .func (.yield l) #[] #[]] W fun e W' =>
        e = .returned (.bool true) ∧ J (pre ++ permsOf count d b sg) W' ∧ KeepSL s l W W' := by
  induction d with
  | zero =>
    intro n A c b sg pre W hd hb hsg hC hc hA hJ
    have hlen : b.length = count := by omega
    have hR := hY (n - 1) pre A c b sg W hJ hlen hb hC hc
    obtain ⟨fn, tmps, assign, body, hy, hR⟩ := hR
    have HR := Aside0.mk hR
    have HL := Aside0.mk hlen
    clear hR hJ hC hA hb hsg hd hY hK hlen hc
    have hbq : ((b.length : Int) == (count : Int)) = true := by rw [HL.out]; simp
    refine callsIn_of_wp Try.func123 rfl trivial ?_ rfl
    simp only [Try.ntmps123, List.size_toArray, List.length_cons, List.length_nil, Nat.reduceAdd, Nat.reduceSub, Array.replicate_succ, Array.replicate_zero, List.push_toArray, List.append_toArray, List.nil_append, List.cons_append]
    gi_wp2_with ((try refine ⟨fun h => (by cases h), ?_⟩); refine HR.out.mono ?_; rintro e W' ⟨rfl, hJ', hk⟩; have HJ := Aside0.mk hJ'; have HKK := Aside0.mk hk; clear hJ' hk)
    go_ret
    exact ⟨rfl, by simpa [permsOf] using HJ.out, HKK.out⟩
  | succ d ih =>
    intro n A c b sg pre W hd hb hsg hC hc hA hJ
    have HIH := Aside0.mk ih
    have HHK := Aside0.mk hK
    have HC := Aside0.mk hC
    have HAA := Aside0.mk hA
    have HB := Aside0.mk hb
    have HD := Aside0.mk hd
    have hbq : ((b.length : Int) == (count : Int)) = false := by have := HD.out; rw [beq_eq_false_iff_ne]; omega
    have HSG := Aside0.mk hsg
    have HJ0 := Aside0.mk hJ
    have HCAP := Aside0.mk hc
    have HCO := Aside0.mk (contains_says b)
    have hblt : b.length < 1000 := by omega
    clear hY hK ih hd hb hsg hC hc hA hJ
    refine callsIn_of_wp Try.func123 rfl trivial ?_ rfl
    simp only [Try.ntmps123, List.size_toArray, List.length_cons, List.length_nil, Nat.reduceAdd, Nat.reduceSub, Array.replicate_succ, Array.replicate_zero, List.push_toArray, List.append_toArray, List.nil_append, List.cons_append]
    gi_wp2_with fail
    gi_loopw [2, 9, 19] (fun s2 s9 s19 wr => ∃ (k : Nat) (sg2 : Int) (dn : List (List Int × Int)), k ≤ count ∧ s19 = .int .i64 k ∧ s2 = .int .i64 sg2 ∧ Aside0 ((sg2 = 1 ∨ sg2 = -1) ∧ permLoop (permsOf count d) b (List.range count) sg = dn ++ permLoop (permsOf count d) b ((List.range count).drop k) sg2 ∧ J (pre ++ dn) wr ∧ KeepSL s l W wr)) (fun _ _ s19 _ => count - (intOf s19).toNat)
    case atStart => exact ⟨0, sg, [], Nat.zero_le _, rfl, rfl, ⟨HSG.out, by simp, by simpa using HJ0.out, KeepSL.refl _ _ _⟩⟩
    case round =>
      obtain ⟨k, sg2, dn, hk, rfl, rfl, HR⟩ := hrel
      by_cases hlt : k < count
      · have hltz : (k : Int) < (count : Int) := by omega
        obtain ⟨hs2, hpl, hJr, hkr⟩ := HR.out
        have HCr := Aside0.mk (C_keepSL HC.out hkr HAA.out)
        have hstep := hpl
        rw [range_drop count k hlt] at hstep
        simp only [permLoop] at hstep
        have hco := HCO.out (k : Int) (by omega)
        cases hcb : b.contains (k : Int) with
        | true =>
          rw [hcb] at hco hstep
          rw [if_pos rfl] at hstep
          have HCC := Aside0.mk (slices_Contains_int_int.calls (b.length + 1) A c b (k : Int) true wr HCr.out HCAP.out hco)
          have HST := Aside0.mk hstep
          have HS2 := Aside0.mk hs2
          have HJR := Aside0.mk hJr
          have HKR := Aside0.mk hkr
          clear hs2 hpl hJr hkr hstep hco hcb HR
          gi_wp2_with (refine ⟨trivial, ⟨fun h => (by cases h), ?_⟩⟩; gi_at_call 138; refine (callsIn_wide.2 HCC.out).mono ?_; rintro e w' ⟨rfl, hd⟩; have HD2 := Aside0.mk hd.below; clear hd)
          go_roundw
          case rel => exact ⟨k + 1, sg2, dn, by omega, by go_num, rfl, ⟨HS2.out, HST.out, (HHK.out _ _ HJR.out).2.2 _ HD2.out, HKR.out.trans (KeepSL.of_below HD2.out)⟩⟩
          case measure => simp [intOf]; omega
        | false =>
          rw [hcb] at hco hstep
          rw [if_neg (by decide)] at hstep
          have HCC := Aside0.mk (slices_Contains_int_int.calls (b.length + 1) A c b (k : Int) false wr HCr.out HCAP.out hco)
          have HST := Aside0.mk hstep
          have HS2 := Aside0.mk hs2
          have HJR := Aside0.mk hJr
          have HKR := Aside0.mk hkr
          clear hs2 hpl hJr hkr hstep hco hcb HR
          have hcl : slices_Clone_int_int.f b = some b := by unfold slices_Clone_int_int.f; rw [if_pos (by omega)]
          have HCL := Aside0.mk hcl
          clear hcl
          obtain ⟨i0, hi, hz0, hz1, hz2⟩ := info_parts info3
          gi_wp2_with (first
            | (refine ⟨trivial, ⟨fun h => (by cases h), ?_⟩⟩; gi_at_call 138; refine (callsIn_wide.2 HCC.out).mono ?_; rintro e w1 ⟨rfl, hd⟩; have HD2 := Aside0.mk hd.below; clear hd)
            | (refine ⟨trivial, ⟨fun h => (by cases h), ?_⟩⟩; gi_at_call 73; refine (callsIn_wide.2 (slices_Clone_int_int.calls A c b b w1 (Kd.C_below HCr.out HD2.out) HCAP.out HCL.out)).mono ?_; rintro e w2 ⟨v1, rfl, hR1, hb1⟩; have HR1 := Aside0.mk hR1; have HB1 := Aside0.mk hb1; clear hR1 hb1)
            | (gi_at_builtin; refine wpListIn_append_own _ rfl (.tmp 26) (.tmp 28) 22 rfl w1.heap.size 3 i0 (.int .i64 0) 1 8 Try.underlying22 hi hz0 hz1 hz2 rfl (by decide) v1 b.length (encs (Value.int .i64) b) rfl ((Kd.own_of_R HR1.out).alloc _) ⟨w2.heap.size, 0, none⟩ 1 1 [.int .i64 (k : Int)] rfl rfl (Go.cell_one_new _ _ _) (by simp [Value.oneCell']) (by simp only [maxLen]; omega) (by omega) (by have := HB1.out.size; simp; omega) ?_; intro v3 w3 hown hgr _; obtain ⟨A3, c3, e3, hih⟩ := ord_next HIH.out HHK.out (n - 1) HB.out HD.out HS2.out hlt (k := k) HJR.out HD2.out HR1.out HB1.out hown hgr; subst e3; have HIH2 := Aside0.mk hih; clear hown hgr hih)
            | (refine ⟨trivial, ⟨fun h => (by cases h), ?_⟩⟩; gi_at_call 123; refine HIH2.out.mono ?_; rintro e w4 ⟨rfl, hJ4, hk4⟩; have HJ4 := Aside0.mk hJ4; have HK4 := Aside0.mk hk4; clear hJ4 hk4))
          go_roundw
          case rel => exact ⟨k + 1, -sg2, dn ++ permsOf count d (b ++ [(k : Int)]) sg2, by omega, by go_num, by rcases HS2.out with h | h <;> subst h <;> simp [wrap64], ⟨by rcases HS2.out with h | h <;> subst h <;> simp, by rw [HST.out, List.append_assoc], by have := HJ4.out; rwa [List.append_assoc] at this, HKR.out.trans HK4.out⟩⟩
          case measure => simp [intOf]; omega
      · obtain rfl : k = count := by omega
        obtain ⟨hs2, hpl, hJr, hkr⟩ := HR.out
        rw [range_drop_all] at hpl
        have HPL := Aside0.mk hpl
        have HJR := Aside0.mk hJr
        have HKR := Aside0.mk hkr
        clear hs2 hpl hJr hkr HR
        gi_wp2
        go_ret
        refine ⟨rfl, ?_, HKR.out⟩
        have e1 := HPL.out
        simp only [permLoop, List.append_nil] at e1
        show J (pre ++ permLoop (permsOf k d) b (List.range k) sg) _
        rw [e1]
        exact HJR.out
end
end Go.Proofs.Yteopooljohdoiaa.Px
namespace Go.Proofs.Yteopooljohdoiaa.Px
open Go.RowKit Go.Proofs.YteopooljohdoiaaW.PrintWords Go.Proofs.YteopooljohdoiaaW.PrintLast Go.Proofs.YteopooljohdoiaaW.PrintMore
attribute [local go_sem] max2_int min2_int max_two min_two max_three min_three max_four min_four
section
open Go.Shelf
attribute [local go_sem] Oper.semAt_some
set_option maxHeartbeats 4000000 in
set_option maxRecDepth 100000 in
theorem orders1_in (count l s : Nat) (hcount : count ≤ 1000) (J : List (List Int × Int) → World → Prop) (hY : OrdRound count l s J) (hK : OrdKept l s J) (n B : Nat) (W : World) (hB : W.cell? ⟨B, 0, none⟩ = some (.int .i64 (count : Int))) (hJ : J [] W) :
    CallsIn Fence.wide n Try.prog 122 #[.func (.yield l) #[] #[], .pointer (some ⟨B, 0, none⟩)] W fun e W' => e = .returned (.tuple #[]) ∧ J (permsOf count count [] 1) W' := by
  have hO := ordered_in count l s hcount J hY hK count (n - 1) none 0 [] 1 [] W (by simp) (by simp) (.inl rfl) (Kd.C_nil _ _) (Nat.le_refl _) (fun ad e => by cases e) hJ
  have HO := Aside0.mk hO
  clear hO hY hK hJ
  refine callsIn_of_wp Try.func122 rfl trivial ?_ rfl
  simp only [Try.ntmps122, List.size_toArray, List.length_cons, List.length_nil, Nat.reduceAdd, Nat.reduceSub, Array.replicate_succ, Array.replicate_zero, List.push_toArray, List.append_toArray, List.nil_append, List.cons_append]
  gi_wp2_with (refine ⟨trivial, ⟨fun h => (by cases h), ?_⟩⟩; gi_at_call 123; refine HO.out.mono ?_; rintro e w1 ⟨rfl, hj, _⟩; have HJ1 := Aside0.mk hj; clear hj)
  first | go_end0 | (refine bodyPost_ret (results_none rfl _ _ _) rfl ?_)
  exact ⟨rfl, by simpa using HJ1.out⟩
set_option maxHeartbeats 4000000 in
set_option maxRecDepth 100000 in
theorem orders_calls (c : Int) (w : World) : Calls Try.prog 111 #[.int .i64 c] w fun e w' => e = .returned (.func (.func 122) #[] #[.pointer (some ⟨w.heap.size, 0, none⟩)]) ∧ w' = w.alloc (.cells #[.int .i64 c] 3) := by
  go_enter Try.func111, Try.ntmps111
  go_wp2
  go_ret
  exact ⟨rfl, rfl⟩
end
end Go.Proofs.Yteopooljohdoiaa.Px
namespace Go.Proofs.Yteopooljohdoiaa.Px
open Go.RowKit Go.Proofs.YteopooljohdoiaaW.PrintWords Go.Proofs.YteopooljohdoiaaW.PrintLast Go.Proofs.YteopooljohdoiaaW.PrintMore
attribute [local go_sem] max2_int min2_int max_two min_two max_three min_three max_four min_four
def dam_determinant.f (l0 : List (List Int)) : Option Int := if l0.length ≤ 1000 ∧ (∀ x ∈ l0, x.length = l0.length) then some (detSum l0 (permsOf l0.length l0.length [] 1)) else none
section
open Go.Shelf
attribute [local go_sem] Oper.semAt_some
theorem C_putLoop {W : World} {L : Nat} {r : Loop} {o' : Obj} {A : Option Addr} {xs : List Int} (h : Kd.C (Kd.int .i64) W A xs.length xs) (hL : W.heap[L]? = some (.loop r)) : Kd.C (Kd.int .i64) (W.putObj L o') A xs.length xs := by
  refine Kd.C_of_reads (d := (0 : Int)) (h1 := fun _ => rfl) ⟨rfl, h.2.1, fun hn => ?_⟩
  obtain ⟨ad, e, _⟩ := h.2.2 hn
  subst e
  refine ⟨ad, rfl, fun j hj => ?_⟩
  obtain ⟨ad', e', hc⟩ := Kd.at_int h (j : Int) (by omega) (by omega)
  cases e'
  rw [Int.toNat_natCast] at hc
  unfold World.cell? at hc ⊢
  by_cases hb : (ad.add j).block = L
  · rw [hb, hL] at hc
    cases hc
  · rw [World.putObj_heap_other hb]
    exact hc
def KeepS (s : Nat) (W W' : World) : Prop := W.heap.size ≤ W'.heap.size ∧ ∀ i, i < W.heap.size → i ≠ s → W'.heap[i]? = W.heap[i]?
theorem wpIn_range_ord {gf B count s : Nat} {g : Operand} {ps : Array Tmp} {assign body : Code} {Q : Exit → Act → World → Prop} {a : Act} {W0 : World} {n : Nat} {xs : List (List Int × Int)}
    (hg : a.eval g = .func (.func gf) #[] #[.pointer (some ⟨B, 0, none⟩)]) (eg : ∀ args w, (callFunc gf args).run Try.prog w = .ok (.enter gf args) w) (hps : ps.size = 2) (hs : s < W0.heap.size)
    (I : List (List Int × Int) → World → Prop) (hIput : ∀ pre W l o o', I pre W → W0.heap.size ≤ l → W.heap[l]? = some o → o.isCells = false → I pre (W.putObj l o')) (hIal : ∀ pre W W', I pre W → Below W.heap.size W W' → I pre W') (h0 : I [] W0)
    (hiter : ∀ (l m : Nat) (J : List (List Int × Int) → World → Prop) (W : World), OrdRound count l s J → OrdKept l s J → Below W0.heap.size W0 W → J [] W →
      CallsIn Fence.wide m Try.prog gf #[.func (.yield l) #[] #[], .pointer (some ⟨B, 0, none⟩)] W fun e W' => e = .returned (.tuple #[]) ∧ J xs W')
    (a₁ : Option Addr → Nat → List Int → Int → Act)
    (hassign : ∀ (l m : Nat) (A : Option Addr) (c : Nat) (o : List Int) (sg : Int) (W : World) (K : Act → World → Prop), K (a₁ A c o sg) W →
      assign.wpIn (Fence.wide.inRound l) m Try.prog (Exit.then K (fun _ _ _ => False)) { tmps := (ps.zip #[.slice A o.length c, .int .i64 sg]).foldl (fun t (p, v) => t.setIfInBounds p v) a.tmps, defers := [] } W)
    (hbody : ∀ (l m : Nat) pre (A : Option Addr) (c : Nat) (o : List Int) (sg : Int) (W : World), I pre W → o.length = count → (∀ x ∈ o, 0 ≤ x ∧ x < count) → Kd.C (Kd.int .i64) W A o.length o → o.length ≤ c →
      body.wpIn (Fence.wide.inRound l) m Try.prog (fun e _ W' => e = .normal ∧ I (pre ++ [(o, sg)]) W' ∧ KeepS s W W') (a₁ A c o sg) W)
    (hdone : ∀ (D : Nat) (W : World), I xs W → W.heap[D]? = some (.deferred (some [])) → W0.heap.size ≤ D → Q .normal { a with defers := { target := .collected D, args := #[] } :: a.defers } W) :
    (Code.rangeFunc g ps assign body).wpIn Fence.wide (n + 1) Try.prog Q a W0 := by
  refine wpIn_rangeFunc ?_
  intro fn hfn
  obtain ⟨rec, hrec⟩ : ∃ rec : LoopState → Option Code → Loop, rec = fun st pe => { state := st, pending := pe, fn, tmps := a.tmps, params := ps, assign, body, defers := W0.heap.size } := ⟨_, rfl⟩
  obtain ⟨W1, hW1⟩ : ∃ W1, (W0.alloc (.deferred (some []))).alloc (.loop (rec .ready none)) = W1 := ⟨_, rfl⟩
  have hL1 : W1.heap[W0.heap.size + 1]? = some (.loop (rec .ready none)) := by
    rw [← hW1]; have := World.alloc_heap_new (W0.alloc (.deferred (some []))) (.loop (rec .ready none)); rwa [World.size_alloc] at this
  have hK1 : W1.heap[W0.heap.size]? = some (.deferred (some [])) := by
    rw [← hW1]; exact (Below.heap_alloc _ _ _ (by simp)).trans (World.alloc_heap_new W0 _)
  have hb1 : Below W0.heap.size W0 W1 := by rw [← hW1]; exact below_alloc (below_alloc (Below.refl _ _) _) _
  have hI1 : I [] W1 := hIal _ _ _ h0 hb1
  refine ⟨W0.heap.size + 1, [{ target := .collected W0.heap.size, args := #[] }], W1, { target := .fn (.func gf) #[.pointer (some ⟨B, 0, none⟩)], args := #[.func (.yield (W0.heap.size + 1)) #[] #[]] }, W1, gf,
    #[.func (.yield (W0.heap.size + 1)) #[] #[], .pointer (some ⟨B, 0, none⟩)], W1, ?_, ?_, ?_, ?_, fun _ => by omega, ?_⟩
  · rw [← hW1, hrec]; exact run_enterLoop_outer _ _ _ _ _
  · simp only [resolve, hg]
    simp [go_sem]
  · intro f' hf'; simp [Target.leads] at hf'; trivial
  · simp [invoke, go_sem, eg]
  · refine (hiter (W0.heap.size + 1) (n + 1 - 1)
      (fun pre W => I pre W ∧ W.heap[W0.heap.size + 1]? = some (.loop (rec .ready none)) ∧ W.heap[W0.heap.size]? = some (.deferred (some [])) ∧ W0.heap.size + 1 < W.heap.size) W1 ?_ ?_ hb1 ⟨hI1, hL1, hK1, (Array.getElem?_eq_some_iff.1 hL1).1⟩).mono ?_
    · -- one round
      rintro m pre A c o sg W ⟨hi, hl, hk, hsz⟩ hol hor hC hcap
      have hy := run_yield (P := Try.prog) (args := #[.slice A o.length c, .int .i64 sg]) hl (by rw [hrec]; exact hps.symm)
      rw [hrec] at hy
      refine ⟨fn, _, assign, body, hy, roundIn_of_wpIn hfn (hassign _ _ A c o sg W _ ⟨_, run_beginRound hl (by rw [hrec]), ?_⟩)⟩
      have hl2 : (W.putObj (W0.heap.size + 1) (.loop { rec .ready none with state := .busy })).heap[W0.heap.size + 1]? = some (.loop { rec .ready none with state := .busy }) := World.putObj_heap_same hsz
      have hk2 : (W.putObj (W0.heap.size + 1) (.loop { rec .ready none with state := .busy })).heap[W0.heap.size]? = some (.deferred (some [])) := (World.putObj_heap_other (by omega)).trans hk
      refine wpIn_mono (hbody _ _ pre A c o sg _ (hIput _ _ _ _ _ hi (by omega) hl rfl) hol hor (C_putLoop hC hl) hcap) ?_
      rintro e a3 W3 ⟨rfl, hi3, hk3⟩
      have hsz2 : (W.putObj (W0.heap.size + 1) (.loop { rec .ready none with state := .busy })).heap.size = W.heap.size := by simp [World.putObj]
      have hl3 : W3.heap[W0.heap.size + 1]? = some (.loop { rec .ready none with state := .busy }) := (hk3.2 _ (by rw [hsz2]; exact hsz) (by omega)).trans hl2
      have hd3 : W3.heap[W0.heap.size]? = some (.deferred (some [])) := (hk3.2 _ (by rw [hsz2]; omega) (by omega)).trans hk2
      have hr := run_endRound (P := Try.prog) none hl3
      have hlt3 := (Array.getElem?_eq_some_iff.1 hl3).1
      have hsz4 : (W3.putObj (W0.heap.size + 1) (.loop (rec .ready none))).heap.size = W3.heap.size := by simp [World.putObj]
      refine ⟨_, _, hr, rfl, ⟨hIput _ _ _ _ _ hi3 (by omega) hl3 rfl, ?_, ?_, ?_⟩, ?_⟩
      · rw [hrec]; exact World.putObj_heap_same hlt3
      · exact (World.putObj_heap_other (by omega)).trans hd3
      · simp [World.putObj]; omega
      · refine ⟨by have := hk3.1; rw [hsz2] at this; simp [World.putObj]; omega, fun i hi h1 h2 => ?_⟩
        exact (World.putObj_heap_other h2).trans ((hk3.2 i (by rw [hsz2]; exact hi) h1).trans (World.putObj_heap_other h2))
    · -- what the iterator's own steps keep
      rintro pre W ⟨hi, hl, hk, hsz⟩
      exact ⟨hsz, by omega, fun W' hb => ⟨hIal _ _ _ hi hb, (hb.block _ hsz).trans hl, (hb.block _ (by omega)).trans hk, Nat.lt_of_lt_of_le hsz hb.size⟩⟩
    · rintro e W2 ⟨rfl, hi, hl, hk, hsz⟩
      exact ⟨none, _, by have := run_endLoop (P := Try.prog) hl (by rw [hrec]; simp); rw [hrec] at this; exact this, hdone _ _ (hIput _ _ _ _ _ hi (by omega) hl rfl) ((World.putObj_heap_other (by omega)).trans hk) (Nat.le_refl _)⟩
set_option maxHeartbeats 4000000 in
set_option maxRecDepth 100000 in
theorem dam_determinant.calls (A0 : Option Addr) (c0 : Nat) (l0 : List (List Int)) (r : Int) (w : World) (hr0 : Kd.C (Kd.slice 3 (Kd.int .i64)) w A0 l0.length l0) (hc0 : l0.length ≤ c0) (h : dam_determinant.f l0 = some r) :
    Calls Try.prog 82 #[.slice A0 l0.length c0] w fun e w' => e = .returned (.int .i64 r) ∧ Below w.heap.size w w' := by
  unfold dam_determinant.f at h
  split at h
  case isFalse => exact absurd h (by simp)
  case isTrue hb =>
    obtain ⟨hlen, hrows⟩ := hb
    have hr : r = _ := (Option.some.inj h).symm
    have HR := Aside0.mk hr
    have HROWS := Aside0.mk hrows
    have HC := Aside0.mk hr0
    clear h hr hrows hr0
    refine (callsIn_wide (n := 100)).1 ?_
    refine callsIn_of_wp_marks Try.func82 rfl trivial ?_ rfl
    simp only [Try.ntmps82, List.size_toArray, List.length_cons, List.length_nil, Nat.reduceAdd, Nat.reduceSub, Array.replicate_succ, Array.replicate_zero, List.push_toArray, List.append_toArray, List.nil_append, List.cons_append]
    gi_wp2_with fail
    refine ⟨trivial, ?_⟩
    refine (callsIn_wide.2 (orders_calls _ _)).mono ?_
    rintro e w' ⟨rfl, rfl⟩
    gi_wp2_with fail
    obtain ⟨W0, hW0⟩ : ∃ W0, ((w.alloc (Obj.cells #[Value.slice A0 l0.length c0] 127)).alloc (Obj.cells #[Value.int IntKind.i64 0] 3)).alloc (Obj.cells #[Value.int IntKind.i64 (l0.length : Int)] 3) = W0 := ⟨_, rfl⟩
    have hsz : W0.heap.size = w.heap.size + 3 := by rw [← hW0]; simp
    have hb1 : W0.heap[w.heap.size]? = some (.cells #[Value.slice A0 l0.length c0] 127 (0, 0)) := by rw [← hW0]; exact blk_alloc (blk_alloc (blk_new _ _) _) _
    have hbs : W0.heap[w.heap.size + 1]? = some (.cells #[Value.int IntKind.i64 0] 3 (0, 0)) := by
      rw [← hW0]
      refine blk_alloc ?_ _
      have := blk_new (w.alloc (Obj.cells #[Value.slice A0 l0.length c0] 127)) (Obj.cells #[Value.int IntKind.i64 0] 3)
      rwa [World.size_alloc] at this
    have hbB : W0.heap[w.heap.size + 2]? = some (.cells #[Value.int IntKind.i64 (l0.length : Int)] 3 (0, 0)) := by
      rw [← hW0]
      have := blk_new ((w.alloc (Obj.cells #[Value.slice A0 l0.length c0] 127)).alloc (Obj.cells #[Value.int IntKind.i64 0] 3)) (Obj.cells #[Value.int IntKind.i64 (l0.length : Int)] 3)
      rwa [World.size_alloc, World.size_alloc] at this
    have hbel : Below w.heap.size w W0 := by rw [← hW0]; exact below_alloc (below_alloc (below_alloc (Below.refl _ _) _) _) _
    rw [hW0]
    clear hW0
    have HW0 := Aside0.mk (show W0.heap.size = w.heap.size + 3 from hsz)
    clear hsz
    refine wpIn_range_ord (n := 99) (count := l0.length) (s := w.heap.size + 1) (gf := 122) (B := w.heap.size + 1 + 1) (xs := permsOf l0.length l0.length [] 1) rfl (fun args w => by rfl) rfl (by have := HW0.out; omega)
      (fun pre W => W.heap[w.heap.size + 1]? = some (.cells #[.int .i64 (detSum l0 pre)] 3 (0, 0)) ∧ W.heap[w.heap.size]? = some (.cells #[.slice A0 l0.length c0] 127 (0, 0)) ∧ Below w.heap.size w W)
      ?put ?al ⟨hbs, hb1, hbel⟩ ?iter
      (fun A c o sg => { tmps := #[.slice A0 l0.length c0, .pointer (some ⟨w.heap.size, 0, none⟩), .int .i64 0, .pointer (some ⟨w.heap.size + 1, 0, none⟩), .slice A o.length c, .int .i64 sg, undef, undef, undef, .slice A0 l0.length c0, .int .i64 (l0.length : Int), .func (.func 122) #[] #[.pointer (some ⟨w.heap.size + 1 + 1, 0, none⟩)], .slice A o.length c, .int .i64 sg, undef, undef, undef, undef, undef, undef, undef, undef, undef, undef, undef, undef, undef, undef, undef, undef, undef, undef, undef, undef, undef, undef], defers := [] })
      ?assign ?body ?done
    case put =>
      rintro pre W l o o' ⟨h1, h2, h3⟩ hl ho hcell
      have := HW0.out
      exact ⟨(World.putObj_heap_other (by omega)).trans h1, (World.putObj_heap_other (by omega)).trans h2, h3.trans ((Below.refl _ W).grown (grownBy_putObj' W l o') h3.size (fun k e => by cases e; omega))⟩
    case al =>
      rintro pre W W' ⟨h1, h2, h3⟩ hb
      exact ⟨blk_below h1 hb, blk_below h2 hb, below_step h3 hb⟩
    case iter =>
      intro l m J W hY hK hb hJ
      exact orders1_in l0.length l _ hlen J hY hK m _ W ((blk_cell (blk_below hbB hb) 0).trans rfl) hJ
    case assign =>
      intro l m A c o sg W K hK
      gi_wp2
      exact hK
    case body =>
      rintro l m pre A c o sg W ⟨h1, h2, h3⟩ hol hor hC hcap
      have hc1 := (blk_cell h1 0).trans rfl
      have hf1 := blk_frozen h1 0
      have hc2 := (blk_cell h2 0).trans rfl
      have H1 := Aside0.mk h1
      have H2 := Aside0.mk h2
      have H3 := Aside0.mk h3
      have HOL := Aside0.mk hol
      have HOR := Aside0.mk hor
      have HCO := Aside0.mk hC
      clear h1 h2 h3 hor hC hb1 hbs hbB hbel
      have holt : o.length ≤ 1000 := by omega
      clear hol
      gi_wp2
      gi_loopw [6, 7, 8, 17] (fun s6 _ _ s17 wr => ∃ k : Nat, k ≤ o.length ∧ s17 = .int .i64 k ∧ s6 = .int .i64 (prodTo l0 o sg k) ∧ wr = W) (fun _ _ _ s17 _ => o.length - (intOf s17).toNat)
      case atStart => exact ⟨0, Nat.zero_le _, rfl, rfl, rfl⟩
      case round =>
        obtain ⟨k, hk, rfl, rfl, rfl⟩ := hrel
        by_cases hlt : k < o.length
        · have hltz : (k : Int) < (o.length : Int) := by omega
          have hkl : k < l0.length := by have := HOL.out; omega
          obtain ⟨ad, e1, hx1⟩ := Kd.at_int HCO.out (k : Int) (by omega) (by omega)
          cases e1
          rw [Int.toNat_natCast] at hx1
          obtain ⟨ad2, cs2, e2, _, ⟨A3, c3, rfl, hle3, hC3⟩, hcell2⟩ := Kd.C_get (Kd.C_below HC.out H3.out) ([] : List Int) (k : Int) (by omega) (by omega)
          cases e2
          have hx2 := hcell2 0 _ rfl
          rw [Int.toNat_natCast] at hx2 hC3 hle3
          simp only [show (Kd.slice 3 (Kd.int .i64)).sz = 1 from rfl, Nat.mul_one, Nat.add_zero] at hx2
          have hrl : (l0.getD k []).length = l0.length := by
            refine HROWS.out _ ?_
            rw [List.getD_eq_getElem?_getD, List.getElem?_eq_getElem hkl]
            exact List.getElem_mem hkl
          obtain ⟨q, hq⟩ : ∃ q, q = rd o (k : Int) := ⟨_, rfl⟩
          have hqr : 0 ≤ q ∧ q < (l0.length : Int) := by
            have := HOR.out q (by
              rw [hq]
              show o.getD (k : Int).toNat 0 ∈ o
              rw [Int.toNat_natCast, List.getD_eq_getElem?_getD, List.getElem?_eq_getElem hlt]
              exact List.getElem_mem hlt)
            exact this
          obtain ⟨ad3, e3, hx3⟩ := Kd.at_int hC3 q hqr.1 (by rw [hrl]; exact hqr.2)
          cases e3
          rw [← hq] at hx1
          have hstep : prodTo l0 o sg (k + 1) = wrap64 (prodTo l0 o sg k * rd (l0.getD k []) q) := by
            simp only [prodTo]
            rw [hq]
            rfl
          obtain ⟨z, hz⟩ : ∃ z, z = rd (l0.getD k []) q := ⟨_, rfl⟩
          rw [← hz] at hx3 hstep
          have HST := Aside0.mk hstep
          have hq0 := hqr.1
          have hq1 : q < ((l0.getD k []).length : Int) := by rw [hrl]; exact hqr.2
          obtain ⟨nn, hnn⟩ : ∃ nn, nn = (l0.getD k []).length := ⟨_, rfl⟩
          rw [← hnn] at hq1 hx2
          have hkz : (k : Int) < (l0.length : Int) := by omega
          clear hq hqr hz hstep hrl hcell2 hC3 hle3 hnn
          gi_wp2
          go_roundw
          case rel => exact ⟨k + 1, by omega, by go_num, by rw [HST.out], by first | trivial | rfl⟩
          case measure => simp [intOf]; omega
        · obtain rfl : k = o.length := by omega
          have hd : detSum l0 (pre ++ [(o, sg)]) = wrap64 (detSum l0 pre + prodTo l0 o sg o.length) := by rw [detSum_snoc, HOL.out]
          have HD := Aside0.mk hd
          clear hd
          gi_wp2
          refine ⟨⟨?_, blk_far H2.out (by simp) _, below_set H3.out (by omega)⟩, ?_, fun i hi hne => Below.heap_setCell _ _ _ _ hne⟩
          · rw [HD.out]
            exact blk_put H1.out 0 _ rfl
          · simp [World.setCell]
    case done =>
      rintro D W ⟨h1, h2, h3⟩ hD hle
      have hc1 := (blk_cell h1 0).trans rfl
      have H3 := Aside0.mk h3
      have HR2 := Aside0.mk (show r = detSum l0 (permsOf l0.length l0.length [] 1) from HR.out)
      have HLE := Aside0.mk (show w.heap.size ≤ D from by have := HW0.out; omega)
      gi_wp2
      refine ⟨by simp, .inl ⟨_, _, rfl, run_takeDeferred hD, ?_⟩⟩
      refine ⟨_, results_tmp rfl _ _ _, ?_, ?_⟩
      · rw [HR2.out]; rfl
      · exact H3.out.trans ((Below.refl _ W).grown (grownBy_putObj' W D _) H3.out.size (fun k e => by cases e; exact HLE.out))
end
end Go.Proofs.Yteopooljohdoiaa.Px
namespace Go.Proofs.Yteopooljohdoiaa.Px
open Go.RowKit Go.Proofs.YteopooljohdoiaaW.PrintWords Go.Proofs.YteopooljohdoiaaW.PrintLast Go.Proofs.YteopooljohdoiaaW.PrintMore
attribute [local go_sem] max2_int min2_int max_two min_two max_three min_three max_four min_four
def isSmall (n : Int) : Prop := -4611686018427387904 ≤ n ∧ n ≤ 4611686018427387904
instance (n : Int) : Decidable (isSmall n) := inferInstanceAs (Decidable (_ ∧ _))
def gcdOf (a : Int) (l : List Int) : Nat := l.foldl (fun g b => Nat.gcd g b.natAbs) a.natAbs
theorem gcd_step (a b : Int) (g : Nat) (h : Nat.gcd a.natAbs b.natAbs = g) : Nat.gcd b.natAbs (Int.tmod a b).natAbs = g := by
  rw [← h, Int.natAbs_tmod, Nat.gcd_comm a.natAbs, Nat.gcd_rec b.natAbs a.natAbs, Nat.gcd_comm]
theorem tmod_less (a b : Int) (h : ¬ b = 0) : (Int.tmod a b).natAbs < b.natAbs := by
  rw [Int.natAbs_tmod]
  exact Nat.mod_lt _ (by omega)
def dam_divisor.f (a0_0 : Int) (a0_1 : Int) (a0_2 : Int) (a0_3 : Int) (a0_4 : Int) (a0_5 : Int) : Option Int := if isSmall a0_0 ∧ isSmall a0_1 ∧ isSmall a0_2 ∧ isSmall a0_3 ∧ isSmall a0_4 ∧ isSmall a0_5 then some (gcdOf a0_0 [a0_1, a0_2, a0_3, a0_4, a0_5] : Nat) else none
set_option maxHeartbeats 8000000 in
set_option maxRecDepth 100000 in
theorem dam_divisor.calls (a0_0 : Int) (a0_1 : Int) (a0_2 : Int) (a0_3 : Int) (a0_4 : Int) (a0_5 : Int) (r : Int) (w : World) (h : dam_divisor.f a0_0 a0_1 a0_2 a0_3 a0_4 a0_5 = some r) :
    Calls Try.prog 83 #[.agg #[.int .i64 a0_0, .int .i64 a0_1, .int .i64 a0_2, .int .i64 a0_3, .int .i64 a0_4, .int .i64 a0_5]] w fun e w' => e = .returned (.int .i64 r) ∧ Below w.heap.size w w' := by
  have hu := Try.underlying69
  have hu2 := Try.underlying54
  unfold dam_divisor.f at h
  split at h
  case isFalse => exact absurd h (by simp)
  case isTrue hb =>
    have hr : r = _ := (Option.some.inj h).symm
    clear h
    have HR := Aside0.mk hr
    clear hr
    have HBD := Aside0.mk hb
    clear hb
    obtain ⟨xs, hxs⟩ : ∃ xs, xs = [a0_1, a0_2, a0_3, a0_4, a0_5] := ⟨_, rfl⟩
    have HXS := Aside0.mk hxs
    rw [← hxs] at HR
    have hidx0 : ∀ (k : Nat) (w : World), k < 5 → (Instr.index 54 (.agg #[.int .i64 a0_1, .int .i64 a0_2, .int .i64 a0_3, .int .i64 a0_4, .int .i64 a0_5]) (.int .i64 (k : Int))).run Try.prog w = .ok (.int .i64 (xs.getD k 0)) w := by
      intro k w hk
      subst hxs
      rcases (show k = 0 ∨ k = 1 ∨ k = 2 ∨ k = 3 ∨ k = 4 by omega) with rfl | rfl | rfl | rfl | rfl <;> kernel_rfl
    have HIDX := Aside0.mk hidx0
    clear hidx0 hxs
    go_enter Try.func83, Try.ntmps83
    go_wp2
    go_loopg [3, 5, 10] 5 (fun gg s3 _ s10 wr => ∃ (kk : Nat) (a : Int), kk ≤ 5 ∧ 5 - kk ≤ gg ∧ s10 = .int .i64 kk ∧ s3 = .int .i64 a ∧ Aside0 (isSmall a ∧ a.natAbs = gcdOf a0_0 (xs.take kk)) ∧ Aside0 (Below w.heap.size w wr))
    case atStart => exact ⟨0, a0_0, by omega, by omega, rfl, rfl, ⟨HBD.out.1, by simp [gcdOf]⟩, ⟨below_alloc (Below.refl _ _) _⟩⟩
    case round =>
      obtain ⟨kk, a, hkk, hg, rfl, rfl, HA, HB⟩ := hrel
      by_cases hlt : kk < 5
      · have hltz : (kk : Int) < 5 := by omega
        have hidx : ∀ w, (Instr.index 54 (.agg #[.int .i64 a0_1, .int .i64 a0_2, .int .i64 a0_3, .int .i64 a0_4, .int .i64 a0_5]) (.int .i64 (kk : Int))).run Try.prog w = .ok (.int .i64 (xs.getD kk 0)) w := fun w => HIDX.out kk w hlt
        have hsm : isSmall (xs.getD kk 0) := by
          have h1 := HBD.out
          rw [HXS.out]
          match kk, hlt with
          | 0, _ => exact h1.2.1
          | 1, _ => exact h1.2.2.1
          | 2, _ => exact h1.2.2.2.1
          | 3, _ => exact h1.2.2.2.2.1
          | 4, _ => exact h1.2.2.2.2.2
        have hstep : gcdOf a0_0 (xs.take (kk + 1)) = Nat.gcd (gcdOf a0_0 (xs.take kk)) (xs.getD kk 0).natAbs := by
          have hl : kk < xs.length := by rw [HXS.out]; exact hlt
          rw [List.take_succ_eq_append_getElem hl, show xs.getD kk 0 = xs[kk] from by rw [List.getD_eq_getElem?_getD, List.getElem?_eq_getElem hl]; rfl]
          simp only [gcdOf, List.foldl_append, List.foldl_cons, List.foldl_nil]
        generalize xs.getD kk 0 = b0 at hidx hsm hstep
        have HSM := Aside0.mk hsm
        have HST := Aside0.mk hstep
        clear hsm hstep
        obtain ⟨wo, rfl⟩ : ∃ wo : World, wo = wr := ⟨_, rfl⟩
        go_wp2
        go_loopg [3, 5] b0.natAbs (fun gg s3 s5 wr => ∃ (a2 b2 : Int), s3 = .int .i64 a2 ∧ s5 = .int .i64 b2 ∧ b2.natAbs ≤ gg ∧ Aside0 (isSmall a2 ∧ isSmall b2 ∧ Nat.gcd a2.natAbs b2.natAbs = Nat.gcd a.natAbs b0.natAbs) ∧ Aside0 (Below w.heap.size w wr))
        case atStart => exact ⟨a, b0, rfl, rfl, Nat.le_refl _, ⟨HA.out.1, HSM.out, rfl⟩, HB⟩
        case round =>
          obtain ⟨a2, b2, rfl, rfl, hg2, HA2, HB2⟩ := hrel
          by_cases hz : b2 = 0
          · subst hz
            go_wp2
            go_roundg (5 - (kk + 1))
            case measure => omega
            case rel =>
              refine ⟨kk + 1, a2, by omega, by omega, by go_num, rfl, ⟨HA2.out.1, ?_⟩, HB2⟩
              have := HA2.out.2.2
              rw [HST.out, ← HA.out.2, ← this]
              simp
          · have hz1 : (b2 != 0) = true := bne_iff_ne.2 hz
            have hz2 : (b2 == 0) = false := beq_eq_false_iff_ne.2 hz
            have hm := tmod_less a2 b2 hz
            go_wp2
            go_quiet (fail)
            go_wp2
            go_roundg (Int.tmod a2 b2).natAbs
            case measure => omega
            case rel =>
              refine ⟨b2, Int.tmod a2 b2, rfl, rfl, Nat.le_refl _, ⟨HA2.out.2.1, ?_, gcd_step a2 b2 _ HA2.out.2.2⟩, ⟨pw_below_drewN HB2.out _⟩⟩
              have h3 := HA2.out.2.1
              unfold isSmall at *
              omega
      · have hltz : ¬ (kk : Int) < 5 := by omega
        obtain rfl : kk = 5 := by omega
        have hs : dam_size.f a = some r := by
          have h1 := HA.out.1
          have h2 := HA.out.2
          have h3 : xs.take 5 = xs := by rw [HXS.out]; rfl
          rw [h3] at h2
          rw [HR.out, ← h2]
          unfold dam_size.f mx
          unfold isSmall at h1
          rw [show wrap64 (-a) = -a from by unfold wrap64; omega]
          congr 1
          omega
        have HS := Aside0.mk hs
        clear hs
        go_wp2_with (go_at_call 86; refine (dam_size.calls _ _ _ HS.out).mono ?_; rintro e w' ⟨rfl, hb⟩; have HB3 := Aside0.mk hb; clear hb)
        go_ret
        exact ⟨rfl, below_step HB.out HB3.out⟩
def okPart (n : Int) : Bool := decide (-1000000000000 ≤ n) && decide (n ≤ 1000000000000)
def dam_fitErr.f (a0_0 : Int) (a0_1 : Int) (a0_2 : Int) (a0_3 : Int) (a0_4 : Int) (a0_5 : Int) : Option Int := some (if (decide (1 ≤ a0_0) && decide (a0_0 ≤ 1000000000000)) && !([a0_1, a0_2, a0_3, a0_4, a0_5].any fun n => !okPart n) then 0 else 2)
set_option maxHeartbeats 8000000 in
set_option maxRecDepth 100000 in
theorem fitErr_part (n : Int) (w : World) : Calls Try.prog 112 #[.int .i64 n] w fun e w' => e = .returned (.bool (!okPart n)) ∧ Below w.heap.size w w' := by
  have h1 : dam_isSized.f n 1000000000000 = some (okPart n) := by
    unfold dam_isSized.f dam_within.f okPart
    rw [show wrap64 (-1000000000000) = -1000000000000 from by decide +kernel]
    by_cases h : -1000000000000 ≤ n <;> simp [h]
  have H := Aside0.mk h1
  clear h1
  obtain ⟨b, hb⟩ : ∃ b, b = okPart n := ⟨_, rfl⟩
  rw [← hb] at H
  rw [← hb]
  clear hb
  go_enter Try.func112, Try.ntmps112
  go_wp2_with (go_at_call 78; refine (dam_isSized.calls _ _ _ _ H.out).mono ?_; rintro e w' ⟨rfl, ⟨nd, rfl⟩⟩)
  go_ret
  exact ⟨rfl, ((Drawn0.refl w).step nd).below⟩
set_option maxHeartbeats 8000000 in
set_option maxRecDepth 100000 in
theorem dam_fitErr.calls (a0_0 : Int) (a0_1 : Int) (a0_2 : Int) (a0_3 : Int) (a0_4 : Int) (a0_5 : Int) (r : Int) (w : World) (h : dam_fitErr.f a0_0 a0_1 a0_2 a0_3 a0_4 a0_5 = some r) :
    Calls Try.prog 84 #[.agg #[.int .i64 a0_0, .int .i64 a0_1, .int .i64 a0_2, .int .i64 a0_3, .int .i64 a0_4, .int .i64 a0_5]] w fun e w' => e = .returned (.int .i64 r) ∧ Below w.heap.size w w' := by
  have hu := Try.underlying69
  have hu2 := Try.underlying54
  have hr : r = if (decide (1 ≤ a0_0) && decide (a0_0 ≤ 1000000000000)) && !([a0_1, a0_2, a0_3, a0_4, a0_5].any fun n => !okPart n) then 0 else 2 := (Option.some.inj h).symm
  clear h
  have HR := Aside0.mk hr
  clear hr
  have hC : Kd.C (Kd.int .i64) (w.alloc (.cells #[.int .i64 a0_0, .int .i64 a0_1, .int .i64 a0_2, .int .i64 a0_3, .int .i64 a0_4, .int .i64 a0_5] 69)) (some ⟨w.heap.size, 1, none⟩) [a0_1, a0_2, a0_3, a0_4, a0_5].length [a0_1, a0_2, a0_3, a0_4, a0_5] := by
    refine Kd.C_of_reads (d := (0 : Int)) (h1 := fun _ => rfl) ⟨rfl, by simp, fun _ => ⟨_, rfl, fun j hj => ?_⟩⟩
    have hb := blk_new w (.cells #[.int .i64 a0_0, .int .i64 a0_1, .int .i64 a0_2, .int .i64 a0_3, .int .i64 a0_4, .int .i64 a0_5] 69)
    have hj : j < 5 := hj
    match j, hj with
    | 0, _ => exact (blk_cell hb 1).trans rfl
    | 1, _ => exact (blk_cell hb 2).trans rfl
    | 2, _ => exact (blk_cell hb 3).trans rfl
    | 3, _ => exact (blk_cell hb 4).trans rfl
    | 4, _ => exact (blk_cell hb 5).trans rfl
  have HI := Aside0.mk (hContainsInt 112 #[] (fun n => !okPart n) (fun args w => by rfl) (some ⟨w.heap.size, 1, none⟩) 5 [a0_1, a0_2, a0_3, a0_4, a0_5] _ hC (fun W x _ _ => fitErr_part x W))
  clear hC
  obtain ⟨q, hq⟩ : ∃ q, q = [a0_1, a0_2, a0_3, a0_4, a0_5].any (fun n => !okPart n) := ⟨_, rfl⟩
  rw [← hq] at HI HR
  clear hq
  have hw : dam_within.f a0_0 1 1000000000000 = some (decide (1 ≤ a0_0) && decide (a0_0 ≤ 1000000000000)) := by
    unfold dam_within.f
    by_cases h : 1 ≤ a0_0 <;> simp [h]
  obtain ⟨q1, hq1⟩ : ∃ q1, q1 = (decide (1 ≤ a0_0) && decide (a0_0 ≤ 1000000000000)) := ⟨_, rfl⟩
  rw [← hq1] at hw HR
  clear hq1
  have HW := Aside0.mk hw
  clear hw
  have hun : dam_unless.f (q1 && !q) 2 = some r := by
    rw [HR.out]
    unfold dam_unless.f
    cases q1 <;> cases q <;> rfl
  have HU := Aside0.mk hun
  clear hun
  cases q1 <;> cases q
  all_goals
    go_enter Try.func84, Try.ntmps84
    go_wp2_with (first | (go_at_call 91; refine HI.out.mono ?_; rintro e w1 ⟨rfl, hb1⟩; have hcl := (blk_cell (blk_below (blk_new w _) hb1) 0).trans rfl; have HB1 := Aside0.mk hb1; clear hb1) | (go_at_call 65; refine (dam_within.calls _ _ _ _ _ HW.out).mono ?_; rintro e w2 ⟨rfl, hb2⟩; have HB2 := Aside0.mk hb2.below; clear hb2) | (go_at_call 64; refine (dam_unless.calls _ _ _ _ HU.out).mono ?_; rintro e w3 ⟨rfl, hb3⟩; have HB3 := Aside0.mk hb3.below; clear hb3))
    go_ret
    exact ⟨rfl, below_step (below_step (below_step (below_alloc (Below.refl _ _) _) HB1.out) HB2.out) HB3.out⟩
end Go.Proofs.Yteopooljohdoiaa.Px
