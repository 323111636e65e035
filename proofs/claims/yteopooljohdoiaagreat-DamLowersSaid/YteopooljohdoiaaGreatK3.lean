/- Contracts of the program's functions and plain words (part 3): each says what a call answers and that what lay in memory lies; no condition but what stands in each theorem -/
import Derived.Test.YteopooljohdoiaaGreatK1
import Derived.Test.YteopooljohdoiaaGreatK2
import Derived.Test.YteopooljohdoiaaGreatWWords
import Derived.Test.YteopooljohdoiaaGreatWLast
import Derived.ProofKit
import Derived.Deep.Slices
set_option linter.unusedVariables false
set_option linter.unusedSimpArgs false
namespace Go.Proofs.YteopooljohdoiaaGreat.Px
open Go.RowKit Go.Proofs.YteopooljohdoiaaGreatW.PrintWords Go.Proofs.YteopooljohdoiaaGreatW.PrintLast Go.Proofs.YteopooljohdoiaaGreatW.PrintMore
attribute [local go_sem] max2_int min2_int max_two min_two max_three min_three max_four min_four
set_option maxHeartbeats 8000000 in
set_option maxRecDepth 100000 in
theorem insNil_calls (f : Value) (w : World) :
    Calls Tryz.prog 176 #[.slice none 0 0, .int .i64 0, .int .i64 0, f] w fun e w' => e = .returned (.tuple #[]) ∧ Below w.heap.size w w' := by
  go_enter Tryz.func176, Tryz.ntmps176
  go_wp2
  go_loopg [8] 0 (fun gg s8 W => s8 = .int .i64 1 ∧ W = w)
  case atStart => exact ⟨rfl, rfl⟩
  case round =>
    obtain ⟨rfl, rfl⟩ := hrel
    go_wp2
    first | go_end0 | (refine bodyPost_ret (results_none rfl _ _ _) rfl ?_)
    exact ⟨rfl, Below.refl _ _⟩
set_option maxHeartbeats 8000000 in
set_option maxRecDepth 100000 in
theorem stableCmp_calls (ad : Option Addr) (n cap : Nat) (f : Value) (w : World) (Q : World → Prop) (hn : n < 20)
    (hi : Calls Tryz.prog 176 #[.slice ad n cap, .int .i64 0, .int .i64 (n : Int), f] w fun e w' => e = .returned (.tuple #[]) ∧ Q w') :
    Calls Tryz.prog 163 #[.slice ad n cap, .int .i64 (n : Int), f] w fun e w' => e = .returned (.tuple #[]) ∧ Q w' := by
  have HI := Aside0.mk hi
  have h1 : ¬ (20 : Int) ≤ (n : Int) := by omega
  have h2 : ¬ (20 : Int) < (n : Int) := by omega
  clear hi
  go_enter Tryz.func163, Tryz.ntmps163
  go_wp2
  go_loopg [7, 8] 0 (fun gg s7 s8 W => s7 = .int .i64 0 ∧ s8 = .int .i64 20 ∧ W = w)
  case atStart => exact ⟨rfl, rfl, rfl⟩
  case round =>
    obtain ⟨rfl, rfl, rfl⟩ := hrel
    go_wp2_with (go_at_call 176; refine HI.out.mono ?_; rintro e w2 ⟨rfl, hq⟩; have HQ := Aside0.mk hq; clear hq)
    go_loopg [6] 0 (fun gg s6 W => s6 = .int .i64 20 ∧ W = w2)
    case atStart => exact ⟨rfl, rfl⟩
    case round =>
      obtain ⟨rfl, rfl⟩ := hrel
      go_wp2
      first | go_end0 | (refine bodyPost_ret (results_none rfl _ _ _) rfl ?_)
      exact ⟨rfl, HQ.out⟩
set_option maxHeartbeats 8000000 in
set_option maxRecDepth 100000 in
theorem sortStable_calls (ad : Option Addr) (n cap : Nat) (f : Value) (w : World) (Q : World → Prop) (hn : n < 20)
    (hi : Calls Tryz.prog 176 #[.slice ad n cap, .int .i64 0, .int .i64 (n : Int), f] w fun e w' => e = .returned (.tuple #[]) ∧ Q w') :
    Calls Tryz.prog 141 #[.slice ad n cap, f] w fun e w' => e = .returned (.tuple #[]) ∧ Q w' := by
  have HS := Aside0.mk (stableCmp_calls ad n cap f w Q hn hi)
  clear hi
  go_enter Tryz.func141, Tryz.ntmps141
  go_wp2_with (go_at_call 163; refine HS.out.mono ?_; rintro e w2 ⟨rfl, hq⟩; have HQ := Aside0.mk hq; clear hq)
  first | go_end0 | (refine bodyPost_ret (results_none rfl _ _ _) rfl ?_)
  exact ⟨rfl, HQ.out⟩
theorem own_two {w : World} {B : Nat} {ok : Nat → Prop} {v : Value} {xs : List Int} (h : Kd.R (Kd.int .i64) 3 w B ok v xs) : (v = .slice none 0 0 ∧ xs = []) ∨ ∃ g cap, v = .slice (some ⟨g, 0, none⟩) xs.length cap ∧ B ≤ g := by
  obtain ⟨inner, ho⟩ := Kd.R_own h
  rcases ho.2 with ⟨rfl, h0⟩ | ⟨g, cap, cur, rfl, hg, _⟩
  · exact .inl ⟨rfl, List.eq_nil_of_length_eq_zero h0⟩
  · exact .inr ⟨g, cap, rfl, hg⟩
theorem sortStable_own (gf : Nat) (lb : Array Value) (lt : Int → Int → Bool) (p : Int → Prop) (B : Nat) (xs : List Int) (v : Value) (w : World) (ok : Nat → Prop) (eg : ∀ args w, (callFunc gf args).run Tryz.prog w = .ok (.enter gf args) w)
    (hR : Kd.R (Kd.int .i64) 3 w B ok v xs) (hl : xs.length < 20) (hp : ∀ x ∈ xs, p x) (hc : ∀ g, B ≤ g → CmpB Tryz.prog gf lb lt p g w) :
    Calls Tryz.prog 141 #[v, .func (.func gf) #[] lb] w fun e w' => e = .returned (.tuple #[]) ∧ Kd.R (Kd.int .i64) 3 w' B ok v (insTo lt xs.length xs) ∧ ∃ g, B ≤ g ∧ ButG w w' g := by
  rcases own_two hR with ⟨rfl, rfl⟩ | ⟨g, cap, rfl, hg⟩
  · refine (sortStable_calls none 0 0 (.func (.func gf) #[] lb) w (fun w' => Below w.heap.size w w') (by decide) (insNil_calls _ _)).mono ?_
    rintro e w' ⟨rfl, hb⟩
    exact ⟨rfl, Kd.R_below hR hb, B, Nat.le_refl _, (ButG.refl w B).below hb⟩
  · refine (sortStable_calls (some ⟨g, 0, none⟩) xs.length cap (.func (.func gf) #[] lb) w (fun w' => Kd.R (Kd.int .i64) 3 w' B ok (.slice (some ⟨g, 0, none⟩) xs.length cap) (insTo lt xs.length xs) ∧ ButG w w' g) hl (insCmp_calls gf lb lt p g cap xs.length B xs w ok eg hR hp (hc g hg))).mono ?_
    rintro e w' ⟨rfl, h1, h2⟩
    exact ⟨rfl, h1, g, hg, h2⟩
def cmp_Compare_int.f (a0 : Int) (a1 : Int) : Option (Int) := (cmp_isNaN_int.f a0).bind fun t429001 => ((cmp_isNaN_int.f a1).bind fun t429002 => (if t429001 = true then (if t429002 = true then (some 0) else (some (-1))) else (if t429002 = true then (some 1) else (if a0 < a1 then (some (-1)) else (if a0 > a1 then (some 1) else (some 0))))))
set_option maxHeartbeats 8000000 in
set_option maxRecDepth 100000 in
theorem cmp_Compare_int.calls (a0 : Int) (a1 : Int) (r : Int) (w : World) (h : cmp_Compare_int.f a0 a1 = some r) :
    Calls Tryz.prog 143 #[.int .i64 a0, .int .i64 a1] w fun e w' => e = .returned (.int .i64 r) ∧ Drawn0 w w' := by
  have H : ((cmp_isNaN_int.f a0).bind fun t429001 => ((cmp_isNaN_int.f a1).bind fun t429002 => (if t429001 = true then (if t429002 = true then (some 0) else (some (-1))) else (if t429002 = true then (some 1) else (if a0 < a1 then (some (-1)) else (if a0 > a1 then (some 1) else (some 0))))))) = some r := h
  clear h
  replace H := Option.bind_eq_some_iff.mp H
  obtain ⟨t429001, A30, H⟩ := H
  replace H : ((cmp_isNaN_int.f a1).bind fun t429002 => (if t429001 = true then (if t429002 = true then (some 0) else (some (-1))) else (if t429002 = true then (some 1) else (if a0 < a1 then (some (-1)) else (if a0 > a1 then (some 1) else (some 0)))))) = some r := H
  have A3 := Aside0.mk A30
  clear A30
  replace H := Option.bind_eq_some_iff.mp H
  obtain ⟨t429002, A40, H⟩ := H
  replace H : (if t429001 = true then (if t429002 = true then (some 0) else (some (-1))) else (if t429002 = true then (some 1) else (if a0 < a1 then (some (-1)) else (if a0 > a1 then (some 1) else (some 0))))) = some r := H
  have A4 := Aside0.mk A40
  clear A40
  by_cases c5 : t429001 = true
  · subst c5
    have H1 : (if t429002 = true then (some 0) else (some (-1))) = some r := by rw [if_pos rfl] at H; exact H
    clear H
    have H := H1
    clear H1
    by_cases c6 : t429002 = true
    · subst c6
      have H1 : (some 0) = some r := by rw [if_pos rfl] at H; exact H
      clear H
      have H := H1
      clear H1
      obtain rfl := Option.some.inj H
      go_enter Tryz.func143, Tryz.ntmps143
      go_wp2_with (first | ((with_reducible refine gate_callee (f := 164) rfl ?_); refine goesL_ (some 8) rfl rfl Tryz.func164 (by kernel_rfl) rfl #[.int .i64 a0] rfl (by (try simp only [List.map_toArray, List.map_cons, List.map_nil]); first | done | rfl | (simp only [List.length_drop, List.length_take]; rfl)) ?_; (with_reducible refine (cmp_isNaN_int.calls a0 true _ A3.out).mono ?_); rintro e w' ⟨rfl, ⟨nd, rfl⟩⟩; refine ⟨_, rfl, ?_⟩) | ((with_reducible refine gate_callee (f := 164) rfl ?_); refine goesL_ (some 10) rfl rfl Tryz.func164 (by kernel_rfl) rfl #[.int .i64 a1] rfl (by (try simp only [List.map_toArray, List.map_cons, List.map_nil]); first | done | rfl | (simp only [List.length_drop, List.length_take]; rfl)) ?_; (with_reducible refine (cmp_isNaN_int.calls a1 true _ A4.out).mono ?_); rintro e w' ⟨rfl, ⟨nd, rfl⟩⟩; refine ⟨_, rfl, ?_⟩))
      go_ret
      exact ⟨by first | rfl | (simp; done) | (simp [*]; done), by repeat (first | exact Drawn0.refl _ | apply Drawn0.step)⟩
    · replace c6 := Bool.eq_false_iff.mpr c6
      subst c6
      have H1 : (some (-1)) = some r := by rw [if_neg (show ¬ (false = true) by decide)] at H; exact H
      clear H
      have H := H1
      clear H1
      obtain rfl := Option.some.inj H
      go_enter Tryz.func143, Tryz.ntmps143
      go_wp2_with (first | ((with_reducible refine gate_callee (f := 164) rfl ?_); refine goesL_ (some 8) rfl rfl Tryz.func164 (by kernel_rfl) rfl #[.int .i64 a0] rfl (by (try simp only [List.map_toArray, List.map_cons, List.map_nil]); first | done | rfl | (simp only [List.length_drop, List.length_take]; rfl)) ?_; (with_reducible refine (cmp_isNaN_int.calls a0 true _ A3.out).mono ?_); rintro e w' ⟨rfl, ⟨nd, rfl⟩⟩; refine ⟨_, rfl, ?_⟩) | ((with_reducible refine gate_callee (f := 164) rfl ?_); refine goesL_ (some 10) rfl rfl Tryz.func164 (by kernel_rfl) rfl #[.int .i64 a1] rfl (by (try simp only [List.map_toArray, List.map_cons, List.map_nil]); first | done | rfl | (simp only [List.length_drop, List.length_take]; rfl)) ?_; (with_reducible refine (cmp_isNaN_int.calls a1 false _ A4.out).mono ?_); rintro e w' ⟨rfl, ⟨nd, rfl⟩⟩; refine ⟨_, rfl, ?_⟩))
      go_ret
      exact ⟨by first | rfl | (simp; done) | (simp [*]; done), by repeat (first | exact Drawn0.refl _ | apply Drawn0.step)⟩
  · replace c5 := Bool.eq_false_iff.mpr c5
    subst c5
    have H1 : (if t429002 = true then (some 1) else (if a0 < a1 then (some (-1)) else (if a0 > a1 then (some 1) else (some 0)))) = some r := by rw [if_neg (show ¬ (false = true) by decide)] at H; exact H
    clear H
    have H := H1
    clear H1
    by_cases c7 : t429002 = true
    · subst c7
      have H1 : (some 1) = some r := by rw [if_pos rfl] at H; exact H
      clear H
      have H := H1
      clear H1
      obtain rfl := Option.some.inj H
      go_enter Tryz.func143, Tryz.ntmps143
      go_wp2_with (first | ((with_reducible refine gate_callee (f := 164) rfl ?_); refine goesL_ (some 8) rfl rfl Tryz.func164 (by kernel_rfl) rfl #[.int .i64 a0] rfl (by (try simp only [List.map_toArray, List.map_cons, List.map_nil]); first | done | rfl | (simp only [List.length_drop, List.length_take]; rfl)) ?_; (with_reducible refine (cmp_isNaN_int.calls a0 false _ A3.out).mono ?_); rintro e w' ⟨rfl, ⟨nd, rfl⟩⟩; refine ⟨_, rfl, ?_⟩) | ((with_reducible refine gate_callee (f := 164) rfl ?_); refine goesL_ (some 10) rfl rfl Tryz.func164 (by kernel_rfl) rfl #[.int .i64 a1] rfl (by (try simp only [List.map_toArray, List.map_cons, List.map_nil]); first | done | rfl | (simp only [List.length_drop, List.length_take]; rfl)) ?_; (with_reducible refine (cmp_isNaN_int.calls a1 true _ A4.out).mono ?_); rintro e w' ⟨rfl, ⟨nd, rfl⟩⟩; refine ⟨_, rfl, ?_⟩))
      go_ret
      exact ⟨by first | rfl | (simp; done) | (simp [*]; done), by repeat (first | exact Drawn0.refl _ | apply Drawn0.step)⟩
    · replace c7 := Bool.eq_false_iff.mpr c7
      subst c7
      have H1 : (if a0 < a1 then (some (-1)) else (if a0 > a1 then (some 1) else (some 0))) = some r := by rw [if_neg (show ¬ (false = true) by decide)] at H; exact H
      clear H
      have H := H1
      clear H1
      by_cases c8 : a0 < a1
      · rw [if_pos c8] at H
        have c8b0 : decide (a0 < a1) = true := decide_eq_true c8
        clear c8
        obtain rfl := Option.some.inj H
        go_enter Tryz.func143, Tryz.ntmps143
        go_wp2_with (first | ((with_reducible refine gate_callee (f := 164) rfl ?_); refine goesL_ (some 8) rfl rfl Tryz.func164 (by kernel_rfl) rfl #[.int .i64 a0] rfl (by (try simp only [List.map_toArray, List.map_cons, List.map_nil]); first | done | rfl | (simp only [List.length_drop, List.length_take]; rfl)) ?_; (with_reducible refine (cmp_isNaN_int.calls a0 false _ A3.out).mono ?_); rintro e w' ⟨rfl, ⟨nd, rfl⟩⟩; refine ⟨_, rfl, ?_⟩) | ((with_reducible refine gate_callee (f := 164) rfl ?_); refine goesL_ (some 10) rfl rfl Tryz.func164 (by kernel_rfl) rfl #[.int .i64 a1] rfl (by (try simp only [List.map_toArray, List.map_cons, List.map_nil]); first | done | rfl | (simp only [List.length_drop, List.length_take]; rfl)) ?_; (with_reducible refine (cmp_isNaN_int.calls a1 false _ A4.out).mono ?_); rintro e w' ⟨rfl, ⟨nd, rfl⟩⟩; refine ⟨_, rfl, ?_⟩))
        go_ret
        exact ⟨by first | rfl | (simp; done) | (simp [*]; done), by repeat (first | exact Drawn0.refl _ | apply Drawn0.step)⟩
      · rw [if_neg c8] at H
        have c8b0 : decide (a0 < a1) = false := decide_eq_false c8
        clear c8
        by_cases c9 : a0 > a1
        · rw [if_pos c9] at H
          have c9b0 : decide (a1 < a0) = true := decide_eq_true c9
          clear c9
          obtain rfl := Option.some.inj H
          go_enter Tryz.func143, Tryz.ntmps143
          go_wp2_with (first | ((with_reducible refine gate_callee (f := 164) rfl ?_); refine goesL_ (some 8) rfl rfl Tryz.func164 (by kernel_rfl) rfl #[.int .i64 a0] rfl (by (try simp only [List.map_toArray, List.map_cons, List.map_nil]); first | done | rfl | (simp only [List.length_drop, List.length_take]; rfl)) ?_; (with_reducible refine (cmp_isNaN_int.calls a0 false _ A3.out).mono ?_); rintro e w' ⟨rfl, ⟨nd, rfl⟩⟩; refine ⟨_, rfl, ?_⟩) | ((with_reducible refine gate_callee (f := 164) rfl ?_); refine goesL_ (some 10) rfl rfl Tryz.func164 (by kernel_rfl) rfl #[.int .i64 a1] rfl (by (try simp only [List.map_toArray, List.map_cons, List.map_nil]); first | done | rfl | (simp only [List.length_drop, List.length_take]; rfl)) ?_; (with_reducible refine (cmp_isNaN_int.calls a1 false _ A4.out).mono ?_); rintro e w' ⟨rfl, ⟨nd, rfl⟩⟩; refine ⟨_, rfl, ?_⟩))
          go_ret
          exact ⟨by first | rfl | (simp; done) | (simp [*]; done), by repeat (first | exact Drawn0.refl _ | apply Drawn0.step)⟩
        · rw [if_neg c9] at H
          have c9b0 : decide (a1 < a0) = false := decide_eq_false c9
          clear c9
          obtain rfl := Option.some.inj H
          go_enter Tryz.func143, Tryz.ntmps143
          go_wp2_with (first | ((with_reducible refine gate_callee (f := 164) rfl ?_); refine goesL_ (some 8) rfl rfl Tryz.func164 (by kernel_rfl) rfl #[.int .i64 a0] rfl (by (try simp only [List.map_toArray, List.map_cons, List.map_nil]); first | done | rfl | (simp only [List.length_drop, List.length_take]; rfl)) ?_; (with_reducible refine (cmp_isNaN_int.calls a0 false _ A3.out).mono ?_); rintro e w' ⟨rfl, ⟨nd, rfl⟩⟩; refine ⟨_, rfl, ?_⟩) | ((with_reducible refine gate_callee (f := 164) rfl ?_); refine goesL_ (some 10) rfl rfl Tryz.func164 (by kernel_rfl) rfl #[.int .i64 a1] rfl (by (try simp only [List.map_toArray, List.map_cons, List.map_nil]); first | done | rfl | (simp only [List.length_drop, List.length_take]; rfl)) ?_; (with_reducible refine (cmp_isNaN_int.calls a1 false _ A4.out).mono ?_); rintro e w' ⟨rfl, ⟨nd, rfl⟩⟩; refine ⟨_, rfl, ?_⟩))
          go_ret
          exact ⟨by first | rfl | (simp; done) | (simp [*]; done), by repeat (first | exact Drawn0.refl _ | apply Drawn0.step)⟩
def okValley (ss : List S176) (hs : List Int) : Prop := (∀ s ∈ ss, (0 ≤ s.f0 ∧ s.f0 ≤ 1000000) ∧ (0 ≤ s.f1 ∧ s.f1 ≤ 1000000)) ∧ (∀ h ∈ hs, 0 ≤ h ∧ h ≤ 1000000)
instance (ss : List S176) (hs : List Int) : Decidable (okValley ss hs) := inferInstanceAs (Decidable (_ ∧ _))
def hearsP (x : Int) (s : S176) : Bool := decide (s.f0 - s.f1 ≤ x) && decide (x ≤ s.f0 + s.f1)
theorem getD_mem {α : Type} (l : List α) (i : Nat) (z : α) (h : i < l.length) : l.getD i z ∈ l := by
  rw [List.getD_eq_getElem?_getD, List.getElem?_eq_getElem h]
  exact List.getElem_mem h
theorem hears_f (ss : List S176) (hs : List Int) (s : S176) (h : Nat) (hv : okValley ss hs) (hs' : s ∈ ss) (hh : h < hs.length) : dam_valley_hears.f ss hs (h : Int) s.f0 s.f1 = some (hearsP (hs.getD h 0) s) := by
  have h1 := hv.1 s hs'
  have h2 := hv.2 _ (getD_mem hs h 0 hh)
  unfold dam_valley_hears.f
  rw [if_pos (by omega), if_pos (by omega), show rd hs (h : Int) = hs.getD h 0 from rfl]
  generalize hs.getD h 0 = x at *
  rw [w64 (by omega) (by omega)]
  unfold dam_size.f hearsP
  rw [w64 (n := -(x - s.f0)) (by omega) (by omega)]
  simp only [Option.bind_some, Option.some.injEq]
  unfold mx
  rw [← Bool.decide_and]
  apply decide_eq_decide.2
  (try split) <;> omega
theorem keep5 {wr W : World} {a b c d e : Addr} {u v x y z : Value} (ha : wr.cell? a = some u) (hb : wr.cell? b = some v) (hc : wr.cell? c = some x) (hd : wr.cell? d = some y) (he : wr.cell? e = some z) (h : Below wr.heap.size wr W) : W.cell? a = some u ∧ W.cell? b = some v ∧ W.cell? c = some x ∧ W.cell? d = some y ∧ W.cell? e = some z ∧ Below wr.heap.size wr W :=
  ⟨(h.cell (World.block_lt_of_cell? wr _ ha)).trans ha, (h.cell (World.block_lt_of_cell? wr _ hb)).trans hb, (h.cell (World.block_lt_of_cell? wr _ hc)).trans hc, (h.cell (World.block_lt_of_cell? wr _ hd)).trans hd, (h.cell (World.block_lt_of_cell? wr _ he)).trans he, h⟩
set_option maxHeartbeats 8000000 in
set_option maxRecDepth 100000 in
theorem sweep1_calls (A0 : Option Addr) (c0 : Nat) (ss : List S176) (A1 : Option Addr) (c1 : Nat) (hs : List Int) (X H h i : Nat) (w : World)
    (hX : w.heap[X]? = some (.cells #[.slice A0 ss.length c0, .slice A1 hs.length c1] 170 (0, 0))) (hH : w.heap[H]? = some (.cells #[.int .i64 (h : Int)] 3 (0, 0)))
    (hr0 : Kd.C k176 w A0 ss.length ss) (hc0 : ss.length ≤ c0) (hr1 : Kd.C (Kd.int .i64) w A1 hs.length hs) (hc1 : hs.length ≤ c1) (hv : okValley ss hs) (hi : i < ss.length) (hh : h < hs.length) :
    Calls Tryz.prog 139 #[.int .i64 (i : Int), .pointer (some ⟨X, 0, none⟩), .pointer (some ⟨H, 0, none⟩)] w fun e w' => e = .returned (.bool (hearsP (hs.getD h 0) (ss.getD i z176))) ∧ Below w.heap.size w w' := by
  have hu := Tryz.underlying170
  have hu1 := Tryz.underlying116
  have hu2 := Tryz.underlying176
  have hx0 : w.cell? ⟨X, 0, none⟩ = some (.slice A0 ss.length c0) := (blk_cell hX 0).trans rfl
  have hx1 : w.cell? ⟨X, 1, none⟩ = some (.slice A1 hs.length c1) := (blk_cell hX 1).trans rfl
  have hh0 : w.cell? ⟨H, 0, none⟩ = some (.int .i64 (h : Int)) := (blk_cell hH 0).trans rfl
  obtain ⟨ad, e1, hy0, hy1⟩ := at_T176 hr0 (i : Int) (by omega) (by omega)
  subst e1
  rw [show rd_T176 ss (i : Int) = ss.getD i z176 from rfl] at hy0 hy1
  rw [Int.toNat_natCast] at hy0 hy1
  have hf := hears_f ss hs (ss.getD i z176) h hv (getD_mem ss i _ hi) hh
  have HF := Aside0.mk (fun W (hb : Below w.heap.size w W) => dam_valley_hears.calls (some ad) c0 ss A1 c1 hs (h : Int) (ss.getD i z176).f0 (ss.getD i z176).f1 _ W (Kd.C_below hr0 hb) hc0 (Kd.C_below hr1 hb) hc1 hf)
  generalize ss.getD i z176 = s at *
  generalize hearsP (hs.getD h 0) s = r at *
  have hiz : (i : Int) < (ss.length : Int) := by omega
  have hiz0 : (0 : Int) ≤ (i : Int) := by omega
  clear hf hr0 hr1 hX hH hv
  go_enter Tryz.func139, Tryz.ntmps139
  go_upto_region 1 with fail
  go_region_held3 (fun w' => w'.cell? ⟨X, 0, none⟩ = some (.slice (some ad) ss.length c0) ∧ w'.cell? ⟨X, 1, none⟩ = some (.slice A1 hs.length c1) ∧ w'.cell? ⟨H, 0, none⟩ = some (.int .i64 (h : Int)) ∧ w'.cell? (ad.add (i * 2)) = some (.int .i64 s.f0) ∧ w'.cell? ⟨(ad.add (i * 2)).block, (ad.add (i * 2)).off + 1, none⟩ = some (.int .i64 s.f1) ∧ Below w.heap.size w w')
    ((refine keep5 hx0 hx1 hh0 hy0 hy1 ?_; repeat (first | assumption | exact Below.refl _ _ | apply pw_below_drewN | apply below_drew | apply below_alloc | (iterate 5 apply And.right; assumption) | refine below_step ?_ (by assumption))))
    (first | (go_at_call 140; refine (HF.out _ (by (repeat (first | assumption | exact Below.refl _ _ | apply pw_below_drewN | apply below_drew | apply below_alloc | (iterate 5 apply And.right; assumption))))).mono ?_; rintro e w3 ⟨rfl, hb4⟩))
  go_wp2
  go_ret
  exact ⟨rfl, by iterate 5 apply And.right
                 assumption⟩
def cmpI (x y : Int) : Int := if x < y then -1 else if x > y then 1 else 0
theorem cmp_f (x y : Int) : cmp_Compare_int.f x y = some (cmpI x y) := by
  unfold cmp_Compare_int.f cmp_isNaN_int.f cmpI
  by_cases h1 : x < y <;> by_cases h2 : x > y <;> simp [h1, h2]
theorem cmpI_lt (x y : Int) : decide (cmpI x y < 0) = decide (x < y) := by
  unfold cmpI
  by_cases h1 : x < y
  · simp [h1]
  · rw [if_neg h1]
    split <;> simp [h1]
theorem keep3 {wr W : World} {a b c : Addr} {u v x : Value} (ha : wr.cell? a = some u) (hb : wr.cell? b = some v) (hc : wr.cell? c = some x) (h : Below wr.heap.size wr W) : W.cell? a = some u ∧ W.cell? b = some v ∧ W.cell? c = some x ∧ Below wr.heap.size wr W :=
  ⟨(h.cell (World.block_lt_of_cell? wr _ ha)).trans ha, (h.cell (World.block_lt_of_cell? wr _ hb)).trans hb, (h.cell (World.block_lt_of_cell? wr _ hc)).trans hc, h⟩
set_option maxHeartbeats 8000000 in
set_option maxRecDepth 100000 in
theorem sweep2_calls (A0 : Option Addr) (c0 n0 : Nat) (A1 : Option Addr) (c1 : Nat) (hs : List Int) (X a b : Nat) (w : World)
    (hX : w.heap[X]? = some (.cells #[.slice A0 n0 c0, .slice A1 hs.length c1] 170 (0, 0)))
    (hr1 : Kd.C (Kd.int .i64) w A1 hs.length hs) (ha : a < hs.length) (hb : b < hs.length) :
    Calls Tryz.prog 142 #[.int .i64 (a : Int), .int .i64 (b : Int), .pointer (some ⟨X, 0, none⟩)] w fun e w' => ∃ c : Int, e = .returned (.int .i64 c) ∧ decide (c < 0) = decide (hs.getD a 0 < hs.getD b 0) ∧ Below w.heap.size w w' := by
  have hu := Tryz.underlying170
  have hu1 := Tryz.underlying116
  have hx1 : w.cell? ⟨X, 1, none⟩ = some (.slice A1 hs.length c1) := (blk_cell hX 1).trans rfl
  obtain ⟨ad, e1, hya⟩ := Kd.at_int hr1 (a : Int) (by omega) (by omega)
  subst e1
  obtain ⟨ad', e1, hyb⟩ := Kd.at_int hr1 (b : Int) (by omega) (by omega)
  cases e1
  rw [show rd hs (a : Int) = hs.getD a 0 from rfl, Int.toNat_natCast] at hya
  rw [show rd hs (b : Int) = hs.getD b 0 from rfl, Int.toNat_natCast] at hyb
  have HF := Aside0.mk (cmp_f (hs.getD a 0) (hs.getD b 0))
  have HL := Aside0.mk (cmpI_lt (hs.getD a 0) (hs.getD b 0))
  generalize hs.getD a 0 = x at *
  generalize hs.getD b 0 = y at *
  obtain ⟨c, hc⟩ : ∃ c, c = cmpI x y := ⟨_, rfl⟩
  rw [← hc] at HF HL
  have haz : (a : Int) < (hs.length : Int) := by omega
  have haz0 : (0 : Int) ≤ (a : Int) := by omega
  have hbz : (b : Int) < (hs.length : Int) := by omega
  have hbz0 : (0 : Int) ≤ (b : Int) := by omega
  clear hr1 hX hc ha hb
  go_enter Tryz.func142, Tryz.ntmps142
  go_upto_region 1 with fail
  go_region_held3 (fun w' => w'.cell? ⟨X, 1, none⟩ = some (.slice (some ad) hs.length c1) ∧ w'.cell? (ad.add a) = some (.int .i64 x) ∧ w'.cell? (ad.add b) = some (.int .i64 y) ∧ Below w.heap.size w w')
    ((refine keep3 hx1 hya hyb ?_; repeat (first | assumption | exact Below.refl _ _ | apply pw_below_drewN | apply below_drew | apply below_alloc | (iterate 3 apply And.right; assumption) | refine below_step ?_ (by assumption))))
    (first | (go_at_call 143; refine (cmp_Compare_int.calls _ _ _ _ HF.out).mono ?_; rintro e w3 ⟨rfl, hb3⟩; have hb4 := hb3.below; clear hb3))
  go_wp2
  go_ret
  exact ⟨c, rfl, HL.out, by iterate 3 apply And.right
                            assumption⟩
def leftTo (ss : List S176) (hs some_ : List Int) (i : Nat) : List Int := ((List.range i).filter (fun h : Nat => !(some_.any fun k : Int => hearsP (hs.getD h 0) (ss.getD k.toNat z176)))).map (fun h : Nat => (h : Int))
def endTo (l : List S176) (x : Int) : Int := l.foldl (fun e s => if hearsP x s = true then mx e (s.f0 + s.f1) else e) (-1)
def sweepGo (ss : List S176) (hs : List Int) (frm : Nat) : Int → List Int → List Int → List Int × Bool
  | _, out, [] => (out, true)
  | e, out, h :: t =>
    if hs.getD h.toNat 0 ≤ e then sweepGo ss hs frm e out t
    else if endTo (ss.drop frm) (hs.getD h.toNat 0) < 0 then ([], false)
    else sweepGo ss hs frm (endTo (ss.drop frm) (hs.getD h.toNat 0)) (out ++ [h]) t
def byHouse (hs : List Int) (a b : Int) : Bool := decide (hs.getD a.toNat 0 < hs.getD b.toNat 0)
def sweepOut (ss : List S176) (hs some_ : List Int) (frm : Nat) : List Int × Bool :=
  sweepGo ss hs frm (-1) [] (insTo (byHouse hs) (leftTo ss hs some_ hs.length).length (leftTo ss hs some_ hs.length))
def dam_valley_sweep.f (l0_0 : List S176) (l0_1 : List Int) (l1 : List Int) (a2 : Int) : Option (List Int × Bool) :=
  if okValley l0_0 l0_1 ∧ l0_1.length < 20 ∧ (∀ k ∈ l1, 0 ≤ k ∧ k < (l0_0.length : Int)) ∧ 0 ≤ a2 ∧ a2 ≤ (l0_0.length : Int) then some (sweepOut l0_0 l0_1 l1 a2.toNat) else none
theorem leftTo_succ (ss : List S176) (hs some_ : List Int) (i : Nat) : leftTo ss hs some_ (i + 1) = if (some_.any fun k => hearsP (hs.getD i 0) (ss.getD k.toNat z176)) = true then leftTo ss hs some_ i else leftTo ss hs some_ i ++ [(i : Int)] := by
  unfold leftTo
  rw [List.range_succ, List.filter_append, List.map_append]
  cases h : (some_.any fun k => hearsP (hs.getD i 0) (ss.getD k.toNat z176))
  · rw [if_neg (by decide), List.filter_cons_of_pos (by show (!(some_.any fun k => hearsP (hs.getD i 0) (ss.getD k.toNat z176))) = true; rw [h]; rfl)]
    rfl
  · rw [if_pos rfl, List.filter_cons_of_neg (by show ¬ (!(some_.any fun k => hearsP (hs.getD i 0) (ss.getD k.toNat z176))) = true; rw [h]; decide)]
    simp
theorem leftTo_len (ss : List S176) (hs some_ : List Int) : ∀ i, (leftTo ss hs some_ i).length ≤ i := by
  intro i
  unfold leftTo
  rw [List.length_map]
  exact Nat.le_trans (List.length_filter_le _ _) (by simp)
theorem leftTo_all (ss : List S176) (hs some_ : List Int) (i : Nat) : ∀ x ∈ leftTo ss hs some_ i, ∃ n : Nat, x = (n : Int) ∧ n < i := by
  intro x hx
  unfold leftTo at hx
  obtain ⟨n, hn, rfl⟩ := List.mem_map.1 hx
  exact ⟨n, rfl, List.mem_range.1 (List.mem_filter.1 hn).1⟩
theorem endTo_snoc (l : List S176) (x : Int) (k : Nat) (hk : k < l.length) : endTo (l.take (k + 1)) x = if hearsP x (l.getD k z176) = true then mx (endTo (l.take k) x) ((l.getD k z176).f0 + (l.getD k z176).f1) else endTo (l.take k) x := by
  unfold endTo
  rw [List.take_add_one, List.getElem?_eq_getElem hk, List.foldl_append, List.getD_eq_getElem?_getD, List.getElem?_eq_getElem hk]
  rfl
set_option maxHeartbeats 8000000 in
set_option maxRecDepth 100000 in
theorem dam_valley_sweep.calls (A0_0 : Option Addr) (c0_0 : Nat) (l0_0 : List S176) (A0_1 : Option Addr) (c0_1 : Nat) (l0_1 : List Int) (A1 : Option Addr) (c1 : Nat) (l1 : List Int) (a2 : Int) (r1 : List Int) (r2 : Bool) (w : World) (hr0_0 : Kd.C k176 w A0_0 l0_0.length l0_0) (hc0_0 : l0_0.length ≤ c0_0) (hr0_1 : Kd.C (Kd.int .i64) w A0_1 l0_1.length l0_1) (hc0_1 : l0_1.length ≤ c0_1) (hr1 : Kd.C (Kd.int .i64) w A1 l1.length l1) (hc1 : l1.length ≤ c1) (h : dam_valley_sweep.f l0_0 l0_1 l1 a2 = some (r1, r2)) :
    Calls Tryz.prog 112 #[.agg #[.slice A0_0 l0_0.length c0_0, .slice A0_1 l0_1.length c0_1], .slice A1 l1.length c1, .int .i64 a2] w fun e w' => ∃ v0_ : Value, e = .returned (.tuple #[v0_, .bool r2]) ∧ Kd.R (Kd.int .i64) 3 w' w.heap.size (fun _ => True) v0_ r1 ∧ Below w.heap.size w w' := by
  have hu := Tryz.underlying170
  have hu1 := Tryz.underlying116
  have hu2 := Tryz.underlying176
  have hh : (okValley l0_0 l0_1 ∧ l0_1.length < 20 ∧ (∀ k ∈ l1, 0 ≤ k ∧ k < (l0_0.length : Int)) ∧ 0 ≤ a2 ∧ a2 ≤ (l0_0.length : Int)) ∧ sweepOut l0_0 l0_1 l1 a2.toNat = (r1, r2) := by
    unfold dam_valley_sweep.f at h
    split at h
    · exact ⟨by assumption, Option.some.inj h⟩
    · exact absurd h (by simp)
  clear h
  obtain ⟨⟨hv, hn20, hk1, ha0, han⟩, hout⟩ := hh
  obtain ⟨frm, rfl⟩ : ∃ frm : Nat, a2 = (frm : Int) := ⟨a2.toNat, by omega⟩
  rw [Int.toNat_natCast] at hout
  have HR0 := Aside0.mk hr0_0
  have HR1 := Aside0.mk hr0_1
  have HRS := Aside0.mk hr1
  have HC := Aside0.mk (And.intro hc0_0 hc0_1)
  have HV := Aside0.mk hv
  have HK := Aside0.mk hk1
  have HOUT := Aside0.mk hout
  clear hr0_0 hr0_1 hr1 hc0_0 hc0_1 hc1 hv hk1 hout
  go_enter Tryz.func112, Tryz.ntmps112
  go_upto_region 1 with fail
  have hbl := blk_new w (.cells #[.slice A0_0 l0_0.length c0_0, .slice A0_1 l0_1.length c0_1] 170)
  have hb1 := below_alloc (Below.refl _ w) (.cells #[.slice A0_0 l0_0.length c0_0, .slice A0_1 l0_1.length c0_1] 170)
  generalize w.alloc (.cells #[.slice A0_0 l0_0.length c0_0, .slice A0_1 l0_1.length c0_1] 170) = w1 at *
  have hx1 : w1.cell? ⟨w.heap.size, 1, none⟩ = some (.slice A0_1 l0_1.length c0_1) := (blk_cell hbl 1).trans rfl
  have HBL := Aside0.mk hbl
  have HB1 := Aside0.mk hb1
  have HXL := Aside0.mk (blk_lt hbl)
  have HB0 := Aside0.mk (Below.refl w1.heap.size w1)
  clear hbl hb1
  go_wp2
  go_loopg [8, 20] l0_1.length (fun gg s8 s20 W => ∃ (i : Nat), i ≤ l0_1.length ∧ l0_1.length - i ≤ gg ∧ s20 = .int .i64 i ∧ Aside0 (Kd.R (Kd.int .i64) 3 W w1.heap.size (fun _ => True) s8 (leftTo l0_0 l0_1 l1 i)) ∧ Aside0 (Below w1.heap.size w1 W))
  case atStart => exact ⟨0, by omega, by omega, rfl, ⟨Kd.R_nil _ _ _ _ _⟩, HB0⟩
  case round =>
    obtain ⟨i, hi, hgg, rfl, HRi, HBi⟩ := hrel
    clear HB0
    obtain ⟨wA, hwA⟩ : ∃ wA, wA = wr := ⟨_, rfl⟩
    subst hwA
    by_cases hin : i < l0_1.length
    case pos =>
      have hin2 : (i : Int) < (l0_1.length : Int) := by omega
      clear hx1
      go_upto_region 5 with fail
      have hH := blk_new wA (.cells #[.int .i64 (i : Int)] 3)
      have hb2 := below_weaken HBi.out HBi.out.size (below_alloc (Below.refl _ wA) (.cells #[.int .i64 (i : Int)] 3))
      have hR2 := Kd.R_alloc HRi.out (.cells #[.int .i64 (i : Int)] 3)
      generalize wA.alloc (.cells #[.int .i64 (i : Int)] 3) = w2 at *
      generalize wA.heap.size = H at *
      have hbw := below_weaken HB1.out HB1.out.size hb2
      have HKK := Aside0.mk (hContainsInt 139 #[.pointer (some ⟨w.heap.size, 0, none⟩), .pointer (some ⟨H, 0, none⟩)] (fun k => hearsP (l0_1.getD i 0) (l0_0.getD k.toNat z176)) (fun args w => by rfl) A1 c1 l1 w2 (Kd.C_below HRS.out hbw) (fun W y hy hb => by
        have hky := HK.out y hy
        obtain ⟨m, rfl⟩ : ∃ m : Nat, y = (m : Int) := ⟨y.toNat, by omega⟩
        dsimp only
        rw [Int.toNat_natCast]
        exact sweep1_calls A0_0 c0_0 l0_0 A0_1 c0_1 l0_1 w.heap.size H i m W (blk_below (blk_below HBL.out hb2) hb) (blk_below hH hb) (Kd.C_below HR0.out (below_step hbw hb)) HC.out.1 (Kd.C_below HR1.out (below_step hbw hb)) HC.out.2 HV.out (by omega) hin))
      obtain ⟨kb, hkb⟩ : ∃ kb, kb = l1.any (fun k => hearsP (l0_1.getD i 0) (l0_0.getD k.toNat z176)) := ⟨_, rfl⟩
      rw [← hkb] at HKK
      have hls := leftTo_succ l0_0 l0_1 l1 i
      rw [← hkb] at hls
      have HLS := Aside0.mk hls
      have HH := Aside0.mk hH
      have HB2 := Aside0.mk hb2
      have HR2 := Aside0.mk hR2
      have HLL := Aside0.mk (leftTo_len l0_0 l0_1 l1 i)
      clear hkb hls hH hb2 hR2 hbw
      cases kb
      case true =>
        go_wp2_with (go_at_call 94; refine HKK.out.mono ?_; rintro e w3 ⟨rfl, hb3⟩; have HB3 := Aside0.mk hb3; clear hb3)
        go_roundg (l0_1.length - (i + 1))
        case measure => omega
        case rel => exact ⟨i + 1, by omega, by omega, by go_num, ⟨by rw [show leftTo l0_0 l0_1 l1 (i + 1) = leftTo l0_0 l0_1 l1 i from by have h := HLS.out; simpa using h]; exact Kd.R_below HR2.out HB3.out⟩, ⟨below_weaken HB2.out HB2.out.size HB3.out⟩⟩
      case false =>
        go_wp2_with (first | (go_at_call 94; refine HKK.out.mono ?_; rintro e w3 ⟨rfl, hb3⟩; have hhc : w3.cell? ⟨H, 0, none⟩ = some (.int .i64 (i : Int)) := (blk_cell (blk_below HH.out hb3) 0).trans rfl; have HB := Aside0.mk (below_weaken HB2.out HB2.out.size hb3); have HO := Aside0.mk (Kd.R_below HR2.out hb3); clear hb3) | ((with_reducible refine gate_builtin (b := .append) (xs := #[.tmp 27, .tmp 29]) rfl ?_); at_builtin; refine Kd.R_append (Kd.int .i64) (w0 := w1) w1.heap.size rfl (.tmp 27) (.tmp 29) 22 3 (.int .i64 0) 8 rfl Tryz.underlying22 info3 rfl (by decide) (by omega) u8 (leftTo l0_0 l0_1 l1 i) (i : Int) [.int .i64 (i : Int)] (fun _ => True) (fun _ => False) rfl rfl ?aP (fun _ hk => hk.elim) ?aF ?aO ?aB ?aS ?aL ?_; (case aP => exact rfl); (case aB => exact (by repeat (first | (with_reducible first | exact HB.out | apply below_alloc | apply pw_below_drewN | apply below_drew1) | exact HB.out))); (case aF => exact (fun _ _ => trivial)); (case aO => exact (by (with_reducible repeat (first | apply Kd.R_alloc | apply Kd.R_drewN | apply Kd.R_drew)); exact HO.out)); (case aS => exact (below_size (by repeat (first | (with_reducible first | exact HB.out | apply below_alloc | apply pw_below_drewN | apply below_drew1) | exact HB.out)))); (case aL => have := HLL.out; omega); intro v170 w6 ho hb hg hat; have HBN := Aside0.mk hb; have HON := Aside0.mk ho; clear ho hb hg hat))
        go_roundg (l0_1.length - (i + 1))
        case measure => omega
        case rel => exact ⟨i + 1, by omega, by omega, by go_num, ⟨by rw [show leftTo l0_0 l0_1 l1 (i + 1) = leftTo l0_0 l0_1 l1 i ++ [(i : Int)] from by have h := HLS.out; simpa using h]; exact HON.out⟩, HBN⟩
    case neg =>
      obtain rfl : i = l0_1.length := by omega
      obtain ⟨left, hleft⟩ : ∃ left, left = leftTo l0_0 l0_1 l1 l0_1.length := ⟨_, rfl⟩
      have hRi := HRi.out
      rw [← hleft] at hRi
      have hll : left.length < 20 := by have := leftTo_len l0_0 l0_1 l1 l0_1.length; rw [hleft]; omega
      have hall : ∀ x ∈ left, ∃ n : Nat, x = (n : Int) ∧ n < l0_1.length := by rw [hleft]; exact leftTo_all _ _ _ _
      have hout := HOUT.out
      unfold sweepOut at hout
      rw [← hleft] at hout
      have hbw := below_weaken HB1.out HB1.out.size HBi.out
      have hcmp : ∀ g, w1.heap.size ≤ g → CmpB Tryz.prog 142 #[.pointer (some ⟨w.heap.size, 0, none⟩)] (byHouse l0_1) (fun x => ∃ n : Nat, x = (n : Int) ∧ n < l0_1.length) g wA := by
        rintro g hg W x y ⟨a, rfl, ha⟩ ⟨b, rfl, hb⟩ hbut
        have hxl := HXL.out
        have hsz := HBi.out.size
        have hX := (hbut.2.2.2.2 w.heap.size (by omega) (by omega)).trans (blk_below HBL.out HBi.out)
        have hC := Kd.C_below HR1.out (hbut.toBelow hbw (by omega))
        have hq := sweep2_calls A0_0 c0_0 l0_0.length A0_1 c0_1 l0_1 w.heap.size a b W hX hC ha hb
        unfold byHouse
        rw [Int.toNat_natCast, Int.toNat_natCast]
        exact hq
      have HSORT := Aside0.mk (sortStable_own 142 #[.pointer (some ⟨w.heap.size, 0, none⟩)] (byHouse l0_1) (fun x => ∃ n : Nat, x = (n : Int) ∧ n < l0_1.length) w1.heap.size left u8 wA (fun _ => True) (fun args w => by rfl) hRi hll hall hcmp)
      have hsall := insTo_all (byHouse l0_1) left.length left (Nat.le_refl _) hall
      have HLEFT := Aside0.mk hleft
      have HSL := Aside0.mk (show (insTo (byHouse l0_1) left.length left).length < 20 by rw [insTo_len]; exact hll)
      generalize insTo (byHouse l0_1) left.length left = srt at *
      have HSA := Aside0.mk hsall
      have HGO := Aside0.mk hout
      clear hRi hcmp hout hsall hall hleft hll hbw HOUT HRi hx1 HLEFT
      go_upto_region 9 with (go_at_call 141; refine HSORT.out.mono ?_; rintro e wS ⟨rfl, hRS, g, hg, hbut⟩; have HBS := Aside0.mk (hbut.toBelow HBi.out hg); have HRS8 := Aside0.mk hRS; clear hRS hg hbut)
      clear HSORT
      obtain ⟨A8, c8, e8, hc8, hC8⟩ := Kd.R_reads HRS8.out
      subst e8
      have hs8 : srt.length ≤ 9223372036854775807 := hC8.2.1
      have HC8 := Aside0.mk hC8
      clear hC8 hc8
      have HBws := Aside0.mk (below_weaken HB1.out HB1.out.size HBS.out)
      have HBL2 := Aside0.mk (blk_below HBL.out HBS.out)
      have HB0 := Aside0.mk (Below.refl wS.heap.size wS)
      go_wp2
      go_loopg [10, 11, 37] srt.length (fun gg s10 s11 s37 W => ∃ (j : Nat) (e : Int) (out : List Int), j ≤ srt.length ∧ srt.length - j ≤ gg ∧ s37 = .int .i64 j ∧ s11 = .int .i64 e ∧ Aside0 (Kd.R (Kd.int .i64) 3 W wS.heap.size (fun _ => True) s10 out) ∧ Aside0 (out.length ≤ j) ∧ Aside0 (sweepGo l0_0 l0_1 frm e out (srt.drop j) = (r1, r2)) ∧ Aside0 (Below wS.heap.size wS W))
      case atStart => exact ⟨0, -1, [], by omega, by omega, rfl, by first | rfl | go_num, ⟨Kd.R_nil _ _ _ _ _⟩, ⟨by simp⟩, HGO, HB0⟩
      case round =>
        obtain ⟨j, e, out, hj, hgg2, rfl, rfl, HRj, HOL, HGj, HBj⟩ := hrel
        clear HB0
        obtain ⟨wB, hwB⟩ : ∃ wB, wB = wr := ⟨_, rfl⟩
        subst hwB
        by_cases hjn : j < srt.length
        case pos =>
          have hjn2 : (j : Int) < (srt.length : Int) := by omega
          have HBwB := Aside0.mk (below_weaken HBws.out HBws.out.size HBj.out)
          obtain ⟨hn, hhn, hhl⟩ := HSA.out _ (getD_mem srt j 0 hjn)
          obtain ⟨ad8, e1, hu1⟩ := Kd.at_int (Kd.C_below HC8.out HBj.out) (j : Int) (by omega) (by omega)
          cases e1
          rw [show rd srt (j : Int) = srt.getD j 0 from rfl, Int.toNat_natCast, hhn] at hu1
          have hhz : (hn : Int) < (l0_1.length : Int) := by omega
          obtain ⟨ad9, e1, hv1⟩ := Kd.at_int (Kd.C_below HR1.out HBwB.out) (hn : Int) (by omega) (by omega)
          cases e1
          rw [show rd l0_1 (hn : Int) = l0_1.getD hn 0 from rfl, Int.toNat_natCast] at hv1
          have hxb := blk_below HBL2.out HBj.out
          have hx0 : wB.cell? ⟨w.heap.size, 0, none⟩ = some (.slice A0_0 l0_0.length c0_0) := (blk_cell hxb 0).trans rfl
          have hx1 : wB.cell? ⟨w.heap.size, 1, none⟩ = some (.slice (some ad9) l0_1.length c0_1) := (blk_cell hxb 1).trans rfl
          have hgo := HGj.out
          rw [show srt.drop j = (hn : Int) :: srt.drop (j + 1) from by
            rw [List.drop_eq_getElem_cons hjn, ← hhn, List.getD_eq_getElem?_getD, List.getElem?_eq_getElem hjn]; rfl] at hgo
          simp only [sweepGo, Int.toNat_natCast] at hgo
          obtain ⟨x, hx⟩ : ∃ x, x = l0_1.getD hn 0 := ⟨_, rfl⟩
          rw [← hx] at hv1 hgo
          have HX := Aside0.mk hx
          have HHN := Aside0.mk (And.intro hhn hhl)
          clear hx hhn hhl hxb
          by_cases hle : x ≤ e
          case pos =>
            rw [if_pos hle] at hgo
            have HGN := Aside0.mk hgo
            clear hgo
            go_wp2
            go_roundg (srt.length - (j + 1))
            case measure => omega
            case rel => exact ⟨j + 1, e, out, by omega, by omega, by go_num, rfl, HRj, ⟨by have := HOL.out; omega⟩, HGN, HBj⟩
          case neg =>
            rw [if_neg hle] at hgo
            have HGN := Aside0.mk hgo
            clear hgo
            have hcc := HC.out.1
            have hfz : (frm : Int) ≤ (c0_0 : Int) := by omega
            obtain ⟨dl, hdl⟩ : ∃ dl, dl = l0_0.drop frm := ⟨_, rfl⟩
            obtain ⟨m, hm⟩ : ∃ m, m = l0_0.length - frm := ⟨_, rfl⟩
            have hfl : frm ≤ l0_0.length := Int.ofNat_le.1 han
            have hCD0 := Kd.C_drop (m := frm) HR0.out hfl HC.out.1
            have hkz : k176.sz = 2 := rfl
            rw [← hdl, hkz] at hCD0
            have HCD0 := Aside0.mk hCD0
            have HML := Aside0.mk (show dl.length = m by rw [hdl, hm]; simp)
            have HDM := Aside0.mk (show ∀ s ∈ dl, s ∈ l0_0 by rw [hdl]; exact fun s hs => List.mem_of_mem_drop hs)
            have hmb : m ≤ 9223372036854775807 := by have := HR0.out.2.1; omega
            have hgn := HGN.out
            rw [← hdl] at hgn
            have HGN := Aside0.mk hgn
            have HMM := Aside0.mk hm
            clear hdl hm hCD0 hkz hfl hgn
            cases A0_0
            all_goals go_wp2
            all_goals
              try subst h
              first
                | (have hCD := HCD0.out
                   simp only [Option.map_none, ite_self] at hCD
                   have HCD := Aside0.mk hCD
                   clear hCD)
                | (have hCD := HCD0.out
                   rw [if_pos rfl] at hCD
                   have HCD := Aside0.mk hCD
                   clear hCD)
                | (have hCD := HCD0.out
                   rw [if_neg (by assumption), Option.map_some] at hCD
                   have HCD := Aside0.mk hCD
                   clear hCD)
              rw [← HMM.out]
              clear hx0 hx1 HCD0
              try clear h
              go_loopg [11, 55] m (fun gg s11 s55 W => ∃ (k : Nat), k ≤ m ∧ m - k ≤ gg ∧ s55 = .int .i64 k ∧ s11 = .int .i64 (endTo (dl.take k) x) ∧ Aside0 (Below wB.heap.size wB W))
              case atStart => exact ⟨0, by omega, by omega, rfl, rfl, ⟨Below.refl _ _⟩⟩
              case round =>
                obtain ⟨k, hk, hgg3, rfl, rfl, HBk⟩ := hrel
                obtain ⟨wD, hwD⟩ : ∃ wD, wD = wr := ⟨_, rfl⟩
                subst hwD
                have HB := Aside0.mk (below_weaken HBj.out HBj.out.size HBk.out)
                have HBwD := Aside0.mk (below_weaken HBws.out HBws.out.size HB.out)
                by_cases hkn : k < m
                case pos =>
                  have hkn2 : (k : Int) < (m : Int) := by omega
                  obtain ⟨ad3, e1, hz0, hz1⟩ := at_T176 (Kd.C_below HCD.out HBwD.out) (k : Int) (by omega) (by have := HML.out; omega)
                  cases e1
                  all_goals
                    rw [show rd_T176 dl (k : Int) = dl.getD k z176 from rfl] at hz0 hz1
                    rw [Int.toNat_natCast] at hz0 hz1
                    have hkd : k < dl.length := by rw [HML.out]; exact hkn
                    have hsm := HDM.out _ (getD_mem dl k z176 hkd)
                    have hsn := endTo_snoc dl x k hkd
                    have hbd := HV.out.1 _ hsm
                    have hhf := hears_f l0_0 l0_1 (dl.getD k z176) hn HV.out hsm HHN.out.2
                    rw [← HX.out] at hhf
                    generalize dl.getD k z176 = s at *
                    obtain ⟨⟨hq1, hq2⟩, hq3, hq4⟩ := hbd
                    obtain ⟨e0, he0⟩ : ∃ e0, e0 = endTo (dl.take k) x := ⟨_, rfl⟩
                    rw [← he0] at hsn ⊢
                    have HE0 := Aside0.mk he0
                    have HSN := Aside0.mk hsn
                    obtain ⟨hb, hhb⟩ : ∃ hb, hb = hearsP x s := ⟨_, rfl⟩
                    rw [← hhb] at hhf
                    have HHB := Aside0.mk hhb
                    have HHF := Aside0.mk hhf
                    clear hsm hsn he0 hhb hhf
                    go_upto_region 19 with fail
                    have hSb := blk_new wD (.cells #[.int .i64 s.f0, .int .i64 s.f1] 176)
                    have hb2 := below_weaken HBk.out HBk.out.size (below_alloc (Below.refl _ wD) (.cells #[.int .i64 s.f0, .int .i64 s.f1] 176))
                    clear hz0 hz1
                    generalize wD.alloc (.cells #[.int .i64 s.f0, .int .i64 s.f1] 176) = w2 at *
                    generalize wD.heap.size = SB at *
                    have hbq := below_weaken HBj.out HBj.out.size hb2
                    have hbw2 := below_weaken HBws.out HBws.out.size hbq
                    have hxb := blk_below HBL2.out hbq
                    have hx0 := (blk_cell hxb 0).trans rfl
                    have hx1 := (blk_cell hxb 1).trans rfl
                    have hs0 : w2.cell? ⟨SB, 0, none⟩ = some (.int .i64 s.f0) := (blk_cell hSb 0).trans rfl
                    have hs1 : w2.cell? ⟨SB, 1, none⟩ = some (.int .i64 s.f1) := (blk_cell hSb 1).trans rfl
                    have HCALL := Aside0.mk (dam_valley_hears.calls _ c0_0 l0_0 _ c0_1 l0_1 (hn : Int) s.f0 s.f1 hb w2 (Kd.C_below HR0.out hbw2) HC.out.1 (Kd.C_below HR1.out hbw2) HC.out.2 HHF.out)
                    have HB2 := Aside0.mk hb2
                    have HSB := Aside0.mk hSb
                    clear hb2 hbq hbw2 hxb hSb
                    cases hb
                    case false =>
                      go_wp2_with (go_at_call 140; refine HCALL.out.mono ?_; rintro e' w3 ⟨rfl, hb3⟩; have HB3 := Aside0.mk hb3; clear hb3)
                      go_roundg (m - (k + 1))
                      case measure => omega
                      case rel => exact ⟨k + 1, by omega, by omega, by go_num, by rw [HSN.out, ← HHB.out]; rfl, ⟨below_weaken HB2.out HB2.out.size HB3.out⟩⟩
                    case true =>
                      rcases (show e0 < s.f0 + s.f1 ∨ ¬ e0 < s.f0 + s.f1 by omega) with hem | hem
                      all_goals
                        have HEM := Aside0.mk hem
                        go_wp2_with (go_at_call 140; refine HCALL.out.mono ?_; rintro e' w3 ⟨rfl, hb3⟩; have ht0 : w3.cell? ⟨SB, 0, none⟩ = some (.int .i64 s.f0) := (blk_cell (blk_below HSB.out hb3) 0).trans rfl; have ht1 : w3.cell? ⟨SB, 1, none⟩ = some (.int .i64 s.f1) := (blk_cell (blk_below HSB.out hb3) 1).trans rfl; have HB3 := Aside0.mk hb3; clear hb3)
                        go_roundg (m - (k + 1))
                        case measure => omega
                        case rel =>
                          refine ⟨k + 1, by omega, by omega, by go_num, ?_, ⟨below_weaken HB2.out HB2.out.size HB3.out⟩⟩
                          rw [HSN.out, ← HHB.out]
                          unfold mx
                          rw [if_pos rfl]
                          have he := HEM.out
                          first | (rw [if_pos (by omega)]; done) | (rw [if_neg (by omega)]; done) | (congr 1; split <;> omega)
                case neg =>
                  obtain rfl : k = m := by omega
                  have htk : dl.take k = dl := List.take_of_length_le (by rw [HML.out]; exact Nat.le_refl _)
                  rw [htk]
                  have hgo := HGN.out
                  obtain ⟨e2, he2⟩ : ∃ e2, e2 = endTo dl x := ⟨_, rfl⟩
                  rw [← he2] at hgo ⊢
                  clear htk he2
                  by_cases hneg : e2 < 0
                  case pos =>
                    rw [if_pos hneg] at hgo
                    simp only [Prod.mk.injEq] at hgo
                    obtain ⟨rfl, rfl⟩ := hgo
                    go_wp2
                    refine bodyPost_ret (results_tmp2 rfl _ _ _) rfl ⟨_, rfl, Kd.R_nil _ _ _ _ _, HBwD.out⟩
                  case neg =>
                    rw [if_neg hneg] at hgo
                    have HGO2 := Aside0.mk hgo
                    clear hgo
                    have HO := Aside0.mk (Kd.R_below HRj.out HBk.out)
                    go_wp2_with ((with_reducible refine gate_builtin (b := .append) (xs := #[.tmp 73, .tmp 75]) rfl ?_); at_builtin; refine Kd.R_append (Kd.int .i64) (w0 := wS) wS.heap.size rfl (.tmp 73) (.tmp 75) 22 3 (.int .i64 0) 8 rfl Tryz.underlying22 info3 rfl (by decide) (by omega) u10 out (hn : Int) [.int .i64 (hn : Int)] (fun _ => True) (fun _ => False) rfl rfl ?aP (fun _ hk => hk.elim) ?aF ?aO ?aB ?aS ?aL ?_; (case aP => exact rfl); (case aB => exact (by repeat (first | (with_reducible first | exact HB.out | apply below_alloc | apply pw_below_drewN | apply below_drew1) | exact HB.out))); (case aF => exact (fun _ _ => trivial)); (case aO => exact (by (with_reducible repeat (first | apply Kd.R_alloc | apply Kd.R_drewN | apply Kd.R_drew)); exact HO.out)); (case aS => exact (below_size (by repeat (first | (with_reducible first | exact HB.out | apply below_alloc | apply pw_below_drewN | apply below_drew1) | exact HB.out)))); (case aL => have h1 := HOL.out; have h2 := HSL.out; omega); intro v170 w6 ho hb hg hat; have HBN := Aside0.mk hb; have HON := Aside0.mk ho; clear ho hb hg hat)
                    go_roundg (srt.length - (j + 1))
                    case measure => omega
                    case rel => exact ⟨j + 1, e2, out ++ [(hn : Int)], by omega, by omega, by go_num, rfl, HON, ⟨by rw [List.length_append]; have := HOL.out; simp; omega⟩, HGO2, HBN⟩
        case neg =>
          obtain rfl : j = srt.length := by omega
          have hgo := HGj.out
          rw [List.drop_length] at hgo
          simp only [sweepGo, Prod.mk.injEq] at hgo
          obtain ⟨rfl, rfl⟩ := hgo
          go_wp2
          refine bodyPost_ret (results_tmp2 rfl _ _ _) rfl ⟨_, rfl, Kd.R_lower HRj.out HBws.out.size, below_weaken HBws.out HBws.out.size HBj.out⟩
def dam_CheckValley_1.f (a0 : Int) : Option (Bool) := (dam_within.f a0 0 1000000).bind fun t471001 => (some t471001)
set_option maxHeartbeats 8000000 in
set_option maxRecDepth 100000 in
theorem dam_CheckValley_1.calls (a0 : Int) (r : Bool) (w : World) (h : dam_CheckValley_1.f a0 = some r) :
    Calls Tryz.prog 157 #[.int .i64 a0] w fun e w' => e = .returned (.bool r) ∧ Drawn0 w w' := by
  have H : ((dam_within.f a0 0 1000000).bind fun t471001 => (some t471001)) = some r := h
  clear h
  replace H := Option.bind_eq_some_iff.mp H
  obtain ⟨t471001, A20, H⟩ := H
  replace H : (some t471001) = some r := H
  have A2 := Aside0.mk A20
  clear A20
  obtain rfl := Option.some.inj H
  go_enter Tryz.func157, Tryz.ntmps157
  go_wp2_with (first | ((with_reducible refine gate_callee (f := 65) rfl ?_); refine goesL_ (some 4) rfl rfl Tryz.func65 (by kernel_rfl) rfl #[.int .i64 a0, .int .i64 0, .int .i64 1000000] rfl (by (try simp only [List.map_toArray, List.map_cons, List.map_nil]); first | done | rfl | (simp only [List.length_drop, List.length_take]; rfl)) ?_; (with_reducible refine (dam_within.calls a0 0 1000000 t471001 _ A2.out).mono ?_); rintro e w' ⟨rfl, ⟨nd, rfl⟩⟩; refine ⟨_, rfl, ?_⟩))
  go_ret
  exact ⟨by first | rfl | (simp; done) | (simp [*]; done), by repeat (first | exact Drawn0.refl _ | apply Drawn0.step)⟩
set_option maxHeartbeats 8000000 in
set_option maxRecDepth 100000 in
theorem hIndexSiren (g : Nat) (lb : Array Value) (p : S176 → Bool) (eg : ∀ args w, (callFunc g args).run Tryz.prog w = .ok (.enter g args) w) (A0 : Option Addr) (c0 : Nat) (l0 : List S176) (w : World) (hr0 : Kd.C k176 w A0 l0.length l0) (hp : PredB Tryz.prog g lb (fun x : S176 => .agg #[.int .i64 x.f0, .int .i64 x.f1]) p l0 w) :
    Calls Tryz.prog 158 #[.slice A0 l0.length c0, .func (.func g) #[] lb] w fun e w' => e = .returned (.int .i64 (idxF p l0)) ∧ Below w.heap.size w w' := by
  have hlen : l0.length ≤ 9223372036854775807 := hr0.2.1
  have HR0 := Aside0.mk hr0
  have HP := Aside0.mk hp
  clear hr0 hp
  go_enter Tryz.func158, Tryz.ntmps158
  go_wp2
  go_loopg [5, 8] l0.length (fun gg _ s8 wr => ∃ kk : Nat, kk ≤ l0.length ∧ l0.length - kk ≤ gg ∧ s8 = .int .i64 kk ∧ Aside0 (Below w.heap.size w wr) ∧ Aside0 (∀ j, j < kk → p (l0.getD j z176) = false))
  case atStart => exact ⟨0, Nat.zero_le _, by omega, rfl, ⟨Below.refl _ _⟩, ⟨fun j hj => absurd hj (Nat.not_lt_zero _)⟩⟩
  case round =>
    obtain ⟨kk, hkk, hg, rfl, HB, A⟩ := hrel
    by_cases hlt : kk < l0.length
    · have hltz : (kk : Int) < (l0.length : Int) := by omega
      obtain ⟨ad, e1, hx1, hx2⟩ := at_T176 (Kd.C_below HR0.out HB.out) (kk : Int) (by omega) (by omega)
      cases e1
      have hmem : l0.getD kk z176 ∈ l0 := by rw [List.getD_eq_getElem?_getD, List.getElem?_eq_getElem hlt]; exact List.getElem_mem hlt
      have hrd : rd_T176 l0 (kk : Int) = l0.getD kk z176 := rfl
      rw [hrd, Int.toNat_natCast] at hx1 hx2
      clear hrd
      generalize hy : l0.getD kk z176 = y at hx1 hx2 hmem
      have B := Aside0.mk hy
      clear hy
      have hcall := HP.out wr y hmem HB.out
      have hu := Tryz.underlying176
      cases hq : p y with
      | true =>
        rw [hq] at hcall
        have HC := Aside0.mk hcall
        have HQ := Aside0.mk hq
        clear hcall hq
        go_wp2_with (go_at_fn g; refine HC.out.mono ?_; rintro e w' ⟨rfl, hb⟩)
        go_ret
        refine ⟨?_, ?_⟩
        · rw [idxF_hit hlt A.out (by rw [B.out]; exact HQ.out)]; rfl
        · exact below_step HB.out (by assumption)
      | false =>
        rw [hq] at hcall
        have HC := Aside0.mk hcall
        have HQ := Aside0.mk hq
        clear hcall hq
        go_wp2_with (go_at_fn g; refine HC.out.mono ?_; rintro e w' ⟨rfl, hb⟩; have HB2 := Aside0.mk (below_step HB.out hb); clear hb)
        go_roundg (l0.length - (kk + 1))
        case measure => omega
        case rel =>
          refine ⟨kk + 1, by omega, by omega, by go_num, by assumption, ⟨fun j hj => ?_⟩⟩
          by_cases e : j = kk
          · subst e
            rw [B.out]; exact HQ.out
          · exact A.out j (by omega)
    · have hltz : ¬ (kk : Int) < (l0.length : Int) := by omega
      obtain rfl : kk = l0.length := by omega
      go_wp2
      go_ret
      refine ⟨?_, HB.out⟩
      rw [idxF_miss A.out]; rfl
def isPos (n : Int) : Bool := decide (0 ≤ n) && decide (n ≤ 1000000)
def badSiren (s : S176) : Bool := !isPos s.f0 || !isPos s.f1
def valleyOut (ss : List S176) (hs : List Int) : Int × Int :=
  if (20 : Int) < (ss.length : Int) ∨ (40 : Int) < (hs.length : Int) then (0, 8) else
  if 0 ≤ idxF badSiren ss then (idxF badSiren ss, 2) else
  if 0 ≤ idxF (fun n => !isPos n) hs then (idxF (fun n => !isPos n) hs, 2) else (0, 0)
def dam_CheckValley.f (l0_0 : List S176) (l0_1 : List Int) : Option (Int × Int) := some (valleyOut l0_0 l0_1)
theorem within_v (a b c : Int) : dam_within.f a b c = some (decide (b ≤ a) && decide (a ≤ c)) := by
  unfold dam_within.f
  by_cases h : b ≤ a <;> simp [h]
theorem pos_f (n : Int) : dam_CheckValley_1.f n = some (isPos n) := by
  unfold dam_CheckValley_1.f
  rw [within_v]
  rfl
set_option maxHeartbeats 8000000 in
set_option maxRecDepth 100000 in
theorem checkValley3_calls (n : Int) (P : Nat) (w : World) (hc : w.cell? ⟨P, 0, none⟩ = some (.func (.func 157) #[] #[])) :
    Calls Tryz.prog 160 #[.int .i64 n, .pointer (some ⟨P, 0, none⟩)] w fun e w' => e = .returned (.bool (!isPos n)) ∧ Below w.heap.size w w' := by
  have H := Aside0.mk (pos_f n)
  obtain ⟨b, hb⟩ : ∃ b, b = isPos n := ⟨_, rfl⟩
  rw [← hb] at H
  rw [← hb]
  clear hb
  go_enter Tryz.func160, Tryz.ntmps160
  go_wp2_with (go_at_call 157; refine (dam_CheckValley_1.calls _ _ _ H.out).mono ?_; rintro e w' ⟨rfl, hb⟩; have HB := Aside0.mk hb.below; clear hb)
  go_ret
  exact ⟨rfl, HB.out⟩
set_option maxHeartbeats 8000000 in
set_option maxRecDepth 100000 in
theorem checkValley2_calls (x : S176) (P : Nat) (w : World) (hc : w.cell? ⟨P, 0, none⟩ = some (.func (.func 157) #[] #[])) :
    Calls Tryz.prog 159 #[.agg #[.int .i64 x.f0, .int .i64 x.f1], .pointer (some ⟨P, 0, none⟩)] w fun e w' => e = .returned (.bool (badSiren x)) ∧ Below w.heap.size w w' := by
  have hu := Tryz.underlying176
  unfold badSiren
  have H := Aside0.mk (pos_f x.f0)
  have H2 := Aside0.mk (pos_f x.f1)
  obtain ⟨b, hb⟩ : ∃ b, b = isPos x.f0 := ⟨_, rfl⟩
  obtain ⟨b2, hb2⟩ : ∃ b2, b2 = isPos x.f1 := ⟨_, rfl⟩
  rw [← hb] at H
  rw [← hb2] at H2
  rw [← hb, ← hb2]
  clear hb hb2
  cases b
  all_goals
    go_enter Tryz.func159, Tryz.ntmps159
    go_upto_region 1 with fail
    have hbl := blk_new w (.cells #[.int .i64 x.f0, .int .i64 x.f1] 176)
    have hb1 := below_alloc (Below.refl _ w) (.cells #[.int .i64 x.f0, .int .i64 x.f1] 176)
    have hcc := (hb1.cell (World.block_lt_of_cell? w _ hc)).trans hc
    generalize w.alloc (.cells #[.int .i64 x.f0, .int .i64 x.f1] 176) = w1 at *
    have hx0 : w1.cell? ⟨w.heap.size, 0, none⟩ = some (.int .i64 x.f0) := (blk_cell hbl 0).trans rfl
    have hx1 : w1.cell? ⟨w.heap.size, 1, none⟩ = some (.int .i64 x.f1) := (blk_cell hbl 1).trans rfl
    have HB1 := Aside0.mk hb1
    have HBL := Aside0.mk hbl
    clear hb1 hbl hc
    go_wp2_with (first | (go_at_call 157; refine (dam_CheckValley_1.calls _ _ _ H.out).mono ?_; rintro e w' ⟨rfl, ⟨nd, rfl⟩⟩) | (go_at_call 157; refine (dam_CheckValley_1.calls _ _ _ H2.out).mono ?_; rintro e w' ⟨rfl, ⟨nd2, rfl⟩⟩))
    go_ret
    exact ⟨rfl, by repeat (first | exact HB1.out | apply pw_below_drewN | apply below_drew)⟩
set_option maxHeartbeats 8000000 in
set_option maxRecDepth 100000 in
theorem dam_CheckValley.calls (A0_0 : Option Addr) (c0_0 : Nat) (l0_0 : List S176) (A0_1 : Option Addr) (c0_1 : Nat) (l0_1 : List Int) (r1 : Int) (r2 : Int) (w : World) (hr0_0 : Kd.C k176 w A0_0 l0_0.length l0_0) (hc0_0 : l0_0.length ≤ c0_0) (hr0_1 : Kd.C (Kd.int .i64) w A0_1 l0_1.length l0_1) (hc0_1 : l0_1.length ≤ c0_1) (h : dam_CheckValley.f l0_0 l0_1 = some (r1, r2)) :
    Calls Tryz.prog 137 #[.agg #[.slice A0_0 l0_0.length c0_0, .slice A0_1 l0_1.length c0_1]] w fun e w' => e = .returned (.tuple #[.int .i64 r1, .int .i64 r2]) ∧ Below w.heap.size w w' := by
  have hu := Tryz.underlying116
  have hout : valleyOut l0_0 l0_1 = (r1, r2) := Option.some.inj h
  clear h
  unfold valleyOut at hout
  have HR0 := Aside0.mk hr0_0
  have HR1 := Aside0.mk hr0_1
  clear hr0_0 hr0_1 hc0_0 hc0_1
  have hb1 := below_alloc (Below.refl _ w) (.cells #[.slice A0_0 l0_0.length c0_0, .slice A0_1 l0_1.length c0_1] 116)
  have HB1 := Aside0.mk hb1
  clear hb1
  by_cases hs : (20 : Int) < (l0_0.length : Int)
  case pos =>
    rw [if_pos (.inl hs)] at hout
    simp only [Prod.mk.injEq] at hout
    obtain ⟨rfl, rfl⟩ := hout
    go_enter Tryz.func137, Tryz.ntmps137
    go_wp2
    go_ret2
    exact ⟨rfl, HB1.out⟩
  case neg =>
  by_cases hs2 : (40 : Int) < (l0_1.length : Int)
  case pos =>
    rw [if_pos (.inr hs2)] at hout
    simp only [Prod.mk.injEq] at hout
    obtain ⟨rfl, rfl⟩ := hout
    go_enter Tryz.func137, Tryz.ntmps137
    go_wp2
    go_ret2
    exact ⟨rfl, HB1.out⟩
  case neg =>
    rw [if_neg (by omega)] at hout
    obtain ⟨i, hi⟩ : ∃ i, i = idxF badSiren l0_0 := ⟨_, rfl⟩
    obtain ⟨j, hj⟩ : ∃ j, j = idxF (fun n => !isPos n) l0_1 := ⟨_, rfl⟩
    rw [← hi, ← hj] at hout
    have HI := Aside0.mk hi
    have HJ := Aside0.mk hj
    have HOUT := Aside0.mk hout
    clear hi hj hout
    have hwalk : ∀ (hi0 : 0 ≤ i ∨ ¬ 0 ≤ i) (hj0 : 0 ≤ j ∨ ¬ 0 ≤ j), Calls Tryz.prog 137 #[.agg #[.slice A0_0 l0_0.length c0_0, .slice A0_1 l0_1.length c0_1]] w fun e w' => e = .returned (.tuple #[.int .i64 r1, .int .i64 r2]) ∧ Below w.heap.size w w' := by
      intro hi0 hj0
      rcases hi0 with hi0 | hi0 <;> rcases hj0 with hj0 | hj0
      all_goals
        have ks : ∀ (W : World) (a : Addr), (store a (.func (.func 157) #[] #[])).run Tryz.prog W = stored Tryz.prog W a (.func (.func 157) #[] #[]) .plain := fun W a => run_store _ _ _ _ _ rfl
        have ho := HOUT.out
        first
          | (rw [if_pos hi0] at ho
             have HO := Aside0.mk ho
             clear ho)
          | (rw [if_neg hi0, if_pos hj0] at ho
             have HO := Aside0.mk ho
             clear ho)
          | (rw [if_neg hi0, if_neg hj0] at ho
             have HO := Aside0.mk ho
             clear ho)
        go_enter Tryz.func137, Tryz.ntmps137
        go_upto_region 4 with fail
        have hbl := blk_alloc (blk_new w (.cells #[.slice A0_0 l0_0.length c0_0, .slice A0_1 l0_1.length c0_1] 116)) (.cells #[.func (.func 157) #[] #[]] 140)
        have hpl := blk_new (w.alloc (.cells #[.slice A0_0 l0_0.length c0_0, .slice A0_1 l0_1.length c0_1] 116)) (.cells #[.func (.func 157) #[] #[]] 140)
        rw [show (w.alloc (.cells #[.slice A0_0 l0_0.length c0_0, .slice A0_1 l0_1.length c0_1] 116)).heap.size = w.heap.size + 1 from Array.size_push _] at hpl
        have hb2 := below_alloc HB1.out (.cells #[.func (.func 157) #[] #[]] 140)
        generalize (w.alloc (.cells #[.slice A0_0 l0_0.length c0_0, .slice A0_1 l0_1.length c0_1] 116)).alloc (.cells #[.func (.func 157) #[] #[]] 140) = w1 at *
        have hx0 : w1.cell? ⟨w.heap.size, 0, none⟩ = some (.slice A0_0 l0_0.length c0_0) := (blk_cell hbl 0).trans rfl
        have hx1 : w1.cell? ⟨w.heap.size, 1, none⟩ = some (.slice A0_1 l0_1.length c0_1) := (blk_cell hbl 1).trans rfl
        have hp0 : w1.cell? ⟨w.heap.size + 1, 0, none⟩ = some (.func (.func 157) #[] #[]) := (blk_cell hpl 0).trans rfl
        have HK := Aside0.mk (hIndexSiren 159 #[.pointer (some ⟨w.heap.size + 1, 0, none⟩)] badSiren (fun args w => by rfl) A0_0 c0_0 l0_0 w1 (Kd.C_below HR0.out hb2) (fun W y _ hb => checkValley2_calls y _ W ((hb.cell (World.block_lt_of_cell? w1 _ hp0)).trans hp0)))
        rw [← HI.out] at HK
        have HB2 := Aside0.mk hb2
        have HBL := Aside0.mk hbl
        have HP0 := Aside0.mk hp0
        clear hbl hpl hb2 hp0 hs hs2
        first
          | (go_wp2_with (first | (go_at_call 158; refine HK.out.mono ?_; rintro e w2 ⟨rfl, hb3⟩; have HB3 := Aside0.mk hb3; have hx1 := (hb3.cell (World.block_lt_of_cell? w1 _ hx1)).trans hx1; have HK2 := Aside0.mk (hIndexInt 160 #[.pointer (some ⟨w.heap.size + 1, 0, none⟩)] (fun n => !isPos n) (fun args w => by rfl) A0_1 c0_1 l0_1 w2 (Kd.C_below HR1.out (below_step HB2.out hb3)) (fun W y _ hb => checkValley3_calls y _ W (((below_step hb3 hb).cell (World.block_lt_of_cell? w1 _ HP0.out)).trans HP0.out))); rw [← HJ.out] at HK2; clear hb3) | (go_at_call 129; refine HK2.out.mono ?_; rintro e w3 ⟨rfl, hb4⟩; have HB4 := Aside0.mk hb4; clear hb4)))
        go_ret2
        have ho := HO.out
        simp only [Prod.mk.injEq] at ho
        obtain ⟨rfl, rfl⟩ := ho
        first
          | exact ⟨rfl, below_step (below_step HB2.out HB3.out) HB4.out⟩
          | exact ⟨rfl, below_step HB2.out HB3.out⟩
    exact hwalk (by omega) (by omega)
def ltI (x y : Int) : Bool := decide (x < y)
theorem less_f (x y : Int) : cmp_Less_int.f x y = some (ltI x y) := by
  unfold cmp_Less_int.f cmp_isNaN_int.f
  simp [ltI]
set_option maxHeartbeats 8000000 in
set_option maxRecDepth 100000 in
theorem insOrd_calls (g cap n B : Nat) (xs : List Int) (w : World) (ok : Nat → Prop)
    (hR : Kd.R (Kd.int .i64) 3 w B ok (.slice (some ⟨g, 0, none⟩) n cap) xs) :
    Calls Tryz.prog 166 #[.slice (some ⟨g, 0, none⟩) n cap, .int .i64 0, .int .i64 (n : Int)] w fun e w' => e = .returned (.tuple #[]) ∧ Kd.R (Kd.int .i64) 3 w' B ok (.slice (some ⟨g, 0, none⟩) n cap) (insTo ltI n xs) ∧ ButG w w' g := by
  obtain ⟨hn, hcap, hC⟩ := Kd.R_reads' hR
  have hm : n ≤ 9223372036854775807 := by rw [hn]; exact hC.2.1
  have HR := Aside0.mk hR
  have HN := Aside0.mk hn
  clear hR hn hC hcap
  go_enter Tryz.func166, Tryz.ntmps166
  go_wp2
  go_loopg [6] n (fun gg s8 W => ∃ (i : Nat), 1 ≤ i ∧ i ≤ n + 1 ∧ n + 1 - i ≤ gg ∧ s8 = .int .i64 i ∧ Aside0 (i ≤ n ∨ n = 0) ∧ Aside0 (Kd.R (Kd.int .i64) 3 W B ok (.slice (some ⟨g, 0, none⟩) n cap) (insTo ltI i xs)) ∧ Aside0 (ButG w W g))
  case atStart => exact ⟨1, by omega, by omega, by omega, by first | rfl | go_num, ⟨by omega⟩, HR, ⟨ButG.refl _ _⟩⟩
  case round =>
    obtain ⟨i, hi1, hi, hgg, rfl, HI, HRi, HBi⟩ := hrel
    by_cases hin : i < n
    case pos =>
      have hin2 : (i : Int) < (n : Int) := by omega
      go_wp2
      have hsw : insTo ltI (i + 1) xs = sink ltI i (insTo ltI i xs) := rfl
      have HSW := Aside0.mk hsw
      have hal : True := trivial
      have HAL := Aside0.mk hal
      have hll : (insTo ltI i xs).length = n := by rw [insTo_len]; exact HN.out.symm
      have HLL := Aside0.mk hll
      clear hal hll hsw
      go_loopg [7] i (fun gg s9 W => ∃ (j : Nat) (cur : List Int), j ≤ i ∧ j ≤ gg ∧ s9 = .int .i64 j ∧ Aside0 (sink ltI j cur = sink ltI i (insTo ltI i xs)) ∧ Aside0 (True) ∧ Aside0 (cur.length = n) ∧ Aside0 (Kd.R (Kd.int .i64) 3 W B ok (.slice (some ⟨g, 0, none⟩) n cap) cur) ∧ Aside0 (ButG w W g))
      case atStart => exact ⟨i, insTo ltI i xs, by omega, by omega, rfl, ⟨rfl⟩, HAL, HLL, HRi, HBi⟩
      case round =>
        obtain ⟨j, cur, hj, hgg2, rfl, HT, HPc, HLc, HRc, HBc⟩ := hrel
        obtain ⟨wC, hwC⟩ : ∃ wC, wC = wr := ⟨_, rfl⟩
        subst hwC
        rcases (show j = 0 ∨ 0 < j by omega) with hj0 | hj0
        case inl =>
          subst hj0
          go_upto_region 4 with fail
          go_region
          all_goals go_wp2
          go_roundg (n + 1 - (i + 1))
          case measure => omega
          case rel => exact ⟨i + 1, by omega, by omega, by omega, by first | go_num | (rw [w64 (by omega) (by omega)]; go_num), ⟨.inl (by omega)⟩, ⟨Kd.R_drew (by have := HRc.out; have h := HT.out; rw [HSW.out, ← h]; exact this)⟩, ⟨HBc.out.below (below_drew (Below.refl _ _))⟩⟩
        case inr =>
          obtain ⟨m, rfl⟩ : ∃ m, j = m + 1 := ⟨j - 1, by omega⟩
          have hmn : (m : Int) + 1 < (n : Int) := by omega
          have hmn1 : (m : Int) < (n : Int) := by omega
          have hm0 : (0 : Int) < (m : Int) + 1 := by omega
          obtain ⟨hx1, hf1⟩ := Kd.R_celln 0 HRc.out ((m + 1 : Nat) : Int) (by omega) (by omega)
          obtain ⟨hx0, hf0⟩ := Kd.R_celln 0 HRc.out (m : Int) (by omega) (by omega)
          rw [Int.toNat_natCast] at hx0 hx1 hf0 hf1
          rw [show rdOf 0 cur ((m + 1 : Nat) : Int) = cur.getD (m + 1) 0 from rfl] at hx1
          rw [show rdOf 0 cur (m : Int) = cur.getD m 0 from rfl] at hx0
          obtain ⟨x, hxx⟩ : ∃ x, x = cur.getD (m + 1) 0 := ⟨_, rfl⟩
          obtain ⟨y, hyy⟩ : ∃ y, y = cur.getD m 0 := ⟨_, rfl⟩
          rw [← hxx] at hx1
          rw [← hyy] at hx0
          have hpx : True := trivial
          have hpy : True := trivial
          have HXY := Aside0.mk (And.intro hxx hyy)
          have HPP := Aside0.mk (And.intro hpx hpy)
          obtain ⟨c, hcd⟩ : ∃ c, c = ltI x y := ⟨_, rfl⟩
          have HLS := Aside0.mk ((less_f x y).trans (by rw [← hcd]))
          have HCD := Aside0.mk hcd
          clear hcd
          have HJ := Aside0.mk hj
          clear hxx hyy hpx hpy hj hf0 hf1
          have hk1 : (0 : Int) ≤ (m : Int) + 1 := by omega
          have hk0 : (0 : Int) ≤ (m : Int) := by omega
          have hk2 : IntKind.i64.wrap ((m : Int) + 1 - 1) = (m : Int) := by rw [i64_w, w64 (by omega) (by omega)]; omega
          have hk5 : IntKind.i64.wrap (m : Int) = (m : Int) := by rw [i64_w, w64 (by omega) (by omega)]
          have hk6 : wrap64 (m : Int) = (m : Int) := by rw [w64 (by omega) (by omega)]
          simp only [Int.natCast_add, Int.natCast_one]
          go_upto_region 4 with fail
          go_region_held3 (fun w' => w'.cell? ⟨g, m + 1, none⟩ = some (.int .i64 x) ∧ w'.cell? ⟨g, m, none⟩ = some (.int .i64 y) ∧ Below wC.heap.size wC w')
            ((refine keep2 hx1 hx0 ?_; repeat (first | assumption | exact Below.refl _ _ | apply pw_below_drewN | apply below_drew | apply below_alloc | (apply And.right; apply And.right; assumption) | refine below_step ?_ (by assumption))))
            (first | (go_at_call 153; refine (cmp_Less_int.calls x y c _ HLS.out).mono ?_; rintro e w3 ⟨rfl, hb3⟩; have hb4 := hb3.below; clear hb3))
          have hBw : Below wC.heap.size wC w3 := by
            apply And.right
            apply And.right
            assumption
          have hR3 := Kd.R_below HRc.out hBw
          have HBw := Aside0.mk (HBc.out.below hBw)
          obtain ⟨hz1, hf1⟩ := Kd.R_celln 0 hR3 ((m + 1 : Nat) : Int) (by omega) (by omega)
          obtain ⟨hz0, hf0⟩ := Kd.R_celln 0 hR3 (m : Int) (by omega) (by omega)
          rw [Int.toNat_natCast] at hz0 hz1 hf0 hf1
          rw [show rdOf 0 cur ((m + 1 : Nat) : Int) = cur.getD (m + 1) 0 from rfl, ← HXY.out.1] at hz1
          rw [show rdOf 0 cur (m : Int) = cur.getD m 0 from rfl, ← HXY.out.2] at hz0
          have HR3 := Aside0.mk hR3
          clear hBw hR3 hx0 hx1
          cases hlt : c
          case true =>
            subst hlt
            have HLT := Aside0.mk HCD.out.symm
            clear HCD
            have hRn := Kd.R_putn (Kd.R_putn HR3.out ((m + 1 : Nat) : Int) y) (m : Int) x
            rw [Int.toNat_natCast, Int.toNat_natCast] at hRn
            have hsw : (cur.set (m + 1) y).set m x = swap2 cur m := by rw [HXY.out.1, HXY.out.2]; rfl
            rw [hsw] at hRn
            have hBn := (HBw.out.set (m + 1) (.int .i64 y)).set m (.int .i64 x)
            have hTn : sink ltI m (swap2 cur m) = sink ltI i (insTo ltI i xs) := by
              rw [← HT.out]
              show _ = sink ltI (m + 1) cur
              rw [sink, if_pos (by rw [← HXY.out.1, ← HXY.out.2]; exact HLT.out)]
            have HRn := Aside0.mk hRn
            have HBn := Aside0.mk hBn
            have HTn := Aside0.mk hTn
            have HPn := Aside0.mk (trivial : True)
            have HLn := Aside0.mk ((swap2_len cur m).trans HLc.out)
            clear hRn hBn hTn hsw
            go_upto_region 6 with fail
            go_region
            all_goals go_wp2
            go_roundg m
            case measure => omega
            case rel => exact ⟨m, swap2 cur m, by have := HJ.out; omega, by omega, by first | rfl | go_num, HTn, HPn, HLn, ⟨Kd.R_drew HRn.out⟩, ⟨HBn.out.below (below_drew (Below.refl _ _))⟩⟩
          case false =>
            subst hlt
            have HLT := Aside0.mk HCD.out.symm
            clear HCD
            go_wp2
            go_roundg (n + 1 - (i + 1))
            case measure => omega
            case rel => exact ⟨i + 1, by omega, by omega, by omega, by first | go_num | (rw [w64 (by omega) (by omega)]; go_num), ⟨.inl (by omega)⟩, ⟨by have h := HT.out; rw [sink, if_neg (by rw [← HXY.out.1, ← HXY.out.2, HLT.out]; decide)] at h; rw [HSW.out, ← h]; exact HR3.out⟩, ⟨HBw.out⟩⟩
    case neg =>
      have hfin : insTo ltI i xs = insTo ltI n xs := by
        rcases HI.out with h | h
        · rw [show i = n by omega]
        · have hx0 : xs = [] := List.eq_nil_of_length_eq_zero (by rw [← HN.out]; exact h)
          have : i = 1 := by omega
          subst this
          subst hx0
          rw [h]
          rfl
      have hRi := HRi.out
      rw [hfin] at hRi
      have HRF := Aside0.mk hRi
      clear hRi
      go_wp2
      first | go_end0 | (refine bodyPost_ret (results_none rfl _ _ _) rfl ?_)
      exact ⟨rfl, HRF.out, HBi.out⟩
set_option maxHeartbeats 8000000 in
set_option maxRecDepth 100000 in
theorem ordNil_calls (w : World) :
    Calls Tryz.prog 166 #[.slice none 0 0, .int .i64 0, .int .i64 0] w fun e w' => e = .returned (.tuple #[]) ∧ Below w.heap.size w w' := by
  go_enter Tryz.func166, Tryz.ntmps166
  go_wp2
  go_loopg [6] 0 (fun gg s8 W => s8 = .int .i64 1 ∧ W = w)
  case atStart => exact ⟨rfl, rfl⟩
  case round =>
    obtain ⟨rfl, rfl⟩ := hrel
    go_wp2
    first | go_end0 | (refine bodyPost_ret (results_none rfl _ _ _) rfl ?_)
    exact ⟨rfl, Below.refl _ _⟩
set_option maxHeartbeats 8000000 in
set_option maxRecDepth 100000 in
theorem bitsLen_calls (n : Nat) (hn : n ≤ 12) (w : World) :
    Calls Tryz.prog 162 #[.int .u64 (n : Int)] w fun e w' => ∃ r : Int, e = .returned (.int .i64 r) ∧ Below w.heap.size w w' := by
  rcases (show n = 0 ∨ n = 1 ∨ n = 2 ∨ n = 3 ∨ n = 4 ∨ n = 5 ∨ n = 6 ∨ n = 7 ∨ n = 8 ∨ n = 9 ∨ n = 10 ∨ n = 11 ∨ n = 12 by omega) with rfl | rfl | rfl | rfl | rfl | rfl | rfl | rfl | rfl | rfl | rfl | rfl | rfl
  all_goals
    go_enter Tryz.func162, Tryz.ntmps162
    go_wp2
    go_ret
    exact ⟨_, rfl, by repeat (first | exact Below.refl _ _ | apply pw_below_drewN | apply below_drew)⟩
set_option maxHeartbeats 8000000 in
set_option maxRecDepth 100000 in
theorem pdq_calls (ad : Option Addr) (n cap : Nat) (l : Int) (w : World) (Q : World → Prop) (hn : n ≤ 12)
    (hi : Calls Tryz.prog 166 #[.slice ad n cap, .int .i64 0, .int .i64 (n : Int)] w fun e w' => e = .returned (.tuple #[]) ∧ Q w') :
    Calls Tryz.prog 161 #[.slice ad n cap, .int .i64 0, .int .i64 (n : Int), .int .i64 l] w fun e w' => e = .returned (.tuple #[]) ∧ Q w' := by
  have HI := Aside0.mk hi
  have h1 : (n : Int) ≤ 12 := by omega
  clear hi
  go_enter Tryz.func161, Tryz.ntmps161
  go_wp2
  go_loopg [1, 2, 3, 8, 9] 0 (fun gg s1 s2 s3 s8 s9 W => s1 = .int .i64 0 ∧ s2 = .int .i64 (n : Int) ∧ s3 = .int .i64 l ∧ s8 = .bool true ∧ s9 = .bool true ∧ W = w)
  case atStart => exact ⟨rfl, rfl, rfl, rfl, rfl, rfl⟩
  case round =>
    obtain ⟨rfl, rfl, rfl, rfl, rfl, rfl⟩ := hrel
    go_wp2_with (go_at_call 166; refine HI.out.mono ?_; rintro e w2 ⟨rfl, hq⟩; have HQ := Aside0.mk hq; clear hq)
    first | go_end0 | (refine bodyPost_ret (results_none rfl _ _ _) rfl ?_)
    exact ⟨rfl, HQ.out⟩
set_option maxHeartbeats 8000000 in
set_option maxRecDepth 100000 in
theorem sliceSort_calls (ad : Option Addr) (n cap : Nat) (w : World) (Q : World → Prop) (hn : n ≤ 12)
    (hi : ∀ W, Below w.heap.size w W → Calls Tryz.prog 166 #[.slice ad n cap, .int .i64 0, .int .i64 (n : Int)] W fun e w' => e = .returned (.tuple #[]) ∧ Q w') :
    Calls Tryz.prog 138 #[.slice ad n cap] w fun e w' => e = .returned (.tuple #[]) ∧ Q w' := by
  have HI := Aside0.mk hi
  have HL := Aside0.mk (bitsLen_calls n hn w)
  have hb : (0 : Int) ≤ (n : Int) := by omega
  have hb2 : (n : Int) < 18446744073709551616 := by omega
  clear hi
  go_enter Tryz.func138, Tryz.ntmps138
  go_wp2_with (first | (go_at_call 162; refine HL.out.mono ?_; rintro e w1 ⟨r, rfl, hb1⟩; have HB1 := Aside0.mk hb1; clear hb1) | (go_at_call 161; refine (pdq_calls ad n cap r w1 Q hn (HI.out w1 HB1.out)).mono ?_; rintro e w2 ⟨rfl, hq⟩; have HQ := Aside0.mk hq; clear hq))
  first | go_end0 | (refine bodyPost_ret (results_none rfl _ _ _) rfl ?_)
  exact ⟨rfl, HQ.out⟩
theorem sliceSort_own (B : Nat) (xs : List Int) (v : Value) (w : World) (ok : Nat → Prop)
    (hR : Kd.R (Kd.int .i64) 3 w B ok v xs) (hl : xs.length ≤ 12) :
    Calls Tryz.prog 138 #[v] w fun e w' => e = .returned (.tuple #[]) ∧ Kd.R (Kd.int .i64) 3 w' B ok v (insTo ltI xs.length xs) ∧ ∃ g, B ≤ g ∧ ButG w w' g := by
  rcases Kd.R_twoS hR with ⟨rfl, rfl⟩ | ⟨g, cap, rfl, hg⟩
  · refine (sliceSort_calls none 0 0 w (fun w' => Below w.heap.size w w') (by decide) (fun W hb => (ordNil_calls W).mono ?_)).mono ?_
    · rintro e w' ⟨rfl, h⟩
      exact ⟨rfl, below_step hb h⟩
    · rintro e w' ⟨rfl, hb⟩
      exact ⟨rfl, Kd.R_below hR hb, B, Nat.le_refl _, (ButG.refl w B).below hb⟩
  · refine (sliceSort_calls (some ⟨g, 0, none⟩) xs.length cap w (fun w' => Kd.R (Kd.int .i64) 3 w' B ok (.slice (some ⟨g, 0, none⟩) xs.length cap) (insTo ltI xs.length xs) ∧ ButG w w' g) hl (fun W hb => (insOrd_calls g cap xs.length B xs W ok (Kd.R_below hR hb)).mono ?_)).mono ?_
    · rintro e w' ⟨rfl, h1, h2⟩
      exact ⟨rfl, h1, ButG.after hb h2⟩
    · rintro e w' ⟨rfl, h1, h2⟩
      exact ⟨rfl, h1, g, hg, h2⟩
def unlessV (b : Bool) (e : Int) : Int := if b then 0 else e
theorem unlessV_f (b : Bool) (e : Int) : dam_unless.f b e = some (unlessV b e) := by cases b <;> rfl
def dam_openValley.f (l0_0 : List S176) (l0_1 : List Int) : Option (List Int × Int) :=
  (dam_CheckValley.f l0_0 l0_1).bind fun c => if c.2 = 0 then (dam_valley_sweep.f l0_0 l0_1 [] 0).bind fun s => if s.1.length ≤ 12 then some (insTo ltI s.1.length s.1, unlessV s.2 12) else none else some ([], c.2)
theorem int_ne_valley : ∀ q, q ∈ 3 :: (Kd.int .i64).E → q ≠ 170 := by
  intro q hq
  have : q = 3 := by simpa [Kd.int, Kd.scalar] using hq
  rw [this]
  decide
set_option maxHeartbeats 8000000 in
set_option maxRecDepth 100000 in
theorem dam_openValley.calls (A0_0 : Option Addr) (c0_0 : Nat) (l0_0 : List S176) (A0_1 : Option Addr) (c0_1 : Nat) (l0_1 : List Int) (r1 : List Int) (r2 : Int) (w : World) (hr0_0 : Kd.C k176 w A0_0 l0_0.length l0_0) (hc0_0 : l0_0.length ≤ c0_0) (hr0_1 : Kd.C (Kd.int .i64) w A0_1 l0_1.length l0_1) (hc0_1 : l0_1.length ≤ c0_1) (h : dam_openValley.f l0_0 l0_1 = some (r1, r2)) :
    Calls Tryz.prog 111 #[.agg #[.slice A0_0 l0_0.length c0_0, .slice A0_1 l0_1.length c0_1]] w fun e w' => ∃ v0_ : Value, e = .returned (.tuple #[.agg #[.slice A0_0 l0_0.length c0_0, .slice A0_1 l0_1.length c0_1], v0_, .int .i64 r2]) ∧ Kd.R (Kd.int .i64) 3 w' w.heap.size (fun _ => True) v0_ r1 ∧ Below w.heap.size w w' := by
  have hu := Tryz.underlying170
  have hu1 := Tryz.underlying116
  have HR0 := Aside0.mk hr0_0
  have HR1 := Aside0.mk hr0_1
  have HC := Aside0.mk (And.intro hc0_0 hc0_1)
  clear hr0_0 hr0_1 hc0_0 hc0_1
  unfold dam_openValley.f at h
  replace h := Option.bind_eq_some_iff.mp h
  obtain ⟨⟨c1, e1⟩, hcv, h⟩ := h
  have HCV := Aside0.mk hcv
  have HOUT := Aside0.mk h
  clear h hcv
  go_enter Tryz.func111, Tryz.ntmps111
  go_upto_region 2 with fail
  have hX := blk_alloc (blk_alloc (blk_new w (.cells #[.slice A0_0 l0_0.length c0_0, .slice A0_1 l0_1.length c0_1] 116)) (.cells #[.slice none 0 0, .slice none 0 0] 170)) (.cells #[.slice A0_0 l0_0.length c0_0, .slice A0_1 l0_1.length c0_1] 170)
  have hRC := blk_alloc (blk_new (w.alloc (.cells #[.slice A0_0 l0_0.length c0_0, .slice A0_1 l0_1.length c0_1] 116)) (.cells #[.slice none 0 0, .slice none 0 0] 170)) (.cells #[.slice A0_0 l0_0.length c0_0, .slice A0_1 l0_1.length c0_1] 170)
  have hV := blk_new ((w.alloc (.cells #[.slice A0_0 l0_0.length c0_0, .slice A0_1 l0_1.length c0_1] 116)).alloc (.cells #[.slice none 0 0, .slice none 0 0] 170)) (.cells #[.slice A0_0 l0_0.length c0_0, .slice A0_1 l0_1.length c0_1] 170)
  rw [show (w.alloc (.cells #[.slice A0_0 l0_0.length c0_0, .slice A0_1 l0_1.length c0_1] 116)).heap.size = w.heap.size + 1 from Array.size_push _] at hRC
  rw [show ((w.alloc (.cells #[.slice A0_0 l0_0.length c0_0, .slice A0_1 l0_1.length c0_1] 116)).alloc (.cells #[.slice none 0 0, .slice none 0 0] 170)).heap.size = w.heap.size + 1 + 1 from (Array.size_push _).trans (congrArg (· + 1) (Array.size_push _))] at hV
  have hb1 := below_alloc (below_alloc (below_alloc (Below.refl _ w) (.cells #[.slice A0_0 l0_0.length c0_0, .slice A0_1 l0_1.length c0_1] 116)) (.cells #[.slice none 0 0, .slice none 0 0] 170)) (.cells #[.slice A0_0 l0_0.length c0_0, .slice A0_1 l0_1.length c0_1] 170)
  generalize ((w.alloc (.cells #[.slice A0_0 l0_0.length c0_0, .slice A0_1 l0_1.length c0_1] 116)).alloc (.cells #[.slice none 0 0, .slice none 0 0] 170)).alloc (.cells #[.slice A0_0 l0_0.length c0_0, .slice A0_1 l0_1.length c0_1] 170) = w1 at *
  have hx0 := (blk_cell hX 0).trans rfl
  have hx1 := (blk_cell hX 1).trans rfl
  have HRC := Aside0.mk hRC
  have HV := Aside0.mk hV
  have HB1 := Aside0.mk hb1
  clear hX hRC hV hb1
  go_upto_region 3 with (go_at_call 137; refine (dam_CheckValley.calls A0_0 c0_0 l0_0 A0_1 c0_1 l0_1 c1 e1 _ (Kd.C_below HR0.out HB1.out) HC.out.1 (Kd.C_below HR1.out HB1.out) HC.out.2 HCV.out).mono ?_; rintro e w2 ⟨rfl, hb2⟩; have HB2 := Aside0.mk hb2; clear hb2)
  clear hx0 hx1
  have hv0 := (blk_cell (blk_below HV.out HB2.out) 0).trans rfl
  have hv1 := (blk_cell (blk_below HV.out HB2.out) 1).trans rfl
  have HBW2 := Aside0.mk (below_step HB1.out HB2.out)
  by_cases hz : e1 = 0
  case neg =>
    have hzb : (e1 != 0) = true := bne_iff_ne.2 hz
    have ho := HOUT.out
    rw [if_neg hz] at ho
    simp only [Option.some.injEq, Prod.mk.injEq] at ho
    obtain ⟨rfl, rfl⟩ := ho
    have hrl := blk_below HRC.out HB2.out
    have hy0 := (blk_cell hrl 0).trans rfl
    have hy1 := (blk_cell hrl 1).trans rfl
    have hf0 := blk_frozen hrl 0
    have hf1 := blk_frozen hrl 1
    have HRL := Aside0.mk hrl
    clear hrl hz
    go_wp2
    refine bodyPost_ret (results_ctt rfl _ _ (w.heap.size + 1) 170 #[.slice A0_0 l0_0.length c0_0, .slice A0_1 l0_1.length c0_1] (0, 0) _ rfl (blk_put (blk_put HRL.out 0 _ rfl) 1 _ rfl) Tryz.underlying170 (by rfl) (by rfl)) rfl ⟨_, rfl, Kd.R_nil _ _ _ _ _, ?_⟩
    exact below_set (below_set HBW2.out (Nat.le_succ _)) (Nat.le_succ _)
  case pos =>
    subst hz
    have ho := HOUT.out
    rw [if_pos rfl] at ho
    replace ho := Option.bind_eq_some_iff.mp ho
    obtain ⟨⟨s1, s2⟩, hsw, ho⟩ := ho
    have hlen : s1.length ≤ 12 := by
      apply Decidable.by_contra
      intro hn
      simp only [if_neg hn] at ho
      exact absurd ho (by simp)
    simp only [if_pos hlen, Option.some.injEq, Prod.mk.injEq] at ho
    obtain ⟨rfl, rfl⟩ := ho
    have HSW := Aside0.mk hsw
    have HLEN := Aside0.mk hlen
    clear hsw hlen HOUT
    go_upto_region 7 with (first | (go_at_call 112; refine (dam_valley_sweep.calls A0_0 c0_0 l0_0 A0_1 c0_1 l0_1 none 0 [] 0 s1 s2 _ (Kd.C_below HR0.out HBW2.out) HC.out.1 (Kd.C_below HR1.out HBW2.out) HC.out.2 (Kd.C_nil _ _) (Nat.le_refl _) HSW.out).mono ?_; rintro e w3 ⟨v3, rfl, hR3, hb3⟩; have HR3 := Aside0.mk hR3; have HB3 := Aside0.mk hb3; clear hR3 hb3) | (go_at_call 138; refine (sliceSort_own w2.heap.size s1 v3 w3 (fun _ => True) HR3.out HLEN.out).mono ?_; rintro e w4 ⟨rfl, hR4, g, hg, hbut⟩; have HR4 := Aside0.mk hR4; have HB4 := Aside0.mk (hbut.toBelow HB3.out hg); clear hR4 hg hbut))
    clear hv0 hv1
    have hb4w := below_weaken HBW2.out HBW2.out.size HB4.out
    have hvb := blk_below (blk_below HV.out HB2.out) HB4.out
    have hrl := blk_below (blk_below HRC.out HB2.out) HB4.out
    have hv0 := (blk_cell hvb 0).trans rfl
    have hv1 := (blk_cell hvb 1).trans rfl
    have hy0 := (blk_cell hrl 0).trans rfl
    have hy1 := (blk_cell hrl 1).trans rfl
    have hf0 := blk_frozen hrl 0
    have hf1 := blk_frozen hrl 1
    have HRL := Aside0.mk hrl
    have HBW4 := Aside0.mk hb4w
    clear hrl hvb hb4w
    go_region_with (go_at_call 61; refine (dam_unless.calls _ _ _ _ (unlessV_f _ _)).mono ?_; rintro e w5 ⟨rfl, ⟨nd, rfl⟩⟩)
    all_goals go_wp2
    all_goals
      have hn := blk_drewN HRL.out (1 + nd)
      have hp1 := blk_put hn 0 (.slice A0_0 l0_0.length c0_0) rfl
      refine bodyPost_ret (results_ctt rfl _ _ (w.heap.size + 1) 170 #[.slice A0_0 l0_0.length c0_0, .slice A0_1 l0_1.length c0_1] (0, 0) _ rfl (blk_put hp1 1 _ rfl) Tryz.underlying170 (by rfl) (by rfl)) rfl ⟨_, rfl, ?_, ?_⟩
      · exact Kd.R_lower (Kd.R_set (Kd.R_set (Kd.R_drewN HR4.out (1 + nd)) hn int_ne_valley 0 _) hp1 int_ne_valley 1 _) HBW2.out.size
      · exact below_set (below_set (pw_below_drewN HBW4.out _) (Nat.le_succ _)) (Nat.le_succ _)
theorem unlessV_eq (b : Bool) (e : Int) : unlessV b e = if b = true then 0 else e := by cases b <;> rfl
def coverGo (ss : List S176) (hs : List Int) (np : Nat) : Nat → List Int → Nat → Option (List Int)
  | 0, _, _ => none
  | k + 1, out, i =>
    if out.length < np then (dam_valley_sweep.f ss hs (out ++ [(i : Int)]) ((i : Int) + 1)).bind fun s => coverGo ss hs np k (if s.2 = true ∧ (out ++ [(i : Int)]).length + s.1.length ≤ np then out ++ [(i : Int)] else out) (i + 1)
    else some out
def dam_CoverOf.f (k : Nat) (l0_0 : List S176) (l0_1 : List Int) : Option (List Int × Int) :=
  (dam_openValley.f l0_0 l0_1).bind fun o => if o.2 = 0 then (coverGo l0_0 l0_1 o.1.length k [] 0).bind fun l => some (l, 0) else some ([], o.2)
theorem openValley_small {ss : List S176} {hs : List Int} {r : List Int × Int} (h : dam_openValley.f ss hs = some r) : r.1.length ≤ 12 := by
  unfold dam_openValley.f at h
  obtain ⟨c, _, h⟩ := Option.bind_eq_some_iff.mp h
  split at h
  · obtain ⟨s, _, h⟩ := Option.bind_eq_some_iff.mp h
    split at h
    · obtain rfl := Option.some.inj h
      simpa [insTo_len] using by assumption
    · exact absurd h (by simp)
  · obtain rfl := Option.some.inj h
    simp
theorem coverGo_mono (ss : List S176) (hs : List Int) (np : Nat) : ∀ (k : Nat) (out : List Int) (i : Nat), LeO (coverGo ss hs np k out i) (coverGo ss hs np (k + 1) out i)
  | 0, _, _ => LeO.none _
  | k + 1, out, i => by
    unfold coverGo
    exact LeO.ite (LeO.bind (LeO.refl _) fun s => coverGo_mono ss hs np k _ _) (LeO.refl _)
theorem dam_CoverOf.mono : ∀ a0 a1 k, LeO (dam_CoverOf.f k a0 a1) (dam_CoverOf.f (k + 1) a0 a1) := by
  intro a0 a1 k
  unfold dam_CoverOf.f
  exact LeO.bind (LeO.refl _) fun o => LeO.ite (LeO.bind (coverGo_mono _ _ _ _ _ _) fun l => LeO.refl _) (LeO.refl _)
theorem sweep_some {ss : List S176} {hs l : List Int} {a : Int} {r : List Int × Bool} (h : dam_valley_sweep.f ss hs l a = some r) : a ≤ (ss.length : Int) ∧ r.1.length ≤ 20 := by
  unfold dam_valley_sweep.f at h
  split at h
  · rename_i hc
    refine ⟨hc.2.2.2.2, ?_⟩
    have hgo : ∀ (srt : List Int) (e : Int) (out : List Int) (n : Nat), out.length + srt.length ≤ n → (sweepGo ss hs a.toNat e out srt).1.length ≤ n := by
      intro srt
      induction srt with
      | nil => intro e out n hn; simp only [sweepGo]; simpa using hn
      | cons x t ih =>
        intro e out n hn
        simp only [List.length_cons] at hn
        unfold sweepGo
        split
        · exact ih _ _ _ (by omega)
        · split
          · simp
          · exact ih _ _ _ (by simp; omega)
    have := Option.some.inj h
    subst this
    have hl := leftTo_len ss hs l hs.length
    have hc2 := hc.2.1
    exact hgo _ _ _ _ (by simp [insTo_len]; omega)
  · exact absurd h (by simp)
set_option maxHeartbeats 8000000 in
set_option maxRecDepth 100000 in
theorem dam_CoverOf.calls (k : Nat) (A0_0 : Option Addr) (c0_0 : Nat) (l0_0 : List S176) (A0_1 : Option Addr) (c0_1 : Nat) (l0_1 : List Int) (r1 : List Int) (r2 : Int) (w : World) (hr0_0 : Kd.C k176 w A0_0 l0_0.length l0_0) (hc0_0 : l0_0.length ≤ c0_0) (hr0_1 : Kd.C (Kd.int .i64) w A0_1 l0_1.length l0_1) (hc0_1 : l0_1.length ≤ c0_1) (h : dam_CoverOf.f k l0_0 l0_1 = some (r1, r2)) :
    Calls Tryz.prog 55 #[.agg #[.slice A0_0 l0_0.length c0_0, .slice A0_1 l0_1.length c0_1]] w fun e w' => ∃ v0_ : Value, e = .returned (.tuple #[v0_, .int .i64 r2]) ∧ Kd.R (Kd.int .i64) 3 w' w.heap.size (fun _ => True) v0_ r1 ∧ Below w.heap.size w w' := by
  have hu := Tryz.underlying170
  have hu1 := Tryz.underlying116
  have HR0 := Aside0.mk hr0_0
  have HR1 := Aside0.mk hr0_1
  have HC := Aside0.mk (And.intro hc0_0 hc0_1)
  clear hr0_0 hr0_1 hc0_0 hc0_1
  unfold dam_CoverOf.f at h
  replace h := Option.bind_eq_some_iff.mp h
  obtain ⟨⟨pk, e1⟩, hov, h⟩ := h
  have HOV := Aside0.mk hov
  have HOUT := Aside0.mk h
  clear h hov
  go_enter Tryz.func55, Tryz.ntmps55
  go_upto_region 1 with fail
  have hX := blk_new w (.cells #[.slice A0_0 l0_0.length c0_0, .slice A0_1 l0_1.length c0_1] 116)
  have hb1 := below_alloc (Below.refl _ w) (.cells #[.slice A0_0 l0_0.length c0_0, .slice A0_1 l0_1.length c0_1] 116)
  generalize w.alloc (.cells #[.slice A0_0 l0_0.length c0_0, .slice A0_1 l0_1.length c0_1] 116) = w1 at *
  have hx0 := (blk_cell hX 0).trans rfl
  have hx1 := (blk_cell hX 1).trans rfl
  have HB1 := Aside0.mk hb1
  clear hX hb1
  go_upto_region 2 with (go_at_call 111; refine (dam_openValley.calls A0_0 c0_0 l0_0 A0_1 c0_1 l0_1 pk e1 _ (Kd.C_below HR0.out HB1.out) HC.out.1 (Kd.C_below HR1.out HB1.out) HC.out.2 HOV.out).mono ?_; rintro e w2 ⟨v2, rfl, hR2, hb2⟩; have HR2 := Aside0.mk hR2; have HB2 := Aside0.mk hb2; clear hR2 hb2)
  clear hx0 hx1
  obtain ⟨A2, c2, e2, hc2, hC2⟩ := Kd.R_reads HR2.out
  subst e2
  have hX := blk_new w2 (.cells #[.slice A0_0 l0_0.length c0_0, .slice A0_1 l0_1.length c0_1] 170)
  have hb3 := below_alloc (below_step HB1.out HB2.out) (.cells #[.slice A0_0 l0_0.length c0_0, .slice A0_1 l0_1.length c0_1] 170)
  generalize w2.alloc (.cells #[.slice A0_0 l0_0.length c0_0, .slice A0_1 l0_1.length c0_1] 170) = w3 at *
  generalize w2.heap.size = X at *
  have HX := Aside0.mk hX
  have HB3 := Aside0.mk hb3
  have hpm : pk.length ≤ 12 := openValley_small HOV.out
  clear hX hb3 hc2 hC2 HR2
  by_cases hz : e1 = 0
  case neg =>
    have hzb : (e1 != 0) = true := bne_iff_ne.2 hz
    have ho := HOUT.out
    rw [if_neg hz] at ho
    simp only [Option.some.injEq, Prod.mk.injEq] at ho
    obtain ⟨rfl, rfl⟩ := ho
    clear hz
    go_wp2
    refine bodyPost_ret (results_tmp2 rfl _ _ _) rfl ⟨_, rfl, Kd.R_nil _ _ _ _ _, HB3.out⟩
  case pos =>
    subst hz
    have ho := HOUT.out
    rw [if_pos rfl] at ho
    replace ho := Option.bind_eq_some_iff.mp ho
    obtain ⟨l, hgo, ho⟩ := ho
    simp only [Option.some.injEq, Prod.mk.injEq] at ho
    obtain ⟨rfl, rfl⟩ := ho
    have HGO := Aside0.mk hgo
    have HB0 := Aside0.mk (Below.refl w3.heap.size w3)
    clear hgo HOUT
    go_wp2
    go_loopg [7, 8] k (fun gg s7 s8 W => ∃ (i kk : Nat) (out : List Int), kk ≤ gg ∧ s8 = .int .i64 i ∧ Aside0 (Kd.R (Kd.int .i64) 3 W w3.heap.size (fun _ => True) s7 out) ∧ Aside0 (out.length ≤ i) ∧ Aside0 (coverGo l0_0 l0_1 pk.length kk out i = some l) ∧ Aside0 (Below w3.heap.size w3 W))
    case atStart => exact ⟨0, k, [], Nat.le_refl _, by first | rfl | go_num, ⟨Kd.R_nil _ _ _ _ _⟩, ⟨Nat.le_refl _⟩, HGO, HB0⟩
    case round =>
      obtain ⟨i, kk, out, hkk, rfl, HO, HOL, HG, HB⟩ := hrel
      clear HB0 HGO
      obtain ⟨wB, hwB⟩ : ∃ wB, wB = wr := ⟨_, rfl⟩
      subst hwB
      obtain ⟨A7, c7, e7, hc7, hC7⟩ := Kd.R_reads HO.out
      subst e7
      have hom : out.length ≤ 9223372036854775807 := hC7.2.1
      have HC7 := Aside0.mk (And.intro hc7 hC7)
      clear hc7 hC7
      cases kk with
      | zero => exact absurd HG.out (by simp [coverGo])
      | succ kk =>
      have hg := HG.out
      unfold coverGo at hg
      by_cases hlt : out.length < pk.length
      case neg =>
        rw [if_neg hlt] at hg
        obtain rfl := Option.some.inj hg
        have hltz : ¬ (out.length : Int) < (pk.length : Int) := by omega
        clear hlt hg
        go_wp2
        refine bodyPost_ret (results_tmp2 rfl _ _ _) rfl ⟨_, rfl, Kd.R_lower HO.out HB3.out.size, below_weaken HB3.out HB3.out.size HB.out⟩
      case pos =>
        rw [if_pos hlt] at hg
        replace hg := Option.bind_eq_some_iff.mp hg
        obtain ⟨⟨s1, s2⟩, hsw, hg⟩ := hg
        obtain ⟨hle1, hle2⟩ := sweep_some hsw
        have hsm : l0_0.length ≤ 9223372036854775807 := HR0.out.2.1
        have HSW := Aside0.mk hsw
        have HGN := Aside0.mk hg
        have hltz : (out.length : Int) < (pk.length : Int) := by omega
        have HCL := Aside0.mk (show slices_Clone_int_int.f out = some out by unfold slices_Clone_int_int.f; rw [if_pos (by omega)])
        clear hsw hg hlt
        have HBw := Aside0.mk (below_weaken HB3.out HB3.out.size HB.out)
        obtain ⟨nw, hnw⟩ : ∃ nw, nw = out ++ [(i : Int)] := ⟨_, rfl⟩
        have hnl : nw.length = out.length + 1 := by rw [hnw]; simp
        have HNL := Aside0.mk hnl
        have HNW := Aside0.mk hnw
        have hsw := HSW.out
        have hgn := HGN.out
        rw [← hnw] at hsw hgn
        have HSW := Aside0.mk hsw
        have HGN := Aside0.mk hgn
        clear hnw hnl hsw hgn
        go_upto_region 9 with (first | (go_at_call 74; refine (slices_Clone_int_int.calls A7 c7 out out _ HC7.out.2 HC7.out.1 HCL.out).mono ?_; rintro e w5 ⟨v5, rfl, hR5, hb5⟩; have HO5 := Aside0.mk hR5; have HB5 := Aside0.mk hb5; clear hR5 hb5) | ((with_reducible refine gate_builtin (b := .append) (xs := #[.tmp 29, .tmp 31]) rfl ?_); at_builtin; refine Kd.R_append (Kd.int .i64) (w0 := wB) wB.heap.size rfl (.tmp 29) (.tmp 31) 22 3 (.int .i64 0) 8 rfl Tryz.underlying22 info3 rfl (by decide) (by omega) v5 out (i : Int) [.int .i64 (i : Int)] (fun _ => True) (fun _ => False) rfl rfl ?aP (fun _ hk => hk.elim) ?aF ?aO ?aB ?aS ?aL ?_; (case aP => exact rfl); (case aB => exact (by repeat (first | (with_reducible first | exact HB5.out | apply below_alloc | apply pw_below_drewN | apply below_drew1) | exact HB5.out))); (case aF => exact (fun _ _ => trivial)); (case aO => exact (by (with_reducible repeat (first | apply Kd.R_alloc | apply Kd.R_drewN | apply Kd.R_drew)); exact HO5.out)); (case aS => exact (below_size (by repeat (first | (with_reducible first | exact HB5.out | apply below_alloc | apply pw_below_drewN | apply below_drew1) | exact HB5.out)))); (case aL => omega); intro v9 w6 ho hb hg hat; rw [← HNW.out] at ho; have HB6 := Aside0.mk hb; have HO6 := Aside0.mk ho; clear ho hb hg hat))
        obtain ⟨A9, c9, e9, hc9, hC9⟩ := Kd.R_reads HO6.out
        subst e9
        have HC9 := Aside0.mk (And.intro hc9 hC9)
        clear hc9 hC9
        have hbw6 := below_weaken HB.out HB.out.size HB6.out
        have HBw6 := Aside0.mk (below_weaken HB3.out HB3.out.size hbw6)
        have hx0 := (blk_cell (blk_below HX.out hbw6) 0).trans rfl
        have hx1 := (blk_cell (blk_below HX.out hbw6) 1).trans rfl
        clear hbw6
        go_upto_region 10 with (go_at_call 112; refine (dam_valley_sweep.calls A0_0 c0_0 l0_0 A0_1 c0_1 l0_1 A9 c9 nw ((i : Int) + 1) s1 s2 _ (Kd.C_below HR0.out HBw6.out) HC.out.1 (Kd.C_below HR1.out HBw6.out) HC.out.2 HC9.out.2 HC9.out.1 HSW.out).mono ?_; rintro e w7 ⟨v7, rfl, hR7, hb7⟩; have HR7 := Aside0.mk hR7; have HB7 := Aside0.mk hb7; clear hR7 hb7)
        obtain ⟨A10, c10, e10, hc10, hC10⟩ := Kd.R_reads HR7.out
        subst e10
        have HOk := Aside0.mk (Kd.R_below HO.out (below_step HB6.out HB7.out))
        have HOn := Aside0.mk (Kd.R_lower (Kd.R_below HO6.out HB7.out) HB.out.size)
        have HBn := Aside0.mk (below_weaken HB.out HB.out.size (below_step HB6.out HB7.out))
        have hs1 : s1.length ≤ 20 := hle2
        have hnl := HNL.out
        obtain ⟨m, hm⟩ : ∃ m, m = nw.length := ⟨_, rfl⟩
        have hmb : m ≤ 13 := by omega
        obtain ⟨q, hq⟩ : ∃ q, q = s1.length := ⟨_, rfl⟩
        have hqb : q ≤ 20 := by omega
        have hgn := HGN.out
        try simp only at hgn
        rw [← hm, ← hq] at hgn
        have HM := Aside0.mk hm
        have HQ := Aside0.mk hq
        have HGN := Aside0.mk hgn
        rw [← hm] at HOn
        rw [← hm, ← hq]
        clear hx0 hx1 hc10 hC10 hgn hnl hle2 hs1 hm hq
        have hil : out.length + 1 ≤ i + 1 := by have := HOL.out; omega
        cases s2
        case false =>
          have hgn := HGN.out
          rw [if_neg (fun hh => absurd hh.1 (by decide))] at hgn
          have HGN2 := Aside0.mk hgn
          clear HGN
          clear hgn
          go_wp2
          go_roundg kk
          case measure => omega
          case rel => exact ⟨i + 1, kk, out, Nat.le_refl _, by go_num, HOk, ⟨by omega⟩, HGN2, HBn⟩
        case true =>
          by_cases hle : m + q ≤ pk.length
          · have hgn := HGN.out
            rw [if_pos ⟨rfl, hle⟩] at hgn
            have hlez : (m : Int) + (q : Int) ≤ (pk.length : Int) := by omega
            have HGN2 := Aside0.mk hgn
            clear HGN
            have hnl : nw.length ≤ i + 1 := by have := HNL.out; omega
            clear hgn hle
            go_wp2
            go_roundg kk
            case measure => omega
            case rel => exact ⟨i + 1, kk, nw, Nat.le_refl _, by go_num, HOn, ⟨hnl⟩, HGN2, HBn⟩
          · have hgn := HGN.out
            rw [if_neg (fun hh => hle hh.2)] at hgn
            have hlez : ¬ (m : Int) + (q : Int) ≤ (pk.length : Int) := by omega
            have HGN2 := Aside0.mk hgn
            clear HGN
            clear hgn hle
            go_wp2
            go_roundg kk
            case measure => omega
            case rel => exact ⟨i + 1, kk, out, Nat.le_refl _, by go_num, HOk, ⟨by omega⟩, HGN2, HBn⟩
def guidevanelaw09_Valley.f  : Option ((List (S176)) × List Int) := some ((([(⟨10, 10⟩ : S176), (⟨30, 10⟩ : S176), (⟨55, 15⟩ : S176)] : List (S176))), (([5, 20, 40, 60] : List Int)))
set_option maxHeartbeats 8000000 in
set_option maxRecDepth 100000 in
theorem guidevanelaw09_Valley.calls  (r1 : List (S176)) (r2 : List Int) (w : World) (h : guidevanelaw09_Valley.f  = some (r1, r2)) :
    Calls Tryz.prog 56 #[] w fun e w' => ∃ v0_ v1_ : Value, e = .returned (.agg #[v0_, v1_]) ∧ Kd.R k176 176 w' w.heap.size (fun _ => True) v0_ r1 ∧ Kd.R (Kd.int .i64) 3 w' w.heap.size (fun _ => True) v1_ r2 ∧ Below w.heap.size w w' := by
  have hu116 := Tryz.underlying116
  have hu176 := Tryz.underlying176
  have HB := Aside0.mk (Below.refl w.heap.size w)
  have H : (some ((([(⟨10, 10⟩ : S176), (⟨30, 10⟩ : S176), (⟨55, 15⟩ : S176)] : List (S176))), (([5, 20, 40, 60] : List Int)))) = some (r1, r2) := h
  clear h
  obtain ⟨y168002, hy168002⟩ : ∃ y_ : List (S176), y_ = (([(⟨10, 10⟩ : S176), (⟨30, 10⟩ : S176), (⟨55, 15⟩ : S176)] : List (S176))) := ⟨_, rfl⟩
  replace H : (some (y168002, (([5, 20, 40, 60] : List Int)))) = some (r1, r2) := by first | (rw [hy168002]; with_reducible exact H) | (have H2_ := (Option.bind_some _ _).symm.trans H; rw [hy168002]; with_reducible exact H2_) | (have H2_ := (Option.bind_some _ _).symm.trans H; with_reducible exact H2_) | with_reducible exact H | (rw [hy168002]; exact H) | exact H
  have Ny168002 := Aside0.mk hy168002
  clear hy168002
  obtain ⟨y168005, hy168005⟩ : ∃ y_ : List Int, y_ = (([5, 20, 40, 60] : List Int)) := ⟨_, rfl⟩
  replace H : (some (y168002, y168005)) = some (r1, r2) := by first | (rw [hy168005]; with_reducible exact H) | (have H2_ := (Option.bind_some _ _).symm.trans H; rw [hy168005]; with_reducible exact H2_) | (have H2_ := (Option.bind_some _ _).symm.trans H; with_reducible exact H2_) | with_reducible exact H | (rw [hy168005]; exact H) | exact H
  have Ny168005 := Aside0.mk hy168005
  clear hy168005
  simp only [Option.some.injEq, Prod.mk.injEq] at H
  obtain ⟨rfl, rfl⟩ := H
  go_enter Tryz.func56, Tryz.ntmps56
  go_wp2_with (first | ((with_reducible refine gate_dst (N := 0) rfl ?_); refine box_event ?hg (N := 0) ?hd (cs := #[.slice none 0 0, .slice none 0 0]) (t := 116) ?hr ?_; (case hd => rfl); (case hg => rfl); (case hr => first | (go_simp; done) | (go_simp; rfl)); intro gb168001 hg w1 hbox hb; have n0_ := Aside0.mk (below_step (by repeat (first | (with_reducible first | exact HB.out | apply below_alloc | apply pw_below_drewN | apply below_drew1) | exact HB.out)) hb); have n1_ := Aside0.mk (hbox); have n2_ := Aside0.mk ((by rw [hg]; exact (below_size (by repeat (first | (with_reducible first | exact HB.out | apply below_alloc | apply pw_below_drewN | apply below_drew1) | exact HB.out))) : w.heap.size ≤ gb168001)); have n3_ := Aside0.mk ((by rw [hg]; exact (below_size (by repeat (first | (with_reducible first | exact HB.out | apply below_alloc | apply pw_below_drewN | apply below_drew1) | exact HB.out))) : w.heap.size ≤ gb168001)); clear HB; have HB := n0_; have BK168001 := n1_; have GW168001 := n2_; have GE168001 := n3_; clear n0_ n1_ n2_ n3_; clear hb hbox hg) | ((with_reducible refine gate_dst (N := 4) rfl ?_); refine Kd.R_lit k176 _ 176 ?hg (N := 4) ?hd (xs := ([(⟨10, 10⟩ : S176), (⟨30, 10⟩ : S176), (⟨55, 15⟩ : S176)] : List (S176))) (inner := [.int .i64 10, .int .i64 10, .int .i64 30, .int .i64 10, .int .i64 55, .int .i64 15]) (ok := fun _ => True) (okp := fun _ => True) ?hr ?hp (fun _ hk => hk) trivial (Below.refl _ _) (Nat.le_refl _) (by simp) ?_; (case hd => rfl); (case hg => rfl); (case hr => first | (go_simp; done) | (go_simp; rfl)); (case hp => exact (Reps.c2 (show Kd.M k176 _ _ _ (⟨10, 10⟩ : S176) [.int .i64 10, .int .i64 10] from (k176_mkM _ _ _ (⟨10, 10⟩ : S176) )) (Reps.c2 (show Kd.M k176 _ _ _ (⟨30, 10⟩ : S176) [.int .i64 30, .int .i64 10] from (k176_mkM _ _ _ (⟨30, 10⟩ : S176) )) (Reps.c2 (show Kd.M k176 _ _ _ (⟨55, 15⟩ : S176) [.int .i64 55, .int .i64 15] from (k176_mkM _ _ _ (⟨55, 15⟩ : S176) )) (Reps.none _ _))))); intro v168003 w2 ho3 hb hg_ hnew_; clear hg_ hnew_; (first | rw [← Ny168002.out] at ho3 | (simp only [Int.reduceToNat] at ho3; rw [← Ny168002.out] at ho3)); have n0_ := Aside0.mk (Kd.R_lower ho3 (below_size (by repeat (first | (with_reducible first | exact HB.out | apply below_alloc | apply pw_below_drewN | apply below_drew1 | refine below_set ?_ GE168001.out) | exact HB.out)))); have n1_ := Aside0.mk (blk_below (g := gb168001) (o := .cells #[.slice none 0 0, .slice none 0 0] 116 (0, 0)) (by (with_reducible repeat (first | refine blk_drewN ?_ _ | refine blk_drew ?_ | refine blk_alloc ?_ _)); exact BK168001.out) hb); have n2_ := Aside0.mk (below_step (by repeat (first | (with_reducible first | exact HB.out | apply below_alloc | apply pw_below_drewN | apply below_drew1 | refine below_set ?_ GE168001.out) | exact HB.out)) hb); clear BK168001; clear HB; have HO168004 := n0_; have BK168001 := n1_; have HB := n2_; clear n0_ n1_ n2_; clear hb ho3) | ((with_reducible refine gate_dst (N := 5) rfl ?_); refine Kd.R_lit (Kd.int .i64) _ 3 ?hg (N := 5) ?hd (xs := ([5, 20, 40, 60] : List Int)) (inner := [.int .i64 5, .int .i64 20, .int .i64 40, .int .i64 60]) (ok := fun _ => True) (okp := fun _ => True) ?hr ?hp (fun _ hk => hk) trivial (Below.refl _ _) (Nat.le_refl _) (by simp) ?_; (case hd => rfl); (case hg => rfl); (case hr => first | (go_simp; done) | (go_simp; rfl)); (case hp => exact (Reps.one (show Kd.M (Kd.int .i64) _ _ _ 5 [.int .i64 5] from rfl) (Reps.one (show Kd.M (Kd.int .i64) _ _ _ 20 [.int .i64 20] from rfl) (Reps.one (show Kd.M (Kd.int .i64) _ _ _ 40 [.int .i64 40] from rfl) (Reps.one (show Kd.M (Kd.int .i64) _ _ _ 60 [.int .i64 60] from rfl) (Reps.none _ _)))))); intro v168006 w4 ho5 hb hg_ hnew_; clear hg_ hnew_; (first | rw [← Ny168005.out] at ho5 | (simp only [Int.reduceToNat] at ho5; rw [← Ny168005.out] at ho5)); have n0_ := Aside0.mk (Kd.R_below (by (with_reducible repeat (first | apply Kd.R_alloc | apply Kd.R_drewN | apply Kd.R_drew)); exact HO168004.out) hb); have n1_ := Aside0.mk (Kd.R_lower ho5 (below_size (by repeat (first | (with_reducible first | exact HB.out | apply below_alloc | apply pw_below_drewN | apply below_drew1 | refine below_set ?_ GE168001.out) | exact HB.out)))); have n2_ := Aside0.mk (blk_below (g := gb168001) (o := .cells #[.slice none 0 0, .slice none 0 0] 116 (0, 0)) (by (with_reducible repeat (first | refine blk_drewN ?_ _ | refine blk_drew ?_ | refine blk_alloc ?_ _)); exact BK168001.out) hb); have n3_ := Aside0.mk (below_step (by repeat (first | (with_reducible first | exact HB.out | apply below_alloc | apply pw_below_drewN | apply below_drew1 | refine below_set ?_ GE168001.out) | exact HB.out)) hb); clear HO168004; clear BK168001; clear HB; have HO168004 := n0_; have HO168007 := n1_; have BK168001 := n2_; have HB := n3_; clear n0_ n1_ n2_ n3_; clear hb ho5; obtain ⟨Ao6, co6, eo6⟩ := Kd.R_slice HO168007.out; subst eo6; obtain ⟨Ao7, co7, eo7⟩ := Kd.R_slice HO168004.out; subst eo7; have hcz8_0 : w4.cell? ⟨gb168001, 0, none⟩ = some (.slice none 0 0) := (blk_cell BK168001.out 0).trans rfl; have hcz8_1 : w4.cell? ⟨gb168001, 1, none⟩ = some (.slice none 0 0) := (blk_cell BK168001.out 1).trans rfl; have hfz8_0 := blk_frozen BK168001.out 0; have hfz8_1 := blk_frozen BK168001.out 1))
  refine bodyPost_ret (results_cell_row rfl _ _ gb168001 116 #[.slice Ao7 y168002.length co7, .slice Ao6 y168005.length co6] (0, 0) _ rfl (by (with_reducible repeat (first | refine blk_drewN ?_ _ | refine blk_drew ?_ | refine blk_alloc ?_ _)); refine blk_put (cs := #[.slice Ao7 y168002.length co7, .slice none 0 0]) ?_ 1 _ rfl; (with_reducible repeat (first | refine blk_drewN ?_ _ | refine blk_drew ?_ | refine blk_alloc ?_ _)); refine blk_put (cs := #[.slice none 0 0, .slice none 0 0]) ?_ 0 _ rfl; (with_reducible repeat (first | refine blk_drewN ?_ _ | refine blk_drew ?_ | refine blk_alloc ?_ _)); exact BK168001.out) Tryz.underlying116 rfl (by kernel_rfl)) rfl ?_
  exact ⟨_, _, by first | rfl | (simp [errW_none, errW_some] <;> rfl) | (simp [*, errW_none, errW_some] <;> rfl), by (with_reducible repeat (first | apply Kd.R_alloc | apply Kd.R_drewN | apply Kd.R_drew)); exact Kd.R_mono (Kd.R_far (p := ⟨gb168001, 1, none⟩) (Kd.R_far (p := ⟨gb168001, 0, none⟩) (Kd.R_types HO168004.out BK168001.out (by decide)) (fun _ hk => hk.2) (.slice Ao7 y168002.length co7)) (fun _ hk => hk.2) (.slice Ao6 y168005.length co6)) (fun _ hk => trivial), by (with_reducible repeat (first | apply Kd.R_alloc | apply Kd.R_drewN | apply Kd.R_drew)); exact Kd.R_mono (Kd.R_far (p := ⟨gb168001, 1, none⟩) (Kd.R_far (p := ⟨gb168001, 0, none⟩) (Kd.R_types HO168007.out BK168001.out (by decide)) (fun _ hk => hk.2) (.slice Ao7 y168002.length co7)) (fun _ hk => hk.2) (.slice Ao6 y168005.length co6)) (fun _ hk => trivial), by repeat (first | (with_reducible first | exact HB.out | apply below_alloc | apply pw_below_drewN | apply below_drew1 | refine below_set ?_ GE168001.out) | exact HB.out)⟩
end Go.Proofs.YteopooljohdoiaaGreat.Px
namespace Go.Proofs.YteopooljohdoiaaGreat.Px
open Go.RowKit Go.Proofs.YteopooljohdoiaaGreatW.PrintWords Go.Proofs.YteopooljohdoiaaGreatW.PrintLast Go.Proofs.YteopooljohdoiaaGreatW.PrintMore
attribute [local go_sem] max2_int min2_int max_two min_two max_three min_three max_four min_four
mutual
def dam_CheckBasin.j0 : Nat → Int → List Int → List Int → Option (Int × Int)
  | 0, _, _, _ => none
  | k + 1, x5, x339002000, x339002001 => if x5 = 0 then (dam_CheckBasin.l0 k x339002000 (x339002000.length : Int) 0 x339002000 x339002001) else (some (0, x5))
def dam_CheckBasin.l0 : Nat → List Int → Int → Int → List Int → List Int → Option (Int × Int)
  | 0, _, _, _, _, _ => none
  | k + 1, x30, x31, x32, x339002000, x339002001 => if x32 < x31 then (if 0 ≤ x32 then (if x32 < (x30.length : Int) then ((dam_within.f (rd x30 x32) 0 1000000000).bind fun t339015 => (if t339015 = true then (if x32 < (x339002001.length : Int) then ((dam_within.f (rd x339002001 x32) 1 1000000000).bind fun t339017 => (if t339017 = true then (dam_CheckBasin.l0 k x30 x31 (wrap64 (x32 + 1)) x339002000 x339002001) else (some (x32, 2)))) else (none)) else (some (x32, 2)))) else (none)) else (none)) else (some (0, 0))
end
def dam_CheckBasin.f (k : Nat) (l0_0 : List Int) (l0_1 : List Int) : Option (Int × Int) := if (l0_0.length : Int) > 0 then ((dam_unless.f ((l0_1.length : Int) == (l0_0.length : Int)) 10).bind fun t339002 => ((dam_unless.f (decide ((l0_0.length : Int) ≤ 20)) 8).bind fun t339003 => ((dam_first.f k (([t339002, t339003] : List Int))).bind fun t339007 => (dam_CheckBasin.j0 k t339007 l0_0 l0_1)))) else ((dam_unless.f false 10).bind fun t339008 => ((dam_unless.f (decide ((l0_0.length : Int) ≤ 20)) 8).bind fun t339009 => ((dam_first.f k (([t339008, t339009] : List Int))).bind fun t339013 => (dam_CheckBasin.j0 k t339013 l0_0 l0_1))))
theorem dam_CheckBasin.mono_l : ∀ k, (∀ y0 y1 y2, LeO (dam_CheckBasin.j0 k y0 y1 y2) (dam_CheckBasin.j0 (k + 1) y0 y1 y2)) ∧ (∀ y0 y1 y2 y3 y4, LeO (dam_CheckBasin.l0 k y0 y1 y2 y3 y4) (dam_CheckBasin.l0 (k + 1) y0 y1 y2 y3 y4))
  | 0 => ⟨fun _ _ _ r h => by simp [dam_CheckBasin.j0] at h, fun _ _ _ _ _ r h => by simp [dam_CheckBasin.l0] at h⟩
  | k + 1 => by
    obtain ⟨ih0, ih1⟩ := dam_CheckBasin.mono_l k
    refine ⟨?_, ?_⟩
    · intro y0 y1 y2
      unfold dam_CheckBasin.j0
      repeat' first
      | (with_reducible exact ih0 _ _ _)
      | (with_reducible exact ih1 _ _ _ _ _)
      | (with_reducible exact dam_first.mono _ _)
      | (with_reducible exact LeO.refl _)
      | (with_reducible exact LeO.none _)
      | (with_reducible refine LeO.ite ?_ ?_)
      | (with_reducible refine LeO.bind ?_ (fun _ => ?_))
      | exact ih0 _ _ _
      | exact ih1 _ _ _ _ _
      | exact dam_first.mono _ _
      | exact LeO.none _
      | refine LeO.ite ?_ ?_
      | refine LeO.bind ?_ (fun _ => ?_)
    · intro y0 y1 y2 y3 y4
      unfold dam_CheckBasin.l0
      repeat' first
      | (with_reducible exact ih0 _ _ _)
      | (with_reducible exact ih1 _ _ _ _ _)
      | (with_reducible exact dam_first.mono _ _)
      | (with_reducible exact LeO.refl _)
      | (with_reducible exact LeO.none _)
      | (with_reducible refine LeO.ite ?_ ?_)
      | (with_reducible refine LeO.bind ?_ (fun _ => ?_))
      | exact ih0 _ _ _
      | exact ih1 _ _ _ _ _
      | exact dam_first.mono _ _
      | exact LeO.none _
      | refine LeO.ite ?_ ?_
      | refine LeO.bind ?_ (fun _ => ?_)
theorem dam_CheckBasin.mono : ∀ a0 a1 k, LeO (dam_CheckBasin.f k a0 a1) (dam_CheckBasin.f (k + 1) a0 a1) := by
  intro a0 a1 k
  obtain ⟨ih0, ih1⟩ := dam_CheckBasin.mono_l k
  unfold dam_CheckBasin.f
  repeat' first
      | (with_reducible exact ih0 _ _ _)
      | (with_reducible exact ih1 _ _ _ _ _)
      | (with_reducible exact dam_first.mono _ _)
      | (with_reducible exact LeO.refl _)
      | (with_reducible exact LeO.none _)
      | (with_reducible refine LeO.ite ?_ ?_)
      | (with_reducible refine LeO.bind ?_ (fun _ => ?_))
      | exact ih0 _ _ _
      | exact ih1 _ _ _ _ _
      | exact dam_first.mono _ _
      | exact LeO.none _
      | refine LeO.ite ?_ ?_
      | refine LeO.bind ?_ (fun _ => ?_)
set_option maxHeartbeats 8000000 in
set_option maxRecDepth 100000 in
theorem dam_CheckBasin.calls (k : Nat) (A0_0 : Option Addr) (c0_0 : Nat) (l0_0 : List Int) (A0_1 : Option Addr) (c0_1 : Nat) (l0_1 : List Int) (r1 : Int) (r2 : Int) (w : World) (hr0_0 : Kd.C (Kd.int .i64) w A0_0 l0_0.length l0_0) (hc0_0 : l0_0.length ≤ c0_0) (hr0_1 : Kd.C (Kd.int .i64) w A0_1 l0_1.length l0_1) (hc0_1 : l0_1.length ≤ c0_1) (h : dam_CheckBasin.f k l0_0 l0_1 = some (r1, r2)) :
    Calls Tryz.prog 113 #[.agg #[.slice A0_0 l0_0.length c0_0, .slice A0_1 l0_1.length c0_1]] w fun e w' => e = .returned (.tuple #[.int .i64 r1, .int .i64 r2]) ∧ Below w.heap.size w w' := by
  have hu120 := Tryz.underlying120
  have HR0_0 := Aside0.mk hr0_0
  have HC0_0 := Aside0.mk hc0_0
  clear hr0_0 hc0_0
  have HR0_1 := Aside0.mk hr0_1
  have HC0_1 := Aside0.mk hc0_1
  clear hr0_1 hc0_1
  have HB := Aside0.mk (Below.refl w.heap.size w)
  have H : (if (l0_0.length : Int) > 0 then ((dam_unless.f ((l0_1.length : Int) == (l0_0.length : Int)) 10).bind fun t339002 => ((dam_unless.f (decide ((l0_0.length : Int) ≤ 20)) 8).bind fun t339003 => ((dam_first.f k (([t339002, t339003] : List Int))).bind fun t339007 => (dam_CheckBasin.j0 k t339007 l0_0 l0_1)))) else ((dam_unless.f false 10).bind fun t339008 => ((dam_unless.f (decide ((l0_0.length : Int) ≤ 20)) 8).bind fun t339009 => ((dam_first.f k (([t339008, t339009] : List Int))).bind fun t339013 => (dam_CheckBasin.j0 k t339013 l0_0 l0_1))))) = some (r1, r2) := h
  clear h
  have HC2 := Aside0.mk H
  clear H
  go_enter Tryz.func113, Tryz.ntmps113
  go_upto_region 2 with (first | ((with_reducible refine gate_dst (N := 1) rfl ?_); (try (refine gate_guard (by rfl) ?_; dsimp only)); refine box_event ?hg (N := 1) ?hd (cs := #[.slice A0_0 l0_0.length c0_0, .slice A0_1 l0_1.length c0_1]) (t := 120) ?hr ?_; (case hd => rfl); (case hg => rfl); (case hr => first | (go_simp; done) | (go_simp; rfl)); intro gb339001 hg w3 hbox hb; have n0_ := Aside0.mk (below_step (by repeat (first | (with_reducible first | exact HB.out | apply below_alloc | apply pw_below_drewN | apply below_drew1) | exact HB.out)) hb); have n1_ := Aside0.mk (hbox); have n2_ := Aside0.mk ((by rw [hg]; exact (below_size (by repeat (first | (with_reducible first | exact HB.out | apply below_alloc | apply pw_below_drewN | apply below_drew1) | exact HB.out))) : w.heap.size ≤ gb339001)); have n3_ := Aside0.mk ((by rw [hg]; exact (below_size (by repeat (first | (with_reducible first | exact HB.out | apply below_alloc | apply pw_below_drewN | apply below_drew1) | exact HB.out))) : w.heap.size ≤ gb339001)); clear HB; have HB := n0_; have BK339001 := n1_; have GW339001 := n2_; have GE339001 := n3_; clear n0_ n1_ n2_ n3_; clear hb hbox hg; have hcz4_0 : w3.cell? ⟨gb339001, 0, none⟩ = some (.slice A0_0 l0_0.length c0_0) := (blk_cell BK339001.out 0).trans rfl; have hcz4_1 : w3.cell? ⟨gb339001, 1, none⟩ = some (.slice A0_1 l0_1.length c0_1) := (blk_cell BK339001.out 1).trans rfl; have hfz4_0 := blk_frozen BK339001.out 0; have hfz4_1 := blk_frozen BK339001.out 1))
  (try simp only [Act.put, List.setIfInBounds_toArray, List.set_cons_zero, List.set_cons_succ])
  go_cut [5] (fun v5 wc => ∃ (kq : Nat) (x5_1 : Int), v5 = .int .i64 x5_1 ∧ Aside0 (dam_CheckBasin.j0 kq x5_1 l0_0 l0_1 = some (r1, r2)) ∧ Aside0 (kq ≤ k) ∧ Aside0 (wc.heap[gb339001]? = some (.cells #[(.slice A0_0 l0_0.length c0_0), (.slice A0_1 l0_1.length c0_1)] 120 (0, 0))) ∧ Aside0 (Below w.heap.size w wc))
  case first =>
    have H := HC2.out
    clear HC2
    by_cases c5 : (l0_0.length : Int) > 0
    · rw [if_pos c5] at H
      have c5b0 : decide (0 < (l0_0.length : Int)) = true := decide_eq_true c5
      have c5b1 : decide (0 < l0_0.length) = true := decide_eq_true (by omega)
      clear c5
      (first | rw [c5b0] | (simp only [i64_w, i32_w]; rw [c5b0]) | skip)
      replace H := Option.bind_eq_some_iff.mp H
      obtain ⟨t339002, A60, H⟩ := H
      replace H : ((dam_unless.f (decide ((l0_0.length : Int) ≤ 20)) 8).bind fun t339003 => ((dam_first.f k (([t339002, t339003] : List Int))).bind fun t339007 => (dam_CheckBasin.j0 k t339007 l0_0 l0_1))) = some (r1, r2) := H
      have A6 := Aside0.mk A60
      clear A60
      replace H := Option.bind_eq_some_iff.mp H
      obtain ⟨t339003, A70, H⟩ := H
      replace H : ((dam_first.f k (([t339002, t339003] : List Int))).bind fun t339007 => (dam_CheckBasin.j0 k t339007 l0_0 l0_1)) = some (r1, r2) := H
      have A7 := Aside0.mk A70
      clear A70
      obtain ⟨y339004, hy339004⟩ : ∃ y_ : List Int, y_ = (([t339002, t339003] : List Int)) := ⟨_, rfl⟩
      replace H : ((dam_first.f k y339004).bind fun t339007 => (dam_CheckBasin.j0 k t339007 l0_0 l0_1)) = some (r1, r2) := by first | (rw [hy339004]; with_reducible exact H) | (have H2_ := (Option.bind_some _ _).symm.trans H; rw [hy339004]; with_reducible exact H2_) | (have H2_ := (Option.bind_some _ _).symm.trans H; with_reducible exact H2_) | with_reducible exact H | (rw [hy339004]; exact H) | exact H
      have Ny339004 := Aside0.mk hy339004
      clear hy339004
      replace H := Option.bind_eq_some_iff.mp H
      obtain ⟨t339007, A80, H⟩ := H
      replace H : (dam_CheckBasin.j0 k t339007 l0_0 l0_1) = some (r1, r2) := H
      have A8 := Aside0.mk A80
      clear A80
      have H' := Aside0.mk H
      clear H
      have hcz9_0 : w3.cell? ⟨gb339001, 0, none⟩ = some (.slice A0_0 l0_0.length c0_0) := (blk_cell BK339001.out 0).trans rfl
      have hcz9_1 : w3.cell? ⟨gb339001, 1, none⟩ = some (.slice A0_1 l0_1.length c0_1) := (blk_cell BK339001.out 1).trans rfl
      have hfz9_0 := blk_frozen BK339001.out 0
      have hfz9_1 := blk_frozen BK339001.out 1
      go_wp2_with (first | ((with_reducible refine gate_callee (f := 61) rfl ?_); refine goesL_ (some 20) rfl rfl Tryz.func61 (by kernel_rfl) rfl #[.bool ((l0_1.length : Int) == (l0_0.length : Int)), .int .i64 10] rfl (by (try simp only [List.map_toArray, List.map_cons, List.map_nil]); first | done | rfl | (simp only [List.length_drop, List.length_take]; rfl)) ?_; (with_reducible refine (dam_unless.calls ((l0_1.length : Int) == (l0_0.length : Int)) 10 t339002 _ A6.out).mono ?_); rintro e w' ⟨rfl, ⟨nd, rfl⟩⟩; refine ⟨_, rfl, ?_⟩) | ((with_reducible refine gate_callee (f := 61) rfl ?_); refine goesL_ (some 23) rfl rfl Tryz.func61 (by kernel_rfl) rfl #[.bool (decide ((l0_0.length : Int) ≤ 20)), .int .i64 8] rfl (by (try simp only [List.map_toArray, List.map_cons, List.map_nil]); first | done | rfl | (simp only [List.length_drop, List.length_take]; rfl)) ?_; (with_reducible refine (dam_unless.calls (decide ((l0_0.length : Int) ≤ 20)) 8 t339003 _ A7.out).mono ?_); rintro e w' ⟨rfl, ⟨nd, rfl⟩⟩; refine ⟨_, rfl, ?_⟩) | ((with_reducible refine gate_dst (N := 24) rfl ?_); (try (refine gate_guard (by rfl) ?_; dsimp only)); refine Kd.R_lit (Kd.int .i64) _ 32 ?hg (N := 24) ?hd (xs := ([t339002, t339003] : List Int)) (inner := [.int .i64 t339002, .int .i64 t339003]) (ok := fun _ => True) (okp := fun _ => True) ?hr ?hp (fun _ hk => hk) trivial (Below.refl _ _) (Nat.le_refl _) (by simp) ?_; (case hd => rfl); (case hg => rfl); (case hr => first | (go_simp; done) | (go_simp; rfl)); (case hp => exact (Reps.one (show Kd.M (Kd.int .i64) _ _ _ t339002 [.int .i64 t339002] from rfl) (Reps.one (show Kd.M (Kd.int .i64) _ _ _ t339003 [.int .i64 t339003] from rfl) (Reps.none _ _)))); intro v339005 w10 ho11 hb hg_ hnew_; clear hg_ hnew_; (first | rw [← Ny339004.out] at ho11 | (simp only [Int.reduceToNat] at ho11; rw [← Ny339004.out] at ho11)); have n0_ := Aside0.mk (Kd.R_lower ho11 (below_size (by repeat (first | (with_reducible first | exact HB.out | apply below_alloc | apply pw_below_drewN | apply below_drew1 | refine below_set ?_ GE339001.out) | exact HB.out)))); have n1_ := Aside0.mk (blk_below (g := gb339001) (o := .cells #[.slice A0_0 l0_0.length c0_0, .slice A0_1 l0_1.length c0_1] 120 (0, 0)) (by (with_reducible repeat (first | refine blk_drewN ?_ _ | refine blk_drew ?_ | refine blk_alloc ?_ _)); exact BK339001.out) hb); have n2_ := Aside0.mk (below_step (by repeat (first | (with_reducible first | exact HB.out | apply below_alloc | apply pw_below_drewN | apply below_drew1 | refine below_set ?_ GE339001.out) | exact HB.out)) hb); clear BK339001; clear HB; have HO339006 := n0_; have BK339001 := n1_; have HB := n2_; clear n0_ n1_ n2_; clear hb ho11; obtain ⟨Ao12, co12, eo12⟩ := Kd.R_slice HO339006.out; subst eo12) | ((with_reducible refine gate_callee (f := 60) rfl ?_); refine goesL_ (some 25) rfl rfl Tryz.func60 (by kernel_rfl) rfl #[.slice Ao12 y339004.length co12] rfl (by (try simp only [List.map_toArray, List.map_cons, List.map_nil]); first | done | rfl | (simp only [List.length_drop, List.length_take]; rfl)) ?_; (with_reducible refine (dam_first.calls k _ _ y339004 t339007 _ ?side1 ?side2 A8.out).mono ?_); (case side1 => repeat (first | exact (Kd.R_reads' HO339006.out).2.2 | (with_reducible refine Kd.C_alloc ?_ _) | (with_reducible refine Kd.C_drewN ?_ _) | (with_reducible refine Kd.C_drew ?_))); (case side2 => exact (Kd.R_reads' HO339006.out).2.1); rintro e w' ⟨rfl, ⟨nd, rfl⟩⟩; refine ⟨_, rfl, ?_⟩))
      go_meet
      case rel => exact ⟨_, (t339007), (by first | rfl | (simp; done) | (simp [*]; done)), H', ⟨by first | omega | exact Nat.le_refl _⟩, ⟨by (with_reducible repeat (first | refine blk_drewN ?_ _ | refine blk_drew ?_ | refine blk_alloc ?_ _)); exact BK339001.out⟩, ⟨by repeat (first | (with_reducible first | exact HB.out | apply below_alloc | apply pw_below_drewN | apply below_drew1 | refine below_set ?_ GE339001.out) | exact HB.out)⟩⟩
    · rw [if_neg c5] at H
      have c5b0 : decide (0 < (l0_0.length : Int)) = false := decide_eq_false c5
      have c5b1 : decide (0 < l0_0.length) = false := decide_eq_false (by omega)
      clear c5
      (first | rw [c5b0] | (simp only [i64_w, i32_w]; rw [c5b0]) | skip)
      replace H := Option.bind_eq_some_iff.mp H
      obtain ⟨t339008, A130, H⟩ := H
      replace H : ((dam_unless.f (decide ((l0_0.length : Int) ≤ 20)) 8).bind fun t339009 => ((dam_first.f k (([t339008, t339009] : List Int))).bind fun t339013 => (dam_CheckBasin.j0 k t339013 l0_0 l0_1))) = some (r1, r2) := H
      have A13 := Aside0.mk A130
      clear A130
      replace H := Option.bind_eq_some_iff.mp H
      obtain ⟨t339009, A140, H⟩ := H
      replace H : ((dam_first.f k (([t339008, t339009] : List Int))).bind fun t339013 => (dam_CheckBasin.j0 k t339013 l0_0 l0_1)) = some (r1, r2) := H
      have A14 := Aside0.mk A140
      clear A140
      obtain ⟨y339010, hy339010⟩ : ∃ y_ : List Int, y_ = (([t339008, t339009] : List Int)) := ⟨_, rfl⟩
      replace H : ((dam_first.f k y339010).bind fun t339013 => (dam_CheckBasin.j0 k t339013 l0_0 l0_1)) = some (r1, r2) := by first | (rw [hy339010]; with_reducible exact H) | (have H2_ := (Option.bind_some _ _).symm.trans H; rw [hy339010]; with_reducible exact H2_) | (have H2_ := (Option.bind_some _ _).symm.trans H; with_reducible exact H2_) | with_reducible exact H | (rw [hy339010]; exact H) | exact H
      have Ny339010 := Aside0.mk hy339010
      clear hy339010
      replace H := Option.bind_eq_some_iff.mp H
      obtain ⟨t339013, A150, H⟩ := H
      replace H : (dam_CheckBasin.j0 k t339013 l0_0 l0_1) = some (r1, r2) := H
      have A15 := Aside0.mk A150
      clear A150
      have H' := Aside0.mk H
      clear H
      go_wp2_with (first | ((with_reducible refine gate_callee (f := 61) rfl ?_); refine goesL_ (some 20) rfl rfl Tryz.func61 (by kernel_rfl) rfl #[.bool false, .int .i64 10] rfl (by (try simp only [List.map_toArray, List.map_cons, List.map_nil]); first | done | rfl | (simp only [List.length_drop, List.length_take]; rfl)) ?_; (with_reducible refine (dam_unless.calls false 10 t339008 _ A13.out).mono ?_); rintro e w' ⟨rfl, ⟨nd, rfl⟩⟩; refine ⟨_, rfl, ?_⟩) | ((with_reducible refine gate_callee (f := 61) rfl ?_); refine goesL_ (some 23) rfl rfl Tryz.func61 (by kernel_rfl) rfl #[.bool (decide ((l0_0.length : Int) ≤ 20)), .int .i64 8] rfl (by (try simp only [List.map_toArray, List.map_cons, List.map_nil]); first | done | rfl | (simp only [List.length_drop, List.length_take]; rfl)) ?_; (with_reducible refine (dam_unless.calls (decide ((l0_0.length : Int) ≤ 20)) 8 t339009 _ A14.out).mono ?_); rintro e w' ⟨rfl, ⟨nd, rfl⟩⟩; refine ⟨_, rfl, ?_⟩) | ((with_reducible refine gate_dst (N := 24) rfl ?_); (try (refine gate_guard (by rfl) ?_; dsimp only)); refine Kd.R_lit (Kd.int .i64) _ 32 ?hg (N := 24) ?hd (xs := ([t339008, t339009] : List Int)) (inner := [.int .i64 t339008, .int .i64 t339009]) (ok := fun _ => True) (okp := fun _ => True) ?hr ?hp (fun _ hk => hk) trivial (Below.refl _ _) (Nat.le_refl _) (by simp) ?_; (case hd => rfl); (case hg => rfl); (case hr => first | (go_simp; done) | (go_simp; rfl)); (case hp => exact (Reps.one (show Kd.M (Kd.int .i64) _ _ _ t339008 [.int .i64 t339008] from rfl) (Reps.one (show Kd.M (Kd.int .i64) _ _ _ t339009 [.int .i64 t339009] from rfl) (Reps.none _ _)))); intro v339011 w16 ho17 hb hg_ hnew_; clear hg_ hnew_; (first | rw [← Ny339010.out] at ho17 | (simp only [Int.reduceToNat] at ho17; rw [← Ny339010.out] at ho17)); have n0_ := Aside0.mk (Kd.R_lower ho17 (below_size (by repeat (first | (with_reducible first | exact HB.out | apply below_alloc | apply pw_below_drewN | apply below_drew1 | refine below_set ?_ GE339001.out) | exact HB.out)))); have n1_ := Aside0.mk (blk_below (g := gb339001) (o := .cells #[.slice A0_0 l0_0.length c0_0, .slice A0_1 l0_1.length c0_1] 120 (0, 0)) (by (with_reducible repeat (first | refine blk_drewN ?_ _ | refine blk_drew ?_ | refine blk_alloc ?_ _)); exact BK339001.out) hb); have n2_ := Aside0.mk (below_step (by repeat (first | (with_reducible first | exact HB.out | apply below_alloc | apply pw_below_drewN | apply below_drew1 | refine below_set ?_ GE339001.out) | exact HB.out)) hb); clear BK339001; clear HB; have HO339012 := n0_; have BK339001 := n1_; have HB := n2_; clear n0_ n1_ n2_; clear hb ho17; obtain ⟨Ao18, co18, eo18⟩ := Kd.R_slice HO339012.out; subst eo18) | ((with_reducible refine gate_callee (f := 60) rfl ?_); refine goesL_ (some 25) rfl rfl Tryz.func60 (by kernel_rfl) rfl #[.slice Ao18 y339010.length co18] rfl (by (try simp only [List.map_toArray, List.map_cons, List.map_nil]); first | done | rfl | (simp only [List.length_drop, List.length_take]; rfl)) ?_; (with_reducible refine (dam_first.calls k _ _ y339010 t339013 _ ?side1 ?side2 A15.out).mono ?_); (case side1 => repeat (first | exact (Kd.R_reads' HO339012.out).2.2 | (with_reducible refine Kd.C_alloc ?_ _) | (with_reducible refine Kd.C_drewN ?_ _) | (with_reducible refine Kd.C_drew ?_))); (case side2 => exact (Kd.R_reads' HO339012.out).2.1); rintro e w' ⟨rfl, ⟨nd, rfl⟩⟩; refine ⟨_, rfl, ?_⟩))
      go_meet
      case rel => exact ⟨_, (t339013), (by first | rfl | (simp; done) | (simp [*]; done)), H', ⟨by first | omega | exact Nat.le_refl _⟩, ⟨by (with_reducible repeat (first | refine blk_drewN ?_ _ | refine blk_drew ?_ | refine blk_alloc ?_ _)); exact BK339001.out⟩, ⟨by repeat (first | (with_reducible first | exact HB.out | apply below_alloc | apply pw_below_drewN | apply below_drew1 | refine below_set ?_ GE339001.out) | exact HB.out)⟩⟩
  case rest =>
    clear HC2
    try clear c1
    try clear p2
    try clear c5
    try clear c5b0
    try clear c5b1
    try clear c6
    try clear c11
    try clear hcz4_0
    try clear hcz4_1
    try clear hcz9_0
    try clear hcz9_1
    try clear hfz4_0
    try clear hfz4_1
    try clear hfz9_0
    try clear hfz9_1
    obtain ⟨kq, x5_1, rfl, HA, HJ1, BK339001, HB⟩ := hcut
    cases kq with
    | zero => exact absurd HA.out (by simp [dam_CheckBasin.j0])
    | succ kj1 =>
      have H := HA.out
      clear HA
      simp only [dam_CheckBasin.j0] at H
      by_cases c19 : x5_1 = 0
      · rw [if_pos c19] at H
        have c19b0 : (x5_1 == 0) = true := beq_iff_eq.mpr c19
        have c19b1 : (x5_1 != 0) = false := bne_eq_false_iff_eq.mpr c19
        clear c19
        have H' := Aside0.mk H
        clear H
        have hcz20_0 : wc.cell? ⟨gb339001, 0, none⟩ = some (.slice A0_0 l0_0.length c0_0) := (blk_cell BK339001.out 0).trans rfl
        have hcz20_1 : wc.cell? ⟨gb339001, 1, none⟩ = some (.slice A0_1 l0_1.length c0_1) := (blk_cell BK339001.out 1).trans rfl
        have hfz20_0 := blk_frozen BK339001.out 0
        have hfz20_1 := blk_frozen BK339001.out 1
        go_wp2
        go_loopg [32] kj1 (fun kq v32 w' => ∃ (x32_2 : Int), v32 = .int .i64 x32_2 ∧ Aside0 (dam_CheckBasin.l0 kq l0_0 (l0_0.length : Int) x32_2 l0_0 l0_1 = some (r1, r2)) ∧ Aside0 (kq ≤ kj1) ∧ Aside0 (w'.heap[gb339001]? = some (.cells #[(.slice A0_0 l0_0.length c0_0), (.slice A0_1 l0_1.length c0_1)] 120 (0, 0))) ∧ Aside0 (Below w.heap.size w w'))
        case atStart => exact ⟨(0), (by first | rfl | (simp; done) | (simp [*]; done)), H', ⟨Nat.le_refl _⟩, ⟨by (with_reducible repeat (first | refine blk_drewN ?_ _ | refine blk_drew ?_ | refine blk_alloc ?_ _)); exact BK339001.out⟩, ⟨by repeat (first | (with_reducible first | exact HB.out | apply below_alloc | apply pw_below_drewN | apply below_drew1 | refine below_set ?_ GE339001.out) | exact HB.out)⟩⟩
        case round =>
          clear H'
          try clear c1
          try clear p2
          try clear c5
          try clear c5b0
          try clear c5b1
          try clear c6
          try clear c11
          try clear c19
          try clear c19b0
          try clear c19b1
          try clear hcz20_0
          try clear hcz20_1
          try clear hcz4_0
          try clear hcz4_1
          try clear hcz9_0
          try clear hcz9_1
          try clear hfz20_0
          try clear hfz20_1
          try clear hfz4_0
          try clear hfz4_1
          try clear hfz9_0
          try clear hfz9_1
          try clear p2
          obtain ⟨x32_2, rfl, HA, HK2, BK339001, HB⟩ := hrel
          cases gk with
          | zero => exact absurd HA.out (by simp [dam_CheckBasin.l0])
          | succ k2 =>
            have H := HA.out
            clear HA
            simp only [dam_CheckBasin.l0] at H
            by_cases c21 : x32_2 < (l0_0.length : Int)
            · rw [if_pos c21] at H
              have c21b0 : decide (x32_2 < (l0_0.length : Int)) = true := decide_eq_true c21
              clear c21
              by_cases c22 : 0 ≤ x32_2
              · rw [if_pos c22] at H
                have c22b0 : decide (0 ≤ x32_2) = true := decide_eq_true c22
                clear c22
                by_cases c23 : x32_2 < (l0_0.length : Int)
                · rw [if_pos c23] at H
                  have c23b0 : decide (x32_2 < (l0_0.length : Int)) = true := decide_eq_true c23
                  clear c23
                  replace H := Option.bind_eq_some_iff.mp H
                  obtain ⟨t339015, A240, H⟩ := H
                  replace H : (if t339015 = true then (if x32_2 < (l0_1.length : Int) then ((dam_within.f (rd l0_1 x32_2) 1 1000000000).bind fun t339017 => (if t339017 = true then (dam_CheckBasin.l0 k2 l0_0 (l0_0.length : Int) (wrap64 (x32_2 + 1)) l0_0 l0_1) else (some (x32_2, 2)))) else (none)) else (some (x32_2, 2))) = some (r1, r2) := H
                  have A24 := Aside0.mk A240
                  clear A240
                  by_cases c25 : t339015 = true
                  · subst c25
                    have H1 : (if x32_2 < (l0_1.length : Int) then ((dam_within.f (rd l0_1 x32_2) 1 1000000000).bind fun t339017 => (if t339017 = true then (dam_CheckBasin.l0 k2 l0_0 (l0_0.length : Int) (wrap64 (x32_2 + 1)) l0_0 l0_1) else (some (x32_2, 2)))) else (none)) = some (r1, r2) := by rw [if_pos rfl] at H; exact H
                    clear H
                    have H := H1
                    clear H1
                    by_cases c26 : x32_2 < (l0_1.length : Int)
                    · rw [if_pos c26] at H
                      have c26b0 : decide (x32_2 < (l0_1.length : Int)) = true := decide_eq_true c26
                      clear c26
                      replace H := Option.bind_eq_some_iff.mp H
                      obtain ⟨t339017, A270, H⟩ := H
                      replace H : (if t339017 = true then (dam_CheckBasin.l0 k2 l0_0 (l0_0.length : Int) (wrap64 (x32_2 + 1)) l0_0 l0_1) else (some (x32_2, 2))) = some (r1, r2) := H
                      have A27 := Aside0.mk A270
                      clear A270
                      by_cases c28 : t339017 = true
                      · subst c28
                        have H1 : (dam_CheckBasin.l0 k2 l0_0 (l0_0.length : Int) (wrap64 (x32_2 + 1)) l0_0 l0_1) = some (r1, r2) := by rw [if_pos rfl] at H; exact H
                        clear H
                        have H := H1
                        clear H1
                        have H' := Aside0.mk H
                        clear H
                        have p339014 : 0 ≤ (x32_2 : Int) := of_decide_eq_true (by first | (with_reducible assumption) | assumption)
                        have q339014 : x32_2 < (l0_0.length : Int) := of_decide_eq_true (by first | (with_reducible assumption) | assumption)
                        obtain ⟨ad339014, e339014, hx339014_0⟩ := Kd.at_int HR0_0.out x32_2 p339014 q339014
                        cases e339014
                        replace hx339014_0 := (HB.out.cell (World.block_lt_of_cell? w _ hx339014_0)).trans hx339014_0
                        replace p339014 := eq_true p339014
                        replace q339014 := eq_true q339014
                        go_wp2_with (first | ((with_reducible refine gate_callee (f := 65) rfl ?_); refine goesL_ (some 38) rfl rfl Tryz.func65 (by kernel_rfl) rfl #[.int .i64 (rd l0_0 x32_2), .int .i64 0, .int .i64 1000000000] rfl (by (try simp only [List.map_toArray, List.map_cons, List.map_nil]); first | done | rfl | (simp only [List.length_drop, List.length_take]; rfl)) ?_; (with_reducible refine (dam_within.calls (rd l0_0 x32_2) 0 1000000000 true _ A24.out).mono ?_); rintro e w' ⟨rfl, ⟨nd, rfl⟩⟩; refine ⟨_, rfl, ?_⟩; have hcz29_0 : wr.cell? ⟨gb339001, 0, none⟩ = some (.slice (some ad339014) l0_0.length c0_0) := (blk_cell BK339001.out 0).trans rfl; have hcz29_1 : wr.cell? ⟨gb339001, 1, none⟩ = some (.slice A0_1 l0_1.length c0_1) := (blk_cell BK339001.out 1).trans rfl; have hfz29_0 := blk_frozen BK339001.out 0; have hfz29_1 := blk_frozen BK339001.out 1; have p339016 : 0 ≤ (x32_2 : Int) := of_decide_eq_true (by first | (with_reducible assumption) | assumption); have q339016 : x32_2 < (l0_1.length : Int) := of_decide_eq_true (by first | (with_reducible assumption) | assumption); obtain ⟨ad339016, e339016, hx339016_0⟩ := Kd.at_int HR0_1.out x32_2 p339016 q339016; cases e339016; replace hx339016_0 := (HB.out.cell (World.block_lt_of_cell? w _ hx339016_0)).trans hx339016_0; replace p339016 := eq_true p339016; replace q339016 := eq_true q339016) | (go_at_call 65; (with_reducible refine (dam_within.calls (rd l0_1 x32_2) 1 1000000000 true _ A27.out).mono ?_); rintro e w' ⟨rfl, ⟨nd, rfl⟩⟩))
                        go_roundg k2
                        case measure => have := HJ1.out; have := HK2.out; omega
                        case rel => exact ⟨(wrap64 (x32_2 + 1)), (by first | rfl | (simp; done) | (simp [*]; done)), H', ⟨by have := HJ1.out; have := HK2.out; omega⟩, ⟨by (with_reducible repeat (first | refine blk_drewN ?_ _ | refine blk_drew ?_ | refine blk_alloc ?_ _)); exact BK339001.out⟩, ⟨by repeat (first | (with_reducible first | exact HB.out | apply below_alloc | apply pw_below_drewN | apply below_drew1 | refine below_set ?_ GE339001.out) | exact HB.out)⟩⟩
                      · replace c28 := Bool.eq_false_iff.mpr c28
                        subst c28
                        have H1 : (some (x32_2, 2)) = some (r1, r2) := by rw [if_neg (show ¬ (false = true) by decide)] at H; exact H
                        clear H
                        have H := H1
                        clear H1
                        simp only [Option.some.injEq, Prod.mk.injEq] at H
                        obtain ⟨rfl, rfl⟩ := H
                        have p339014 : 0 ≤ (x32_2 : Int) := of_decide_eq_true (by first | (with_reducible assumption) | assumption)
                        have q339014 : x32_2 < (l0_0.length : Int) := of_decide_eq_true (by first | (with_reducible assumption) | assumption)
                        obtain ⟨ad339014, e339014, hx339014_0⟩ := Kd.at_int HR0_0.out x32_2 p339014 q339014
                        cases e339014
                        replace hx339014_0 := (HB.out.cell (World.block_lt_of_cell? w _ hx339014_0)).trans hx339014_0
                        replace p339014 := eq_true p339014
                        replace q339014 := eq_true q339014
                        go_wp2_with (first | ((with_reducible refine gate_callee (f := 65) rfl ?_); refine goesL_ (some 38) rfl rfl Tryz.func65 (by kernel_rfl) rfl #[.int .i64 (rd l0_0 x32_2), .int .i64 0, .int .i64 1000000000] rfl (by (try simp only [List.map_toArray, List.map_cons, List.map_nil]); first | done | rfl | (simp only [List.length_drop, List.length_take]; rfl)) ?_; (with_reducible refine (dam_within.calls (rd l0_0 x32_2) 0 1000000000 true _ A24.out).mono ?_); rintro e w' ⟨rfl, ⟨nd, rfl⟩⟩; refine ⟨_, rfl, ?_⟩; have hcz30_0 : wr.cell? ⟨gb339001, 0, none⟩ = some (.slice (some ad339014) l0_0.length c0_0) := (blk_cell BK339001.out 0).trans rfl; have hcz30_1 : wr.cell? ⟨gb339001, 1, none⟩ = some (.slice A0_1 l0_1.length c0_1) := (blk_cell BK339001.out 1).trans rfl; have hfz30_0 := blk_frozen BK339001.out 0; have hfz30_1 := blk_frozen BK339001.out 1; have p339016 : 0 ≤ (x32_2 : Int) := of_decide_eq_true (by first | (with_reducible assumption) | assumption); have q339016 : x32_2 < (l0_1.length : Int) := of_decide_eq_true (by first | (with_reducible assumption) | assumption); obtain ⟨ad339016, e339016, hx339016_0⟩ := Kd.at_int HR0_1.out x32_2 p339016 q339016; cases e339016; replace hx339016_0 := (HB.out.cell (World.block_lt_of_cell? w _ hx339016_0)).trans hx339016_0; replace p339016 := eq_true p339016; replace q339016 := eq_true q339016) | (go_at_call 65; (with_reducible refine (dam_within.calls (rd l0_1 x32_2) 1 1000000000 false _ A27.out).mono ?_); rintro e w' ⟨rfl, ⟨nd, rfl⟩⟩))
                        go_ret2
                        exact ⟨by first | rfl | (simp [errW_none, errW_some] <;> rfl) | (simp [*, errW_none, errW_some] <;> rfl), by repeat (first | (with_reducible first | exact HB.out | apply below_alloc | apply pw_below_drewN | apply below_drew1 | refine below_set ?_ GE339001.out) | exact HB.out)⟩
                    · rw [if_neg c26] at H
                      exact absurd H (by simp)
                  · replace c25 := Bool.eq_false_iff.mpr c25
                    subst c25
                    have H1 : (some (x32_2, 2)) = some (r1, r2) := by rw [if_neg (show ¬ (false = true) by decide)] at H; exact H
                    clear H
                    have H := H1
                    clear H1
                    simp only [Option.some.injEq, Prod.mk.injEq] at H
                    obtain ⟨rfl, rfl⟩ := H
                    have p339014 : 0 ≤ (x32_2 : Int) := of_decide_eq_true (by first | (with_reducible assumption) | assumption)
                    have q339014 : x32_2 < (l0_0.length : Int) := of_decide_eq_true (by first | (with_reducible assumption) | assumption)
                    obtain ⟨ad339014, e339014, hx339014_0⟩ := Kd.at_int HR0_0.out x32_2 p339014 q339014
                    cases e339014
                    replace hx339014_0 := (HB.out.cell (World.block_lt_of_cell? w _ hx339014_0)).trans hx339014_0
                    replace p339014 := eq_true p339014
                    replace q339014 := eq_true q339014
                    go_wp2_with (first | ((with_reducible refine gate_callee (f := 65) rfl ?_); refine goesL_ (some 38) rfl rfl Tryz.func65 (by kernel_rfl) rfl #[.int .i64 (rd l0_0 x32_2), .int .i64 0, .int .i64 1000000000] rfl (by (try simp only [List.map_toArray, List.map_cons, List.map_nil]); first | done | rfl | (simp only [List.length_drop, List.length_take]; rfl)) ?_; (with_reducible refine (dam_within.calls (rd l0_0 x32_2) 0 1000000000 false _ A24.out).mono ?_); rintro e w' ⟨rfl, ⟨nd, rfl⟩⟩; refine ⟨_, rfl, ?_⟩))
                    go_ret2
                    exact ⟨by first | rfl | (simp [errW_none, errW_some] <;> rfl) | (simp [*, errW_none, errW_some] <;> rfl), by repeat (first | (with_reducible first | exact HB.out | apply below_alloc | apply pw_below_drewN | apply below_drew1 | refine below_set ?_ GE339001.out) | exact HB.out)⟩
                · rw [if_neg c23] at H
                  exact absurd H (by simp)
              · rw [if_neg c22] at H
                exact absurd H (by simp)
            · rw [if_neg c21] at H
              have c21b0 : decide (x32_2 < (l0_0.length : Int)) = false := decide_eq_false c21
              clear c21
              simp only [Option.some.injEq, Prod.mk.injEq] at H
              obtain ⟨rfl, rfl⟩ := H
              go_wp2
              go_ret2
              exact ⟨by first | rfl | (simp [errW_none, errW_some] <;> rfl) | (simp [*, errW_none, errW_some] <;> rfl), by repeat (first | (with_reducible first | exact HB.out | apply below_alloc | apply pw_below_drewN | apply below_drew1 | refine below_set ?_ GE339001.out) | exact HB.out)⟩
      · rw [if_neg c19] at H
        have c19b0 : (x5_1 == 0) = false := beq_eq_false_iff_ne.mpr c19
        have c19b1 : (x5_1 != 0) = true := bne_iff_ne.mpr c19
        simp only [Option.some.injEq, Prod.mk.injEq] at H
        obtain ⟨rfl, rfl⟩ := H
        go_wp2
        go_ret2
        exact ⟨by first | rfl | (simp [errW_none, errW_some] <;> rfl) | (simp [*, errW_none, errW_some] <;> rfl), by repeat (first | (with_reducible first | exact HB.out | apply below_alloc | apply pw_below_drewN | apply below_drew1 | refine below_set ?_ GE339001.out) | exact HB.out)⟩
end Go.Proofs.YteopooljohdoiaaGreat.Px
namespace Go.Proofs.YteopooljohdoiaaGreat.Px
open Go.RowKit Go.Proofs.YteopooljohdoiaaGreatW.PrintWords Go.Proofs.YteopooljohdoiaaGreatW.PrintLast Go.Proofs.YteopooljohdoiaaGreatW.PrintMore
attribute [local go_sem] max2_int min2_int max_two min_two max_three min_three max_four min_four
def dam_EmptyingOf.l0 : Nat → Int → List Int → Int → Int → List Int → List Int → Option (Int × Int)
  | 0, _, _, _, _, _, _ => none
  | k + 1, x8, x31, x32, x33, x171002000, x171002001 => if x33 < x32 then (if 0 ≤ x33 then (if x33 < (x31.length : Int) then (if x33 < (x171002001.length : Int) then (if (rd x171002001 x33) = 0 then (none) else (dam_EmptyingOf.l0 k (wrap64 (x8 + (wrap64 (Int.tdiv (wrap64 ((wrap64 ((rd x31 x33) + (rd x171002001 x33))) - 1)) (rd x171002001 x33))))) x31 x32 (wrap64 (x33 + 1)) x171002000 x171002001)) else (none)) else (none)) else (none)) else (some (x8, 0))
def dam_EmptyingOf.f (k : Nat) (l0_0 : List Int) (l0_1 : List Int) (a1 : Int) : Option (Int × Int) := (dam_CheckBasin.f k l0_0 l0_1).bind fun bt171002 => ((dam_within.f a1 0 (l0_0.length : Int)).bind fun t171004 => ((dam_unless.f t171004 2).bind fun t171005 => ((dam_first.f k (([bt171002.2, t171005] : List Int))).bind fun t171009 => (if t171009 = 0 then (if 0 ≤ a1 then (if a1 ≤ (l0_0.length : Int) then (dam_EmptyingOf.l0 k 0 (l0_0.take (a1 : Int).toNat) ((l0_0.take (a1 : Int).toNat).length : Int) 0 l0_0 l0_1) else (none)) else (none)) else (some (0, t171009))))))
theorem dam_EmptyingOf.mono_l : ∀ k, (∀ y0 y1 y2 y3 y4 y5, LeO (dam_EmptyingOf.l0 k y0 y1 y2 y3 y4 y5) (dam_EmptyingOf.l0 (k + 1) y0 y1 y2 y3 y4 y5))
  | 0 => fun _ _ _ _ _ _ r h => by simp [dam_EmptyingOf.l0] at h
  | k + 1 => by
    have ih0 := dam_EmptyingOf.mono_l k
    · intro y0 y1 y2 y3 y4 y5
      unfold dam_EmptyingOf.l0
      repeat' first
      | (with_reducible exact ih0 _ _ _ _ _ _)
      | (with_reducible exact dam_CheckBasin.mono _ _ _)
      | (with_reducible exact dam_first.mono _ _)
      | (with_reducible exact LeO.refl _)
      | (with_reducible exact LeO.none _)
      | (with_reducible refine LeO.ite ?_ ?_)
      | (with_reducible refine LeO.bind ?_ (fun _ => ?_))
      | exact ih0 _ _ _ _ _ _
      | exact dam_CheckBasin.mono _ _ _
      | exact dam_first.mono _ _
      | exact LeO.none _
      | refine LeO.ite ?_ ?_
      | refine LeO.bind ?_ (fun _ => ?_)
theorem dam_EmptyingOf.mono : ∀ a0 a1 a2 k, LeO (dam_EmptyingOf.f k a0 a1 a2) (dam_EmptyingOf.f (k + 1) a0 a1 a2) := by
  intro a0 a1 a2 k
  have ih0 := dam_EmptyingOf.mono_l k
  unfold dam_EmptyingOf.f
  repeat' first
      | (with_reducible exact ih0 _ _ _ _ _ _)
      | (with_reducible exact dam_CheckBasin.mono _ _ _)
      | (with_reducible exact dam_first.mono _ _)
      | (with_reducible exact LeO.refl _)
      | (with_reducible exact LeO.none _)
      | (with_reducible refine LeO.ite ?_ ?_)
      | (with_reducible refine LeO.bind ?_ (fun _ => ?_))
      | exact ih0 _ _ _ _ _ _
      | exact dam_CheckBasin.mono _ _ _
      | exact dam_first.mono _ _
      | exact LeO.none _
      | refine LeO.ite ?_ ?_
      | refine LeO.bind ?_ (fun _ => ?_)
set_option maxHeartbeats 8000000 in
set_option maxRecDepth 100000 in
theorem dam_EmptyingOf.calls (k : Nat) (A0_0 : Option Addr) (c0_0 : Nat) (l0_0 : List Int) (A0_1 : Option Addr) (c0_1 : Nat) (l0_1 : List Int) (a1 : Int) (r1 : Int) (r2 : Int) (w : World) (hr0_0 : Kd.C (Kd.int .i64) w A0_0 l0_0.length l0_0) (hc0_0 : l0_0.length ≤ c0_0) (hr0_1 : Kd.C (Kd.int .i64) w A0_1 l0_1.length l0_1) (hc0_1 : l0_1.length ≤ c0_1) (h : dam_EmptyingOf.f k l0_0 l0_1 a1 = some (r1, r2)) :
    Calls Tryz.prog 57 #[.agg #[.slice A0_0 l0_0.length c0_0, .slice A0_1 l0_1.length c0_1], .int .i64 a1] w fun e w' => e = .returned (.tuple #[.int .i64 r1, .int .i64 r2]) ∧ Below w.heap.size w w' := by
  have hu120 := Tryz.underlying120
  have HR0_0 := Aside0.mk hr0_0
  have HC0_0 := Aside0.mk hc0_0
  clear hr0_0 hc0_0
  have HR0_1 := Aside0.mk hr0_1
  have HC0_1 := Aside0.mk hc0_1
  clear hr0_1 hc0_1
  have HB := Aside0.mk (Below.refl w.heap.size w)
  have H : ((dam_CheckBasin.f k l0_0 l0_1).bind fun bt171002 => ((dam_within.f a1 0 (l0_0.length : Int)).bind fun t171004 => ((dam_unless.f t171004 2).bind fun t171005 => ((dam_first.f k (([bt171002.2, t171005] : List Int))).bind fun t171009 => (if t171009 = 0 then (if 0 ≤ a1 then (if a1 ≤ (l0_0.length : Int) then (dam_EmptyingOf.l0 k 0 (l0_0.take (a1 : Int).toNat) ((l0_0.take (a1 : Int).toNat).length : Int) 0 l0_0 l0_1) else (none)) else (none)) else (some (0, t171009))))))) = some (r1, r2) := h
  clear h
  replace H := Option.bind_eq_some_iff.mp H
  obtain ⟨⟨t171002, t171003⟩, A30, H⟩ := H
  replace H : ((dam_within.f a1 0 (l0_0.length : Int)).bind fun t171004 => ((dam_unless.f t171004 2).bind fun t171005 => ((dam_first.f k (([t171003, t171005] : List Int))).bind fun t171009 => (if t171009 = 0 then (if 0 ≤ a1 then (if a1 ≤ (l0_0.length : Int) then (dam_EmptyingOf.l0 k 0 (l0_0.take (a1 : Int).toNat) ((l0_0.take (a1 : Int).toNat).length : Int) 0 l0_0 l0_1) else (none)) else (none)) else (some (0, t171009)))))) = some (r1, r2) := H
  have A3 := Aside0.mk A30
  clear A30
  replace H := Option.bind_eq_some_iff.mp H
  obtain ⟨t171004, A40, H⟩ := H
  replace H : ((dam_unless.f t171004 2).bind fun t171005 => ((dam_first.f k (([t171003, t171005] : List Int))).bind fun t171009 => (if t171009 = 0 then (if 0 ≤ a1 then (if a1 ≤ (l0_0.length : Int) then (dam_EmptyingOf.l0 k 0 (l0_0.take (a1 : Int).toNat) ((l0_0.take (a1 : Int).toNat).length : Int) 0 l0_0 l0_1) else (none)) else (none)) else (some (0, t171009))))) = some (r1, r2) := H
  have A4 := Aside0.mk A40
  clear A40
  replace H := Option.bind_eq_some_iff.mp H
  obtain ⟨t171005, A50, H⟩ := H
  replace H : ((dam_first.f k (([t171003, t171005] : List Int))).bind fun t171009 => (if t171009 = 0 then (if 0 ≤ a1 then (if a1 ≤ (l0_0.length : Int) then (dam_EmptyingOf.l0 k 0 (l0_0.take (a1 : Int).toNat) ((l0_0.take (a1 : Int).toNat).length : Int) 0 l0_0 l0_1) else (none)) else (none)) else (some (0, t171009)))) = some (r1, r2) := H
  have A5 := Aside0.mk A50
  clear A50
  obtain ⟨y171006, hy171006⟩ : ∃ y_ : List Int, y_ = (([t171003, t171005] : List Int)) := ⟨_, rfl⟩
  replace H : ((dam_first.f k y171006).bind fun t171009 => (if t171009 = 0 then (if 0 ≤ a1 then (if a1 ≤ (l0_0.length : Int) then (dam_EmptyingOf.l0 k 0 (l0_0.take (a1 : Int).toNat) ((l0_0.take (a1 : Int).toNat).length : Int) 0 l0_0 l0_1) else (none)) else (none)) else (some (0, t171009)))) = some (r1, r2) := by first | (rw [hy171006]; with_reducible exact H) | (have H2_ := (Option.bind_some _ _).symm.trans H; rw [hy171006]; with_reducible exact H2_) | (have H2_ := (Option.bind_some _ _).symm.trans H; with_reducible exact H2_) | with_reducible exact H | (rw [hy171006]; exact H) | exact H
  have Ny171006 := Aside0.mk hy171006
  clear hy171006
  replace H := Option.bind_eq_some_iff.mp H
  obtain ⟨t171009, A60, H⟩ := H
  replace H : (if t171009 = 0 then (if 0 ≤ a1 then (if a1 ≤ (l0_0.length : Int) then (dam_EmptyingOf.l0 k 0 (l0_0.take (a1 : Int).toNat) ((l0_0.take (a1 : Int).toNat).length : Int) 0 l0_0 l0_1) else (none)) else (none)) else (some (0, t171009))) = some (r1, r2) := H
  have A6 := Aside0.mk A60
  clear A60
  by_cases c7 : t171009 = 0
  · rw [if_pos c7] at H
    have c7b0 : (t171009 == 0) = true := beq_iff_eq.mpr c7
    have c7b1 : (t171009 != 0) = false := bne_eq_false_iff_eq.mpr c7
    clear c7
    by_cases c8 : 0 ≤ a1
    · rw [if_pos c8] at H
      have c8b0 := eq_true c8
      have c8b1 : decide (0 ≤ a1) = true := decide_eq_true c8
      clear c8
      by_cases c9 : a1 ≤ (l0_0.length : Int)
      · rw [if_pos c9] at H
        have c9b0 := eq_true c9
        have c9b1 : decide (a1 ≤ (l0_0.length : Int)) = true := decide_eq_true c9
        clear c9
        have H' := Aside0.mk H
        clear H
        go_enter Tryz.func57, Tryz.ntmps57
        go_wp2_with (first | ((with_reducible refine gate_dst (N := 2) rfl ?_); refine box_event ?hg (N := 2) ?hd (cs := #[.slice A0_0 l0_0.length c0_0, .slice A0_1 l0_1.length c0_1]) (t := 120) ?hr ?_; (case hd => rfl); (case hg => rfl); (case hr => first | (go_simp; done) | (go_simp; rfl)); intro gb171001 hg w10 hbox hb; have n0_ := Aside0.mk (below_step (by repeat (first | (with_reducible first | exact HB.out | apply below_alloc | apply pw_below_drewN | apply below_drew1) | exact HB.out)) hb); have n1_ := Aside0.mk (hbox); have n2_ := Aside0.mk ((by rw [hg]; exact (below_size (by repeat (first | (with_reducible first | exact HB.out | apply below_alloc | apply pw_below_drewN | apply below_drew1) | exact HB.out))) : w.heap.size ≤ gb171001)); have n3_ := Aside0.mk ((by rw [hg]; exact (below_size (by repeat (first | (with_reducible first | exact HB.out | apply below_alloc | apply pw_below_drewN | apply below_drew1) | exact HB.out))) : w.heap.size ≤ gb171001)); clear HB; have HB := n0_; have BK171001 := n1_; have GW171001 := n2_; have GE171001 := n3_; clear n0_ n1_ n2_ n3_; clear hb hbox hg; have hcz11_0 : w10.cell? ⟨gb171001, 0, none⟩ = some (.slice A0_0 l0_0.length c0_0) := (blk_cell BK171001.out 0).trans rfl; have hcz11_1 : w10.cell? ⟨gb171001, 1, none⟩ = some (.slice A0_1 l0_1.length c0_1) := (blk_cell BK171001.out 1).trans rfl; have hfz11_0 := blk_frozen BK171001.out 0; have hfz11_1 := blk_frozen BK171001.out 1) | (go_at_call 113; (with_reducible refine (dam_CheckBasin.calls k _ _ l0_0 _ _ l0_1 t171002 t171003 _ ?side1 ?side2 ?side3 ?side4 A3.out).mono ?_); (case side1 => repeat (first | exact (Kd.C_below HR0_0.out HB.out) | (with_reducible refine Kd.C_alloc ?_ _) | (with_reducible refine Kd.C_drewN ?_ _) | (with_reducible refine Kd.C_drew ?_))); (case side2 => exact HC0_0.out); (case side3 => repeat (first | exact (Kd.C_below HR0_1.out HB.out) | (with_reducible refine Kd.C_alloc ?_ _) | (with_reducible refine Kd.C_drewN ?_ _) | (with_reducible refine Kd.C_drew ?_))); (case side4 => exact HC0_1.out); rintro e w12 ⟨rfl, hb⟩; have n0_ := Aside0.mk (blk_below (g := gb171001) (o := .cells #[.slice A0_0 l0_0.length c0_0, .slice A0_1 l0_1.length c0_1] 120 (0, 0)) (by (with_reducible repeat (first | refine blk_drewN ?_ _ | refine blk_drew ?_ | refine blk_alloc ?_ _)); exact BK171001.out) hb); have n1_ := Aside0.mk (below_step (by repeat (first | (with_reducible first | exact HB.out | apply below_alloc | apply pw_below_drewN | apply below_drew1 | refine below_set ?_ GE171001.out) | exact HB.out)) hb); clear BK171001; clear HB; have BK171001 := n0_; have HB := n1_; clear n0_ n1_; (try clear hb); (try clear hb2); (try clear hk); (try clear hi); have hcz13_0 : w12.cell? ⟨gb171001, 0, none⟩ = some (.slice A0_0 l0_0.length c0_0) := (blk_cell BK171001.out 0).trans rfl; have hcz13_1 : w12.cell? ⟨gb171001, 1, none⟩ = some (.slice A0_1 l0_1.length c0_1) := (blk_cell BK171001.out 1).trans rfl; have hfz13_0 := blk_frozen BK171001.out 0; have hfz13_1 := blk_frozen BK171001.out 1) | (go_at_call 65; (with_reducible refine (dam_within.calls a1 0 (l0_0.length : Int) t171004 _ A4.out).mono ?_); rintro e w' ⟨rfl, ⟨nd, rfl⟩⟩; (try first | exact ⟨rfl, _, World.drewN_drewN _ _ _⟩ | exact ⟨rfl, _, Eq.trans (World.drewN_drewN _ _ _) (congrArg (World.drewN _) (Nat.add_assoc _ _ _))⟩)) | (go_at_call 61; (with_reducible refine (dam_unless.calls t171004 2 t171005 _ A5.out).mono ?_); rintro e w' ⟨rfl, ⟨nd, rfl⟩⟩; (try first | exact ⟨rfl, _, World.drewN_drewN _ _ _⟩ | exact ⟨rfl, _, Eq.trans (World.drewN_drewN _ _ _) (congrArg (World.drewN _) (Nat.add_assoc _ _ _))⟩)) | ((with_reducible refine gate_dst (N := 23) rfl ?_); refine Kd.R_lit (Kd.int .i64) _ 32 ?hg (N := 23) ?hd (xs := ([t171003, t171005] : List Int)) (inner := [.int .i64 t171003, .int .i64 t171005]) (ok := fun _ => True) (okp := fun _ => True) ?hr ?hp (fun _ hk => hk) trivial (Below.refl _ _) (Nat.le_refl _) (by simp) ?_; (case hd => rfl); (case hg => rfl); (case hr => first | (go_simp; done) | (go_simp; rfl)); (case hp => exact (Reps.one (show Kd.M (Kd.int .i64) _ _ _ t171003 [.int .i64 t171003] from rfl) (Reps.one (show Kd.M (Kd.int .i64) _ _ _ t171005 [.int .i64 t171005] from rfl) (Reps.none _ _)))); intro v171007 w14 ho15 hb hg_ hnew_; clear hg_ hnew_; (first | rw [← Ny171006.out] at ho15 | (simp only [Int.reduceToNat] at ho15; rw [← Ny171006.out] at ho15)); have n0_ := Aside0.mk (Kd.R_lower ho15 (below_size (by repeat (first | (with_reducible first | exact HB.out | apply below_alloc | apply pw_below_drewN | apply below_drew1 | refine below_set ?_ GE171001.out) | exact HB.out)))); have n1_ := Aside0.mk (blk_below (g := gb171001) (o := .cells #[.slice A0_0 l0_0.length c0_0, .slice A0_1 l0_1.length c0_1] 120 (0, 0)) (by (with_reducible repeat (first | refine blk_drewN ?_ _ | refine blk_drew ?_ | refine blk_alloc ?_ _)); exact BK171001.out) hb); have n2_ := Aside0.mk (below_step (by repeat (first | (with_reducible first | exact HB.out | apply below_alloc | apply pw_below_drewN | apply below_drew1 | refine below_set ?_ GE171001.out) | exact HB.out)) hb); clear BK171001; clear HB; have HO171008 := n0_; have BK171001 := n1_; have HB := n2_; clear n0_ n1_ n2_; clear hb ho15; obtain ⟨Ao16, co16, eo16⟩ := Kd.R_slice HO171008.out; subst eo16) | (go_at_call 60; (with_reducible refine (dam_first.calls k _ _ y171006 t171009 _ ?side1 ?side2 A6.out).mono ?_); (case side1 => repeat (first | exact (Kd.R_reads' HO171008.out).2.2 | (with_reducible refine Kd.C_alloc ?_ _) | (with_reducible refine Kd.C_drewN ?_ _) | (with_reducible refine Kd.C_drew ?_))); (case side2 => exact (Kd.R_reads' HO171008.out).2.1); rintro e w' ⟨rfl, ⟨nd, rfl⟩⟩; (try first | exact ⟨rfl, _, World.drewN_drewN _ _ _⟩ | exact ⟨rfl, _, Eq.trans (World.drewN_drewN _ _ _) (congrArg (World.drewN _) (Nat.add_assoc _ _ _))⟩); have hcz17_0 : w14.cell? ⟨gb171001, 0, none⟩ = some (.slice A0_0 l0_0.length c0_0) := (blk_cell BK171001.out 0).trans rfl; have hcz17_1 : w14.cell? ⟨gb171001, 1, none⟩ = some (.slice A0_1 l0_1.length c0_1) := (blk_cell BK171001.out 1).trans rfl; have hfz17_0 := blk_frozen BK171001.out 0; have hfz17_1 := blk_frozen BK171001.out 1; obtain ⟨i018, hi018, _, hsz18, _⟩ := info_parts info3; obtain ⟨hcut18, hA18, hC18⟩ := print_take_of (P := Tryz.prog) (Value.int .i64) 0 22 3 .i64 Tryz.underlying22 hi018 hsz18 A0_0 c0_0 l0_0 a1 (of_decide_eq_true (by first | (with_reducible assumption) | assumption)) (of_decide_eq_true (by first | (with_reducible assumption) | assumption)) HC0_0.out; have HR171010 := Aside0.mk (Kd.C_of_reads (h1 := fun _ => rfl) (hA18 _ (Kd.reads_of_C HR0_0.out))); have HC171010 := Aside0.mk hC18; clear hA18 hC18 hi018 hsz18))
        repeat (go_quiet (first | ((with_reducible refine gate_dst (N := 2) rfl ?_); refine box_event ?hg (N := 2) ?hd (cs := #[.slice A0_0 l0_0.length c0_0, .slice A0_1 l0_1.length c0_1]) (t := 120) ?hr ?_; (case hd => rfl); (case hg => rfl); (case hr => first | (go_simp; done) | (go_simp; rfl)); intro gb171001 hg w10 hbox hb; have n0_ := Aside0.mk (below_step (by repeat (first | (with_reducible first | exact HB.out | apply below_alloc | apply pw_below_drewN | apply below_drew1) | exact HB.out)) hb); have n1_ := Aside0.mk (hbox); have n2_ := Aside0.mk ((by rw [hg]; exact (below_size (by repeat (first | (with_reducible first | exact HB.out | apply below_alloc | apply pw_below_drewN | apply below_drew1) | exact HB.out))) : w.heap.size ≤ gb171001)); have n3_ := Aside0.mk ((by rw [hg]; exact (below_size (by repeat (first | (with_reducible first | exact HB.out | apply below_alloc | apply pw_below_drewN | apply below_drew1) | exact HB.out))) : w.heap.size ≤ gb171001)); clear HB; have HB := n0_; have BK171001 := n1_; have GW171001 := n2_; have GE171001 := n3_; clear n0_ n1_ n2_ n3_; clear hb hbox hg; have hcz11_0 : w10.cell? ⟨gb171001, 0, none⟩ = some (.slice A0_0 l0_0.length c0_0) := (blk_cell BK171001.out 0).trans rfl; have hcz11_1 : w10.cell? ⟨gb171001, 1, none⟩ = some (.slice A0_1 l0_1.length c0_1) := (blk_cell BK171001.out 1).trans rfl; have hfz11_0 := blk_frozen BK171001.out 0; have hfz11_1 := blk_frozen BK171001.out 1) | (go_at_call 113; (with_reducible refine (dam_CheckBasin.calls k _ _ l0_0 _ _ l0_1 t171002 t171003 _ ?side1 ?side2 ?side3 ?side4 A3.out).mono ?_); (case side1 => repeat (first | exact (Kd.C_below HR0_0.out HB.out) | (with_reducible refine Kd.C_alloc ?_ _) | (with_reducible refine Kd.C_drewN ?_ _) | (with_reducible refine Kd.C_drew ?_))); (case side2 => exact HC0_0.out); (case side3 => repeat (first | exact (Kd.C_below HR0_1.out HB.out) | (with_reducible refine Kd.C_alloc ?_ _) | (with_reducible refine Kd.C_drewN ?_ _) | (with_reducible refine Kd.C_drew ?_))); (case side4 => exact HC0_1.out); rintro e w12 ⟨rfl, hb⟩; have n0_ := Aside0.mk (blk_below (g := gb171001) (o := .cells #[.slice A0_0 l0_0.length c0_0, .slice A0_1 l0_1.length c0_1] 120 (0, 0)) (by (with_reducible repeat (first | refine blk_drewN ?_ _ | refine blk_drew ?_ | refine blk_alloc ?_ _)); exact BK171001.out) hb); have n1_ := Aside0.mk (below_step (by repeat (first | (with_reducible first | exact HB.out | apply below_alloc | apply pw_below_drewN | apply below_drew1 | refine below_set ?_ GE171001.out) | exact HB.out)) hb); clear BK171001; clear HB; have BK171001 := n0_; have HB := n1_; clear n0_ n1_; (try clear hb); (try clear hb2); (try clear hk); (try clear hi); have hcz13_0 : w12.cell? ⟨gb171001, 0, none⟩ = some (.slice A0_0 l0_0.length c0_0) := (blk_cell BK171001.out 0).trans rfl; have hcz13_1 : w12.cell? ⟨gb171001, 1, none⟩ = some (.slice A0_1 l0_1.length c0_1) := (blk_cell BK171001.out 1).trans rfl; have hfz13_0 := blk_frozen BK171001.out 0; have hfz13_1 := blk_frozen BK171001.out 1) | (go_at_call 65; (with_reducible refine (dam_within.calls a1 0 (l0_0.length : Int) t171004 _ A4.out).mono ?_); rintro e w' ⟨rfl, ⟨nd, rfl⟩⟩; (try first | exact ⟨rfl, _, World.drewN_drewN _ _ _⟩ | exact ⟨rfl, _, Eq.trans (World.drewN_drewN _ _ _) (congrArg (World.drewN _) (Nat.add_assoc _ _ _))⟩)) | (go_at_call 61; (with_reducible refine (dam_unless.calls t171004 2 t171005 _ A5.out).mono ?_); rintro e w' ⟨rfl, ⟨nd, rfl⟩⟩; (try first | exact ⟨rfl, _, World.drewN_drewN _ _ _⟩ | exact ⟨rfl, _, Eq.trans (World.drewN_drewN _ _ _) (congrArg (World.drewN _) (Nat.add_assoc _ _ _))⟩)) | ((with_reducible refine gate_dst (N := 23) rfl ?_); refine Kd.R_lit (Kd.int .i64) _ 32 ?hg (N := 23) ?hd (xs := ([t171003, t171005] : List Int)) (inner := [.int .i64 t171003, .int .i64 t171005]) (ok := fun _ => True) (okp := fun _ => True) ?hr ?hp (fun _ hk => hk) trivial (Below.refl _ _) (Nat.le_refl _) (by simp) ?_; (case hd => rfl); (case hg => rfl); (case hr => first | (go_simp; done) | (go_simp; rfl)); (case hp => exact (Reps.one (show Kd.M (Kd.int .i64) _ _ _ t171003 [.int .i64 t171003] from rfl) (Reps.one (show Kd.M (Kd.int .i64) _ _ _ t171005 [.int .i64 t171005] from rfl) (Reps.none _ _)))); intro v171007 w14 ho15 hb hg_ hnew_; clear hg_ hnew_; (first | rw [← Ny171006.out] at ho15 | (simp only [Int.reduceToNat] at ho15; rw [← Ny171006.out] at ho15)); have n0_ := Aside0.mk (Kd.R_lower ho15 (below_size (by repeat (first | (with_reducible first | exact HB.out | apply below_alloc | apply pw_below_drewN | apply below_drew1 | refine below_set ?_ GE171001.out) | exact HB.out)))); have n1_ := Aside0.mk (blk_below (g := gb171001) (o := .cells #[.slice A0_0 l0_0.length c0_0, .slice A0_1 l0_1.length c0_1] 120 (0, 0)) (by (with_reducible repeat (first | refine blk_drewN ?_ _ | refine blk_drew ?_ | refine blk_alloc ?_ _)); exact BK171001.out) hb); have n2_ := Aside0.mk (below_step (by repeat (first | (with_reducible first | exact HB.out | apply below_alloc | apply pw_below_drewN | apply below_drew1 | refine below_set ?_ GE171001.out) | exact HB.out)) hb); clear BK171001; clear HB; have HO171008 := n0_; have BK171001 := n1_; have HB := n2_; clear n0_ n1_ n2_; clear hb ho15; obtain ⟨Ao16, co16, eo16⟩ := Kd.R_slice HO171008.out; subst eo16) | (go_at_call 60; (with_reducible refine (dam_first.calls k _ _ y171006 t171009 _ ?side1 ?side2 A6.out).mono ?_); (case side1 => repeat (first | exact (Kd.R_reads' HO171008.out).2.2 | (with_reducible refine Kd.C_alloc ?_ _) | (with_reducible refine Kd.C_drewN ?_ _) | (with_reducible refine Kd.C_drew ?_))); (case side2 => exact (Kd.R_reads' HO171008.out).2.1); rintro e w' ⟨rfl, ⟨nd, rfl⟩⟩; (try first | exact ⟨rfl, _, World.drewN_drewN _ _ _⟩ | exact ⟨rfl, _, Eq.trans (World.drewN_drewN _ _ _) (congrArg (World.drewN _) (Nat.add_assoc _ _ _))⟩); have hcz17_0 : w14.cell? ⟨gb171001, 0, none⟩ = some (.slice A0_0 l0_0.length c0_0) := (blk_cell BK171001.out 0).trans rfl; have hcz17_1 : w14.cell? ⟨gb171001, 1, none⟩ = some (.slice A0_1 l0_1.length c0_1) := (blk_cell BK171001.out 1).trans rfl; have hfz17_0 := blk_frozen BK171001.out 0; have hfz17_1 := blk_frozen BK171001.out 1; obtain ⟨i018, hi018, _, hsz18, _⟩ := info_parts info3; obtain ⟨hcut18, hA18, hC18⟩ := print_take_of (P := Tryz.prog) (Value.int .i64) 0 22 3 .i64 Tryz.underlying22 hi018 hsz18 A0_0 c0_0 l0_0 a1 (of_decide_eq_true (by first | (with_reducible assumption) | assumption)) (of_decide_eq_true (by first | (with_reducible assumption) | assumption)) HC0_0.out; have HR171010 := Aside0.mk (Kd.C_of_reads (h1 := fun _ => rfl) (hA18 _ (Kd.reads_of_C HR0_0.out))); have HC171010 := Aside0.mk hC18; clear hA18 hC18 hi018 hsz18)); try go_wp2_with (first | ((with_reducible refine gate_dst (N := 2) rfl ?_); refine box_event ?hg (N := 2) ?hd (cs := #[.slice A0_0 l0_0.length c0_0, .slice A0_1 l0_1.length c0_1]) (t := 120) ?hr ?_; (case hd => rfl); (case hg => rfl); (case hr => first | (go_simp; done) | (go_simp; rfl)); intro gb171001 hg w10 hbox hb; have n0_ := Aside0.mk (below_step (by repeat (first | (with_reducible first | exact HB.out | apply below_alloc | apply pw_below_drewN | apply below_drew1) | exact HB.out)) hb); have n1_ := Aside0.mk (hbox); have n2_ := Aside0.mk ((by rw [hg]; exact (below_size (by repeat (first | (with_reducible first | exact HB.out | apply below_alloc | apply pw_below_drewN | apply below_drew1) | exact HB.out))) : w.heap.size ≤ gb171001)); have n3_ := Aside0.mk ((by rw [hg]; exact (below_size (by repeat (first | (with_reducible first | exact HB.out | apply below_alloc | apply pw_below_drewN | apply below_drew1) | exact HB.out))) : w.heap.size ≤ gb171001)); clear HB; have HB := n0_; have BK171001 := n1_; have GW171001 := n2_; have GE171001 := n3_; clear n0_ n1_ n2_ n3_; clear hb hbox hg; have hcz11_0 : w10.cell? ⟨gb171001, 0, none⟩ = some (.slice A0_0 l0_0.length c0_0) := (blk_cell BK171001.out 0).trans rfl; have hcz11_1 : w10.cell? ⟨gb171001, 1, none⟩ = some (.slice A0_1 l0_1.length c0_1) := (blk_cell BK171001.out 1).trans rfl; have hfz11_0 := blk_frozen BK171001.out 0; have hfz11_1 := blk_frozen BK171001.out 1) | (go_at_call 113; (with_reducible refine (dam_CheckBasin.calls k _ _ l0_0 _ _ l0_1 t171002 t171003 _ ?side1 ?side2 ?side3 ?side4 A3.out).mono ?_); (case side1 => repeat (first | exact (Kd.C_below HR0_0.out HB.out) | (with_reducible refine Kd.C_alloc ?_ _) | (with_reducible refine Kd.C_drewN ?_ _) | (with_reducible refine Kd.C_drew ?_))); (case side2 => exact HC0_0.out); (case side3 => repeat (first | exact (Kd.C_below HR0_1.out HB.out) | (with_reducible refine Kd.C_alloc ?_ _) | (with_reducible refine Kd.C_drewN ?_ _) | (with_reducible refine Kd.C_drew ?_))); (case side4 => exact HC0_1.out); rintro e w12 ⟨rfl, hb⟩; have n0_ := Aside0.mk (blk_below (g := gb171001) (o := .cells #[.slice A0_0 l0_0.length c0_0, .slice A0_1 l0_1.length c0_1] 120 (0, 0)) (by (with_reducible repeat (first | refine blk_drewN ?_ _ | refine blk_drew ?_ | refine blk_alloc ?_ _)); exact BK171001.out) hb); have n1_ := Aside0.mk (below_step (by repeat (first | (with_reducible first | exact HB.out | apply below_alloc | apply pw_below_drewN | apply below_drew1 | refine below_set ?_ GE171001.out) | exact HB.out)) hb); clear BK171001; clear HB; have BK171001 := n0_; have HB := n1_; clear n0_ n1_; (try clear hb); (try clear hb2); (try clear hk); (try clear hi); have hcz13_0 : w12.cell? ⟨gb171001, 0, none⟩ = some (.slice A0_0 l0_0.length c0_0) := (blk_cell BK171001.out 0).trans rfl; have hcz13_1 : w12.cell? ⟨gb171001, 1, none⟩ = some (.slice A0_1 l0_1.length c0_1) := (blk_cell BK171001.out 1).trans rfl; have hfz13_0 := blk_frozen BK171001.out 0; have hfz13_1 := blk_frozen BK171001.out 1) | (go_at_call 65; (with_reducible refine (dam_within.calls a1 0 (l0_0.length : Int) t171004 _ A4.out).mono ?_); rintro e w' ⟨rfl, ⟨nd, rfl⟩⟩; (try first | exact ⟨rfl, _, World.drewN_drewN _ _ _⟩ | exact ⟨rfl, _, Eq.trans (World.drewN_drewN _ _ _) (congrArg (World.drewN _) (Nat.add_assoc _ _ _))⟩)) | (go_at_call 61; (with_reducible refine (dam_unless.calls t171004 2 t171005 _ A5.out).mono ?_); rintro e w' ⟨rfl, ⟨nd, rfl⟩⟩; (try first | exact ⟨rfl, _, World.drewN_drewN _ _ _⟩ | exact ⟨rfl, _, Eq.trans (World.drewN_drewN _ _ _) (congrArg (World.drewN _) (Nat.add_assoc _ _ _))⟩)) | ((with_reducible refine gate_dst (N := 23) rfl ?_); refine Kd.R_lit (Kd.int .i64) _ 32 ?hg (N := 23) ?hd (xs := ([t171003, t171005] : List Int)) (inner := [.int .i64 t171003, .int .i64 t171005]) (ok := fun _ => True) (okp := fun _ => True) ?hr ?hp (fun _ hk => hk) trivial (Below.refl _ _) (Nat.le_refl _) (by simp) ?_; (case hd => rfl); (case hg => rfl); (case hr => first | (go_simp; done) | (go_simp; rfl)); (case hp => exact (Reps.one (show Kd.M (Kd.int .i64) _ _ _ t171003 [.int .i64 t171003] from rfl) (Reps.one (show Kd.M (Kd.int .i64) _ _ _ t171005 [.int .i64 t171005] from rfl) (Reps.none _ _)))); intro v171007 w14 ho15 hb hg_ hnew_; clear hg_ hnew_; (first | rw [← Ny171006.out] at ho15 | (simp only [Int.reduceToNat] at ho15; rw [← Ny171006.out] at ho15)); have n0_ := Aside0.mk (Kd.R_lower ho15 (below_size (by repeat (first | (with_reducible first | exact HB.out | apply below_alloc | apply pw_below_drewN | apply below_drew1 | refine below_set ?_ GE171001.out) | exact HB.out)))); have n1_ := Aside0.mk (blk_below (g := gb171001) (o := .cells #[.slice A0_0 l0_0.length c0_0, .slice A0_1 l0_1.length c0_1] 120 (0, 0)) (by (with_reducible repeat (first | refine blk_drewN ?_ _ | refine blk_drew ?_ | refine blk_alloc ?_ _)); exact BK171001.out) hb); have n2_ := Aside0.mk (below_step (by repeat (first | (with_reducible first | exact HB.out | apply below_alloc | apply pw_below_drewN | apply below_drew1 | refine below_set ?_ GE171001.out) | exact HB.out)) hb); clear BK171001; clear HB; have HO171008 := n0_; have BK171001 := n1_; have HB := n2_; clear n0_ n1_ n2_; clear hb ho15; obtain ⟨Ao16, co16, eo16⟩ := Kd.R_slice HO171008.out; subst eo16) | (go_at_call 60; (with_reducible refine (dam_first.calls k _ _ y171006 t171009 _ ?side1 ?side2 A6.out).mono ?_); (case side1 => repeat (first | exact (Kd.R_reads' HO171008.out).2.2 | (with_reducible refine Kd.C_alloc ?_ _) | (with_reducible refine Kd.C_drewN ?_ _) | (with_reducible refine Kd.C_drew ?_))); (case side2 => exact (Kd.R_reads' HO171008.out).2.1); rintro e w' ⟨rfl, ⟨nd, rfl⟩⟩; (try first | exact ⟨rfl, _, World.drewN_drewN _ _ _⟩ | exact ⟨rfl, _, Eq.trans (World.drewN_drewN _ _ _) (congrArg (World.drewN _) (Nat.add_assoc _ _ _))⟩); have hcz17_0 : w14.cell? ⟨gb171001, 0, none⟩ = some (.slice A0_0 l0_0.length c0_0) := (blk_cell BK171001.out 0).trans rfl; have hcz17_1 : w14.cell? ⟨gb171001, 1, none⟩ = some (.slice A0_1 l0_1.length c0_1) := (blk_cell BK171001.out 1).trans rfl; have hfz17_0 := blk_frozen BK171001.out 0; have hfz17_1 := blk_frozen BK171001.out 1; obtain ⟨i018, hi018, _, hsz18, _⟩ := info_parts info3; obtain ⟨hcut18, hA18, hC18⟩ := print_take_of (P := Tryz.prog) (Value.int .i64) 0 22 3 .i64 Tryz.underlying22 hi018 hsz18 A0_0 c0_0 l0_0 a1 (of_decide_eq_true (by first | (with_reducible assumption) | assumption)) (of_decide_eq_true (by first | (with_reducible assumption) | assumption)) HC0_0.out; have HR171010 := Aside0.mk (Kd.C_of_reads (h1 := fun _ => rfl) (hA18 _ (Kd.reads_of_C HR0_0.out))); have HC171010 := Aside0.mk hC18; clear hA18 hC18 hi018 hsz18)))
        go_loopg [8, 33] k (fun kq v8 v33 w' => ∃ (x8_1 : Int) (x33_1 : Int), v8 = .int .i64 x8_1 ∧ v33 = .int .i64 x33_1 ∧ Aside0 (dam_EmptyingOf.l0 kq x8_1 (l0_0.take (a1 : Int).toNat) ((l0_0.take (a1 : Int).toNat).length : Int) x33_1 l0_0 l0_1 = some (r1, r2)) ∧ Aside0 (kq ≤ k) ∧ Aside0 (w'.heap[gb171001]? = some (.cells #[(.slice A0_0 l0_0.length c0_0), (.slice A0_1 l0_1.length c0_1)] 120 (0, 0))) ∧ Aside0 (Below w.heap.size w w'))
        case atStart => exact ⟨(0), (0), (by first | rfl | (simp; done) | (simp [*]; done)), (by first | rfl | (simp; done) | (simp [*]; done)), H', ⟨Nat.le_refl _⟩, ⟨by (with_reducible repeat (first | refine blk_drewN ?_ _ | refine blk_drew ?_ | refine blk_alloc ?_ _)); exact BK171001.out⟩, ⟨by repeat (first | (with_reducible first | exact HB.out | apply below_alloc | apply pw_below_drewN | apply below_drew1 | refine below_set ?_ GE171001.out) | exact HB.out)⟩⟩
        case round =>
          clear H'
          try clear p2
          try clear c5
          try clear c7
          try clear c7b0
          try clear c7b1
          try clear hcz11_0
          try clear hcz11_1
          try clear hcz13_0
          try clear hcz13_1
          try clear hcz17_0
          try clear hcz17_1
          try clear hfz11_0
          try clear hfz11_1
          try clear hfz13_0
          try clear hfz13_1
          try clear hfz17_0
          try clear hfz17_1
          obtain ⟨x8_1, x33_1, rfl, rfl, HA, HK1, BK171001, HB⟩ := hrel
          cases gk with
          | zero => exact absurd HA.out (by simp [dam_EmptyingOf.l0])
          | succ k1 =>
            have H := HA.out
            clear HA
            simp only [dam_EmptyingOf.l0] at H
            by_cases c19 : x33_1 < ((l0_0.take (a1 : Int).toNat).length : Int)
            · rw [if_pos c19] at H
              have c19b0 : decide (x33_1 < ((l0_0.take (a1 : Int).toNat).length : Int)) = true := decide_eq_true c19
              have c19b9 : decide (x33_1 < max a1 0) = true := by (have h8_ := of_eq_true c8b0; have h9_ := of_eq_true c9b0; have hl_ := c19; simp only [List.length_take] at hl_; exact decide_eq_true (by omega))
              have c19b8 : (x33_1 < max a1 0) = True := eq_true (of_decide_eq_true c19b9)
              clear c19
              by_cases c20 : 0 ≤ x33_1
              · rw [if_pos c20] at H
                have c20b0 : decide (0 ≤ x33_1) = true := decide_eq_true c20
                clear c20
                by_cases c21 : x33_1 < ((l0_0.take (a1 : Int).toNat).length : Int)
                · rw [if_pos c21] at H
                  have c21b0 : decide (x33_1 < ((l0_0.take (a1 : Int).toNat).length : Int)) = true := decide_eq_true c21
                  have c21b9 : decide (x33_1 < max a1 0) = true := by (have h8_ := of_eq_true c8b0; have h9_ := of_eq_true c9b0; have hl_ := c21; simp only [List.length_take] at hl_; exact decide_eq_true (by omega))
                  have c21b8 : (x33_1 < max a1 0) = True := eq_true (of_decide_eq_true c21b9)
                  clear c21
                  by_cases c22 : x33_1 < (l0_1.length : Int)
                  · rw [if_pos c22] at H
                    have c22b0 : decide (x33_1 < (l0_1.length : Int)) = true := decide_eq_true c22
                    clear c22
                    by_cases c23 : (rd l0_1 x33_1) = 0
                    · rw [if_pos c23] at H
                      exact absurd H (by simp)
                    · rw [if_neg c23] at H
                      have c23b0 : ((rd l0_1 x33_1) == 0) = false := beq_eq_false_iff_ne.mpr c23
                      have c23b1 : ((rd l0_1 x33_1) != 0) = true := bne_iff_ne.mpr c23
                      have H' := Aside0.mk H
                      clear H
                      have p171011 : 0 ≤ (x33_1 : Int) := of_decide_eq_true (by first | (with_reducible assumption) | assumption)
                      have q171011 : x33_1 < ((l0_0.take (a1 : Int).toNat).length : Int) := of_decide_eq_true (by first | (with_reducible assumption) | assumption)
                      obtain ⟨ad171011, e171011, hx171011_0⟩ := Kd.at_int HR171010.out x33_1 p171011 q171011
                      cases e171011
                      replace hx171011_0 := (HB.out.cell (World.block_lt_of_cell? w _ hx171011_0)).trans hx171011_0
                      replace p171011 := eq_true p171011
                      replace q171011 := eq_true q171011
                      have hcz24_0 : wr.cell? ⟨gb171001, 0, none⟩ = some (.slice (some ad171011) l0_0.length c0_0) := (blk_cell BK171001.out 0).trans rfl
                      have hcz24_1 : wr.cell? ⟨gb171001, 1, none⟩ = some (.slice A0_1 l0_1.length c0_1) := (blk_cell BK171001.out 1).trans rfl
                      have hfz24_0 := blk_frozen BK171001.out 0
                      have hfz24_1 := blk_frozen BK171001.out 1
                      have p171012 : 0 ≤ (x33_1 : Int) := of_decide_eq_true (by first | (with_reducible assumption) | assumption)
                      have q171012 : x33_1 < (l0_1.length : Int) := of_decide_eq_true (by first | (with_reducible assumption) | assumption)
                      obtain ⟨ad171012, e171012, hx171012_0⟩ := Kd.at_int HR0_1.out x33_1 p171012 q171012
                      cases e171012
                      replace hx171012_0 := (HB.out.cell (World.block_lt_of_cell? w _ hx171012_0)).trans hx171012_0
                      replace p171012 := eq_true p171012
                      replace q171012 := eq_true q171012
                      have p171013 : 0 ≤ (x33_1 : Int) := of_decide_eq_true (by first | (with_reducible assumption) | assumption)
                      have q171013 : x33_1 < (l0_1.length : Int) := of_decide_eq_true (by first | (with_reducible assumption) | assumption)
                      obtain ⟨ad171013, e171013, hx171013_0⟩ := Kd.at_int HR0_1.out x33_1 p171013 q171013
                      obtain rfl : ad171012 = ad171013 := (by injection e171013)
                      replace hx171013_0 := (HB.out.cell (World.block_lt_of_cell? w _ hx171013_0)).trans hx171013_0
                      replace p171013 := eq_true p171013
                      replace q171013 := eq_true q171013
                      go_wp2
                      repeat (go_quiet (fail); try go_wp2)
                      go_roundg k1
                      case measure => have := HK1.out; omega
                      case rel => exact ⟨(wrap64 (x8_1 + (wrap64 (Int.tdiv (wrap64 ((wrap64 ((rd (l0_0.take (a1 : Int).toNat) x33_1) + (rd l0_1 x33_1))) - 1)) (rd l0_1 x33_1))))), (wrap64 (x33_1 + 1)), (by first | rfl | (simp; done) | (simp [*]; done)), (by first | rfl | (simp; done) | (simp [*]; done)), H', ⟨by have := HK1.out; omega⟩, ⟨by (with_reducible repeat (first | refine blk_drewN ?_ _ | refine blk_drew ?_ | refine blk_alloc ?_ _)); exact BK171001.out⟩, ⟨by repeat (first | (with_reducible first | exact HB.out | apply below_alloc | apply pw_below_drewN | apply below_drew1 | refine below_set ?_ GE171001.out) | exact HB.out)⟩⟩
                  · rw [if_neg c22] at H
                    exact absurd H (by simp)
                · rw [if_neg c21] at H
                  exact absurd H (by simp)
              · rw [if_neg c20] at H
                exact absurd H (by simp)
            · rw [if_neg c19] at H
              have c19b0 : decide (x33_1 < ((l0_0.take (a1 : Int).toNat).length : Int)) = false := decide_eq_false c19
              have c19b9 : decide (x33_1 < max a1 0) = false := by (have h8_ := of_eq_true c8b0; have h9_ := of_eq_true c9b0; have hl_ := c19; simp only [List.length_take] at hl_; exact decide_eq_false (by omega))
              clear c19
              simp only [Option.some.injEq, Prod.mk.injEq] at H
              obtain ⟨rfl, rfl⟩ := H
              go_wp2
              repeat (go_quiet (fail); try go_wp2)
              go_ret2
              exact ⟨by first | rfl | (simp [errW_none, errW_some] <;> rfl) | (simp [*, errW_none, errW_some] <;> rfl), by repeat (first | (with_reducible first | exact HB.out | apply below_alloc | apply pw_below_drewN | apply below_drew1 | refine below_set ?_ GE171001.out) | exact HB.out)⟩
      · rw [if_neg c9] at H
        exact absurd H (by simp)
    · rw [if_neg c8] at H
      exact absurd H (by simp)
  · rw [if_neg c7] at H
    have c7b0 : (t171009 == 0) = false := beq_eq_false_iff_ne.mpr c7
    have c7b1 : (t171009 != 0) = true := bne_iff_ne.mpr c7
    simp only [Option.some.injEq, Prod.mk.injEq] at H
    obtain ⟨rfl, rfl⟩ := H
    go_enter Tryz.func57, Tryz.ntmps57
    go_wp2_with (first | ((with_reducible refine gate_dst (N := 2) rfl ?_); refine box_event ?hg (N := 2) ?hd (cs := #[.slice A0_0 l0_0.length c0_0, .slice A0_1 l0_1.length c0_1]) (t := 120) ?hr ?_; (case hd => rfl); (case hg => rfl); (case hr => first | (go_simp; done) | (go_simp; rfl)); intro gb171001 hg w25 hbox hb; have n0_ := Aside0.mk (below_step (by repeat (first | (with_reducible first | exact HB.out | apply below_alloc | apply pw_below_drewN | apply below_drew1) | exact HB.out)) hb); have n1_ := Aside0.mk (hbox); have n2_ := Aside0.mk ((by rw [hg]; exact (below_size (by repeat (first | (with_reducible first | exact HB.out | apply below_alloc | apply pw_below_drewN | apply below_drew1) | exact HB.out))) : w.heap.size ≤ gb171001)); have n3_ := Aside0.mk ((by rw [hg]; exact (below_size (by repeat (first | (with_reducible first | exact HB.out | apply below_alloc | apply pw_below_drewN | apply below_drew1) | exact HB.out))) : w.heap.size ≤ gb171001)); clear HB; have HB := n0_; have BK171001 := n1_; have GW171001 := n2_; have GE171001 := n3_; clear n0_ n1_ n2_ n3_; clear hb hbox hg; have hcz26_0 : w25.cell? ⟨gb171001, 0, none⟩ = some (.slice A0_0 l0_0.length c0_0) := (blk_cell BK171001.out 0).trans rfl; have hcz26_1 : w25.cell? ⟨gb171001, 1, none⟩ = some (.slice A0_1 l0_1.length c0_1) := (blk_cell BK171001.out 1).trans rfl; have hfz26_0 := blk_frozen BK171001.out 0; have hfz26_1 := blk_frozen BK171001.out 1) | (go_at_call 113; (with_reducible refine (dam_CheckBasin.calls k _ _ l0_0 _ _ l0_1 t171002 t171003 _ ?side1 ?side2 ?side3 ?side4 A3.out).mono ?_); (case side1 => repeat (first | exact (Kd.C_below HR0_0.out HB.out) | (with_reducible refine Kd.C_alloc ?_ _) | (with_reducible refine Kd.C_drewN ?_ _) | (with_reducible refine Kd.C_drew ?_))); (case side2 => exact HC0_0.out); (case side3 => repeat (first | exact (Kd.C_below HR0_1.out HB.out) | (with_reducible refine Kd.C_alloc ?_ _) | (with_reducible refine Kd.C_drewN ?_ _) | (with_reducible refine Kd.C_drew ?_))); (case side4 => exact HC0_1.out); rintro e w27 ⟨rfl, hb⟩; have n0_ := Aside0.mk (blk_below (g := gb171001) (o := .cells #[.slice A0_0 l0_0.length c0_0, .slice A0_1 l0_1.length c0_1] 120 (0, 0)) (by (with_reducible repeat (first | refine blk_drewN ?_ _ | refine blk_drew ?_ | refine blk_alloc ?_ _)); exact BK171001.out) hb); have n1_ := Aside0.mk (below_step (by repeat (first | (with_reducible first | exact HB.out | apply below_alloc | apply pw_below_drewN | apply below_drew1 | refine below_set ?_ GE171001.out) | exact HB.out)) hb); clear BK171001; clear HB; have BK171001 := n0_; have HB := n1_; clear n0_ n1_; (try clear hb); (try clear hb2); (try clear hk); (try clear hi); have hcz28_0 : w27.cell? ⟨gb171001, 0, none⟩ = some (.slice A0_0 l0_0.length c0_0) := (blk_cell BK171001.out 0).trans rfl; have hcz28_1 : w27.cell? ⟨gb171001, 1, none⟩ = some (.slice A0_1 l0_1.length c0_1) := (blk_cell BK171001.out 1).trans rfl; have hfz28_0 := blk_frozen BK171001.out 0; have hfz28_1 := blk_frozen BK171001.out 1) | (go_at_call 65; (with_reducible refine (dam_within.calls a1 0 (l0_0.length : Int) t171004 _ A4.out).mono ?_); rintro e w' ⟨rfl, ⟨nd, rfl⟩⟩; (try first | exact ⟨rfl, _, World.drewN_drewN _ _ _⟩ | exact ⟨rfl, _, Eq.trans (World.drewN_drewN _ _ _) (congrArg (World.drewN _) (Nat.add_assoc _ _ _))⟩)) | (go_at_call 61; (with_reducible refine (dam_unless.calls t171004 2 t171005 _ A5.out).mono ?_); rintro e w' ⟨rfl, ⟨nd, rfl⟩⟩; (try first | exact ⟨rfl, _, World.drewN_drewN _ _ _⟩ | exact ⟨rfl, _, Eq.trans (World.drewN_drewN _ _ _) (congrArg (World.drewN _) (Nat.add_assoc _ _ _))⟩)) | ((with_reducible refine gate_dst (N := 23) rfl ?_); refine Kd.R_lit (Kd.int .i64) _ 32 ?hg (N := 23) ?hd (xs := ([t171003, t171005] : List Int)) (inner := [.int .i64 t171003, .int .i64 t171005]) (ok := fun _ => True) (okp := fun _ => True) ?hr ?hp (fun _ hk => hk) trivial (Below.refl _ _) (Nat.le_refl _) (by simp) ?_; (case hd => rfl); (case hg => rfl); (case hr => first | (go_simp; done) | (go_simp; rfl)); (case hp => exact (Reps.one (show Kd.M (Kd.int .i64) _ _ _ t171003 [.int .i64 t171003] from rfl) (Reps.one (show Kd.M (Kd.int .i64) _ _ _ t171005 [.int .i64 t171005] from rfl) (Reps.none _ _)))); intro v171007 w29 ho30 hb hg_ hnew_; clear hg_ hnew_; (first | rw [← Ny171006.out] at ho30 | (simp only [Int.reduceToNat] at ho30; rw [← Ny171006.out] at ho30)); have n0_ := Aside0.mk (Kd.R_lower ho30 (below_size (by repeat (first | (with_reducible first | exact HB.out | apply below_alloc | apply pw_below_drewN | apply below_drew1 | refine below_set ?_ GE171001.out) | exact HB.out)))); have n1_ := Aside0.mk (blk_below (g := gb171001) (o := .cells #[.slice A0_0 l0_0.length c0_0, .slice A0_1 l0_1.length c0_1] 120 (0, 0)) (by (with_reducible repeat (first | refine blk_drewN ?_ _ | refine blk_drew ?_ | refine blk_alloc ?_ _)); exact BK171001.out) hb); have n2_ := Aside0.mk (below_step (by repeat (first | (with_reducible first | exact HB.out | apply below_alloc | apply pw_below_drewN | apply below_drew1 | refine below_set ?_ GE171001.out) | exact HB.out)) hb); clear BK171001; clear HB; have HO171008 := n0_; have BK171001 := n1_; have HB := n2_; clear n0_ n1_ n2_; clear hb ho30; obtain ⟨Ao31, co31, eo31⟩ := Kd.R_slice HO171008.out; subst eo31) | (go_at_call 60; (with_reducible refine (dam_first.calls k _ _ y171006 t171009 _ ?side1 ?side2 A6.out).mono ?_); (case side1 => repeat (first | exact (Kd.R_reads' HO171008.out).2.2 | (with_reducible refine Kd.C_alloc ?_ _) | (with_reducible refine Kd.C_drewN ?_ _) | (with_reducible refine Kd.C_drew ?_))); (case side2 => exact (Kd.R_reads' HO171008.out).2.1); rintro e w' ⟨rfl, ⟨nd, rfl⟩⟩; (try first | exact ⟨rfl, _, World.drewN_drewN _ _ _⟩ | exact ⟨rfl, _, Eq.trans (World.drewN_drewN _ _ _) (congrArg (World.drewN _) (Nat.add_assoc _ _ _))⟩)))
    repeat (go_quiet (first | ((with_reducible refine gate_dst (N := 2) rfl ?_); refine box_event ?hg (N := 2) ?hd (cs := #[.slice A0_0 l0_0.length c0_0, .slice A0_1 l0_1.length c0_1]) (t := 120) ?hr ?_; (case hd => rfl); (case hg => rfl); (case hr => first | (go_simp; done) | (go_simp; rfl)); intro gb171001 hg w25 hbox hb; have n0_ := Aside0.mk (below_step (by repeat (first | (with_reducible first | exact HB.out | apply below_alloc | apply pw_below_drewN | apply below_drew1) | exact HB.out)) hb); have n1_ := Aside0.mk (hbox); have n2_ := Aside0.mk ((by rw [hg]; exact (below_size (by repeat (first | (with_reducible first | exact HB.out | apply below_alloc | apply pw_below_drewN | apply below_drew1) | exact HB.out))) : w.heap.size ≤ gb171001)); have n3_ := Aside0.mk ((by rw [hg]; exact (below_size (by repeat (first | (with_reducible first | exact HB.out | apply below_alloc | apply pw_below_drewN | apply below_drew1) | exact HB.out))) : w.heap.size ≤ gb171001)); clear HB; have HB := n0_; have BK171001 := n1_; have GW171001 := n2_; have GE171001 := n3_; clear n0_ n1_ n2_ n3_; clear hb hbox hg; have hcz26_0 : w25.cell? ⟨gb171001, 0, none⟩ = some (.slice A0_0 l0_0.length c0_0) := (blk_cell BK171001.out 0).trans rfl; have hcz26_1 : w25.cell? ⟨gb171001, 1, none⟩ = some (.slice A0_1 l0_1.length c0_1) := (blk_cell BK171001.out 1).trans rfl; have hfz26_0 := blk_frozen BK171001.out 0; have hfz26_1 := blk_frozen BK171001.out 1) | (go_at_call 113; (with_reducible refine (dam_CheckBasin.calls k _ _ l0_0 _ _ l0_1 t171002 t171003 _ ?side1 ?side2 ?side3 ?side4 A3.out).mono ?_); (case side1 => repeat (first | exact (Kd.C_below HR0_0.out HB.out) | (with_reducible refine Kd.C_alloc ?_ _) | (with_reducible refine Kd.C_drewN ?_ _) | (with_reducible refine Kd.C_drew ?_))); (case side2 => exact HC0_0.out); (case side3 => repeat (first | exact (Kd.C_below HR0_1.out HB.out) | (with_reducible refine Kd.C_alloc ?_ _) | (with_reducible refine Kd.C_drewN ?_ _) | (with_reducible refine Kd.C_drew ?_))); (case side4 => exact HC0_1.out); rintro e w27 ⟨rfl, hb⟩; have n0_ := Aside0.mk (blk_below (g := gb171001) (o := .cells #[.slice A0_0 l0_0.length c0_0, .slice A0_1 l0_1.length c0_1] 120 (0, 0)) (by (with_reducible repeat (first | refine blk_drewN ?_ _ | refine blk_drew ?_ | refine blk_alloc ?_ _)); exact BK171001.out) hb); have n1_ := Aside0.mk (below_step (by repeat (first | (with_reducible first | exact HB.out | apply below_alloc | apply pw_below_drewN | apply below_drew1 | refine below_set ?_ GE171001.out) | exact HB.out)) hb); clear BK171001; clear HB; have BK171001 := n0_; have HB := n1_; clear n0_ n1_; (try clear hb); (try clear hb2); (try clear hk); (try clear hi); have hcz28_0 : w27.cell? ⟨gb171001, 0, none⟩ = some (.slice A0_0 l0_0.length c0_0) := (blk_cell BK171001.out 0).trans rfl; have hcz28_1 : w27.cell? ⟨gb171001, 1, none⟩ = some (.slice A0_1 l0_1.length c0_1) := (blk_cell BK171001.out 1).trans rfl; have hfz28_0 := blk_frozen BK171001.out 0; have hfz28_1 := blk_frozen BK171001.out 1) | (go_at_call 65; (with_reducible refine (dam_within.calls a1 0 (l0_0.length : Int) t171004 _ A4.out).mono ?_); rintro e w' ⟨rfl, ⟨nd, rfl⟩⟩; (try first | exact ⟨rfl, _, World.drewN_drewN _ _ _⟩ | exact ⟨rfl, _, Eq.trans (World.drewN_drewN _ _ _) (congrArg (World.drewN _) (Nat.add_assoc _ _ _))⟩)) | (go_at_call 61; (with_reducible refine (dam_unless.calls t171004 2 t171005 _ A5.out).mono ?_); rintro e w' ⟨rfl, ⟨nd, rfl⟩⟩; (try first | exact ⟨rfl, _, World.drewN_drewN _ _ _⟩ | exact ⟨rfl, _, Eq.trans (World.drewN_drewN _ _ _) (congrArg (World.drewN _) (Nat.add_assoc _ _ _))⟩)) | ((with_reducible refine gate_dst (N := 23) rfl ?_); refine Kd.R_lit (Kd.int .i64) _ 32 ?hg (N := 23) ?hd (xs := ([t171003, t171005] : List Int)) (inner := [.int .i64 t171003, .int .i64 t171005]) (ok := fun _ => True) (okp := fun _ => True) ?hr ?hp (fun _ hk => hk) trivial (Below.refl _ _) (Nat.le_refl _) (by simp) ?_; (case hd => rfl); (case hg => rfl); (case hr => first | (go_simp; done) | (go_simp; rfl)); (case hp => exact (Reps.one (show Kd.M (Kd.int .i64) _ _ _ t171003 [.int .i64 t171003] from rfl) (Reps.one (show Kd.M (Kd.int .i64) _ _ _ t171005 [.int .i64 t171005] from rfl) (Reps.none _ _)))); intro v171007 w29 ho30 hb hg_ hnew_; clear hg_ hnew_; (first | rw [← Ny171006.out] at ho30 | (simp only [Int.reduceToNat] at ho30; rw [← Ny171006.out] at ho30)); have n0_ := Aside0.mk (Kd.R_lower ho30 (below_size (by repeat (first | (with_reducible first | exact HB.out | apply below_alloc | apply pw_below_drewN | apply below_drew1 | refine below_set ?_ GE171001.out) | exact HB.out)))); have n1_ := Aside0.mk (blk_below (g := gb171001) (o := .cells #[.slice A0_0 l0_0.length c0_0, .slice A0_1 l0_1.length c0_1] 120 (0, 0)) (by (with_reducible repeat (first | refine blk_drewN ?_ _ | refine blk_drew ?_ | refine blk_alloc ?_ _)); exact BK171001.out) hb); have n2_ := Aside0.mk (below_step (by repeat (first | (with_reducible first | exact HB.out | apply below_alloc | apply pw_below_drewN | apply below_drew1 | refine below_set ?_ GE171001.out) | exact HB.out)) hb); clear BK171001; clear HB; have HO171008 := n0_; have BK171001 := n1_; have HB := n2_; clear n0_ n1_ n2_; clear hb ho30; obtain ⟨Ao31, co31, eo31⟩ := Kd.R_slice HO171008.out; subst eo31) | (go_at_call 60; (with_reducible refine (dam_first.calls k _ _ y171006 t171009 _ ?side1 ?side2 A6.out).mono ?_); (case side1 => repeat (first | exact (Kd.R_reads' HO171008.out).2.2 | (with_reducible refine Kd.C_alloc ?_ _) | (with_reducible refine Kd.C_drewN ?_ _) | (with_reducible refine Kd.C_drew ?_))); (case side2 => exact (Kd.R_reads' HO171008.out).2.1); rintro e w' ⟨rfl, ⟨nd, rfl⟩⟩; (try first | exact ⟨rfl, _, World.drewN_drewN _ _ _⟩ | exact ⟨rfl, _, Eq.trans (World.drewN_drewN _ _ _) (congrArg (World.drewN _) (Nat.add_assoc _ _ _))⟩))); try go_wp2_with (first | ((with_reducible refine gate_dst (N := 2) rfl ?_); refine box_event ?hg (N := 2) ?hd (cs := #[.slice A0_0 l0_0.length c0_0, .slice A0_1 l0_1.length c0_1]) (t := 120) ?hr ?_; (case hd => rfl); (case hg => rfl); (case hr => first | (go_simp; done) | (go_simp; rfl)); intro gb171001 hg w25 hbox hb; have n0_ := Aside0.mk (below_step (by repeat (first | (with_reducible first | exact HB.out | apply below_alloc | apply pw_below_drewN | apply below_drew1) | exact HB.out)) hb); have n1_ := Aside0.mk (hbox); have n2_ := Aside0.mk ((by rw [hg]; exact (below_size (by repeat (first | (with_reducible first | exact HB.out | apply below_alloc | apply pw_below_drewN | apply below_drew1) | exact HB.out))) : w.heap.size ≤ gb171001)); have n3_ := Aside0.mk ((by rw [hg]; exact (below_size (by repeat (first | (with_reducible first | exact HB.out | apply below_alloc | apply pw_below_drewN | apply below_drew1) | exact HB.out))) : w.heap.size ≤ gb171001)); clear HB; have HB := n0_; have BK171001 := n1_; have GW171001 := n2_; have GE171001 := n3_; clear n0_ n1_ n2_ n3_; clear hb hbox hg; have hcz26_0 : w25.cell? ⟨gb171001, 0, none⟩ = some (.slice A0_0 l0_0.length c0_0) := (blk_cell BK171001.out 0).trans rfl; have hcz26_1 : w25.cell? ⟨gb171001, 1, none⟩ = some (.slice A0_1 l0_1.length c0_1) := (blk_cell BK171001.out 1).trans rfl; have hfz26_0 := blk_frozen BK171001.out 0; have hfz26_1 := blk_frozen BK171001.out 1) | (go_at_call 113; (with_reducible refine (dam_CheckBasin.calls k _ _ l0_0 _ _ l0_1 t171002 t171003 _ ?side1 ?side2 ?side3 ?side4 A3.out).mono ?_); (case side1 => repeat (first | exact (Kd.C_below HR0_0.out HB.out) | (with_reducible refine Kd.C_alloc ?_ _) | (with_reducible refine Kd.C_drewN ?_ _) | (with_reducible refine Kd.C_drew ?_))); (case side2 => exact HC0_0.out); (case side3 => repeat (first | exact (Kd.C_below HR0_1.out HB.out) | (with_reducible refine Kd.C_alloc ?_ _) | (with_reducible refine Kd.C_drewN ?_ _) | (with_reducible refine Kd.C_drew ?_))); (case side4 => exact HC0_1.out); rintro e w27 ⟨rfl, hb⟩; have n0_ := Aside0.mk (blk_below (g := gb171001) (o := .cells #[.slice A0_0 l0_0.length c0_0, .slice A0_1 l0_1.length c0_1] 120 (0, 0)) (by (with_reducible repeat (first | refine blk_drewN ?_ _ | refine blk_drew ?_ | refine blk_alloc ?_ _)); exact BK171001.out) hb); have n1_ := Aside0.mk (below_step (by repeat (first | (with_reducible first | exact HB.out | apply below_alloc | apply pw_below_drewN | apply below_drew1 | refine below_set ?_ GE171001.out) | exact HB.out)) hb); clear BK171001; clear HB; have BK171001 := n0_; have HB := n1_; clear n0_ n1_; (try clear hb); (try clear hb2); (try clear hk); (try clear hi); have hcz28_0 : w27.cell? ⟨gb171001, 0, none⟩ = some (.slice A0_0 l0_0.length c0_0) := (blk_cell BK171001.out 0).trans rfl; have hcz28_1 : w27.cell? ⟨gb171001, 1, none⟩ = some (.slice A0_1 l0_1.length c0_1) := (blk_cell BK171001.out 1).trans rfl; have hfz28_0 := blk_frozen BK171001.out 0; have hfz28_1 := blk_frozen BK171001.out 1) | (go_at_call 65; (with_reducible refine (dam_within.calls a1 0 (l0_0.length : Int) t171004 _ A4.out).mono ?_); rintro e w' ⟨rfl, ⟨nd, rfl⟩⟩; (try first | exact ⟨rfl, _, World.drewN_drewN _ _ _⟩ | exact ⟨rfl, _, Eq.trans (World.drewN_drewN _ _ _) (congrArg (World.drewN _) (Nat.add_assoc _ _ _))⟩)) | (go_at_call 61; (with_reducible refine (dam_unless.calls t171004 2 t171005 _ A5.out).mono ?_); rintro e w' ⟨rfl, ⟨nd, rfl⟩⟩; (try first | exact ⟨rfl, _, World.drewN_drewN _ _ _⟩ | exact ⟨rfl, _, Eq.trans (World.drewN_drewN _ _ _) (congrArg (World.drewN _) (Nat.add_assoc _ _ _))⟩)) | ((with_reducible refine gate_dst (N := 23) rfl ?_); refine Kd.R_lit (Kd.int .i64) _ 32 ?hg (N := 23) ?hd (xs := ([t171003, t171005] : List Int)) (inner := [.int .i64 t171003, .int .i64 t171005]) (ok := fun _ => True) (okp := fun _ => True) ?hr ?hp (fun _ hk => hk) trivial (Below.refl _ _) (Nat.le_refl _) (by simp) ?_; (case hd => rfl); (case hg => rfl); (case hr => first | (go_simp; done) | (go_simp; rfl)); (case hp => exact (Reps.one (show Kd.M (Kd.int .i64) _ _ _ t171003 [.int .i64 t171003] from rfl) (Reps.one (show Kd.M (Kd.int .i64) _ _ _ t171005 [.int .i64 t171005] from rfl) (Reps.none _ _)))); intro v171007 w29 ho30 hb hg_ hnew_; clear hg_ hnew_; (first | rw [← Ny171006.out] at ho30 | (simp only [Int.reduceToNat] at ho30; rw [← Ny171006.out] at ho30)); have n0_ := Aside0.mk (Kd.R_lower ho30 (below_size (by repeat (first | (with_reducible first | exact HB.out | apply below_alloc | apply pw_below_drewN | apply below_drew1 | refine below_set ?_ GE171001.out) | exact HB.out)))); have n1_ := Aside0.mk (blk_below (g := gb171001) (o := .cells #[.slice A0_0 l0_0.length c0_0, .slice A0_1 l0_1.length c0_1] 120 (0, 0)) (by (with_reducible repeat (first | refine blk_drewN ?_ _ | refine blk_drew ?_ | refine blk_alloc ?_ _)); exact BK171001.out) hb); have n2_ := Aside0.mk (below_step (by repeat (first | (with_reducible first | exact HB.out | apply below_alloc | apply pw_below_drewN | apply below_drew1 | refine below_set ?_ GE171001.out) | exact HB.out)) hb); clear BK171001; clear HB; have HO171008 := n0_; have BK171001 := n1_; have HB := n2_; clear n0_ n1_ n2_; clear hb ho30; obtain ⟨Ao31, co31, eo31⟩ := Kd.R_slice HO171008.out; subst eo31) | (go_at_call 60; (with_reducible refine (dam_first.calls k _ _ y171006 t171009 _ ?side1 ?side2 A6.out).mono ?_); (case side1 => repeat (first | exact (Kd.R_reads' HO171008.out).2.2 | (with_reducible refine Kd.C_alloc ?_ _) | (with_reducible refine Kd.C_drewN ?_ _) | (with_reducible refine Kd.C_drew ?_))); (case side2 => exact (Kd.R_reads' HO171008.out).2.1); rintro e w' ⟨rfl, ⟨nd, rfl⟩⟩; (try first | exact ⟨rfl, _, World.drewN_drewN _ _ _⟩ | exact ⟨rfl, _, Eq.trans (World.drewN_drewN _ _ _) (congrArg (World.drewN _) (Nat.add_assoc _ _ _))⟩))))
    go_ret2
    exact ⟨by first | rfl | (simp [errW_none, errW_some] <;> rfl) | (simp [*, errW_none, errW_some] <;> rfl), by repeat (first | (with_reducible first | exact HB.out | apply below_alloc | apply pw_below_drewN | apply below_drew1 | refine below_set ?_ GE171001.out) | exact HB.out)⟩
def guidevanebase_Ints.l0 : Nat → List Int → List Int → Int → Option (Bool)
  | 0, _, _, _ => none
  | k + 1, x0, x1, x5 => if x5 < (x0.length : Int) then (if 0 ≤ x5 then (if x5 < (x1.length : Int) then (if (rd x0 x5) = (rd x1 x5) then (guidevanebase_Ints.l0 k x0 x1 (wrap64 (x5 + 1))) else (some false)) else (none)) else (none)) else (some true)
def guidevanebase_Ints.f (k : Nat) (l0 : List Int) (l1 : List Int) : Option (Bool) := if (l0.length : Int) = (l1.length : Int) then (guidevanebase_Ints.l0 k l0 l1 0) else (some false)
theorem guidevanebase_Ints.mono_l : ∀ k, (∀ y0 y1 y2, LeO (guidevanebase_Ints.l0 k y0 y1 y2) (guidevanebase_Ints.l0 (k + 1) y0 y1 y2))
  | 0 => fun _ _ _ r h => by simp [guidevanebase_Ints.l0] at h
  | k + 1 => by
    have ih0 := guidevanebase_Ints.mono_l k
    · intro y0 y1 y2
      unfold guidevanebase_Ints.l0
      repeat' first
      | (with_reducible exact ih0 _ _ _)
      | (with_reducible exact LeO.refl _)
      | (with_reducible exact LeO.none _)
      | (with_reducible refine LeO.ite ?_ ?_)
      | (with_reducible refine LeO.bind ?_ (fun _ => ?_))
      | exact ih0 _ _ _
      | exact LeO.none _
      | refine LeO.ite ?_ ?_
      | refine LeO.bind ?_ (fun _ => ?_)
theorem guidevanebase_Ints.mono : ∀ a0 a1 k, LeO (guidevanebase_Ints.f k a0 a1) (guidevanebase_Ints.f (k + 1) a0 a1) := by
  intro a0 a1 k
  have ih0 := guidevanebase_Ints.mono_l k
  unfold guidevanebase_Ints.f
  repeat' first
      | (with_reducible exact ih0 _ _ _)
      | (with_reducible exact LeO.refl _)
      | (with_reducible exact LeO.none _)
      | (with_reducible refine LeO.ite ?_ ?_)
      | (with_reducible refine LeO.bind ?_ (fun _ => ?_))
      | exact ih0 _ _ _
      | exact LeO.none _
      | refine LeO.ite ?_ ?_
      | refine LeO.bind ?_ (fun _ => ?_)
set_option maxHeartbeats 8000000 in
set_option maxRecDepth 100000 in
theorem guidevanebase_Ints.calls (k : Nat) (A0 : Option Addr) (c0 : Nat) (l0 : List Int) (A1 : Option Addr) (c1 : Nat) (l1 : List Int) (r : Bool) (w : World) (hr0 : Kd.C (Kd.int .i64) w A0 l0.length l0) (hc0 : l0.length ≤ c0) (hr1 : Kd.C (Kd.int .i64) w A1 l1.length l1) (hc1 : l1.length ≤ c1) (h : guidevanebase_Ints.f k l0 l1 = some r) :
    Calls Tryz.prog 58 #[.slice A0 l0.length c0, .slice A1 l1.length c1] w fun e w' => e = .returned (.bool r) ∧ Drawn0 w w' := by
  have HR0 := Aside0.mk hr0
  have HC0 := Aside0.mk hc0
  clear hr0 hc0
  have HR1 := Aside0.mk hr1
  have HC1 := Aside0.mk hc1
  clear hr1 hc1
  have H : (if (l0.length : Int) = (l1.length : Int) then (guidevanebase_Ints.l0 k l0 l1 0) else (some false)) = some r := h
  clear h
  by_cases c3 : (l0.length : Int) = (l1.length : Int)
  · rw [if_pos c3] at H
    have c3b0 : ((l0.length : Int) == (l1.length : Int)) = true := beq_iff_eq.mpr c3
    have c3b1 : ((l0.length : Int) != (l1.length : Int)) = false := bne_eq_false_iff_eq.mpr c3
    have c3b2 : (l0.length == l1.length) = true := by first | simpa using c3 | (simp at c3 ⊢; omega)
    clear c3
    have H' := Aside0.mk H
    clear H
    go_enter Tryz.func58, Tryz.ntmps58
    go_wp2
    repeat (go_quiet (fail); try go_wp2)
    go_loopg [5] k (fun kq v5 w' => ∃ (x5_1 : Int), v5 = .int .i64 x5_1 ∧ Aside0 (guidevanebase_Ints.l0 kq l0 l1 x5_1 = some r) ∧ Aside0 (kq ≤ k) ∧ Drawn0 w w')
    case atStart => exact ⟨(0), (by first | rfl | (simp; done) | (simp [*]; done)), H', ⟨Nat.le_refl _⟩, by repeat (first | exact Drawn0.refl _ | apply Drawn0.step)⟩
    case round =>
      clear H'
      try clear c1
      try clear p2
      try clear c3
      try clear c3b0
      try clear c3b1
      try clear c3b2
      obtain ⟨x5_1, rfl, HA, HK1, ⟨m1, rfl⟩⟩ := hrel
      cases gk with
      | zero => exact absurd HA.out (by simp [guidevanebase_Ints.l0])
      | succ k1 =>
        have H := HA.out
        clear HA
        simp only [guidevanebase_Ints.l0] at H
        by_cases c4 : x5_1 < (l0.length : Int)
        · rw [if_pos c4] at H
          have c4b0 : decide (x5_1 < (l0.length : Int)) = true := decide_eq_true c4
          clear c4
          by_cases c5 : 0 ≤ x5_1
          · rw [if_pos c5] at H
            have c5b0 : decide (0 ≤ x5_1) = true := decide_eq_true c5
            clear c5
            by_cases c6 : x5_1 < (l1.length : Int)
            · rw [if_pos c6] at H
              have c6b0 : decide (x5_1 < (l1.length : Int)) = true := decide_eq_true c6
              clear c6
              by_cases c7 : (rd l0 x5_1) = (rd l1 x5_1)
              · rw [if_pos c7] at H
                have c7b0 : ((rd l0 x5_1) == (rd l1 x5_1)) = true := beq_iff_eq.mpr c7
                have c7b1 : ((rd l0 x5_1) != (rd l1 x5_1)) = false := bne_eq_false_iff_eq.mpr c7
                clear c7
                have H' := Aside0.mk H
                clear H
                have p174001 : 0 ≤ (x5_1 : Int) := of_decide_eq_true (by first | (with_reducible assumption) | assumption)
                have q174001 : x5_1 < (l0.length : Int) := of_decide_eq_true (by first | (with_reducible assumption) | assumption)
                obtain ⟨ad174001, e174001, hx174001_0⟩ := Kd.at_int HR0.out x5_1 p174001 q174001
                cases e174001
                replace p174001 := eq_true p174001
                replace q174001 := eq_true q174001
                have p174002 : 0 ≤ (x5_1 : Int) := of_decide_eq_true (by first | (with_reducible assumption) | assumption)
                have q174002 : x5_1 < (l1.length : Int) := of_decide_eq_true (by first | (with_reducible assumption) | assumption)
                obtain ⟨ad174002, e174002, hx174002_0⟩ := Kd.at_int HR1.out x5_1 p174002 q174002
                cases e174002
                replace p174002 := eq_true p174002
                replace q174002 := eq_true q174002
                go_wp2
                repeat (go_quiet (fail); try go_wp2)
                go_roundg k1
                case measure => have := HK1.out; omega
                case rel => exact ⟨(wrap64 (x5_1 + 1)), (by first | rfl | (simp; done) | (simp [*]; done)), H', ⟨by have := HK1.out; omega⟩, by repeat (first | exact Drawn0.refl _ | apply Drawn0.step)⟩
              · rw [if_neg c7] at H
                have c7b0 : ((rd l0 x5_1) == (rd l1 x5_1)) = false := beq_eq_false_iff_ne.mpr c7
                have c7b1 : ((rd l0 x5_1) != (rd l1 x5_1)) = true := bne_iff_ne.mpr c7
                obtain rfl := Option.some.inj H
                have p174001 : 0 ≤ (x5_1 : Int) := of_decide_eq_true (by first | (with_reducible assumption) | assumption)
                have q174001 : x5_1 < (l0.length : Int) := of_decide_eq_true (by first | (with_reducible assumption) | assumption)
                obtain ⟨ad174001, e174001, hx174001_0⟩ := Kd.at_int HR0.out x5_1 p174001 q174001
                cases e174001
                replace p174001 := eq_true p174001
                replace q174001 := eq_true q174001
                have p174002 : 0 ≤ (x5_1 : Int) := of_decide_eq_true (by first | (with_reducible assumption) | assumption)
                have q174002 : x5_1 < (l1.length : Int) := of_decide_eq_true (by first | (with_reducible assumption) | assumption)
                obtain ⟨ad174002, e174002, hx174002_0⟩ := Kd.at_int HR1.out x5_1 p174002 q174002
                cases e174002
                replace p174002 := eq_true p174002
                replace q174002 := eq_true q174002
                go_wp2
                repeat (go_quiet (fail); try go_wp2)
                go_ret
                exact ⟨by first | rfl | (simp; done) | (simp [*]; done), by repeat (first | exact Drawn0.refl _ | apply Drawn0.step)⟩
            · rw [if_neg c6] at H
              exact absurd H (by simp)
          · rw [if_neg c5] at H
            exact absurd H (by simp)
        · rw [if_neg c4] at H
          have c4b0 : decide (x5_1 < (l0.length : Int)) = false := decide_eq_false c4
          clear c4
          obtain rfl := Option.some.inj H
          go_wp2
          repeat (go_quiet (fail); try go_wp2)
          go_ret
          exact ⟨by first | rfl | (simp; done) | (simp [*]; done), by repeat (first | exact Drawn0.refl _ | apply Drawn0.step)⟩
  · rw [if_neg c3] at H
    have c3b0 : ((l0.length : Int) == (l1.length : Int)) = false := beq_eq_false_iff_ne.mpr c3
    have c3b1 : ((l0.length : Int) != (l1.length : Int)) = true := bne_iff_ne.mpr c3
    have c3b2 : (l0.length == l1.length) = false := by first | simpa using c3 | (simp at c3 ⊢; omega)
    obtain rfl := Option.some.inj H
    go_enter Tryz.func58, Tryz.ntmps58
    go_wp2
    repeat (go_quiet (fail); try go_wp2)
    go_ret
    exact ⟨by first | rfl | (simp; done) | (simp [*]; done), by repeat (first | exact Drawn0.refl _ | apply Drawn0.step)⟩
end Go.Proofs.YteopooljohdoiaaGreat.Px
namespace Go.Proofs.YteopooljohdoiaaGreat.Px
open Go.RowKit Go.Proofs.YteopooljohdoiaaGreatW.PrintWords Go.Proofs.YteopooljohdoiaaGreatW.PrintLast Go.Proofs.YteopooljohdoiaaGreatW.PrintMore
attribute [local go_sem] max2_int min2_int max_two min_two max_three min_three max_four min_four
attribute [local go_sem high] eqA44 eqA42 eqA27
def guidevanelaw09_awake.f : Option Bool := some true
theorem awake_fit : dam_FitOf.f 20 [⟨0, 0, 100⟩, ⟨0, 10, 130⟩, ⟨0, -10, 72⟩] 3 = some (30, 3020, 87, 0, 0, 0, 0) := by kernel_rfl
theorem awake_watch : dam_WatchOf.f 20 [50, 100] [30, 80] 2 [⟨⟨#[97, 110, 110]⟩, 2⟩, ⟨⟨#[98, 111, 98]⟩, 1⟩] [60, 20, 10] = some (1, 2, 10, 0) := by kernel_rfl
theorem awake_cover : dam_CoverOf.f 20 [⟨10, 10⟩, ⟨30, 10⟩, ⟨55, 15⟩] [5, 20, 40, 60] = some ([0, 2], 0) := by kernel_rfl
theorem awake_empty : dam_EmptyingOf.f 20 [1000, 500] [300, 100] 2 = some (9, 0) := by kernel_rfl
theorem awake_ints : guidevanebase_Ints.f 20 [0, 2] [0, 2] = some true := by kernel_rfl
set_option maxHeartbeats 8000000 in
set_option maxRecDepth 100000 in
theorem guidevanelaw09_awake.calls (r : Bool) (w : World) (h : guidevanelaw09_awake.f = some r) : Calls Tryz.prog 10 #[] w fun e w' => e = .returned (.bool r) ∧ Below w.heap.size w w' := by
  have hu1 := Tryz.underlying44
  have hu2 := Tryz.underlying42
  have hu3 := Tryz.underlying27
  have hu4 := Tryz.underlying120
  obtain rfl : r = true := (Option.some.inj h).symm
  clear h
  obtain ⟨l, hl⟩ : ∃ l : List S85, l = [⟨0, 0, 100⟩, ⟨0, 10, 130⟩, ⟨0, -10, 72⟩] := ⟨_, rfl⟩
  have HF := Aside0.mk awake_fit
  rw [← hl] at HF
  have HL := Aside0.mk (show guidevanelaw09_Readings.f = some l by rw [hl]; rfl)
  clear hl
  obtain ⟨q1, hq1⟩ : ∃ l : List Int, l = [50, 100] := ⟨_, rfl⟩
  obtain ⟨q2, hq2⟩ : ∃ l : List Int, l = [30, 80] := ⟨_, rfl⟩
  obtain ⟨q3, hq3⟩ : ∃ l : List S62, l = [⟨⟨#[97, 110, 110]⟩, 2⟩, ⟨⟨#[98, 111, 98]⟩, 1⟩] := ⟨_, rfl⟩
  have HW := Aside0.mk awake_watch
  rw [← hq1, ← hq2, ← hq3] at HW
  have HR := Aside0.mk (show guidevanelaw09_Rules.f = some (q1, q2, 2, q3) by rw [hq1, hq2, hq3]; rfl)
  clear hq1 hq2 hq3
  obtain ⟨v1, hv1⟩ : ∃ l : List S176, l = [⟨10, 10⟩, ⟨30, 10⟩, ⟨55, 15⟩] := ⟨_, rfl⟩
  obtain ⟨v2, hv2⟩ : ∃ l : List Int, l = [5, 20, 40, 60] := ⟨_, rfl⟩
  obtain ⟨v3, hv3⟩ : ∃ l : List Int, l = [0, 2] := ⟨_, rfl⟩
  have HV := Aside0.mk awake_cover
  rw [← hv1, ← hv2, ← hv3] at HV
  have HI := Aside0.mk (show guidevanebase_Ints.f 20 v3 [0, 2] = some true by rw [hv3]; exact awake_ints)
  have HA := Aside0.mk (show guidevanelaw09_Valley.f = some (v1, v2) by rw [hv1, hv2]; rfl)
  clear hv1 hv2 hv3
  have HB := Aside0.mk (Below.refl w.heap.size w)
  go_enter Tryz.func10, Tryz.ntmps10
  go_upto_region 2 with (first | (go_at_call 53; refine (guidevanelaw09_Readings.calls _ _ HL.out).mono ?_; rintro e w1 ⟨x1, rfl, hR1, hb1⟩; obtain ⟨A1, c1, e1, hc1, hC1⟩ := Kd.R_reads hR1; subst e1; have HC1 := Aside0.mk (And.intro hc1 hC1); have HB1 := Aside0.mk hb1; clear hb1 hC1 hc1 hR1) | (go_at_call 19; refine (dam_FitOf.calls 20 A1 c1 l 3 30 3020 87 0 0 0 0 _ HC1.out.2 HC1.out.1 HF.out).mono ?_; rintro e w2 ⟨rfl, hb2⟩; have HB2 := Aside0.mk (below_step HB1.out hb2); clear hb2))
  have hfl := blk_new w2 (.cells #[.int .i64 30, .int .i64 3020, .int .i64 87, .int .i64 0, .int .i64 0, .int .i64 0] 44)
  have hb3 := below_alloc HB2.out (.cells #[.int .i64 30, .int .i64 3020, .int .i64 87, .int .i64 0, .int .i64 0, .int .i64 0] 44)
  generalize w2.alloc (.cells #[.int .i64 30, .int .i64 3020, .int .i64 87, .int .i64 0, .int .i64 0, .int .i64 0] 44) = w3 at *
  generalize w2.heap.size = F at *
  have HFL := Aside0.mk hfl
  have HB3 := Aside0.mk hb3
  clear hfl hb3
  go_upto_region 3 with (first | (go_at_call 54; refine (guidevanelaw09_Rules.calls _ _ _ _ _ HR.out).mono ?_; rintro e w4 ⟨y0, y1, y3, rfl, hR1, hR2, hR3, hb4⟩; obtain ⟨A1, c1, e1, hc1, hC1⟩ := Kd.R_reads hR1; subst e1; obtain ⟨A2, c2, e1, hc2, hC2⟩ := Kd.R_reads hR2; subst e1; obtain ⟨A3, c3, e1, hc3, hC3⟩ := Kd.R_reads hR3; subst e1; have HC1 := Aside0.mk (And.intro hc1 hC1); have HC2 := Aside0.mk (And.intro hc2 hC2); have HC3 := Aside0.mk (And.intro hc3 hC3); have HB4 := Aside0.mk (below_step HB3.out hb4); have HFL4 := Aside0.mk (blk_below HFL.out hb4); clear hb4 hC1 hc1 hR1 hC2 hc2 hR2 hC3 hc3 hR3) | (go_at_call 30; refine (dam_WatchOf.calls 20 A1 c1 q1 A2 c2 q2 2 A3 c3 q3 _ _ [60, 20, 10] 1 2 10 0 (w4.alloc (.cells #[.int .i64 60, .int .i64 20, .int .i64 10] 3)) (Kd.C_alloc HC1.out.2 _) HC1.out.1 (Kd.C_alloc HC2.out.2 _) HC2.out.1 (Kd.C_alloc HC3.out.2 _) HC3.out.1 (litC w4 3 [60, 20, 10]) (Nat.le_refl _) HW.out).mono ?_; rintro e w5 ⟨rfl, hb5⟩; have HB5 := Aside0.mk (below_step (below_alloc HB4.out _) hb5); have HFL5 := Aside0.mk (blk_below (blk_alloc HFL4.out _) hb5); clear hb5))
  have hsl := blk_new w5 (.cells #[.int .i64 1, .int .i64 2, .int .i64 10] 27)
  have hfl := blk_alloc HFL5.out (.cells #[.int .i64 1, .int .i64 2, .int .i64 10] 27)
  have hb6 := below_alloc HB5.out (.cells #[.int .i64 1, .int .i64 2, .int .i64 10] 27)
  generalize w5.alloc (.cells #[.int .i64 1, .int .i64 2, .int .i64 10] 27) = w6 at *
  generalize w5.heap.size = G at *
  have HSL := Aside0.mk hsl
  have HFL6 := Aside0.mk hfl
  have HB6 := Aside0.mk hb6
  clear hfl hsl hb6
  go_upto_region 4 with (first | (go_at_call 56; refine (guidevanelaw09_Valley.calls _ _ _ HA.out).mono ?_; rintro e w7 ⟨y0, y1, rfl, hR1, hR2, hb7⟩; obtain ⟨A1, c1, e1, hc1, hC1⟩ := Kd.R_reads hR1; subst e1; obtain ⟨A2, c2, e1, hc2, hC2⟩ := Kd.R_reads hR2; subst e1; have HC1 := Aside0.mk (And.intro hc1 hC1); have HC2 := Aside0.mk (And.intro hc2 hC2); have HB7 := Aside0.mk (below_step HB6.out hb7); have HFL7 := Aside0.mk (blk_below HFL6.out hb7); have HSL7 := Aside0.mk (blk_below HSL.out hb7); clear hb7 hC1 hc1 hR1 hC2 hc2 hR2) | (go_at_call 55; refine (dam_CoverOf.calls 20 A1 c1 v1 A2 c2 v2 v3 0 _ HC1.out.2 HC1.out.1 HC2.out.2 HC2.out.1 HV.out).mono ?_; rintro e w8 ⟨z0, rfl, hR1, hb8⟩; obtain ⟨A8, c8, e1, hc8, hC8⟩ := Kd.R_reads hR1; subst e1; have HC8 := Aside0.mk (And.intro hc8 hC8); have HB8 := Aside0.mk (below_step HB7.out hb8); have HFL8 := Aside0.mk (blk_below HFL7.out hb8); have HSL8 := Aside0.mk (blk_below HSL7.out hb8); clear hb8 hC8 hc8 hR1))
  obtain ⟨we, hwe⟩ : ∃ we, we = (w8.alloc (.cells #[.int .i64 1000, .int .i64 500] 3)).alloc (.cells #[.int .i64 300, .int .i64 100] 3) := ⟨_, rfl⟩
  have hE1 : Kd.C (Kd.int .i64) we (some ⟨w8.heap.size, 0, none⟩) 2 [1000, 500] := by rw [hwe]; exact Kd.C_alloc (litC w8 3 [1000, 500]) _
  have hE2 : Kd.C (Kd.int .i64) we (some ⟨w8.heap.size + 1, 0, none⟩) 2 [300, 100] := by
    have := litC (w8.alloc (.cells #[.int .i64 1000, .int .i64 500] 3)) 3 [300, 100]
    rw [show (w8.alloc (.cells #[.int .i64 1000, .int .i64 500] 3)).heap.size = w8.heap.size + 1 from Array.size_push _] at this
    rw [hwe]; exact this
  have hE3 : Calls Tryz.prog 57 #[.agg #[.slice (some ⟨w8.heap.size, 0, none⟩) 2 2, .slice (some ⟨w8.heap.size + 1, 0, none⟩) 2 2], .int .i64 2] we fun e w' => e = .returned (.tuple #[.int .i64 9, .int .i64 0]) ∧ Below we.heap.size we w' := dam_EmptyingOf.calls 20 (some ⟨w8.heap.size, 0, none⟩) 2 [1000, 500] (some ⟨w8.heap.size + 1, 0, none⟩) 2 [300, 100] 2 9 0 we hE1 (Nat.le_refl _) hE2 (Nat.le_refl _) awake_empty
  have hEb : Below w.heap.size w we := by rw [hwe]; exact below_alloc (below_alloc HB8.out _) _
  have hEf : we.heap[F]? = some (.cells #[.int .i64 30, .int .i64 3020, .int .i64 87, .int .i64 0, .int .i64 0, .int .i64 0] 44 (0, 0)) := by rw [hwe]; exact blk_alloc (blk_alloc HFL8.out _) _
  have hEs : we.heap[G]? = some (.cells #[.int .i64 1, .int .i64 2, .int .i64 10] 27 (0, 0)) := by rw [hwe]; exact blk_alloc (blk_alloc HSL8.out _) _
  have hEc : Kd.C (Kd.int .i64) we A8 v3.length v3 := by rw [hwe]; exact Kd.C_alloc (Kd.C_alloc HC8.out.2 _) _
  rw [hwe] at hE3
  have HE := Aside0.mk hE3
  have HEb := Aside0.mk hEb
  have HEf := Aside0.mk hEf
  have HEs := Aside0.mk hEs
  have HEc := Aside0.mk hEc
  rw [hwe] at HEb HEf HEs HEc
  clear hE1 hE2 hE3 hEb hEf hEs hEc hwe
  go_upto_region 5 with (go_at_call 57; refine HE.out.mono ?_; rintro e w9 ⟨rfl, hb9⟩; have HB9 := Aside0.mk (below_step HEb.out hb9); have HFL9 := Aside0.mk (blk_below HEf.out hb9); have HSL9 := Aside0.mk (blk_below HEs.out hb9); have HC9 := Aside0.mk (Kd.C_below HEc.out hb9); clear hb9)
  have hs0 := (blk_cell HSL9.out 0).trans rfl
  have hs1 := (blk_cell HSL9.out 1).trans rfl
  have hs2 := (blk_cell HSL9.out 2).trans rfl
  have hf0 := (blk_cell HFL9.out 0).trans rfl
  have hf1 := (blk_cell HFL9.out 1).trans rfl
  have hf2 := (blk_cell HFL9.out 2).trans rfl
  have hf3 := (blk_cell HFL9.out 3).trans rfl
  have hf4 := (blk_cell HFL9.out 4).trans rfl
  have hf5 := (blk_cell HFL9.out 5).trans rfl
  have hI : Calls Tryz.prog 58 #[.slice A8 v3.length c8, .slice (some ⟨w9.heap.size, 0, none⟩) 2 2] (w9.alloc (.cells #[.int .i64 0, .int .i64 2] 3)) fun e w' => e = .returned (.bool true) ∧ Drawn0 (w9.alloc (.cells #[.int .i64 0, .int .i64 2] 3)) w' := guidevanebase_Ints.calls 20 A8 c8 v3 (some ⟨w9.heap.size, 0, none⟩) 2 [0, 2] true (w9.alloc (.cells #[.int .i64 0, .int .i64 2] 3)) (Kd.C_alloc HC9.out _) HC8.out.1 (litC w9 3 [0, 2]) (Nat.le_refl _) HI.out
  have HN := Aside0.mk hI
  clear hI
  go_wp2_with (go_at_call 58; refine HN.out.mono ?_; rintro e w10 ⟨rfl, hd⟩; have HB10 := Aside0.mk (below_step (below_alloc HB9.out (.cells #[.int .i64 0, .int .i64 2] 3)) hd.below); clear hd)
  go_ret
  exact ⟨rfl, HB10.out⟩
end Go.Proofs.YteopooljohdoiaaGreat.Px
namespace Go.Proofs.YteopooljohdoiaaGreat.Px
open Go.RowKit Go.Proofs.YteopooljohdoiaaGreatW.PrintWords Go.Proofs.YteopooljohdoiaaGreatW.PrintLast Go.Proofs.YteopooljohdoiaaGreatW.PrintMore
attribute [local go_sem] max2_int min2_int max_two min_two max_three min_three max_four min_four
def guidevanebase_Within.f (a0 : Int) (a1 : Int) (a2 : Int) : Option (Bool) := if a1 ≤ a0 then (some (decide (a0 ≤ a2))) else (some false)
set_option maxHeartbeats 8000000 in
set_option maxRecDepth 100000 in
theorem guidevanebase_Within.calls (a0 : Int) (a1 : Int) (a2 : Int) (r : Bool) (w : World) (h : guidevanebase_Within.f a0 a1 a2 = some r) :
    Calls Tryz.prog 29 #[.int .i64 a0, .int .i64 a1, .int .i64 a2] w fun e w' => e = .returned (.bool r) ∧ Drawn0 w w' := by
  have H : (if a1 ≤ a0 then (some (decide (a0 ≤ a2))) else (some false)) = some r := h
  clear h
  by_cases c4 : a1 ≤ a0
  · rw [if_pos c4] at H
    have c4b0 : decide (a1 ≤ a0) = true := decide_eq_true c4
    clear c4
    obtain rfl := Option.some.inj H
    go_enter Tryz.func29, Tryz.ntmps29
    go_wp2
    go_ret
    exact ⟨by first | rfl | (simp; done) | (simp [*]; done), by repeat (first | exact Drawn0.refl _ | apply Drawn0.step)⟩
  · rw [if_neg c4] at H
    have c4b0 : decide (a1 ≤ a0) = false := decide_eq_false c4
    clear c4
    obtain rfl := Option.some.inj H
    go_enter Tryz.func29, Tryz.ntmps29
    go_wp2
    go_ret
    exact ⟨by first | rfl | (simp; done) | (simp [*]; done), by repeat (first | exact Drawn0.refl _ | apply Drawn0.step)⟩
def guidevanebase_CopyInts.f (l0 : List Int) : Option (List Int) := (some (([] : List Int) : List Int)).bind fun y93001 => (if y93001.length + l0.length < 17592186044416 then (some (y93001 ++ l0)) else (none))
set_option maxHeartbeats 8000000 in
set_option maxRecDepth 100000 in
theorem guidevanebase_CopyInts.calls (A0 : Option Addr) (c0 : Nat) (l0 : List Int) (r : List Int) (w : World) (hr0 : Kd.C (Kd.int .i64) w A0 l0.length l0) (hc0 : l0.length ≤ c0) (h : guidevanebase_CopyInts.f l0 = some r) :
    Calls Tryz.prog 31 #[.slice A0 l0.length c0] w fun e w' => ∃ v0_ : Value, e = .returned (v0_) ∧ Kd.R (Kd.int .i64) 3 w' w.heap.size (fun _ => True) v0_ r ∧ Below w.heap.size w w' := by
  have HR0 := Aside0.mk hr0
  have HC0 := Aside0.mk hc0
  clear hr0 hc0
  have HB := Aside0.mk (Below.refl w.heap.size w)
  have H : ((some (([] : List Int) : List Int)).bind fun y93001 => (if y93001.length + l0.length < 17592186044416 then (some (y93001 ++ l0)) else (none))) = some r := h
  clear h
  obtain ⟨y93001, hy93001⟩ : ∃ y_ : List Int, y_ = (([] : List Int)) := ⟨_, rfl⟩
  replace H : (if y93001.length + l0.length < 17592186044416 then (some (y93001 ++ l0)) else (none)) = some r := by first | (rw [hy93001]; with_reducible exact H) | (have H2_ := (Option.bind_some _ _).symm.trans H; rw [hy93001]; with_reducible exact H2_) | (have H2_ := (Option.bind_some _ _).symm.trans H; with_reducible exact H2_) | with_reducible exact H | (rw [hy93001]; exact H) | exact H
  have Ny93001 := Aside0.mk hy93001
  clear hy93001
  by_cases c2 : y93001.length + l0.length < 17592186044416
  · rw [if_pos c2] at H
    have LMc2 := Aside0.mk c2
    clear c2
    obtain ⟨y93004, hy93004⟩ : ∃ y_ : List Int, y_ = (y93001 ++ l0) := ⟨_, rfl⟩
    replace H : (some y93004) = some r := by first | (rw [hy93004]; with_reducible exact H) | (have H2_ := (Option.bind_some _ _).symm.trans H; rw [hy93004]; with_reducible exact H2_) | (have H2_ := (Option.bind_some _ _).symm.trans H; with_reducible exact H2_) | with_reducible exact H | (rw [hy93004]; exact H) | exact H
    have Ny93004 := Aside0.mk hy93004
    clear hy93004
    obtain rfl := Option.some.inj H
    go_enter Tryz.func31, Tryz.ntmps31
    go_wp2_with (first | ((with_reducible refine gate_dst (N := 3) rfl ?_); refine Kd.R_lit (Kd.int .i64) _ 3 ?hg (N := 3) ?hd (xs := ([] : List Int)) (inner := []) (ok := fun _ => True) (okp := fun _ => True) ?hr ?hp (fun _ hk => hk) trivial (Below.refl _ _) (Nat.le_refl _) (by simp) ?_; (case hd => rfl); (case hg => rfl); (case hr => first | (go_simp; done) | (go_simp; rfl)); (case hp => exact (Reps.none _ _)); intro v93002 w3 ho4 hb hg_ hnew_; clear hg_ hnew_; (first | rw [← Ny93001.out] at ho4 | (simp only [Int.reduceToNat] at ho4; rw [← Ny93001.out] at ho4)); have n0_ := Aside0.mk (Kd.R_lower ho4 (below_size (by repeat (first | (with_reducible first | exact HB.out | apply below_alloc | apply pw_below_drewN | apply below_drew1) | exact HB.out)))); have n1_ := Aside0.mk (below_step (by repeat (first | (with_reducible first | exact HB.out | apply below_alloc | apply pw_below_drewN | apply below_drew1) | exact HB.out)) hb); clear HB; have HO93003 := n0_; have HB := n1_; clear n0_ n1_; clear hb ho4) | ((with_reducible refine gate_builtin (b := .append) (xs := #[.tmp 3, .tmp 4]) rfl ?_); at_builtin; refine Kd.R_append_rows (Kd.int .i64) (w0 := w) w.heap.size rfl (.tmp 3) (.tmp 4) 22 3 (.int .i64 0) 8 rfl Tryz.underlying22 info3 rfl (by decide) (by omega) v93002 y93001 l0 _ _ _ (fun _ => True) (fun _ => False) rfl rfl ?aO ?aR (fun _ _ h => h) (fun _ h => h.elim) ?aF ?aB ?aS ?aL ?_; (case aR => repeat (first | exact (Kd.C_below HR0.out HB.out) | (with_reducible refine Kd.C_alloc ?_ _) | (with_reducible refine Kd.C_drewN ?_ _) | (with_reducible refine Kd.C_drew ?_))); (case aB => exact (by repeat (first | (with_reducible first | exact HB.out | apply below_alloc | apply pw_below_drewN | apply below_drew1) | exact HB.out))); (case aF => exact (fun _ _ => trivial)); (case aO => exact (by (with_reducible repeat (first | apply Kd.R_alloc | apply Kd.R_drewN | apply Kd.R_drew)); exact HO93003.out)); (case aS => exact (below_size (by repeat (first | (with_reducible first | exact HB.out | apply below_alloc | apply pw_below_drewN | apply below_drew1) | exact HB.out)))); (case aL => have := LMc2.out; omega); intro v93005 w5 ho hb hg hat; rw [← Ny93004.out] at ho; have n0_ := Aside0.mk (hb); have n1_ := Aside0.mk (ho); clear HB; clear HO93003; have HB := n0_; have HO93006 := n1_; clear n0_ n1_; clear ho hb hg hat))
    go_ret
    exact ⟨_, by first | rfl | (simp [errW_none, errW_some] <;> rfl) | (simp [*, errW_none, errW_some] <;> rfl), by (with_reducible repeat (first | apply Kd.R_alloc | apply Kd.R_drewN | apply Kd.R_drew)); exact HO93006.out, by repeat (first | (with_reducible first | exact HB.out | apply below_alloc | apply pw_below_drewN | apply below_drew1) | exact HB.out)⟩
  · rw [if_neg c2] at H
    exact absurd H (by simp)
end Go.Proofs.YteopooljohdoiaaGreat.Px
namespace Go.Proofs.YteopooljohdoiaaGreat.Px
open Go.RowKit Go.Proofs.YteopooljohdoiaaGreatW.PrintWords Go.Proofs.YteopooljohdoiaaGreatW.PrintLast
theorem dwithin_f (a b c : Int) : dam_within.f a b c = some (decide (b ≤ a) && decide (a ≤ c)) := by
  unfold dam_within.f
  by_cases h : b ≤ a <;> simp [h]
theorem bwithin_f (a b c : Int) : guidevanebase_Within.f a b c = some (decide (b ≤ a) && decide (a ≤ c)) := by
  unfold guidevanebase_Within.f
  by_cases h : b ≤ a <;> simp [h]
theorem dunless_f (b : Bool) (e : Int) : dam_unless.f b e = some (if b = true then 0 else e) := by cases b <;> rfl
theorem pw64 {n : Int} (h0 : -9223372036854775808 ≤ n) (h1 : n ≤ 9223372036854775807) : wrap64 n = n := by unfold wrap64; omega
def firstE : List Int → Int
  | [] => 0
  | x :: xs => if x = 0 then firstE xs else x
theorem dfirst_go (l : List Int) (hl : l.length ≤ 1000) : ∀ (d i k : Nat), i + d = l.length → d < k → dam_first.l0 k l (l.length : Int) (i : Int) = some (firstE (l.drop i)) := by
  intro d
  induction d with
  | zero =>
    intro i k hi hk
    obtain ⟨k, rfl⟩ : ∃ m, k = m + 1 := ⟨k - 1, by omega⟩
    obtain rfl : i = l.length := by omega
    simp only [dam_first.l0]
    rw [if_neg (by omega), List.drop_length]; rfl
  | succ d ih =>
    intro i k hi hk
    obtain ⟨k, rfl⟩ : ∃ m, k = m + 1 := ⟨k - 1, by omega⟩
    have hlt : i < l.length := by omega
    simp only [dam_first.l0]
    rw [if_pos (by omega), if_pos (by omega), if_pos (by omega)]
    have hr : rd l (i : Int) = l[i] := by unfold rd; rw [Int.toNat_natCast, List.getD_eq_getElem?_getD, List.getElem?_eq_getElem hlt]; rfl
    rw [hr, List.drop_eq_getElem_cons hlt]
    by_cases h : l[i] = 0
    · rw [if_pos h, pw64 (by omega) (by omega), show ((i : Int) + 1) = ((i + 1 : Nat) : Int) from rfl, ih (i + 1) k (by omega) (by omega)]
      simp [firstE, h]
    · rw [if_neg h]
      simp [firstE, h]
theorem dfirst_f (l : List Int) (k : Nat) (hl : l.length ≤ 1000) (hk : l.length < k) : dam_first.f k l = some (firstE l) := by
  unfold dam_first.f
  exact dfirst_go l hl l.length 0 k (by omega) hk
def firstAt (p : Nat → Bool) (e : Int) : Nat → Nat → Int × Int
  | _, 0 => (0, 0)
  | i, d + 1 => if p i = true then ((i : Int), e) else firstAt p e (i + 1) d
theorem firstAt_err (p : Nat → Bool) (e : Int) (he : ¬ e = 0) : ∀ (d i : Nat), ((firstAt p e i d).2 = 0 ∧ (∀ j, i ≤ j → j < i + d → p j = false)) ∨ (firstAt p e i d).2 = e
  | 0, i => .inl ⟨rfl, fun j h1 h2 => by omega⟩
  | d + 1, i => by
    unfold firstAt
    by_cases h : p i = true
    · rw [if_pos h]; exact .inr rfl
    · rw [if_neg h]
      rcases firstAt_err p e he d (i + 1) with ⟨h1, h2⟩ | h1
      · refine .inl ⟨h1, fun j hj1 hj2 => ?_⟩
        by_cases hj : j = i
        · subst hj; simpa using h
        · exact h2 j (by omega) (by omega)
      · exact .inr h1
theorem rd_nat (l : List Int) (i : Nat) : rd l (i : Int) = l.getD i 0 := by unfold rd; rw [Int.toNat_natCast]
theorem copyInts_f (l : List Int) (h : l.length < 17592186044416) : guidevanebase_CopyInts.f l = some l := by
  unfold guidevanebase_CopyInts.f
  simp only [Option.bind_some]
  rw [if_pos (by simpa using h)]
  rfl
end Go.Proofs.YteopooljohdoiaaGreat.Px
namespace Go.Proofs.YteopooljohdoiaaGreat.Px
open Go.RowKit Go.Proofs.YteopooljohdoiaaGreatW.PrintWords
def Opens {α : Type} (P : Program) (d : Kd α) (t : TypeId) (ok : α → Prop) : Prop :=
  ∀ {H : Type} (enc : TypeId × Value → H) (w : World) (fuel : Nat) (cs : List Value) (x : DataW H × List MemPlace), DataW.trod enc P w 0 (fun _ => true) true fuel t cs = some x → ∃ y, d.K w y cs ∧ ok y
theorem Opens.int {P : Program} {t : TypeId} {k : IntKind} (ht : P.underlying t = some (.int k)) : Opens P (Kd.int k) t (fun y => (Lit.int k y).wf = true) := by
  intro H enc w fuel cs x h
  cases fuel with
  | zero => simp [DataW.trod] at h
  | succ n =>
    unfold DataW.trod at h
    rw [ht] at h
    split at h <;> simp_all
    exact ⟨_, rfl, h.1.2⟩
theorem Opens.str {P : Program} {t : TypeId} (ht : P.underlying t = some .string) : Opens P Kd.string t (fun y => y.size ≤ maxLen) := by
  intro H enc w fuel cs x h
  cases fuel with
  | zero => simp [DataW.trod] at h
  | succ n =>
    unfold DataW.trod at h
    rw [ht] at h
    split at h <;> simp_all
    exact ⟨_, rfl, h.1⟩
theorem cells?_at {w : World} {a : Addr} {n : Nat} {cs : List Value} (h : w.cells? 0 a n = some cs) : cs.length = n ∧ ∀ i u, cs[i]? = some u → w.cell? (a.add i) = some u := by
  unfold World.cells? at h
  rw [if_pos (Nat.zero_le _)] at h
  have hl := mapM_some_length h
  refine ⟨by simpa using hl, fun i u hu => ?_⟩
  have hi : i < cs.length := (List.getElem?_eq_some_iff.1 hu).1
  have hl' : cs.length = n := by simpa using hl
  have hr : (List.range n)[i]? = some i := by rw [List.getElem?_range (by omega)]
  have := mapM_some_get h i i hr
  rw [this, hu]
theorem list_of {α : Type} (n : Nat) (p : Nat → α → Prop) (key : ∀ i, i < n → ∃ y, p i y) : ∃ ys : List α, ys.length = n ∧ ∀ i y, ys[i]? = some y → p i y := by
  induction n with
  | zero => exact ⟨[], rfl, by simp⟩
  | succ n ih =>
    obtain ⟨ys, hlen, hys⟩ := ih (fun i hi => key i (by omega))
    obtain ⟨y, hy⟩ := key n (by omega)
    refine ⟨ys ++ [y], by simp [hlen], fun i z hz => ?_⟩
    rcases Nat.lt_or_ge i ys.length with hi | hi
    · rw [List.getElem?_append_left hi] at hz
      exact hys i z hz
    · have : i = n := by
        have := (List.getElem?_eq_some_iff.1 hz).1
        simp at this
        omega
      subst this
      rw [← hlen] at hz
      simp at hz
      subst hz
      exact hlen ▸ hy
theorem Opens.slice {α : Type} {P : Program} {d : Kd α} {t e : TypeId} {ok : α → Prop} (ht : P.underlying t = some (.slice e)) (hsz : P.cellsOf e = d.sz) (he : Opens P d e ok) :
    Opens P (Kd.slice e d) t (fun ys => ys.length ≤ maxLen ∧ ∀ y ∈ ys, ok y) := by
  intro H enc w fuel cs x h
  rcases Go.Deep.open_slice ht h with ⟨rfl, _⟩ | ⟨a, len, cap, m, n, D, Pl, rfl, _, hl, hm, hmm, hx_, hel⟩
  · exact ⟨[], ⟨none, 0, rfl, Nat.le_refl _, Kd.C_nil _ _⟩, by simp⟩
  · have hmc : m = cap := by simpa using hmm
    have key : ∀ i, i < len → ∃ y, (∃ c, c.length = d.sz ∧ d.K w y c ∧ ∀ j u, c[j]? = some u → w.cell? ((a.add (i * d.sz)).add j) = some u) ∧ ok y := by
      intro i hi
      obtain ⟨cs', hc, ht'⟩ := hel i (by omega)
      rw [hsz] at hc
      obtain ⟨h1, h2⟩ := cells?_at hc
      obtain ⟨y, hK, hy⟩ := he enc w _ _ _ ht'
      exact ⟨y, ⟨cs', h1, hK, h2⟩, hy⟩
    obtain ⟨ys, hlen, hys⟩ := list_of len _ key
    refine ⟨ys, ⟨some a, cap, by rw [hlen], by omega, rfl, by simp only [maxLen] at hm; omega, fun _ => ⟨a, rfl, fun j p hp => ?_⟩⟩, by omega, fun y hy => ?_⟩
    · obtain ⟨⟨c, h1, h2, h3⟩, _⟩ := hys j p hp
      exact ⟨c, h1, h2, fun i u hu => by rw [← Go.Deep.add_add]; exact h3 i u hu⟩
    · obtain ⟨i, hi, rfl⟩ := List.getElem_of_mem hy
      exact (hys i _ (List.getElem?_eq_getElem hi)).2
def OpensL {α : Type} (P : Program) (d : Kd α) (ts : List TypeId) (ok : α → Prop) : Prop :=
  ∀ {H : Type} (enc : TypeId × Value → H) (w : World) (fuel : Nat) (cs : List Value), cs.length = (ts.map P.cellsOf).sum →
    (∀ i t, ts[i]? = some t → ∃ x, DataW.trod enc P w 0 (fun _ => true) true fuel t ((cs.drop ((ts.take i).map P.cellsOf).sum).take (P.cellsOf t)) = some x) → ∃ y, d.K w y cs ∧ ok y
theorem OpensL.one {α : Type} {P : Program} {d : Kd α} {t : TypeId} {ok : α → Prop} (h : Opens P d t ok) : OpensL P d [t] ok := by
  intro H enc w fuel cs hl hx
  obtain ⟨x, hx⟩ := hx 0 t rfl
  have : cs.take (P.cellsOf t) = cs := List.take_of_length_le (by simp at hl; omega)
  simp only [List.take_zero, List.map_nil, List.sum_nil, List.drop_zero, this] at hx
  exact h enc w fuel cs x hx
theorem OpensL.cons {α β : Type} {P : Program} {d : Kd α} {d2 : Kd β} {t : TypeId} {ts : List TypeId} {ok : α → Prop} {ok2 : β → Prop} (h : Opens P d t ok) (h2 : OpensL P d2 ts ok2) :
    OpensL P (Kd.pair d d2) (t :: ts) (fun y => ok y.1 ∧ ok2 y.2) := by
  intro H enc w fuel cs hl hx
  have hl' : cs.length = P.cellsOf t + (ts.map P.cellsOf).sum := by simpa using hl
  obtain ⟨x, h0⟩ := hx 0 t rfl
  simp only [List.take_zero, List.map_nil, List.sum_nil, List.drop_zero] at h0
  obtain ⟨y, hK, hy⟩ := h enc w fuel _ x h0
  obtain ⟨z, hK2, hz⟩ := h2 enc w fuel (cs.drop (P.cellsOf t)) (by simp; omega) (fun i u hu => by
    obtain ⟨x, h1⟩ := hx (i + 1) u (by simpa using hu)
    refine ⟨x, ?_⟩
    rw [List.drop_drop]
    simpa using h1)
  exact ⟨(y, z), ⟨cs.take (P.cellsOf t), cs.drop (P.cellsOf t), (List.take_append_drop _ _).symm, hK, hK2⟩, hy, hz⟩
theorem Opens.struct {α : Type} {P : Program} {d : Kd α} {t : TypeId} {fs : Array Field} {ok : α → Prop} (ht : P.underlying t = some (.struct fs)) (hc : P.cellsOf t = ((fs.toList.map (·.type)).map P.cellsOf).sum)
    (ho : ∀ i f, fs[i]? = some f → f.offset = (((fs.toList.map (·.type)).take i).map P.cellsOf).sum) (h : OpensL P d (fs.toList.map (·.type)) ok) : Opens P d t ok := by
  intro H enc w fuel cs x hx
  obtain ⟨xs, n, rfl, rfl, hl, hxl, hf⟩ := DataW.trod_struct ht hx
  refine h enc w n cs (by rw [hl, hc]) (fun i u hu => ?_)
  simp only [List.getElem?_map, Option.map_eq_some_iff] at hu
  obtain ⟨f, hfi, rfl⟩ := hu
  have hfi' : fs[i]? = some f := by simpa using hfi
  have := hf i f hfi'
  rw [ho i f hfi'] at this
  have hi : i < xs.length := by
    have := (Array.getElem?_eq_some_iff.1 hfi').1
    omega
  exact ⟨xs[i], by rw [this, List.getElem?_eq_getElem hi]⟩
theorem Opens.iso {α β : Type} {P : Program} {d : Kd α} {t : TypeId} {ok : α → Prop} (h : Opens P d t ok) (f : β → α) (g : α → β) (hfg : ∀ x, f (g x) = x) : Opens P (Kd.iso d f) t (fun y => ok (f y)) := by
  intro H enc w fuel cs x hx
  obtain ⟨y, hK, hy⟩ := h enc w fuel cs x hx
  exact ⟨g y, by show d.K w (f (g y)) cs; rw [hfg]; exact hK, by show ok (f (g y)); rw [hfg]; exact hy⟩
end Go.Proofs.YteopooljohdoiaaGreat.Px
