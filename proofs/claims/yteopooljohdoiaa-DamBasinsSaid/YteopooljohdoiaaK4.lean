/- Contracts of the program's functions and plain words (part 4): each says what a call answers and that what lay in memory lies; no condition but what stands in each theorem -/
import Derived.Test.YteopooljohdoiaaK1
import Derived.Test.YteopooljohdoiaaK3
import Derived.Test.YteopooljohdoiaaK2
import Derived.Test.YteopooljohdoiaaWWords
import Derived.Test.YteopooljohdoiaaWLast
import Derived.ProofKit
import Derived.Deep.Slices
namespace Go.Proofs.Yteopooljohdoiaa.Px
open Go.RowKit Go.Proofs.YteopooljohdoiaaW.PrintWords Go.Proofs.YteopooljohdoiaaW.PrintLast Go.Proofs.YteopooljohdoiaaW.PrintMore
attribute [local go_sem] max2_int min2_int max_two min_two max_three min_three max_four min_four   -- for this text's walks alone
set_option linter.unusedVariables false
set_option linter.unusedSimpArgs false

/-! ### dam_WatchOf: function 47 (by hand) -/
set_option maxHeartbeats 8000000 in
set_option maxRecDepth 100000 in
theorem open_c (A0_0 : Option Addr) (c0_0 : Nat) (l0_0 : List Int) (A0_1 : Option Addr) (c0_1 : Nat) (l0_1 : List Int) (a0_2 : Int) (A0_3 : Option Addr) (c0_3 : Nat) (l0_3 : List S135) (r1 : Int) (r2 : Int) (w : World) (hr0_0 : Kd.C (Kd.int .i64) w A0_0 l0_0.length l0_0) (hc0_0 : l0_0.length ≤ c0_0) (hr0_1 : Kd.C (Kd.int .i64) w A0_1 l0_1.length l0_1) (hc0_1 : l0_1.length ≤ c0_1) (hr0_3 : Kd.C k135 w A0_3 l0_3.length l0_3) (hc0_3 : l0_3.length ≤ c0_3) (h : dam_CheckRules.f l0_0 l0_1 a0_2 l0_3 = some (r1, r2)) :
    Calls Try.prog 90 #[.agg #[.slice A0_0 l0_0.length c0_0, .slice A0_1 l0_1.length c0_1, .int .i64 a0_2, .slice A0_3 l0_3.length c0_3]] w fun e w' => e = .returned (.tuple #[.agg #[.slice A0_0 l0_0.length c0_0, .slice A0_1 l0_1.length c0_1, .int .i64 a0_2, .slice A0_3 l0_3.length c0_3], .int .i64 r2]) ∧ Below w.heap.size w w' := by
  have hu := Try.underlying85
  have hu2 := Try.underlying137
  have HR0 := Aside0.mk hr0_0
  have HR1 := Aside0.mk hr0_1
  have HR3 := Aside0.mk hr0_3
  have HC := Aside0.mk (And.intro hc0_0 (And.intro hc0_1 hc0_3))
  have H := Aside0.mk h
  clear hr0_0 hr0_1 hr0_3 hc0_0 hc0_1 hc0_3 h
  go_enter Try.func90, Try.ntmps90
  go_upto_region 1 with fail
  have hbl := blk_alloc (blk_new w (.cells #[.slice A0_0 l0_0.length c0_0, .slice A0_1 l0_1.length c0_1, .int .i64 a0_2, .slice A0_3 l0_3.length c0_3] 85)) (.cells #[.slice none 0 0, .slice none 0 0, .int .i64 0, .slice none 0 0] 137)
  have hrl := blk_new (w.alloc (.cells #[.slice A0_0 l0_0.length c0_0, .slice A0_1 l0_1.length c0_1, .int .i64 a0_2, .slice A0_3 l0_3.length c0_3] 85)) (.cells #[.slice none 0 0, .slice none 0 0, .int .i64 0, .slice none 0 0] 137)
  rw [show (w.alloc (.cells #[.slice A0_0 l0_0.length c0_0, .slice A0_1 l0_1.length c0_1, .int .i64 a0_2, .slice A0_3 l0_3.length c0_3] 85)).heap.size = w.heap.size + 1 from Array.size_push _] at hrl
  have hb1 := below_alloc (below_alloc (Below.refl _ w) (.cells #[.slice A0_0 l0_0.length c0_0, .slice A0_1 l0_1.length c0_1, .int .i64 a0_2, .slice A0_3 l0_3.length c0_3] 85)) (.cells #[.slice none 0 0, .slice none 0 0, .int .i64 0, .slice none 0 0] 137)
  generalize (w.alloc (.cells #[.slice A0_0 l0_0.length c0_0, .slice A0_1 l0_1.length c0_1, .int .i64 a0_2, .slice A0_3 l0_3.length c0_3] 85)).alloc (.cells #[.slice none 0 0, .slice none 0 0, .int .i64 0, .slice none 0 0] 137) = w1 at *
  have hx0 := (blk_cell hbl 0).trans rfl
  have hx1 := (blk_cell hbl 1).trans rfl
  have hx2 := (blk_cell hbl 2).trans rfl
  have hx3 := (blk_cell hbl 3).trans rfl
  have HBL := Aside0.mk hbl
  have HRL := Aside0.mk hrl
  have HB1 := Aside0.mk hb1
  clear hbl hrl hb1
  go_upto_region 2 with (go_at_call 53; refine (dam_CheckRules.calls A0_0 c0_0 l0_0 A0_1 c0_1 l0_1 a0_2 A0_3 c0_3 l0_3 r1 r2 _ (Kd.C_below HR0.out HB1.out) HC.out.1 (Kd.C_below HR1.out HB1.out) HC.out.2.1 (Kd.C_below HR3.out HB1.out) HC.out.2.2 H.out).mono ?_; rintro e w2 ⟨rfl, hb2⟩; have HB2 := Aside0.mk hb2; clear hb2)
  clear hx0 hx1 hx2 hx3
  have hbl := blk_below HBL.out HB2.out
  have hrl := blk_below HRL.out HB2.out
  have hx0 := (blk_cell hbl 0).trans rfl
  have hx1 := (blk_cell hbl 1).trans rfl
  have hx2 := (blk_cell hbl 2).trans rfl
  have hx3 := (blk_cell hbl 3).trans rfl
  have hy0 := (blk_cell hrl 0).trans rfl
  have hy1 := (blk_cell hrl 1).trans rfl
  have hy2 := (blk_cell hrl 2).trans rfl
  have hy3 := (blk_cell hrl 3).trans rfl
  have hf0 := blk_frozen hrl 0
  have hf1 := blk_frozen hrl 1
  have hf2 := blk_frozen hrl 2
  have hf3 := blk_frozen hrl 3
  clear hbl hrl
  go_wp2
  have hrl := blk_below HRL.out HB2.out
  refine bodyPost_ret (results_ct rfl _ _ (w.heap.size + 1) 137 #[.slice A0_0 l0_0.length c0_0, .slice A0_1 l0_1.length c0_1, .int .i64 a0_2, .slice A0_3 l0_3.length c0_3] (0, 0) _ rfl (blk_put (blk_put (blk_put (blk_put hrl 0 _ rfl) 1 _ rfl) 2 _ rfl) 3 _ rfl) Try.underlying137 (by rfl) (by rfl)) rfl ⟨rfl, ?_⟩
  exact below_set (below_set (below_set (below_set (below_step HB1.out HB2.out) (Nat.le_succ _)) (Nat.le_succ _)) (Nat.le_succ _)) (Nat.le_succ _)
def isDev (n : Int) : Bool := decide (0 ≤ n) && decide (n ≤ 1000000)
theorem dev_f (n : Int) : dam_isDeviation.f n = some (isDev n) := by
  unfold dam_isDeviation.f
  rw [within_f]
  rfl
set_option maxHeartbeats 8000000 in
set_option maxRecDepth 100000 in
theorem watchOf1_calls (n : Int) (w : World) : Calls Try.prog 92 #[.int .i64 n] w fun e w' => e = .returned (.bool (!isDev n)) ∧ Below w.heap.size w w' := by
  have H := Aside0.mk (dev_f n)
  obtain ⟨b, hb⟩ : ∃ b, b = isDev n := ⟨_, rfl⟩
  rw [← hb] at H
  rw [← hb]
  clear hb
  go_enter Try.func92, Try.ntmps92
  go_wp2_with (go_at_call 93; refine (dam_isDeviation.calls _ _ _ H.out).mono ?_; rintro e w' ⟨rfl, hb⟩; have HB := Aside0.mk hb.below; clear hb)
  go_ret
  exact ⟨rfl, HB.out⟩
def watchAll (k : Nat) (l0_0 l0_1 : List Int) (a0_2 : Int) (l0_3 : List S135) : Int → Int → Int → List Int → Option (Int × Int × Int)
  | a, b, c, [] => some (a, b, c)
  | a, b, c, x :: xs => (dam_rules_watched.f k l0_0 l0_1 a0_2 l0_3 a b c x).bind fun t => watchAll k l0_0 l0_1 a0_2 l0_3 t.1 t.2.1 t.2.2 xs
def watchErr (e : Int) (l1 : List Int) : Int := firstI [e, unlessI (decide ((l1.length : Int) ≤ 100)) 8, unlessI (!(l1.any fun n => !isDev n)) 2]
def dam_WatchOf.f (k : Nat) (l0_0 : List Int) (l0_1 : List Int) (a0_2 : Int) (l0_3 : List S135) (l1 : List Int) : Option (Int × Int × Int × Int) :=
  (dam_CheckRules.f l0_0 l0_1 a0_2 l0_3).bind fun c =>
    if watchErr c.2 l1 = 0 then (watchAll k l0_0 l0_1 a0_2 l0_3 0 0 0 l1).bind fun s => some (s.1, s.2.1, s.2.2, 0) else some (0, 0, 0, watchErr c.2 l1)
theorem watchAll_mono (l0_0 l0_1 : List Int) (a0_2 : Int) (l0_3 : List S135) (k : Nat) : ∀ (xs : List Int) (a b c : Int), LeO (watchAll k l0_0 l0_1 a0_2 l0_3 a b c xs) (watchAll (k + 1) l0_0 l0_1 a0_2 l0_3 a b c xs)
  | [], _, _, _ => LeO.refl _
  | x :: xs, _, _, _ => LeO.bind (dam_rules_watched.mono _ _ _ _ _ _ _ _ _) fun _ => watchAll_mono l0_0 l0_1 a0_2 l0_3 k xs _ _ _
theorem dam_WatchOf.mono : ∀ a0 a1 a2 a3 a4 k, LeO (dam_WatchOf.f k a0 a1 a2 a3 a4) (dam_WatchOf.f (k + 1) a0 a1 a2 a3 a4) := by
  intro a0 a1 a2 a3 a4 k
  unfold dam_WatchOf.f
  exact LeO.bind (LeO.refl _) fun _ => LeO.ite (LeO.bind (watchAll_mono _ _ _ _ _ _ _ _ _) fun _ => LeO.refl _) (LeO.refl _)
set_option maxHeartbeats 8000000 in
set_option maxRecDepth 100000 in
theorem dam_WatchOf.calls (k : Nat) (A0_0 : Option Addr) (c0_0 : Nat) (l0_0 : List Int) (A0_1 : Option Addr) (c0_1 : Nat) (l0_1 : List Int) (a0_2 : Int) (A0_3 : Option Addr) (c0_3 : Nat) (l0_3 : List S135) (A1 : Option Addr) (c1 : Nat) (l1 : List Int) (r1 : Int) (r2 : Int) (r3 : Int) (r4 : Int) (w : World) (hr0_0 : Kd.C (Kd.int .i64) w A0_0 l0_0.length l0_0) (hc0_0 : l0_0.length ≤ c0_0) (hr0_1 : Kd.C (Kd.int .i64) w A0_1 l0_1.length l0_1) (hc0_1 : l0_1.length ≤ c0_1) (hr0_3 : Kd.C k135 w A0_3 l0_3.length l0_3) (hc0_3 : l0_3.length ≤ c0_3) (hr1 : Kd.C (Kd.int .i64) w A1 l1.length l1) (hc1 : l1.length ≤ c1) (h : dam_WatchOf.f k l0_0 l0_1 a0_2 l0_3 l1 = some (r1, r2, r3, r4)) :
    Calls Try.prog 47 #[.agg #[.slice A0_0 l0_0.length c0_0, .slice A0_1 l0_1.length c0_1, .int .i64 a0_2, .slice A0_3 l0_3.length c0_3], .slice A1 l1.length c1] w fun e w' => e = .returned (.tuple #[.agg #[.int .i64 r1, .int .i64 r2, .int .i64 r3], .int .i64 r4]) ∧ Below w.heap.size w w' := by
  have hu := Try.underlying85
  have hu2 := Try.underlying137
  have hu3 := Try.underlying88
  have HR0 := Aside0.mk hr0_0
  have HR1 := Aside0.mk hr0_1
  have HR3 := Aside0.mk hr0_3
  have HL := Aside0.mk hr1
  have HC := Aside0.mk (And.intro hc0_0 (And.intro hc0_1 hc0_3))
  have hm1 : l1.length ≤ 9223372036854775807 := hr1.2.1
  clear hr0_0 hr0_1 hr0_3 hc0_0 hc0_1 hc0_3 hr1 hc1
  unfold dam_WatchOf.f at h
  replace h := Option.bind_eq_some_iff.mp h
  obtain ⟨⟨c1', e1⟩, hck, h⟩ := h
  have H := Aside0.mk hck
  obtain ⟨es, hes⟩ : ∃ es, es = watchErr e1 l1 := ⟨_, rfl⟩
  rw [← hes] at h
  unfold watchErr at hes
  have HOUT := Aside0.mk h
  obtain ⟨kb, hkb⟩ : ∃ kb, kb = l1.any (fun n => !isDev n) := ⟨_, rfl⟩
  rw [← hkb] at hes
  obtain ⟨b2, hb2⟩ : ∃ b2, b2 = decide ((l1.length : Int) ≤ 100) := ⟨_, rfl⟩
  rw [← hb2] at hes
  have HF := Aside0.mk (show dam_first.f 9 [e1, unlessI b2 8, unlessI (!kb) 2] = some es from (first_f3 _ _ _).trans (by rw [hes]))
  have HKB := Aside0.mk hkb
  have hq2 := hb2.symm
  clear h hck hes hkb hb2
  go_enter Try.func47, Try.ntmps47
  go_upto_region 1 with fail
  have hbl := blk_alloc (blk_new w (.cells #[.slice A0_0 l0_0.length c0_0, .slice A0_1 l0_1.length c0_1, .int .i64 a0_2, .slice A0_3 l0_3.length c0_3] 85)) (.cells #[.int .i64 0, .int .i64 0, .int .i64 0] 88)
  have hrl := blk_new (w.alloc (.cells #[.slice A0_0 l0_0.length c0_0, .slice A0_1 l0_1.length c0_1, .int .i64 a0_2, .slice A0_3 l0_3.length c0_3] 85)) (.cells #[.int .i64 0, .int .i64 0, .int .i64 0] 88)
  rw [show (w.alloc (.cells #[.slice A0_0 l0_0.length c0_0, .slice A0_1 l0_1.length c0_1, .int .i64 a0_2, .slice A0_3 l0_3.length c0_3] 85)).heap.size = w.heap.size + 1 from Array.size_push _] at hrl
  have hb1 := below_alloc (below_alloc (Below.refl _ w) (.cells #[.slice A0_0 l0_0.length c0_0, .slice A0_1 l0_1.length c0_1, .int .i64 a0_2, .slice A0_3 l0_3.length c0_3] 85)) (.cells #[.int .i64 0, .int .i64 0, .int .i64 0] 88)
  generalize (w.alloc (.cells #[.slice A0_0 l0_0.length c0_0, .slice A0_1 l0_1.length c0_1, .int .i64 a0_2, .slice A0_3 l0_3.length c0_3] 85)).alloc (.cells #[.int .i64 0, .int .i64 0, .int .i64 0] 88) = w1 at *
  have hx0 := (blk_cell hbl 0).trans rfl
  have hx1 := (blk_cell hbl 1).trans rfl
  have hx2 := (blk_cell hbl 2).trans rfl
  have hx3 := (blk_cell hbl 3).trans rfl
  have HBL := Aside0.mk hbl
  have HRL := Aside0.mk hrl
  have HB1 := Aside0.mk hb1
  clear hbl hrl hb1
  go_upto_region 2 with (go_at_call 90; refine (open_c A0_0 c0_0 l0_0 A0_1 c0_1 l0_1 a0_2 A0_3 c0_3 l0_3 c1' e1 _ (Kd.C_below HR0.out HB1.out) HC.out.1 (Kd.C_below HR1.out HB1.out) HC.out.2.1 (Kd.C_below HR3.out HB1.out) HC.out.2.2 H.out).mono ?_; rintro e w2 ⟨rfl, hb2⟩; have HB2 := Aside0.mk hb2; clear hb2)
  clear hx0 hx1 hx2 hx3
  have hgl := blk_new w2 (.cells #[.slice A0_0 l0_0.length c0_0, .slice A0_1 l0_1.length c0_1, .int .i64 a0_2, .slice A0_3 l0_3.length c0_3] 137)
  have hb3 := below_alloc (below_step HB1.out HB2.out) (.cells #[.slice A0_0 l0_0.length c0_0, .slice A0_1 l0_1.length c0_1, .int .i64 a0_2, .slice A0_3 l0_3.length c0_3] 137)
  have hrl := blk_alloc (blk_below HRL.out HB2.out) (.cells #[.slice A0_0 l0_0.length c0_0, .slice A0_1 l0_1.length c0_1, .int .i64 a0_2, .slice A0_3 l0_3.length c0_3] 137)
  generalize w2.alloc (.cells #[.slice A0_0 l0_0.length c0_0, .slice A0_1 l0_1.length c0_1, .int .i64 a0_2, .slice A0_3 l0_3.length c0_3] 137) = w3 at *
  generalize w2.heap.size = G at *
  have HG := Aside0.mk hgl
  have HB3 := Aside0.mk hb3
  have HRL3 := Aside0.mk hrl
  have HK := Aside0.mk (hContainsInt 92 #[] (fun n => !isDev n) (fun args w => by rfl) A1 c1 l1 w3 (Kd.C_below HL.out hb3) (fun W y _ _ => watchOf1_calls y W))
  rw [← HKB.out] at HK
  clear hgl hb3 hrl
  have HBc := Aside0.mk (Below.refl w3.heap.size w3)
  go_upto_region 4 with (first | (go_at_call 64; refine (dam_unless.calls _ _ _ _ (unless_f _ _)).mono ?_; rintro e w5 ⟨rfl, hb3⟩; have hb4 := below_step (show Below w3.heap.size w3 _ by repeat (first | exact HBc.out | apply below_alloc | apply below_drew | apply pw_below_drewN)) hb3.below; clear HBc; have HBc := Aside0.mk hb4; clear hb4 hb3) | (go_at_call 63; refine (dam_first.calls 9 _ _ _ es _ (litC _ 26 _ (by simp)) (Nat.le_refl _) HF.out).mono ?_; rintro e w5 ⟨rfl, hb3⟩; have hb4 := below_step (show Below w3.heap.size w3 _ by repeat (first | exact HBc.out | apply below_alloc | apply below_drew | apply pw_below_drewN)) hb3.below; clear HBc; have HBc := Aside0.mk hb4; clear hb4 hb3) | (go_at_call 91; refine HK.out.mono ?_; rintro e w5 ⟨rfl, hb5⟩; have hb4 := below_step (show Below w3.heap.size w3 _ by repeat (first | exact HBc.out | apply below_alloc | apply below_drew | apply pw_below_drewN)) hb5; clear HBc; have HBc := Aside0.mk hb4; clear hb4 hb5))
  have HB5 := Aside0.mk (below_step HB3.out HBc.out)
  by_cases hz : es = 0
  case neg =>
    have hzb : (es != 0) = true := bne_iff_ne.2 hz
    have ho := HOUT.out
    rw [if_neg hz] at ho
    simp only [Option.some.injEq, Prod.mk.injEq] at ho
    obtain ⟨rfl, rfl, rfl, rfl⟩ := ho
    have hrl := blk_below HRL3.out HBc.out
    have hy0 := (blk_cell hrl 0).trans rfl
    have hy1 := (blk_cell hrl 1).trans rfl
    have hy2 := (blk_cell hrl 2).trans rfl
    have hf0 := blk_frozen hrl 0
    have hf1 := blk_frozen hrl 1
    have hf2 := blk_frozen hrl 2
    have HRL5 := Aside0.mk hrl
    clear hrl hz
    go_wp2
    refine bodyPost_ret (results_ct rfl _ _ (w.heap.size + 1) 88 #[.int .i64 0, .int .i64 0, .int .i64 0] (0, 0) _ rfl (blk_put (blk_put (blk_put HRL5.out 0 _ rfl) 1 _ rfl) 2 _ rfl) Try.underlying88 (by rfl) (by rfl)) rfl ⟨rfl, ?_⟩
    exact below_set (below_set (below_set HB5.out (Nat.le_succ _)) (Nat.le_succ _)) (Nat.le_succ _)
  case pos =>
    subst hz
    have ho := HOUT.out
    rw [if_pos rfl] at ho
    replace ho := Option.bind_eq_some_iff.mp ho
    obtain ⟨⟨s1, s2, s3⟩, hwa, ho⟩ := ho
    simp only [Option.some.injEq, Prod.mk.injEq] at ho
    obtain ⟨rfl, rfl, rfl, rfl⟩ := ho
    have HWA := Aside0.mk (show watchAll k l0_0 l0_1 a0_2 l0_3 0 0 0 (l1.drop 0) = some (s1, s2, s3) from hwa)
    have HG5 := Aside0.mk (blk_below HG.out HBc.out)
    have HRL5 := Aside0.mk (blk_below HRL3.out HBc.out)
    clear hwa HOUT HK HF
    have HS := Aside0.mk (blk_new w5 (.cells #[.int .i64 0, .int .i64 0, .int .i64 0] 88))
    have HBS := Aside0.mk (below_alloc (Below.refl _ w5) (.cells #[.int .i64 0, .int .i64 0, .int .i64 0] 88))
    go_wp2
    go_loopg [35] l1.length (fun gg s35 W5 => ∃ (i : Nat) (a b c : Int), i ≤ l1.length ∧ l1.length - i ≤ gg ∧ s35 = .int .i64 i ∧ Aside0 (watchAll k l0_0 l0_1 a0_2 l0_3 a b c (l1.drop i) = some (s1, s2, s3)) ∧ Aside0 (W5.heap[w5.heap.size]? = some (.cells #[.int .i64 a, .int .i64 b, .int .i64 c] 88 (0, 0))) ∧ Aside0 (Below w5.heap.size w5 W5))
    case atStart => exact ⟨0, 0, 0, 0, by omega, by omega, rfl, HWA, HS, HBS⟩
    case round =>
      obtain ⟨i, a, b, c, hi, hgg, rfl, HWI, HSI, HBI⟩ := hrel
      obtain ⟨wA, hwA⟩ : ∃ wA, wA = wr := ⟨_, rfl⟩
      subst hwA
      clear HWA HS HBS
      have HBW := Aside0.mk (below_weaken HB5.out HB5.out.size HBI.out)
      by_cases hin : i < l1.length
      case pos =>
        have hin2 : (i : Int) < (l1.length : Int) := by omega
        obtain ⟨ad, e1, hu1⟩ := Kd.at_int (Kd.C_below HL.out HBW.out) (i : Int) (by omega) (by omega)
        cases e1
        rw [show rd l1 (i : Int) = l1.getD i 0 from rfl, Int.toNat_natCast] at hu1
        have hdr : l1.drop i = l1.getD i 0 :: l1.drop (i + 1) := by
          rw [List.drop_eq_getElem_cons hin, List.getD_eq_getElem?_getD, List.getElem?_eq_getElem hin]
          rfl
        have hw := HWI.out
        rw [hdr] at hw
        obtain ⟨x, hx⟩ : ∃ x, x = l1.getD i 0 := ⟨_, rfl⟩
        rw [← hx] at hu1 hw
        clear hdr hx
        simp only [watchAll] at hw
        replace hw := Option.bind_eq_some_iff.mp hw
        obtain ⟨⟨a', b', c'⟩, hst, hw⟩ := hw
        have HST := Aside0.mk hst
        have HW := Aside0.mk hw
        clear hst hw
        have hgl := blk_below HG5.out HBI.out
        have hg0 := (blk_cell hgl 0).trans rfl
        have hg1 := (blk_cell hgl 1).trans rfl
        have hg2 := (blk_cell hgl 2).trans rfl
        have hg3 := (blk_cell hgl 3).trans rfl
        have hs0 := (blk_cell HSI.out 0).trans rfl
        have hs1 := (blk_cell HSI.out 1).trans rfl
        have hs2 := (blk_cell HSI.out 2).trans rfl
        clear hgl
        go_wp2_with (go_at_call 94; refine (dam_rules_watched.calls k A0_0 c0_0 l0_0 A0_1 c0_1 l0_1 a0_2 A0_3 c0_3 l0_3 a b c x a' b' c' _ (Kd.C_below HR0.out HBW.out) HC.out.1 (Kd.C_below HR1.out HBW.out) HC.out.2.1 (Kd.C_below HR3.out HBW.out) HC.out.2.2 HST.out).mono ?_; rintro e w6 ⟨rfl, hb6⟩; have hsl := blk_below HSI.out hb6; have ht0 := (blk_cell hsl 0).trans rfl; have ht1 := (blk_cell hsl 1).trans rfl; have ht2 := (blk_cell hsl 2).trans rfl; have hf0 := blk_frozen hsl 0; have hf1 := blk_frozen hsl 1; have hf2 := blk_frozen hsl 2; have HSN := Aside0.mk (blk_put (blk_put (blk_put hsl 0 (.int .i64 a') rfl) 1 (.int .i64 b') rfl) 2 (.int .i64 c') rfl); have HBN := Aside0.mk ((((below_weaken HBI.out HBI.out.size hb6).setCell (p := ⟨w5.heap.size, 0, none⟩) (Nat.le_refl _) (.int .i64 a')).setCell (p := ⟨w5.heap.size, 1, none⟩) (Nat.le_refl _) (.int .i64 b')).setCell (p := ⟨w5.heap.size, 2, none⟩) (Nat.le_refl _) (.int .i64 c')); clear hsl hb6)
        go_roundg (l1.length - (i + 1))
        case measure => omega
        case rel => exact ⟨i + 1, a', b', c', by omega, by omega, by go_num, HW, HSN, HBN⟩
      case neg =>
        obtain rfl : i = l1.length := by omega
        have hw := HWI.out
        rw [List.drop_length] at hw
        simp only [watchAll, Option.some.injEq, Prod.mk.injEq] at hw
        obtain ⟨rfl, rfl, rfl⟩ := hw
        have hrl := blk_below HRL5.out HBI.out
        have hs0 := (blk_cell HSI.out 0).trans rfl
        have hs1 := (blk_cell HSI.out 1).trans rfl
        have hs2 := (blk_cell HSI.out 2).trans rfl
        have hy0 := (blk_cell hrl 0).trans rfl
        have hy1 := (blk_cell hrl 1).trans rfl
        have hy2 := (blk_cell hrl 2).trans rfl
        have hf0 := blk_frozen hrl 0
        have hf1 := blk_frozen hrl 1
        have hf2 := blk_frozen hrl 2
        have HRL7 := Aside0.mk hrl
        clear hrl
        go_wp2
        refine bodyPost_ret (results_ct rfl _ _ (w.heap.size + 1) 88 #[.int .i64 a, .int .i64 b, .int .i64 c] (0, 0) _ rfl (blk_put (blk_put (blk_put HRL7.out 0 _ rfl) 1 _ rfl) 2 _ rfl) Try.underlying88 (by rfl) (by rfl)) rfl ⟨rfl, ?_⟩
        exact below_set (below_set (below_set HBW.out (Nat.le_succ _)) (Nat.le_succ _)) (Nat.le_succ _)

end Go.Proofs.Yteopooljohdoiaa.Px

namespace Go.Proofs.Yteopooljohdoiaa.Px
open Go.RowKit Go.Proofs.YteopooljohdoiaaW.PrintWords Go.Proofs.YteopooljohdoiaaW.PrintLast Go.Proofs.YteopooljohdoiaaW.PrintMore
attribute [local go_sem] max2_int min2_int max_two min_two max_three min_three max_four min_four   -- for this text's walks alone
set_option linter.unusedVariables false
set_option linter.unusedSimpArgs false

/-! ### guidevanelaw09_Readings: function 60 -/
def guidevanelaw09_Readings.f  : Option ((List (S53))) := some (([(⟨0, 0, 100⟩ : S53), (⟨0, 10, 130⟩ : S53), (⟨0, (-10), 72⟩ : S53)] : List (S53)))
set_option maxHeartbeats 8000000 in
set_option maxRecDepth 100000 in
theorem guidevanelaw09_Readings.calls  (r : List (S53)) (w : World) (h : guidevanelaw09_Readings.f  = some r) :
    Calls Try.prog 60 #[] w fun e w' => ∃ v0_ : Value, e = .returned (v0_) ∧ Kd.R k53 53 w' w.heap.size (fun _ => True) v0_ r ∧ Below w.heap.size w w' := by
  have hu53 := Try.underlying53
  have HB := Aside0.mk (Below.refl w.heap.size w)
  have H : (some (([(⟨0, 0, 100⟩ : S53), (⟨0, 10, 130⟩ : S53), (⟨0, (-10), 72⟩ : S53)] : List (S53)))) = some r := h
  clear h
  obtain ⟨y180001, hy180001⟩ : ∃ y_ : List (S53), y_ = (([(⟨0, 0, 100⟩ : S53), (⟨0, 10, 130⟩ : S53), (⟨0, (-10), 72⟩ : S53)] : List (S53))) := ⟨_, rfl⟩
  replace H : (some y180001) = some r := by first | (rw [hy180001]; with_reducible exact H) | (have H2_ := (Option.bind_some _ _).symm.trans H; rw [hy180001]; with_reducible exact H2_) | (have H2_ := (Option.bind_some _ _).symm.trans H; with_reducible exact H2_) | with_reducible exact H | (rw [hy180001]; exact H) | exact H
  have Ny180001 := Aside0.mk hy180001
  clear hy180001
  obtain rfl := Option.some.inj H
  go_enter Try.func60, Try.ntmps60
  go_wp2_with (first | ((with_reducible refine gate_dst (N := 4) rfl ?_); refine Kd.R_lit k53 _ 53 ?hg (N := 4) ?hd (xs := ([(⟨0, 0, 100⟩ : S53), (⟨0, 10, 130⟩ : S53), (⟨0, (-10), 72⟩ : S53)] : List (S53))) (inner := [.int .i64 0, .int .i64 0, .int .i64 100, .int .i64 0, .int .i64 10, .int .i64 130, .int .i64 0, .int .i64 (-10), .int .i64 72]) (ok := fun _ => True) (okp := fun _ => True) ?hr ?hp (fun _ hk => hk) trivial (Below.refl _ _) (Nat.le_refl _) (by simp) ?_; (case hd => rfl); (case hg => rfl); (case hr => first | (go_simp; done) | (go_simp; rfl)); (case hp => exact (Reps.c3 (show Kd.M k53 _ _ _ (⟨0, 0, 100⟩ : S53) [.int .i64 0, .int .i64 0, .int .i64 100] from (k53_mkM _ _ _ (⟨0, 0, 100⟩ : S53) )) (Reps.c3 (show Kd.M k53 _ _ _ (⟨0, 10, 130⟩ : S53) [.int .i64 0, .int .i64 10, .int .i64 130] from (k53_mkM _ _ _ (⟨0, 10, 130⟩ : S53) )) (Reps.c3 (show Kd.M k53 _ _ _ (⟨0, (-10), 72⟩ : S53) [.int .i64 0, .int .i64 (-10), .int .i64 72] from (k53_mkM _ _ _ (⟨0, (-10), 72⟩ : S53) )) (Reps.none _ _))))); intro v180002 w1 ho2 hb hg_ hnew_; clear hg_ hnew_; (first | rw [← Ny180001.out] at ho2 | (simp only [Int.reduceToNat] at ho2; rw [← Ny180001.out] at ho2)); have n0_ := Aside0.mk (Kd.R_lower ho2 (below_size (by repeat (first | (with_reducible first | exact HB.out | apply below_alloc | apply pw_below_drewN | apply below_drew1) | exact HB.out)))); have n1_ := Aside0.mk (below_step (by repeat (first | (with_reducible first | exact HB.out | apply below_alloc | apply pw_below_drewN | apply below_drew1) | exact HB.out)) hb); clear HB; have HO180003 := n0_; have HB := n1_; clear n0_ n1_; clear hb ho2))
  go_ret
  exact ⟨_, by first | rfl | (simp [errW_none, errW_some] <;> rfl) | (simp [*, errW_none, errW_some] <;> rfl), by (with_reducible repeat (first | apply Kd.R_alloc | apply Kd.R_drewN | apply Kd.R_drew)); exact HO180003.out, by repeat (first | (with_reducible first | exact HB.out | apply below_alloc | apply pw_below_drewN | apply below_drew1) | exact HB.out)⟩

end Go.Proofs.Yteopooljohdoiaa.Px

namespace Go.Proofs.Yteopooljohdoiaa.Px
open Go.RowKit Go.Proofs.YteopooljohdoiaaW.PrintWords Go.Proofs.YteopooljohdoiaaW.PrintLast Go.Proofs.YteopooljohdoiaaW.PrintMore
attribute [local go_sem] max2_int min2_int max_two min_two max_three min_three max_four min_four   -- for this text's walks alone
set_option linter.unusedVariables false
set_option linter.unusedSimpArgs false

/-! ### guidevanelaw09_Rules: function 61 -/
def guidevanelaw09_Rules.f  : Option (List Int × List Int × Int × (List (S135))) := some ((([50, 100] : List Int)), (([30, 80] : List Int)), 2, (([(⟨(⟨#[97, 110, 110]⟩ : ByteArray), 2⟩ : S135), (⟨(⟨#[98, 111, 98]⟩ : ByteArray), 1⟩ : S135)] : List (S135))))
set_option maxHeartbeats 8000000 in
set_option maxRecDepth 100000 in
theorem guidevanelaw09_Rules.calls  (r1 : List Int) (r2 : List Int) (r3 : Int) (r4 : List (S135)) (w : World) (h : guidevanelaw09_Rules.f  = some (r1, r2, r3, r4)) :
    Calls Try.prog 61 #[] w fun e w' => ∃ v0_ v1_ v3_ : Value, e = .returned (.agg #[v0_, v1_, .int .i64 r3, v3_]) ∧ Kd.R (Kd.int .i64) 3 w' w.heap.size (fun k_ => some k_ ≠ (v1_ : Value).ownBlock) v0_ r1 ∧ Kd.R (Kd.int .i64) 3 w' w.heap.size (fun k_ => some k_ ≠ (v0_ : Value).ownBlock) v1_ r2 ∧ Kd.R k135 135 w' w.heap.size (fun _ => True) v3_ r4 ∧ Below w.heap.size w w' := by
  have hu85 := Try.underlying85
  have hu135 := Try.underlying135
  have HB := Aside0.mk (Below.refl w.heap.size w)
  have H : (some ((([50, 100] : List Int)), (([30, 80] : List Int)), 2, (([(⟨(⟨#[97, 110, 110]⟩ : ByteArray), 2⟩ : S135), (⟨(⟨#[98, 111, 98]⟩ : ByteArray), 1⟩ : S135)] : List (S135))))) = some (r1, r2, r3, r4) := h
  clear h
  obtain ⟨y183002, hy183002⟩ : ∃ y_ : List Int, y_ = (([50, 100] : List Int)) := ⟨_, rfl⟩
  replace H : (some (y183002, (([30, 80] : List Int)), 2, (([(⟨(⟨#[97, 110, 110]⟩ : ByteArray), 2⟩ : S135), (⟨(⟨#[98, 111, 98]⟩ : ByteArray), 1⟩ : S135)] : List (S135))))) = some (r1, r2, r3, r4) := by first | (rw [hy183002]; with_reducible exact H) | (have H2_ := (Option.bind_some _ _).symm.trans H; rw [hy183002]; with_reducible exact H2_) | (have H2_ := (Option.bind_some _ _).symm.trans H; with_reducible exact H2_) | with_reducible exact H | (rw [hy183002]; exact H) | exact H
  have Ny183002 := Aside0.mk hy183002
  clear hy183002
  obtain ⟨y183005, hy183005⟩ : ∃ y_ : List Int, y_ = (([30, 80] : List Int)) := ⟨_, rfl⟩
  replace H : (some (y183002, y183005, 2, (([(⟨(⟨#[97, 110, 110]⟩ : ByteArray), 2⟩ : S135), (⟨(⟨#[98, 111, 98]⟩ : ByteArray), 1⟩ : S135)] : List (S135))))) = some (r1, r2, r3, r4) := by first | (rw [hy183005]; with_reducible exact H) | (have H2_ := (Option.bind_some _ _).symm.trans H; rw [hy183005]; with_reducible exact H2_) | (have H2_ := (Option.bind_some _ _).symm.trans H; with_reducible exact H2_) | with_reducible exact H | (rw [hy183005]; exact H) | exact H
  have Ny183005 := Aside0.mk hy183005
  clear hy183005
  obtain ⟨y183008, hy183008⟩ : ∃ y_ : List (S135), y_ = (([(⟨(⟨#[97, 110, 110]⟩ : ByteArray), 2⟩ : S135), (⟨(⟨#[98, 111, 98]⟩ : ByteArray), 1⟩ : S135)] : List (S135))) := ⟨_, rfl⟩
  replace H : (some (y183002, y183005, 2, y183008)) = some (r1, r2, r3, r4) := by first | (rw [hy183008]; with_reducible exact H) | (have H2_ := (Option.bind_some _ _).symm.trans H; rw [hy183008]; with_reducible exact H2_) | (have H2_ := (Option.bind_some _ _).symm.trans H; with_reducible exact H2_) | with_reducible exact H | (rw [hy183008]; exact H) | exact H
  have Ny183008 := Aside0.mk hy183008
  clear hy183008
  simp only [Option.some.injEq, Prod.mk.injEq] at H
  obtain ⟨rfl, rfl, rfl, rfl⟩ := H
  go_enter Try.func61, Try.ntmps61
  go_wp2_with (first | ((with_reducible refine gate_dst (N := 0) rfl ?_); refine box_event ?hg (N := 0) ?hd (cs := #[.slice none 0 0, .slice none 0 0, .int .i64 0, .slice none 0 0]) (t := 85) ?hr ?_; (case hd => rfl); (case hg => rfl); (case hr => first | (go_simp; done) | (go_simp; rfl)); intro gb183001 hg w1 hbox hb; have n0_ := Aside0.mk (below_step (by repeat (first | (with_reducible first | exact HB.out | apply below_alloc | apply pw_below_drewN | apply below_drew1) | exact HB.out)) hb); have n1_ := Aside0.mk (hbox); have n2_ := Aside0.mk ((by rw [hg]; exact (below_size (by repeat (first | (with_reducible first | exact HB.out | apply below_alloc | apply pw_below_drewN | apply below_drew1) | exact HB.out))) : w.heap.size ≤ gb183001)); have n3_ := Aside0.mk ((by rw [hg]; exact (below_size (by repeat (first | (with_reducible first | exact HB.out | apply below_alloc | apply pw_below_drewN | apply below_drew1) | exact HB.out))) : w.heap.size ≤ gb183001)); clear HB; have HB := n0_; have BK183001 := n1_; have GW183001 := n2_; have GE183001 := n3_; clear n0_ n1_ n2_ n3_; clear hb hbox hg) | ((with_reducible refine gate_dst (N := 1) rfl ?_); refine Kd.R_lit (Kd.int .i64) _ 3 ?hg (N := 1) ?hd (xs := ([50, 100] : List Int)) (inner := [.int .i64 50, .int .i64 100]) (ok := fun _ => True) (okp := fun _ => True) ?hr ?hp (fun _ hk => hk) trivial (Below.refl _ _) (Nat.le_refl _) (by simp) ?_; (case hd => rfl); (case hg => rfl); (case hr => first | (go_simp; done) | (go_simp; rfl)); (case hp => exact (Reps.one (show Kd.M (Kd.int .i64) _ _ _ 50 [.int .i64 50] from rfl) (Reps.one (show Kd.M (Kd.int .i64) _ _ _ 100 [.int .i64 100] from rfl) (Reps.none _ _)))); intro v183003 w2 ho3 hb hg_ hnew_; clear hg_ hnew_; (first | rw [← Ny183002.out] at ho3 | (simp only [Int.reduceToNat] at ho3; rw [← Ny183002.out] at ho3)); have n0_ := Aside0.mk (Kd.R_lower ho3 (below_size (by repeat (first | (with_reducible first | exact HB.out | apply below_alloc | apply pw_below_drewN | apply below_drew1 | refine below_set ?_ GE183001.out) | exact HB.out)))); have n1_ := Aside0.mk (blk_below (g := gb183001) (o := .cells #[.slice none 0 0, .slice none 0 0, .int .i64 0, .slice none 0 0] 85 (0, 0)) (by (with_reducible repeat (first | refine blk_drewN ?_ _ | refine blk_drew ?_ | refine blk_alloc ?_ _)); exact BK183001.out) hb); have n2_ := Aside0.mk (below_step (by repeat (first | (with_reducible first | exact HB.out | apply below_alloc | apply pw_below_drewN | apply below_drew1 | refine below_set ?_ GE183001.out) | exact HB.out)) hb); clear BK183001; clear HB; have HO183004 := n0_; have BK183001 := n1_; have HB := n2_; clear n0_ n1_ n2_; clear hb ho3) | ((with_reducible refine gate_dst (N := 2) rfl ?_); refine Kd.R_lit (Kd.int .i64) _ 3 ?hg (N := 2) ?hd (xs := ([30, 80] : List Int)) (inner := [.int .i64 30, .int .i64 80]) (ok := fun _ => True) (okp := fun _ => True) ?hr ?hp (fun _ hk => hk) trivial (Below.refl _ _) (Nat.le_refl _) (by simp) ?_; (case hd => rfl); (case hg => rfl); (case hr => first | (go_simp; done) | (go_simp; rfl)); (case hp => exact (Reps.one (show Kd.M (Kd.int .i64) _ _ _ 30 [.int .i64 30] from rfl) (Reps.one (show Kd.M (Kd.int .i64) _ _ _ 80 [.int .i64 80] from rfl) (Reps.none _ _)))); intro v183006 w4 ho5 hb hg_ hnew_; clear hg_ hnew_; (first | rw [← Ny183005.out] at ho5 | (simp only [Int.reduceToNat] at ho5; rw [← Ny183005.out] at ho5)); have n0_ := Aside0.mk (Kd.R_elder' (by (with_reducible repeat (first | apply Kd.R_alloc | apply Kd.R_drewN | apply Kd.R_drew)); exact HO183004.out) (Kd.R_base ho5) hb); have n1_ := Aside0.mk (Kd.R_lower (Kd.R_new' ho5 (Kd.R_lt (by (with_reducible repeat (first | apply Kd.R_alloc | apply Kd.R_drewN | apply Kd.R_drew)); exact HO183004.out))) (below_size (by repeat (first | (with_reducible first | exact HB.out | apply below_alloc | apply pw_below_drewN | apply below_drew1 | refine below_set ?_ GE183001.out) | exact HB.out)))); have n2_ := Aside0.mk (blk_below (g := gb183001) (o := .cells #[.slice none 0 0, .slice none 0 0, .int .i64 0, .slice none 0 0] 85 (0, 0)) (by (with_reducible repeat (first | refine blk_drewN ?_ _ | refine blk_drew ?_ | refine blk_alloc ?_ _)); exact BK183001.out) hb); have n3_ := Aside0.mk (below_step (by repeat (first | (with_reducible first | exact HB.out | apply below_alloc | apply pw_below_drewN | apply below_drew1 | refine below_set ?_ GE183001.out) | exact HB.out)) hb); clear HO183004; clear BK183001; clear HB; have HO183004 := n0_; have HO183007 := n1_; have BK183001 := n2_; have HB := n3_; clear n0_ n1_ n2_ n3_; clear hb ho5) | ((with_reducible refine gate_dst (N := 5) rfl ?_); refine Kd.R_lit k135 _ 135 ?hg (N := 5) ?hd (xs := ([(⟨(⟨#[97, 110, 110]⟩ : ByteArray), 2⟩ : S135), (⟨(⟨#[98, 111, 98]⟩ : ByteArray), 1⟩ : S135)] : List (S135))) (inner := [.string (⟨#[97, 110, 110]⟩ : ByteArray), .int .i64 2, .string (⟨#[98, 111, 98]⟩ : ByteArray), .int .i64 1]) (ok := fun _ => True) (okp := fun _ => True) ?hr ?hp (fun _ hk => hk) trivial (Below.refl _ _) (Nat.le_refl _) (by simp) ?_; (case hd => rfl); (case hg => rfl); (case hr => first | (go_simp; done) | (go_simp; rfl)); (case hp => exact (Reps.c2 (show Kd.M k135 _ _ _ (⟨(⟨#[97, 110, 110]⟩ : ByteArray), 2⟩ : S135) [.string (⟨#[97, 110, 110]⟩ : ByteArray), .int .i64 2] from (k135_mkM _ _ _ (⟨(⟨#[97, 110, 110]⟩ : ByteArray), 2⟩ : S135) )) (Reps.c2 (show Kd.M k135 _ _ _ (⟨(⟨#[98, 111, 98]⟩ : ByteArray), 1⟩ : S135) [.string (⟨#[98, 111, 98]⟩ : ByteArray), .int .i64 1] from (k135_mkM _ _ _ (⟨(⟨#[98, 111, 98]⟩ : ByteArray), 1⟩ : S135) )) (Reps.none _ _)))); intro v183009 w6 ho7 hb hg_ hnew_; clear hg_ hnew_; (first | rw [← Ny183008.out] at ho7 | (simp only [Int.reduceToNat] at ho7; rw [← Ny183008.out] at ho7)); have n0_ := Aside0.mk (Kd.R_below (by (with_reducible repeat (first | apply Kd.R_alloc | apply Kd.R_drewN | apply Kd.R_drew)); exact HO183004.out) hb); have n1_ := Aside0.mk (Kd.R_below (by (with_reducible repeat (first | apply Kd.R_alloc | apply Kd.R_drewN | apply Kd.R_drew)); exact HO183007.out) hb); have n2_ := Aside0.mk (Kd.R_lower ho7 (below_size (by repeat (first | (with_reducible first | exact HB.out | apply below_alloc | apply pw_below_drewN | apply below_drew1 | refine below_set ?_ GE183001.out) | exact HB.out)))); have n3_ := Aside0.mk (blk_below (g := gb183001) (o := .cells #[.slice none 0 0, .slice none 0 0, .int .i64 0, .slice none 0 0] 85 (0, 0)) (by (with_reducible repeat (first | refine blk_drewN ?_ _ | refine blk_drew ?_ | refine blk_alloc ?_ _)); exact BK183001.out) hb); have n4_ := Aside0.mk (below_step (by repeat (first | (with_reducible first | exact HB.out | apply below_alloc | apply pw_below_drewN | apply below_drew1 | refine below_set ?_ GE183001.out) | exact HB.out)) hb); clear HO183004; clear HO183007; clear BK183001; clear HB; have HO183004 := n0_; have HO183007 := n1_; have HO183010 := n2_; have BK183001 := n3_; have HB := n4_; clear n0_ n1_ n2_ n3_ n4_; clear hb ho7; obtain ⟨Ao8, co8, eo8⟩ := Kd.R_slice HO183010.out; subst eo8; obtain ⟨Ao9, co9, eo9⟩ := Kd.R_slice HO183007.out; subst eo9; obtain ⟨Ao10, co10, eo10⟩ := Kd.R_slice HO183004.out; subst eo10; have hcz11_0 : w6.cell? ⟨gb183001, 0, none⟩ = some (.slice none 0 0) := (blk_cell BK183001.out 0).trans rfl; have hcz11_1 : w6.cell? ⟨gb183001, 1, none⟩ = some (.slice none 0 0) := (blk_cell BK183001.out 1).trans rfl; have hcz11_2 : w6.cell? ⟨gb183001, 2, none⟩ = some (.int .i64 0) := (blk_cell BK183001.out 2).trans rfl; have hcz11_3 : w6.cell? ⟨gb183001, 3, none⟩ = some (.slice none 0 0) := (blk_cell BK183001.out 3).trans rfl; have hfz11_0 := blk_frozen BK183001.out 0; have hfz11_1 := blk_frozen BK183001.out 1; have hfz11_2 := blk_frozen BK183001.out 2; have hfz11_3 := blk_frozen BK183001.out 3))
  refine bodyPost_ret (results_cell_row rfl _ _ gb183001 85 #[.slice Ao10 y183002.length co10, .slice Ao9 y183005.length co9, .int .i64 2, .slice Ao8 y183008.length co8] (0, 0) _ rfl (by (with_reducible repeat (first | refine blk_drewN ?_ _ | refine blk_drew ?_ | refine blk_alloc ?_ _)); refine blk_put (cs := #[.slice Ao10 y183002.length co10, .slice Ao9 y183005.length co9, .int .i64 2, .slice none 0 0]) ?_ 3 _ rfl; (with_reducible repeat (first | refine blk_drewN ?_ _ | refine blk_drew ?_ | refine blk_alloc ?_ _)); refine blk_put (cs := #[.slice Ao10 y183002.length co10, .slice Ao9 y183005.length co9, .int .i64 0, .slice none 0 0]) ?_ 2 _ rfl; (with_reducible repeat (first | refine blk_drewN ?_ _ | refine blk_drew ?_ | refine blk_alloc ?_ _)); refine blk_put (cs := #[.slice Ao10 y183002.length co10, .slice none 0 0, .int .i64 0, .slice none 0 0]) ?_ 1 _ rfl; (with_reducible repeat (first | refine blk_drewN ?_ _ | refine blk_drew ?_ | refine blk_alloc ?_ _)); refine blk_put (cs := #[.slice none 0 0, .slice none 0 0, .int .i64 0, .slice none 0 0]) ?_ 0 _ rfl; (with_reducible repeat (first | refine blk_drewN ?_ _ | refine blk_drew ?_ | refine blk_alloc ?_ _)); exact BK183001.out) Try.underlying85 rfl (by kernel_rfl)) rfl ?_
  exact ⟨_, _, _, by first | rfl | (simp [errW_none, errW_some] <;> rfl) | (simp [*, errW_none, errW_some] <;> rfl), by (with_reducible repeat (first | apply Kd.R_alloc | apply Kd.R_drewN | apply Kd.R_drew)); exact Kd.R_mono (Kd.R_far (p := ⟨gb183001, 3, none⟩) (Kd.R_far (p := ⟨gb183001, 2, none⟩) (Kd.R_far (p := ⟨gb183001, 1, none⟩) (Kd.R_far (p := ⟨gb183001, 0, none⟩) (Kd.R_types HO183004.out BK183001.out (by decide)) (fun _ hk => hk.2) (.slice Ao10 y183002.length co10)) (fun _ hk => hk.2) (.slice Ao9 y183005.length co9)) (fun _ hk => hk.2) (.int .i64 2)) (fun _ hk => hk.2) (.slice Ao8 y183008.length co8)) (fun _ hk => hk.1.2), by (with_reducible repeat (first | apply Kd.R_alloc | apply Kd.R_drewN | apply Kd.R_drew)); exact Kd.R_mono (Kd.R_far (p := ⟨gb183001, 3, none⟩) (Kd.R_far (p := ⟨gb183001, 2, none⟩) (Kd.R_far (p := ⟨gb183001, 1, none⟩) (Kd.R_far (p := ⟨gb183001, 0, none⟩) (Kd.R_types HO183007.out BK183001.out (by decide)) (fun _ hk => hk.2) (.slice Ao10 y183002.length co10)) (fun _ hk => hk.2) (.slice Ao9 y183005.length co9)) (fun _ hk => hk.2) (.int .i64 2)) (fun _ hk => hk.2) (.slice Ao8 y183008.length co8)) (fun _ hk => hk.1.2), by (with_reducible repeat (first | apply Kd.R_alloc | apply Kd.R_drewN | apply Kd.R_drew)); exact Kd.R_mono (Kd.R_far (p := ⟨gb183001, 3, none⟩) (Kd.R_far (p := ⟨gb183001, 2, none⟩) (Kd.R_far (p := ⟨gb183001, 1, none⟩) (Kd.R_far (p := ⟨gb183001, 0, none⟩) (Kd.R_types HO183010.out BK183001.out (by decide)) (fun _ hk => hk.2) (.slice Ao10 y183002.length co10)) (fun _ hk => hk.2) (.slice Ao9 y183005.length co9)) (fun _ hk => hk.2) (.int .i64 2)) (fun _ hk => hk.2) (.slice Ao8 y183008.length co8)) (fun _ hk => trivial), by repeat (first | (with_reducible first | exact HB.out | apply below_alloc | apply pw_below_drewN | apply below_drew1 | refine below_set ?_ GE183001.out) | exact HB.out)⟩

end Go.Proofs.Yteopooljohdoiaa.Px

namespace Go.Proofs.Yteopooljohdoiaa.Px
open Go.RowKit Go.Proofs.YteopooljohdoiaaW.PrintWords Go.Proofs.YteopooljohdoiaaW.PrintLast Go.Proofs.YteopooljohdoiaaW.PrintMore
attribute [local go_sem] max2_int min2_int max_two min_two max_three min_three max_four min_four   -- for this text's walks alone
set_option linter.unusedVariables false
set_option linter.unusedSimpArgs false

/-! ### guidevanelaw09_Valley: function 62 -/
def guidevanelaw09_Valley.f  : Option ((List (S112)) × List Int) := some ((([(⟨10, 10⟩ : S112), (⟨30, 10⟩ : S112), (⟨55, 15⟩ : S112)] : List (S112))), (([5, 20, 40, 60] : List Int)))
set_option maxHeartbeats 8000000 in
set_option maxRecDepth 100000 in
theorem guidevanelaw09_Valley.calls  (r1 : List (S112)) (r2 : List Int) (w : World) (h : guidevanelaw09_Valley.f  = some (r1, r2)) :
    Calls Try.prog 62 #[] w fun e w' => ∃ v0_ v1_ : Value, e = .returned (.agg #[v0_, v1_]) ∧ Kd.R k112 112 w' w.heap.size (fun _ => True) v0_ r1 ∧ Kd.R (Kd.int .i64) 3 w' w.heap.size (fun _ => True) v1_ r2 ∧ Below w.heap.size w w' := by
  have hu39 := Try.underlying39
  have hu112 := Try.underlying112
  have HB := Aside0.mk (Below.refl w.heap.size w)
  have H : (some ((([(⟨10, 10⟩ : S112), (⟨30, 10⟩ : S112), (⟨55, 15⟩ : S112)] : List (S112))), (([5, 20, 40, 60] : List Int)))) = some (r1, r2) := h
  clear h
  obtain ⟨y186002, hy186002⟩ : ∃ y_ : List (S112), y_ = (([(⟨10, 10⟩ : S112), (⟨30, 10⟩ : S112), (⟨55, 15⟩ : S112)] : List (S112))) := ⟨_, rfl⟩
  replace H : (some (y186002, (([5, 20, 40, 60] : List Int)))) = some (r1, r2) := by first | (rw [hy186002]; with_reducible exact H) | (have H2_ := (Option.bind_some _ _).symm.trans H; rw [hy186002]; with_reducible exact H2_) | (have H2_ := (Option.bind_some _ _).symm.trans H; with_reducible exact H2_) | with_reducible exact H | (rw [hy186002]; exact H) | exact H
  have Ny186002 := Aside0.mk hy186002
  clear hy186002
  obtain ⟨y186005, hy186005⟩ : ∃ y_ : List Int, y_ = (([5, 20, 40, 60] : List Int)) := ⟨_, rfl⟩
  replace H : (some (y186002, y186005)) = some (r1, r2) := by first | (rw [hy186005]; with_reducible exact H) | (have H2_ := (Option.bind_some _ _).symm.trans H; rw [hy186005]; with_reducible exact H2_) | (have H2_ := (Option.bind_some _ _).symm.trans H; with_reducible exact H2_) | with_reducible exact H | (rw [hy186005]; exact H) | exact H
  have Ny186005 := Aside0.mk hy186005
  clear hy186005
  simp only [Option.some.injEq, Prod.mk.injEq] at H
  obtain ⟨rfl, rfl⟩ := H
  go_enter Try.func62, Try.ntmps62
  go_wp2_with (first | ((with_reducible refine gate_dst (N := 0) rfl ?_); refine box_event ?hg (N := 0) ?hd (cs := #[.slice none 0 0, .slice none 0 0]) (t := 39) ?hr ?_; (case hd => rfl); (case hg => rfl); (case hr => first | (go_simp; done) | (go_simp; rfl)); intro gb186001 hg w1 hbox hb; have n0_ := Aside0.mk (below_step (by repeat (first | (with_reducible first | exact HB.out | apply below_alloc | apply pw_below_drewN | apply below_drew1) | exact HB.out)) hb); have n1_ := Aside0.mk (hbox); have n2_ := Aside0.mk ((by rw [hg]; exact (below_size (by repeat (first | (with_reducible first | exact HB.out | apply below_alloc | apply pw_below_drewN | apply below_drew1) | exact HB.out))) : w.heap.size ≤ gb186001)); have n3_ := Aside0.mk ((by rw [hg]; exact (below_size (by repeat (first | (with_reducible first | exact HB.out | apply below_alloc | apply pw_below_drewN | apply below_drew1) | exact HB.out))) : w.heap.size ≤ gb186001)); clear HB; have HB := n0_; have BK186001 := n1_; have GW186001 := n2_; have GE186001 := n3_; clear n0_ n1_ n2_ n3_; clear hb hbox hg) | ((with_reducible refine gate_dst (N := 4) rfl ?_); refine Kd.R_lit k112 _ 112 ?hg (N := 4) ?hd (xs := ([(⟨10, 10⟩ : S112), (⟨30, 10⟩ : S112), (⟨55, 15⟩ : S112)] : List (S112))) (inner := [.int .i64 10, .int .i64 10, .int .i64 30, .int .i64 10, .int .i64 55, .int .i64 15]) (ok := fun _ => True) (okp := fun _ => True) ?hr ?hp (fun _ hk => hk) trivial (Below.refl _ _) (Nat.le_refl _) (by simp) ?_; (case hd => rfl); (case hg => rfl); (case hr => first | (go_simp; done) | (go_simp; rfl)); (case hp => exact (Reps.c2 (show Kd.M k112 _ _ _ (⟨10, 10⟩ : S112) [.int .i64 10, .int .i64 10] from (k112_mkM _ _ _ (⟨10, 10⟩ : S112) )) (Reps.c2 (show Kd.M k112 _ _ _ (⟨30, 10⟩ : S112) [.int .i64 30, .int .i64 10] from (k112_mkM _ _ _ (⟨30, 10⟩ : S112) )) (Reps.c2 (show Kd.M k112 _ _ _ (⟨55, 15⟩ : S112) [.int .i64 55, .int .i64 15] from (k112_mkM _ _ _ (⟨55, 15⟩ : S112) )) (Reps.none _ _))))); intro v186003 w2 ho3 hb hg_ hnew_; clear hg_ hnew_; (first | rw [← Ny186002.out] at ho3 | (simp only [Int.reduceToNat] at ho3; rw [← Ny186002.out] at ho3)); have n0_ := Aside0.mk (Kd.R_lower ho3 (below_size (by repeat (first | (with_reducible first | exact HB.out | apply below_alloc | apply pw_below_drewN | apply below_drew1 | refine below_set ?_ GE186001.out) | exact HB.out)))); have n1_ := Aside0.mk (blk_below (g := gb186001) (o := .cells #[.slice none 0 0, .slice none 0 0] 39 (0, 0)) (by (with_reducible repeat (first | refine blk_drewN ?_ _ | refine blk_drew ?_ | refine blk_alloc ?_ _)); exact BK186001.out) hb); have n2_ := Aside0.mk (below_step (by repeat (first | (with_reducible first | exact HB.out | apply below_alloc | apply pw_below_drewN | apply below_drew1 | refine below_set ?_ GE186001.out) | exact HB.out)) hb); clear BK186001; clear HB; have HO186004 := n0_; have BK186001 := n1_; have HB := n2_; clear n0_ n1_ n2_; clear hb ho3) | ((with_reducible refine gate_dst (N := 5) rfl ?_); refine Kd.R_lit (Kd.int .i64) _ 3 ?hg (N := 5) ?hd (xs := ([5, 20, 40, 60] : List Int)) (inner := [.int .i64 5, .int .i64 20, .int .i64 40, .int .i64 60]) (ok := fun _ => True) (okp := fun _ => True) ?hr ?hp (fun _ hk => hk) trivial (Below.refl _ _) (Nat.le_refl _) (by simp) ?_; (case hd => rfl); (case hg => rfl); (case hr => first | (go_simp; done) | (go_simp; rfl)); (case hp => exact (Reps.one (show Kd.M (Kd.int .i64) _ _ _ 5 [.int .i64 5] from rfl) (Reps.one (show Kd.M (Kd.int .i64) _ _ _ 20 [.int .i64 20] from rfl) (Reps.one (show Kd.M (Kd.int .i64) _ _ _ 40 [.int .i64 40] from rfl) (Reps.one (show Kd.M (Kd.int .i64) _ _ _ 60 [.int .i64 60] from rfl) (Reps.none _ _)))))); intro v186006 w4 ho5 hb hg_ hnew_; clear hg_ hnew_; (first | rw [← Ny186005.out] at ho5 | (simp only [Int.reduceToNat] at ho5; rw [← Ny186005.out] at ho5)); have n0_ := Aside0.mk (Kd.R_below (by (with_reducible repeat (first | apply Kd.R_alloc | apply Kd.R_drewN | apply Kd.R_drew)); exact HO186004.out) hb); have n1_ := Aside0.mk (Kd.R_lower ho5 (below_size (by repeat (first | (with_reducible first | exact HB.out | apply below_alloc | apply pw_below_drewN | apply below_drew1 | refine below_set ?_ GE186001.out) | exact HB.out)))); have n2_ := Aside0.mk (blk_below (g := gb186001) (o := .cells #[.slice none 0 0, .slice none 0 0] 39 (0, 0)) (by (with_reducible repeat (first | refine blk_drewN ?_ _ | refine blk_drew ?_ | refine blk_alloc ?_ _)); exact BK186001.out) hb); have n3_ := Aside0.mk (below_step (by repeat (first | (with_reducible first | exact HB.out | apply below_alloc | apply pw_below_drewN | apply below_drew1 | refine below_set ?_ GE186001.out) | exact HB.out)) hb); clear HO186004; clear BK186001; clear HB; have HO186004 := n0_; have HO186007 := n1_; have BK186001 := n2_; have HB := n3_; clear n0_ n1_ n2_ n3_; clear hb ho5; obtain ⟨Ao6, co6, eo6⟩ := Kd.R_slice HO186007.out; subst eo6; obtain ⟨Ao7, co7, eo7⟩ := Kd.R_slice HO186004.out; subst eo7; have hcz8_0 : w4.cell? ⟨gb186001, 0, none⟩ = some (.slice none 0 0) := (blk_cell BK186001.out 0).trans rfl; have hcz8_1 : w4.cell? ⟨gb186001, 1, none⟩ = some (.slice none 0 0) := (blk_cell BK186001.out 1).trans rfl; have hfz8_0 := blk_frozen BK186001.out 0; have hfz8_1 := blk_frozen BK186001.out 1))
  refine bodyPost_ret (results_cell_row rfl _ _ gb186001 39 #[.slice Ao7 y186002.length co7, .slice Ao6 y186005.length co6] (0, 0) _ rfl (by (with_reducible repeat (first | refine blk_drewN ?_ _ | refine blk_drew ?_ | refine blk_alloc ?_ _)); refine blk_put (cs := #[.slice Ao7 y186002.length co7, .slice none 0 0]) ?_ 1 _ rfl; (with_reducible repeat (first | refine blk_drewN ?_ _ | refine blk_drew ?_ | refine blk_alloc ?_ _)); refine blk_put (cs := #[.slice none 0 0, .slice none 0 0]) ?_ 0 _ rfl; (with_reducible repeat (first | refine blk_drewN ?_ _ | refine blk_drew ?_ | refine blk_alloc ?_ _)); exact BK186001.out) Try.underlying39 rfl (by kernel_rfl)) rfl ?_
  exact ⟨_, _, by first | rfl | (simp [errW_none, errW_some] <;> rfl) | (simp [*, errW_none, errW_some] <;> rfl), by (with_reducible repeat (first | apply Kd.R_alloc | apply Kd.R_drewN | apply Kd.R_drew)); exact Kd.R_mono (Kd.R_far (p := ⟨gb186001, 1, none⟩) (Kd.R_far (p := ⟨gb186001, 0, none⟩) (Kd.R_types HO186004.out BK186001.out (by decide)) (fun _ hk => hk.2) (.slice Ao7 y186002.length co7)) (fun _ hk => hk.2) (.slice Ao6 y186005.length co6)) (fun _ hk => trivial), by (with_reducible repeat (first | apply Kd.R_alloc | apply Kd.R_drewN | apply Kd.R_drew)); exact Kd.R_mono (Kd.R_far (p := ⟨gb186001, 1, none⟩) (Kd.R_far (p := ⟨gb186001, 0, none⟩) (Kd.R_types HO186007.out BK186001.out (by decide)) (fun _ hk => hk.2) (.slice Ao7 y186002.length co7)) (fun _ hk => hk.2) (.slice Ao6 y186005.length co6)) (fun _ hk => trivial), by repeat (first | (with_reducible first | exact HB.out | apply below_alloc | apply pw_below_drewN | apply below_drew1 | refine below_set ?_ GE186001.out) | exact HB.out)⟩

end Go.Proofs.Yteopooljohdoiaa.Px

namespace Go.Proofs.Yteopooljohdoiaa.Px
open Go.RowKit Go.Proofs.YteopooljohdoiaaW.PrintWords Go.Proofs.YteopooljohdoiaaW.PrintLast Go.Proofs.YteopooljohdoiaaW.PrintMore
attribute [local go_sem] max2_int min2_int max_two min_two max_three min_three max_four min_four   -- for this text's walks alone
set_option linter.unusedVariables false
set_option linter.unusedSimpArgs false

/-! ### guidevanelaw09_awake: function 10 (by hand) -/
attribute [local go_sem high] eqA69 eqA54 eqA88
def guidevanelaw09_awake.f : Option Bool := some true
theorem awake_fit : dam_FitOf.f 20 [⟨0, 0, 100⟩, ⟨0, 10, 130⟩, ⟨0, -10, 72⟩] 3 = some (30, 3020, 87, 0, 0, 0, 0) := by kernel_rfl
theorem awake_watch : dam_WatchOf.f 20 [50, 100] [30, 80] 2 [⟨⟨#[97, 110, 110]⟩, 2⟩, ⟨⟨#[98, 111, 98]⟩, 1⟩] [60, 20, 10] = some (1, 2, 10, 0) := by kernel_rfl
theorem awake_cover : dam_CoverOf.f 20 [⟨10, 10⟩, ⟨30, 10⟩, ⟨55, 15⟩] [5, 20, 40, 60] = some ([0, 2], 0) := by kernel_rfl
theorem awake_empty : dam_EmptyingOf.f 20 [1000, 500] [300, 100] 2 = some (9, 0) := by kernel_rfl
theorem awake_ints : guidevanebase_Ints.f 20 [0, 2] [0, 2] = some true := by kernel_rfl
set_option maxHeartbeats 8000000 in
set_option maxRecDepth 100000 in
theorem guidevanelaw09_awake.calls (r : Bool) (w : World) (h : guidevanelaw09_awake.f = some r) : Calls Try.prog 10 #[] w fun e w' => e = .returned (.bool r) ∧ Below w.heap.size w w' := by
  have hu1 := Try.underlying69
  have hu2 := Try.underlying54
  have hu3 := Try.underlying88
  have hu4 := Try.underlying24
  obtain rfl : r = true := (Option.some.inj h).symm
  clear h
  obtain ⟨l, hl⟩ : ∃ l : List S53, l = [⟨0, 0, 100⟩, ⟨0, 10, 130⟩, ⟨0, -10, 72⟩] := ⟨_, rfl⟩
  have HF := Aside0.mk awake_fit
  rw [← hl] at HF
  have HL := Aside0.mk (show guidevanelaw09_Readings.f = some l by rw [hl]; rfl)
  clear hl
  obtain ⟨q1, hq1⟩ : ∃ l : List Int, l = [50, 100] := ⟨_, rfl⟩
  obtain ⟨q2, hq2⟩ : ∃ l : List Int, l = [30, 80] := ⟨_, rfl⟩
  obtain ⟨q3, hq3⟩ : ∃ l : List S135, l = [⟨⟨#[97, 110, 110]⟩, 2⟩, ⟨⟨#[98, 111, 98]⟩, 1⟩] := ⟨_, rfl⟩
  have HW := Aside0.mk awake_watch
  rw [← hq1, ← hq2, ← hq3] at HW
  have HR := Aside0.mk (show guidevanelaw09_Rules.f = some (q1, q2, 2, q3) by rw [hq1, hq2, hq3]; rfl)
  clear hq1 hq2 hq3
  obtain ⟨v1, hv1⟩ : ∃ l : List S112, l = [⟨10, 10⟩, ⟨30, 10⟩, ⟨55, 15⟩] := ⟨_, rfl⟩
  obtain ⟨v2, hv2⟩ : ∃ l : List Int, l = [5, 20, 40, 60] := ⟨_, rfl⟩
  obtain ⟨v3, hv3⟩ : ∃ l : List Int, l = [0, 2] := ⟨_, rfl⟩
  have HV := Aside0.mk awake_cover
  rw [← hv1, ← hv2, ← hv3] at HV
  have HI := Aside0.mk (show guidevanebase_Ints.f 20 v3 [0, 2] = some true by rw [hv3]; exact awake_ints)
  have HA := Aside0.mk (show guidevanelaw09_Valley.f = some (v1, v2) by rw [hv1, hv2]; rfl)
  clear hv1 hv2 hv3
  have HB := Aside0.mk (Below.refl w.heap.size w)
  go_enter Try.func10, Try.ntmps10
  go_upto_region 2 with (first | (go_at_call 60; refine (guidevanelaw09_Readings.calls _ _ HL.out).mono ?_; rintro e w1 ⟨x1, rfl, hR1, hb1⟩; obtain ⟨A1, c1, e1, hc1, hC1⟩ := Kd.R_reads hR1; subst e1; have HC1 := Aside0.mk (And.intro hc1 hC1); have HB1 := Aside0.mk hb1; clear hb1 hC1 hc1 hR1) | (go_at_call 40; refine (dam_FitOf.calls 20 A1 c1 l 3 30 3020 87 0 0 0 0 _ HC1.out.2 HC1.out.1 HF.out).mono ?_; rintro e w2 ⟨rfl, hb2⟩; have HB2 := Aside0.mk (below_step HB1.out hb2); clear hb2))
  have hfl := blk_new w2 (.cells #[.int .i64 30, .int .i64 3020, .int .i64 87, .int .i64 0, .int .i64 0, .int .i64 0] 69)
  have hb3 := below_alloc HB2.out (.cells #[.int .i64 30, .int .i64 3020, .int .i64 87, .int .i64 0, .int .i64 0, .int .i64 0] 69)
  generalize w2.alloc (.cells #[.int .i64 30, .int .i64 3020, .int .i64 87, .int .i64 0, .int .i64 0, .int .i64 0] 69) = w3 at *
  generalize w2.heap.size = F at *
  have HFL := Aside0.mk hfl
  have HB3 := Aside0.mk hb3
  clear hfl hb3
  go_upto_region 3 with (first | (go_at_call 61; refine (guidevanelaw09_Rules.calls _ _ _ _ _ HR.out).mono ?_; rintro e w4 ⟨y0, y1, y3, rfl, hR1, hR2, hR3, hb4⟩; obtain ⟨A1, c1, e1, hc1, hC1⟩ := Kd.R_reads hR1; subst e1; obtain ⟨A2, c2, e1, hc2, hC2⟩ := Kd.R_reads hR2; subst e1; obtain ⟨A3, c3, e1, hc3, hC3⟩ := Kd.R_reads hR3; subst e1; have HC1 := Aside0.mk (And.intro hc1 hC1); have HC2 := Aside0.mk (And.intro hc2 hC2); have HC3 := Aside0.mk (And.intro hc3 hC3); have HB4 := Aside0.mk (below_step HB3.out hb4); have HFL4 := Aside0.mk (blk_below HFL.out hb4); clear hb4 hC1 hc1 hR1 hC2 hc2 hR2 hC3 hc3 hR3) | (go_at_call 47; refine (dam_WatchOf.calls 20 A1 c1 q1 A2 c2 q2 2 A3 c3 q3 _ _ [60, 20, 10] 1 2 10 0 (w4.alloc (.cells #[.int .i64 60, .int .i64 20, .int .i64 10] 3)) (Kd.C_alloc HC1.out.2 _) HC1.out.1 (Kd.C_alloc HC2.out.2 _) HC2.out.1 (Kd.C_alloc HC3.out.2 _) HC3.out.1 (litC w4 3 [60, 20, 10]) (Nat.le_refl _) HW.out).mono ?_; rintro e w5 ⟨rfl, hb5⟩; have HB5 := Aside0.mk (below_step (below_alloc HB4.out _) hb5); have HFL5 := Aside0.mk (blk_below (blk_alloc HFL4.out _) hb5); clear hb5))
  have hsl := blk_new w5 (.cells #[.int .i64 1, .int .i64 2, .int .i64 10] 88)
  have hfl := blk_alloc HFL5.out (.cells #[.int .i64 1, .int .i64 2, .int .i64 10] 88)
  have hb6 := below_alloc HB5.out (.cells #[.int .i64 1, .int .i64 2, .int .i64 10] 88)
  generalize w5.alloc (.cells #[.int .i64 1, .int .i64 2, .int .i64 10] 88) = w6 at *
  generalize w5.heap.size = G at *
  have HSL := Aside0.mk hsl
  have HFL6 := Aside0.mk hfl
  have HB6 := Aside0.mk hb6
  clear hfl hsl hb6
  go_upto_region 4 with (first | (go_at_call 62; refine (guidevanelaw09_Valley.calls _ _ _ HA.out).mono ?_; rintro e w7 ⟨y0, y1, rfl, hR1, hR2, hb7⟩; obtain ⟨A1, c1, e1, hc1, hC1⟩ := Kd.R_reads hR1; subst e1; obtain ⟨A2, c2, e1, hc2, hC2⟩ := Kd.R_reads hR2; subst e1; have HC1 := Aside0.mk (And.intro hc1 hC1); have HC2 := Aside0.mk (And.intro hc2 hC2); have HB7 := Aside0.mk (below_step HB6.out hb7); have HFL7 := Aside0.mk (blk_below HFL6.out hb7); have HSL7 := Aside0.mk (blk_below HSL.out hb7); clear hb7 hC1 hc1 hR1 hC2 hc2 hR2) | (go_at_call 22; refine (dam_CoverOf.calls 20 A1 c1 v1 A2 c2 v2 v3 0 _ HC1.out.2 HC1.out.1 HC2.out.2 HC2.out.1 HV.out).mono ?_; rintro e w8 ⟨z0, rfl, hR1, hb8⟩; obtain ⟨A8, c8, e1, hc8, hC8⟩ := Kd.R_reads hR1; subst e1; have HC8 := Aside0.mk (And.intro hc8 hC8); have HB8 := Aside0.mk (below_step HB7.out hb8); have HFL8 := Aside0.mk (blk_below HFL7.out hb8); have HSL8 := Aside0.mk (blk_below HSL7.out hb8); clear hb8 hC8 hc8 hR1))
  obtain ⟨we, hwe⟩ : ∃ we, we = (w8.alloc (.cells #[.int .i64 1000, .int .i64 500] 3)).alloc (.cells #[.int .i64 300, .int .i64 100] 3) := ⟨_, rfl⟩
  have hE1 : Kd.C (Kd.int .i64) we (some ⟨w8.heap.size, 0, none⟩) 2 [1000, 500] := by rw [hwe]; exact Kd.C_alloc (litC w8 3 [1000, 500]) _
  have hE2 : Kd.C (Kd.int .i64) we (some ⟨w8.heap.size + 1, 0, none⟩) 2 [300, 100] := by
    have := litC (w8.alloc (.cells #[.int .i64 1000, .int .i64 500] 3)) 3 [300, 100]
    rw [show (w8.alloc (.cells #[.int .i64 1000, .int .i64 500] 3)).heap.size = w8.heap.size + 1 from Array.size_push _] at this
    rw [hwe]; exact this
  have hE3 : Calls Try.prog 13 #[.agg #[.slice (some ⟨w8.heap.size, 0, none⟩) 2 2, .slice (some ⟨w8.heap.size + 1, 0, none⟩) 2 2], .int .i64 2] we fun e w' => e = .returned (.tuple #[.int .i64 9, .int .i64 0]) ∧ Below we.heap.size we w' := dam_EmptyingOf.calls 20 (some ⟨w8.heap.size, 0, none⟩) 2 [1000, 500] (some ⟨w8.heap.size + 1, 0, none⟩) 2 [300, 100] 2 9 0 we hE1 (Nat.le_refl _) hE2 (Nat.le_refl _) awake_empty
  have hEb : Below w.heap.size w we := by rw [hwe]; exact below_alloc (below_alloc HB8.out _) _
  have hEf : we.heap[F]? = some (.cells #[.int .i64 30, .int .i64 3020, .int .i64 87, .int .i64 0, .int .i64 0, .int .i64 0] 69 (0, 0)) := by rw [hwe]; exact blk_alloc (blk_alloc HFL8.out _) _
  have hEs : we.heap[G]? = some (.cells #[.int .i64 1, .int .i64 2, .int .i64 10] 88 (0, 0)) := by rw [hwe]; exact blk_alloc (blk_alloc HSL8.out _) _
  have hEc : Kd.C (Kd.int .i64) we A8 v3.length v3 := by rw [hwe]; exact Kd.C_alloc (Kd.C_alloc HC8.out.2 _) _
  rw [hwe] at hE3
  have HE := Aside0.mk hE3
  have HEb := Aside0.mk hEb
  have HEf := Aside0.mk hEf
  have HEs := Aside0.mk hEs
  have HEc := Aside0.mk hEc
  rw [hwe] at HEb HEf HEs HEc
  clear hE1 hE2 hE3 hEb hEf hEs hEc hwe
  go_upto_region 5 with (go_at_call 13; refine HE.out.mono ?_; rintro e w9 ⟨rfl, hb9⟩; have HB9 := Aside0.mk (below_step HEb.out hb9); have HFL9 := Aside0.mk (blk_below HEf.out hb9); have HSL9 := Aside0.mk (blk_below HEs.out hb9); have HC9 := Aside0.mk (Kd.C_below HEc.out hb9); clear hb9)
  have hs0 := (blk_cell HSL9.out 0).trans rfl
  have hs1 := (blk_cell HSL9.out 1).trans rfl
  have hs2 := (blk_cell HSL9.out 2).trans rfl
  have hf0 := (blk_cell HFL9.out 0).trans rfl
  have hf1 := (blk_cell HFL9.out 1).trans rfl
  have hf2 := (blk_cell HFL9.out 2).trans rfl
  have hf3 := (blk_cell HFL9.out 3).trans rfl
  have hf4 := (blk_cell HFL9.out 4).trans rfl
  have hf5 := (blk_cell HFL9.out 5).trans rfl
  have hI : Calls Try.prog 26 #[.slice A8 v3.length c8, .slice (some ⟨w9.heap.size, 0, none⟩) 2 2] (w9.alloc (.cells #[.int .i64 0, .int .i64 2] 3)) fun e w' => e = .returned (.bool true) ∧ Drawn0 (w9.alloc (.cells #[.int .i64 0, .int .i64 2] 3)) w' := guidevanebase_Ints.calls 20 A8 c8 v3 (some ⟨w9.heap.size, 0, none⟩) 2 [0, 2] true (w9.alloc (.cells #[.int .i64 0, .int .i64 2] 3)) (Kd.C_alloc HC9.out _) HC8.out.1 (litC w9 3 [0, 2]) (Nat.le_refl _) HI.out
  have HN := Aside0.mk hI
  clear hI
  go_wp2_with (go_at_call 26; refine HN.out.mono ?_; rintro e w10 ⟨rfl, hd⟩; have HB10 := Aside0.mk (below_step (below_alloc HB9.out (.cells #[.int .i64 0, .int .i64 2] 3)) hd.below); clear hd)
  go_ret
  exact ⟨rfl, HB10.out⟩

end Go.Proofs.Yteopooljohdoiaa.Px

namespace Go.Proofs.Yteopooljohdoiaa.Px
open Go.RowKit Go.Proofs.YteopooljohdoiaaW.PrintWords Go.Proofs.YteopooljohdoiaaW.PrintLast Go.Proofs.YteopooljohdoiaaW.PrintMore
attribute [local go_sem] max2_int min2_int max_two min_two max_three min_three max_four min_four   -- for this text's walks alone
set_option linter.unusedVariables false
set_option linter.unusedSimpArgs false

/-! ### guidevanebase_Within: function 15 -/
def guidevanebase_Within.f (a0 : Int) (a1 : Int) (a2 : Int) : Option (Bool) := if a1 ≤ a0 then (some (decide (a0 ≤ a2))) else (some false)
set_option maxHeartbeats 8000000 in
set_option maxRecDepth 100000 in
theorem guidevanebase_Within.calls (a0 : Int) (a1 : Int) (a2 : Int) (r : Bool) (w : World) (h : guidevanebase_Within.f a0 a1 a2 = some r) :
    Calls Try.prog 15 #[.int .i64 a0, .int .i64 a1, .int .i64 a2] w fun e w' => e = .returned (.bool r) ∧ Drawn0 w w' := by
  have H : (if a1 ≤ a0 then (some (decide (a0 ≤ a2))) else (some false)) = some r := h
  clear h
  by_cases c4 : a1 ≤ a0
  · rw [if_pos c4] at H
    have c4b0 : decide (a1 ≤ a0) = true := decide_eq_true c4
    clear c4
    obtain rfl := Option.some.inj H
    go_enter Try.func15, Try.ntmps15
    go_wp2
    go_ret
    exact ⟨by first | rfl | (simp; done) | (simp [*]; done), by repeat (first | exact Drawn0.refl _ | apply Drawn0.step)⟩
  · rw [if_neg c4] at H
    have c4b0 : decide (a1 ≤ a0) = false := decide_eq_false c4
    clear c4
    obtain rfl := Option.some.inj H
    go_enter Try.func15, Try.ntmps15
    go_wp2
    go_ret
    exact ⟨by first | rfl | (simp; done) | (simp [*]; done), by repeat (first | exact Drawn0.refl _ | apply Drawn0.step)⟩

end Go.Proofs.Yteopooljohdoiaa.Px

namespace Go.Proofs.Yteopooljohdoiaa.Px
open Go.RowKit Go.Proofs.YteopooljohdoiaaW.PrintWords Go.Proofs.YteopooljohdoiaaW.PrintLast Go.Proofs.YteopooljohdoiaaW.PrintMore
attribute [local go_sem] max2_int min2_int max_two min_two max_three min_three max_four min_four   -- for this text's walks alone
set_option linter.unusedVariables false
set_option linter.unusedSimpArgs false

/-! ### guidevanebase_CopyInts: function 49 -/
def guidevanebase_CopyInts.f (l0 : List Int) : Option (List Int) := (some (([] : List Int) : List Int)).bind fun y147001 => (if y147001.length + l0.length < 17592186044416 then (some (y147001 ++ l0)) else (none))
set_option maxHeartbeats 8000000 in
set_option maxRecDepth 100000 in
theorem guidevanebase_CopyInts.calls (A0 : Option Addr) (c0 : Nat) (l0 : List Int) (r : List Int) (w : World) (hr0 : Kd.C (Kd.int .i64) w A0 l0.length l0) (hc0 : l0.length ≤ c0) (h : guidevanebase_CopyInts.f l0 = some r) :
    Calls Try.prog 49 #[.slice A0 l0.length c0] w fun e w' => ∃ v0_ : Value, e = .returned (v0_) ∧ Kd.R (Kd.int .i64) 3 w' w.heap.size (fun _ => True) v0_ r ∧ Below w.heap.size w w' := by
  have HR0 := Aside0.mk hr0
  have HC0 := Aside0.mk hc0
  clear hr0 hc0
  have HB := Aside0.mk (Below.refl w.heap.size w)
  have H : ((some (([] : List Int) : List Int)).bind fun y147001 => (if y147001.length + l0.length < 17592186044416 then (some (y147001 ++ l0)) else (none))) = some r := h
  clear h
  obtain ⟨y147001, hy147001⟩ : ∃ y_ : List Int, y_ = (([] : List Int)) := ⟨_, rfl⟩
  replace H : (if y147001.length + l0.length < 17592186044416 then (some (y147001 ++ l0)) else (none)) = some r := by first | (rw [hy147001]; with_reducible exact H) | (have H2_ := (Option.bind_some _ _).symm.trans H; rw [hy147001]; with_reducible exact H2_) | (have H2_ := (Option.bind_some _ _).symm.trans H; with_reducible exact H2_) | with_reducible exact H | (rw [hy147001]; exact H) | exact H
  have Ny147001 := Aside0.mk hy147001
  clear hy147001
  by_cases c2 : y147001.length + l0.length < 17592186044416
  · rw [if_pos c2] at H
    have LMc2 := Aside0.mk c2
    clear c2
    obtain ⟨y147004, hy147004⟩ : ∃ y_ : List Int, y_ = (y147001 ++ l0) := ⟨_, rfl⟩
    replace H : (some y147004) = some r := by first | (rw [hy147004]; with_reducible exact H) | (have H2_ := (Option.bind_some _ _).symm.trans H; rw [hy147004]; with_reducible exact H2_) | (have H2_ := (Option.bind_some _ _).symm.trans H; with_reducible exact H2_) | with_reducible exact H | (rw [hy147004]; exact H) | exact H
    have Ny147004 := Aside0.mk hy147004
    clear hy147004
    obtain rfl := Option.some.inj H
    go_enter Try.func49, Try.ntmps49
    go_wp2_with (first | ((with_reducible refine gate_dst (N := 3) rfl ?_); refine Kd.R_lit (Kd.int .i64) _ 3 ?hg (N := 3) ?hd (xs := ([] : List Int)) (inner := []) (ok := fun _ => True) (okp := fun _ => True) ?hr ?hp (fun _ hk => hk) trivial (Below.refl _ _) (Nat.le_refl _) (by simp) ?_; (case hd => rfl); (case hg => rfl); (case hr => first | (go_simp; done) | (go_simp; rfl)); (case hp => exact (Reps.none _ _)); intro v147002 w3 ho4 hb hg_ hnew_; clear hg_ hnew_; (first | rw [← Ny147001.out] at ho4 | (simp only [Int.reduceToNat] at ho4; rw [← Ny147001.out] at ho4)); have n0_ := Aside0.mk (Kd.R_lower ho4 (below_size (by repeat (first | (with_reducible first | exact HB.out | apply below_alloc | apply pw_below_drewN | apply below_drew1) | exact HB.out)))); have n1_ := Aside0.mk (below_step (by repeat (first | (with_reducible first | exact HB.out | apply below_alloc | apply pw_below_drewN | apply below_drew1) | exact HB.out)) hb); clear HB; have HO147003 := n0_; have HB := n1_; clear n0_ n1_; clear hb ho4) | ((with_reducible refine gate_builtin (b := .append) (xs := #[.tmp 3, .tmp 4]) rfl ?_); at_builtin; refine Kd.R_append_rows (Kd.int .i64) (w0 := w) w.heap.size rfl (.tmp 3) (.tmp 4) 22 3 (.int .i64 0) 8 rfl Try.underlying22 info3 rfl (by decide) (by omega) v147002 y147001 l0 _ _ _ (fun _ => True) (fun _ => False) rfl rfl ?aO ?aR (fun _ _ h => h) (fun _ h => h.elim) ?aF ?aB ?aS ?aL ?_; (case aR => repeat (first | exact (Kd.C_below HR0.out HB.out) | (with_reducible refine Kd.C_alloc ?_ _) | (with_reducible refine Kd.C_drewN ?_ _) | (with_reducible refine Kd.C_drew ?_))); (case aB => exact (by repeat (first | (with_reducible first | exact HB.out | apply below_alloc | apply pw_below_drewN | apply below_drew1) | exact HB.out))); (case aF => exact (fun _ _ => trivial)); (case aO => exact (by (with_reducible repeat (first | apply Kd.R_alloc | apply Kd.R_drewN | apply Kd.R_drew)); exact HO147003.out)); (case aS => exact (below_size (by repeat (first | (with_reducible first | exact HB.out | apply below_alloc | apply pw_below_drewN | apply below_drew1) | exact HB.out)))); (case aL => have := LMc2.out; omega); intro v147005 w5 ho hb hg hat; rw [← Ny147004.out] at ho; have n0_ := Aside0.mk (hb); have n1_ := Aside0.mk (ho); clear HB; clear HO147003; have HB := n0_; have HO147006 := n1_; clear n0_ n1_; clear ho hb hg hat))
    go_ret
    exact ⟨_, by first | rfl | (simp [errW_none, errW_some] <;> rfl) | (simp [*, errW_none, errW_some] <;> rfl), by (with_reducible repeat (first | apply Kd.R_alloc | apply Kd.R_drewN | apply Kd.R_drew)); exact HO147006.out, by repeat (first | (with_reducible first | exact HB.out | apply below_alloc | apply pw_below_drewN | apply below_drew1) | exact HB.out)⟩
  · rw [if_neg c2] at H
    exact absurd H (by simp)

end Go.Proofs.Yteopooljohdoiaa.Px

/- Shared plain facts of the pure laws. -/
set_option linter.unusedVariables false
set_option linter.unusedSimpArgs false
namespace Go.Proofs.Yteopooljohdoiaa.Px
open Go.RowKit Go.Proofs.YteopooljohdoiaaW.PrintWords Go.Proofs.YteopooljohdoiaaW.PrintLast

theorem dwithin_f (a b c : Int) : dam_within.f a b c = some (decide (b ≤ a) && decide (a ≤ c)) := by
  unfold dam_within.f
  by_cases h : b ≤ a <;> simp [h]
theorem bwithin_f (a b c : Int) : guidevanebase_Within.f a b c = some (decide (b ≤ a) && decide (a ≤ c)) := by
  unfold guidevanebase_Within.f
  by_cases h : b ≤ a <;> simp [h]
theorem dunless_f (b : Bool) (e : Int) : dam_unless.f b e = some (if b = true then 0 else e) := by cases b <;> rfl
theorem pw64 {n : Int} (h0 : -9223372036854775808 ≤ n) (h1 : n ≤ 9223372036854775807) : wrap64 n = n := by unfold wrap64; omega
def firstE : List Int → Int
  | [] => 0
  | x :: xs => if x = 0 then firstE xs else x
theorem dfirst_go (l : List Int) (hl : l.length ≤ 1000) : ∀ (d i k : Nat), i + d = l.length → d < k → dam_first.l0 k l (l.length : Int) (i : Int) = some (firstE (l.drop i)) := by
  intro d
  induction d with
  | zero =>
    intro i k hi hk
    obtain ⟨k, rfl⟩ : ∃ m, k = m + 1 := ⟨k - 1, by omega⟩
    obtain rfl : i = l.length := by omega
    simp only [dam_first.l0]
    rw [if_neg (by omega), List.drop_length]; rfl
  | succ d ih =>
    intro i k hi hk
    obtain ⟨k, rfl⟩ : ∃ m, k = m + 1 := ⟨k - 1, by omega⟩
    have hlt : i < l.length := by omega
    simp only [dam_first.l0]
    rw [if_pos (by omega), if_pos (by omega), if_pos (by omega)]
    have hr : rd l (i : Int) = l[i] := by unfold rd; rw [Int.toNat_natCast, List.getD_eq_getElem?_getD, List.getElem?_eq_getElem hlt]; rfl
    rw [hr, List.drop_eq_getElem_cons hlt]
    by_cases h : l[i] = 0
    · rw [if_pos h, pw64 (by omega) (by omega), show ((i : Int) + 1) = ((i + 1 : Nat) : Int) from rfl, ih (i + 1) k (by omega) (by omega)]
      simp [firstE, h]
    · rw [if_neg h]
      simp [firstE, h]
theorem dfirst_f (l : List Int) (k : Nat) (hl : l.length ≤ 1000) (hk : l.length < k) : dam_first.f k l = some (firstE l) := by
  unfold dam_first.f
  exact dfirst_go l hl l.length 0 k (by omega) hk
/-- The first index from i on, among d, at which p holds, with the error e; else 0 and 0. -/
def firstAt (p : Nat → Bool) (e : Int) : Nat → Nat → Int × Int
  | _, 0 => (0, 0)
  | i, d + 1 => if p i = true then ((i : Int), e) else firstAt p e (i + 1) d
theorem firstAt_err (p : Nat → Bool) (e : Int) (he : ¬ e = 0) : ∀ (d i : Nat), ((firstAt p e i d).2 = 0 ∧ (∀ j, i ≤ j → j < i + d → p j = false)) ∨ (firstAt p e i d).2 = e
  | 0, i => .inl ⟨rfl, fun j h1 h2 => by omega⟩
  | d + 1, i => by
    unfold firstAt
    by_cases h : p i = true
    · rw [if_pos h]; exact .inr rfl
    · rw [if_neg h]
      rcases firstAt_err p e he d (i + 1) with ⟨h1, h2⟩ | h1
      · refine .inl ⟨h1, fun j hj1 hj2 => ?_⟩
        by_cases hj : j = i
        · subst hj; simpa using h
        · exact h2 j (by omega) (by omega)
      · exact .inr h1
theorem rd_nat (l : List Int) (i : Nat) : rd l (i : Int) = l.getD i 0 := by unfold rd; rw [Int.toNat_natCast]
theorem copyInts_f (l : List Int) (h : l.length < 17592186044416) : guidevanebase_CopyInts.f l = some l := by
  unfold guidevanebase_CopyInts.f
  simp only [Option.bind_some]
  rw [if_pos (by simpa using h)]
  rfl
end Go.Proofs.Yteopooljohdoiaa.Px

/- From the form's reading of data (DataW.trod) to the print's kinds (Kd): what an argument that can be read as data is, kind by kind. -/
set_option linter.unusedVariables false
set_option linter.unusedSimpArgs false
namespace Go.Proofs.Yteopooljohdoiaa.Px
open Go.RowKit Go.Proofs.YteopooljohdoiaaW.PrintWords

/-- Whatever reads as data at type t is cells of the kind d, and ok holds of the value. -/
def Opens {α : Type} (P : Program) (d : Kd α) (t : TypeId) (ok : α → Prop) : Prop :=
  ∀ {H : Type} (enc : TypeId × Value → H) (w : World) (fuel : Nat) (cs : List Value) (x : DataW H × List MemPlace), DataW.trod enc P w 0 (fun _ => true) true fuel t cs = some x → ∃ y, d.K w y cs ∧ ok y
theorem Opens.int {P : Program} {t : TypeId} {k : IntKind} (ht : P.underlying t = some (.int k)) : Opens P (Kd.int k) t (fun y => (Lit.int k y).wf = true) := by
  intro H enc w fuel cs x h
  cases fuel with
  | zero => simp [DataW.trod] at h
  | succ n =>
    unfold DataW.trod at h
    rw [ht] at h
    split at h <;> simp_all
    exact ⟨_, rfl, h.1.2⟩
theorem Opens.str {P : Program} {t : TypeId} (ht : P.underlying t = some .string) : Opens P Kd.string t (fun y => y.size ≤ maxLen) := by
  intro H enc w fuel cs x h
  cases fuel with
  | zero => simp [DataW.trod] at h
  | succ n =>
    unfold DataW.trod at h
    rw [ht] at h
    split at h <;> simp_all
    exact ⟨_, rfl, h.1⟩
theorem cells?_at {w : World} {a : Addr} {n : Nat} {cs : List Value} (h : w.cells? 0 a n = some cs) : cs.length = n ∧ ∀ i u, cs[i]? = some u → w.cell? (a.add i) = some u := by
  unfold World.cells? at h
  rw [if_pos (Nat.zero_le _)] at h
  have hl := mapM_some_length h
  refine ⟨by simpa using hl, fun i u hu => ?_⟩
  have hi : i < cs.length := (List.getElem?_eq_some_iff.1 hu).1
  have hl' : cs.length = n := by simpa using hl
  have hr : (List.range n)[i]? = some i := by rw [List.getElem?_range (by omega)]
  have := mapM_some_get h i i hr
  rw [this, hu]
theorem list_of {α : Type} (n : Nat) (p : Nat → α → Prop) (key : ∀ i, i < n → ∃ y, p i y) : ∃ ys : List α, ys.length = n ∧ ∀ i y, ys[i]? = some y → p i y := by
  induction n with
  | zero => exact ⟨[], rfl, by simp⟩
  | succ n ih =>
    obtain ⟨ys, hlen, hys⟩ := ih (fun i hi => key i (by omega))
    obtain ⟨y, hy⟩ := key n (by omega)
    refine ⟨ys ++ [y], by simp [hlen], fun i z hz => ?_⟩
    rcases Nat.lt_or_ge i ys.length with hi | hi
    · rw [List.getElem?_append_left hi] at hz
      exact hys i z hz
    · have : i = n := by
        have := (List.getElem?_eq_some_iff.1 hz).1
        simp at this
        omega
      subst this
      rw [← hlen] at hz
      simp at hz
      subst hz
      exact hlen ▸ hy
theorem Opens.slice {α : Type} {P : Program} {d : Kd α} {t e : TypeId} {ok : α → Prop} (ht : P.underlying t = some (.slice e)) (hsz : P.cellsOf e = d.sz) (he : Opens P d e ok) :
    Opens P (Kd.slice e d) t (fun ys => ys.length ≤ maxLen ∧ ∀ y ∈ ys, ok y) := by
  intro H enc w fuel cs x h
  rcases Go.Deep.open_slice ht h with ⟨rfl, _⟩ | ⟨a, len, cap, m, n, D, Pl, rfl, _, hl, hm, hmm, hx_, hel⟩
  · exact ⟨[], ⟨none, 0, rfl, Nat.le_refl _, Kd.C_nil _ _⟩, by simp⟩
  · have hmc : m = cap := by simpa using hmm
    have key : ∀ i, i < len → ∃ y, (∃ c, c.length = d.sz ∧ d.K w y c ∧ ∀ j u, c[j]? = some u → w.cell? ((a.add (i * d.sz)).add j) = some u) ∧ ok y := by
      intro i hi
      obtain ⟨cs', hc, ht'⟩ := hel i (by omega)
      rw [hsz] at hc
      obtain ⟨h1, h2⟩ := cells?_at hc
      obtain ⟨y, hK, hy⟩ := he enc w _ _ _ ht'
      exact ⟨y, ⟨cs', h1, hK, h2⟩, hy⟩
    obtain ⟨ys, hlen, hys⟩ := list_of len _ key
    refine ⟨ys, ⟨some a, cap, by rw [hlen], by omega, rfl, by simp only [maxLen] at hm; omega, fun _ => ⟨a, rfl, fun j p hp => ?_⟩⟩, by omega, fun y hy => ?_⟩
    · obtain ⟨⟨c, h1, h2, h3⟩, _⟩ := hys j p hp
      exact ⟨c, h1, h2, fun i u hu => by rw [← Go.Deep.add_add]; exact h3 i u hu⟩
    · obtain ⟨i, hi, rfl⟩ := List.getElem_of_mem hy
      exact (hys i _ (List.getElem?_eq_getElem hi)).2

/-- The same of a row of fields (their types, one behind the other). -/
def OpensL {α : Type} (P : Program) (d : Kd α) (ts : List TypeId) (ok : α → Prop) : Prop :=
  ∀ {H : Type} (enc : TypeId × Value → H) (w : World) (fuel : Nat) (cs : List Value), cs.length = (ts.map P.cellsOf).sum →
    (∀ i t, ts[i]? = some t → ∃ x, DataW.trod enc P w 0 (fun _ => true) true fuel t ((cs.drop ((ts.take i).map P.cellsOf).sum).take (P.cellsOf t)) = some x) → ∃ y, d.K w y cs ∧ ok y
theorem OpensL.one {α : Type} {P : Program} {d : Kd α} {t : TypeId} {ok : α → Prop} (h : Opens P d t ok) : OpensL P d [t] ok := by
  intro H enc w fuel cs hl hx
  obtain ⟨x, hx⟩ := hx 0 t rfl
  have : cs.take (P.cellsOf t) = cs := List.take_of_length_le (by simp at hl; omega)
  simp only [List.take_zero, List.map_nil, List.sum_nil, List.drop_zero, this] at hx
  exact h enc w fuel cs x hx
theorem OpensL.cons {α β : Type} {P : Program} {d : Kd α} {d2 : Kd β} {t : TypeId} {ts : List TypeId} {ok : α → Prop} {ok2 : β → Prop} (h : Opens P d t ok) (h2 : OpensL P d2 ts ok2) :
    OpensL P (Kd.pair d d2) (t :: ts) (fun y => ok y.1 ∧ ok2 y.2) := by
  intro H enc w fuel cs hl hx
  have hl' : cs.length = P.cellsOf t + (ts.map P.cellsOf).sum := by simpa using hl
  obtain ⟨x, h0⟩ := hx 0 t rfl
  simp only [List.take_zero, List.map_nil, List.sum_nil, List.drop_zero] at h0
  obtain ⟨y, hK, hy⟩ := h enc w fuel _ x h0
  obtain ⟨z, hK2, hz⟩ := h2 enc w fuel (cs.drop (P.cellsOf t)) (by simp; omega) (fun i u hu => by
    obtain ⟨x, h1⟩ := hx (i + 1) u (by simpa using hu)
    refine ⟨x, ?_⟩
    rw [List.drop_drop]
    simpa using h1)
  exact ⟨(y, z), ⟨cs.take (P.cellsOf t), cs.drop (P.cellsOf t), (List.take_append_drop _ _).symm, hK, hK2⟩, hy, hz⟩
theorem Opens.struct {α : Type} {P : Program} {d : Kd α} {t : TypeId} {fs : Array Field} {ok : α → Prop} (ht : P.underlying t = some (.struct fs)) (hc : P.cellsOf t = ((fs.toList.map (·.type)).map P.cellsOf).sum)
    (ho : ∀ i f, fs[i]? = some f → f.offset = (((fs.toList.map (·.type)).take i).map P.cellsOf).sum) (h : OpensL P d (fs.toList.map (·.type)) ok) : Opens P d t ok := by
  intro H enc w fuel cs x hx
  obtain ⟨xs, n, rfl, rfl, hl, hxl, hf⟩ := DataW.trod_struct ht hx
  refine h enc w n cs (by rw [hl, hc]) (fun i u hu => ?_)
  simp only [List.getElem?_map, Option.map_eq_some_iff] at hu
  obtain ⟨f, hfi, rfl⟩ := hu
  have hfi' : fs[i]? = some f := by simpa using hfi
  have := hf i f hfi'
  rw [ho i f hfi'] at this
  have hi : i < xs.length := by
    have := (Array.getElem?_eq_some_iff.1 hfi').1
    omega
  exact ⟨xs[i], by rw [this, List.getElem?_eq_getElem hi]⟩
theorem Opens.iso {α β : Type} {P : Program} {d : Kd α} {t : TypeId} {ok : α → Prop} (h : Opens P d t ok) (f : β → α) (g : α → β) (hfg : ∀ x, f (g x) = x) : Opens P (Kd.iso d f) t (fun y => ok (f y)) := by
  intro H enc w fuel cs x hx
  obtain ⟨y, hK, hy⟩ := h enc w fuel cs x hx
  exact ⟨g y, by show d.K w (f (g y)) cs; rw [hfg]; exact hK, by show ok (f (g y)); rw [hfg]; exact hy⟩
end Go.Proofs.Yteopooljohdoiaa.Px
