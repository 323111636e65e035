/- DamWatches: for every input the call returns true and each argument reads afterwards as it read before; no condition. (its contracts and its pure law) -/
import Derived.Test.YteopooljohdoiaaDDamWatches1
import Derived.Test.YteopooljohdoiaaK3
import Derived.Test.YteopooljohdoiaaK1
/- DamWatches: the law's own walk, over the contracts of what it calls. -/
set_option linter.unusedVariables false
set_option linter.unusedSimpArgs false
namespace Go.Proofs.Yteopooljohdoiaa.Px
open Go.RowKit Go.Proofs.YteopooljohdoiaaW.PrintWords Go.Proofs.YteopooljohdoiaaW.PrintLast Go.Proofs.YteopooljohdoiaaW.PrintMore
attribute [local go_sem] max2_int min2_int max_two min_two max_three min_three max_four min_four
attribute [local go_sem high] eqA88

theorem keepXS {wr W : World} {X : Nat} {T U : TypeId} {a b c d x y z : Value} (hX : wr.heap[X]? = some (.cells #[a, b, c, d] T (0, 0))) (hS : wr.heap[X + 1]? = some (.cells #[x, y, z] U (0, 0))) (h : Below wr.heap.size wr W) :
    W.cell? ⟨X, 0, none⟩ = some a ∧ W.cell? ⟨X, 1, none⟩ = some b ∧ W.cell? ⟨X, 2, none⟩ = some c ∧ W.cell? ⟨X, 3, none⟩ = some d ∧ W.cell? ⟨X + 1, 0, none⟩ = some x ∧ W.cell? ⟨X + 1, 1, none⟩ = some y ∧ W.cell? ⟨X + 1, 2, none⟩ = some z ∧ Below wr.heap.size wr W := by
  obtain ⟨h0, h1, h2, h3⟩ := cells4 (blk_below hX h)
  obtain ⟨h4, h5, h6⟩ := cells3 (blk_below hS h)
  exact ⟨h0, h1, h2, h3, h4, h5, h6, h⟩
theorem new_d (w w1 : World) (o : Obj) (h : Below (w.drew.alloc o).heap.size (w.drew.alloc o) w1) : w1.heap[w.heap.size]? = some o := blk_below (w := w.drew.alloc o) (blk_new w.drew o) h
theorem new_b (w w1 : World) (o : Obj) (h : Below (w.alloc o).heap.size (w.alloc o) w1) : w1.heap[w.heap.size]? = some o := blk_below (blk_new w o) h
theorem keepXSD {wr W : World} {X D : Nat} {T U V : TypeId} {a b c d x y z p q r : Value} (hX : wr.heap[X]? = some (.cells #[a, b, c, d] T (0, 0))) (hS : wr.heap[X + 1]? = some (.cells #[x, y, z] U (0, 0))) (hD : wr.heap[D]? = some (.cells #[p, q, r] V (0, 0))) (h : Below wr.heap.size wr W) :
    W.cell? ⟨D, 0, none⟩ = some p ∧ W.cell? ⟨D, 1, none⟩ = some q ∧ W.cell? ⟨D, 2, none⟩ = some r ∧ W.cell? ⟨X, 0, none⟩ = some a ∧ W.cell? ⟨X, 1, none⟩ = some b ∧ W.cell? ⟨X, 2, none⟩ = some c ∧ W.cell? ⟨X, 3, none⟩ = some d ∧ W.cell? ⟨X + 1, 0, none⟩ = some x ∧ W.cell? ⟨X + 1, 1, none⟩ = some y ∧ W.cell? ⟨X + 1, 2, none⟩ = some z ∧ Below wr.heap.size wr W := by
  obtain ⟨h0, h1, h2⟩ := cells3 (blk_below hD h)
  exact ⟨h0, h1, h2, keepXS hX hS h⟩
theorem size_b (w : World) (o : Obj) : w.heap.size ≤ (w.alloc o).heap.size := by rw [show (w.alloc o).heap.size = w.heap.size + 1 from Array.size_push _]; exact Nat.le_succ _
theorem size_d (w : World) (o : Obj) : w.heap.size ≤ (w.drew.alloc o).heap.size := size_b w.drew o
theorem meet_put {w wa wd : World} {G : Nat} {R S : Array Value} {T U : TypeId} {z0 z1 z2 a b c q : Value} (HB : Below w.heap.size w wa) (HX : wa.heap[w.heap.size]? = some (.cells R T (0, 0))) (HS : wa.heap[w.heap.size + 1]? = some (.cells S U (0, 0))) (hd : wd.heap[G]? = some (.cells #[z0, z1, z2] U (0, 0))) (hk : Below wa.heap.size wa wd) (hG : wa.heap.size ≤ G) :
    ∃ D : Nat, Value.pointer (some ⟨G, 0, none⟩) = .pointer (some ⟨D, 0, none⟩) ∧ q = q ∧ Below w.heap.size w (((wd.setCell ⟨G, 0, none⟩ a).setCell ⟨G, 1, none⟩ b).setCell ⟨G, 2, none⟩ c) ∧ (((wd.setCell ⟨G, 0, none⟩ a).setCell ⟨G, 1, none⟩ b).setCell ⟨G, 2, none⟩ c).heap[w.heap.size]? = some (.cells R T (0, 0)) ∧ (((wd.setCell ⟨G, 0, none⟩ a).setCell ⟨G, 1, none⟩ b).setCell ⟨G, 2, none⟩ c).heap[w.heap.size + 1]? = some (.cells S U (0, 0)) ∧ (((wd.setCell ⟨G, 0, none⟩ a).setCell ⟨G, 1, none⟩ b).setCell ⟨G, 2, none⟩ c).heap[D]? = some (.cells #[a, b, c] U (0, 0)) := by
  have h := below_set (v := c) (j := 2) (below_set (v := b) (j := 1) (below_set (v := a) (j := 0) hk hG) hG) hG
  exact ⟨G, rfl, rfl, below_step HB h, blk_below HX h, blk_below HS h, blk_put (blk_put (blk_put hd 0 _ rfl) 1 _ rfl) 2 _ rfl⟩
theorem meet_new {w wa wd : World} {R S : Array Value} {T U : TypeId} {a b c q : Value} (HB : Below w.heap.size w wa) (HX : wa.heap[w.heap.size]? = some (.cells R T (0, 0))) (HS : wa.heap[w.heap.size + 1]? = some (.cells S U (0, 0))) (hk : Below wa.heap.size wa wd) :
    ∃ D : Nat, Value.pointer (some ⟨wd.heap.size, 0, none⟩) = .pointer (some ⟨D, 0, none⟩) ∧ q = q ∧ Below w.heap.size w (wd.alloc (.cells #[a, b, c] U)) ∧ (wd.alloc (.cells #[a, b, c] U)).heap[w.heap.size]? = some (.cells R T (0, 0)) ∧ (wd.alloc (.cells #[a, b, c] U)).heap[w.heap.size + 1]? = some (.cells S U (0, 0)) ∧ (wd.alloc (.cells #[a, b, c] U)).heap[D]? = some (.cells #[a, b, c] U (0, 0)) := by
  have h := below_alloc hk (.cells #[a, b, c] U)
  exact ⟨_, rfl, rfl, below_step HB h, blk_below HX h, blk_below HS h, blk_new _ _⟩
theorem watch_cases (ups downs : List Int) (hold : Int) (ps : List Pers) (a b x d : Int) (h : fewR ups downs ps) : ∃ i e n f x0 x1 x2 g de se : Int,
    dam_CheckRules.f ups downs hold ps = some (i, e) ∧ guidevaneref09_CheckRules.f ups downs hold ps = some (i, e) ∧ dam_AskedFor.f 1000 ups downs hold ps d = some (n, f) ∧ dam_Watched.f 1000 ups downs hold ps a b x d = some (x0, x1, x2, g) ∧ guidevaneref09_DeviationErr.f d = some de ∧ guidevaneref09_StateErr.f 1000 ups downs hold ps a b x = some se ∧
    ((¬ e = 0 ∧ n = 0 ∧ f = e ∧ x0 = 0 ∧ x1 = 0 ∧ x2 = 0 ∧ g = e) ∨ (e = 0 ∧ ¬ de = 0 ∧ n = 0 ∧ f = de ∧ ¬ se = 0 ∧ g = se ∧ x0 = 0 ∧ x1 = 0 ∧ x2 = 0) ∨ (e = 0 ∧ ¬ de = 0 ∧ n = 0 ∧ f = de ∧ se = 0 ∧ g = de ∧ x0 = 0 ∧ x1 = 0 ∧ x2 = 0)
      ∨ (e = 0 ∧ de = 0 ∧ f = 0 ∧ guidevaneref09_Asked.f 1000 ups downs hold ps d = some n ∧ ¬ se = 0 ∧ g = se ∧ x0 = 0 ∧ x1 = 0 ∧ x2 = 0) ∨ (e = 0 ∧ de = 0 ∧ f = 0 ∧ guidevaneref09_Asked.f 1000 ups downs hold ps d = some n ∧ se = 0 ∧ g = 0 ∧ guidevaneref09_Watched.f 1000 ups downs hold ps a b x d = some (x0, x1, x2))) := by
  have h1 := dcheck_f ups downs hold ps h
  have h2 := rcheck_f ups downs hold ps h
  have h3 := devErr_f d
  have h4 := rstErr_f ups downs hold ps a b x 1000 (by omega)
  by_cases he : (rulesOut ups downs hold ps).2 = 0
  · have hs := okRules_of he
    obtain ⟨c, hc⟩ := step_ex ups downs hs d
    cases hd : isDev d
    · have h5 := askedFor_dev ups downs hold ps d 1000 h he hd
      rw [show devOk d = isDev d from rfl, hd] at h3
      by_cases hst : stErr ups.length a b x = 0
      · exact ⟨_, _, _, _, _, _, _, _, _, _, h1, h2, h5, watched_dev ups downs hold ps a b x d 1000 h (by omega) he hst hd, h3, h4, .inr (.inr (.inl ⟨he, by decide, rfl, rfl, hst, rfl, rfl, rfl, rfl⟩))⟩
      · exact ⟨_, _, _, _, _, _, _, _, _, _, h1, h2, h5, watched_st ups downs hold ps a b x d 1000 h (by omega) he hst, h3, h4, .inr (.inl ⟨he, by decide, rfl, rfl, hst, rfl, rfl, rfl, rfl⟩)⟩
    · have h5 := askedFor_ok ups downs hold ps d 1000 h (by omega) he hd c hc
      have h6 := rasked_f ups downs hold ps d 1000 hs (by omega) c hc
      rw [show devOk d = isDev d from rfl, hd] at h3
      by_cases hst : stErr ups.length a b x = 0
      · exact ⟨_, _, _, _, _, _, _, _, _, _, h1, h2, h5, watched_ok ups downs hold ps a b x d 1000 h (by omega) he hst hd c hc, h3, h4, .inr (.inr (.inr (.inr ⟨he, rfl, rfl, h6, hst, rfl, rwatched_f ups downs hold ps a b x d 1000 hs (stErr_zero hst).1 (by omega) c hc⟩)))⟩
      · exact ⟨_, _, _, _, _, _, _, _, _, _, h1, h2, h5, watched_st ups downs hold ps a b x d 1000 h (by omega) he hst, h3, h4, .inr (.inr (.inr (.inl ⟨he, rfl, rfl, h6, hst, rfl, rfl, rfl, rfl⟩)))⟩
  · exact ⟨_, _, _, _, _, _, _, _, _, _, h1, h2, askedFor_bad ups downs hold ps d 1000 h he, watched_bad ups downs hold ps a b x d 1000 h (by omega) he, h3, h4, .inl ⟨he, rfl, rfl, rfl, rfl, rfl, rfl⟩⟩
set_option maxHeartbeats 8000000 in
set_option maxRecDepth 100000 in
theorem damWatches_walk (A0_0 : Option Addr) (c0_0 : Nat) (l0_0 : List Int) (A0_1 : Option Addr) (c0_1 : Nat) (l0_1 : List Int) (a0_2 : Int) (A0_3 : Option Addr) (c0_3 : Nat) (l0_3 : List S135) (a1_0 a1_1 a1_2 a2 : Int) (w : World) (hr0_0 : Kd.C (Kd.int .i64) w A0_0 l0_0.length l0_0) (hc0_0 : l0_0.length ≤ c0_0) (hr0_1 : Kd.C (Kd.int .i64) w A0_1 l0_1.length l0_1) (hc0_1 : l0_1.length ≤ c0_1) (hr0_3 : Kd.C k135 w A0_3 l0_3.length l0_3) (hc0_3 : l0_3.length ≤ c0_3) :
    Calls Try.prog 9 #[.agg #[.slice A0_0 l0_0.length c0_0, .slice A0_1 l0_1.length c0_1, .int .i64 a0_2, .slice A0_3 l0_3.length c0_3], .agg #[.int .i64 a1_0, .int .i64 a1_1, .int .i64 a1_2], .int .i64 a2] w fun e w' => e = .returned (.bool true) ∧ Below w.heap.size w w' := by
  have hu1 := Try.underlying85
  have hu2 := Try.underlying88
  have HR0 := Aside0.mk hr0_0
  have HR1 := Aside0.mk hr0_1
  have HR3 := Aside0.mk hr0_3
  have HC := Aside0.mk (And.intro hc0_0 (And.intro hc0_1 hc0_3))
  clear hr0_0 hr0_1 hr0_3 hc0_0 hc0_1 hc0_3
  obtain ⟨few, hf, hfew⟩ := few_f l0_0 l0_1 a0_2 l0_3 1000 (by omega)
  have HF := Aside0.mk hf
  have HFW := Aside0.mk hfew
  clear hf hfew
  go_enter Try.func9, Try.ntmps9
  go_upto_region 1 with fail
  obtain ⟨w1, hw, hX, hS, hb1⟩ := alloc2 w #[.slice A0_0 l0_0.length c0_0, .slice A0_1 l0_1.length c0_1, .int .i64 a0_2, .slice A0_3 l0_3.length c0_3] #[.int .i64 a1_0, .int .i64 a1_1, .int .i64 a1_2] 85 88
  rw [← hw]
  have HX := Aside0.mk hX
  have HS := Aside0.mk hS
  have HB := Aside0.mk hb1
  clear hX hS hb1 hw
  go_upto_region 3 with (go_at_call 10; refine (guidevanelaw09_awake.calls true _ rfl).mono ?_; rintro e w2 ⟨rfl, hb⟩; have HB2 := Aside0.mk (below_step HB.out hb); have HX2 := Aside0.mk (blk_below HX.out hb); have HS2 := Aside0.mk (blk_below HS.out hb); clear hb)
  obtain ⟨hx0, hx1, hx2, hx3⟩ := cells4 HX2.out
  clear HB HX HS
  have HB := HB2
  have HX := HX2
  have HS := HS2
  clear HB2 HX2 HS2
  cases few
  · go_wp2_with (go_at_call 46; refine (guidevanelaw09_fewRules.calls 1000 A0_0 c0_0 l0_0 A0_1 c0_1 l0_1 a0_2 A0_3 c0_3 l0_3 false _ (Kd.C_below HR0.out HB.out) HC.out.1 (Kd.C_below HR1.out HB.out) HC.out.2.1 (Kd.C_below HR3.out HB.out) HC.out.2.2 HF.out).mono ?_; rintro e_ wa ⟨rfl, hb⟩; have nb := Aside0.mk (below_step HB.out hb); have nx := Aside0.mk (blk_below HX.out hb); have ns := Aside0.mk (blk_below HS.out hb); clear HB HX HS hb; have HB := nb; have HX := nx; have HS := ns; clear nb nx ns)
    go_ret
    exact ⟨rfl, HB.out⟩
  · have h := HFW.out rfl
    have HCP := Aside0.mk (copyRules_f l0_0 l0_1 a0_2 l0_3 h)
    obtain ⟨i, e, n, f, x0, x1, x2, g, de, se, hck, hrk, has, hwt, hde, hse, hcase⟩ := watch_cases l0_0 l0_1 a0_2 l0_3 a1_0 a1_1 a1_2 a2 h
    have HCK := Aside0.mk hck
    have HRK := Aside0.mk hrk
    have HAS := Aside0.mk has
    have HWT := Aside0.mk hwt
    have HDE := Aside0.mk hde
    have HSE := Aside0.mk hse
    have HCS := Aside0.mk hcase
    clear h hck hrk has hwt hde hse hcase HFW
    go_upto_region 5 with (go_at_call 46; refine (guidevanelaw09_fewRules.calls 1000 A0_0 c0_0 l0_0 A0_1 c0_1 l0_1 a0_2 A0_3 c0_3 l0_3 true _ (Kd.C_below HR0.out HB.out) HC.out.1 (Kd.C_below HR1.out HB.out) HC.out.2.1 (Kd.C_below HR3.out HB.out) HC.out.2.2 HF.out).mono ?_; rintro e_ wa ⟨rfl, hb⟩; have nb := Aside0.mk (below_step HB.out hb); have nx := Aside0.mk (blk_below HX.out hb); have ns := Aside0.mk (blk_below HS.out hb); clear HB HX HS hb; have HB := nb; have HX := nx; have HS := ns; clear nb nx ns)
    clear hx0 hx1 hx2 hx3
    obtain ⟨hx0, hx1, hx2, hx3⟩ := cells4 HX.out
    go_upto_region 6 with (first | (go_at_call 48; refine (guidevaneref09_CopyRules.calls A0_0 c0_0 l0_0 A0_1 c0_1 l0_1 a0_2 A0_3 c0_3 l0_3 l0_0 l0_1 a0_2 l0_3 _ (Kd.C_below HR0.out HB.out) HC.out.1 (Kd.C_below HR1.out HB.out) HC.out.2.1 (Kd.C_below HR3.out HB.out) HC.out.2.2 HCP.out).mono ?_; rintro e_ wc ⟨v0, v1, v3, rfl, hR0, hR1, hR3, hb⟩; obtain ⟨B0, b0, e0, g0, C0⟩ := Kd.R_reads hR0; subst e0; obtain ⟨B1, b1, e0, g1, C1⟩ := Kd.R_reads hR1; subst e0; obtain ⟨B3, b3, e0, g3, C3⟩ := Kd.R_reads hR3; subst e0; have HQ0 := Aside0.mk (And.intro g0 C0); have HQ1 := Aside0.mk (And.intro g1 C1); have HQ3 := Aside0.mk (And.intro g3 C3); clear hR0 hR1 hR3 g0 C0 g1 C1 g3 C3; have nb := Aside0.mk (below_step HB.out hb); have nx := Aside0.mk (blk_below HX.out hb); have ns := Aside0.mk (blk_below HS.out hb); clear HB HX HS hb; have HB := nb; have HX := nx; have HS := ns; clear nb nx ns) | (go_at_call 53; refine (dam_CheckRules.calls B0 b0 l0_0 B1 b1 l0_1 a0_2 B3 b3 l0_3 i e _ HQ0.out.2 HQ0.out.1 HQ1.out.2 HQ1.out.1 HQ3.out.2 HQ3.out.1 HCK.out).mono ?_; rintro e_ wa ⟨rfl, hb⟩; have nb := Aside0.mk (below_step HB.out hb); have nx := Aside0.mk (blk_below HX.out hb); have ns := Aside0.mk (blk_below HS.out hb); clear HB HX HS hb; have HB := nb; have HX := nx; have HS := ns; clear nb nx ns))
    clear hx0 hx1 hx2 hx3 HQ0 HQ1 HQ3
    obtain ⟨hx0, hx1, hx2, hx3⟩ := cells4 HX.out
    go_upto_region 7 with (first | (go_at_call 48; refine (guidevaneref09_CopyRules.calls A0_0 c0_0 l0_0 A0_1 c0_1 l0_1 a0_2 A0_3 c0_3 l0_3 l0_0 l0_1 a0_2 l0_3 _ (Kd.C_below HR0.out HB.out) HC.out.1 (Kd.C_below HR1.out HB.out) HC.out.2.1 (Kd.C_below HR3.out HB.out) HC.out.2.2 HCP.out).mono ?_; rintro e_ wc ⟨v0, v1, v3, rfl, hR0, hR1, hR3, hb⟩; obtain ⟨B0, b0, e0, g0, C0⟩ := Kd.R_reads hR0; subst e0; obtain ⟨B1, b1, e0, g1, C1⟩ := Kd.R_reads hR1; subst e0; obtain ⟨B3, b3, e0, g3, C3⟩ := Kd.R_reads hR3; subst e0; have HQ0 := Aside0.mk (And.intro g0 C0); have HQ1 := Aside0.mk (And.intro g1 C1); have HQ3 := Aside0.mk (And.intro g3 C3); clear hR0 hR1 hR3 g0 C0 g1 C1 g3 C3; have nb := Aside0.mk (below_step HB.out hb); have nx := Aside0.mk (blk_below HX.out hb); have ns := Aside0.mk (blk_below HS.out hb); clear HB HX HS hb; have HB := nb; have HX := nx; have HS := ns; clear nb nx ns) | (go_at_call 54; refine (dam_AskedFor.calls 1000 B0 b0 l0_0 B1 b1 l0_1 a0_2 B3 b3 l0_3 a2 n f _ HQ0.out.2 HQ0.out.1 HQ1.out.2 HQ1.out.1 HQ3.out.2 HQ3.out.1 HAS.out).mono ?_; rintro e_ wa ⟨rfl, hb⟩; have nb := Aside0.mk (below_step HB.out hb); have nx := Aside0.mk (blk_below HX.out hb); have ns := Aside0.mk (blk_below HS.out hb); clear HB HX HS hb; have HB := nb; have HX := nx; have HS := ns; clear nb nx ns))
    clear hx0 hx1 hx2 hx3 HQ0 HQ1 HQ3
    go_cut [11, 12] (fun p q wx => ∃ D : Nat, p = .pointer (some ⟨D, 0, none⟩) ∧ q = .int .i64 g ∧ Below w.heap.size w wx ∧ wx.heap[w.heap.size]? = some (.cells #[.slice A0_0 l0_0.length c0_0, .slice A0_1 l0_1.length c0_1, .int .i64 a0_2, .slice A0_3 l0_3.length c0_3] 85 (0, 0)) ∧ wx.heap[w.heap.size + 1]? = some (.cells #[.int .i64 a1_0, .int .i64 a1_1, .int .i64 a1_2] 88 (0, 0)) ∧ wx.heap[D]? = some (.cells #[.int .i64 x0, .int .i64 x1, .int .i64 x2] 88 (0, 0)))
    case first =>
      go_region_held3 (fun w' => w'.cell? ⟨w.heap.size, 0, none⟩ = some (.slice A0_0 l0_0.length c0_0) ∧ w'.cell? ⟨w.heap.size, 1, none⟩ = some (.slice A0_1 l0_1.length c0_1) ∧ w'.cell? ⟨w.heap.size, 2, none⟩ = some (.int .i64 a0_2) ∧ w'.cell? ⟨w.heap.size, 3, none⟩ = some (.slice A0_3 l0_3.length c0_3) ∧ w'.cell? ⟨w.heap.size + 1, 0, none⟩ = some (.int .i64 a1_0) ∧ w'.cell? ⟨w.heap.size + 1, 1, none⟩ = some (.int .i64 a1_1) ∧ w'.cell? ⟨w.heap.size + 1, 2, none⟩ = some (.int .i64 a1_2) ∧ Below wa.heap.size wa w')
        ((refine keepXS HX.out HS.out ?_; repeat (first | assumption | exact Below.refl _ _ | apply pw_below_drewN | apply below_drew | apply below_alloc | (iterate 7 apply And.right; assumption) | refine below_set ?_ (by first | exact Nat.le_refl _ | exact hz.out | exact Nat.le_trans hz.out hz2) | refine below_step ?_ (by assumption))))
        (first | (go_at_call 48; refine (guidevaneref09_CopyRules.calls A0_0 c0_0 l0_0 A0_1 c0_1 l0_1 a0_2 A0_3 c0_3 l0_3 l0_0 l0_1 a0_2 l0_3 _ (Kd.C_below HR0.out (below_weaken HB.out HB.out.size (by repeat (first | assumption | exact Below.refl _ _ | apply below_alloc | apply below_drew | apply pw_below_drewN | (iterate 7 apply And.right; assumption))))) HC.out.1 (Kd.C_below HR1.out (below_weaken HB.out HB.out.size (by repeat (first | assumption | exact Below.refl _ _ | apply below_alloc | apply below_drew | apply pw_below_drewN | (iterate 7 apply And.right; assumption))))) HC.out.2.1 (Kd.C_below HR3.out (below_weaken HB.out HB.out.size (by repeat (first | assumption | exact Below.refl _ _ | apply below_alloc | apply below_drew | apply pw_below_drewN | (iterate 7 apply And.right; assumption))))) HC.out.2.2 HCP.out).mono ?_; rintro e_ wc ⟨v0, v1, v3, rfl, hR0, hR1, hR3, hb⟩; obtain ⟨B0, b0, e0, g0, C0⟩ := Kd.R_reads hR0; subst e0; obtain ⟨B1, b1, e0, g1, C1⟩ := Kd.R_reads hR1; subst e0; obtain ⟨B3, b3, e0, g3, C3⟩ := Kd.R_reads hR3; subst e0; have HQ0 := Aside0.mk (And.intro g0 C0); have HQ1 := Aside0.mk (And.intro g1 C1); have HQ3 := Aside0.mk (And.intro g3 C3); clear hR0 hR1 hR3 g0 C0 g1 C1 g3 C3; have hz := Aside0.mk (show wa.heap.size ≤ wc.heap.size from (by first | exact hb.size | exact Nat.le_trans (size_d wa _) hb.size)); (try (have HN := Aside0.mk (new_d _ _ _ hb)))) | (go_at_call 55; refine (dam_Watched.calls 1000 B0 b0 l0_0 B1 b1 l0_1 a0_2 B3 b3 l0_3 a1_0 a1_1 a1_2 a2 x0 x1 x2 g _ (Kd.C_below HQ0.out.2 (by repeat (first | exact Below.refl _ _ | apply below_alloc | apply below_drew | apply pw_below_drewN))) HQ0.out.1 (Kd.C_below HQ1.out.2 (by repeat (first | exact Below.refl _ _ | apply below_alloc | apply below_drew | apply pw_below_drewN))) HQ1.out.1 (Kd.C_below HQ3.out.2 (by repeat (first | exact Below.refl _ _ | apply below_alloc | apply below_drew | apply pw_below_drewN))) HQ3.out.1 HWT.out).mono ?_; rintro e_ wd ⟨rfl, hb⟩; (first | (have hz2 : wc.heap.size ≤ wd.heap.size := hb.size) | (have hz2 : wc.heap.size ≤ wd.heap.size := Nat.le_trans (size_b wc _) hb.size)); (try (first | have hn := new_b _ _ _ hb | have hn := blk_below HN.out hb); obtain ⟨q0, q1, q2⟩ := cells3 hn; obtain ⟨p0, p1, p2, p3⟩ := free4 hn; clear hn)))
      all_goals (go_wp2_with fail; go_meet)
      all_goals first | exact meet_new HB.out HX.out HS.out (by repeat (first | assumption | exact Below.refl _ _ | apply below_drew | apply below_alloc | refine below_step ?_ (by assumption))) | exact meet_put HB.out HX.out HS.out (new_b _ _ _ hb) (by repeat (first | assumption | exact Below.refl _ _ | apply below_drew | apply below_alloc | refine below_step ?_ (by assumption))) hz.out | exact meet_put HB.out HX.out HS.out (blk_below HN.out hb) (by repeat (first | assumption | exact Below.refl _ _ | apply below_drew | apply below_alloc | refine below_step ?_ (by assumption))) (Nat.le_refl _)
    case rest =>
      obtain ⟨D, rfl, rfl, hwb, hwx, hws, hwd⟩ := hcut
      have HB := Aside0.mk hwb
      have HX := Aside0.mk hwx
      have HS := Aside0.mk hws
      have HD := Aside0.mk hwd
      clear hwb hwx hws hwd
      obtain ⟨hx0, hx1, hx2, hx3⟩ := cells4 HX.out
      obtain ⟨hs0, hs1, hs2⟩ := cells3 HS.out
      obtain ⟨hd0, hd1, hd2⟩ := cells3 HD.out
      rcases HCS.out with ⟨he, rfl, rfl, rfl, rfl, rfl, rfl⟩ | ⟨rfl, hdv, rfl, rfl, hse, rfl, rfl, rfl, rfl⟩ | ⟨rfl, hdv, rfl, rfl, rfl, rfl, rfl, rfl, rfl⟩ | ⟨rfl, rfl, rfl, hak, hse, rfl, rfl, rfl, rfl⟩ | ⟨rfl, rfl, rfl, hak, rfl, rfl, hwt⟩
      · clear HCS
        have he1 : (_ != (0 : Int)) = true := bne_iff_ne.2 he
        clear he
        go_wp2_with (first | (go_at_call 56; refine (guidevaneref09_CheckRules.calls A0_0 c0_0 l0_0 A0_1 c0_1 l0_1 a0_2 A0_3 c0_3 l0_3 _ _ _ (Kd.C_below HR0.out HB.out) HC.out.1 (Kd.C_below HR1.out HB.out) HC.out.2.1 (Kd.C_below HR3.out HB.out) HC.out.2.2 HRK.out).mono ?_; rintro e_ wa ⟨rfl, hb⟩; have nb := Aside0.mk (below_step HB.out hb); have nx := Aside0.mk (blk_below HX.out hb); have ns := Aside0.mk (blk_below HS.out hb); have nd := Aside0.mk (blk_below HD.out hb); clear HB HX HS HD hb hx0 hx1 hx2 hx3 hs0 hs1 hs2 hd0 hd1 hd2; have HB := nb; have HX := nx; have HS := ns; have HD := nd; clear nb nx ns nd; obtain ⟨hx0, hx1, hx2, hx3⟩ := cells4 HX.out; obtain ⟨hs0, hs1, hs2⟩ := cells3 HS.out; obtain ⟨hd0, hd1, hd2⟩ := cells3 HD.out))
        go_ret
        exact ⟨rfl, HB.out⟩
      · clear HCS
        have he1 : (_ != (0 : Int)) = true := bne_iff_ne.2 hdv
        have he2 : (_ == (0 : Int)) = false := beq_eq_false_iff_ne.2 hdv
        have he3 : (_ != (0 : Int)) = true := bne_iff_ne.2 hse
        have he4 : (_ == (0 : Int)) = false := beq_eq_false_iff_ne.2 hse
        clear hdv hse
        go_wp2_with (first | (go_at_call 56; refine (guidevaneref09_CheckRules.calls A0_0 c0_0 l0_0 A0_1 c0_1 l0_1 a0_2 A0_3 c0_3 l0_3 _ _ _ (Kd.C_below HR0.out HB.out) HC.out.1 (Kd.C_below HR1.out HB.out) HC.out.2.1 (Kd.C_below HR3.out HB.out) HC.out.2.2 HRK.out).mono ?_; rintro e_ wa ⟨rfl, hb⟩; have nb := Aside0.mk (below_step HB.out hb); have nx := Aside0.mk (blk_below HX.out hb); have ns := Aside0.mk (blk_below HS.out hb); have nd := Aside0.mk (blk_below HD.out hb); clear HB HX HS HD hb hx0 hx1 hx2 hx3 hs0 hs1 hs2 hd0 hd1 hd2; have HB := nb; have HX := nx; have HS := ns; have HD := nd; clear nb nx ns nd; obtain ⟨hx0, hx1, hx2, hx3⟩ := cells4 HX.out; obtain ⟨hs0, hs1, hs2⟩ := cells3 HS.out; obtain ⟨hd0, hd1, hd2⟩ := cells3 HD.out) | (go_at_call 51; refine (guidevaneref09_DeviationErr.calls a2 _ _ HDE.out).mono ?_; rintro e_ wa ⟨rfl, hdr⟩; have hb := hdr.below; clear hdr; have nb := Aside0.mk (below_step HB.out hb); have nx := Aside0.mk (blk_below HX.out hb); have ns := Aside0.mk (blk_below HS.out hb); have nd := Aside0.mk (blk_below HD.out hb); clear HB HX HS HD hb hx0 hx1 hx2 hx3 hs0 hs1 hs2 hd0 hd1 hd2; have HB := nb; have HX := nx; have HS := ns; have HD := nd; clear nb nx ns nd; obtain ⟨hx0, hx1, hx2, hx3⟩ := cells4 HX.out; obtain ⟨hs0, hs1, hs2⟩ := cells3 HS.out; obtain ⟨hd0, hd1, hd2⟩ := cells3 HD.out) | (go_at_call 58; refine (guidevaneref09_StateErr.calls 1000 A0_0 c0_0 l0_0 A0_1 c0_1 l0_1 a0_2 A0_3 c0_3 l0_3 a1_0 a1_1 a1_2 _ _ (Kd.C_below HR0.out HB.out) HC.out.1 (Kd.C_below HR1.out HB.out) HC.out.2.1 (Kd.C_below HR3.out HB.out) HC.out.2.2 HSE.out).mono ?_; rintro e_ wa ⟨rfl, hb⟩; have nb := Aside0.mk (below_step HB.out hb); have nx := Aside0.mk (blk_below HX.out hb); have ns := Aside0.mk (blk_below HS.out hb); have nd := Aside0.mk (blk_below HD.out hb); clear HB HX HS HD hb hx0 hx1 hx2 hx3 hs0 hs1 hs2 hd0 hd1 hd2; have HB := nb; have HX := nx; have HS := ns; have HD := nd; clear nb nx ns nd; obtain ⟨hx0, hx1, hx2, hx3⟩ := cells4 HX.out; obtain ⟨hs0, hs1, hs2⟩ := cells3 HS.out; obtain ⟨hd0, hd1, hd2⟩ := cells3 HD.out))
        go_ret
        exact ⟨rfl, HB.out⟩
      · clear HCS
        have he1 : (_ != (0 : Int)) = true := bne_iff_ne.2 hdv
        have he2 : (_ == (0 : Int)) = false := beq_eq_false_iff_ne.2 hdv
        clear hdv
        go_wp2_with (first | (go_at_call 56; refine (guidevaneref09_CheckRules.calls A0_0 c0_0 l0_0 A0_1 c0_1 l0_1 a0_2 A0_3 c0_3 l0_3 _ _ _ (Kd.C_below HR0.out HB.out) HC.out.1 (Kd.C_below HR1.out HB.out) HC.out.2.1 (Kd.C_below HR3.out HB.out) HC.out.2.2 HRK.out).mono ?_; rintro e_ wa ⟨rfl, hb⟩; have nb := Aside0.mk (below_step HB.out hb); have nx := Aside0.mk (blk_below HX.out hb); have ns := Aside0.mk (blk_below HS.out hb); have nd := Aside0.mk (blk_below HD.out hb); clear HB HX HS HD hb hx0 hx1 hx2 hx3 hs0 hs1 hs2 hd0 hd1 hd2; have HB := nb; have HX := nx; have HS := ns; have HD := nd; clear nb nx ns nd; obtain ⟨hx0, hx1, hx2, hx3⟩ := cells4 HX.out; obtain ⟨hs0, hs1, hs2⟩ := cells3 HS.out; obtain ⟨hd0, hd1, hd2⟩ := cells3 HD.out) | (go_at_call 51; refine (guidevaneref09_DeviationErr.calls a2 _ _ HDE.out).mono ?_; rintro e_ wa ⟨rfl, hdr⟩; have hb := hdr.below; clear hdr; have nb := Aside0.mk (below_step HB.out hb); have nx := Aside0.mk (blk_below HX.out hb); have ns := Aside0.mk (blk_below HS.out hb); have nd := Aside0.mk (blk_below HD.out hb); clear HB HX HS HD hb hx0 hx1 hx2 hx3 hs0 hs1 hs2 hd0 hd1 hd2; have HB := nb; have HX := nx; have HS := ns; have HD := nd; clear nb nx ns nd; obtain ⟨hx0, hx1, hx2, hx3⟩ := cells4 HX.out; obtain ⟨hs0, hs1, hs2⟩ := cells3 HS.out; obtain ⟨hd0, hd1, hd2⟩ := cells3 HD.out) | (go_at_call 58; refine (guidevaneref09_StateErr.calls 1000 A0_0 c0_0 l0_0 A0_1 c0_1 l0_1 a0_2 A0_3 c0_3 l0_3 a1_0 a1_1 a1_2 _ _ (Kd.C_below HR0.out HB.out) HC.out.1 (Kd.C_below HR1.out HB.out) HC.out.2.1 (Kd.C_below HR3.out HB.out) HC.out.2.2 HSE.out).mono ?_; rintro e_ wa ⟨rfl, hb⟩; have nb := Aside0.mk (below_step HB.out hb); have nx := Aside0.mk (blk_below HX.out hb); have ns := Aside0.mk (blk_below HS.out hb); have nd := Aside0.mk (blk_below HD.out hb); clear HB HX HS HD hb hx0 hx1 hx2 hx3 hs0 hs1 hs2 hd0 hd1 hd2; have HB := nb; have HX := nx; have HS := ns; have HD := nd; clear nb nx ns nd; obtain ⟨hx0, hx1, hx2, hx3⟩ := cells4 HX.out; obtain ⟨hs0, hs1, hs2⟩ := cells3 HS.out; obtain ⟨hd0, hd1, hd2⟩ := cells3 HD.out))
        go_ret
        exact ⟨rfl, HB.out⟩
      · clear HCS
        have HAK := Aside0.mk hak
        have he3 : (_ != (0 : Int)) = true := bne_iff_ne.2 hse
        have he4 : (_ == (0 : Int)) = false := beq_eq_false_iff_ne.2 hse
        clear hse hak
        go_wp2_with (first | (go_at_call 56; refine (guidevaneref09_CheckRules.calls A0_0 c0_0 l0_0 A0_1 c0_1 l0_1 a0_2 A0_3 c0_3 l0_3 _ _ _ (Kd.C_below HR0.out HB.out) HC.out.1 (Kd.C_below HR1.out HB.out) HC.out.2.1 (Kd.C_below HR3.out HB.out) HC.out.2.2 HRK.out).mono ?_; rintro e_ wa ⟨rfl, hb⟩; have nb := Aside0.mk (below_step HB.out hb); have nx := Aside0.mk (blk_below HX.out hb); have ns := Aside0.mk (blk_below HS.out hb); have nd := Aside0.mk (blk_below HD.out hb); clear HB HX HS HD hb hx0 hx1 hx2 hx3 hs0 hs1 hs2 hd0 hd1 hd2; have HB := nb; have HX := nx; have HS := ns; have HD := nd; clear nb nx ns nd; obtain ⟨hx0, hx1, hx2, hx3⟩ := cells4 HX.out; obtain ⟨hs0, hs1, hs2⟩ := cells3 HS.out; obtain ⟨hd0, hd1, hd2⟩ := cells3 HD.out) | (go_at_call 51; refine (guidevaneref09_DeviationErr.calls a2 _ _ HDE.out).mono ?_; rintro e_ wa ⟨rfl, hdr⟩; have hb := hdr.below; clear hdr; have nb := Aside0.mk (below_step HB.out hb); have nx := Aside0.mk (blk_below HX.out hb); have ns := Aside0.mk (blk_below HS.out hb); have nd := Aside0.mk (blk_below HD.out hb); clear HB HX HS HD hb hx0 hx1 hx2 hx3 hs0 hs1 hs2 hd0 hd1 hd2; have HB := nb; have HX := nx; have HS := ns; have HD := nd; clear nb nx ns nd; obtain ⟨hx0, hx1, hx2, hx3⟩ := cells4 HX.out; obtain ⟨hs0, hs1, hs2⟩ := cells3 HS.out; obtain ⟨hd0, hd1, hd2⟩ := cells3 HD.out) | (go_at_call 57; refine (guidevaneref09_Asked.calls 1000 A0_0 c0_0 l0_0 A0_1 c0_1 l0_1 a0_2 A0_3 c0_3 l0_3 a2 _ _ (Kd.C_below HR0.out HB.out) HC.out.1 (Kd.C_below HR1.out HB.out) HC.out.2.1 (Kd.C_below HR3.out HB.out) HC.out.2.2 HAK.out).mono ?_; rintro e_ wa ⟨rfl, hb⟩; have nb := Aside0.mk (below_step HB.out hb); have nx := Aside0.mk (blk_below HX.out hb); have ns := Aside0.mk (blk_below HS.out hb); have nd := Aside0.mk (blk_below HD.out hb); clear HB HX HS HD hb hx0 hx1 hx2 hx3 hs0 hs1 hs2 hd0 hd1 hd2; have HB := nb; have HX := nx; have HS := ns; have HD := nd; clear nb nx ns nd; obtain ⟨hx0, hx1, hx2, hx3⟩ := cells4 HX.out; obtain ⟨hs0, hs1, hs2⟩ := cells3 HS.out; obtain ⟨hd0, hd1, hd2⟩ := cells3 HD.out) | (go_at_call 58; refine (guidevaneref09_StateErr.calls 1000 A0_0 c0_0 l0_0 A0_1 c0_1 l0_1 a0_2 A0_3 c0_3 l0_3 a1_0 a1_1 a1_2 _ _ (Kd.C_below HR0.out HB.out) HC.out.1 (Kd.C_below HR1.out HB.out) HC.out.2.1 (Kd.C_below HR3.out HB.out) HC.out.2.2 HSE.out).mono ?_; rintro e_ wa ⟨rfl, hb⟩; have nb := Aside0.mk (below_step HB.out hb); have nx := Aside0.mk (blk_below HX.out hb); have ns := Aside0.mk (blk_below HS.out hb); have nd := Aside0.mk (blk_below HD.out hb); clear HB HX HS HD hb hx0 hx1 hx2 hx3 hs0 hs1 hs2 hd0 hd1 hd2; have HB := nb; have HX := nx; have HS := ns; have HD := nd; clear nb nx ns nd; obtain ⟨hx0, hx1, hx2, hx3⟩ := cells4 HX.out; obtain ⟨hs0, hs1, hs2⟩ := cells3 HS.out; obtain ⟨hd0, hd1, hd2⟩ := cells3 HD.out))
        go_ret
        exact ⟨rfl, HB.out⟩
      · clear HCS
        have HAK := Aside0.mk hak
        have HWR := Aside0.mk hwt
        clear hak hwt
        go_upto_region 21 with (first | (go_at_call 56; refine (guidevaneref09_CheckRules.calls A0_0 c0_0 l0_0 A0_1 c0_1 l0_1 a0_2 A0_3 c0_3 l0_3 _ _ _ (Kd.C_below HR0.out HB.out) HC.out.1 (Kd.C_below HR1.out HB.out) HC.out.2.1 (Kd.C_below HR3.out HB.out) HC.out.2.2 HRK.out).mono ?_; rintro e_ wa ⟨rfl, hb⟩; have nb := Aside0.mk (below_step HB.out hb); have nx := Aside0.mk (blk_below HX.out hb); have ns := Aside0.mk (blk_below HS.out hb); have nd := Aside0.mk (blk_below HD.out hb); clear HB HX HS HD hb hx0 hx1 hx2 hx3 hs0 hs1 hs2 hd0 hd1 hd2; have HB := nb; have HX := nx; have HS := ns; have HD := nd; clear nb nx ns nd; obtain ⟨hx0, hx1, hx2, hx3⟩ := cells4 HX.out; obtain ⟨hs0, hs1, hs2⟩ := cells3 HS.out; obtain ⟨hd0, hd1, hd2⟩ := cells3 HD.out) | (go_at_call 51; refine (guidevaneref09_DeviationErr.calls a2 _ _ HDE.out).mono ?_; rintro e_ wa ⟨rfl, hdr⟩; have hb := hdr.below; clear hdr; have nb := Aside0.mk (below_step HB.out hb); have nx := Aside0.mk (blk_below HX.out hb); have ns := Aside0.mk (blk_below HS.out hb); have nd := Aside0.mk (blk_below HD.out hb); clear HB HX HS HD hb hx0 hx1 hx2 hx3 hs0 hs1 hs2 hd0 hd1 hd2; have HB := nb; have HX := nx; have HS := ns; have HD := nd; clear nb nx ns nd; obtain ⟨hx0, hx1, hx2, hx3⟩ := cells4 HX.out; obtain ⟨hs0, hs1, hs2⟩ := cells3 HS.out; obtain ⟨hd0, hd1, hd2⟩ := cells3 HD.out) | (go_at_call 57; refine (guidevaneref09_Asked.calls 1000 A0_0 c0_0 l0_0 A0_1 c0_1 l0_1 a0_2 A0_3 c0_3 l0_3 a2 _ _ (Kd.C_below HR0.out HB.out) HC.out.1 (Kd.C_below HR1.out HB.out) HC.out.2.1 (Kd.C_below HR3.out HB.out) HC.out.2.2 HAK.out).mono ?_; rintro e_ wa ⟨rfl, hb⟩; have nb := Aside0.mk (below_step HB.out hb); have nx := Aside0.mk (blk_below HX.out hb); have ns := Aside0.mk (blk_below HS.out hb); have nd := Aside0.mk (blk_below HD.out hb); clear HB HX HS HD hb hx0 hx1 hx2 hx3 hs0 hs1 hs2 hd0 hd1 hd2; have HB := nb; have HX := nx; have HS := ns; have HD := nd; clear nb nx ns nd; obtain ⟨hx0, hx1, hx2, hx3⟩ := cells4 HX.out; obtain ⟨hs0, hs1, hs2⟩ := cells3 HS.out; obtain ⟨hd0, hd1, hd2⟩ := cells3 HD.out) | (go_at_call 58; refine (guidevaneref09_StateErr.calls 1000 A0_0 c0_0 l0_0 A0_1 c0_1 l0_1 a0_2 A0_3 c0_3 l0_3 a1_0 a1_1 a1_2 _ _ (Kd.C_below HR0.out HB.out) HC.out.1 (Kd.C_below HR1.out HB.out) HC.out.2.1 (Kd.C_below HR3.out HB.out) HC.out.2.2 HSE.out).mono ?_; rintro e_ wa ⟨rfl, hb⟩; have nb := Aside0.mk (below_step HB.out hb); have nx := Aside0.mk (blk_below HX.out hb); have ns := Aside0.mk (blk_below HS.out hb); have nd := Aside0.mk (blk_below HD.out hb); clear HB HX HS HD hb hx0 hx1 hx2 hx3 hs0 hs1 hs2 hd0 hd1 hd2; have HB := nb; have HX := nx; have HS := ns; have HD := nd; clear nb nx ns nd; obtain ⟨hx0, hx1, hx2, hx3⟩ := cells4 HX.out; obtain ⟨hs0, hs1, hs2⟩ := cells3 HS.out; obtain ⟨hd0, hd1, hd2⟩ := cells3 HD.out))
        go_region_held3 (fun w' => w'.cell? ⟨D, 0, none⟩ = some (.int .i64 x0) ∧ w'.cell? ⟨D, 1, none⟩ = some (.int .i64 x1) ∧ w'.cell? ⟨D, 2, none⟩ = some (.int .i64 x2) ∧ w'.cell? ⟨w.heap.size, 0, none⟩ = some (.slice A0_0 l0_0.length c0_0) ∧ w'.cell? ⟨w.heap.size, 1, none⟩ = some (.slice A0_1 l0_1.length c0_1) ∧ w'.cell? ⟨w.heap.size, 2, none⟩ = some (.int .i64 a0_2) ∧ w'.cell? ⟨w.heap.size, 3, none⟩ = some (.slice A0_3 l0_3.length c0_3) ∧ w'.cell? ⟨w.heap.size + 1, 0, none⟩ = some (.int .i64 a1_0) ∧ w'.cell? ⟨w.heap.size + 1, 1, none⟩ = some (.int .i64 a1_1) ∧ w'.cell? ⟨w.heap.size + 1, 2, none⟩ = some (.int .i64 a1_2) ∧ Below wa.heap.size wa w')
          ((refine keepXSD HX.out HS.out HD.out ?_; repeat (first | assumption | exact Below.refl _ _ | apply below_drew | (iterate 10 apply And.right; assumption) | refine below_step ?_ (by assumption))))
          (first | (go_at_call 59; refine (guidevaneref09_Watched.calls 1000 A0_0 c0_0 l0_0 A0_1 c0_1 l0_1 a0_2 A0_3 c0_3 l0_3 a1_0 a1_1 a1_2 a2 x0 x1 x2 _ (Kd.C_below HR0.out (below_drew HB.out)) HC.out.1 (Kd.C_below HR1.out (below_drew HB.out)) HC.out.2.1 (Kd.C_below HR3.out (below_drew HB.out)) HC.out.2.2 HWR.out).mono ?_; rintro e_ wb ⟨rfl, hb⟩; have HB2 := Aside0.mk (below_step HB.out (below_step (below_drew (Below.refl _ _)) hb))))
        all_goals (go_wp2_with fail; go_ret; exact ⟨rfl, HB2.out⟩)
end Go.Proofs.Yteopooljohdoiaa.Px
