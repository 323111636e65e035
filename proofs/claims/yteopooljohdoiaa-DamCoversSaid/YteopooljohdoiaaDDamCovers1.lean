/- DamCovers: for every input the call returns true and each argument reads afterwards as it read before; no condition. (its contracts and its pure law) -/
import Derived.Test.YteopooljohdoiaaK2
import Derived.Test.YteopooljohdoiaaK1
import Derived.Test.YteopooljohdoiaaK3
set_option linter.unusedVariables false
set_option linter.unusedSimpArgs false
namespace Go.Proofs.Yteopooljohdoiaa.Px
open Go.RowKit Go.Proofs.YteopooljohdoiaaW.PrintWords Go.Proofs.YteopooljohdoiaaW.PrintLast
abbrev Sir := S112
abbrev zS : Sir := z112
def heard (ss : List Sir) (hs : List Int) (h : Nat) (k : Int) : Bool := hearsP (hs.getD h 0) (ss.getD k.toNat zS)
def okIdx (ss : List Sir) (frm : Nat) (T : List Int) : Prop := ∀ k ∈ T, (frm : Int) ≤ k ∧ k < (ss.length : Int)
theorem endTo_spec (x : Int) (hx : 0 ≤ x) : ∀ (l : List Sir) (e : Int), let r := l.foldl (fun e (s : Sir) => if hearsP x s = true then mx e (s.f0 + s.f1) else e) e
    e ≤ r ∧ (∀ s ∈ l, hearsP x s = true → s.f0 + s.f1 ≤ r) ∧ (r = e ∨ ∃ s ∈ l, hearsP x s = true ∧ s.f0 + s.f1 = r)
  | [], e => ⟨Int.le_refl _, by simp, .inl rfl⟩
  | s :: l, e => by
    have ih := endTo_spec x hx l (if hearsP x s = true then mx e (s.f0 + s.f1) else e)
    simp only [List.foldl_cons]
    generalize l.foldl (fun e (s : Sir) => if hearsP x s = true then mx e (s.f0 + s.f1) else e) (if hearsP x s = true then mx e (s.f0 + s.f1) else e) = r at *
    obtain ⟨i1, i2, i3⟩ := ih
    by_cases h : hearsP x s = true
    · rw [if_pos h] at i1 i3
      have hm : e ≤ mx e (s.f0 + s.f1) ∧ s.f0 + s.f1 ≤ mx e (s.f0 + s.f1) ∧ (mx e (s.f0 + s.f1) = e ∨ mx e (s.f0 + s.f1) = s.f0 + s.f1) := by
        unfold mx
        split <;> omega
      refine ⟨by omega, fun q hq hh => ?_, ?_⟩
      · rcases List.mem_cons.1 hq with rfl | hq
        · omega
        · exact i2 q hq hh
      · rcases i3 with i3 | ⟨q, hq, hh, he⟩
        · rcases hm.2.2 with hm | hm
          · exact .inl (by omega)
          · exact .inr ⟨s, List.mem_cons_self, h, by omega⟩
        · exact .inr ⟨q, List.mem_cons_of_mem _ hq, hh, he⟩
    · rw [if_neg h] at i1 i3
      refine ⟨i1, fun q hq hh => ?_, ?_⟩
      · rcases List.mem_cons.1 hq with rfl | hq
        · exact absurd hh h
        · exact i2 q hq hh
      · rcases i3 with i3 | ⟨q, hq, hh, he⟩
        · exact .inl i3
        · exact .inr ⟨q, List.mem_cons_of_mem _ hq, hh, he⟩
theorem hearsP_iff (x : Int) (s : Sir) : hearsP x s = true ↔ s.f0 - s.f1 ≤ x ∧ x ≤ s.f0 + s.f1 := by
  unfold hearsP
  rw [Bool.and_eq_true, decide_eq_true_eq, decide_eq_true_eq]
theorem mem_dropI {ss : List Sir} {frm : Nat} {s : Sir} (h : s ∈ ss.drop frm) : ∃ k : Int, ((frm : Int) ≤ k ∧ k < (ss.length : Int)) ∧ ss.getD k.toNat zS = s := by
  obtain ⟨i, hi, rfl⟩ := List.getElem_of_mem h
  have h2 : frm + i < ss.length := by simp at hi; omega
  refine ⟨((frm + i : Nat) : Int), by omega, ?_⟩
  rw [Int.toNat_natCast, List.getD_eq_getElem?_getD, List.getElem?_eq_getElem h2]
  simp
theorem drop_memI {ss : List Sir} {frm : Nat} {k : Int} (h1 : (frm : Int) ≤ k) (h2 : k < (ss.length : Int)) : ss.getD k.toNat zS ∈ ss.drop frm := by
  have h3 : k.toNat < ss.length := by omega
  rw [List.getD_eq_getElem?_getD, List.getElem?_eq_getElem h3]
  have : ss[k.toNat] = (ss.drop frm)[k.toNat - frm]'(by simp; omega) := by simp; congr 1; omega
  show ss[k.toNat] ∈ _
  rw [this]
  exact List.getElem_mem _
def Packed (ss : List Sir) (hs : List Int) (frm : Nat) : List Int → Prop
  | [] => True
  | h :: t => (∀ k : Int, (frm : Int) ≤ k → k < (ss.length : Int) → heard ss hs h.toNat k = true → ∀ h' ∈ t, heard ss hs h'.toNat k = false) ∧ Packed ss hs frm t
theorem packed_le (ss : List Sir) (hs : List Int) (frm : Nat) : ∀ (P T : List Int), Packed ss hs frm P → okIdx ss frm T → (∀ h ∈ P, ∃ k ∈ T, heard ss hs h.toNat k = true) → P.length ≤ T.length
  | [], _, _, _, _ => Nat.zero_le _
  | h :: P, T, hp, hT, hc => by
    obtain ⟨k, hk, hh⟩ := hc h List.mem_cons_self
    have h1 := hp.1 k (hT k hk).1 (hT k hk).2 hh
    have := packed_le ss hs frm P (T.erase k) hp.2 (fun q hq => hT q (List.mem_of_mem_erase hq)) (fun h' hh' => by
      obtain ⟨q, hq, hhq⟩ := hc h' (List.mem_cons_of_mem _ hh')
      have hne : q ≠ k := by
        intro e
        subst e
        rw [h1 h' hh'] at hhq
        exact absurd hhq (by decide)
      exact ⟨q, (List.mem_erase_of_ne hne).2 hq, hhq⟩)
    rw [List.length_erase_of_mem hk] at this
    have := List.length_pos_of_mem hk
    simp only [List.length_cons]
    omega
theorem sweepGo_spec (ss : List Sir) (hs : List Int) (frm : Nat) (hx : ∀ h : Nat, 0 ≤ hs.getD h 0) : ∀ (srt : List Int) (e : Int) (out : List Int), srt.Pairwise (fun a b => hs.getD a.toNat 0 ≤ hs.getD b.toNat 0) →
    (∃ h ∈ srt, ∀ k : Int, (frm : Int) ≤ k → k < (ss.length : Int) → heard ss hs h.toNat k = false) ∧ sweepGo ss hs frm e out srt = ([], false)
    ∨ ∃ P T : List Int, sweepGo ss hs frm e out srt = (out ++ P, true) ∧ (∀ h ∈ P, h ∈ srt ∧ e < hs.getD h.toNat 0) ∧ Packed ss hs frm P ∧ okIdx ss frm T ∧ T.length = P.length ∧ (∀ h ∈ srt, hs.getD h.toNat 0 ≤ e ∨ ∃ k ∈ T, heard ss hs h.toNat k = true) ∧ P.Pairwise (fun a b => hs.getD a.toNat 0 < hs.getD b.toNat 0) := by
  intro srt
  induction srt with
  | nil => intro e out _; exact .inr ⟨[], [], by simp [sweepGo], by simp, trivial, by intro k hk; simp at hk, rfl, by simp, List.Pairwise.nil⟩
  | cons h t ih =>
    intro e out hs'
    obtain ⟨hp1, hp2⟩ := List.pairwise_cons.1 hs'
    unfold sweepGo
    by_cases h1 : hs.getD h.toNat 0 ≤ e
    · rw [if_pos h1]
      rcases ih e out hp2 with ⟨⟨q, hq, hh⟩, hr⟩ | ⟨P, T, hr, hP, hpk, hT, hl, hc, hpw⟩
      · exact .inl ⟨⟨q, List.mem_cons_of_mem _ hq, hh⟩, hr⟩
      · refine .inr ⟨P, T, hr, fun q hq => ⟨List.mem_cons_of_mem _ (hP q hq).1, (hP q hq).2⟩, hpk, hT, hl, fun q hq => ?_, hpw⟩
        rcases List.mem_cons.1 hq with rfl | hq
        · exact .inl h1
        · exact hc q hq
    · rw [if_neg h1]
      have sp := endTo_spec (hs.getD h.toNat 0) (hx _) (ss.drop frm) (-1)
      rw [show (ss.drop frm).foldl (fun e (s : Sir) => if hearsP (hs.getD h.toNat 0) s = true then mx e (s.f0 + s.f1) else e) (-1) = endTo (ss.drop frm) (hs.getD h.toNat 0) from rfl] at sp
      generalize endTo (ss.drop frm) (hs.getD h.toNat 0) = e2 at *
      obtain ⟨s1, s2, s3⟩ := sp
      by_cases h2 : e2 < 0
      · rw [if_pos h2]
        refine .inl ⟨⟨h, List.mem_cons_self, fun k hk1 hk2 => ?_⟩, rfl⟩
        cases hh : heard ss hs h.toNat k
        · rfl
        · have := s2 _ (drop_memI hk1 hk2) hh
          have h3 := (hearsP_iff _ _).1 hh
          have := hx h.toNat
          omega
      · rw [if_neg h2]
        rcases s3 with s3 | ⟨s, hsm, hsh, hse⟩
        · omega
        obtain ⟨k, ⟨hk1, hk2⟩, hke⟩ := mem_dropI hsm
        have hL := (hearsP_iff _ _).1 hsh
        rcases ih e2 (out ++ [h]) hp2 with ⟨⟨q, hq, hh⟩, hr⟩ | ⟨P, T, hr, hP, hpk, hT, hl, hc, hpw⟩
        · exact .inl ⟨⟨q, List.mem_cons_of_mem _ hq, hh⟩, hr⟩
        · refine .inr ⟨h :: P, k :: T, by rw [hr]; simp, fun q hq => ?_, ⟨fun k' hk1' hk2' hh q hq => ?_, hpk⟩, fun q hq => ?_, by simp [hl], fun q hq => ?_, List.pairwise_cons.2 ⟨fun q hq => ?_, hpw⟩⟩
          · rcases List.mem_cons.1 hq with rfl | hq
            · exact ⟨List.mem_cons_self, by omega⟩
            · exact ⟨List.mem_cons_of_mem _ (hP q hq).1, by have := (hP q hq).2; omega⟩
          · have h3 := s2 _ (drop_memI hk1' hk2') hh
            have h4 := (hP q hq).2
            cases hh2 : heard ss hs q.toNat k'
            · rfl
            · have := (hearsP_iff _ _).1 hh2
              omega
          · rcases List.mem_cons.1 hq with rfl | hq
            · exact ⟨hk1, hk2⟩
            · exact hT q hq
          · rcases List.mem_cons.1 hq with rfl | hq
            · exact .inr ⟨k, List.mem_cons_self, by unfold heard; rw [hke]; exact hsh⟩
            · rcases hc q hq with h5 | ⟨k', hk', hh'⟩
              · have h6 := hp1 q hq
                refine .inr ⟨k, List.mem_cons_self, ?_⟩
                unfold heard
                rw [hke, hearsP_iff]
                omega
              · exact .inr ⟨k', List.mem_cons_of_mem _ hk', hh'⟩
          · have h4 := (hP q hq).2
            omega
theorem mem_leftTo (ss : List Sir) (hs some_ : List Int) (n : Nat) (h : Int) : h ∈ leftTo ss hs some_ n ↔ ∃ m : Nat, h = (m : Int) ∧ m < n ∧ ∀ k ∈ some_, heard ss hs m k = false := by
  unfold leftTo
  constructor
  · intro hh
    obtain ⟨m, hm, rfl⟩ := List.mem_map.1 hh
    obtain ⟨h1, h2⟩ := List.mem_filter.1 hm
    refine ⟨m, rfl, List.mem_range.1 h1, fun k hk => ?_⟩
    have h3 : (some_.any fun k : Int => hearsP (hs.getD m 0) (ss.getD k.toNat zS)) = false := by simpa using h2
    rw [List.any_eq_false] at h3
    have := h3 k hk
    simpa [heard] using this
  · rintro ⟨m, rfl, hm, hk⟩
    refine List.mem_map.2 ⟨m, List.mem_filter.2 ⟨List.mem_range.2 hm, ?_⟩, rfl⟩
    have h3 : (some_.any fun k : Int => hearsP (hs.getD m 0) (ss.getD k.toNat zS)) = false := by
      rw [List.any_eq_false]
      intro k hk2
      have := hk k hk2
      unfold heard at this
      rw [this]
      decide
    show (!(some_.any fun k : Int => hearsP (hs.getD m 0) (ss.getD k.toNat zS))) = true
    rw [h3]; rfl
def Cov (ss : List Sir) (hs : List Int) (S : List Int) : Prop := ∀ h : Nat, h < hs.length → ∃ k ∈ S, heard ss hs h k = true
theorem sweepOut_spec (ss : List Sir) (hs some_ : List Int) (frm : Nat) (hx : ∀ h : Nat, 0 ≤ hs.getD h 0) :
    (sweepOut ss hs some_ frm = ([], false) ∧ ∀ T, okIdx ss frm T → ¬ Cov ss hs (some_ ++ T))
    ∨ ∃ P : List Int, sweepOut ss hs some_ frm = (P, true) ∧ (∃ T, okIdx ss frm T ∧ T.length = P.length ∧ Cov ss hs (some_ ++ T)) ∧ (∀ T, okIdx ss frm T → Cov ss hs (some_ ++ T) → P.length ≤ T.length) ∧ Packed ss hs frm P ∧ (∀ h ∈ P, ∃ m : Nat, h = (m : Int) ∧ m < hs.length) := by
  obtain ⟨hperm, hsort⟩ := stabS_spec (fun a => hs.getD a.toNat 0) (leftTo ss hs some_ hs.length)
  unfold sweepOut
  rw [show byHouse hs = ltK (fun a => hs.getD a.toNat 0) from rfl]
  generalize stabS (ltK (fun a => hs.getD a.toNat 0)) (leftTo ss hs some_ hs.length).length (leftTo ss hs some_ hs.length) = srt at *
  have hm : ∀ h, h ∈ srt ↔ ∃ m : Nat, h = (m : Int) ∧ m < hs.length ∧ ∀ k ∈ some_, heard ss hs m k = false := fun h => hperm.mem_iff.trans (mem_leftTo ss hs some_ hs.length h)
  have hneg : ∀ m : Nat, hs.getD (m : Int).toNat 0 = hs.getD m 0 := fun m => by rw [Int.toNat_natCast]
  rcases sweepGo_spec ss hs frm hx srt (-1) [] hsort with ⟨⟨h, hh, hk⟩, hr⟩ | ⟨P, T, hr, hP, hpk, hT, hl, hc, _⟩
  · refine .inl ⟨hr, fun T hT hcov => ?_⟩
    obtain ⟨m, rfl, hm1, hm2⟩ := (hm h).1 hh
    obtain ⟨k, hk1, hk2⟩ := hcov m hm1
    rcases List.mem_append.1 hk1 with h1 | h1
    · rw [hm2 k h1] at hk2; exact absurd hk2 (by decide)
    · have := hk k (hT k h1).1 (hT k h1).2
      rw [Int.toNat_natCast, hk2] at this
      exact absurd this (by decide)
  · refine .inr ⟨P, by rw [hr]; rfl, ⟨T, hT, hl, fun m hm1 => ?_⟩, fun T2 hT2 hcov => ?_, hpk, fun h hh => ?_⟩
    · by_cases hex : ∃ k ∈ some_, heard ss hs m k = true
      · obtain ⟨k, hk1, hk2⟩ := hex
        exact ⟨k, List.mem_append_left _ hk1, hk2⟩
      · have hin : ((m : Nat) : Int) ∈ srt := (hm _).2 ⟨m, rfl, hm1, fun k hk => by
          cases hh : heard ss hs m k
          · rfl
          · exact absurd ⟨k, hk, hh⟩ hex⟩
        rcases hc _ hin with h5 | ⟨k, hk1, hk2⟩
        · have := hx (m : Int).toNat
          omega
        · rw [Int.toNat_natCast] at hk2
          exact ⟨k, List.mem_append_right _ hk1, hk2⟩
    · refine packed_le ss hs frm P T2 hpk hT2 fun h hh => ?_
      obtain ⟨m, rfl, hm1, hm2⟩ := (hm h).1 (hP h hh).1
      obtain ⟨k, hk1, hk2⟩ := hcov m hm1
      rcases List.mem_append.1 hk1 with h1 | h1
      · rw [hm2 k h1] at hk2; exact absurd hk2 (by decide)
      · exact ⟨k, h1, by rw [Int.toNat_natCast]; exact hk2⟩
    · obtain ⟨m, rfl, hm1, _⟩ := (hm h).1 (hP h hh).1
      exact ⟨m, rfl, hm1⟩
end Go.Proofs.Yteopooljohdoiaa.Px
namespace Go.Proofs.Yteopooljohdoiaa.Px
open Go.RowKit Go.Proofs.YteopooljohdoiaaW.PrintWords Go.Proofs.YteopooljohdoiaaW.PrintLast Go.Proofs.YteopooljohdoiaaW.PrintMore
attribute [local go_sem] max2_int min2_int max_two min_two max_three min_three max_four min_four
def guidevanebase_Size.f (a0 : Int) : Option (Int) := some (mx a0 (wrap64 (-a0)))
set_option maxHeartbeats 8000000 in
set_option maxRecDepth 100000 in
theorem guidevanebase_Size.calls (a0 : Int) (r : Int) (w : World) (h : guidevanebase_Size.f a0 = some r) :
    Calls Try.prog 109 #[.int .i64 a0] w fun e w' => e = .returned (.int .i64 r) ∧ Below w.heap.size w w' := by
  have HB := Aside0.mk (Below.refl w.heap.size w)
  have H : (some (mx a0 (wrap64 (-a0)))) = some r := h
  clear h
  obtain ⟨ji2, hji2⟩ : ∃ j_ : Int, (mx a0 (wrap64 (-a0))) = j_ := ⟨_, rfl⟩
  replace H : (some ji2) = some r := by first | (rw [hji2] at H; exact H) | (simp only [hji2] at H ⊢; exact H)
  have hji2_ : (if a0 < (wrap64 (-a0)) then (wrap64 (-a0)) else a0) = ji2 := hji2
  obtain rfl := Option.some.inj H
  go_enter Try.func109, Try.ntmps109
  go_wp2
  go_ret
  exact ⟨by first | rfl | (simp [errW_none, errW_some] <;> rfl) | (simp only [← hji2]; first | rfl | (simp [errW_none, errW_some] <;> rfl)) | (simp [*, errW_none, errW_some] <;> rfl), bel HB.out⟩
def guidevaneref09_Hears.f (l0_0 : List (S112)) (l0_1 : List Int) (a1 : Int) (a2 : Int) : Option (Bool) := if 0 ≤ a1 then (if a1 < (l0_1.length : Int) then (if 0 ≤ a2 then (if a2 < (l0_0.length : Int) then ((guidevanebase_Size.f (wrap64 ((rd l0_1 a1) - ((rd_T112 l0_0 a2).f0)))).bind fun t228004 => (some (decide (t228004 ≤ ((rd_T112 l0_0 a2).f1))))) else (none)) else (none)) else (none)) else (none)
def guidevaneref09_Hears.T1 : Bool × List (List Nat × List Nat) := (true, [([], []), ([0], [0]), ([], []), ([1, 2], [1, 2]), ([3], [3]), ([], []), ([5], [5]), ([], []), ([6, 7], [6, 7]), ([8], [8]), ([9], [9]), ([4, 10], [4, 10]), ([11], [11]), ([], []), ([13], [13]), ([], []), ([14, 15], [14, 15]), ([16], [16]), ([17], [17]), ([12, 18], [12, 18]), ([19, 12, 0, 1, 2, 3, 4, 5, 6, 7, 8, 9, 10, 11, 12, 13, 14, 15, 16, 17, 18, 19], [19])])
def guidevaneref09_Hears.B1 : List Nat := [0, 1, 0, 7, 15, 0, 32, 0, 224, 480, 992, 2047, 4095, 0, 8192, 0, 57344, 122880, 253952, 524287, 1048575]
theorem guidevaneref09_Hears.tab1 : rtab .any (opsOf Try.f76 1) = guidevaneref09_Hears.T1 := by kernel_rfl
theorem guidevaneref09_Hears.bits1 : waitsOk guidevaneref09_Hears.T1.2 guidevaneref09_Hears.B1 = true := by kernel_rfl
set_option maxHeartbeats 8000000 in
set_option maxRecDepth 100000 in
theorem guidevaneref09_Hears.calls (A0_0 : Option Addr) (c0_0 : Nat) (l0_0 : List (S112)) (A0_1 : Option Addr) (c0_1 : Nat) (l0_1 : List Int) (a1 : Int) (a2 : Int) (r : Bool) (w : World) (hr0_0 : Kd.C k112 w A0_0 l0_0.length l0_0) (hc0_0 : l0_0.length ≤ c0_0) (hr0_1 : Kd.C (Kd.int .i64) w A0_1 l0_1.length l0_1) (hc0_1 : l0_1.length ≤ c0_1) (h : guidevaneref09_Hears.f l0_0 l0_1 a1 a2 = some r) :
    Calls Try.prog 76 #[.agg #[.slice A0_0 l0_0.length c0_0, .slice A0_1 l0_1.length c0_1], .int .i64 a1, .int .i64 a2] w fun e w' => e = .returned (.bool r) ∧ Below w.heap.size w w' := by
  have hu39 := Try.underlying39
  have HR0_0 := Aside0.mk hr0_0
  have HC0_0 := Aside0.mk hc0_0
  clear hr0_0 hc0_0
  have HR0_1 := Aside0.mk hr0_1
  have HC0_1 := Aside0.mk hc0_1
  clear hr0_1 hc0_1
  have HB := Aside0.mk (Below.refl w.heap.size w)
  have H : (if 0 ≤ a1 then (if a1 < (l0_1.length : Int) then (if 0 ≤ a2 then (if a2 < (l0_0.length : Int) then ((guidevanebase_Size.f (wrap64 ((rd l0_1 a1) - ((rd_T112 l0_0 a2).f0)))).bind fun t228004 => (some (decide (t228004 ≤ ((rd_T112 l0_0 a2).f1))))) else (none)) else (none)) else (none)) else (none)) = some r := h
  clear h
  by_cases c4 : 0 ≤ a1
  · rw [if_pos c4] at H
    have c4b0 : decide (0 ≤ a1) = true := decide_eq_true c4
    clear c4
    by_cases c5 : a1 < (l0_1.length : Int)
    · rw [if_pos c5] at H
      have c5b0 : decide (a1 < (l0_1.length : Int)) = true := decide_eq_true c5
      clear c5
      by_cases c6 : 0 ≤ a2
      · rw [if_pos c6] at H
        have c6b0 : decide (0 ≤ a2) = true := decide_eq_true c6
        clear c6
        by_cases c7 : a2 < (l0_0.length : Int)
        · rw [if_pos c7] at H
          have c7b0 : decide (a2 < (l0_0.length : Int)) = true := decide_eq_true c7
          clear c7
          replace H := Option.bind_eq_some_iff.mp H
          obtain ⟨t228004, A80, H⟩ := H
          replace H : (some (decide (t228004 ≤ ((rd_T112 l0_0 a2).f1)))) = some r := H
          have A8 := Aside0.mk A80
          clear A80
          obtain rfl := Option.some.inj H
          go_enter Try.func76, Try.ntmps76
          try go_wp2_with (first | ((with_reducible refine gate_dst (N := 3) rfl ?_); refine box_event ?hg (N := 3) ?hd (cs := #[.slice A0_0 l0_0.length c0_0, .slice A0_1 l0_1.length c0_1]) (t := 39) ?hr ?_; (case hd => rfl); (case hg => rfl); (case hr => first | (go_simp; done) | (go_simp; rfl)); intro gb228001 hg w9 hbox hb; have n0_ := Aside0.mk (below_step (bel HB.out) hb); have n1_ := Aside0.mk (hbox); have n2_ := Aside0.mk ((by rw [hg]; exact (below_size (bel HB.out)) : w.heap.size ≤ gb228001)); have n3_ := Aside0.mk ((by rw [hg]; exact (below_size (bel HB.out)) : w.heap.size ≤ gb228001)); clear HB; have HB := n0_; have BK228001 := n1_; have GW228001 := n2_; have GE228001 := n3_; clear n0_ n1_ n2_ n3_; clear hb hbox hg))
          have n0_ := Aside0.mk (blk_drew BK228001.out)
          have n1_ := Aside0.mk (below_drew1 HB.out)
          clear BK228001
          clear HB
          have BK228001 := n0_
          have HB := n1_
          clear n0_ n1_
          have p228002 : 0 ≤ (a1 : Int) := of_decide_eq_true asm_
          have q228002 : a1 < (l0_1.length : Int) := of_decide_eq_true asm_
          obtain ⟨ad228002, e228002, hx228002_0⟩ := Kd.at_int HR0_1.out a1 p228002 q228002
          have hw228002_0 := hx228002_0
          cases e228002
          replace hx228002_0 := (HB.out.cell (World.block_lt_of_cell? w _ hx228002_0)).trans hx228002_0
          replace p228002 := eq_true p228002
          replace q228002 := eq_true q228002
          have p228003 : 0 ≤ (a2 : Int) := of_decide_eq_true asm_
          have q228003 : a2 < (l0_0.length : Int) := of_decide_eq_true asm_
          obtain ⟨ad228003, e228003, hx228003_0, hx228003_1⟩ := at_T112 HR0_0.out a2 p228003 q228003
          have hw228003_1 := hx228003_1
          have hw228003_0 := hx228003_0
          cases e228003
          replace hx228003_0 := (HB.out.cell (World.block_lt_of_cell? w _ hx228003_0)).trans hx228003_0
          replace hx228003_1 := (HB.out.cell (World.block_lt_of_cell? w _ hx228003_1)).trans hx228003_1
          replace p228003 := eq_true p228003
          replace q228003 := eq_true q228003
          have p228005 : 0 ≤ (a2 : Int) := of_decide_eq_true asm_
          have q228005 : a2 < (l0_0.length : Int) := of_decide_eq_true asm_
          obtain ⟨ad228005, e228005, hx228005_0, hx228005_1⟩ := at_T112 HR0_0.out a2 p228005 q228005
          have hw228005_1 := hx228005_1
          have hw228005_0 := hx228005_0
          obtain rfl : ad228003 = ad228005 := (by injection e228005)
          replace hx228005_0 := (HB.out.cell (World.block_lt_of_cell? w _ hx228005_0)).trans hx228005_0
          replace hx228005_1 := (HB.out.cell (World.block_lt_of_cell? w _ hx228005_1)).trans hx228005_1
          replace p228005 := eq_true p228005
          replace q228005 := eq_true q228005
          refine start_ (n := 21) (S := fun w' => w'.cell? ⟨gb228001, 0, none⟩ = some (.slice (some ad228003) l0_0.length c0_0) ∧ w'.cell? ⟨gb228001, 1, none⟩ = some (.slice (some ad228002) l0_1.length c0_1) ∧ w'.cell? (ad228002.add (a1).toNat) = some (.int .i64 (rd l0_1 a1)) ∧ w'.cell? (ad228003.add ((a2).toNat * 2)) = some (.int .i64 ((rd_T112 l0_0 a2).f0)) ∧ w'.cell? ⟨(ad228003.add ((a2).toNat * 2)).block, (ad228003.add ((a2).toNat * 2)).off + 1, none⟩ = some (.int .i64 ((rd_T112 l0_0 a2).f1)) ∧ w'.cell? (ad228003.add ((a2).toNat * 2)) = some (.int .i64 ((rd_T112 l0_0 a2).f0)) ∧ w'.cell? ⟨(ad228003.add ((a2).toNat * 2)).block, (ad228003.add ((a2).toNat * 2)).off + 1, none⟩ = some (.int .i64 ((rd_T112 l0_0 a2).f1))) (ds := []) #[false, false, false, false, false, false, false, false, false, false, false, false, false, false, false, false, false, false, false, false, false] (by kernel_rfl) rfl rfl ⟨(blk_cell BK228001.out 0).trans rfl, (blk_cell BK228001.out 1).trans rfl, ((HB.out.cell (World.block_lt_of_cell? w _ hw228002_0)).trans hw228002_0), ((HB.out.cell (World.block_lt_of_cell? w _ hw228003_0)).trans hw228003_0), ((HB.out.cell (World.block_lt_of_cell? w _ hw228003_1)).trans hw228003_1), ((HB.out.cell (World.block_lt_of_cell? w _ hw228005_0)).trans hw228005_0), ((HB.out.cell (World.block_lt_of_cell? w _ hw228005_1)).trans hw228005_1)⟩ (fun hHeld => ?_); refine with_tabW guidevaneref09_Hears.tab1 guidevaneref09_Hears.bits1 (fun HT_ HW_ => ?_)
          generalize w9.drew = w10 at BK228001 HB hx228002_0 hx228003_0 hx228003_1 hx228005_0 hx228005_1 hHeld ⊢
          refine pure_ (i := 0) (N := some 7) (v := ?_) (a' := ?_) #[true, false, false, false, false, false, false, false, false, false, false, false, false, false, false, false, false, false, false, false, false] rfl rfl (any_of HT_.out (by kernel_rfl)) (fun _ _ _ h => h) (Or.inl ⟨by rfl, ?_⟩) ?_ ?_
          rotate_left
          · intro w'
            go_simp
            with_reducible rfl
          rotate_left
          · simp only [Act.put, List.setIfInBounds_toArray, List.set_cons_zero, List.set_cons_succ, i64_w, i32_w]
            rfl
          refine pure_ (i := 2) (N := some 9) (v := ?_) (a' := ?_) #[true, false, true, false, false, false, false, false, false, false, false, false, false, false, false, false, false, false, false, false, false] rfl rfl (any_of HT_.out (by kernel_rfl)) (fun _ _ _ h => h) (Or.inl ⟨by rfl, ?_⟩) ?_ ?_
          rotate_left
          · intro w'
            go_simp
            with_reducible rfl
          rotate_left
          · simp only [Act.put, List.setIfInBounds_toArray, List.set_cons_zero, List.set_cons_succ, i64_w, i32_w]
            rfl
          refine pure_ (i := 5) (N := some 12) (v := ?_) (a' := ?_) #[true, false, true, false, false, true, false, false, false, false, false, false, false, false, false, false, false, false, false, false, false] rfl rfl (any_of HT_.out (by kernel_rfl)) (fun _ _ _ h => h) (Or.inl ⟨by rfl, ?_⟩) ?_ ?_
          rotate_left
          · intro w'
            go_simp
            with_reducible rfl
          rotate_left
          · simp only [Act.put, List.setIfInBounds_toArray, List.set_cons_zero, List.set_cons_succ, i64_w, i32_w]
            rfl
          refine pure_ (i := 7) (N := some 14) (v := ?_) (a' := ?_) #[true, false, true, false, false, true, false, true, false, false, false, false, false, false, false, false, false, false, false, false, false] rfl rfl (any_of HT_.out (by kernel_rfl)) (fun _ _ _ h => h) (Or.inl ⟨by rfl, ?_⟩) ?_ ?_
          rotate_left
          · intro w'
            go_simp
            with_reducible rfl
          rotate_left
          · simp only [Act.put, List.setIfInBounds_toArray, List.set_cons_zero, List.set_cons_succ, i64_w, i32_w]
            rfl
          refine pure_ (i := 13) (N := some 20) (v := ?_) (a' := ?_) #[true, false, true, false, false, true, false, true, false, false, false, false, false, true, false, false, false, false, false, false, false] rfl rfl (any_of HT_.out (by kernel_rfl)) (fun _ _ _ h => h) (Or.inl ⟨by rfl, ?_⟩) ?_ ?_
          rotate_left
          · intro w'
            go_simp
            with_reducible rfl
          rotate_left
          · simp only [Act.put, List.setIfInBounds_toArray, List.set_cons_zero, List.set_cons_succ, i64_w, i32_w]
            rfl
          refine pure_ (i := 15) (N := some 22) (v := ?_) (a' := ?_) #[true, false, true, false, false, true, false, true, false, false, false, false, false, true, false, true, false, false, false, false, false] rfl rfl (any_of HT_.out (by kernel_rfl)) (fun _ _ _ h => h) (Or.inl ⟨by rfl, ?_⟩) ?_ ?_
          rotate_left
          · intro w'
            go_simp
            with_reducible rfl
          rotate_left
          · simp only [Act.put, List.setIfInBounds_toArray, List.set_cons_zero, List.set_cons_succ, i64_w, i32_w]
            rfl
          refine take_ (i := 1) (N := some 8) (v := ?_) (a' := ?_) #[true, true, true, false, false, true, false, true, false, false, false, false, false, true, false, true, false, false, false, false, false] rfl rfl (take_ofW HT_.out HW_.out (by kernel_rfl)) (fun _ _ _ h => h) (Or.inl ⟨by rfl, ?_⟩) hHeld ?_ ?_
          rotate_left
          · rintro w' ⟨s0, s1, s2, s3, s4, s5, s6⟩
            go_simp
            with_reducible rfl
          rotate_left
          · simp only [Act.put, List.setIfInBounds_toArray, List.set_cons_zero, List.set_cons_succ, i64_w, i32_w]
            rfl
          refine pure_ (i := 3) (N := some 10) (v := ?_) (a' := ?_) #[true, true, true, true, false, true, false, true, false, false, false, false, false, true, false, true, false, false, false, false, false] rfl rfl (any_of HT_.out (by kernel_rfl)) (fun _ _ _ h => h) (Or.inl ⟨by rfl, ?_⟩) ?_ ?_
          rotate_left
          · intro w'
            go_simp
            with_reducible rfl
          rotate_left
          · simp only [Act.put, List.setIfInBounds_toArray, List.set_cons_zero, List.set_cons_succ, i64_w, i32_w]
            rfl
          refine take_ (i := 4) (N := some 11) (v := ?_) (a' := ?_) #[true, true, true, true, true, true, false, true, false, false, false, false, false, true, false, true, false, false, false, false, false] rfl rfl (take_ofW HT_.out HW_.out (by kernel_rfl)) (fun _ _ _ h => h) (Or.inl ⟨by rfl, ?_⟩) hHeld ?_ ?_
          rotate_left
          · rintro w' ⟨s0, s1, s2, s3, s4, s5, s6⟩
            go_simp
            with_reducible rfl
          rotate_left
          · simp only [Act.put, List.setIfInBounds_toArray, List.set_cons_zero, List.set_cons_succ, i64_w, i32_w]
            rfl
          refine take_ (i := 6) (N := some 13) (v := ?_) (a' := ?_) #[true, true, true, true, true, true, true, true, false, false, false, false, false, true, false, true, false, false, false, false, false] rfl rfl (take_ofW HT_.out HW_.out (by kernel_rfl)) (fun _ _ _ h => h) (Or.inl ⟨by rfl, ?_⟩) hHeld ?_ ?_
          rotate_left
          · rintro w' ⟨s0, s1, s2, s3, s4, s5, s6⟩
            go_simp
            with_reducible rfl
          rotate_left
          · simp only [Act.put, List.setIfInBounds_toArray, List.set_cons_zero, List.set_cons_succ, i64_w, i32_w]
            rfl
          refine pure_ (i := 8) (N := some 15) (v := ?_) (a' := ?_) #[true, true, true, true, true, true, true, true, true, false, false, false, false, true, false, true, false, false, false, false, false] rfl rfl (any_of HT_.out (by kernel_rfl)) (fun _ _ _ h => h) (Or.inl ⟨by rfl, ?_⟩) ?_ ?_
          rotate_left
          · intro w'
            go_simp
            with_reducible rfl
          rotate_left
          · simp only [Act.put, List.setIfInBounds_toArray, List.set_cons_zero, List.set_cons_succ, i64_w, i32_w]
            rfl
          refine pure_ (i := 9) (N := some 16) (v := ?_) (a' := ?_) #[true, true, true, true, true, true, true, true, true, true, false, false, false, true, false, true, false, false, false, false, false] rfl rfl (any_of HT_.out (by kernel_rfl)) (fun _ _ _ h => h) (Or.inl ⟨by rfl, ?_⟩) ?_ ?_
          rotate_left
          · intro w'
            go_simp
            with_reducible rfl
          rotate_left
          · simp only [Act.put, List.setIfInBounds_toArray, List.set_cons_zero, List.set_cons_succ, i64_w, i32_w]
            rfl
          refine take_ (i := 10) (N := some 17) (v := ?_) (a' := ?_) #[true, true, true, true, true, true, true, true, true, true, true, false, false, true, false, true, false, false, false, false, false] rfl rfl (take_ofW HT_.out HW_.out (by kernel_rfl)) (fun _ _ _ h => h) (Or.inl ⟨by rfl, ?_⟩) hHeld ?_ ?_
          rotate_left
          · rintro w' ⟨s0, s1, s2, s3, s4, s5, s6⟩
            go_simp
            with_reducible rfl
          rotate_left
          · simp only [Act.put, List.setIfInBounds_toArray, List.set_cons_zero, List.set_cons_succ, i64_w, i32_w]
            rfl
          refine pure_ (i := 11) (N := some 18) (v := ?_) (a' := ?_) #[true, true, true, true, true, true, true, true, true, true, true, true, false, true, false, true, false, false, false, false, false] rfl rfl (any_of HT_.out (by kernel_rfl)) (fun _ _ _ h => h) (Or.inl ⟨by rfl, ?_⟩) ?_ ?_
          rotate_left
          · intro w'
            go_simp
            with_reducible rfl
          rotate_left
          · simp only [Act.put, List.setIfInBounds_toArray, List.set_cons_zero, List.set_cons_succ, i64_w, i32_w]
            rfl
          refine take_ (i := 14) (N := some 21) (v := ?_) (a' := ?_) #[true, true, true, true, true, true, true, true, true, true, true, true, false, true, true, true, false, false, false, false, false] rfl rfl (take_ofW HT_.out HW_.out (by kernel_rfl)) (fun _ _ _ h => h) (Or.inl ⟨by rfl, ?_⟩) hHeld ?_ ?_
          rotate_left
          · rintro w' ⟨s0, s1, s2, s3, s4, s5, s6⟩
            go_simp
            with_reducible rfl
          rotate_left
          · simp only [Act.put, List.setIfInBounds_toArray, List.set_cons_zero, List.set_cons_succ, i64_w, i32_w]
            rfl
          refine pure_ (i := 16) (N := some 23) (v := ?_) (a' := ?_) #[true, true, true, true, true, true, true, true, true, true, true, true, false, true, true, true, true, false, false, false, false] rfl rfl (any_of HT_.out (by kernel_rfl)) (fun _ _ _ h => h) (Or.inl ⟨by rfl, ?_⟩) ?_ ?_
          rotate_left
          · intro w'
            go_simp
            with_reducible rfl
          rotate_left
          · simp only [Act.put, List.setIfInBounds_toArray, List.set_cons_zero, List.set_cons_succ, i64_w, i32_w]
            rfl
          refine pure_ (i := 17) (N := some 24) (v := ?_) (a' := ?_) #[true, true, true, true, true, true, true, true, true, true, true, true, false, true, true, true, true, true, false, false, false] rfl rfl (any_of HT_.out (by kernel_rfl)) (fun _ _ _ h => h) (Or.inl ⟨by rfl, ?_⟩) ?_ ?_
          rotate_left
          · intro w'
            go_simp
            with_reducible rfl
          rotate_left
          · simp only [Act.put, List.setIfInBounds_toArray, List.set_cons_zero, List.set_cons_succ, i64_w, i32_w]
            rfl
          refine take_ (i := 18) (N := some 25) (v := ?_) (a' := ?_) #[true, true, true, true, true, true, true, true, true, true, true, true, false, true, true, true, true, true, true, false, false] rfl rfl (take_ofW HT_.out HW_.out (by kernel_rfl)) (fun _ _ _ h => h) (Or.inl ⟨by rfl, ?_⟩) hHeld ?_ ?_
          rotate_left
          · rintro w' ⟨s0, s1, s2, s3, s4, s5, s6⟩
            go_simp
            with_reducible rfl
          rotate_left
          · simp only [Act.put, List.setIfInBounds_toArray, List.set_cons_zero, List.set_cons_succ, i64_w, i32_w]
            rfl
          refine one_ (i := 12) (N := some 19) #[true, true, true, true, true, true, true, true, true, true, true, true, true, true, true, true, true, true, true, false, false] rfl rfl (one_of HT_.out (by kernel_rfl)) (by decide) (fun K hK => ?_)
          refine goes_ Try.func109 (by kernel_rfl) rfl #[.int .i64 (wrap64 ((rd l0_1 a1) - ((rd_T112 l0_0 a2).f0)))] (by rfl) rfl rfl mpa ?_
          with_reducible refine (guidevanebase_Size.calls (wrap64 ((rd l0_1 a1) - ((rd_T112 l0_0 a2).f0))) t228004 _ A8.out).mono ?_
          rintro e w11 ⟨rfl, hb⟩
          refine ⟨_, rfl, ?_⟩
          have n0_ := Aside0.mk (blk_below (g := gb228001) (o := .cells #[.slice (some ad228003) l0_0.length c0_0, .slice (some ad228002) l0_1.length c0_1] 39 (0, 0)) (bkl BK228001.out) hb)
          have n1_ := Aside0.mk (below_step (belS HB.out GE228001.out) hb)
          clear BK228001
          clear HB
          have BK228001 := n0_
          have HB := n1_
          clear n0_ n1_
          (try clear hb)
          (try clear hb2)
          (try clear hk)
          (try clear hi)
          refine hK.out _ _ ⟨(blk_cell BK228001.out 0).trans rfl, (blk_cell BK228001.out 1).trans rfl, ((HB.out.cell (World.block_lt_of_cell? w _ hw228002_0)).trans hw228002_0), ((HB.out.cell (World.block_lt_of_cell? w _ hw228003_0)).trans hw228003_0), ((HB.out.cell (World.block_lt_of_cell? w _ hw228003_1)).trans hw228003_1), ((HB.out.cell (World.block_lt_of_cell? w _ hw228005_0)).trans hw228005_0), ((HB.out.cell (World.block_lt_of_cell? w _ hw228005_1)).trans hw228005_1)⟩ (fun hHeld => ?_)
          clear hK K
          refine norm_ (a' := ?_) ?_ ?_
          rotate_left
          · show Act.put _ (some 19) _ = _
            simp only [Act.put, List.setIfInBounds_toArray, List.set_cons_zero, List.set_cons_succ, i64_w, i32_w]
            rfl
          refine pure_ (i := 19) (N := some 26) (v := ?_) (a' := ?_) #[true, true, true, true, true, true, true, true, true, true, true, true, true, true, true, true, true, true, true, true, false] rfl rfl (any_of HT_.out (by kernel_rfl)) (fun _ _ _ h => h) (Or.inl ⟨by rfl, ?_⟩) ?_ ?_
          rotate_left
          · intro w'
            go_simp
            with_reducible rfl
          rotate_left
          · simp only [Act.put, List.setIfInBounds_toArray, List.set_cons_zero, List.set_cons_succ, i64_w, i32_w]
            rfl
          refine pure_ (i := 20) (N := some 6) (v := ?_) (a' := ?_) #[true, true, true, true, true, true, true, true, true, true, true, true, true, true, true, true, true, true, true, true, true] rfl rfl (any_of HT_.out (by kernel_rfl)) (fun _ _ _ h => h) (Or.inl ⟨by rfl, ?_⟩) ?_ ?_
          rotate_left
          · intro w'
            go_simp
            with_reducible rfl
          rotate_left
          · simp only [Act.put, List.setIfInBounds_toArray, List.set_cons_zero, List.set_cons_succ, i64_w, i32_w]
            rfl
          refine done_ (done_of HT_.out (by kernel_rfl)) ?_
          try go_wp2
          go_ret
          exact ⟨by first | rfl | (simp [errW_none, errW_some] <;> rfl) | (simp [*, errW_none, errW_some] <;> rfl), belS HB.out GE228001.out⟩
        · rw [if_neg c7] at H
          exact absurd H (by simp)
      · rw [if_neg c6] at H
        exact absurd H (by simp)
    · rw [if_neg c5] at H
      exact absurd H (by simp)
  · rw [if_neg c4] at H
    exact absurd H (by simp)
end Go.Proofs.Yteopooljohdoiaa.Px
namespace Go.Proofs.Yteopooljohdoiaa.Px
open Go.RowKit Go.Proofs.YteopooljohdoiaaW.PrintWords Go.Proofs.YteopooljohdoiaaW.PrintLast Go.Proofs.YteopooljohdoiaaW.PrintMore
attribute [local go_sem] max2_int min2_int max_two min_two max_three min_three max_four min_four
mutual
def guidevaneref09_IsCover.l0 : Nat → List Int → Int → List (S112) → List Int → Option (Bool)
  | 0, _, _, _, _ => none
  | k + 1, x1, x5, x84002000, x84002001 => if x5 < (x84002001.length : Int) then (guidevaneref09_IsCover.l1 k x1 x5 false 0 x84002000 x84002001) else (some true)
def guidevaneref09_IsCover.l1 : Nat → List Int → Int → Bool → Int → List (S112) → List Int → Option (Bool)
  | 0, _, _, _, _, _, _ => none
  | k + 1, x1, x5, x6, x7, x84002000, x84002001 => if x7 < (x1.length : Int) then (if x6 = true then (guidevaneref09_IsCover.l1 k x1 x5 true (wrap64 (x7 + 1)) x84002000 x84002001) else (if 0 ≤ x7 then ((guidevaneref09_Hears.f x84002000 x84002001 x5 (rd x1 x7)).bind fun t84003 => (guidevaneref09_IsCover.l1 k x1 x5 t84003 (wrap64 (x7 + 1)) x84002000 x84002001)) else (none))) else (if x6 = true then (guidevaneref09_IsCover.l0 k x1 (wrap64 (x5 + 1)) x84002000 x84002001) else (some false))
end
def guidevaneref09_IsCover.f (k : Nat) (l0_0 : List (S112)) (l0_1 : List Int) (l1 : List Int) : Option (Bool) := guidevaneref09_IsCover.l0 k l1 0 l0_0 l0_1
def guidevaneref09_IsCover.T8 : Bool × List (List Nat × List Nat) := (true, [([], []), ([0], [0]), ([1], [1]), ([1], [1]), ([1], [1]), ([1], [1]), ([4, 5, 1], [1, 4, 5]), ([6, 1], [1, 6]), ([2, 3, 7, 1, 1], [1, 2, 3, 7]), ([1, 8], [1, 8]), ([9, 8, 0, 1, 2, 3, 4, 5, 6, 7, 8, 9], [0, 9])])
def guidevaneref09_IsCover.B8 : List Nat := [0, 1, 3, 3, 3, 3, 51, 115, 255, 511, 1023]
theorem guidevaneref09_IsCover.tab8 : rtab .any (opsOf Try.f28 8) = guidevaneref09_IsCover.T8 := by kernel_rfl
theorem guidevaneref09_IsCover.bits8 : waitsOk guidevaneref09_IsCover.T8.2 guidevaneref09_IsCover.B8 = true := by kernel_rfl
set_option maxHeartbeats 8000000 in
set_option maxRecDepth 100000 in
theorem guidevaneref09_IsCover.calls (k : Nat) (A0_0 : Option Addr) (c0_0 : Nat) (l0_0 : List (S112)) (A0_1 : Option Addr) (c0_1 : Nat) (l0_1 : List Int) (A1 : Option Addr) (c1 : Nat) (l1 : List Int) (r : Bool) (w : World) (hr0_0 : Kd.C k112 w A0_0 l0_0.length l0_0) (hc0_0 : l0_0.length ≤ c0_0) (hr0_1 : Kd.C (Kd.int .i64) w A0_1 l0_1.length l0_1) (hc0_1 : l0_1.length ≤ c0_1) (hr1 : Kd.C (Kd.int .i64) w A1 l1.length l1) (hc1 : l1.length ≤ c1) (h : guidevaneref09_IsCover.f k l0_0 l0_1 l1 = some r) :
    Calls Try.prog 28 #[.agg #[.slice A0_0 l0_0.length c0_0, .slice A0_1 l0_1.length c0_1], .slice A1 l1.length c1] w fun e w' => e = .returned (.bool r) ∧ Below w.heap.size w w' := by
  have hu39 := Try.underlying39
  have HR0_0 := Aside0.mk hr0_0
  have HC0_0 := Aside0.mk hc0_0
  clear hr0_0 hc0_0
  have HR0_1 := Aside0.mk hr0_1
  have HC0_1 := Aside0.mk hc0_1
  clear hr0_1 hc0_1
  have HR1 := Aside0.mk hr1
  have HC1 := Aside0.mk hc1
  clear hr1 hc1
  have HB := Aside0.mk (Below.refl w.heap.size w)
  have H : (guidevaneref09_IsCover.l0 k l1 0 l0_0 l0_1) = some r := h
  clear h
  have H' := Aside0.mk H
  clear H
  go_enter Try.func28, Try.ntmps28
  go_wp2_with (first | ((with_reducible refine gate_dst (N := 2) rfl ?_); refine box_event ?hg (N := 2) ?hd (cs := #[.slice A0_0 l0_0.length c0_0, .slice A0_1 l0_1.length c0_1]) (t := 39) ?hr ?_; (case hd => rfl); (case hg => rfl); (case hr => first | (go_simp; done) | (go_simp; rfl)); intro gb84001 hg w3 hbox hb; have n0_ := Aside0.mk (below_step (bel HB.out) hb); have n1_ := Aside0.mk (hbox); have n2_ := Aside0.mk ((by rw [hg]; exact (below_size (bel HB.out)) : w.heap.size ≤ gb84001)); have n3_ := Aside0.mk ((by rw [hg]; exact (below_size (bel HB.out)) : w.heap.size ≤ gb84001)); clear HB; have HB := n0_; have BK84001 := n1_; have GW84001 := n2_; have GE84001 := n3_; clear n0_ n1_ n2_ n3_; clear hb hbox hg))
  go_loopg [5] k (fun kq v5 w' => ∃ (x5_1 : Int), v5 = .int .i64 x5_1 ∧ Aside0 (guidevaneref09_IsCover.l0 kq l1 x5_1 l0_0 l0_1 = some r) ∧ Aside0 (kq ≤ k) ∧ Aside0 (w'.heap[gb84001]? = some (.cells #[(.slice A0_0 l0_0.length c0_0), (.slice A0_1 l0_1.length c0_1)] 39 (0, 0))) ∧ Aside0 (Below w.heap.size w w'))
  case atStart => exact ⟨(0), (by first | rfl | (simp; done) | (simp [*]; done)), H', ⟨Nat.le_refl _⟩, ⟨bkl BK84001.out⟩, ⟨belS HB.out GE84001.out⟩⟩
  case round =>
    clear H'
    try clear c1
    try clear c2
    try clear p2
    obtain ⟨x5_1, rfl, HA, HK1, BK84001, HB⟩ := hrel
    cases gk with
    | zero => exact absurd HA.out (by simp [guidevaneref09_IsCover.l0])
    | succ k1 =>
      have H := HA.out
      clear HA
      simp only [guidevaneref09_IsCover.l0] at H
      by_cases c4 : x5_1 < (l0_1.length : Int)
      · rw [if_pos c4] at H
        have c4b0 : decide (x5_1 < (l0_1.length : Int)) = true := decide_eq_true c4
        clear c4
        have H' := Aside0.mk H
        clear H
        have hcz5_0 : wr.cell? ⟨gb84001, 0, none⟩ = some (.slice A0_0 l0_0.length c0_0) := (blk_cell BK84001.out 0).trans rfl
        have hcz5_1 : wr.cell? ⟨gb84001, 1, none⟩ = some (.slice A0_1 l0_1.length c0_1) := (blk_cell BK84001.out 1).trans rfl
        have hfz5_0 := blk_frozen BK84001.out 0
        have hfz5_1 := blk_frozen BK84001.out 1
        go_wp2
        go_loopg [6, 7] k1 (fun kq v6 v7 w' => ∃ (x6_2 : Bool) (x7_2 : Int), v6 = .bool x6_2 ∧ v7 = .int .i64 x7_2 ∧ Aside0 (guidevaneref09_IsCover.l1 kq l1 x5_1 x6_2 x7_2 l0_0 l0_1 = some r) ∧ Aside0 (kq ≤ k1) ∧ Aside0 (w'.heap[gb84001]? = some (.cells #[(.slice A0_0 l0_0.length c0_0), (.slice A0_1 l0_1.length c0_1)] 39 (0, 0))) ∧ Aside0 (Below w.heap.size w w'))
        case atStart => exact ⟨(false), (0), (by first | rfl | (simp; done) | (simp [*]; done)), (by first | rfl | (simp; done) | (simp [*]; done)), H', ⟨Nat.le_refl _⟩, ⟨bkl BK84001.out⟩, ⟨belS HB.out GE84001.out⟩⟩
        case round =>
          clear H'
          try clear c1
          try clear c2
          try clear p2
          try clear c4
          try clear c4b0
          try clear hcz5_0
          try clear hcz5_1
          try clear hfz5_0
          try clear hfz5_1
          try clear p2
          obtain ⟨x6_2, x7_2, rfl, rfl, HA, HK2, BK84001, HB⟩ := hrel
          cases gk with
          | zero => exact absurd HA.out (by simp [guidevaneref09_IsCover.l1])
          | succ k2 =>
            have H := HA.out
            clear HA
            simp only [guidevaneref09_IsCover.l1] at H
            by_cases c6 : x7_2 < (l1.length : Int)
            · rw [if_pos c6] at H
              have c6b0 : decide (x7_2 < (l1.length : Int)) = true := decide_eq_true c6
              clear c6
              by_cases c7 : x6_2 = true
              · subst c7
                have H1 : (guidevaneref09_IsCover.l1 k2 l1 x5_1 true (wrap64 (x7_2 + 1)) l0_0 l0_1) = some r := by rw [if_pos rfl] at H; exact H
                clear H
                have H := H1
                clear H1
                have H' := Aside0.mk H
                clear H
                try go_wp2
                have n0_ := Aside0.mk (blk_drew BK84001.out)
                have n1_ := Aside0.mk (below_drew1 HB.out)
                clear BK84001
                clear HB
                have BK84001 := n0_
                have HB := n1_
                clear n0_ n1_
                refine start_ (n := 11) (S := fun w' => True) (ds := []) #[false, false, false, false, false, false, false, false, false, false, false] (by kernel_rfl) rfl rfl trivial (fun hHeld => ?_); refine with_tabW guidevaneref09_IsCover.tab8 guidevaneref09_IsCover.bits8 (fun HT_ HW_ => ?_)
                generalize wr.drew = w8 at BK84001 HB hHeld ⊢
                refine pure_ (i := 0) (N := some 21) (v := ?_) (a' := ?_) #[true, false, false, false, false, false, false, false, false, false, false] rfl rfl (any_of HT_.out (by kernel_rfl)) (fun _ _ _ h => h) (Or.inl ⟨by rfl, ?_⟩) ?_ ?_
                rotate_left
                · intro w'
                  go_simp
                  with_reducible rfl
                rotate_left
                · simp only [Act.put, List.setIfInBounds_toArray, List.set_cons_zero, List.set_cons_succ, i64_w, i32_w]
                  rfl
                refine pure_ (i := 1) (N := some 22) (v := ?_) (a' := ?_) #[true, true, false, false, false, false, false, false, false, false, false] rfl rfl (any_of HT_.out (by kernel_rfl)) (fun _ _ _ h => h) (Or.inl ⟨by rfl, ?_⟩) ?_ ?_
                rotate_left
                · intro w'
                  go_simp
                  with_reducible rfl
                rotate_left
                · simp only [Act.put, List.setIfInBounds_toArray, List.set_cons_zero, List.set_cons_succ, i64_w, i32_w]
                  rfl
                refine pure_ (i := 2) (N := some 23) (v := undef) (a' := ?_) #[true, true, true, false, false, false, false, false, false, false, false] rfl rfl (any_of HT_.out (by kernel_rfl)) (fun _ _ _ h => h) (Or.inr ⟨by rfl, rfl⟩) ?_ ?_
                rotate_left
                · simp only [Act.put, List.setIfInBounds_toArray, List.set_cons_zero, List.set_cons_succ, i64_w, i32_w]
                  rfl
                refine pure_ (i := 3) (N := some 24) (v := undef) (a' := ?_) #[true, true, true, true, false, false, false, false, false, false, false] rfl rfl (any_of HT_.out (by kernel_rfl)) (fun _ _ _ h => h) (Or.inr ⟨by rfl, rfl⟩) ?_ ?_
                rotate_left
                · simp only [Act.put, List.setIfInBounds_toArray, List.set_cons_zero, List.set_cons_succ, i64_w, i32_w]
                  rfl
                refine pure_ (i := 4) (N := some 25) (v := undef) (a' := ?_) #[true, true, true, true, true, false, false, false, false, false, false] rfl rfl (any_of HT_.out (by kernel_rfl)) (fun _ _ _ h => h) (Or.inr ⟨by rfl, rfl⟩) ?_ ?_
                rotate_left
                · simp only [Act.put, List.setIfInBounds_toArray, List.set_cons_zero, List.set_cons_succ, i64_w, i32_w]
                  rfl
                refine pure_ (i := 5) (N := some 26) (v := undef) (a' := ?_) #[true, true, true, true, true, true, false, false, false, false, false] rfl rfl (any_of HT_.out (by kernel_rfl)) (fun _ _ _ h => h) (Or.inr ⟨by rfl, rfl⟩) ?_ ?_
                rotate_left
                · simp only [Act.put, List.setIfInBounds_toArray, List.set_cons_zero, List.set_cons_succ, i64_w, i32_w]
                  rfl
                refine pure_ (i := 6) (N := some 27) (v := undef) (a' := ?_) #[true, true, true, true, true, true, true, false, false, false, false] rfl rfl (any_of HT_.out (by kernel_rfl)) (fun _ _ _ h => h) (Or.inr ⟨by rfl, rfl⟩) ?_ ?_
                rotate_left
                · simp only [Act.put, List.setIfInBounds_toArray, List.set_cons_zero, List.set_cons_succ, i64_w, i32_w]
                  rfl
                refine pure_ (i := 7) (N := some 28) (v := undef) (a' := ?_) #[true, true, true, true, true, true, true, true, false, false, false] rfl rfl (any_of HT_.out (by kernel_rfl)) (fun _ _ _ h => h) (Or.inr ⟨by rfl, rfl⟩) ?_ ?_
                rotate_left
                · simp only [Act.put, List.setIfInBounds_toArray, List.set_cons_zero, List.set_cons_succ, i64_w, i32_w]
                  rfl
                refine pure_ (i := 8) (N := some 29) (v := undef) (a' := ?_) #[true, true, true, true, true, true, true, true, true, false, false] rfl rfl (any_of HT_.out (by kernel_rfl)) (fun _ _ _ h => h) (Or.inr ⟨by rfl, rfl⟩) ?_ ?_
                rotate_left
                · simp only [Act.put, List.setIfInBounds_toArray, List.set_cons_zero, List.set_cons_succ, i64_w, i32_w]
                  rfl
                refine pure_ (i := 9) (N := some 30) (v := ?_) (a' := ?_) #[true, true, true, true, true, true, true, true, true, true, false] rfl rfl (any_of HT_.out (by kernel_rfl)) (fun _ _ _ h => h) (Or.inl ⟨by rfl, ?_⟩) ?_ ?_
                rotate_left
                · intro w'
                  go_simp
                  with_reducible rfl
                rotate_left
                · simp only [Act.put, List.setIfInBounds_toArray, List.set_cons_zero, List.set_cons_succ, i64_w, i32_w]
                  rfl
                refine pure_ (i := 10) (N := some 6) (v := ?_) (a' := ?_) #[true, true, true, true, true, true, true, true, true, true, true] rfl rfl (any_of HT_.out (by kernel_rfl)) (fun _ _ _ h => h) (Or.inl ⟨by rfl, ?_⟩) ?_ ?_
                rotate_left
                · intro w'
                  go_simp
                  with_reducible rfl
                rotate_left
                · simp only [Act.put, List.setIfInBounds_toArray, List.set_cons_zero, List.set_cons_succ, i64_w, i32_w]
                  rfl
                refine done_ (done_of HT_.out (by kernel_rfl)) ?_
                try go_wp2
                go_roundg k2
                case measure => have := HK1.out; have := HK2.out; omega
                case rel => exact ⟨(true), (wrap64 (x7_2 + 1)), (by first | rfl | (simp; done) | (simp [*]; done)), (by first | rfl | (simp; done) | (simp [*]; done)), H', ⟨by have := HK1.out; have := HK2.out; omega⟩, ⟨bkl BK84001.out⟩, ⟨belS HB.out GE84001.out⟩⟩
              · replace c7 := Bool.eq_false_iff.mpr c7
                subst c7
                have H1 : (if 0 ≤ x7_2 then ((guidevaneref09_Hears.f l0_0 l0_1 x5_1 (rd l1 x7_2)).bind fun t84003 => (guidevaneref09_IsCover.l1 k2 l1 x5_1 t84003 (wrap64 (x7_2 + 1)) l0_0 l0_1)) else (none)) = some r := by rw [if_neg (show ¬ (false = true) by decide)] at H; exact H
                clear H
                have H := H1
                clear H1
                by_cases c9 : 0 ≤ x7_2
                · rw [if_pos c9] at H
                  have c9b0 : decide (0 ≤ x7_2) = true := decide_eq_true c9
                  clear c9
                  replace H := Option.bind_eq_some_iff.mp H
                  obtain ⟨t84003, A100, H⟩ := H
                  replace H : (guidevaneref09_IsCover.l1 k2 l1 x5_1 t84003 (wrap64 (x7_2 + 1)) l0_0 l0_1) = some r := H
                  have A10 := Aside0.mk A100
                  clear A100
                  have H' := Aside0.mk H
                  clear H
                  try go_wp2
                  have n0_ := Aside0.mk (blk_drew BK84001.out)
                  have n1_ := Aside0.mk (below_drew1 HB.out)
                  clear BK84001
                  clear HB
                  have BK84001 := n0_
                  have HB := n1_
                  clear n0_ n1_
                  have p84002 : 0 ≤ (x7_2 : Int) := of_decide_eq_true asm_
                  have q84002 : x7_2 < (l1.length : Int) := of_decide_eq_true asm_
                  obtain ⟨ad84002, e84002, hx84002_0⟩ := Kd.at_int HR1.out x7_2 p84002 q84002
                  have hw84002_0 := hx84002_0
                  cases e84002
                  replace hx84002_0 := (HB.out.cell (World.block_lt_of_cell? w _ hx84002_0)).trans hx84002_0
                  replace p84002 := eq_true p84002
                  replace q84002 := eq_true q84002
                  refine start_ (n := 11) (S := fun w' => w'.cell? ⟨gb84001, 0, none⟩ = some (.slice A0_0 l0_0.length c0_0) ∧ w'.cell? ⟨gb84001, 1, none⟩ = some (.slice A0_1 l0_1.length c0_1) ∧ w'.cell? (ad84002.add (x7_2).toNat) = some (.int .i64 (rd l1 x7_2))) (ds := []) #[false, false, false, false, false, false, false, false, false, false, false] (by kernel_rfl) rfl rfl ⟨(blk_cell BK84001.out 0).trans rfl, (blk_cell BK84001.out 1).trans rfl, ((HB.out.cell (World.block_lt_of_cell? w _ hw84002_0)).trans hw84002_0)⟩ (fun hHeld => ?_); refine with_tabW guidevaneref09_IsCover.tab8 guidevaneref09_IsCover.bits8 (fun HT_ HW_ => ?_)
                  generalize wr.drew = w11 at BK84001 HB hx84002_0 hHeld ⊢
                  refine pure_ (i := 0) (N := some 21) (v := ?_) (a' := ?_) #[true, false, false, false, false, false, false, false, false, false, false] rfl rfl (any_of HT_.out (by kernel_rfl)) (fun _ _ _ h => h) (Or.inl ⟨by rfl, ?_⟩) ?_ ?_
                  rotate_left
                  · intro w'
                    go_simp
                    with_reducible rfl
                  rotate_left
                  · simp only [Act.put, List.setIfInBounds_toArray, List.set_cons_zero, List.set_cons_succ, i64_w, i32_w]
                    rfl
                  refine pure_ (i := 1) (N := some 22) (v := ?_) (a' := ?_) #[true, true, false, false, false, false, false, false, false, false, false] rfl rfl (any_of HT_.out (by kernel_rfl)) (fun _ _ _ h => h) (Or.inl ⟨by rfl, ?_⟩) ?_ ?_
                  rotate_left
                  · intro w'
                    go_simp
                    with_reducible rfl
                  rotate_left
                  · simp only [Act.put, List.setIfInBounds_toArray, List.set_cons_zero, List.set_cons_succ, i64_w, i32_w]
                    rfl
                  refine pure_ (i := 3) (N := some 24) (v := ?_) (a' := ?_) #[true, true, false, true, false, false, false, false, false, false, false] rfl rfl (any_of HT_.out (by kernel_rfl)) (fun _ _ _ h => h) (Or.inl ⟨by rfl, ?_⟩) ?_ ?_
                  rotate_left
                  · intro w'
                    go_simp
                    with_reducible rfl
                  rotate_left
                  · simp only [Act.put, List.setIfInBounds_toArray, List.set_cons_zero, List.set_cons_succ, i64_w, i32_w]
                    rfl
                  refine pure_ (i := 4) (N := some 25) (v := ?_) (a' := ?_) #[true, true, false, true, true, false, false, false, false, false, false] rfl rfl (any_of HT_.out (by kernel_rfl)) (fun _ _ _ h => h) (Or.inl ⟨by rfl, ?_⟩) ?_ ?_
                  rotate_left
                  · intro w'
                    go_simp
                    with_reducible rfl
                  rotate_left
                  · simp only [Act.put, List.setIfInBounds_toArray, List.set_cons_zero, List.set_cons_succ, i64_w, i32_w]
                    rfl
                  refine pure_ (i := 5) (N := some 26) (v := ?_) (a' := ?_) #[true, true, false, true, true, true, false, false, false, false, false] rfl rfl (any_of HT_.out (by kernel_rfl)) (fun _ _ _ h => h) (Or.inl ⟨by rfl, ?_⟩) ?_ ?_
                  rotate_left
                  · intro w'
                    go_simp
                    with_reducible rfl
                  rotate_left
                  · simp only [Act.put, List.setIfInBounds_toArray, List.set_cons_zero, List.set_cons_succ, i64_w, i32_w]
                    rfl
                  refine pure_ (i := 6) (N := some 27) (v := ?_) (a' := ?_) #[true, true, false, true, true, true, true, false, false, false, false] rfl rfl (any_of HT_.out (by kernel_rfl)) (fun _ _ _ h => h) (Or.inl ⟨by rfl, ?_⟩) ?_ ?_
                  rotate_left
                  · intro w'
                    go_simp
                    with_reducible rfl
                  rotate_left
                  · simp only [Act.put, List.setIfInBounds_toArray, List.set_cons_zero, List.set_cons_succ, i64_w, i32_w]
                    rfl
                  refine take_ (i := 2) (N := some 23) (v := ?_) (a' := ?_) #[true, true, true, true, true, true, true, false, false, false, false] rfl rfl (take_ofW HT_.out HW_.out (by kernel_rfl)) (fun _ _ _ h => h) (Or.inl ⟨by rfl, ?_⟩) hHeld ?_ ?_
                  rotate_left
                  · rintro w' ⟨s0, s1, s2⟩
                    go_simp
                    with_reducible rfl
                  rotate_left
                  · simp only [Act.put, List.setIfInBounds_toArray, List.set_cons_zero, List.set_cons_succ, i64_w, i32_w]
                    rfl
                  refine take_ (i := 7) (N := some 28) (v := ?_) (a' := ?_) #[true, true, true, true, true, true, true, true, false, false, false] rfl rfl (take_ofW HT_.out HW_.out (by kernel_rfl)) (fun _ _ _ h => h) (Or.inl ⟨by rfl, ?_⟩) hHeld ?_ ?_
                  rotate_left
                  · rintro w' ⟨s0, s1, s2⟩
                    go_simp
                    with_reducible rfl
                  rotate_left
                  · simp only [Act.put, List.setIfInBounds_toArray, List.set_cons_zero, List.set_cons_succ, i64_w, i32_w]
                    rfl
                  refine one_ (i := 8) (N := some 29) #[true, true, true, true, true, true, true, true, true, false, false] rfl rfl (one_of HT_.out (by kernel_rfl)) (by decide) (fun K hK => ?_)
                  refine goes_ Try.func76 (by kernel_rfl) rfl #[.agg #[.slice A0_0 l0_0.length c0_0, .slice A0_1 l0_1.length c0_1], .int .i64 x5_1, .int .i64 (rd l1 x7_2)] (by rfl) rfl rfl mpa ?_
                  with_reducible refine (guidevaneref09_Hears.calls _ _ l0_0 _ _ l0_1 x5_1 (rd l1 x7_2) t84003 _ ?side1 ?side2 ?side3 ?side4 A10.out).mono ?_
                  (case side1 => repeat (first | exact (Kd.C_below HR0_0.out HB.out) | (with_reducible refine Kd.C_alloc ?_ _) | (with_reducible refine Kd.C_drewN ?_ _) | (with_reducible refine Kd.C_drew ?_)))
                  (case side2 => exact HC0_0.out)
                  (case side3 => repeat (first | exact (Kd.C_below HR0_1.out HB.out) | (with_reducible refine Kd.C_alloc ?_ _) | (with_reducible refine Kd.C_drewN ?_ _) | (with_reducible refine Kd.C_drew ?_)))
                  (case side4 => exact HC0_1.out)
                  rintro e w12 ⟨rfl, hb⟩
                  refine ⟨_, rfl, ?_⟩
                  have n0_ := Aside0.mk (blk_below (g := gb84001) (o := .cells #[.slice A0_0 l0_0.length c0_0, .slice A0_1 l0_1.length c0_1] 39 (0, 0)) (bkl BK84001.out) hb)
                  have n1_ := Aside0.mk (below_step (belS HB.out GE84001.out) hb)
                  clear BK84001
                  clear HB
                  have BK84001 := n0_
                  have HB := n1_
                  clear n0_ n1_
                  (try clear hb)
                  (try clear hb2)
                  (try clear hk)
                  (try clear hi)
                  refine hK.out _ _ ⟨(blk_cell BK84001.out 0).trans rfl, (blk_cell BK84001.out 1).trans rfl, ((HB.out.cell (World.block_lt_of_cell? w _ hw84002_0)).trans hw84002_0)⟩ (fun hHeld => ?_)
                  clear hK K
                  refine norm_ (a' := ?_) ?_ ?_
                  rotate_left
                  · show Act.put _ (some 29) _ = _
                    simp only [Act.put, List.setIfInBounds_toArray, List.set_cons_zero, List.set_cons_succ, i64_w, i32_w]
                    rfl
                  refine pure_ (i := 9) (N := some 30) (v := ?_) (a' := ?_) #[true, true, true, true, true, true, true, true, true, true, false] rfl rfl (any_of HT_.out (by kernel_rfl)) (fun _ _ _ h => h) (Or.inl ⟨by rfl, ?_⟩) ?_ ?_
                  rotate_left
                  · intro w'
                    go_simp
                    with_reducible rfl
                  rotate_left
                  · simp only [Act.put, List.setIfInBounds_toArray, List.set_cons_zero, List.set_cons_succ, i64_w, i32_w]
                    rfl
                  refine pure_ (i := 10) (N := some 6) (v := ?_) (a' := ?_) #[true, true, true, true, true, true, true, true, true, true, true] rfl rfl (any_of HT_.out (by kernel_rfl)) (fun _ _ _ h => h) (Or.inl ⟨by rfl, ?_⟩) ?_ ?_
                  rotate_left
                  · intro w'
                    go_simp
                    with_reducible rfl
                  rotate_left
                  · simp only [Act.put, List.setIfInBounds_toArray, List.set_cons_zero, List.set_cons_succ, i64_w, i32_w]
                    rfl
                  refine done_ (done_of HT_.out (by kernel_rfl)) ?_
                  try go_wp2
                  go_roundg k2
                  case measure => have := HK1.out; have := HK2.out; omega
                  case rel => exact ⟨(t84003), (wrap64 (x7_2 + 1)), (by first | rfl | (simp; done) | (simp [*]; done)), (by first | rfl | (simp; done) | (simp [*]; done)), H', ⟨by have := HK1.out; have := HK2.out; omega⟩, ⟨bkl BK84001.out⟩, ⟨belS HB.out GE84001.out⟩⟩
                · rw [if_neg c9] at H
                  exact absurd H (by simp)
            · rw [if_neg c6] at H
              have c6b0 : decide (x7_2 < (l1.length : Int)) = false := decide_eq_false c6
              clear c6
              by_cases c13 : x6_2 = true
              · subst c13
                have H1 : (guidevaneref09_IsCover.l0 k2 l1 (wrap64 (x5_1 + 1)) l0_0 l0_1) = some r := by rw [if_pos rfl] at H; exact H
                clear H
                have H := H1
                clear H1
                have H' := Aside0.mk H
                clear H
                go_wp2
                go_roundg k2
                case measure => have := HK1.out; have := HK2.out; omega
                case rel => exact ⟨(wrap64 (x5_1 + 1)), (by first | rfl | (simp; done) | (simp [*]; done)), H', ⟨by have := HK1.out; have := HK2.out; omega⟩, ⟨bkl BK84001.out⟩, ⟨belS HB.out GE84001.out⟩⟩
              · replace c13 := Bool.eq_false_iff.mpr c13
                subst c13
                have H1 : (some false) = some r := by rw [if_neg (show ¬ (false = true) by decide)] at H; exact H
                clear H
                have H := H1
                clear H1
                obtain rfl := Option.some.inj H
                go_wp2
                go_ret
                exact ⟨by first | rfl | (simp [errW_none, errW_some] <;> rfl) | (simp [*, errW_none, errW_some] <;> rfl), belS HB.out GE84001.out⟩
      · rw [if_neg c4] at H
        have c4b0 : decide (x5_1 < (l0_1.length : Int)) = false := decide_eq_false c4
        clear c4
        obtain rfl := Option.some.inj H
        have hcz14_0 : wr.cell? ⟨gb84001, 0, none⟩ = some (.slice A0_0 l0_0.length c0_0) := (blk_cell BK84001.out 0).trans rfl
        have hcz14_1 : wr.cell? ⟨gb84001, 1, none⟩ = some (.slice A0_1 l0_1.length c0_1) := (blk_cell BK84001.out 1).trans rfl
        have hfz14_0 := blk_frozen BK84001.out 0
        have hfz14_1 := blk_frozen BK84001.out 1
        go_wp2
        go_ret
        exact ⟨by first | rfl | (simp [errW_none, errW_some] <;> rfl) | (simp [*, errW_none, errW_some] <;> rfl), belS HB.out GE84001.out⟩
end Go.Proofs.Yteopooljohdoiaa.Px
namespace Go.Proofs.Yteopooljohdoiaa.Px
open Go.RowKit Go.Proofs.YteopooljohdoiaaW.PrintWords Go.Proofs.YteopooljohdoiaaW.PrintLast Go.Proofs.YteopooljohdoiaaW.PrintMore
attribute [local go_sem] max2_int min2_int max_two min_two max_three min_three max_four min_four
mutual
def guidevaneref09_covered.l0 : Nat → List Int → Int → Int → List (S112) → List Int → Option (List Int × Bool)
  | 0, _, _, _, _, _ => none
  | k + 1, x1, x3, x10, x225002000, x225002001 => if (wrap64 (x10 + x3)) ≤ (x225002000.length : Int) then ((guidevanebase_CopyInts.f x1).bind fun t225006 => ((some (([x10] : List Int) : List Int)).bind fun y225009 => (if t225006.length + y225009.length < 17592186044416 then ((guidevaneref09_covered.f k x225002000 x225002001 (t225006 ++ y225009) (wrap64 (x10 + 1)) (wrap64 (x3 - 1))).bind fun bt225015 => (if bt225015.2 = true then (some (bt225015.1, true)) else (guidevaneref09_covered.l0 k x1 x3 (wrap64 (x10 + 1)) x225002000 x225002001))) else (none)))) else (some (([] : List Int), false))
def guidevaneref09_covered.f : Nat → List (S112) → List Int → List Int → Int → Int → Option (List Int × Bool)
  | 0, _, _, _, _, _ => none
  | k + 1, l0_0, l0_1, l1, a2, a3 => if a3 = 0 then ((guidevanebase_CopyInts.f l1).bind fun t225002 => ((guidevaneref09_IsCover.f k l0_0 l0_1 l1).bind fun t225005 => (some (t225002, t225005)))) else (guidevaneref09_covered.l0 k l1 a3 a2 l0_0 l0_1)
end
def guidevaneref09_covered.T6 : Bool × List (List Nat × List Nat) := (true, [([], []), ([], []), ([1], [1]), ([], []), ([3], [3]), ([2, 4, 2], [2, 4]), ([], []), ([6], [6]), ([], []), ([8], [8]), ([0, 5, 7, 9, 5], [0, 5, 7, 9]), ([10], [10]), ([11], [11]), ([11], [11]), ([12, 10, 0, 1, 2, 3, 4, 5, 6, 7, 8, 9, 10, 11, 12], [12]), ([13, 14, 0, 1, 2, 3, 4, 5, 6, 7, 8, 9, 10, 11, 12, 13, 14], [13])])
def guidevaneref09_covered.B6 : List Nat := [0, 0, 2, 0, 8, 30, 0, 64, 0, 256, 1023, 2047, 4095, 4095, 8191, 32767]
theorem guidevaneref09_covered.tab6 : rtab .any (opsOf Try.f75 6) = guidevaneref09_covered.T6 := by kernel_rfl
theorem guidevaneref09_covered.bits6 : waitsOk guidevaneref09_covered.T6.2 guidevaneref09_covered.B6 = true := by kernel_rfl
set_option maxHeartbeats 8000000 in
set_option maxRecDepth 100000 in
theorem guidevaneref09_covered.calls (k : Nat) : ∀ (A0_0 : Option Addr) (c0_0 : Nat) (l0_0 : List (S112)) (A0_1 : Option Addr) (c0_1 : Nat) (l0_1 : List Int) (A1 : Option Addr) (c1 : Nat) (l1 : List Int) (a2 : Int) (a3 : Int) (r1 : List Int) (r2 : Bool) (w : World) (hr0_0 : Kd.C k112 w A0_0 l0_0.length l0_0) (hc0_0 : l0_0.length ≤ c0_0) (hr0_1 : Kd.C (Kd.int .i64) w A0_1 l0_1.length l0_1) (hc0_1 : l0_1.length ≤ c0_1) (hr1 : Kd.C (Kd.int .i64) w A1 l1.length l1) (hc1 : l1.length ≤ c1) (h : guidevaneref09_covered.f k l0_0 l0_1 l1 a2 a3 = some (r1, r2)),
    Calls Try.prog 75 #[.agg #[.slice A0_0 l0_0.length c0_0, .slice A0_1 l0_1.length c0_1], .slice A1 l1.length c1, .int .i64 a2, .int .i64 a3] w fun e w' => ∃ v0_ : Value, e = .returned (.tuple #[v0_, .bool r2]) ∧ Kd.R (Kd.int .i64) 3 w' w.heap.size (fun _ => True) v0_ r1 ∧ Below w.heap.size w w' := by
  induction k using Nat.strongRecOn with
  | _ k ih =>
  intro A0_0 c0_0 l0_0 A0_1 c0_1 l0_1 A1 c1 l1 a2 a3 r1 r2 w hr0_0 hc0_0 hr0_1 hc0_1 hr1 hc1 h
  cases k with
  | zero => exact absurd h (by simp [guidevaneref09_covered.f])
  | succ k =>
  simp only [guidevaneref09_covered.f] at h
  have hu39 := Try.underlying39
  have HR0_0 := Aside0.mk hr0_0
  have HC0_0 := Aside0.mk hc0_0
  clear hr0_0 hc0_0
  have HR0_1 := Aside0.mk hr0_1
  have HC0_1 := Aside0.mk hc0_1
  clear hr0_1 hc0_1
  have HR1 := Aside0.mk hr1
  have HC1 := Aside0.mk hc1
  clear hr1 hc1
  have HB := Aside0.mk (Below.refl w.heap.size w)
  have H : (if a3 = 0 then ((guidevanebase_CopyInts.f l1).bind fun t225002 => ((guidevaneref09_IsCover.f k l0_0 l0_1 l1).bind fun t225005 => (some (t225002, t225005)))) else (guidevaneref09_covered.l0 k l1 a3 a2 l0_0 l0_1)) = some (r1, r2) := h
  clear h
  by_cases c5 : a3 = 0
  · rw [if_pos c5] at H
    have c5b0 : (a3 == 0) = true := beq_iff_eq.mpr c5
    have c5b1 : (a3 != 0) = false := bne_eq_false_iff_eq.mpr c5
    clear c5
    replace H := Option.bind_eq_some_iff.mp H
    obtain ⟨t225002, A60, H⟩ := H
    replace H : ((guidevaneref09_IsCover.f k l0_0 l0_1 l1).bind fun t225005 => (some (t225002, t225005))) = some (r1, r2) := H
    have A6 := Aside0.mk A60
    clear A60
    replace H := Option.bind_eq_some_iff.mp H
    obtain ⟨t225005, A70, H⟩ := H
    replace H : (some (t225002, t225005)) = some (r1, r2) := H
    have A7 := Aside0.mk A70
    clear A70
    simp only [Option.some.injEq, Prod.mk.injEq] at H
    obtain ⟨rfl, rfl⟩ := H
    go_enter Try.func75, Try.ntmps75
    try go_wp2_with (first | ((with_reducible refine gate_dst (N := 4) rfl ?_); refine box_event ?hg (N := 4) ?hd (cs := #[.slice A0_0 l0_0.length c0_0, .slice A0_1 l0_1.length c0_1]) (t := 39) ?hr ?_; (case hd => rfl); (case hg => rfl); (case hr => first | (go_simp; done) | (go_simp; rfl)); intro gb225001 hg w8 hbox hb; have n0_ := Aside0.mk (below_step (bel HB.out) hb); have n1_ := Aside0.mk (hbox); have n2_ := Aside0.mk ((by rw [hg]; exact (below_size (bel HB.out)) : w.heap.size ≤ gb225001)); have n3_ := Aside0.mk ((by rw [hg]; exact (below_size (bel HB.out)) : w.heap.size ≤ gb225001)); clear HB; have HB := n0_; have BK225001 := n1_; have GW225001 := n2_; have GE225001 := n3_; clear n0_ n1_ n2_ n3_; clear hb hbox hg))
    have n0_ := Aside0.mk (blk_drew BK225001.out)
    have n1_ := Aside0.mk (below_drew1 HB.out)
    clear BK225001
    clear HB
    have BK225001 := n0_
    have HB := n1_
    clear n0_ n1_
    refine start_ (n := 7) (S := fun w' => w'.cell? ⟨gb225001, 0, none⟩ = some (.slice A0_0 l0_0.length c0_0) ∧ w'.cell? ⟨gb225001, 1, none⟩ = some (.slice A0_1 l0_1.length c0_1)) (ds := []) #[false, false, false, false, false, false, false] (by kernel_rfl) rfl rfl ⟨(blk_cell BK225001.out 0).trans rfl, (blk_cell BK225001.out 1).trans rfl⟩ (fun hHeld => ?_)
    generalize w8.drew = w9 at BK225001 HB hHeld ⊢
    refine pure_ (i := 0) (N := some 15) (v := ?_) (a' := ?_) #[true, false, false, false, false, false, false] rfl rfl (by kernel_rfl) (fun _ _ _ h => h) (Or.inl ⟨by rfl, ?_⟩) ?_ ?_
    rotate_left
    · intro w'
      go_simp
      with_reducible rfl
    rotate_left
    · simp only [Act.put, List.setIfInBounds_toArray, List.set_cons_zero, List.set_cons_succ, i64_w, i32_w]
      rfl
    refine pure_ (i := 3) (N := some 18) (v := ?_) (a' := ?_) #[true, false, false, true, false, false, false] rfl rfl (by kernel_rfl) (fun _ _ _ h => h) (Or.inl ⟨by rfl, ?_⟩) ?_ ?_
    rotate_left
    · intro w'
      go_simp
      with_reducible rfl
    rotate_left
    · simp only [Act.put, List.setIfInBounds_toArray, List.set_cons_zero, List.set_cons_succ, i64_w, i32_w]
      rfl
    refine take_ (i := 2) (N := some 17) (v := ?_) (a' := ?_) #[true, false, true, true, false, false, false] rfl rfl (by kernel_rfl) (fun _ _ _ h => h) (Or.inl ⟨by rfl, ?_⟩) hHeld ?_ ?_
    rotate_left
    · rintro w' ⟨s0, s1⟩
      go_simp
      with_reducible rfl
    rotate_left
    · simp only [Act.put, List.setIfInBounds_toArray, List.set_cons_zero, List.set_cons_succ, i64_w, i32_w]
      rfl
    refine one_ (i := 1) (N := some 16) #[true, true, true, true, false, false, false] rfl rfl (by kernel_rfl) (by decide) (fun K hK => ?_)
    refine goes_ Try.func49 (by kernel_rfl) rfl #[.slice A1 l1.length c1] (by rfl) rfl rfl mpa ?_
    with_reducible refine (guidevanebase_CopyInts.calls _ _ l1 t225002 _ ?side1 ?side2 A6.out).mono ?_
    (case side1 => repeat (first | exact (Kd.C_below HR1.out HB.out) | (with_reducible refine Kd.C_alloc ?_ _) | (with_reducible refine Kd.C_drewN ?_ _) | (with_reducible refine Kd.C_drew ?_)))
    (case side2 => exact HC1.out)
    rintro e w10 ⟨v225003, rfl, ho0, hb⟩
    refine ⟨_, rfl, ?_⟩
    have n0_ := Aside0.mk (Kd.R_lower ho0 (below_size (belS HB.out GE225001.out)))
    have n1_ := Aside0.mk (blk_below (g := gb225001) (o := .cells #[.slice A0_0 l0_0.length c0_0, .slice A0_1 l0_1.length c0_1] 39 (0, 0)) (bkl BK225001.out) hb)
    have n2_ := Aside0.mk (below_step (belS HB.out GE225001.out) hb)
    clear BK225001
    clear HB
    have HO225004 := n0_
    have BK225001 := n1_
    have HB := n2_
    clear n0_ n1_ n2_
    (try clear hb)
    (try clear hb2)
    (try clear hk)
    (try clear hi)
    (try clear ho0)
    refine hK.out _ _ ⟨(blk_cell BK225001.out 0).trans rfl, (blk_cell BK225001.out 1).trans rfl⟩ (fun hHeld => ?_)
    clear hK K
    refine norm_ (a' := ?_) ?_ ?_
    rotate_left
    · show Act.put _ (some 16) _ = _
      simp only [Act.put, List.setIfInBounds_toArray, List.set_cons_zero, List.set_cons_succ, i64_w, i32_w]
      rfl
    refine one_ (i := 4) (N := some 19) #[true, true, true, true, true, false, false] rfl rfl (by kernel_rfl) (by decide) (fun K hK => ?_)
    refine goes_ Try.func28 (by kernel_rfl) rfl #[.agg #[.slice A0_0 l0_0.length c0_0, .slice A0_1 l0_1.length c0_1], .slice A1 l1.length c1] (by rfl) rfl rfl mpa ?_
    with_reducible refine (guidevaneref09_IsCover.calls k _ _ l0_0 _ _ l0_1 _ _ l1 t225005 _ ?side1 ?side2 ?side3 ?side4 ?side5 ?side6 A7.out).mono ?_
    (case side1 => repeat (first | exact (Kd.C_below HR0_0.out HB.out) | (with_reducible refine Kd.C_alloc ?_ _) | (with_reducible refine Kd.C_drewN ?_ _) | (with_reducible refine Kd.C_drew ?_)))
    (case side2 => exact HC0_0.out)
    (case side3 => repeat (first | exact (Kd.C_below HR0_1.out HB.out) | (with_reducible refine Kd.C_alloc ?_ _) | (with_reducible refine Kd.C_drewN ?_ _) | (with_reducible refine Kd.C_drew ?_)))
    (case side4 => exact HC0_1.out)
    (case side5 => repeat (first | exact (Kd.C_below HR1.out HB.out) | (with_reducible refine Kd.C_alloc ?_ _) | (with_reducible refine Kd.C_drewN ?_ _) | (with_reducible refine Kd.C_drew ?_)))
    (case side6 => exact HC1.out)
    rintro e w11 ⟨rfl, hb⟩
    refine ⟨_, rfl, ?_⟩
    have n0_ := Aside0.mk (Kd.R_below (krl HO225004.out) hb)
    have n1_ := Aside0.mk (blk_below (g := gb225001) (o := .cells #[.slice A0_0 l0_0.length c0_0, .slice A0_1 l0_1.length c0_1] 39 (0, 0)) (bkl BK225001.out) hb)
    have n2_ := Aside0.mk (below_step (belS HB.out GE225001.out) hb)
    clear HO225004
    clear BK225001
    clear HB
    have HO225004 := n0_
    have BK225001 := n1_
    have HB := n2_
    clear n0_ n1_ n2_
    (try clear hb)
    (try clear hb2)
    (try clear hk)
    (try clear hi)
    refine hK.out _ _ ⟨(blk_cell BK225001.out 0).trans rfl, (blk_cell BK225001.out 1).trans rfl⟩ (fun hHeld => ?_)
    clear hK K
    refine norm_ (a' := ?_) ?_ ?_
    rotate_left
    · show Act.put _ (some 19) _ = _
      simp only [Act.put, List.setIfInBounds_toArray, List.set_cons_zero, List.set_cons_succ, i64_w, i32_w]
      rfl
    refine pure_ (i := 5) (N := some 8) (v := ?_) (a' := ?_) #[true, true, true, true, true, true, false] rfl rfl (by kernel_rfl) (fun _ _ _ h => h) (Or.inl ⟨by rfl, ?_⟩) ?_ ?_
    rotate_left
    · intro w'
      go_simp
      with_reducible rfl
    rotate_left
    · simp only [Act.put, List.setIfInBounds_toArray, List.set_cons_zero, List.set_cons_succ, i64_w, i32_w]
      rfl
    refine pure_ (i := 6) (N := some 9) (v := ?_) (a' := ?_) #[true, true, true, true, true, true, true] rfl rfl (by kernel_rfl) (fun _ _ _ h => h) (Or.inl ⟨by rfl, ?_⟩) ?_ ?_
    rotate_left
    · intro w'
      go_simp
      with_reducible rfl
    rotate_left
    · simp only [Act.put, List.setIfInBounds_toArray, List.set_cons_zero, List.set_cons_succ, i64_w, i32_w]
      rfl
    refine done_ (by kernel_rfl) ?_
    try go_wp2
    go_ret2
    exact ⟨_, by first | rfl | (simp [errW_none, errW_some] <;> rfl) | (simp [*, errW_none, errW_some] <;> rfl), by (with_reducible repeat (first | apply Kd.R_alloc | apply Kd.R_drewN | apply Kd.R_drew)); exact HO225004.out, belS HB.out GE225001.out⟩
  · rw [if_neg c5] at H
    have c5b0 : (a3 == 0) = false := beq_eq_false_iff_ne.mpr c5
    have c5b1 : (a3 != 0) = true := bne_iff_ne.mpr c5
    have H' := Aside0.mk H
    clear H
    go_enter Try.func75, Try.ntmps75
    go_wp2_with (first | ((with_reducible refine gate_dst (N := 4) rfl ?_); refine box_event ?hg (N := 4) ?hd (cs := #[.slice A0_0 l0_0.length c0_0, .slice A0_1 l0_1.length c0_1]) (t := 39) ?hr ?_; (case hd => rfl); (case hg => rfl); (case hr => first | (go_simp; done) | (go_simp; rfl)); intro gb225001 hg w12 hbox hb; have n0_ := Aside0.mk (below_step (bel HB.out) hb); have n1_ := Aside0.mk (hbox); have n2_ := Aside0.mk ((by rw [hg]; exact (below_size (bel HB.out)) : w.heap.size ≤ gb225001)); have n3_ := Aside0.mk ((by rw [hg]; exact (below_size (bel HB.out)) : w.heap.size ≤ gb225001)); clear HB; have HB := n0_; have BK225001 := n1_; have GW225001 := n2_; have GE225001 := n3_; clear n0_ n1_ n2_ n3_; clear hb hbox hg))
    go_loopg [10] k (fun kq v10 w' => ∃ (x10_1 : Int), v10 = .int .i64 x10_1 ∧ Aside0 (guidevaneref09_covered.l0 kq l1 a3 x10_1 l0_0 l0_1 = some (r1, r2)) ∧ Aside0 (kq ≤ k) ∧ Aside0 (w'.heap[gb225001]? = some (.cells #[(.slice A0_0 l0_0.length c0_0), (.slice A0_1 l0_1.length c0_1)] 39 (0, 0))) ∧ Aside0 (Below w.heap.size w w'))
    case atStart => exact ⟨(a2), (by first | rfl | (simp; done) | (simp [*]; done)), H', ⟨Nat.le_refl _⟩, ⟨bkl BK225001.out⟩, ⟨belS HB.out GE225001.out⟩⟩
    case round =>
      clear H'
      try clear c1
      try clear c2
      try clear p2
      try clear c4
      try clear c5
      try clear c5b0
      try clear c5b1
      try clear c7
      obtain ⟨x10_1, rfl, HA, HK1, BK225001, HB⟩ := hrel
      cases gk with
      | zero => exact absurd HA.out (by simp [guidevaneref09_covered.l0])
      | succ k1 =>
        have H := HA.out
        clear HA
        simp only [guidevaneref09_covered.l0] at H
        by_cases c13 : (wrap64 (x10_1 + a3)) ≤ (l0_0.length : Int)
        · rw [if_pos c13] at H
          have c13b0 : decide ((wrap64 (x10_1 + a3)) ≤ (l0_0.length : Int)) = true := decide_eq_true c13
          clear c13
          replace H := Option.bind_eq_some_iff.mp H
          obtain ⟨t225006, A140, H⟩ := H
          replace H : ((some (([x10_1] : List Int) : List Int)).bind fun y225009 => (if t225006.length + y225009.length < 17592186044416 then ((guidevaneref09_covered.f k1 l0_0 l0_1 (t225006 ++ y225009) (wrap64 (x10_1 + 1)) (wrap64 (a3 - 1))).bind fun bt225015 => (if bt225015.2 = true then (some (bt225015.1, true)) else (guidevaneref09_covered.l0 k1 l1 a3 (wrap64 (x10_1 + 1)) l0_0 l0_1))) else (none))) = some (r1, r2) := H
          have A14 := Aside0.mk A140
          clear A140
          obtain ⟨y225009, hy225009⟩ : ∃ y_ : List Int, y_ = (([x10_1] : List Int)) := ⟨_, rfl⟩
          replace H : (if t225006.length + y225009.length < 17592186044416 then ((guidevaneref09_covered.f k1 l0_0 l0_1 (t225006 ++ y225009) (wrap64 (x10_1 + 1)) (wrap64 (a3 - 1))).bind fun bt225015 => (if bt225015.2 = true then (some (bt225015.1, true)) else (guidevaneref09_covered.l0 k1 l1 a3 (wrap64 (x10_1 + 1)) l0_0 l0_1))) else (none)) = some (r1, r2) := by first | (rw [hy225009]; with_reducible exact H) | (have H2_ := (Option.bind_some _ _).symm.trans H; rw [hy225009]; with_reducible exact H2_) | (have H2_ := (Option.bind_some _ _).symm.trans H; with_reducible exact H2_) | with_reducible exact H | (rw [hy225009]; exact H) | exact H
          have Ny225009 := Aside0.mk hy225009
          clear hy225009
          by_cases c15 : t225006.length + y225009.length < 17592186044416
          · rw [if_pos c15] at H
            have LMc15 := Aside0.mk c15
            clear c15
            obtain ⟨y225012, hy225012⟩ : ∃ y_ : List Int, y_ = (t225006 ++ y225009) := ⟨_, rfl⟩
            replace H : ((guidevaneref09_covered.f k1 l0_0 l0_1 y225012 (wrap64 (x10_1 + 1)) (wrap64 (a3 - 1))).bind fun bt225015 => (if bt225015.2 = true then (some (bt225015.1, true)) else (guidevaneref09_covered.l0 k1 l1 a3 (wrap64 (x10_1 + 1)) l0_0 l0_1))) = some (r1, r2) := by first | (rw [hy225012]; with_reducible exact H) | (have H2_ := (Option.bind_some _ _).symm.trans H; rw [hy225012]; with_reducible exact H2_) | (have H2_ := (Option.bind_some _ _).symm.trans H; with_reducible exact H2_) | with_reducible exact H | (rw [hy225012]; exact H) | exact H
            have Ny225012 := Aside0.mk hy225012
            clear hy225012
            replace H := Option.bind_eq_some_iff.mp H
            obtain ⟨⟨t225015, t225018⟩, A160, H⟩ := H
            replace H : (if t225018 = true then (some (t225015, true)) else (guidevaneref09_covered.l0 k1 l1 a3 (wrap64 (x10_1 + 1)) l0_0 l0_1)) = some (r1, r2) := H
            have A16 := Aside0.mk A160
            clear A160
            by_cases c17 : t225018 = true
            · subst c17
              have H1 : (some (t225015, true)) = some (r1, r2) := by rw [if_pos rfl] at H; exact H
              clear H
              have H := H1
              clear H1
              simp only [Option.some.injEq, Prod.mk.injEq] at H
              obtain ⟨rfl, rfl⟩ := H
              have hcz18_0 : wr.cell? ⟨gb225001, 0, none⟩ = some (.slice A0_0 l0_0.length c0_0) := (blk_cell BK225001.out 0).trans rfl
              have hcz18_1 : wr.cell? ⟨gb225001, 1, none⟩ = some (.slice A0_1 l0_1.length c0_1) := (blk_cell BK225001.out 1).trans rfl
              have hfz18_0 := blk_frozen BK225001.out 0
              have hfz18_1 := blk_frozen BK225001.out 1
              try go_wp2
              have n0_ := Aside0.mk (blk_drew BK225001.out)
              have n1_ := Aside0.mk (below_drew1 HB.out)
              clear BK225001
              clear HB
              have BK225001 := n0_
              have HB := n1_
              clear n0_ n1_
              refine start_ (n := 16) (S := fun w' => w'.cell? ⟨gb225001, 0, none⟩ = some (.slice A0_0 l0_0.length c0_0) ∧ w'.cell? ⟨gb225001, 1, none⟩ = some (.slice A0_1 l0_1.length c0_1)) (ds := []) #[false, false, false, false, false, false, false, false, false, false, false, false, false, false, false, false] (by kernel_rfl) rfl rfl ⟨(blk_cell BK225001.out 0).trans rfl, (blk_cell BK225001.out 1).trans rfl⟩ (fun hHeld => ?_); refine with_tabW guidevaneref09_covered.tab6 guidevaneref09_covered.bits6 (fun HT_ HW_ => ?_)
              generalize wr.drew = w19 at BK225001 HB hHeld ⊢
              refine pure_ (i := 1) (N := some 32) (v := ?_) (a' := ?_) #[false, true, false, false, false, false, false, false, false, false, false, false, false, false, false, false] rfl rfl (any_of HT_.out (by kernel_rfl)) (fun _ _ _ h => h) (Or.inl ⟨by rfl, ?_⟩) ?_ ?_
              rotate_left
              · intro w'
                go_simp
                with_reducible rfl
              rotate_left
              · simp only [Act.put, List.setIfInBounds_toArray, List.set_cons_zero, List.set_cons_succ, i64_w, i32_w]
                rfl
              refine pure_ (i := 3) (N := some 34) (v := ?_) (a' := ?_) #[false, true, false, true, false, false, false, false, false, false, false, false, false, false, false, false] rfl rfl (any_of HT_.out (by kernel_rfl)) (fun _ _ _ h => h) (Or.inl ⟨by rfl, ?_⟩) ?_ ?_
              rotate_left
              · intro w'
                go_simp
                with_reducible rfl
              rotate_left
              · simp only [Act.put, List.setIfInBounds_toArray, List.set_cons_zero, List.set_cons_succ, i64_w, i32_w]
                rfl
              refine pure_ (i := 6) (N := some 37) (v := ?_) (a' := ?_) #[false, true, false, true, false, false, true, false, false, false, false, false, false, false, false, false] rfl rfl (any_of HT_.out (by kernel_rfl)) (fun _ _ _ h => h) (Or.inl ⟨by rfl, ?_⟩) ?_ ?_
              rotate_left
              · intro w'
                go_simp
                with_reducible rfl
              rotate_left
              · simp only [Act.put, List.setIfInBounds_toArray, List.set_cons_zero, List.set_cons_succ, i64_w, i32_w]
                rfl
              refine pure_ (i := 7) (N := some 38) (v := ?_) (a' := ?_) #[false, true, false, true, false, false, true, true, false, false, false, false, false, false, false, false] rfl rfl (any_of HT_.out (by kernel_rfl)) (fun _ _ _ h => h) (Or.inl ⟨by rfl, ?_⟩) ?_ ?_
              rotate_left
              · intro w'
                go_simp
                with_reducible rfl
              rotate_left
              · simp only [Act.put, List.setIfInBounds_toArray, List.set_cons_zero, List.set_cons_succ, i64_w, i32_w]
                rfl
              refine pure_ (i := 8) (N := some 39) (v := ?_) (a' := ?_) #[false, true, false, true, false, false, true, true, true, false, false, false, false, false, false, false] rfl rfl (any_of HT_.out (by kernel_rfl)) (fun _ _ _ h => h) (Or.inl ⟨by rfl, ?_⟩) ?_ ?_
              rotate_left
              · intro w'
                go_simp
                with_reducible rfl
              rotate_left
              · simp only [Act.put, List.setIfInBounds_toArray, List.set_cons_zero, List.set_cons_succ, i64_w, i32_w]
                rfl
              refine pure_ (i := 9) (N := some 40) (v := ?_) (a' := ?_) #[false, true, false, true, false, false, true, true, true, true, false, false, false, false, false, false] rfl rfl (any_of HT_.out (by kernel_rfl)) (fun _ _ _ h => h) (Or.inl ⟨by rfl, ?_⟩) ?_ ?_
              rotate_left
              · intro w'
                go_simp
                with_reducible rfl
              rotate_left
              · simp only [Act.put, List.setIfInBounds_toArray, List.set_cons_zero, List.set_cons_succ, i64_w, i32_w]
                rfl
              refine take_ (i := 0) (N := some 31) (v := ?_) (a' := ?_) #[true, true, false, true, false, false, true, true, true, true, false, false, false, false, false, false] rfl rfl (take_ofW HT_.out HW_.out (by kernel_rfl)) (fun _ _ _ h => h) (Or.inl ⟨by rfl, ?_⟩) hHeld ?_ ?_
              rotate_left
              · rintro w' ⟨s0, s1⟩
                go_simp
                with_reducible rfl
              rotate_left
              · simp only [Act.put, List.setIfInBounds_toArray, List.set_cons_zero, List.set_cons_succ, i64_w, i32_w]
                rfl
              refine join_ (σ := Value × Value) 7 #[true, true, true, true, true, false, true, true, true, true, false, false, false, false, false, false] (fun s_ => [(33, s_.1), (35, s_.2)]) (fun s_ w' => (w'.cell? ⟨gb225001, 0, none⟩ = some (.slice A0_0 l0_0.length c0_0) ∧ w'.cell? ⟨gb225001, 1, none⟩ = some (.slice A0_1 l0_1.length c0_1)) ∧ (Kd.R (Kd.int .i64) 3 w' w.heap.size (fun k_ => some k_ ≠ (s_.2 : Value).ownBlock) s_.1 t225006) ∧ (Kd.R (Kd.int .i64) 3 w' w.heap.size (fun k_ => some k_ ≠ (s_.1 : Value).ownBlock) s_.2 y225009) ∧ (w'.heap[gb225001]? = some (.cells #[.slice A0_0 l0_0.length c0_0, .slice A0_1 l0_1.length c0_1] 39 (0, 0))) ∧ (Below w.heap.size w w')) ?_ ?_
              rotate_left
              · intro hCont
                refine two_ (i := 2) (j := 4) (Ni := some 33) (Nj := some 35) #[true, true, true, true, false, false, true, true, true, true, false, false, false, false, false, false] #[true, true, false, true, true, false, true, true, true, true, false, false, false, false, false, false] rfl rfl rfl rfl (two_of HT_.out (by kernel_rfl)) (by decide) (by decide) (fun K hK => ?_) (fun K hK => ?_)
                · skip
                  refine goes_ Try.func49 (by kernel_rfl) rfl #[.slice A1 l1.length c1] (by rfl) rfl rfl mpa ?_
                  with_reducible refine (guidevanebase_CopyInts.calls _ _ l1 t225006 _ ?side1 ?side2 A14.out).mono ?_
                  (case side1 => repeat (first | exact (Kd.C_below HR1.out HB.out) | (with_reducible refine Kd.C_alloc ?_ _) | (with_reducible refine Kd.C_drewN ?_ _) | (with_reducible refine Kd.C_drew ?_)))
                  (case side2 => exact HC1.out)
                  rintro e w20 ⟨v225007, rfl, ho0, hb⟩
                  refine ⟨_, rfl, ?_⟩
                  have n0_ := Aside0.mk (Kd.R_lower ho0 (below_size (belS HB.out GE225001.out)))
                  have n1_ := Aside0.mk (blk_below (g := gb225001) (o := .cells #[.slice A0_0 l0_0.length c0_0, .slice A0_1 l0_1.length c0_1] 39 (0, 0)) (bkl BK225001.out) hb)
                  have n2_ := Aside0.mk (below_step (belS HB.out GE225001.out) hb)
                  clear BK225001
                  clear HB
                  have HO225008 := n0_
                  have BK225001 := n1_
                  have HB := n2_
                  clear n0_ n1_ n2_
                  (try clear hb)
                  (try clear hb2)
                  (try clear hk)
                  (try clear hi)
                  (try clear ho0)
                  refine hK.out _ _ ⟨(blk_cell BK225001.out 0).trans rfl, (blk_cell BK225001.out 1).trans rfl⟩ (fun hHeld => ?_)
                  clear hK K
                  refine norm_ (a' := ?_) ?_ ?_
                  rotate_left
                  · show Act.put _ (some 33) _ = _
                    simp only [Act.put, List.setIfInBounds_toArray, List.set_cons_zero, List.set_cons_succ, i64_w, i32_w]
                    rfl
                  refine one_ (i := 4) (N := some 35) #[true, true, true, true, true, false, true, true, true, true, false, false, false, false, false, false] rfl rfl (one_of HT_.out (by kernel_rfl)) (by decide) (fun K hK => ?_)
                  refine Kd.R_lit_step (Kd.int .i64) _ 3 ?hg (N := 35) ?hd (xs := ([x10_1] : List Int)) (inner := [.int .i64 x10_1]) (ok := fun _ => True) (okp := fun _ => True) ?hr ?hp (fun _ hk => hk) trivial (Below.refl _ _) (Nat.le_refl _) (by simp) ?_; (case hd => rfl); (case hg => rfl); (case hr => first | (go_simp; done) | (go_simp; rfl)); (case hp => exact (Reps.one (show Kd.M (Kd.int .i64) _ _ _ x10_1 [.int .i64 x10_1] from rfl) (Reps.none _ _)))
                  intro v225010 w21 ho22 hb hg_ hnew_
                  clear hg_ hnew_
                  (first | rw [← Ny225009.out] at ho22 | (simp only [Int.reduceToNat] at ho22; rw [← Ny225009.out] at ho22))
                  have n0_ := Aside0.mk (Kd.R_elder' (krl HO225008.out) (Kd.R_base ho22) hb)
                  have n1_ := Aside0.mk (Kd.R_lower (Kd.R_new' ho22 (Kd.R_lt (krl HO225008.out))) (below_size (belS HB.out GE225001.out)))
                  have n2_ := Aside0.mk (blk_below (g := gb225001) (o := .cells #[.slice A0_0 l0_0.length c0_0, .slice A0_1 l0_1.length c0_1] 39 (0, 0)) (bkl BK225001.out) hb)
                  have n3_ := Aside0.mk (below_step (belS HB.out GE225001.out) hb)
                  clear HO225008
                  clear BK225001
                  clear HB
                  have HO225008 := n0_
                  have HO225011 := n1_
                  have BK225001 := n2_
                  have HB := n3_
                  clear n0_ n1_ n2_ n3_
                  clear hb ho22
                  refine hK.out _ _ ⟨(blk_cell BK225001.out 0).trans rfl, (blk_cell BK225001.out 1).trans rfl⟩ (fun hHeld => ?_)
                  clear hK K
                  refine norm_ (a' := ?_) ?_ ?_
                  rotate_left
                  · show Act.put _ (some 35) _ = _
                    simp only [Act.put, List.setIfInBounds_toArray, List.set_cons_zero, List.set_cons_succ, i64_w, i32_w]
                    rfl
                  exact norm_ (by simp only [putAll, Act.put, List.setIfInBounds_toArray, List.set_cons_zero, List.set_cons_succ]) (hCont (v225007, v225010) _ ⟨hHeld, (by (with_reducible repeat (first | apply Kd.R_alloc | apply Kd.R_drewN | apply Kd.R_drew)); exact Kd.R_mono HO225008.out (fun _ hk => hk.2)), (by (with_reducible repeat (first | apply Kd.R_alloc | apply Kd.R_drewN | apply Kd.R_drew)); exact Kd.R_mono HO225011.out (fun _ hk => hk.2)), (bkl BK225001.out), (belS HB.out GE225001.out)⟩)
                · skip
                  refine Kd.R_lit_step (Kd.int .i64) _ 3 ?hg (N := 35) ?hd (xs := ([x10_1] : List Int)) (inner := [.int .i64 x10_1]) (ok := fun _ => True) (okp := fun _ => True) ?hr ?hp (fun _ hk => hk) trivial (Below.refl _ _) (Nat.le_refl _) (by simp) ?_; (case hd => rfl); (case hg => rfl); (case hr => first | (go_simp; done) | (go_simp; rfl)); (case hp => exact (Reps.one (show Kd.M (Kd.int .i64) _ _ _ x10_1 [.int .i64 x10_1] from rfl) (Reps.none _ _)))
                  intro v225010 w20 ho21 hb hg_ hnew_
                  clear hg_ hnew_
                  (first | rw [← Ny225009.out] at ho21 | (simp only [Int.reduceToNat] at ho21; rw [← Ny225009.out] at ho21))
                  have n0_ := Aside0.mk (Kd.R_lower ho21 (below_size (belS HB.out GE225001.out)))
                  have n1_ := Aside0.mk (blk_below (g := gb225001) (o := .cells #[.slice A0_0 l0_0.length c0_0, .slice A0_1 l0_1.length c0_1] 39 (0, 0)) (bkl BK225001.out) hb)
                  have n2_ := Aside0.mk (below_step (belS HB.out GE225001.out) hb)
                  clear BK225001
                  clear HB
                  have HO225011 := n0_
                  have BK225001 := n1_
                  have HB := n2_
                  clear n0_ n1_ n2_
                  clear hb ho21
                  refine hK.out _ _ ⟨(blk_cell BK225001.out 0).trans rfl, (blk_cell BK225001.out 1).trans rfl⟩ (fun hHeld => ?_)
                  clear hK K
                  refine norm_ (a' := ?_) ?_ ?_
                  rotate_left
                  · show Act.put _ (some 35) _ = _
                    simp only [Act.put, List.setIfInBounds_toArray, List.set_cons_zero, List.set_cons_succ, i64_w, i32_w]
                    rfl
                  refine one_ (i := 2) (N := some 33) #[true, true, true, true, true, false, true, true, true, true, false, false, false, false, false, false] rfl rfl (one_of HT_.out (by kernel_rfl)) (by decide) (fun K hK => ?_)
                  refine goes_ Try.func49 (by kernel_rfl) rfl #[.slice A1 l1.length c1] (by rfl) rfl rfl mpa ?_
                  with_reducible refine (guidevanebase_CopyInts.calls _ _ l1 t225006 _ ?side1 ?side2 A14.out).mono ?_
                  (case side1 => repeat (first | exact (Kd.C_below HR1.out HB.out) | (with_reducible refine Kd.C_alloc ?_ _) | (with_reducible refine Kd.C_drewN ?_ _) | (with_reducible refine Kd.C_drew ?_)))
                  (case side2 => exact HC1.out)
                  rintro e w22 ⟨v225007, rfl, ho0, hb⟩
                  refine ⟨_, rfl, ?_⟩
                  have n0_ := Aside0.mk (Kd.R_elder' (krl HO225011.out) (Kd.R_base ho0) hb)
                  have n1_ := Aside0.mk (Kd.R_lower (Kd.R_new' ho0 (Kd.R_lt (krl HO225011.out))) (below_size (belS HB.out GE225001.out)))
                  have n2_ := Aside0.mk (blk_below (g := gb225001) (o := .cells #[.slice A0_0 l0_0.length c0_0, .slice A0_1 l0_1.length c0_1] 39 (0, 0)) (bkl BK225001.out) hb)
                  have n3_ := Aside0.mk (below_step (belS HB.out GE225001.out) hb)
                  clear HO225011
                  clear BK225001
                  clear HB
                  have HO225011 := n0_
                  have HO225008 := n1_
                  have BK225001 := n2_
                  have HB := n3_
                  clear n0_ n1_ n2_ n3_
                  (try clear hb)
                  (try clear hb2)
                  (try clear hk)
                  (try clear hi)
                  (try clear ho0)
                  refine hK.out _ _ ⟨(blk_cell BK225001.out 0).trans rfl, (blk_cell BK225001.out 1).trans rfl⟩ (fun hHeld => ?_)
                  clear hK K
                  refine norm_ (a' := ?_) ?_ ?_
                  rotate_left
                  · show Act.put _ (some 33) _ = _
                    simp only [Act.put, List.setIfInBounds_toArray, List.set_cons_zero, List.set_cons_succ, i64_w, i32_w]
                    rfl
                  exact norm_ (by simp only [putAll, Act.put, List.setIfInBounds_toArray, List.set_cons_zero, List.set_cons_succ]) (hCont (v225007, v225010) _ ⟨hHeld, (by (with_reducible repeat (first | apply Kd.R_alloc | apply Kd.R_drewN | apply Kd.R_drew)); exact Kd.R_mono HO225008.out (fun _ hk => hk.2)), (by (with_reducible repeat (first | apply Kd.R_alloc | apply Kd.R_drewN | apply Kd.R_drew)); exact Kd.R_mono HO225011.out (fun _ hk => hk.2)), (bkl BK225001.out), (belS HB.out GE225001.out)⟩)
              rintro ⟨v225007, v225010⟩ w23 ⟨hS_, h0_, h1_, h2_, h3_⟩
              have n0_ : Aside0 (Kd.R (Kd.int .i64) 3 w23 w.heap.size (fun k_ => some k_ ≠ (v225010 : Value).ownBlock) v225007 t225006) := ⟨h0_⟩
              have n1_ : Aside0 (Kd.R (Kd.int .i64) 3 w23 w.heap.size (fun k_ => some k_ ≠ (v225007 : Value).ownBlock) v225010 y225009) := ⟨h1_⟩
              have n2_ : Aside0 (w23.heap[gb225001]? = some (.cells #[.slice A0_0 l0_0.length c0_0, .slice A0_1 l0_1.length c0_1] 39 (0, 0))) := ⟨h2_⟩
              have n3_ : Aside0 (Below w.heap.size w w23) := ⟨h3_⟩
              clear BK225001
              clear HB
              clear h0_ h1_ h2_ h3_
              have HO225008 := n0_
              have HO225011 := n1_
              have BK225001 := n2_
              have HB := n3_
              clear n0_ n1_ n2_ n3_
              have hHeld : w23.cell? ⟨gb225001, 0, none⟩ = some (.slice A0_0 l0_0.length c0_0) ∧ w23.cell? ⟨gb225001, 1, none⟩ = some (.slice A0_1 l0_1.length c0_1) := hS_
              obtain ⟨Ao25, co25, eo25⟩ := Kd.R_slice HO225011.out
              (first | subst eo25 | (injection eo25 with f1_ f2_ f3_; have f4_ := f1_.symm; have f5_ := f3_.symm; clear f1_ f2_ f3_; subst f4_; subst f5_))
              refine norm_ (a' := ?_) ?_ ?_
              rotate_left
              · simp only [putAll, Act.put, List.setIfInBounds_toArray, List.set_cons_zero, List.set_cons_succ]
                rfl
              refine one_ (i := 5) (N := some 36) #[true, true, true, true, true, true, true, true, true, true, false, false, false, false, false, false] rfl rfl (one_of HT_.out (by kernel_rfl)) (by decide) (fun K hK => ?_)
              refine Kd.R_append_rows_step (Kd.int .i64) (w0 := w) w.heap.size (by rfl) (.tmp 33) (.tmp 35) 22 3 (.int .i64 0) 8 rfl Try.underlying22 info3 rfl (by decide) (by omega) v225007 t225006 y225009 _ _ _ (fun k_ => some k_ ≠ (.slice Ao25 y225009.length co25 : Value).ownBlock) (fun _ => False) rfl rfl ?aO ?aR (fun _ _ h => h) (fun _ h => h.elim) ?aF ?aB ?aS ?aL ?_
              (case aR => repeat (first | exact (Kd.R_reads' HO225011.out).2.2 | (with_reducible refine Kd.C_alloc ?_ _) | (with_reducible refine Kd.C_drewN ?_ _) | (with_reducible refine Kd.C_drew ?_)))
              (case aB => exact (belS HB.out GE225001.out))
              (case aF => exact (fun k_ hk => Kd.fresh' (Kd.R_lt (krl HO225011.out)) k_ hk))
              (case aO => exact (krl HO225008.out))
              (case aS => exact (below_size (belS HB.out GE225001.out)))
              (case aL => have := LMc15.out; omega)
              intro v225013 w24 ho hb hg hat
              rw [← Ny225012.out] at ho
              have n0_ := Aside0.mk (blk_grown (g := gb225001) (o := .cells #[.slice A0_0 l0_0.length c0_0, .slice A0_1 l0_1.length c0_1] 39 (0, 0)) (bkl BK225001.out) hg (Kd.R_ne HO225008.out BK225001.out (by decide)))
              have n1_ := Aside0.mk (Kd.R_after (ok := (fun _ => True)) (by (with_reducible repeat (first | apply Kd.R_alloc | apply Kd.R_drewN | apply Kd.R_drew)); exact Kd.R_mono HO225011.out (fun _ hk => ⟨trivial, hk⟩)) hg hat)
              have n2_ := Aside0.mk (hb)
              have n3_ := Aside0.mk (ho)
              clear BK225001
              clear HO225011
              clear HB
              clear HO225008
              have BK225001 := n0_
              have HO225011 := n1_
              have HB := n2_
              have HO225014 := n3_
              clear n0_ n1_ n2_ n3_
              clear ho hb hg hat
              obtain ⟨Ao26, co26, eo26⟩ := Kd.R_slice HO225014.out
              (first | subst eo26 | (injection eo26 with f1_ f2_ f3_; have f4_ := f1_.symm; have f5_ := f3_.symm; clear f1_ f2_ f3_; subst f4_; subst f5_))
              refine hK.out _ _ ⟨(blk_cell BK225001.out 0).trans rfl, (blk_cell BK225001.out 1).trans rfl⟩ (fun hHeld => ?_)
              clear hK K
              refine norm_ (a' := ?_) ?_ ?_
              rotate_left
              · show Act.put _ (some 36) _ = _
                simp only [Act.put, List.setIfInBounds_toArray, List.set_cons_zero, List.set_cons_succ, i64_w, i32_w]
                rfl
              refine one_ (i := 10) (N := some 41) #[true, true, true, true, true, true, true, true, true, true, true, false, false, false, false, false] rfl rfl (one_of HT_.out (by kernel_rfl)) (by decide) (fun K hK => ?_)
              refine goes_ Try.func75 (by kernel_rfl) rfl #[.agg #[.slice A0_0 l0_0.length c0_0, .slice A0_1 l0_1.length c0_1], .slice Ao26 y225012.length co26, .int .i64 (wrap64 (x10_1 + 1)), .int .i64 (wrap64 (a3 - 1))] (by rfl) rfl rfl mpa ?_
              with_reducible refine (ih k1 (by have := HK1.out; omega) _ _ l0_0 _ _ l0_1 _ _ y225012 (wrap64 (x10_1 + 1)) (wrap64 (a3 - 1)) t225015 true _ ?side1 ?side2 ?side3 ?side4 ?side5 ?side6 A16.out).mono ?_
              (case side1 => repeat (first | exact (Kd.C_below HR0_0.out HB.out) | (with_reducible refine Kd.C_alloc ?_ _) | (with_reducible refine Kd.C_drewN ?_ _) | (with_reducible refine Kd.C_drew ?_)))
              (case side2 => exact HC0_0.out)
              (case side3 => repeat (first | exact (Kd.C_below HR0_1.out HB.out) | (with_reducible refine Kd.C_alloc ?_ _) | (with_reducible refine Kd.C_drewN ?_ _) | (with_reducible refine Kd.C_drew ?_)))
              (case side4 => exact HC0_1.out)
              (case side5 => repeat (first | exact (Kd.R_reads' HO225014.out).2.2 | (with_reducible refine Kd.C_alloc ?_ _) | (with_reducible refine Kd.C_drewN ?_ _) | (with_reducible refine Kd.C_drew ?_)))
              (case side6 => exact (Kd.R_reads' HO225014.out).2.1)
              rintro e w27 ⟨v225016, rfl, ho0, hb⟩
              refine ⟨_, rfl, ?_⟩
              have n0_ := Aside0.mk (Kd.R_elder' (krl HO225011.out) (Kd.R_base ho0) hb)
              have n1_ := Aside0.mk (Kd.R_elder' (krl HO225014.out) (Kd.R_base ho0) hb)
              have n2_ := Aside0.mk (Kd.R_lower (Kd.R_new' (Kd.R_new' ho0 (Kd.R_lt (krl HO225011.out))) (Kd.R_lt (krl HO225014.out))) (below_size (belS HB.out GE225001.out)))
              have n3_ := Aside0.mk (blk_below (g := gb225001) (o := .cells #[.slice A0_0 l0_0.length c0_0, .slice A0_1 l0_1.length c0_1] 39 (0, 0)) (bkl BK225001.out) hb)
              have n4_ := Aside0.mk (below_step (belS HB.out GE225001.out) hb)
              clear HO225011
              clear HO225014
              clear BK225001
              clear HB
              have HO225011 := n0_
              have HO225014 := n1_
              have HO225017 := n2_
              have BK225001 := n3_
              have HB := n4_
              clear n0_ n1_ n2_ n3_ n4_
              (try clear hb)
              (try clear hb2)
              (try clear hk)
              (try clear hi)
              (try clear ho0)
              refine hK.out _ _ ⟨(blk_cell BK225001.out 0).trans rfl, (blk_cell BK225001.out 1).trans rfl⟩ (fun hHeld => ?_)
              clear hK K
              refine norm_ (a' := ?_) ?_ ?_
              rotate_left
              · show Act.put _ (some 41) _ = _
                simp only [Act.put, List.setIfInBounds_toArray, List.set_cons_zero, List.set_cons_succ, i64_w, i32_w]
                rfl
              refine pure_ (i := 11) (N := some 30) (v := ?_) (a' := ?_) #[true, true, true, true, true, true, true, true, true, true, true, true, false, false, false, false] rfl rfl (any_of HT_.out (by kernel_rfl)) (fun _ _ _ h => h) (Or.inl ⟨by rfl, ?_⟩) ?_ ?_
              rotate_left
              · intro w'
                go_simp
                with_reducible rfl
              rotate_left
              · simp only [Act.put, List.setIfInBounds_toArray, List.set_cons_zero, List.set_cons_succ, i64_w, i32_w]
                rfl
              refine pure_ (i := 12) (N := some 42) (v := ?_) (a' := ?_) #[true, true, true, true, true, true, true, true, true, true, true, true, true, false, false, false] rfl rfl (any_of HT_.out (by kernel_rfl)) (fun _ _ _ h => h) (Or.inl ⟨by rfl, ?_⟩) ?_ ?_
              rotate_left
              · intro w'
                go_simp
                with_reducible rfl
              rotate_left
              · simp only [Act.put, List.setIfInBounds_toArray, List.set_cons_zero, List.set_cons_succ, i64_w, i32_w]
                rfl
              refine pure_ (i := 13) (N := some 43) (v := ?_) (a' := ?_) #[true, true, true, true, true, true, true, true, true, true, true, true, true, true, false, false] rfl rfl (any_of HT_.out (by kernel_rfl)) (fun _ _ _ h => h) (Or.inl ⟨by rfl, ?_⟩) ?_ ?_
              rotate_left
              · intro w'
                go_simp
                with_reducible rfl
              rotate_left
              · simp only [Act.put, List.setIfInBounds_toArray, List.set_cons_zero, List.set_cons_succ, i64_w, i32_w]
                rfl
              refine pure_ (i := 14) (N := some 11) (v := ?_) (a' := ?_) #[true, true, true, true, true, true, true, true, true, true, true, true, true, true, true, false] rfl rfl (any_of HT_.out (by kernel_rfl)) (fun _ _ _ h => h) (Or.inl ⟨by rfl, ?_⟩) ?_ ?_
              rotate_left
              · intro w'
                go_simp
                with_reducible rfl
              rotate_left
              · simp only [Act.put, List.setIfInBounds_toArray, List.set_cons_zero, List.set_cons_succ, i64_w, i32_w]
                rfl
              refine pure_ (i := 15) (N := some 12) (v := ?_) (a' := ?_) #[true, true, true, true, true, true, true, true, true, true, true, true, true, true, true, true] rfl rfl (any_of HT_.out (by kernel_rfl)) (fun _ _ _ h => h) (Or.inl ⟨by rfl, ?_⟩) ?_ ?_
              rotate_left
              · intro w'
                go_simp
                with_reducible rfl
              rotate_left
              · simp only [Act.put, List.setIfInBounds_toArray, List.set_cons_zero, List.set_cons_succ, i64_w, i32_w]
                rfl
              refine done_ (done_of HT_.out (by kernel_rfl)) ?_
              try go_wp2
              go_ret2
              exact ⟨_, by first | rfl | (simp [errW_none, errW_some] <;> rfl) | (simp [*, errW_none, errW_some] <;> rfl), by (with_reducible repeat (first | apply Kd.R_alloc | apply Kd.R_drewN | apply Kd.R_drew)); exact Kd.R_mono HO225017.out (fun _ hk => trivial), belS HB.out GE225001.out⟩
            · replace c17 := Bool.eq_false_iff.mpr c17
              subst c17
              have H1 : (guidevaneref09_covered.l0 k1 l1 a3 (wrap64 (x10_1 + 1)) l0_0 l0_1) = some (r1, r2) := by rw [if_neg (show ¬ (false = true) by decide)] at H; exact H
              clear H
              have H := H1
              clear H1
              have H' := Aside0.mk H
              clear H
              have hcz28_0 : wr.cell? ⟨gb225001, 0, none⟩ = some (.slice A0_0 l0_0.length c0_0) := (blk_cell BK225001.out 0).trans rfl
              have hcz28_1 : wr.cell? ⟨gb225001, 1, none⟩ = some (.slice A0_1 l0_1.length c0_1) := (blk_cell BK225001.out 1).trans rfl
              have hfz28_0 := blk_frozen BK225001.out 0
              have hfz28_1 := blk_frozen BK225001.out 1
              try go_wp2
              have n0_ := Aside0.mk (blk_drew BK225001.out)
              have n1_ := Aside0.mk (below_drew1 HB.out)
              clear BK225001
              clear HB
              have BK225001 := n0_
              have HB := n1_
              clear n0_ n1_
              refine start_ (n := 16) (S := fun w' => w'.cell? ⟨gb225001, 0, none⟩ = some (.slice A0_0 l0_0.length c0_0) ∧ w'.cell? ⟨gb225001, 1, none⟩ = some (.slice A0_1 l0_1.length c0_1)) (ds := []) #[false, false, false, false, false, false, false, false, false, false, false, false, false, false, false, false] (by kernel_rfl) rfl rfl ⟨(blk_cell BK225001.out 0).trans rfl, (blk_cell BK225001.out 1).trans rfl⟩ (fun hHeld => ?_); refine with_tabW guidevaneref09_covered.tab6 guidevaneref09_covered.bits6 (fun HT_ HW_ => ?_)
              generalize wr.drew = w29 at BK225001 HB hHeld ⊢
              refine pure_ (i := 1) (N := some 32) (v := ?_) (a' := ?_) #[false, true, false, false, false, false, false, false, false, false, false, false, false, false, false, false] rfl rfl (any_of HT_.out (by kernel_rfl)) (fun _ _ _ h => h) (Or.inl ⟨by rfl, ?_⟩) ?_ ?_
              rotate_left
              · intro w'
                go_simp
                with_reducible rfl
              rotate_left
              · simp only [Act.put, List.setIfInBounds_toArray, List.set_cons_zero, List.set_cons_succ, i64_w, i32_w]
                rfl
              refine pure_ (i := 3) (N := some 34) (v := ?_) (a' := ?_) #[false, true, false, true, false, false, false, false, false, false, false, false, false, false, false, false] rfl rfl (any_of HT_.out (by kernel_rfl)) (fun _ _ _ h => h) (Or.inl ⟨by rfl, ?_⟩) ?_ ?_
              rotate_left
              · intro w'
                go_simp
                with_reducible rfl
              rotate_left
              · simp only [Act.put, List.setIfInBounds_toArray, List.set_cons_zero, List.set_cons_succ, i64_w, i32_w]
                rfl
              refine pure_ (i := 6) (N := some 37) (v := ?_) (a' := ?_) #[false, true, false, true, false, false, true, false, false, false, false, false, false, false, false, false] rfl rfl (any_of HT_.out (by kernel_rfl)) (fun _ _ _ h => h) (Or.inl ⟨by rfl, ?_⟩) ?_ ?_
              rotate_left
              · intro w'
                go_simp
                with_reducible rfl
              rotate_left
              · simp only [Act.put, List.setIfInBounds_toArray, List.set_cons_zero, List.set_cons_succ, i64_w, i32_w]
                rfl
              refine pure_ (i := 7) (N := some 38) (v := ?_) (a' := ?_) #[false, true, false, true, false, false, true, true, false, false, false, false, false, false, false, false] rfl rfl (any_of HT_.out (by kernel_rfl)) (fun _ _ _ h => h) (Or.inl ⟨by rfl, ?_⟩) ?_ ?_
              rotate_left
              · intro w'
                go_simp
                with_reducible rfl
              rotate_left
              · simp only [Act.put, List.setIfInBounds_toArray, List.set_cons_zero, List.set_cons_succ, i64_w, i32_w]
                rfl
              refine pure_ (i := 8) (N := some 39) (v := ?_) (a' := ?_) #[false, true, false, true, false, false, true, true, true, false, false, false, false, false, false, false] rfl rfl (any_of HT_.out (by kernel_rfl)) (fun _ _ _ h => h) (Or.inl ⟨by rfl, ?_⟩) ?_ ?_
              rotate_left
              · intro w'
                go_simp
                with_reducible rfl
              rotate_left
              · simp only [Act.put, List.setIfInBounds_toArray, List.set_cons_zero, List.set_cons_succ, i64_w, i32_w]
                rfl
              refine pure_ (i := 9) (N := some 40) (v := ?_) (a' := ?_) #[false, true, false, true, false, false, true, true, true, true, false, false, false, false, false, false] rfl rfl (any_of HT_.out (by kernel_rfl)) (fun _ _ _ h => h) (Or.inl ⟨by rfl, ?_⟩) ?_ ?_
              rotate_left
              · intro w'
                go_simp
                with_reducible rfl
              rotate_left
              · simp only [Act.put, List.setIfInBounds_toArray, List.set_cons_zero, List.set_cons_succ, i64_w, i32_w]
                rfl
              refine take_ (i := 0) (N := some 31) (v := ?_) (a' := ?_) #[true, true, false, true, false, false, true, true, true, true, false, false, false, false, false, false] rfl rfl (take_ofW HT_.out HW_.out (by kernel_rfl)) (fun _ _ _ h => h) (Or.inl ⟨by rfl, ?_⟩) hHeld ?_ ?_
              rotate_left
              · rintro w' ⟨s0, s1⟩
                go_simp
                with_reducible rfl
              rotate_left
              · simp only [Act.put, List.setIfInBounds_toArray, List.set_cons_zero, List.set_cons_succ, i64_w, i32_w]
                rfl
              refine join_ (σ := Value × Value) 7 #[true, true, true, true, true, false, true, true, true, true, false, false, false, false, false, false] (fun s_ => [(33, s_.1), (35, s_.2)]) (fun s_ w' => (w'.cell? ⟨gb225001, 0, none⟩ = some (.slice A0_0 l0_0.length c0_0) ∧ w'.cell? ⟨gb225001, 1, none⟩ = some (.slice A0_1 l0_1.length c0_1)) ∧ (Kd.R (Kd.int .i64) 3 w' w.heap.size (fun k_ => some k_ ≠ (s_.2 : Value).ownBlock) s_.1 t225006) ∧ (Kd.R (Kd.int .i64) 3 w' w.heap.size (fun k_ => some k_ ≠ (s_.1 : Value).ownBlock) s_.2 y225009) ∧ (w'.heap[gb225001]? = some (.cells #[.slice A0_0 l0_0.length c0_0, .slice A0_1 l0_1.length c0_1] 39 (0, 0))) ∧ (Below w.heap.size w w')) ?_ ?_
              rotate_left
              · intro hCont
                refine two_ (i := 2) (j := 4) (Ni := some 33) (Nj := some 35) #[true, true, true, true, false, false, true, true, true, true, false, false, false, false, false, false] #[true, true, false, true, true, false, true, true, true, true, false, false, false, false, false, false] rfl rfl rfl rfl (two_of HT_.out (by kernel_rfl)) (by decide) (by decide) (fun K hK => ?_) (fun K hK => ?_)
                · skip
                  refine goes_ Try.func49 (by kernel_rfl) rfl #[.slice A1 l1.length c1] (by rfl) rfl rfl mpa ?_
                  with_reducible refine (guidevanebase_CopyInts.calls _ _ l1 t225006 _ ?side1 ?side2 A14.out).mono ?_
                  (case side1 => repeat (first | exact (Kd.C_below HR1.out HB.out) | (with_reducible refine Kd.C_alloc ?_ _) | (with_reducible refine Kd.C_drewN ?_ _) | (with_reducible refine Kd.C_drew ?_)))
                  (case side2 => exact HC1.out)
                  rintro e w30 ⟨v225007, rfl, ho0, hb⟩
                  refine ⟨_, rfl, ?_⟩
                  have n0_ := Aside0.mk (Kd.R_lower ho0 (below_size (belS HB.out GE225001.out)))
                  have n1_ := Aside0.mk (blk_below (g := gb225001) (o := .cells #[.slice A0_0 l0_0.length c0_0, .slice A0_1 l0_1.length c0_1] 39 (0, 0)) (bkl BK225001.out) hb)
                  have n2_ := Aside0.mk (below_step (belS HB.out GE225001.out) hb)
                  clear BK225001
                  clear HB
                  have HO225008 := n0_
                  have BK225001 := n1_
                  have HB := n2_
                  clear n0_ n1_ n2_
                  (try clear hb)
                  (try clear hb2)
                  (try clear hk)
                  (try clear hi)
                  (try clear ho0)
                  refine hK.out _ _ ⟨(blk_cell BK225001.out 0).trans rfl, (blk_cell BK225001.out 1).trans rfl⟩ (fun hHeld => ?_)
                  clear hK K
                  refine norm_ (a' := ?_) ?_ ?_
                  rotate_left
                  · show Act.put _ (some 33) _ = _
                    simp only [Act.put, List.setIfInBounds_toArray, List.set_cons_zero, List.set_cons_succ, i64_w, i32_w]
                    rfl
                  refine one_ (i := 4) (N := some 35) #[true, true, true, true, true, false, true, true, true, true, false, false, false, false, false, false] rfl rfl (one_of HT_.out (by kernel_rfl)) (by decide) (fun K hK => ?_)
                  refine Kd.R_lit_step (Kd.int .i64) _ 3 ?hg (N := 35) ?hd (xs := ([x10_1] : List Int)) (inner := [.int .i64 x10_1]) (ok := fun _ => True) (okp := fun _ => True) ?hr ?hp (fun _ hk => hk) trivial (Below.refl _ _) (Nat.le_refl _) (by simp) ?_; (case hd => rfl); (case hg => rfl); (case hr => first | (go_simp; done) | (go_simp; rfl)); (case hp => exact (Reps.one (show Kd.M (Kd.int .i64) _ _ _ x10_1 [.int .i64 x10_1] from rfl) (Reps.none _ _)))
                  intro v225010 w31 ho32 hb hg_ hnew_
                  clear hg_ hnew_
                  (first | rw [← Ny225009.out] at ho32 | (simp only [Int.reduceToNat] at ho32; rw [← Ny225009.out] at ho32))
                  have n0_ := Aside0.mk (Kd.R_elder' (krl HO225008.out) (Kd.R_base ho32) hb)
                  have n1_ := Aside0.mk (Kd.R_lower (Kd.R_new' ho32 (Kd.R_lt (krl HO225008.out))) (below_size (belS HB.out GE225001.out)))
                  have n2_ := Aside0.mk (blk_below (g := gb225001) (o := .cells #[.slice A0_0 l0_0.length c0_0, .slice A0_1 l0_1.length c0_1] 39 (0, 0)) (bkl BK225001.out) hb)
                  have n3_ := Aside0.mk (below_step (belS HB.out GE225001.out) hb)
                  clear HO225008
                  clear BK225001
                  clear HB
                  have HO225008 := n0_
                  have HO225011 := n1_
                  have BK225001 := n2_
                  have HB := n3_
                  clear n0_ n1_ n2_ n3_
                  clear hb ho32
                  refine hK.out _ _ ⟨(blk_cell BK225001.out 0).trans rfl, (blk_cell BK225001.out 1).trans rfl⟩ (fun hHeld => ?_)
                  clear hK K
                  refine norm_ (a' := ?_) ?_ ?_
                  rotate_left
                  · show Act.put _ (some 35) _ = _
                    simp only [Act.put, List.setIfInBounds_toArray, List.set_cons_zero, List.set_cons_succ, i64_w, i32_w]
                    rfl
                  exact norm_ (by simp only [putAll, Act.put, List.setIfInBounds_toArray, List.set_cons_zero, List.set_cons_succ]) (hCont (v225007, v225010) _ ⟨hHeld, (by (with_reducible repeat (first | apply Kd.R_alloc | apply Kd.R_drewN | apply Kd.R_drew)); exact Kd.R_mono HO225008.out (fun _ hk => hk.2)), (by (with_reducible repeat (first | apply Kd.R_alloc | apply Kd.R_drewN | apply Kd.R_drew)); exact Kd.R_mono HO225011.out (fun _ hk => hk.2)), (bkl BK225001.out), (belS HB.out GE225001.out)⟩)
                · skip
                  refine Kd.R_lit_step (Kd.int .i64) _ 3 ?hg (N := 35) ?hd (xs := ([x10_1] : List Int)) (inner := [.int .i64 x10_1]) (ok := fun _ => True) (okp := fun _ => True) ?hr ?hp (fun _ hk => hk) trivial (Below.refl _ _) (Nat.le_refl _) (by simp) ?_; (case hd => rfl); (case hg => rfl); (case hr => first | (go_simp; done) | (go_simp; rfl)); (case hp => exact (Reps.one (show Kd.M (Kd.int .i64) _ _ _ x10_1 [.int .i64 x10_1] from rfl) (Reps.none _ _)))
                  intro v225010 w30 ho31 hb hg_ hnew_
                  clear hg_ hnew_
                  (first | rw [← Ny225009.out] at ho31 | (simp only [Int.reduceToNat] at ho31; rw [← Ny225009.out] at ho31))
                  have n0_ := Aside0.mk (Kd.R_lower ho31 (below_size (belS HB.out GE225001.out)))
                  have n1_ := Aside0.mk (blk_below (g := gb225001) (o := .cells #[.slice A0_0 l0_0.length c0_0, .slice A0_1 l0_1.length c0_1] 39 (0, 0)) (bkl BK225001.out) hb)
                  have n2_ := Aside0.mk (below_step (belS HB.out GE225001.out) hb)
                  clear BK225001
                  clear HB
                  have HO225011 := n0_
                  have BK225001 := n1_
                  have HB := n2_
                  clear n0_ n1_ n2_
                  clear hb ho31
                  refine hK.out _ _ ⟨(blk_cell BK225001.out 0).trans rfl, (blk_cell BK225001.out 1).trans rfl⟩ (fun hHeld => ?_)
                  clear hK K
                  refine norm_ (a' := ?_) ?_ ?_
                  rotate_left
                  · show Act.put _ (some 35) _ = _
                    simp only [Act.put, List.setIfInBounds_toArray, List.set_cons_zero, List.set_cons_succ, i64_w, i32_w]
                    rfl
                  refine one_ (i := 2) (N := some 33) #[true, true, true, true, true, false, true, true, true, true, false, false, false, false, false, false] rfl rfl (one_of HT_.out (by kernel_rfl)) (by decide) (fun K hK => ?_)
                  refine goes_ Try.func49 (by kernel_rfl) rfl #[.slice A1 l1.length c1] (by rfl) rfl rfl mpa ?_
                  with_reducible refine (guidevanebase_CopyInts.calls _ _ l1 t225006 _ ?side1 ?side2 A14.out).mono ?_
                  (case side1 => repeat (first | exact (Kd.C_below HR1.out HB.out) | (with_reducible refine Kd.C_alloc ?_ _) | (with_reducible refine Kd.C_drewN ?_ _) | (with_reducible refine Kd.C_drew ?_)))
                  (case side2 => exact HC1.out)
                  rintro e w32 ⟨v225007, rfl, ho0, hb⟩
                  refine ⟨_, rfl, ?_⟩
                  have n0_ := Aside0.mk (Kd.R_elder' (krl HO225011.out) (Kd.R_base ho0) hb)
                  have n1_ := Aside0.mk (Kd.R_lower (Kd.R_new' ho0 (Kd.R_lt (krl HO225011.out))) (below_size (belS HB.out GE225001.out)))
                  have n2_ := Aside0.mk (blk_below (g := gb225001) (o := .cells #[.slice A0_0 l0_0.length c0_0, .slice A0_1 l0_1.length c0_1] 39 (0, 0)) (bkl BK225001.out) hb)
                  have n3_ := Aside0.mk (below_step (belS HB.out GE225001.out) hb)
                  clear HO225011
                  clear BK225001
                  clear HB
                  have HO225011 := n0_
                  have HO225008 := n1_
                  have BK225001 := n2_
                  have HB := n3_
                  clear n0_ n1_ n2_ n3_
                  (try clear hb)
                  (try clear hb2)
                  (try clear hk)
                  (try clear hi)
                  (try clear ho0)
                  refine hK.out _ _ ⟨(blk_cell BK225001.out 0).trans rfl, (blk_cell BK225001.out 1).trans rfl⟩ (fun hHeld => ?_)
                  clear hK K
                  refine norm_ (a' := ?_) ?_ ?_
                  rotate_left
                  · show Act.put _ (some 33) _ = _
                    simp only [Act.put, List.setIfInBounds_toArray, List.set_cons_zero, List.set_cons_succ, i64_w, i32_w]
                    rfl
                  exact norm_ (by simp only [putAll, Act.put, List.setIfInBounds_toArray, List.set_cons_zero, List.set_cons_succ]) (hCont (v225007, v225010) _ ⟨hHeld, (by (with_reducible repeat (first | apply Kd.R_alloc | apply Kd.R_drewN | apply Kd.R_drew)); exact Kd.R_mono HO225008.out (fun _ hk => hk.2)), (by (with_reducible repeat (first | apply Kd.R_alloc | apply Kd.R_drewN | apply Kd.R_drew)); exact Kd.R_mono HO225011.out (fun _ hk => hk.2)), (bkl BK225001.out), (belS HB.out GE225001.out)⟩)
              rintro ⟨v225007, v225010⟩ w33 ⟨hS_, h0_, h1_, h2_, h3_⟩
              have n0_ : Aside0 (Kd.R (Kd.int .i64) 3 w33 w.heap.size (fun k_ => some k_ ≠ (v225010 : Value).ownBlock) v225007 t225006) := ⟨h0_⟩
              have n1_ : Aside0 (Kd.R (Kd.int .i64) 3 w33 w.heap.size (fun k_ => some k_ ≠ (v225007 : Value).ownBlock) v225010 y225009) := ⟨h1_⟩
              have n2_ : Aside0 (w33.heap[gb225001]? = some (.cells #[.slice A0_0 l0_0.length c0_0, .slice A0_1 l0_1.length c0_1] 39 (0, 0))) := ⟨h2_⟩
              have n3_ : Aside0 (Below w.heap.size w w33) := ⟨h3_⟩
              clear BK225001
              clear HB
              clear h0_ h1_ h2_ h3_
              have HO225008 := n0_
              have HO225011 := n1_
              have BK225001 := n2_
              have HB := n3_
              clear n0_ n1_ n2_ n3_
              have hHeld : w33.cell? ⟨gb225001, 0, none⟩ = some (.slice A0_0 l0_0.length c0_0) ∧ w33.cell? ⟨gb225001, 1, none⟩ = some (.slice A0_1 l0_1.length c0_1) := hS_
              obtain ⟨Ao35, co35, eo35⟩ := Kd.R_slice HO225011.out
              (first | subst eo35 | (injection eo35 with f1_ f2_ f3_; have f4_ := f1_.symm; have f5_ := f3_.symm; clear f1_ f2_ f3_; subst f4_; subst f5_))
              refine norm_ (a' := ?_) ?_ ?_
              rotate_left
              · simp only [putAll, Act.put, List.setIfInBounds_toArray, List.set_cons_zero, List.set_cons_succ]
                rfl
              refine one_ (i := 5) (N := some 36) #[true, true, true, true, true, true, true, true, true, true, false, false, false, false, false, false] rfl rfl (one_of HT_.out (by kernel_rfl)) (by decide) (fun K hK => ?_)
              refine Kd.R_append_rows_step (Kd.int .i64) (w0 := w) w.heap.size (by rfl) (.tmp 33) (.tmp 35) 22 3 (.int .i64 0) 8 rfl Try.underlying22 info3 rfl (by decide) (by omega) v225007 t225006 y225009 _ _ _ (fun k_ => some k_ ≠ (.slice Ao35 y225009.length co35 : Value).ownBlock) (fun _ => False) rfl rfl ?aO ?aR (fun _ _ h => h) (fun _ h => h.elim) ?aF ?aB ?aS ?aL ?_
              (case aR => repeat (first | exact (Kd.R_reads' HO225011.out).2.2 | (with_reducible refine Kd.C_alloc ?_ _) | (with_reducible refine Kd.C_drewN ?_ _) | (with_reducible refine Kd.C_drew ?_)))
              (case aB => exact (belS HB.out GE225001.out))
              (case aF => exact (fun k_ hk => Kd.fresh' (Kd.R_lt (krl HO225011.out)) k_ hk))
              (case aO => exact (krl HO225008.out))
              (case aS => exact (below_size (belS HB.out GE225001.out)))
              (case aL => have := LMc15.out; omega)
              intro v225013 w34 ho hb hg hat
              rw [← Ny225012.out] at ho
              have n0_ := Aside0.mk (blk_grown (g := gb225001) (o := .cells #[.slice A0_0 l0_0.length c0_0, .slice A0_1 l0_1.length c0_1] 39 (0, 0)) (bkl BK225001.out) hg (Kd.R_ne HO225008.out BK225001.out (by decide)))
              have n1_ := Aside0.mk (Kd.R_after (ok := (fun _ => True)) (by (with_reducible repeat (first | apply Kd.R_alloc | apply Kd.R_drewN | apply Kd.R_drew)); exact Kd.R_mono HO225011.out (fun _ hk => ⟨trivial, hk⟩)) hg hat)
              have n2_ := Aside0.mk (hb)
              have n3_ := Aside0.mk (ho)
              clear BK225001
              clear HO225011
              clear HB
              clear HO225008
              have BK225001 := n0_
              have HO225011 := n1_
              have HB := n2_
              have HO225014 := n3_
              clear n0_ n1_ n2_ n3_
              clear ho hb hg hat
              obtain ⟨Ao36, co36, eo36⟩ := Kd.R_slice HO225014.out
              (first | subst eo36 | (injection eo36 with f1_ f2_ f3_; have f4_ := f1_.symm; have f5_ := f3_.symm; clear f1_ f2_ f3_; subst f4_; subst f5_))
              refine hK.out _ _ ⟨(blk_cell BK225001.out 0).trans rfl, (blk_cell BK225001.out 1).trans rfl⟩ (fun hHeld => ?_)
              clear hK K
              refine norm_ (a' := ?_) ?_ ?_
              rotate_left
              · show Act.put _ (some 36) _ = _
                simp only [Act.put, List.setIfInBounds_toArray, List.set_cons_zero, List.set_cons_succ, i64_w, i32_w]
                rfl
              refine one_ (i := 10) (N := some 41) #[true, true, true, true, true, true, true, true, true, true, true, false, false, false, false, false] rfl rfl (one_of HT_.out (by kernel_rfl)) (by decide) (fun K hK => ?_)
              refine goes_ Try.func75 (by kernel_rfl) rfl #[.agg #[.slice A0_0 l0_0.length c0_0, .slice A0_1 l0_1.length c0_1], .slice Ao36 y225012.length co36, .int .i64 (wrap64 (x10_1 + 1)), .int .i64 (wrap64 (a3 - 1))] (by rfl) rfl rfl mpa ?_
              with_reducible refine (ih k1 (by have := HK1.out; omega) _ _ l0_0 _ _ l0_1 _ _ y225012 (wrap64 (x10_1 + 1)) (wrap64 (a3 - 1)) t225015 false _ ?side1 ?side2 ?side3 ?side4 ?side5 ?side6 A16.out).mono ?_
              (case side1 => repeat (first | exact (Kd.C_below HR0_0.out HB.out) | (with_reducible refine Kd.C_alloc ?_ _) | (with_reducible refine Kd.C_drewN ?_ _) | (with_reducible refine Kd.C_drew ?_)))
              (case side2 => exact HC0_0.out)
              (case side3 => repeat (first | exact (Kd.C_below HR0_1.out HB.out) | (with_reducible refine Kd.C_alloc ?_ _) | (with_reducible refine Kd.C_drewN ?_ _) | (with_reducible refine Kd.C_drew ?_)))
              (case side4 => exact HC0_1.out)
              (case side5 => repeat (first | exact (Kd.R_reads' HO225014.out).2.2 | (with_reducible refine Kd.C_alloc ?_ _) | (with_reducible refine Kd.C_drewN ?_ _) | (with_reducible refine Kd.C_drew ?_)))
              (case side6 => exact (Kd.R_reads' HO225014.out).2.1)
              rintro e w37 ⟨v225016, rfl, ho0, hb⟩
              refine ⟨_, rfl, ?_⟩
              have n0_ := Aside0.mk (Kd.R_elder' (krl HO225011.out) (Kd.R_base ho0) hb)
              have n1_ := Aside0.mk (Kd.R_elder' (krl HO225014.out) (Kd.R_base ho0) hb)
              have n2_ := Aside0.mk (Kd.R_lower (Kd.R_new' (Kd.R_new' ho0 (Kd.R_lt (krl HO225011.out))) (Kd.R_lt (krl HO225014.out))) (below_size (belS HB.out GE225001.out)))
              have n3_ := Aside0.mk (blk_below (g := gb225001) (o := .cells #[.slice A0_0 l0_0.length c0_0, .slice A0_1 l0_1.length c0_1] 39 (0, 0)) (bkl BK225001.out) hb)
              have n4_ := Aside0.mk (below_step (belS HB.out GE225001.out) hb)
              clear HO225011
              clear HO225014
              clear BK225001
              clear HB
              have HO225011 := n0_
              have HO225014 := n1_
              have HO225017 := n2_
              have BK225001 := n3_
              have HB := n4_
              clear n0_ n1_ n2_ n3_ n4_
              (try clear hb)
              (try clear hb2)
              (try clear hk)
              (try clear hi)
              (try clear ho0)
              refine hK.out _ _ ⟨(blk_cell BK225001.out 0).trans rfl, (blk_cell BK225001.out 1).trans rfl⟩ (fun hHeld => ?_)
              clear hK K
              refine norm_ (a' := ?_) ?_ ?_
              rotate_left
              · show Act.put _ (some 41) _ = _
                simp only [Act.put, List.setIfInBounds_toArray, List.set_cons_zero, List.set_cons_succ, i64_w, i32_w]
                rfl
              refine pure_ (i := 11) (N := some 30) (v := ?_) (a' := ?_) #[true, true, true, true, true, true, true, true, true, true, true, true, false, false, false, false] rfl rfl (any_of HT_.out (by kernel_rfl)) (fun _ _ _ h => h) (Or.inl ⟨by rfl, ?_⟩) ?_ ?_
              rotate_left
              · intro w'
                go_simp
                with_reducible rfl
              rotate_left
              · simp only [Act.put, List.setIfInBounds_toArray, List.set_cons_zero, List.set_cons_succ, i64_w, i32_w]
                rfl
              refine pure_ (i := 12) (N := some 42) (v := ?_) (a' := ?_) #[true, true, true, true, true, true, true, true, true, true, true, true, true, false, false, false] rfl rfl (any_of HT_.out (by kernel_rfl)) (fun _ _ _ h => h) (Or.inl ⟨by rfl, ?_⟩) ?_ ?_
              rotate_left
              · intro w'
                go_simp
                with_reducible rfl
              rotate_left
              · simp only [Act.put, List.setIfInBounds_toArray, List.set_cons_zero, List.set_cons_succ, i64_w, i32_w]
                rfl
              refine pure_ (i := 13) (N := some 43) (v := ?_) (a' := ?_) #[true, true, true, true, true, true, true, true, true, true, true, true, true, true, false, false] rfl rfl (any_of HT_.out (by kernel_rfl)) (fun _ _ _ h => h) (Or.inl ⟨by rfl, ?_⟩) ?_ ?_
              rotate_left
              · intro w'
                go_simp
                with_reducible rfl
              rotate_left
              · simp only [Act.put, List.setIfInBounds_toArray, List.set_cons_zero, List.set_cons_succ, i64_w, i32_w]
                rfl
              refine pure_ (i := 14) (N := some 11) (v := ?_) (a' := ?_) #[true, true, true, true, true, true, true, true, true, true, true, true, true, true, true, false] rfl rfl (any_of HT_.out (by kernel_rfl)) (fun _ _ _ h => h) (Or.inl ⟨by rfl, ?_⟩) ?_ ?_
              rotate_left
              · intro w'
                go_simp
                with_reducible rfl
              rotate_left
              · simp only [Act.put, List.setIfInBounds_toArray, List.set_cons_zero, List.set_cons_succ, i64_w, i32_w]
                rfl
              refine pure_ (i := 15) (N := some 12) (v := ?_) (a' := ?_) #[true, true, true, true, true, true, true, true, true, true, true, true, true, true, true, true] rfl rfl (any_of HT_.out (by kernel_rfl)) (fun _ _ _ h => h) (Or.inl ⟨by rfl, ?_⟩) ?_ ?_
              rotate_left
              · intro w'
                go_simp
                with_reducible rfl
              rotate_left
              · simp only [Act.put, List.setIfInBounds_toArray, List.set_cons_zero, List.set_cons_succ, i64_w, i32_w]
                rfl
              refine done_ (done_of HT_.out (by kernel_rfl)) ?_
              try go_wp2
              go_roundg k1
              case measure => have := HK1.out; omega
              case rel => exact ⟨(wrap64 (x10_1 + 1)), (by first | rfl | (simp; done) | (simp [*]; done)), H', ⟨by have := HK1.out; omega⟩, ⟨bkl BK225001.out⟩, ⟨belS HB.out GE225001.out⟩⟩
          · rw [if_neg c15] at H
            exact absurd H (by simp)
        · rw [if_neg c13] at H
          have c13b0 : decide ((wrap64 (x10_1 + a3)) ≤ (l0_0.length : Int)) = false := decide_eq_false c13
          clear c13
          simp only [Option.some.injEq, Prod.mk.injEq] at H
          obtain ⟨rfl, rfl⟩ := H
          have hcz38_0 : wr.cell? ⟨gb225001, 0, none⟩ = some (.slice A0_0 l0_0.length c0_0) := (blk_cell BK225001.out 0).trans rfl
          have hcz38_1 : wr.cell? ⟨gb225001, 1, none⟩ = some (.slice A0_1 l0_1.length c0_1) := (blk_cell BK225001.out 1).trans rfl
          have hfz38_0 := blk_frozen BK225001.out 0
          have hfz38_1 := blk_frozen BK225001.out 1
          go_wp2
          go_ret2
          exact ⟨_, by first | rfl | (simp [errW_none, errW_some] <;> rfl) | (simp [*, errW_none, errW_some] <;> rfl), by first | exact Kd.R_nil _ _ _ _ _ | exact Kd.N_nil _ _ _ _ _ | exact Kd.V_nil _ _ _ _ _ | exact Kd.Q_nil _ _ _ _ _ | exact Kd.S_nil _ _ _ _ _, belS HB.out GE225001.out⟩
end Go.Proofs.Yteopooljohdoiaa.Px
namespace Go.Proofs.Yteopooljohdoiaa.Px
open Go.RowKit Go.Proofs.YteopooljohdoiaaW.PrintWords Go.Proofs.YteopooljohdoiaaW.PrintLast Go.Proofs.YteopooljohdoiaaW.PrintMore
attribute [local go_sem] max2_int min2_int max_two min_two max_three min_three max_four min_four
def guidevaneref09_Cover.l0 : Nat → Int → List (S112) → List Int → Option (List Int × Bool)
  | 0, _, _, _ => none
  | k + 1, x4, x75002000, x75002001 => if x4 ≤ (x75002000.length : Int) then ((guidevaneref09_covered.f k x75002000 x75002001 ([] : List Int) 0 x4).bind fun bt75002 => (if bt75002.2 = true then (some (bt75002.1, true)) else (guidevaneref09_Cover.l0 k (wrap64 (x4 + 1)) x75002000 x75002001))) else (some (([] : List Int), false))
def guidevaneref09_Cover.f (k : Nat) (l0_0 : List (S112)) (l0_1 : List Int) : Option (List Int × Bool) := guidevaneref09_Cover.l0 k 0 l0_0 l0_1
set_option maxHeartbeats 8000000 in
set_option maxRecDepth 100000 in
theorem guidevaneref09_Cover.calls (k : Nat) (A0_0 : Option Addr) (c0_0 : Nat) (l0_0 : List (S112)) (A0_1 : Option Addr) (c0_1 : Nat) (l0_1 : List Int) (r1 : List Int) (r2 : Bool) (w : World) (hr0_0 : Kd.C k112 w A0_0 l0_0.length l0_0) (hc0_0 : l0_0.length ≤ c0_0) (hr0_1 : Kd.C (Kd.int .i64) w A0_1 l0_1.length l0_1) (hc0_1 : l0_1.length ≤ c0_1) (h : guidevaneref09_Cover.f k l0_0 l0_1 = some (r1, r2)) :
    Calls Try.prog 25 #[.agg #[.slice A0_0 l0_0.length c0_0, .slice A0_1 l0_1.length c0_1]] w fun e w' => ∃ v0_ : Value, e = .returned (.tuple #[v0_, .bool r2]) ∧ Kd.R (Kd.int .i64) 3 w' w.heap.size (fun _ => True) v0_ r1 ∧ Below w.heap.size w w' := by
  have hu39 := Try.underlying39
  have HR0_0 := Aside0.mk hr0_0
  have HC0_0 := Aside0.mk hc0_0
  clear hr0_0 hc0_0
  have HR0_1 := Aside0.mk hr0_1
  have HC0_1 := Aside0.mk hc0_1
  clear hr0_1 hc0_1
  have HB := Aside0.mk (Below.refl w.heap.size w)
  have H : (guidevaneref09_Cover.l0 k 0 l0_0 l0_1) = some (r1, r2) := h
  clear h
  have H' := Aside0.mk H
  clear H
  go_enter Try.func25, Try.ntmps25
  go_wp2_with (first | ((with_reducible refine gate_dst (N := 1) rfl ?_); refine box_event ?hg (N := 1) ?hd (cs := #[.slice A0_0 l0_0.length c0_0, .slice A0_1 l0_1.length c0_1]) (t := 39) ?hr ?_; (case hd => rfl); (case hg => rfl); (case hr => first | (go_simp; done) | (go_simp; rfl)); intro gb75001 hg w2 hbox hb; have n0_ := Aside0.mk (below_step (bel HB.out) hb); have n1_ := Aside0.mk (hbox); have n2_ := Aside0.mk ((by rw [hg]; exact (below_size (bel HB.out)) : w.heap.size ≤ gb75001)); have n3_ := Aside0.mk ((by rw [hg]; exact (below_size (bel HB.out)) : w.heap.size ≤ gb75001)); clear HB; have HB := n0_; have BK75001 := n1_; have GW75001 := n2_; have GE75001 := n3_; clear n0_ n1_ n2_ n3_; clear hb hbox hg))
  go_loopg [4] k (fun kq v4 w' => ∃ (x4_1 : Int), v4 = .int .i64 x4_1 ∧ Aside0 (guidevaneref09_Cover.l0 kq x4_1 l0_0 l0_1 = some (r1, r2)) ∧ Aside0 (kq ≤ k) ∧ Aside0 (w'.heap[gb75001]? = some (.cells #[(.slice A0_0 l0_0.length c0_0), (.slice A0_1 l0_1.length c0_1)] 39 (0, 0))) ∧ Aside0 (Below w.heap.size w w'))
  case atStart => exact ⟨(0), (by first | rfl | (simp; done) | (simp [*]; done)), H', ⟨Nat.le_refl _⟩, ⟨bkl BK75001.out⟩, ⟨belS HB.out GE75001.out⟩⟩
  case round =>
    clear H'
    try clear c2
    try clear p2
    obtain ⟨x4_1, rfl, HA, HK1, BK75001, HB⟩ := hrel
    cases gk with
    | zero => exact absurd HA.out (by simp [guidevaneref09_Cover.l0])
    | succ k1 =>
      have H := HA.out
      clear HA
      simp only [guidevaneref09_Cover.l0] at H
      by_cases c3 : x4_1 ≤ (l0_0.length : Int)
      · rw [if_pos c3] at H
        have c3b0 : decide (x4_1 ≤ (l0_0.length : Int)) = true := decide_eq_true c3
        clear c3
        replace H := Option.bind_eq_some_iff.mp H
        obtain ⟨⟨t75002, t75005⟩, A40, H⟩ := H
        replace H : (if t75005 = true then (some (t75002, true)) else (guidevaneref09_Cover.l0 k1 (wrap64 (x4_1 + 1)) l0_0 l0_1)) = some (r1, r2) := H
        have A4 := Aside0.mk A40
        clear A40
        by_cases c5 : t75005 = true
        · subst c5
          have H1 : (some (t75002, true)) = some (r1, r2) := by rw [if_pos rfl] at H; exact H
          clear H
          have H := H1
          clear H1
          simp only [Option.some.injEq, Prod.mk.injEq] at H
          obtain ⟨rfl, rfl⟩ := H
          have hcz6_0 : wr.cell? ⟨gb75001, 0, none⟩ = some (.slice A0_0 l0_0.length c0_0) := (blk_cell BK75001.out 0).trans rfl
          have hcz6_1 : wr.cell? ⟨gb75001, 1, none⟩ = some (.slice A0_1 l0_1.length c0_1) := (blk_cell BK75001.out 1).trans rfl
          have hfz6_0 := blk_frozen BK75001.out 0
          have hfz6_1 := blk_frozen BK75001.out 1
          go_wp2_with (first | ((with_reducible refine gate_callee (f := 75) rfl ?_); refine goesL_ (some 17) rfl rfl Try.func75 (by kernel_rfl) rfl #[.agg #[.slice A0_0 l0_0.length c0_0, .slice A0_1 l0_1.length c0_1], .slice none 0 0, .int .i64 0, .int .i64 x4_1] rfl mpa ?_; (refine (guidevaneref09_covered.calls k1 _ _ l0_0 _ _ l0_1 _ _ ([] : List Int) 0 x4_1 t75002 true _ ?side1 ?side2 ?side3 ?side4 ?side5 ?side6 A4.out).mono ?_); (case side1 => repeat (first | exact (Kd.C_below HR0_0.out HB.out) | (with_reducible refine Kd.C_alloc ?_ _) | (with_reducible refine Kd.C_drewN ?_ _) | (with_reducible refine Kd.C_drew ?_))); (case side2 => exact HC0_0.out); (case side3 => repeat (first | exact (Kd.C_below HR0_1.out HB.out) | (with_reducible refine Kd.C_alloc ?_ _) | (with_reducible refine Kd.C_drewN ?_ _) | (with_reducible refine Kd.C_drew ?_))); (case side4 => exact HC0_1.out); (case side5 => exact Kd.C_nil _ _); (case side6 => exact Nat.le_refl _); rintro e w7 ⟨v75003, rfl, ho0, hb⟩; refine ⟨_, rfl, ?_⟩; have n0_ := Aside0.mk (Kd.R_lower ho0 (below_size (belS HB.out GE75001.out))); have n1_ := Aside0.mk (blk_below (g := gb75001) (o := .cells #[.slice A0_0 l0_0.length c0_0, .slice A0_1 l0_1.length c0_1] 39 (0, 0)) (bkl BK75001.out) hb); have n2_ := Aside0.mk (below_step (belS HB.out GE75001.out) hb); clear BK75001; clear HB; have HO75004 := n0_; have BK75001 := n1_; have HB := n2_; clear n0_ n1_ n2_; (try clear hb); (try clear hb2); (try clear hk); (try clear hi); (try clear ho0)))
          go_ret2
          exact ⟨_, by first | rfl | (simp [errW_none, errW_some] <;> rfl) | (simp [*, errW_none, errW_some] <;> rfl), by (with_reducible repeat (first | apply Kd.R_alloc | apply Kd.R_drewN | apply Kd.R_drew)); exact HO75004.out, belS HB.out GE75001.out⟩
        · replace c5 := Bool.eq_false_iff.mpr c5
          subst c5
          have H1 : (guidevaneref09_Cover.l0 k1 (wrap64 (x4_1 + 1)) l0_0 l0_1) = some (r1, r2) := by rw [if_neg (show ¬ (false = true) by decide)] at H; exact H
          clear H
          have H := H1
          clear H1
          have H' := Aside0.mk H
          clear H
          have hcz8_0 : wr.cell? ⟨gb75001, 0, none⟩ = some (.slice A0_0 l0_0.length c0_0) := (blk_cell BK75001.out 0).trans rfl
          have hcz8_1 : wr.cell? ⟨gb75001, 1, none⟩ = some (.slice A0_1 l0_1.length c0_1) := (blk_cell BK75001.out 1).trans rfl
          have hfz8_0 := blk_frozen BK75001.out 0
          have hfz8_1 := blk_frozen BK75001.out 1
          go_wp2_with (first | ((with_reducible refine gate_callee (f := 75) rfl ?_); refine goesL_ (some 17) rfl rfl Try.func75 (by kernel_rfl) rfl #[.agg #[.slice A0_0 l0_0.length c0_0, .slice A0_1 l0_1.length c0_1], .slice none 0 0, .int .i64 0, .int .i64 x4_1] rfl mpa ?_; (refine (guidevaneref09_covered.calls k1 _ _ l0_0 _ _ l0_1 _ _ ([] : List Int) 0 x4_1 t75002 false _ ?side1 ?side2 ?side3 ?side4 ?side5 ?side6 A4.out).mono ?_); (case side1 => repeat (first | exact (Kd.C_below HR0_0.out HB.out) | (with_reducible refine Kd.C_alloc ?_ _) | (with_reducible refine Kd.C_drewN ?_ _) | (with_reducible refine Kd.C_drew ?_))); (case side2 => exact HC0_0.out); (case side3 => repeat (first | exact (Kd.C_below HR0_1.out HB.out) | (with_reducible refine Kd.C_alloc ?_ _) | (with_reducible refine Kd.C_drewN ?_ _) | (with_reducible refine Kd.C_drew ?_))); (case side4 => exact HC0_1.out); (case side5 => exact Kd.C_nil _ _); (case side6 => exact Nat.le_refl _); rintro e w9 ⟨v75003, rfl, ho0, hb⟩; refine ⟨_, rfl, ?_⟩; have n0_ := Aside0.mk (Kd.R_lower ho0 (below_size (belS HB.out GE75001.out))); have n1_ := Aside0.mk (blk_below (g := gb75001) (o := .cells #[.slice A0_0 l0_0.length c0_0, .slice A0_1 l0_1.length c0_1] 39 (0, 0)) (bkl BK75001.out) hb); have n2_ := Aside0.mk (below_step (belS HB.out GE75001.out) hb); clear BK75001; clear HB; have HO75004 := n0_; have BK75001 := n1_; have HB := n2_; clear n0_ n1_ n2_; (try clear hb); (try clear hb2); (try clear hk); (try clear hi); (try clear ho0)))
          go_roundg k1
          case measure => have := HK1.out; omega
          case rel => exact ⟨(wrap64 (x4_1 + 1)), (by first | rfl | (simp; done) | (simp [*]; done)), H', ⟨by have := HK1.out; omega⟩, ⟨bkl BK75001.out⟩, ⟨belS HB.out GE75001.out⟩⟩
      · rw [if_neg c3] at H
        have c3b0 : decide (x4_1 ≤ (l0_0.length : Int)) = false := decide_eq_false c3
        clear c3
        simp only [Option.some.injEq, Prod.mk.injEq] at H
        obtain ⟨rfl, rfl⟩ := H
        have hcz10_0 : wr.cell? ⟨gb75001, 0, none⟩ = some (.slice A0_0 l0_0.length c0_0) := (blk_cell BK75001.out 0).trans rfl
        have hcz10_1 : wr.cell? ⟨gb75001, 1, none⟩ = some (.slice A0_1 l0_1.length c0_1) := (blk_cell BK75001.out 1).trans rfl
        have hfz10_0 := blk_frozen BK75001.out 0
        have hfz10_1 := blk_frozen BK75001.out 1
        go_wp2
        go_ret2
        exact ⟨_, by first | rfl | (simp [errW_none, errW_some] <;> rfl) | (simp [*, errW_none, errW_some] <;> rfl), by first | exact Kd.R_nil _ _ _ _ _ | exact Kd.N_nil _ _ _ _ _ | exact Kd.V_nil _ _ _ _ _ | exact Kd.Q_nil _ _ _ _ _ | exact Kd.S_nil _ _ _ _ _, belS HB.out GE75001.out⟩
end Go.Proofs.Yteopooljohdoiaa.Px
namespace Go.Proofs.Yteopooljohdoiaa.Px
open Go.RowKit Go.Proofs.YteopooljohdoiaaW.PrintWords Go.Proofs.YteopooljohdoiaaW.PrintLast
theorem rdSir (l : List Sir) (k : Int) : rd_T112 l k = l.getD k.toNat zS := rfl
theorem rhears_f (ss : List Sir) (hs : List Int) (h : Nat) (k : Int) (hv : okValley ss hs) (hh : h < hs.length) (h0 : 0 ≤ k) (h1 : k < (ss.length : Int)) : guidevaneref09_Hears.f ss hs (h : Int) k = some (heard ss hs h k) := by
  have hs' : ss.getD k.toNat zS ∈ ss := getD_mem ss _ _ (by omega)
  have q1 := hv.1 _ hs'
  have q2 := hv.2 _ (getD_mem hs h 0 hh)
  unfold guidevaneref09_Hears.f heard hearsP
  rw [if_pos (by omega), if_pos (by omega), if_pos h0, if_pos h1, rdSir, rd_nat]
  generalize ss.getD k.toNat zS = s at *
  generalize hs.getD h 0 = x at *
  rw [pw64 (n := x - s.f0) (by omega) (by omega)]
  unfold guidevanebase_Size.f
  rw [pw64 (n := -(x - s.f0)) (by omega) (by omega)]
  simp only [Option.bind_some, Option.some.injEq]
  unfold mx
  rw [← Bool.decide_and]
  apply decide_eq_decide.2
  (try split) <;> omega
theorem isCov1 (ss : List Sir) (hs S : List Int) (h : Nat) (hv : okValley ss hs) (hh : h < hs.length) (hS : okIdx ss 0 S) (hl : S.length ≤ 1000) (h4 : hs.length ≤ 1000) : ∀ (m i k : Nat) (b : Bool), i + m = S.length →
    guidevaneref09_IsCover.l1 (k + m + 1) S (h : Int) b (i : Int) ss hs = if (b || (S.drop i).any fun q => heard ss hs h q) = true then guidevaneref09_IsCover.l0 k S ((h + 1 : Nat) : Int) ss hs else some false := by
  intro m
  induction m with
  | zero =>
    intro i k b hi
    simp only [guidevaneref09_IsCover.l1]
    rw [if_neg (by omega), List.drop_eq_nil_of_le (by omega), pw64 (by omega) (by omega)]
    simp only [List.any_nil, Bool.or_false]
    rfl
  | succ m ih =>
    intro i k b hi
    obtain ⟨kk, hkk⟩ : ∃ kk, kk = k + m + 1 := ⟨_, rfl⟩
    rw [show k + (m + 1) + 1 = kk + 1 by omega]
    simp only [guidevaneref09_IsCover.l1]
    rw [hkk]
    have hlt : i < S.length := by omega
    rw [if_pos (by omega), pw64 (n := (i : Int) + 1) (by omega) (by omega), show ((i : Int) + 1) = ((i + 1 : Nat) : Int) from rfl]
    have hd : S.drop i = S.getD i 0 :: S.drop (i + 1) := by
      rw [List.drop_eq_getElem_cons hlt, List.getD_eq_getElem?_getD, List.getElem?_eq_getElem hlt]; rfl
    have hq := hS (S.getD i 0) (getD_mem S i 0 hlt)
    cases b
    · rw [if_neg (by decide), if_pos (by omega), rd_nat, rhears_f ss hs h _ hv hh (by omega) hq.2]
      simp only [Option.bind_some]
      rw [ih (i + 1) k _ (by omega), hd]
      simp
    · rw [if_pos rfl, ih (i + 1) k true (by omega)]
      simp
theorem isCov_go (ss : List Sir) (hs S : List Int) (hv : okValley ss hs) (hS : okIdx ss 0 S) (hl : S.length ≤ 1000) (h4 : hs.length ≤ 1000) : ∀ (d h k : Nat), h + d = hs.length → d * (S.length + 2) < k →
    ∃ b, guidevaneref09_IsCover.l0 k S (h : Int) ss hs = some b ∧ (b = true ↔ ∀ j : Nat, h ≤ j → j < hs.length → ∃ q ∈ S, heard ss hs j q = true) := by
  intro d
  induction d with
  | zero =>
    intro h k hd hk
    obtain ⟨k, rfl⟩ : ∃ m, k = m + 1 := ⟨k - 1, by omega⟩
    simp only [guidevaneref09_IsCover.l0]
    rw [if_neg (by omega)]
    exact ⟨true, rfl, fun _ j h1 h2 => by omega, fun _ => rfl⟩
  | succ d ih =>
    intro h k hd hk
    rw [Nat.succ_mul] at hk
    obtain ⟨k, rfl⟩ : ∃ m, k = m + (S.length + 2) := ⟨k - (S.length + 2), by omega⟩
    rw [show k + (S.length + 2) = (k + S.length + 1) + 1 by omega]
    simp only [guidevaneref09_IsCover.l0]
    rw [if_pos (by omega), show (0 : Int) = ((0 : Nat) : Int) from rfl, isCov1 ss hs S h hv (by omega) hS hl h4 S.length 0 k false (by omega)]
    obtain ⟨b, hb1, hb2⟩ := ih (h + 1) k (by omega) (by omega)
    by_cases ha : (S.any fun q => heard ss hs h q) = true
    · rw [if_pos (by simpa using ha), hb1]
      refine ⟨b, rfl, hb2.trans ⟨fun hall j h1 h2 => ?_, fun hall j h1 h2 => hall j (by omega) h2⟩⟩
      by_cases e : j = h
      · subst e
        rw [List.any_eq_true] at ha
        obtain ⟨q, hq, hh⟩ := ha
        exact ⟨q, hq, hh⟩
      · exact hall j (by omega) h2
    · rw [if_neg (by simpa using ha)]
      refine ⟨false, rfl, (fun h => by cases h), fun hall => ?_⟩
      obtain ⟨q, hq, hh⟩ := hall h (Nat.le_refl _) (by omega)
      exact absurd (List.any_eq_true.2 ⟨q, hq, hh⟩) ha
theorem isCover_f (ss : List Sir) (hs S : List Int) (k : Nat) (hv : okValley ss hs) (hS : okIdx ss 0 S) (hl : S.length ≤ 10) (h4 : hs.length ≤ 40) (hk : 500 < k) : ∃ b, guidevaneref09_IsCover.f k ss hs S = some b ∧ (b = true ↔ Cov ss hs S) := by
  unfold guidevaneref09_IsCover.f
  have hmul : hs.length * (S.length + 2) ≤ 40 * 12 := Nat.mul_le_mul h4 (by omega)
  obtain ⟨b, h1, h2⟩ := isCov_go ss hs S hv hS (by omega) (by omega) hs.length 0 k (by omega) (by omega)
  exact ⟨b, h1, h2.trans ⟨fun h j hj => h j (by omega) hj, fun h j _ hj => h j hj⟩⟩
theorem okIdx_snoc {ss : List Sir} {S : List Int} {i : Nat} (h : okIdx ss 0 S) (hi : i < ss.length) : okIdx ss 0 (S ++ [(i : Int)]) := by
  intro k hk
  rcases List.mem_append.1 hk with hk | hk
  · exact h k hk
  · obtain rfl : k = (i : Int) := by simpa using hk
    omega
theorem covered_l (ss : List Sir) (hs : List Int) (hv : okValley ss hs) (h4 : hs.length ≤ 40) (h9 : ss.length ≤ 9) (more : Nat)
    (IH : ∀ (S : List Int) (frm k : Nat), okIdx ss 0 S → S.length + more ≤ 9 → 600 + 25 * more < k → frm ≤ ss.length → ∃ l b, guidevaneref09_covered.f k ss hs S (frm : Int) (more : Int) = some (l, b) ∧ (b = true → ∃ T, okIdx ss frm T ∧ T.length = more ∧ Cov ss hs (S ++ T))) :
    ∀ (d : Nat) (S : List Int) (i k : Nat), okIdx ss 0 S → S.length + (more + 1) ≤ 9 → i + d = ss.length → 600 + 25 * more + d + 2 < k →
    ∃ l b, guidevaneref09_covered.l0 k S ((more + 1 : Nat) : Int) (i : Int) ss hs = some (l, b) ∧ (b = true → ∃ T, okIdx ss i T ∧ T.length = more + 1 ∧ Cov ss hs (S ++ T)) := by
  intro d
  induction d with
  | zero =>
    intro S i k hS hl hi hk
    obtain ⟨k, rfl⟩ : ∃ m, k = m + 1 := ⟨k - 1, by omega⟩
    simp only [guidevaneref09_covered.l0]
    rw [pw64 (by omega) (by omega), if_neg (by omega)]
    exact ⟨[], false, rfl, fun h => by cases h⟩
  | succ d ih =>
    intro S i k hS hl hi hk
    obtain ⟨k, rfl⟩ : ∃ m, k = m + 1 := ⟨k - 1, by omega⟩
    simp only [guidevaneref09_covered.l0]
    rw [pw64 (n := (i : Int) + ((more + 1 : Nat) : Int)) (by omega) (by omega)]
    by_cases hc : (i : Int) + ((more + 1 : Nat) : Int) ≤ (ss.length : Int)
    · rw [if_pos hc, copyInts_f S (by omega)]
      simp only [Option.bind_some]
      rw [if_pos (by simp; omega), pw64 (n := (i : Int) + 1) (by omega) (by omega), pw64 (n := ((more + 1 : Nat) : Int) - 1) (by omega) (by omega), show ((more + 1 : Nat) : Int) - 1 = (more : Int) by omega, show ((i : Int) + 1) = ((i + 1 : Nat) : Int) from rfl]
      obtain ⟨l, b, h1, h2⟩ := IH (S ++ [(i : Int)]) (i + 1) k (okIdx_snoc hS (by omega)) (by simp; omega) (by omega) (by omega)
      rw [h1]
      simp only [Option.bind_some]
      cases b
      · rw [if_neg (by decide)]
        obtain ⟨l', b', h3, h5⟩ := ih S (i + 1) k hS hl (by omega) (by omega)
        refine ⟨l', b', h3, fun hb => ?_⟩
        obtain ⟨T, hT, hTl, hTc⟩ := h5 hb
        exact ⟨T, fun q hq => ⟨by have := (hT q hq).1; omega, (hT q hq).2⟩, hTl, hTc⟩
      · rw [if_pos rfl]
        refine ⟨l, true, rfl, fun _ => ?_⟩
        obtain ⟨T, hT, hTl, hTc⟩ := h2 rfl
        refine ⟨(i : Int) :: T, fun q hq => ?_, by simp [hTl], by simpa using hTc⟩
        rcases List.mem_cons.1 hq with rfl | hq
        · omega
        · have := hT q hq; omega
    · rw [if_neg hc]
      exact ⟨[], false, rfl, fun h => by cases h⟩
theorem covered_f (ss : List Sir) (hs : List Int) (hv : okValley ss hs) (h4 : hs.length ≤ 40) (h9 : ss.length ≤ 9) : ∀ (more : Nat) (S : List Int) (frm k : Nat), okIdx ss 0 S → S.length + more ≤ 9 → 600 + 25 * more < k → frm ≤ ss.length →
    ∃ l b, guidevaneref09_covered.f k ss hs S (frm : Int) (more : Int) = some (l, b) ∧ (b = true → ∃ T, okIdx ss frm T ∧ T.length = more ∧ Cov ss hs (S ++ T)) := by
  intro more
  induction more with
  | zero =>
    intro S frm k hS hl hk hf
    obtain ⟨k, rfl⟩ : ∃ m, k = m + 1 := ⟨k - 1, by omega⟩
    simp only [guidevaneref09_covered.f]
    rw [if_pos (by omega), copyInts_f S (by omega)]
    obtain ⟨b, h1, h2⟩ := isCover_f ss hs S k hv hS (by omega) h4 (by omega)
    simp only [Option.bind_some]
    rw [h1]
    exact ⟨S, b, rfl, fun hb => ⟨[], (by intro q hq; simp at hq), rfl, by simpa using h2.1 hb⟩⟩
  | succ more ih =>
    intro S frm k hS hl hk hf
    obtain ⟨k, rfl⟩ : ∃ m, k = m + 1 := ⟨k - 1, by omega⟩
    simp only [guidevaneref09_covered.f]
    rw [if_neg (by omega)]
    exact covered_l ss hs hv h4 h9 more ih (ss.length - frm) S frm k hS hl (by omega) (by omega)
theorem shorter_of_dup : ∀ T : List Int, ¬ T.Nodup → ∃ T' : List Int, T'.length < T.length ∧ ∀ x, x ∈ T' ↔ x ∈ T
  | [], h => absurd List.nodup_nil h
  | x :: t, h => by
    by_cases hx : x ∈ t
    · refine ⟨t, by simp, fun y => ⟨fun hy => List.mem_cons_of_mem _ hy, fun hy => ?_⟩⟩
      rcases List.mem_cons.1 hy with rfl | hy
      · exact hx
      · exact hy
    · obtain ⟨t', h1, h2⟩ := shorter_of_dup t (fun hn => h (List.nodup_cons.2 ⟨hx, hn⟩))
      refine ⟨x :: t', by simp; omega, fun y => ?_⟩
      simp only [List.mem_cons, h2]
theorem nodup_bound : ∀ (d : Nat) (i : Nat) (T : List Int), T.Nodup → (∀ q ∈ T, (i : Int) ≤ q ∧ q < ((i + d : Nat) : Int)) → T.length ≤ d
  | 0, i, T, hn, h => by
    cases T with
    | nil => simp
    | cons x t => have := h x List.mem_cons_self; omega
  | d + 1, i, T, hn, h => by
    have := nodup_bound d (i + 1) (T.erase (i : Int)) (hn.erase _) (fun q hq => by
      have h1 := h q (List.mem_of_mem_erase hq)
      have h2 : q ≠ (i : Int) := fun e => by subst e; exact hn.not_mem_erase hq
      omega)
    rw [List.length_erase] at this
    split at this <;> omega
theorem cov_congr {ss : List Sir} {hs A B : List Int} (h : ∀ x, x ∈ A → x ∈ B) (hc : Cov ss hs A) : Cov ss hs B := fun m hm => by
  obtain ⟨k, hk, hh⟩ := hc m hm
  exact ⟨k, h k hk, hh⟩
theorem okIdx_app {ss : List Sir} {A B : List Int} (ha : okIdx ss 0 A) {i : Nat} (hb : okIdx ss i B) : okIdx ss 0 (A ++ B) := by
  intro k hk
  rcases List.mem_append.1 hk with hk | hk
  · exact ha k hk
  · have := hb k hk; omega
theorem sweep_at (ss : List Sir) (hs S : List Int) (i : Nat) (hv : okValley ss hs) (h4 : hs.length ≤ 40) (hS : okIdx ss 0 S) (hi : i ≤ ss.length) : dam_valley_sweep.f ss hs S (i : Int) = some (sweepOut ss hs S i) := by
  unfold dam_valley_sweep.f
  rw [if_pos ⟨hv, h4, fun k hk => ⟨by have := (hS k hk).1; omega, (hS k hk).2⟩, by omega, by omega⟩, Int.toNat_natCast]
theorem cover_same (ss : List Sir) (hs : List Int) (hv : okValley ss hs) (h4 : hs.length ≤ 40) (h9 : ss.length ≤ 9) (hx : ∀ h : Nat, 0 ≤ hs.getD h 0) (np : Nat) (hnp : np ≤ 9) (hmin : ∀ T, okIdx ss 0 T → Cov ss hs T → np ≤ T.length) :
    ∀ (d more : Nat) (S : List Int) (i k kf : Nat), okIdx ss 0 S → S.length + (more + 1) = np → i + d = ss.length → (∃ T, okIdx ss i T ∧ T.length = more + 1 ∧ Cov ss hs (S ++ T)) → 600 + 25 * more + d + 2 < k → d < kf →
    ∃ l, guidevaneref09_covered.l0 k S ((more + 1 : Nat) : Int) (i : Int) ss hs = some (l, true) ∧ coverGo ss hs np kf S i = some l := by
  intro d
  induction d with
  | zero =>
    rintro more S i k kf hS hl hi ⟨T, hT, hTl, hTc⟩ hk hkf
    cases T with
    | nil => simp at hTl
    | cons q t => have := hT q List.mem_cons_self; omega
  | succ d ih =>
    rintro more S i k kf hS hl hi ⟨T, hT, hTl, hTc⟩ hk hkf
    obtain ⟨k, rfl⟩ : ∃ m, k = m + 1 := ⟨k - 1, by omega⟩
    obtain ⟨kf, rfl⟩ : ∃ m, kf = m + 1 := ⟨kf - 1, by omega⟩
    have hnd : T.Nodup := by
      refine Classical.byContradiction fun hn => ?_
      obtain ⟨T', h1, h2⟩ := shorter_of_dup T hn
      have := hmin (S ++ T') (okIdx_app hS (i := i) fun q hq => hT q ((h2 q).1 hq)) (cov_congr (fun x hx => by
        rcases List.mem_append.1 hx with hx | hx
        · exact List.mem_append_left _ hx
        · exact List.mem_append_right _ ((h2 x).2 hx)) hTc)
      simp at this
      omega
    have hTd := nodup_bound (d + 1) i T hnd (fun q hq => by have := hT q hq; omega)
    have hSi := okIdx_snoc hS (show i < ss.length by omega)
    simp only [guidevaneref09_covered.l0, coverGo]
    rw [pw64 (n := (i : Int) + ((more + 1 : Nat) : Int)) (by omega) (by omega), if_pos (by omega), copyInts_f S (by omega)]
    simp only [Option.bind_some]
    rw [if_pos (by simp; omega), pw64 (n := (i : Int) + 1) (by omega) (by omega), pw64 (n := ((more + 1 : Nat) : Int) - 1) (by omega) (by omega), show ((more + 1 : Nat) : Int) - 1 = (more : Int) by omega, show ((i : Int) + 1) = ((i + 1 : Nat) : Int) from rfl]
    rw [if_pos (show S.length < np by omega), sweep_at ss hs _ (i + 1) hv h4 hSi (by omega)]
    simp only [Option.bind_some]
    obtain ⟨l1, b1, hc1, hc2⟩ := covered_f ss hs hv h4 h9 more (S ++ [(i : Int)]) (i + 1) k hSi (by simp; omega) (by omega) (by omega)
    by_cases hF : ∃ T1, okIdx ss (i + 1) T1 ∧ T1.length = more ∧ Cov ss hs (S ++ [(i : Int)] ++ T1)
    · obtain ⟨T1, hT1, hT1l, hT1c⟩ := hF
      have htake : (sweepOut ss hs (S ++ [(i : Int)]) (i + 1)).2 = true ∧ (S ++ [(i : Int)]).length + (sweepOut ss hs (S ++ [(i : Int)]) (i + 1)).1.length ≤ np := by
        rcases sweepOut_spec ss hs (S ++ [(i : Int)]) (i + 1) hx with ⟨_, hno⟩ | ⟨P, hP, _, hle, _⟩
        · exact absurd hT1c (hno T1 hT1)
        · rw [hP]
          have := hle T1 hT1 hT1c
          refine ⟨rfl, ?_⟩
          simp
          omega
      rw [if_pos htake]
      cases more with
      | zero =>
        have hT1n : T1 = [] := List.eq_nil_of_length_eq_zero hT1l
        subst hT1n
        rw [List.append_nil] at hT1c
        obtain ⟨k, rfl⟩ : ∃ m, k = m + 1 := ⟨k - 1, by omega⟩
        obtain ⟨b, hb1, hb2⟩ := isCover_f ss hs (S ++ [(i : Int)]) k hv hSi (by simp; omega) h4 (by omega)
        have hbt := hb2.2 hT1c
        subst hbt
        have hcf : guidevaneref09_covered.f (k + 1) ss hs (S ++ [(i : Int)]) ((i + 1 : Nat) : Int) ((0 : Nat) : Int) = some (S ++ [(i : Int)], true) := by
          simp only [guidevaneref09_covered.f]
          rw [if_pos (by omega), copyInts_f _ (by simp; omega)]
          simp only [Option.bind_some]
          rw [hb1]; rfl
        rw [hcf]
        simp only [Option.bind_some]
        rw [if_pos (by trivial)]
        refine ⟨_, rfl, ?_⟩
        obtain ⟨kf, rfl⟩ : ∃ m, kf = m + 1 := ⟨kf - 1, by omega⟩
        simp only [coverGo]
        rw [if_neg (by simp; omega)]
      | succ m =>
        obtain ⟨k, rfl⟩ : ∃ m, k = m + 1 := ⟨k - 1, by omega⟩
        obtain ⟨l, g1, g2⟩ := ih m (S ++ [(i : Int)]) (i + 1) k kf hSi (by simp; omega) (by omega) ⟨T1, hT1, hT1l, hT1c⟩ (by omega) (by omega)
        have hcf : guidevaneref09_covered.f (k + 1) ss hs (S ++ [(i : Int)]) ((i + 1 : Nat) : Int) ((m + 1 : Nat) : Int) = some (l, true) := by
          simp only [guidevaneref09_covered.f]
          rw [if_neg (by omega)]
          exact g1
        rw [hcf]
        simp only [Option.bind_some]
        rw [if_pos (by trivial)]
        exact ⟨l, rfl, g2⟩
    · have hb1 : b1 = false := by
        cases b1
        · rfl
        · exact absurd (hc2 rfl) hF
      subst hb1
      rw [hc1]
      simp only [Option.bind_some]
      rw [if_neg (by decide)]
      have hntake : ¬ ((sweepOut ss hs (S ++ [(i : Int)]) (i + 1)).2 = true ∧ (S ++ [(i : Int)]).length + (sweepOut ss hs (S ++ [(i : Int)]) (i + 1)).1.length ≤ np) := by
        rcases sweepOut_spec ss hs (S ++ [(i : Int)]) (i + 1) hx with ⟨hP, _⟩ | ⟨P, hP, ⟨T2, hT2, hT2l, hT2c⟩, _⟩
        · rw [hP]; intro h; exact absurd h.1 (by decide)
        · rw [hP]
          intro h
          have h2 := h.2
          have h3 := hmin _ (okIdx_app hSi hT2) hT2c
          simp at h2 h3
          exact hF ⟨T2, hT2, by omega, hT2c⟩
      rw [if_neg hntake]
      have hni : (i : Int) ∉ T := fun hin => hF ⟨T.erase (i : Int), fun q hq => by
          have h1 := hT q (List.mem_of_mem_erase hq)
          have h2 : q ≠ (i : Int) := fun e => by subst e; exact hnd.not_mem_erase hq
          omega, by rw [List.length_erase_of_mem hin]; omega, cov_congr (fun x hx => by
          rcases List.mem_append.1 hx with hx | hx
          · exact List.mem_append_left _ (List.mem_append_left _ hx)
          · by_cases e : x = (i : Int)
            · subst e; exact List.mem_append_left _ (List.mem_append_right _ (by simp))
            · exact List.mem_append_right _ ((List.mem_erase_of_ne e).2 hx)) hTc⟩
      exact ih more S (i + 1) k kf hS hl (by omega) ⟨T, fun q hq => by
        have h1 := hT q hq
        have h2 : q ≠ (i : Int) := fun e => hni (e ▸ hq)
        omega, hTl, hTc⟩ (by omega) (by omega)
theorem cover_none (ss : List Sir) (hs : List Int) (hv : okValley ss hs) (h4 : hs.length ≤ 40) (h9 : ss.length ≤ 9) (hno : ∀ T, okIdx ss 0 T → ¬ Cov ss hs T) : ∀ (d s k : Nat), s + d = ss.length + 1 → 900 + d < k → guidevaneref09_Cover.l0 k (s : Int) ss hs = some ([], false) := by
  intro d
  induction d with
  | zero =>
    intro s k hs' hk
    obtain ⟨k, rfl⟩ : ∃ m, k = m + 1 := ⟨k - 1, by omega⟩
    simp only [guidevaneref09_Cover.l0]
    rw [if_neg (by omega)]
  | succ d ih =>
    intro s k hs' hk
    obtain ⟨k, rfl⟩ : ∃ m, k = m + 1 := ⟨k - 1, by omega⟩
    simp only [guidevaneref09_Cover.l0]
    obtain ⟨l, b, h1, h2⟩ := covered_f ss hs hv h4 h9 s [] 0 k (by intro q hq; simp at hq) (by simp; omega) (by omega) (by omega)
    have hb : b = false := by
      cases b
      · rfl
      · obtain ⟨T, hT, _, hc⟩ := h2 rfl
        exact absurd hc (hno T hT)
    subst hb
    rw [if_pos (by omega), show (0 : Int) = ((0 : Nat) : Int) from rfl, h1]
    simp only [Option.bind_some]
    rw [if_neg (by decide), pw64 (by omega) (by omega)]
    exact ih (s + 1) k (by omega) (by omega)
theorem cover_some (ss : List Sir) (hs : List Int) (hv : okValley ss hs) (h4 : hs.length ≤ 40) (h9 : ss.length ≤ 9) (hx : ∀ h : Nat, 0 ≤ hs.getD h 0) (np : Nat) (hnp : np ≤ ss.length) (hmin : ∀ T, okIdx ss 0 T → Cov ss hs T → np ≤ T.length) (hex : ∃ T, okIdx ss 0 T ∧ T.length = np ∧ Cov ss hs T) (kf : Nat) (hkf : ss.length < kf) :
    ∃ l, coverGo ss hs np kf [] 0 = some l ∧ l.length = np ∧ ∀ (d s k : Nat), s + d = np → 900 + d < k → guidevaneref09_Cover.l0 k (s : Int) ss hs = some (l, true) := by
  have key : ∃ l, coverGo ss hs np kf [] 0 = some l ∧ ∀ k, 850 < k → guidevaneref09_covered.f k ss hs [] ((0 : Nat) : Int) (np : Int) = some (l, true) := by
    obtain ⟨T, hT, hTl, hTc⟩ := hex
    cases np with
    | zero =>
      have : T = [] := List.eq_nil_of_length_eq_zero hTl
      subst this
      obtain ⟨kf, rfl⟩ : ∃ m, kf = m + 1 := ⟨kf - 1, by omega⟩
      refine ⟨[], by simp [coverGo], fun k hk => ?_⟩
      obtain ⟨k, rfl⟩ : ∃ m, k = m + 1 := ⟨k - 1, by omega⟩
      simp only [guidevaneref09_covered.f]
      obtain ⟨b, hb1, hb2⟩ := isCover_f ss hs [] k hv (by intro q hq; simp at hq) (by simp) h4 (by omega)
      have hbt := hb2.2 hTc
      subst hbt
      rw [if_pos (by omega), copyInts_f [] (by simp)]
      simp only [Option.bind_some]
      rw [hb1]; rfl
    | succ m =>
      obtain ⟨l, _, g2⟩ := cover_same ss hs hv h4 h9 hx (m + 1) (by omega) hmin ss.length m [] 0 1000 kf (by intro q hq; simp at hq) (by simp) (by omega) ⟨T, hT, hTl, by simpa using hTc⟩ (by omega) hkf
      refine ⟨l, g2, fun k hk => ?_⟩
      obtain ⟨k, rfl⟩ : ∃ m, k = m + 1 := ⟨k - 1, by omega⟩
      obtain ⟨l', g1, g3⟩ := cover_same ss hs hv h4 h9 hx (m + 1) (by omega) hmin ss.length m [] 0 k kf (by intro q hq; simp at hq) (by simp) (by omega) ⟨T, hT, hTl, by simpa using hTc⟩ (by omega) hkf
      rw [g2] at g3
      obtain rfl := Option.some.inj g3
      simp only [guidevaneref09_covered.f]
      rw [if_neg (by omega)]
      exact g1
  obtain ⟨l, g1, g2⟩ := key
  refine ⟨l, g1, ?_, ?_⟩
  · have hlen : ∀ (kf : Nat) (out : List Int) (i : Nat) (l : List Int), coverGo ss hs np kf out i = some l → out.length ≤ np → l.length = np := by
      intro kf
      induction kf with
      | zero => intro out i l h; simp [coverGo] at h
      | succ kf ih =>
        intro out i l h ho
        simp only [coverGo] at h
        split at h
        · obtain ⟨s, _, h⟩ := Option.bind_eq_some_iff.mp h
          refine ih _ _ _ h ?_
          split
          · rename_i hc; have := hc.2; omega
          · exact ho
        · obtain rfl := Option.some.inj h; omega
    exact hlen kf [] 0 l g1 (by simp)
  · intro d
    induction d with
    | zero =>
      intro s k hs' hk
      obtain ⟨k, rfl⟩ : ∃ m, k = m + 1 := ⟨k - 1, by omega⟩
      obtain rfl : s = np := by omega
      simp only [guidevaneref09_Cover.l0]
      rw [if_pos (by omega), show (0 : Int) = ((0 : Nat) : Int) from rfl, g2 k (by omega)]
      simp only [Option.bind_some]
      rw [if_pos (by trivial)]
    | succ d ih =>
      intro s k hs' hk
      obtain ⟨k, rfl⟩ : ∃ m, k = m + 1 := ⟨k - 1, by omega⟩
      simp only [guidevaneref09_Cover.l0]
      obtain ⟨l2, b, h1, h2⟩ := covered_f ss hs hv h4 h9 s [] 0 k (by intro q hq; simp at hq) (by simp; omega) (by omega) (by omega)
      have hb : b = false := by
        cases b
        · rfl
        · obtain ⟨T, hT, hTl, hc⟩ := h2 rfl
          have := hmin T hT (by simpa using hc)
          omega
      subst hb
      rw [if_pos (by omega), show (0 : Int) = ((0 : Nat) : Int) from rfl, h1]
      simp only [Option.bind_some]
      rw [if_neg (by decide), pw64 (by omega) (by omega)]
      exact ih (s + 1) k (by omega) (by omega)
end Go.Proofs.Yteopooljohdoiaa.Px
namespace Go.Proofs.Yteopooljohdoiaa.Px
open Go.RowKit Go.Proofs.YteopooljohdoiaaW.PrintWords Go.Proofs.YteopooljohdoiaaW.PrintLast Go.Proofs.YteopooljohdoiaaW.PrintMore
attribute [local go_sem] max2_int min2_int max_two min_two max_three min_three max_four min_four
def guidevanelaw09_fewSirens.f (l0_0 : List (S112)) (l0_1 : List Int) : Option (Bool) := if (l0_0.length : Int) ≤ 22 then (some (decide ((l0_1.length : Int) ≤ 42))) else (some false)
set_option maxHeartbeats 8000000 in
set_option maxRecDepth 100000 in
theorem guidevanelaw09_fewSirens.calls (A0_0 : Option Addr) (c0_0 : Nat) (l0_0 : List (S112)) (A0_1 : Option Addr) (c0_1 : Nat) (l0_1 : List Int) (r : Bool) (w : World) (hr0_0 : Kd.C k112 w A0_0 l0_0.length l0_0) (hc0_0 : l0_0.length ≤ c0_0) (hr0_1 : Kd.C (Kd.int .i64) w A0_1 l0_1.length l0_1) (hc0_1 : l0_1.length ≤ c0_1) (h : guidevanelaw09_fewSirens.f l0_0 l0_1 = some r) :
    Calls Try.prog 18 #[.agg #[.slice A0_0 l0_0.length c0_0, .slice A0_1 l0_1.length c0_1]] w fun e w' => e = .returned (.bool r) ∧ Below w.heap.size w w' := by
  have hu39 := Try.underlying39
  have HR0_0 := Aside0.mk hr0_0
  have HC0_0 := Aside0.mk hc0_0
  clear hr0_0 hc0_0
  have HR0_1 := Aside0.mk hr0_1
  have HC0_1 := Aside0.mk hc0_1
  clear hr0_1 hc0_1
  have HB := Aside0.mk (Below.refl w.heap.size w)
  have H : (if (l0_0.length : Int) ≤ 22 then (some (decide ((l0_1.length : Int) ≤ 42))) else (some false)) = some r := h
  clear h
  by_cases c2 : (l0_0.length : Int) ≤ 22
  · rw [if_pos c2] at H
    have c2b0 : decide ((l0_0.length : Int) ≤ 22) = true := decide_eq_true c2
    have c2b1 : decide (l0_0.length ≤ 22) = true := decide_eq_true (by omega)
    clear c2
    obtain rfl := Option.some.inj H
    go_enter Try.func18, Try.ntmps18
    go_wp2_with (first | ((with_reducible refine gate_dst (N := 1) rfl ?_); (try (refine gate_guard (by rfl) ?_; dsimp only)); refine box_event ?hg (N := 1) ?hd (cs := #[.slice A0_0 l0_0.length c0_0, .slice A0_1 l0_1.length c0_1]) (t := 39) ?hr ?_; (case hd => rfl); (case hg => rfl); (case hr => first | (go_simp; done) | (go_simp; rfl)); intro gb54001 hg w3 hbox hb; have n0_ := Aside0.mk (below_step (bel HB.out) hb); have n1_ := Aside0.mk (hbox); have n2_ := Aside0.mk ((by rw [hg]; exact (below_size (bel HB.out)) : w.heap.size ≤ gb54001)); have n3_ := Aside0.mk ((by rw [hg]; exact (below_size (bel HB.out)) : w.heap.size ≤ gb54001)); clear HB; have HB := n0_; have BK54001 := n1_; have GW54001 := n2_; have GE54001 := n3_; clear n0_ n1_ n2_ n3_; clear hb hbox hg; have hcz4_0 : w3.cell? ⟨gb54001, 0, none⟩ = some (.slice A0_0 l0_0.length c0_0) := (blk_cell BK54001.out 0).trans rfl; have hcz4_1 : w3.cell? ⟨gb54001, 1, none⟩ = some (.slice A0_1 l0_1.length c0_1) := (blk_cell BK54001.out 1).trans rfl; have hfz4_0 := blk_frozen BK54001.out 0; have hfz4_1 := blk_frozen BK54001.out 1))
    go_ret
    exact ⟨by first | rfl | (simp [errW_none, errW_some] <;> rfl) | (simp [*, errW_none, errW_some] <;> rfl), belS HB.out GE54001.out⟩
  · rw [if_neg c2] at H
    have c2b0 : decide ((l0_0.length : Int) ≤ 22) = false := decide_eq_false c2
    have c2b1 : decide (l0_0.length ≤ 22) = false := decide_eq_false (by omega)
    clear c2
    obtain rfl := Option.some.inj H
    go_enter Try.func18, Try.ntmps18
    go_wp2_with (first | ((with_reducible refine gate_dst (N := 1) rfl ?_); (try (refine gate_guard (by rfl) ?_; dsimp only)); refine box_event ?hg (N := 1) ?hd (cs := #[.slice A0_0 l0_0.length c0_0, .slice A0_1 l0_1.length c0_1]) (t := 39) ?hr ?_; (case hd => rfl); (case hg => rfl); (case hr => first | (go_simp; done) | (go_simp; rfl)); intro gb54001 hg w5 hbox hb; have n0_ := Aside0.mk (below_step (bel HB.out) hb); have n1_ := Aside0.mk (hbox); have n2_ := Aside0.mk ((by rw [hg]; exact (below_size (bel HB.out)) : w.heap.size ≤ gb54001)); have n3_ := Aside0.mk ((by rw [hg]; exact (below_size (bel HB.out)) : w.heap.size ≤ gb54001)); clear HB; have HB := n0_; have BK54001 := n1_; have GW54001 := n2_; have GE54001 := n3_; clear n0_ n1_ n2_ n3_; clear hb hbox hg; have hcz6_0 : w5.cell? ⟨gb54001, 0, none⟩ = some (.slice A0_0 l0_0.length c0_0) := (blk_cell BK54001.out 0).trans rfl; have hcz6_1 : w5.cell? ⟨gb54001, 1, none⟩ = some (.slice A0_1 l0_1.length c0_1) := (blk_cell BK54001.out 1).trans rfl; have hfz6_0 := blk_frozen BK54001.out 0; have hfz6_1 := blk_frozen BK54001.out 1))
    go_ret
    exact ⟨by first | rfl | (simp [errW_none, errW_some] <;> rfl) | (simp [*, errW_none, errW_some] <;> rfl), belS HB.out GE54001.out⟩
end Go.Proofs.Yteopooljohdoiaa.Px
namespace Go.Proofs.Yteopooljohdoiaa.Px
open Go.RowKit Go.Proofs.YteopooljohdoiaaW.PrintWords Go.Proofs.YteopooljohdoiaaW.PrintLast Go.Proofs.YteopooljohdoiaaW.PrintMore
attribute [local go_sem] max2_int min2_int max_two min_two max_three min_three max_four min_four
mutual
def guidevaneref09_CheckValley.j0 : Nat → Bool → List (S112) → List Int → Option (Int × Int)
  | 0, _, _, _ => none
  | k + 1, x15, x72002000, x72002001 => if x15 = true then (some (0, 8)) else (guidevaneref09_CheckValley.l0 k 0 x72002000 x72002001)
def guidevaneref09_CheckValley.l0 : Nat → Int → List (S112) → List Int → Option (Int × Int)
  | 0, _, _, _ => none
  | k + 1, x4, x72002000, x72002001 => if x4 < (x72002000.length : Int) then (if 0 ≤ x4 then ((guidevanebase_Within.f ((rd_T112 x72002000 x4).f0) 0 1000000).bind fun t72003 => (if t72003 = true then ((guidevanebase_Within.f ((rd_T112 x72002000 x4).f1) 0 1000000).bind fun t72005 => (if t72005 = true then (guidevaneref09_CheckValley.l0 k (wrap64 (x4 + 1)) x72002000 x72002001) else (some (x4, 2)))) else (some (x4, 2)))) else (none)) else (guidevaneref09_CheckValley.l1 k 0 x72002000 x72002001)
def guidevaneref09_CheckValley.l1 : Nat → Int → List (S112) → List Int → Option (Int × Int)
  | 0, _, _, _ => none
  | k + 1, x5, x72002000, x72002001 => if x5 < (x72002001.length : Int) then (if 0 ≤ x5 then ((guidevanebase_Within.f (rd x72002001 x5) 0 1000000).bind fun t72007 => (if t72007 = true then (guidevaneref09_CheckValley.l1 k (wrap64 (x5 + 1)) x72002000 x72002001) else (some (x5, 2)))) else (none)) else (some (0, 0))
end
def guidevaneref09_CheckValley.f (k : Nat) (l0_0 : List (S112)) (l0_1 : List Int) : Option (Int × Int) := if (l0_0.length : Int) > 20 then (guidevaneref09_CheckValley.j0 k true l0_0 l0_1) else (guidevaneref09_CheckValley.j0 k (decide ((l0_1.length : Int) > 40)) l0_0 l0_1)
set_option maxHeartbeats 8000000 in
set_option maxRecDepth 100000 in
theorem guidevaneref09_CheckValley.calls (k : Nat) (A0_0 : Option Addr) (c0_0 : Nat) (l0_0 : List (S112)) (A0_1 : Option Addr) (c0_1 : Nat) (l0_1 : List Int) (r1 : Int) (r2 : Int) (w : World) (hr0_0 : Kd.C k112 w A0_0 l0_0.length l0_0) (hc0_0 : l0_0.length ≤ c0_0) (hr0_1 : Kd.C (Kd.int .i64) w A0_1 l0_1.length l0_1) (hc0_1 : l0_1.length ≤ c0_1) (h : guidevaneref09_CheckValley.f k l0_0 l0_1 = some (r1, r2)) :
    Calls Try.prog 24 #[.agg #[.slice A0_0 l0_0.length c0_0, .slice A0_1 l0_1.length c0_1]] w fun e w' => e = .returned (.tuple #[.int .i64 r1, .int .i64 r2]) ∧ Below w.heap.size w w' := by
  have hu39 := Try.underlying39
  have HR0_0 := Aside0.mk hr0_0
  have HC0_0 := Aside0.mk hc0_0
  clear hr0_0 hc0_0
  have HR0_1 := Aside0.mk hr0_1
  have HC0_1 := Aside0.mk hc0_1
  clear hr0_1 hc0_1
  have HB := Aside0.mk (Below.refl w.heap.size w)
  have H : (if (l0_0.length : Int) > 20 then (guidevaneref09_CheckValley.j0 k true l0_0 l0_1) else (guidevaneref09_CheckValley.j0 k (decide ((l0_1.length : Int) > 40)) l0_0 l0_1)) = some (r1, r2) := h
  clear h
  have HC2 := Aside0.mk H
  clear H
  go_enter Try.func24, Try.ntmps24
  go_upto_region 1 with (first | ((with_reducible refine gate_dst (N := 1) rfl ?_); (try (refine gate_guard (by rfl) ?_; dsimp only)); refine box_event ?hg (N := 1) ?hd (cs := #[.slice A0_0 l0_0.length c0_0, .slice A0_1 l0_1.length c0_1]) (t := 39) ?hr ?_; (case hd => rfl); (case hg => rfl); (case hr => first | (go_simp; done) | (go_simp; rfl)); intro gb72001 hg w3 hbox hb; have n0_ := Aside0.mk (below_step (bel HB.out) hb); have n1_ := Aside0.mk (hbox); have n2_ := Aside0.mk ((by rw [hg]; exact (below_size (bel HB.out)) : w.heap.size ≤ gb72001)); have n3_ := Aside0.mk ((by rw [hg]; exact (below_size (bel HB.out)) : w.heap.size ≤ gb72001)); clear HB; have HB := n0_; have BK72001 := n1_; have GW72001 := n2_; have GE72001 := n3_; clear n0_ n1_ n2_ n3_; clear hb hbox hg))
  (try simp only [Act.put, List.setIfInBounds_toArray, List.set_cons_zero, List.set_cons_succ])
  go_cut [15] (fun v15 wc => ∃ (kq : Nat) (x15_1 : Bool), v15 = .bool x15_1 ∧ Aside0 (guidevaneref09_CheckValley.j0 kq x15_1 l0_0 l0_1 = some (r1, r2)) ∧ Aside0 (kq ≤ k) ∧ Aside0 (wc.heap[gb72001]? = some (.cells #[(.slice A0_0 l0_0.length c0_0), (.slice A0_1 l0_1.length c0_1)] 39 (0, 0))) ∧ Aside0 (Below w.heap.size w wc))
  case first =>
    have H := HC2.out
    clear HC2
    by_cases c4 : (l0_0.length : Int) > 20
    · rw [if_pos c4] at H
      have c4b0 : decide (20 < (l0_0.length : Int)) = true := decide_eq_true c4
      have c4b1 : decide (20 < l0_0.length) = true := decide_eq_true (by omega)
      clear c4
      (first | rw [c4b0] | (simp only [i64_w, i32_w]; rw [c4b0]) | skip)
      have H' := Aside0.mk H
      clear H
      have hcz5_0 : w3.cell? ⟨gb72001, 0, none⟩ = some (.slice A0_0 l0_0.length c0_0) := (blk_cell BK72001.out 0).trans rfl
      have hcz5_1 : w3.cell? ⟨gb72001, 1, none⟩ = some (.slice A0_1 l0_1.length c0_1) := (blk_cell BK72001.out 1).trans rfl
      have hfz5_0 := blk_frozen BK72001.out 0
      have hfz5_1 := blk_frozen BK72001.out 1
      go_wp2
      go_meet
      case rel => exact ⟨_, (true), (by first | rfl | (simp; done) | (simp [*]; done)), H', ⟨by first | omega | exact Nat.le_refl _⟩, ⟨bkl BK72001.out⟩, ⟨belS HB.out GE72001.out⟩⟩
    · rw [if_neg c4] at H
      have c4b0 : decide (20 < (l0_0.length : Int)) = false := decide_eq_false c4
      have c4b1 : decide (20 < l0_0.length) = false := decide_eq_false (by omega)
      clear c4
      (first | rw [c4b0] | (simp only [i64_w, i32_w]; rw [c4b0]) | skip)
      have H' := Aside0.mk H
      clear H
      have hcz6_0 : w3.cell? ⟨gb72001, 0, none⟩ = some (.slice A0_0 l0_0.length c0_0) := (blk_cell BK72001.out 0).trans rfl
      have hcz6_1 : w3.cell? ⟨gb72001, 1, none⟩ = some (.slice A0_1 l0_1.length c0_1) := (blk_cell BK72001.out 1).trans rfl
      have hfz6_0 := blk_frozen BK72001.out 0
      have hfz6_1 := blk_frozen BK72001.out 1
      go_wp2
      go_meet
      case rel => exact ⟨_, (decide ((l0_1.length : Int) > 40)), (by first | rfl | (simp; done) | (simp [*]; done)), H', ⟨by first | omega | exact Nat.le_refl _⟩, ⟨bkl BK72001.out⟩, ⟨belS HB.out GE72001.out⟩⟩
  case rest =>
    clear HC2
    try clear c2
    try clear p2
    try clear c4
    try clear c4b0
    try clear c4b1
    try clear hcz5_0
    try clear hcz5_1
    try clear hcz6_0
    try clear hcz6_1
    try clear hfz5_0
    try clear hfz5_1
    try clear hfz6_0
    try clear hfz6_1
    obtain ⟨kq, x15_1, rfl, HA, HJ1, BK72001, HB⟩ := hcut
    cases kq with
    | zero => exact absurd HA.out (by simp [guidevaneref09_CheckValley.j0])
    | succ kj1 =>
      have H := HA.out
      clear HA
      simp only [guidevaneref09_CheckValley.j0] at H
      by_cases c7 : x15_1 = true
      · subst c7
        have H1 : (some (0, 8)) = some (r1, r2) := by rw [if_pos rfl] at H; exact H
        clear H
        have H := H1
        clear H1
        simp only [Option.some.injEq, Prod.mk.injEq] at H
        obtain ⟨rfl, rfl⟩ := H
        go_wp2
        go_ret2
        exact ⟨by first | rfl | (simp [errW_none, errW_some] <;> rfl) | (simp [*, errW_none, errW_some] <;> rfl), belS HB.out GE72001.out⟩
      · replace c7 := Bool.eq_false_iff.mpr c7
        subst c7
        have H1 : (guidevaneref09_CheckValley.l0 kj1 0 l0_0 l0_1) = some (r1, r2) := by rw [if_neg (show ¬ (false = true) by decide)] at H; exact H
        clear H
        have H := H1
        clear H1
        have H' := Aside0.mk H
        clear H
        go_wp2
        go_loopg [4] kj1 (fun kq v4 w' => ∃ (x4_2 : Int), v4 = .int .i64 x4_2 ∧ Aside0 (guidevaneref09_CheckValley.l0 kq x4_2 l0_0 l0_1 = some (r1, r2)) ∧ Aside0 (kq ≤ kj1) ∧ Aside0 (w'.heap[gb72001]? = some (.cells #[(.slice A0_0 l0_0.length c0_0), (.slice A0_1 l0_1.length c0_1)] 39 (0, 0))) ∧ Aside0 (Below w.heap.size w w'))
        case atStart => exact ⟨(0), (by first | rfl | (simp; done) | (simp [*]; done)), H', ⟨Nat.le_refl _⟩, ⟨bkl BK72001.out⟩, ⟨belS HB.out GE72001.out⟩⟩
        case round =>
          clear H'
          try clear c2
          try clear p2
          try clear c4
          try clear c4b0
          try clear c4b1
          try clear c7
          try clear hcz5_0
          try clear hcz5_1
          try clear hcz6_0
          try clear hcz6_1
          try clear hfz5_0
          try clear hfz5_1
          try clear hfz6_0
          try clear hfz6_1
          try clear p2
          obtain ⟨x4_2, rfl, HA, HK2, BK72001, HB⟩ := hrel
          cases gk with
          | zero => exact absurd HA.out (by simp [guidevaneref09_CheckValley.l0])
          | succ k2 =>
            have H := HA.out
            clear HA
            simp only [guidevaneref09_CheckValley.l0] at H
            by_cases c8 : x4_2 < (l0_0.length : Int)
            · rw [if_pos c8] at H
              have c8b0 : decide (x4_2 < (l0_0.length : Int)) = true := decide_eq_true c8
              clear c8
              by_cases c9 : 0 ≤ x4_2
              · rw [if_pos c9] at H
                have c9b0 : decide (0 ≤ x4_2) = true := decide_eq_true c9
                clear c9
                replace H := Option.bind_eq_some_iff.mp H
                obtain ⟨t72003, A100, H⟩ := H
                replace H : (if t72003 = true then ((guidevanebase_Within.f ((rd_T112 l0_0 x4_2).f1) 0 1000000).bind fun t72005 => (if t72005 = true then (guidevaneref09_CheckValley.l0 k2 (wrap64 (x4_2 + 1)) l0_0 l0_1) else (some (x4_2, 2)))) else (some (x4_2, 2))) = some (r1, r2) := H
                have A10 := Aside0.mk A100
                clear A100
                by_cases c11 : t72003 = true
                · subst c11
                  have H1 : ((guidevanebase_Within.f ((rd_T112 l0_0 x4_2).f1) 0 1000000).bind fun t72005 => (if t72005 = true then (guidevaneref09_CheckValley.l0 k2 (wrap64 (x4_2 + 1)) l0_0 l0_1) else (some (x4_2, 2)))) = some (r1, r2) := by rw [if_pos rfl] at H; exact H
                  clear H
                  have H := H1
                  clear H1
                  replace H := Option.bind_eq_some_iff.mp H
                  obtain ⟨t72005, A120, H⟩ := H
                  replace H : (if t72005 = true then (guidevaneref09_CheckValley.l0 k2 (wrap64 (x4_2 + 1)) l0_0 l0_1) else (some (x4_2, 2))) = some (r1, r2) := H
                  have A12 := Aside0.mk A120
                  clear A120
                  by_cases c13 : t72005 = true
                  · subst c13
                    have H1 : (guidevaneref09_CheckValley.l0 k2 (wrap64 (x4_2 + 1)) l0_0 l0_1) = some (r1, r2) := by rw [if_pos rfl] at H; exact H
                    clear H
                    have H := H1
                    clear H1
                    have H' := Aside0.mk H
                    clear H
                    have hcz14_0 : wr.cell? ⟨gb72001, 0, none⟩ = some (.slice A0_0 l0_0.length c0_0) := (blk_cell BK72001.out 0).trans rfl
                    have hcz14_1 : wr.cell? ⟨gb72001, 1, none⟩ = some (.slice A0_1 l0_1.length c0_1) := (blk_cell BK72001.out 1).trans rfl
                    have hfz14_0 := blk_frozen BK72001.out 0
                    have hfz14_1 := blk_frozen BK72001.out 1
                    have p72002 : 0 ≤ (x4_2 : Int) := of_decide_eq_true asm_
                    have q72002 : x4_2 < (l0_0.length : Int) := of_decide_eq_true asm_
                    obtain ⟨ad72002, e72002, hx72002_0, hx72002_1⟩ := at_T112 HR0_0.out x4_2 p72002 q72002
                    cases e72002
                    replace hx72002_0 := (HB.out.cell (World.block_lt_of_cell? w _ hx72002_0)).trans hx72002_0
                    replace hx72002_1 := (HB.out.cell (World.block_lt_of_cell? w _ hx72002_1)).trans hx72002_1
                    replace p72002 := eq_true p72002
                    replace q72002 := eq_true q72002
                    go_wp2_with (first | ((with_reducible refine gate_callee (f := 15) rfl ?_); refine goesL_ (some 29) rfl rfl Try.func15 (by kernel_rfl) rfl #[.int .i64 ((rd_T112 l0_0 x4_2).f0), .int .i64 0, .int .i64 1000000] rfl mpa ?_; (with_reducible refine (guidevanebase_Within.calls ((rd_T112 l0_0 x4_2).f0) 0 1000000 true _ A10.out).mono ?_); rintro e w' ⟨rfl, ⟨nd, rfl⟩⟩; refine ⟨_, rfl, ?_⟩; have p72004 : 0 ≤ (x4_2 : Int) := of_decide_eq_true asm_; have q72004 : x4_2 < (l0_0.length : Int) := of_decide_eq_true asm_; obtain ⟨ad72004, e72004, hx72004_0, hx72004_1⟩ := at_T112 HR0_0.out x4_2 p72004 q72004; obtain rfl : ad72002 = ad72004 := (by injection e72004); replace hx72004_0 := (HB.out.cell (World.block_lt_of_cell? w _ hx72004_0)).trans hx72004_0; replace hx72004_1 := (HB.out.cell (World.block_lt_of_cell? w _ hx72004_1)).trans hx72004_1; replace p72004 := eq_true p72004; replace q72004 := eq_true q72004) | (go_at_call 15; (with_reducible refine (guidevanebase_Within.calls ((rd_T112 l0_0 x4_2).f1) 0 1000000 true _ A12.out).mono ?_); rintro e w' ⟨rfl, ⟨nd, rfl⟩⟩))
                    go_roundg k2
                    case measure => have := HJ1.out; have := HK2.out; omega
                    case rel => exact ⟨(wrap64 (x4_2 + 1)), (by first | rfl | (simp; done) | (simp [*]; done)), H', ⟨by have := HJ1.out; have := HK2.out; omega⟩, ⟨bkl BK72001.out⟩, ⟨belS HB.out GE72001.out⟩⟩
                  · replace c13 := Bool.eq_false_iff.mpr c13
                    subst c13
                    have H1 : (some (x4_2, 2)) = some (r1, r2) := by rw [if_neg (show ¬ (false = true) by decide)] at H; exact H
                    clear H
                    have H := H1
                    clear H1
                    simp only [Option.some.injEq, Prod.mk.injEq] at H
                    obtain ⟨rfl, rfl⟩ := H
                    have hcz15_0 : wr.cell? ⟨gb72001, 0, none⟩ = some (.slice A0_0 l0_0.length c0_0) := (blk_cell BK72001.out 0).trans rfl
                    have hcz15_1 : wr.cell? ⟨gb72001, 1, none⟩ = some (.slice A0_1 l0_1.length c0_1) := (blk_cell BK72001.out 1).trans rfl
                    have hfz15_0 := blk_frozen BK72001.out 0
                    have hfz15_1 := blk_frozen BK72001.out 1
                    have p72002 : 0 ≤ (x4_2 : Int) := of_decide_eq_true asm_
                    have q72002 : x4_2 < (l0_0.length : Int) := of_decide_eq_true asm_
                    obtain ⟨ad72002, e72002, hx72002_0, hx72002_1⟩ := at_T112 HR0_0.out x4_2 p72002 q72002
                    cases e72002
                    replace hx72002_0 := (HB.out.cell (World.block_lt_of_cell? w _ hx72002_0)).trans hx72002_0
                    replace hx72002_1 := (HB.out.cell (World.block_lt_of_cell? w _ hx72002_1)).trans hx72002_1
                    replace p72002 := eq_true p72002
                    replace q72002 := eq_true q72002
                    go_wp2_with (first | ((with_reducible refine gate_callee (f := 15) rfl ?_); refine goesL_ (some 29) rfl rfl Try.func15 (by kernel_rfl) rfl #[.int .i64 ((rd_T112 l0_0 x4_2).f0), .int .i64 0, .int .i64 1000000] rfl mpa ?_; (with_reducible refine (guidevanebase_Within.calls ((rd_T112 l0_0 x4_2).f0) 0 1000000 true _ A10.out).mono ?_); rintro e w' ⟨rfl, ⟨nd, rfl⟩⟩; refine ⟨_, rfl, ?_⟩; have p72004 : 0 ≤ (x4_2 : Int) := of_decide_eq_true asm_; have q72004 : x4_2 < (l0_0.length : Int) := of_decide_eq_true asm_; obtain ⟨ad72004, e72004, hx72004_0, hx72004_1⟩ := at_T112 HR0_0.out x4_2 p72004 q72004; obtain rfl : ad72002 = ad72004 := (by injection e72004); replace hx72004_0 := (HB.out.cell (World.block_lt_of_cell? w _ hx72004_0)).trans hx72004_0; replace hx72004_1 := (HB.out.cell (World.block_lt_of_cell? w _ hx72004_1)).trans hx72004_1; replace p72004 := eq_true p72004; replace q72004 := eq_true q72004) | (go_at_call 15; (with_reducible refine (guidevanebase_Within.calls ((rd_T112 l0_0 x4_2).f1) 0 1000000 false _ A12.out).mono ?_); rintro e w' ⟨rfl, ⟨nd, rfl⟩⟩))
                    go_ret2
                    exact ⟨by first | rfl | (simp [errW_none, errW_some] <;> rfl) | (simp [*, errW_none, errW_some] <;> rfl), belS HB.out GE72001.out⟩
                · replace c11 := Bool.eq_false_iff.mpr c11
                  subst c11
                  have H1 : (some (x4_2, 2)) = some (r1, r2) := by rw [if_neg (show ¬ (false = true) by decide)] at H; exact H
                  clear H
                  have H := H1
                  clear H1
                  simp only [Option.some.injEq, Prod.mk.injEq] at H
                  obtain ⟨rfl, rfl⟩ := H
                  have hcz16_0 : wr.cell? ⟨gb72001, 0, none⟩ = some (.slice A0_0 l0_0.length c0_0) := (blk_cell BK72001.out 0).trans rfl
                  have hcz16_1 : wr.cell? ⟨gb72001, 1, none⟩ = some (.slice A0_1 l0_1.length c0_1) := (blk_cell BK72001.out 1).trans rfl
                  have hfz16_0 := blk_frozen BK72001.out 0
                  have hfz16_1 := blk_frozen BK72001.out 1
                  have p72002 : 0 ≤ (x4_2 : Int) := of_decide_eq_true asm_
                  have q72002 : x4_2 < (l0_0.length : Int) := of_decide_eq_true asm_
                  obtain ⟨ad72002, e72002, hx72002_0, hx72002_1⟩ := at_T112 HR0_0.out x4_2 p72002 q72002
                  cases e72002
                  replace hx72002_0 := (HB.out.cell (World.block_lt_of_cell? w _ hx72002_0)).trans hx72002_0
                  replace hx72002_1 := (HB.out.cell (World.block_lt_of_cell? w _ hx72002_1)).trans hx72002_1
                  replace p72002 := eq_true p72002
                  replace q72002 := eq_true q72002
                  go_wp2_with (first | ((with_reducible refine gate_callee (f := 15) rfl ?_); refine goesL_ (some 29) rfl rfl Try.func15 (by kernel_rfl) rfl #[.int .i64 ((rd_T112 l0_0 x4_2).f0), .int .i64 0, .int .i64 1000000] rfl mpa ?_; (with_reducible refine (guidevanebase_Within.calls ((rd_T112 l0_0 x4_2).f0) 0 1000000 false _ A10.out).mono ?_); rintro e w' ⟨rfl, ⟨nd, rfl⟩⟩; refine ⟨_, rfl, ?_⟩))
                  go_ret2
                  exact ⟨by first | rfl | (simp [errW_none, errW_some] <;> rfl) | (simp [*, errW_none, errW_some] <;> rfl), belS HB.out GE72001.out⟩
              · rw [if_neg c9] at H
                exact absurd H (by simp)
            · rw [if_neg c8] at H
              have c8b0 : decide (x4_2 < (l0_0.length : Int)) = false := decide_eq_false c8
              clear c8
              have H' := Aside0.mk H
              clear H
              have hcz17_0 : wr.cell? ⟨gb72001, 0, none⟩ = some (.slice A0_0 l0_0.length c0_0) := (blk_cell BK72001.out 0).trans rfl
              have hcz17_1 : wr.cell? ⟨gb72001, 1, none⟩ = some (.slice A0_1 l0_1.length c0_1) := (blk_cell BK72001.out 1).trans rfl
              have hfz17_0 := blk_frozen BK72001.out 0
              have hfz17_1 := blk_frozen BK72001.out 1
              go_wp2
              go_loopg [5] k2 (fun kq v5 w' => ∃ (x5_3 : Int), v5 = .int .i64 x5_3 ∧ Aside0 (guidevaneref09_CheckValley.l1 kq x5_3 l0_0 l0_1 = some (r1, r2)) ∧ Aside0 (kq ≤ k2) ∧ Aside0 (w'.heap[gb72001]? = some (.cells #[(.slice A0_0 l0_0.length c0_0), (.slice A0_1 l0_1.length c0_1)] 39 (0, 0))) ∧ Aside0 (Below w.heap.size w w'))
              case atStart => exact ⟨(0), (by first | rfl | (simp; done) | (simp [*]; done)), H', ⟨Nat.le_refl _⟩, ⟨bkl BK72001.out⟩, ⟨belS HB.out GE72001.out⟩⟩
              case round =>
                clear H'
                try clear c1
                try clear c2
                try clear p2
                try clear c4
                try clear c4b0
                try clear c4b1
                try clear p6
                try clear c7
                try clear p7
                try clear q7
                try clear hx7
                try clear c8
                try clear c8b0
                try clear c9
                try clear c9b0
                try clear c11
                try clear c13
                try clear c15
                try clear hcz14_0
                try clear hcz14_1
                try clear hcz15_0
                try clear hcz15_1
                try clear hcz16_0
                try clear hcz16_1
                try clear hcz17_0
                try clear hcz17_1
                try clear hcz5_0
                try clear hcz5_1
                try clear hcz6_0
                try clear hcz6_1
                try clear hfz14_0
                try clear hfz14_1
                try clear hfz15_0
                try clear hfz15_1
                try clear hfz16_0
                try clear hfz16_1
                try clear hfz17_0
                try clear hfz17_1
                try clear hfz5_0
                try clear hfz5_1
                try clear hfz6_0
                try clear hfz6_1
                try clear hx72002_0
                try clear hx72002_1
                try clear hx72004_0
                try clear hx72004_1
                try clear p2
                try clear p72002
                try clear p72004
                try clear q72002
                try clear q72004
                obtain ⟨x5_3, rfl, HA, HK3, BK72001, HB⟩ := hrel
                cases gk with
                | zero => exact absurd HA.out (by simp [guidevaneref09_CheckValley.l1])
                | succ k3 =>
                  have H := HA.out
                  clear HA
                  simp only [guidevaneref09_CheckValley.l1] at H
                  by_cases c18 : x5_3 < (l0_1.length : Int)
                  · rw [if_pos c18] at H
                    have c18b0 : decide (x5_3 < (l0_1.length : Int)) = true := decide_eq_true c18
                    clear c18
                    by_cases c19 : 0 ≤ x5_3
                    · rw [if_pos c19] at H
                      have c19b0 : decide (0 ≤ x5_3) = true := decide_eq_true c19
                      clear c19
                      replace H := Option.bind_eq_some_iff.mp H
                      obtain ⟨t72007, A200, H⟩ := H
                      replace H : (if t72007 = true then (guidevaneref09_CheckValley.l1 k3 (wrap64 (x5_3 + 1)) l0_0 l0_1) else (some (x5_3, 2))) = some (r1, r2) := H
                      have A20 := Aside0.mk A200
                      clear A200
                      by_cases c21 : t72007 = true
                      · subst c21
                        have H1 : (guidevaneref09_CheckValley.l1 k3 (wrap64 (x5_3 + 1)) l0_0 l0_1) = some (r1, r2) := by rw [if_pos rfl] at H; exact H
                        clear H
                        have H := H1
                        clear H1
                        have H' := Aside0.mk H
                        clear H
                        have hcz22_0 : wr.cell? ⟨gb72001, 0, none⟩ = some (.slice A0_0 l0_0.length c0_0) := (blk_cell BK72001.out 0).trans rfl
                        have hcz22_1 : wr.cell? ⟨gb72001, 1, none⟩ = some (.slice A0_1 l0_1.length c0_1) := (blk_cell BK72001.out 1).trans rfl
                        have hfz22_0 := blk_frozen BK72001.out 0
                        have hfz22_1 := blk_frozen BK72001.out 1
                        have p72006 : 0 ≤ (x5_3 : Int) := of_decide_eq_true asm_
                        have q72006 : x5_3 < (l0_1.length : Int) := of_decide_eq_true asm_
                        obtain ⟨ad72006, e72006, hx72006_0⟩ := Kd.at_int HR0_1.out x5_3 p72006 q72006
                        cases e72006
                        replace hx72006_0 := (HB.out.cell (World.block_lt_of_cell? w _ hx72006_0)).trans hx72006_0
                        replace p72006 := eq_true p72006
                        replace q72006 := eq_true q72006
                        go_wp2_with (first | ((with_reducible refine gate_callee (f := 15) rfl ?_); refine goesL_ (some 54) rfl rfl Try.func15 (by kernel_rfl) rfl #[.int .i64 (rd l0_1 x5_3), .int .i64 0, .int .i64 1000000] rfl mpa ?_; (with_reducible refine (guidevanebase_Within.calls (rd l0_1 x5_3) 0 1000000 true _ A20.out).mono ?_); rintro e w' ⟨rfl, ⟨nd, rfl⟩⟩; refine ⟨_, rfl, ?_⟩))
                        go_roundg k3
                        case measure => have := HJ1.out; have := HK2.out; have := HK3.out; omega
                        case rel => exact ⟨(wrap64 (x5_3 + 1)), (by first | rfl | (simp; done) | (simp [*]; done)), H', ⟨by have := HJ1.out; have := HK2.out; have := HK3.out; omega⟩, ⟨bkl BK72001.out⟩, ⟨belS HB.out GE72001.out⟩⟩
                      · replace c21 := Bool.eq_false_iff.mpr c21
                        subst c21
                        have H1 : (some (x5_3, 2)) = some (r1, r2) := by rw [if_neg (show ¬ (false = true) by decide)] at H; exact H
                        clear H
                        have H := H1
                        clear H1
                        simp only [Option.some.injEq, Prod.mk.injEq] at H
                        obtain ⟨rfl, rfl⟩ := H
                        have hcz23_0 : wr.cell? ⟨gb72001, 0, none⟩ = some (.slice A0_0 l0_0.length c0_0) := (blk_cell BK72001.out 0).trans rfl
                        have hcz23_1 : wr.cell? ⟨gb72001, 1, none⟩ = some (.slice A0_1 l0_1.length c0_1) := (blk_cell BK72001.out 1).trans rfl
                        have hfz23_0 := blk_frozen BK72001.out 0
                        have hfz23_1 := blk_frozen BK72001.out 1
                        have p72006 : 0 ≤ (x5_3 : Int) := of_decide_eq_true asm_
                        have q72006 : x5_3 < (l0_1.length : Int) := of_decide_eq_true asm_
                        obtain ⟨ad72006, e72006, hx72006_0⟩ := Kd.at_int HR0_1.out x5_3 p72006 q72006
                        cases e72006
                        replace hx72006_0 := (HB.out.cell (World.block_lt_of_cell? w _ hx72006_0)).trans hx72006_0
                        replace p72006 := eq_true p72006
                        replace q72006 := eq_true q72006
                        go_wp2_with (first | ((with_reducible refine gate_callee (f := 15) rfl ?_); refine goesL_ (some 54) rfl rfl Try.func15 (by kernel_rfl) rfl #[.int .i64 (rd l0_1 x5_3), .int .i64 0, .int .i64 1000000] rfl mpa ?_; (with_reducible refine (guidevanebase_Within.calls (rd l0_1 x5_3) 0 1000000 false _ A20.out).mono ?_); rintro e w' ⟨rfl, ⟨nd, rfl⟩⟩; refine ⟨_, rfl, ?_⟩))
                        go_ret2
                        exact ⟨by first | rfl | (simp [errW_none, errW_some] <;> rfl) | (simp [*, errW_none, errW_some] <;> rfl), belS HB.out GE72001.out⟩
                    · rw [if_neg c19] at H
                      exact absurd H (by simp)
                  · rw [if_neg c18] at H
                    have c18b0 : decide (x5_3 < (l0_1.length : Int)) = false := decide_eq_false c18
                    clear c18
                    simp only [Option.some.injEq, Prod.mk.injEq] at H
                    obtain ⟨rfl, rfl⟩ := H
                    have hcz24_0 : wr.cell? ⟨gb72001, 0, none⟩ = some (.slice A0_0 l0_0.length c0_0) := (blk_cell BK72001.out 0).trans rfl
                    have hcz24_1 : wr.cell? ⟨gb72001, 1, none⟩ = some (.slice A0_1 l0_1.length c0_1) := (blk_cell BK72001.out 1).trans rfl
                    have hfz24_0 := blk_frozen BK72001.out 0
                    have hfz24_1 := blk_frozen BK72001.out 1
                    go_wp2
                    go_ret2
                    exact ⟨by first | rfl | (simp [errW_none, errW_some] <;> rfl) | (simp [*, errW_none, errW_some] <;> rfl), belS HB.out GE72001.out⟩
end Go.Proofs.Yteopooljohdoiaa.Px
namespace Go.Proofs.Yteopooljohdoiaa.Px
open Go.RowKit Go.Proofs.YteopooljohdoiaaW.PrintWords Go.Proofs.YteopooljohdoiaaW.PrintLast Go.Proofs.YteopooljohdoiaaW.PrintMore
attribute [local go_sem] max2_int min2_int max_two min_two max_three min_three max_four min_four
def guidevaneref09_ValleyErr.f (k : Nat) (l0_0 : List (S112)) (l0_1 : List Int) : Option (Int) := (guidevaneref09_CheckValley.f k l0_0 l0_1).bind fun bt81002 => (some bt81002.2)
set_option maxHeartbeats 8000000 in
set_option maxRecDepth 100000 in
theorem guidevaneref09_ValleyErr.calls (k : Nat) (A0_0 : Option Addr) (c0_0 : Nat) (l0_0 : List (S112)) (A0_1 : Option Addr) (c0_1 : Nat) (l0_1 : List Int) (r : Int) (w : World) (hr0_0 : Kd.C k112 w A0_0 l0_0.length l0_0) (hc0_0 : l0_0.length ≤ c0_0) (hr0_1 : Kd.C (Kd.int .i64) w A0_1 l0_1.length l0_1) (hc0_1 : l0_1.length ≤ c0_1) (h : guidevaneref09_ValleyErr.f k l0_0 l0_1 = some r) :
    Calls Try.prog 27 #[.agg #[.slice A0_0 l0_0.length c0_0, .slice A0_1 l0_1.length c0_1]] w fun e w' => e = .returned (.int .i64 r) ∧ Below w.heap.size w w' := by
  have hu39 := Try.underlying39
  have HR0_0 := Aside0.mk hr0_0
  have HC0_0 := Aside0.mk hc0_0
  clear hr0_0 hc0_0
  have HR0_1 := Aside0.mk hr0_1
  have HC0_1 := Aside0.mk hc0_1
  clear hr0_1 hc0_1
  have HB := Aside0.mk (Below.refl w.heap.size w)
  have H : ((guidevaneref09_CheckValley.f k l0_0 l0_1).bind fun bt81002 => (some bt81002.2)) = some r := h
  clear h
  replace H := Option.bind_eq_some_iff.mp H
  obtain ⟨⟨t81002, t81003⟩, A20, H⟩ := H
  replace H : (some t81003) = some r := H
  have A2 := Aside0.mk A20
  clear A20
  obtain rfl := Option.some.inj H
  go_enter Try.func27, Try.ntmps27
  go_wp2_with (first | ((with_reducible refine gate_dst (N := 1) rfl ?_); refine box_event ?hg (N := 1) ?hd (cs := #[.slice A0_0 l0_0.length c0_0, .slice A0_1 l0_1.length c0_1]) (t := 39) ?hr ?_; (case hd => rfl); (case hg => rfl); (case hr => first | (go_simp; done) | (go_simp; rfl)); intro gb81001 hg w3 hbox hb; have n0_ := Aside0.mk (below_step (bel HB.out) hb); have n1_ := Aside0.mk (hbox); have n2_ := Aside0.mk ((by rw [hg]; exact (below_size (bel HB.out)) : w.heap.size ≤ gb81001)); have n3_ := Aside0.mk ((by rw [hg]; exact (below_size (bel HB.out)) : w.heap.size ≤ gb81001)); clear HB; have HB := n0_; have BK81001 := n1_; have GW81001 := n2_; have GE81001 := n3_; clear n0_ n1_ n2_ n3_; clear hb hbox hg; have hcz4_0 : w3.cell? ⟨gb81001, 0, none⟩ = some (.slice A0_0 l0_0.length c0_0) := (blk_cell BK81001.out 0).trans rfl; have hcz4_1 : w3.cell? ⟨gb81001, 1, none⟩ = some (.slice A0_1 l0_1.length c0_1) := (blk_cell BK81001.out 1).trans rfl; have hfz4_0 := blk_frozen BK81001.out 0; have hfz4_1 := blk_frozen BK81001.out 1) | ((with_reducible refine gate_callee (f := 24) rfl ?_); refine goesL_ (some 7) rfl rfl Try.func24 (by kernel_rfl) rfl #[.agg #[.slice A0_0 l0_0.length c0_0, .slice A0_1 l0_1.length c0_1]] rfl mpa ?_; (with_reducible refine (guidevaneref09_CheckValley.calls k _ _ l0_0 _ _ l0_1 t81002 t81003 _ ?side1 ?side2 ?side3 ?side4 A2.out).mono ?_); (case side1 => repeat (first | exact (Kd.C_below HR0_0.out HB.out) | (with_reducible refine Kd.C_alloc ?_ _) | (with_reducible refine Kd.C_drewN ?_ _) | (with_reducible refine Kd.C_drew ?_))); (case side2 => exact HC0_0.out); (case side3 => repeat (first | exact (Kd.C_below HR0_1.out HB.out) | (with_reducible refine Kd.C_alloc ?_ _) | (with_reducible refine Kd.C_drewN ?_ _) | (with_reducible refine Kd.C_drew ?_))); (case side4 => exact HC0_1.out); rintro e w5 ⟨rfl, hb⟩; refine ⟨_, rfl, ?_⟩; have n0_ := Aside0.mk (blk_below (g := gb81001) (o := .cells #[.slice A0_0 l0_0.length c0_0, .slice A0_1 l0_1.length c0_1] 39 (0, 0)) (bkl BK81001.out) hb); have n1_ := Aside0.mk (below_step (belS HB.out GE81001.out) hb); clear BK81001; clear HB; have BK81001 := n0_; have HB := n1_; clear n0_ n1_; (try clear hb); (try clear hb2); (try clear hk); (try clear hi)))
  go_ret
  exact ⟨by first | rfl | (simp [errW_none, errW_some] <;> rfl) | (simp [*, errW_none, errW_some] <;> rfl), belS HB.out GE81001.out⟩
def guidevanelaw09_lightValley.f (k : Nat) (l0_0 : List (S112)) (l0_1 : List Int) : Option (Bool) := if (l0_0.length : Int) ≤ 9 then (some true) else ((guidevaneref09_ValleyErr.f k l0_0 l0_1).bind fun t57002 => (some (t57002 != 0)))
set_option maxHeartbeats 8000000 in
set_option maxRecDepth 100000 in
theorem guidevanelaw09_lightValley.calls (k : Nat) (A0_0 : Option Addr) (c0_0 : Nat) (l0_0 : List (S112)) (A0_1 : Option Addr) (c0_1 : Nat) (l0_1 : List Int) (r : Bool) (w : World) (hr0_0 : Kd.C k112 w A0_0 l0_0.length l0_0) (hc0_0 : l0_0.length ≤ c0_0) (hr0_1 : Kd.C (Kd.int .i64) w A0_1 l0_1.length l0_1) (hc0_1 : l0_1.length ≤ c0_1) (h : guidevanelaw09_lightValley.f k l0_0 l0_1 = some r) :
    Calls Try.prog 19 #[.agg #[.slice A0_0 l0_0.length c0_0, .slice A0_1 l0_1.length c0_1]] w fun e w' => e = .returned (.bool r) ∧ Below w.heap.size w w' := by
  have hu39 := Try.underlying39
  have HR0_0 := Aside0.mk hr0_0
  have HC0_0 := Aside0.mk hc0_0
  clear hr0_0 hc0_0
  have HR0_1 := Aside0.mk hr0_1
  have HC0_1 := Aside0.mk hc0_1
  clear hr0_1 hc0_1
  have HB := Aside0.mk (Below.refl w.heap.size w)
  have H : (if (l0_0.length : Int) ≤ 9 then (some true) else ((guidevaneref09_ValleyErr.f k l0_0 l0_1).bind fun t57002 => (some (t57002 != 0)))) = some r := h
  clear h
  by_cases c2 : (l0_0.length : Int) ≤ 9
  · rw [if_pos c2] at H
    have c2b0 : decide ((l0_0.length : Int) ≤ 9) = true := decide_eq_true c2
    have c2b1 : decide (l0_0.length ≤ 9) = true := decide_eq_true (by omega)
    clear c2
    obtain rfl := Option.some.inj H
    go_enter Try.func19, Try.ntmps19
    go_wp2_with (first | ((with_reducible refine gate_dst (N := 1) rfl ?_); refine box_event ?hg (N := 1) ?hd (cs := #[.slice A0_0 l0_0.length c0_0, .slice A0_1 l0_1.length c0_1]) (t := 39) ?hr ?_; (case hd => rfl); (case hg => rfl); (case hr => first | (go_simp; done) | (go_simp; rfl)); intro gb57001 hg w3 hbox hb; have n0_ := Aside0.mk (below_step (bel HB.out) hb); have n1_ := Aside0.mk (hbox); have n2_ := Aside0.mk ((by rw [hg]; exact (below_size (bel HB.out)) : w.heap.size ≤ gb57001)); have n3_ := Aside0.mk ((by rw [hg]; exact (below_size (bel HB.out)) : w.heap.size ≤ gb57001)); clear HB; have HB := n0_; have BK57001 := n1_; have GW57001 := n2_; have GE57001 := n3_; clear n0_ n1_ n2_ n3_; clear hb hbox hg; have hcz4_0 : w3.cell? ⟨gb57001, 0, none⟩ = some (.slice A0_0 l0_0.length c0_0) := (blk_cell BK57001.out 0).trans rfl; have hcz4_1 : w3.cell? ⟨gb57001, 1, none⟩ = some (.slice A0_1 l0_1.length c0_1) := (blk_cell BK57001.out 1).trans rfl; have hfz4_0 := blk_frozen BK57001.out 0; have hfz4_1 := blk_frozen BK57001.out 1))
    go_ret
    exact ⟨by first | rfl | (simp [errW_none, errW_some] <;> rfl) | (simp [*, errW_none, errW_some] <;> rfl), belS HB.out GE57001.out⟩
  · rw [if_neg c2] at H
    have c2b0 : decide ((l0_0.length : Int) ≤ 9) = false := decide_eq_false c2
    have c2b1 : decide (l0_0.length ≤ 9) = false := decide_eq_false (by omega)
    clear c2
    replace H := Option.bind_eq_some_iff.mp H
    obtain ⟨t57002, A50, H⟩ := H
    replace H : (some (t57002 != 0)) = some r := H
    have A5 := Aside0.mk A50
    clear A50
    obtain rfl := Option.some.inj H
    go_enter Try.func19, Try.ntmps19
    go_wp2_with (first | ((with_reducible refine gate_dst (N := 1) rfl ?_); refine box_event ?hg (N := 1) ?hd (cs := #[.slice A0_0 l0_0.length c0_0, .slice A0_1 l0_1.length c0_1]) (t := 39) ?hr ?_; (case hd => rfl); (case hg => rfl); (case hr => first | (go_simp; done) | (go_simp; rfl)); intro gb57001 hg w6 hbox hb; have n0_ := Aside0.mk (below_step (bel HB.out) hb); have n1_ := Aside0.mk (hbox); have n2_ := Aside0.mk ((by rw [hg]; exact (below_size (bel HB.out)) : w.heap.size ≤ gb57001)); have n3_ := Aside0.mk ((by rw [hg]; exact (below_size (bel HB.out)) : w.heap.size ≤ gb57001)); clear HB; have HB := n0_; have BK57001 := n1_; have GW57001 := n2_; have GE57001 := n3_; clear n0_ n1_ n2_ n3_; clear hb hbox hg; have hcz7_0 : w6.cell? ⟨gb57001, 0, none⟩ = some (.slice A0_0 l0_0.length c0_0) := (blk_cell BK57001.out 0).trans rfl; have hcz7_1 : w6.cell? ⟨gb57001, 1, none⟩ = some (.slice A0_1 l0_1.length c0_1) := (blk_cell BK57001.out 1).trans rfl; have hfz7_0 := blk_frozen BK57001.out 0; have hfz7_1 := blk_frozen BK57001.out 1) | (go_at_call 27; (with_reducible refine (guidevaneref09_ValleyErr.calls k _ _ l0_0 _ _ l0_1 t57002 _ ?side1 ?side2 ?side3 ?side4 A5.out).mono ?_); (case side1 => repeat (first | exact (Kd.C_below HR0_0.out HB.out) | (with_reducible refine Kd.C_alloc ?_ _) | (with_reducible refine Kd.C_drewN ?_ _) | (with_reducible refine Kd.C_drew ?_))); (case side2 => exact HC0_0.out); (case side3 => repeat (first | exact (Kd.C_below HR0_1.out HB.out) | (with_reducible refine Kd.C_alloc ?_ _) | (with_reducible refine Kd.C_drewN ?_ _) | (with_reducible refine Kd.C_drew ?_))); (case side4 => exact HC0_1.out); rintro e w8 ⟨rfl, hb⟩; have n0_ := Aside0.mk (blk_below (g := gb57001) (o := .cells #[.slice A0_0 l0_0.length c0_0, .slice A0_1 l0_1.length c0_1] 39 (0, 0)) (bkl BK57001.out) hb); have n1_ := Aside0.mk (below_step (belS HB.out GE57001.out) hb); clear BK57001; clear HB; have BK57001 := n0_; have HB := n1_; clear n0_ n1_; (try clear hb); (try clear hb2); (try clear hk); (try clear hi)))
    go_ret
    exact ⟨by first | rfl | (simp [errW_none, errW_some] <;> rfl) | (simp [*, errW_none, errW_some] <;> rfl), belS HB.out GE57001.out⟩
def guidevaneref09_CopyValley.f (l0_0 : List (S112)) (l0_1 : List Int) : Option ((List (S112)) × List Int) := (some (([] : List (S112)) : List (S112))).bind fun y63003 => (if y63003.length + l0_0.length < 8796093022208 then ((guidevanebase_CopyInts.f l0_1).bind fun t63009 => (some ((y63003 ++ l0_0), t63009))) else (none))
def guidevaneref09_CopyValley.T1 : Bool × List (List Nat × List Nat) := (true, [([], []), ([], []), ([1], [1]), ([0, 2], [0, 2]), ([], []), ([4], [4]), ([5, 3], [5]), ([3, 6], [3, 6]), ([7, 6, 0, 1, 2, 3, 4, 5, 6, 7], [7])])
def guidevaneref09_CopyValley.B1 : List Nat := [0, 0, 2, 7, 0, 16, 63, 127, 255]
theorem guidevaneref09_CopyValley.tab1 : rtab .any (opsOf Try.f21 1) = guidevaneref09_CopyValley.T1 := by kernel_rfl
theorem guidevaneref09_CopyValley.bits1 : waitsOk guidevaneref09_CopyValley.T1.2 guidevaneref09_CopyValley.B1 = true := by kernel_rfl
set_option maxHeartbeats 8000000 in
set_option maxRecDepth 100000 in
theorem guidevaneref09_CopyValley.calls (A0_0 : Option Addr) (c0_0 : Nat) (l0_0 : List (S112)) (A0_1 : Option Addr) (c0_1 : Nat) (l0_1 : List Int) (r1 : List (S112)) (r2 : List Int) (w : World) (hr0_0 : Kd.C k112 w A0_0 l0_0.length l0_0) (hc0_0 : l0_0.length ≤ c0_0) (hr0_1 : Kd.C (Kd.int .i64) w A0_1 l0_1.length l0_1) (hc0_1 : l0_1.length ≤ c0_1) (h : guidevaneref09_CopyValley.f l0_0 l0_1 = some (r1, r2)) :
    Calls Try.prog 21 #[.agg #[.slice A0_0 l0_0.length c0_0, .slice A0_1 l0_1.length c0_1]] w fun e w' => ∃ v0_ v1_ : Value, e = .returned (.agg #[v0_, v1_]) ∧ Kd.R k112 112 w' w.heap.size (fun _ => True) v0_ r1 ∧ Kd.R (Kd.int .i64) 3 w' w.heap.size (fun _ => True) v1_ r2 ∧ Below w.heap.size w w' := by
  have hu39 := Try.underlying39
  have HR0_0 := Aside0.mk hr0_0
  have HC0_0 := Aside0.mk hc0_0
  clear hr0_0 hc0_0
  have HR0_1 := Aside0.mk hr0_1
  have HC0_1 := Aside0.mk hc0_1
  clear hr0_1 hc0_1
  have HB := Aside0.mk (Below.refl w.heap.size w)
  have H : ((some (([] : List (S112)) : List (S112))).bind fun y63003 => (if y63003.length + l0_0.length < 8796093022208 then ((guidevanebase_CopyInts.f l0_1).bind fun t63009 => (some ((y63003 ++ l0_0), t63009))) else (none))) = some (r1, r2) := h
  clear h
  obtain ⟨y63003, hy63003⟩ : ∃ y_ : List (S112), y_ = (([] : List (S112))) := ⟨_, rfl⟩
  replace H : (if y63003.length + l0_0.length < 8796093022208 then ((guidevanebase_CopyInts.f l0_1).bind fun t63009 => (some ((y63003 ++ l0_0), t63009))) else (none)) = some (r1, r2) := by first | (rw [hy63003]; with_reducible exact H) | (have H2_ := (Option.bind_some _ _).symm.trans H; rw [hy63003]; with_reducible exact H2_) | (have H2_ := (Option.bind_some _ _).symm.trans H; with_reducible exact H2_) | with_reducible exact H | (rw [hy63003]; exact H) | exact H
  have Ny63003 := Aside0.mk hy63003
  clear hy63003
  by_cases c2 : y63003.length + l0_0.length < 8796093022208
  · rw [if_pos c2] at H
    have LMc2 := Aside0.mk c2
    clear c2
    obtain ⟨y63006, hy63006⟩ : ∃ y_ : List (S112), y_ = (y63003 ++ l0_0) := ⟨_, rfl⟩
    replace H : ((guidevanebase_CopyInts.f l0_1).bind fun t63009 => (some (y63006, t63009))) = some (r1, r2) := by first | (rw [hy63006]; with_reducible exact H) | (have H2_ := (Option.bind_some _ _).symm.trans H; rw [hy63006]; with_reducible exact H2_) | (have H2_ := (Option.bind_some _ _).symm.trans H; with_reducible exact H2_) | with_reducible exact H | (rw [hy63006]; exact H) | exact H
    have Ny63006 := Aside0.mk hy63006
    clear hy63006
    replace H := Option.bind_eq_some_iff.mp H
    obtain ⟨t63009, A30, H⟩ := H
    replace H : (some (y63006, t63009)) = some (r1, r2) := H
    have A3 := Aside0.mk A30
    clear A30
    simp only [Option.some.injEq, Prod.mk.injEq] at H
    obtain ⟨rfl, rfl⟩ := H
    go_enter Try.func21, Try.ntmps21
    try go_wp2_with (first | ((with_reducible refine gate_dst (N := 1) rfl ?_); refine box_event ?hg (N := 1) ?hd (cs := #[.slice A0_0 l0_0.length c0_0, .slice A0_1 l0_1.length c0_1]) (t := 39) ?hr ?_; (case hd => rfl); (case hg => rfl); (case hr => first | (go_simp; done) | (go_simp; rfl)); intro gb63001 hg w4 hbox hb; have n0_ := Aside0.mk (below_step (bel HB.out) hb); have n1_ := Aside0.mk (hbox); have n2_ := Aside0.mk ((by rw [hg]; exact (below_size (bel HB.out)) : w.heap.size ≤ gb63001)); have n3_ := Aside0.mk ((by rw [hg]; exact (below_size (bel HB.out)) : w.heap.size ≤ gb63001)); clear HB; have HB := n0_; have BK63001 := n1_; have GW63001 := n2_; have GE63001 := n3_; clear n0_ n1_ n2_ n3_; clear hb hbox hg) | ((with_reducible refine gate_dst (N := 2) rfl ?_); refine box_event ?hg (N := 2) ?hd (cs := #[.slice none 0 0, .slice none 0 0]) (t := 39) ?hr ?_; (case hd => rfl); (case hg => rfl); (case hr => first | (go_simp; done) | (go_simp; rfl)); intro gb63002 hg w5 hbox hb; have n0_ := Aside0.mk (blk_below (g := gb63001) (o := .cells #[.slice A0_0 l0_0.length c0_0, .slice A0_1 l0_1.length c0_1] 39 (0, 0)) (bkl BK63001.out) hb); have n1_ := Aside0.mk (below_step (belS HB.out GE63001.out) hb); have n2_ := Aside0.mk (hbox); have n3_ := Aside0.mk ((by rw [hg]; exact (below_size (belS HB.out GE63001.out)) : w.heap.size ≤ gb63002)); have n4_ := Aside0.mk ((by rw [hg]; exact (below_size (belS HB.out GE63001.out)) : w.heap.size ≤ gb63002)); have n5_ := Aside0.mk ((by rw [hg]; exact Nat.ne_of_lt (blk_lt (g := gb63001) (o := .cells #[.slice A0_0 l0_0.length c0_0, .slice A0_1 l0_1.length c0_1] 39 (0, 0)) (bkl BK63001.out)) : gb63001 ≠ gb63002)); have n6_ := Aside0.mk ((by rw [hg]; exact Nat.ne_of_gt (blk_lt (g := gb63001) (o := .cells #[.slice A0_0 l0_0.length c0_0, .slice A0_1 l0_1.length c0_1] 39 (0, 0)) (bkl BK63001.out)) : gb63002 ≠ gb63001)); clear BK63001; clear HB; have BK63001 := n0_; have HB := n1_; have BK63002 := n2_; have GW63002 := n3_; have GE63002 := n4_; have NB63001_63002 := n5_; have NB63002_63001 := n6_; clear n0_ n1_ n2_ n3_ n4_ n5_ n6_; clear hb hbox hg))
    have n0_ := Aside0.mk (blk_drew BK63001.out)
    have n1_ := Aside0.mk (blk_drew BK63002.out)
    have n2_ := Aside0.mk (below_drew1 HB.out)
    clear BK63001
    clear BK63002
    clear HB
    have BK63001 := n0_
    have BK63002 := n1_
    have HB := n2_
    clear n0_ n1_ n2_
    refine start_ (n := 9) (S := fun w' => w'.cell? ⟨gb63001, 0, none⟩ = some (.slice A0_0 l0_0.length c0_0) ∧ w'.cell? ⟨gb63001, 1, none⟩ = some (.slice A0_1 l0_1.length c0_1)) (ds := []) #[false, false, false, false, false, false, false, false, false] (by kernel_rfl) rfl rfl ⟨(blk_cell BK63001.out 0).trans rfl, (blk_cell BK63001.out 1).trans rfl⟩ (fun hHeld => ?_); refine with_tabW guidevaneref09_CopyValley.tab1 guidevaneref09_CopyValley.bits1 (fun HT_ HW_ => ?_)
    generalize w5.drew = w6 at BK63001 BK63002 HB hHeld ⊢
    refine pure_ (i := 1) (N := some 4) (v := ?_) (a' := ?_) #[false, true, false, false, false, false, false, false, false] rfl rfl (any_of HT_.out (by kernel_rfl)) (fun _ _ _ h => h) (Or.inl ⟨by rfl, ?_⟩) ?_ ?_
    rotate_left
    · intro w'
      go_simp
      with_reducible rfl
    rotate_left
    · simp only [Act.put, List.setIfInBounds_toArray, List.set_cons_zero, List.set_cons_succ, i64_w, i32_w]
      rfl
    refine pure_ (i := 4) (N := some 7) (v := ?_) (a' := ?_) #[false, true, false, false, true, false, false, false, false] rfl rfl (any_of HT_.out (by kernel_rfl)) (fun _ _ _ h => h) (Or.inl ⟨by rfl, ?_⟩) ?_ ?_
    rotate_left
    · intro w'
      go_simp
      with_reducible rfl
    rotate_left
    · simp only [Act.put, List.setIfInBounds_toArray, List.set_cons_zero, List.set_cons_succ, i64_w, i32_w]
      rfl
    refine take_ (i := 2) (N := some 5) (v := ?_) (a' := ?_) #[false, true, true, false, true, false, false, false, false] rfl rfl (take_ofW HT_.out HW_.out (by kernel_rfl)) (fun _ _ _ h => h) (Or.inl ⟨by rfl, ?_⟩) hHeld ?_ ?_
    rotate_left
    · rintro w' ⟨s0, s1⟩
      go_simp
      with_reducible rfl
    rotate_left
    · simp only [Act.put, List.setIfInBounds_toArray, List.set_cons_zero, List.set_cons_succ, i64_w, i32_w]
      rfl
    refine take_ (i := 5) (N := some 8) (v := ?_) (a' := ?_) #[false, true, true, false, true, true, false, false, false] rfl rfl (take_ofW HT_.out HW_.out (by kernel_rfl)) (fun _ _ _ h => h) (Or.inl ⟨by rfl, ?_⟩) hHeld ?_ ?_
    rotate_left
    · rintro w' ⟨s0, s1⟩
      go_simp
      with_reducible rfl
    rotate_left
    · simp only [Act.put, List.setIfInBounds_toArray, List.set_cons_zero, List.set_cons_succ, i64_w, i32_w]
      rfl
    refine one_ (i := 0) (N := some 3) #[true, true, true, false, true, true, false, false, false] rfl rfl (one_of HT_.out (by kernel_rfl)) (by decide) (fun K hK => ?_)
    refine Kd.R_lit_step k112 _ 112 ?hg (N := 3) ?hd (xs := ([] : List (S112))) (inner := []) (ok := fun _ => True) (okp := fun _ => True) ?hr ?hp (fun _ hk => hk) trivial (Below.refl _ _) (Nat.le_refl _) (by simp) ?_; (case hd => rfl); (case hg => rfl); (case hr => first | (go_simp; done) | (go_simp; rfl)); (case hp => exact (Reps.none _ _))
    intro v63004 w7 ho8 hb hg_ hnew_
    clear hg_ hnew_
    (first | rw [← Ny63003.out] at ho8 | (simp only [Int.reduceToNat] at ho8; rw [← Ny63003.out] at ho8))
    have n0_ := Aside0.mk (Kd.R_lower ho8 (below_size (belT HB.out GE63001.out GE63002.out)))
    have n1_ := Aside0.mk (blk_below (g := gb63001) (o := .cells #[.slice A0_0 l0_0.length c0_0, .slice A0_1 l0_1.length c0_1] 39 (0, 0)) (bkl BK63001.out) hb)
    have n2_ := Aside0.mk (blk_below (g := gb63002) (o := .cells #[.slice none 0 0, .slice none 0 0] 39 (0, 0)) (bkl BK63002.out) hb)
    have n3_ := Aside0.mk (below_step (belT HB.out GE63001.out GE63002.out) hb)
    clear BK63001
    clear BK63002
    clear HB
    have HO63005 := n0_
    have BK63001 := n1_
    have BK63002 := n2_
    have HB := n3_
    clear n0_ n1_ n2_ n3_
    clear hb ho8
    refine hK.out _ _ ⟨(blk_cell BK63001.out 0).trans rfl, (blk_cell BK63001.out 1).trans rfl⟩ (fun hHeld => ?_)
    clear hK K
    refine norm_ (a' := ?_) ?_ ?_
    rotate_left
    · show Act.put _ (some 3) _ = _
      simp only [Act.put, List.setIfInBounds_toArray, List.set_cons_zero, List.set_cons_succ, i64_w, i32_w]
      rfl
    refine one_ (i := 3) (N := some 6) #[true, true, true, true, true, true, false, false, false] rfl rfl (one_of HT_.out (by kernel_rfl)) (by decide) (fun K hK => ?_)
    refine Kd.R_append_rows_step k112 (w0 := w) w.heap.size (by rfl) (.tmp 3) (.tmp 5) 37 112 (.agg #[(.int .i64 0), (.int .i64 0)]) 16 rfl Try.underlying37 info112 rfl (by decide) (by omega) v63004 y63003 l0_0 _ _ _ (fun _ => True) (fun _ => False) rfl rfl ?aO ?aR (fun _ _ h => h) (fun _ h => h.elim) ?aF ?aB ?aS ?aL ?_
    (case aR => repeat (first | exact (Kd.C_below HR0_0.out HB.out) | (with_reducible refine Kd.C_alloc ?_ _) | (with_reducible refine Kd.C_drewN ?_ _) | (with_reducible refine Kd.C_drew ?_)))
    (case aB => exact (belT HB.out GE63001.out GE63002.out))
    (case aF => exact (fun _ _ => trivial))
    (case aO => exact (krl HO63005.out))
    (case aS => exact (below_size (belT HB.out GE63001.out GE63002.out)))
    (case aL => have := LMc2.out; omega)
    intro v63007 w9 ho hb hg hat
    rw [← Ny63006.out] at ho
    have n0_ := Aside0.mk (blk_grown (g := gb63001) (o := .cells #[.slice A0_0 l0_0.length c0_0, .slice A0_1 l0_1.length c0_1] 39 (0, 0)) (bkl BK63001.out) hg (Kd.R_ne HO63005.out BK63001.out (by decide)))
    have n1_ := Aside0.mk (blk_grown (g := gb63002) (o := .cells #[.slice none 0 0, .slice none 0 0] 39 (0, 0)) (bkl BK63002.out) hg (Kd.R_ne HO63005.out BK63002.out (by decide)))
    have n2_ := Aside0.mk (hb)
    have n3_ := Aside0.mk (ho)
    clear BK63001
    clear BK63002
    clear HB
    clear HO63005
    have BK63001 := n0_
    have BK63002 := n1_
    have HB := n2_
    have HO63008 := n3_
    clear n0_ n1_ n2_ n3_
    clear ho hb hg hat
    refine hK.out _ _ ⟨(blk_cell BK63001.out 0).trans rfl, (blk_cell BK63001.out 1).trans rfl⟩ (fun hHeld => ?_)
    clear hK K
    refine norm_ (a' := ?_) ?_ ?_
    rotate_left
    · show Act.put _ (some 6) _ = _
      simp only [Act.put, List.setIfInBounds_toArray, List.set_cons_zero, List.set_cons_succ, i64_w, i32_w]
      rfl
    refine one_ (i := 6) (N := some 9) #[true, true, true, true, true, true, true, false, false] rfl rfl (one_of HT_.out (by kernel_rfl)) (by decide) (fun K hK => ?_)
    refine goes_ Try.func49 (by kernel_rfl) rfl #[.slice A0_1 l0_1.length c0_1] (by rfl) rfl rfl mpa ?_
    with_reducible refine (guidevanebase_CopyInts.calls _ _ l0_1 t63009 _ ?side1 ?side2 A3.out).mono ?_
    (case side1 => repeat (first | exact (Kd.C_below HR0_1.out HB.out) | (with_reducible refine Kd.C_alloc ?_ _) | (with_reducible refine Kd.C_drewN ?_ _) | (with_reducible refine Kd.C_drew ?_)))
    (case side2 => exact HC0_1.out)
    rintro e w10 ⟨v63010, rfl, ho0, hb⟩
    refine ⟨_, rfl, ?_⟩
    have n0_ := Aside0.mk (Kd.R_below (krl HO63008.out) hb)
    have n1_ := Aside0.mk (Kd.R_lower ho0 (below_size (belT HB.out GE63001.out GE63002.out)))
    have n2_ := Aside0.mk (blk_below (g := gb63001) (o := .cells #[.slice A0_0 l0_0.length c0_0, .slice A0_1 l0_1.length c0_1] 39 (0, 0)) (bkl BK63001.out) hb)
    have n3_ := Aside0.mk (blk_below (g := gb63002) (o := .cells #[.slice none 0 0, .slice none 0 0] 39 (0, 0)) (bkl BK63002.out) hb)
    have n4_ := Aside0.mk (below_step (belT HB.out GE63001.out GE63002.out) hb)
    clear HO63008
    clear BK63001
    clear BK63002
    clear HB
    have HO63008 := n0_
    have HO63011 := n1_
    have BK63001 := n2_
    have BK63002 := n3_
    have HB := n4_
    clear n0_ n1_ n2_ n3_ n4_
    (try clear hb)
    (try clear hb2)
    (try clear hk)
    (try clear hi)
    (try clear ho0)
    obtain ⟨Ao11, co11, eo11⟩ := Kd.R_slice HO63011.out
    (first | subst eo11 | (injection eo11 with f1_ f2_ f3_; have f4_ := f1_.symm; have f5_ := f3_.symm; clear f1_ f2_ f3_; subst f4_; subst f5_))
    obtain ⟨Ao12, co12, eo12⟩ := Kd.R_slice HO63008.out
    (first | subst eo12 | (injection eo12 with f1_ f2_ f3_; have f4_ := f1_.symm; have f5_ := f3_.symm; clear f1_ f2_ f3_; subst f4_; subst f5_))
    refine hK.out _ _ ⟨(blk_cell BK63001.out 0).trans rfl, (blk_cell BK63001.out 1).trans rfl⟩ (fun hHeld => ?_)
    clear hK K
    refine norm_ (a' := ?_) ?_ ?_
    rotate_left
    · show Act.put _ (some 9) _ = _
      simp only [Act.put, List.setIfInBounds_toArray, List.set_cons_zero, List.set_cons_succ, i64_w, i32_w]
      rfl
    refine pure_ (i := 7) (N := some 10) (v := ?_) (a' := ?_) #[true, true, true, true, true, true, true, true, false] rfl rfl (any_of HT_.out (by kernel_rfl)) (fun _ _ _ h => h) (Or.inl ⟨by rfl, ?_⟩) ?_ ?_
    rotate_left
    · intro w'
      go_simp
      with_reducible rfl
    rotate_left
    · simp only [Act.put, List.setIfInBounds_toArray, List.set_cons_zero, List.set_cons_succ, i64_w, i32_w]
      rfl
    refine one_ (i := 8) (N := none) #[true, true, true, true, true, true, true, true, true] rfl rfl (one_of HT_.out (by kernel_rfl)) (by decide) (fun K hK => ?_)
    have hs13 : w10.cell? ⟨gb63002, 0, none⟩ = some (.slice none 0 0) := (blk_cell BK63002.out 0).trans rfl
    have hfs13 := blk_frozen BK63002.out 0
    have hns13_0 := NB63001_63002.out
    have hms13_0 := NB63002_63001.out
    have hs14 : w10.cell? ⟨gb63002, 1, none⟩ = some (.slice none 0 0) := (blk_cell BK63002.out 1).trans rfl
    have hfs14 := blk_frozen BK63002.out 1
    have hns14_0 := NB63001_63002.out
    have hms14_0 := NB63002_63001.out
    refine skip_ (w1 := ?_) (by rfl) rfl ?_ ?_
    rotate_left
    · go_simp
      rfl
    refine hK.out _ _ ⟨((cell_far (p := ⟨gb63002, _, none⟩) NB63001_63002.out _).trans (((cell_far (p := ⟨gb63002, _, none⟩) NB63001_63002.out _).trans (hHeld.1)))), ((cell_far (p := ⟨gb63002, _, none⟩) NB63001_63002.out _).trans (((cell_far (p := ⟨gb63002, _, none⟩) NB63001_63002.out _).trans (hHeld.2))))⟩ (fun hHeld => ?_)
    clear hK K
    refine done_ (done_of HT_.out (by kernel_rfl)) ?_
    try go_wp2
    refine bodyPost_ret (results_cell_row rfl _ _ gb63002 39 #[.slice Ao12 y63006.length co12, .slice Ao11 t63009.length co11] (0, 0) _ rfl (by (with_reducible repeat (first | refine blk_drewN ?_ _ | refine blk_drew ?_ | refine blk_alloc ?_ _)); refine blk_put (cs := #[.slice Ao12 y63006.length co12, .slice none 0 0]) ?_ 1 _ rfl; (with_reducible repeat (first | refine blk_drewN ?_ _ | refine blk_drew ?_ | refine blk_alloc ?_ _)); refine blk_put (cs := #[.slice none 0 0, .slice none 0 0]) ?_ 0 _ rfl; (with_reducible repeat (first | refine blk_drewN ?_ _ | refine blk_drew ?_ | refine blk_alloc ?_ _)); exact BK63002.out) Try.underlying39 rfl (by kernel_rfl)) rfl ?_
    exact ⟨_, _, by first | rfl | (simp [errW_none, errW_some] <;> rfl) | (simp [*, errW_none, errW_some] <;> rfl), by (with_reducible repeat (first | apply Kd.R_alloc | apply Kd.R_drewN | apply Kd.R_drew)); exact Kd.R_mono (Kd.R_far (p := ⟨gb63002, 1, none⟩) (Kd.R_far (p := ⟨gb63002, 0, none⟩) (Kd.R_types HO63008.out BK63002.out (by decide)) (fun _ hk => hk.2) (.slice Ao12 y63006.length co12)) (fun _ hk => hk.2) (.slice Ao11 t63009.length co11)) (fun _ hk => trivial), by (with_reducible repeat (first | apply Kd.R_alloc | apply Kd.R_drewN | apply Kd.R_drew)); exact Kd.R_mono (Kd.R_far (p := ⟨gb63002, 1, none⟩) (Kd.R_far (p := ⟨gb63002, 0, none⟩) (Kd.R_types HO63011.out BK63002.out (by decide)) (fun _ hk => hk.2) (.slice Ao12 y63006.length co12)) (fun _ hk => hk.2) (.slice Ao11 t63009.length co11)) (fun _ hk => trivial), belT HB.out GE63001.out GE63002.out⟩
  · rw [if_neg c2] at H
    exact absurd H (by simp)
def dam_PackingOf.f (l0_0 : List S112) (l0_1 : List Int) : Option (List Int × Int) := dam_openValley.f l0_0 l0_1
set_option maxHeartbeats 8000000 in
set_option maxRecDepth 100000 in
theorem dam_PackingOf.calls (A0_0 : Option Addr) (c0_0 : Nat) (l0_0 : List S112) (A0_1 : Option Addr) (c0_1 : Nat) (l0_1 : List Int) (r1 : List Int) (r2 : Int) (w : World) (hr0_0 : Kd.C k112 w A0_0 l0_0.length l0_0) (hc0_0 : l0_0.length ≤ c0_0) (hr0_1 : Kd.C (Kd.int .i64) w A0_1 l0_1.length l0_1) (hc0_1 : l0_1.length ≤ c0_1) (h : dam_PackingOf.f l0_0 l0_1 = some (r1, r2)) :
    Calls Try.prog 23 #[.agg #[.slice A0_0 l0_0.length c0_0, .slice A0_1 l0_1.length c0_1]] w fun e w' => ∃ v0_ : Value, e = .returned (.tuple #[v0_, .int .i64 r2]) ∧ Kd.R (Kd.int .i64) 3 w' w.heap.size (fun _ => True) v0_ r1 ∧ Below w.heap.size w w' := by
  have hu := Try.underlying116
  have hu1 := Try.underlying39
  have HR0 := Aside0.mk hr0_0
  have HR1 := Aside0.mk hr0_1
  have HC := Aside0.mk (And.intro hc0_0 hc0_1)
  clear hr0_0 hr0_1 hc0_0 hc0_1
  have HOV := Aside0.mk (show dam_openValley.f l0_0 l0_1 = some (r1, r2) from h)
  clear h
  go_enter Try.func23, Try.ntmps23
  go_upto_region 1 with fail
  have hX := blk_new w (.cells #[.slice A0_0 l0_0.length c0_0, .slice A0_1 l0_1.length c0_1] 39)
  have hb1 := below_alloc (Below.refl _ w) (.cells #[.slice A0_0 l0_0.length c0_0, .slice A0_1 l0_1.length c0_1] 39)
  generalize w.alloc (.cells #[.slice A0_0 l0_0.length c0_0, .slice A0_1 l0_1.length c0_1] 39) = w1 at *
  have hx0 := (blk_cell hX 0).trans rfl
  have hx1 := (blk_cell hX 1).trans rfl
  have HB1 := Aside0.mk hb1
  clear hX hb1
  go_wp2_with (go_at_call 72; refine (dam_openValley.calls A0_0 c0_0 l0_0 A0_1 c0_1 l0_1 r1 r2 _ (Kd.C_below HR0.out HB1.out) HC.out.1 (Kd.C_below HR1.out HB1.out) HC.out.2 HOV.out).mono ?_; rintro e w2 ⟨v2, rfl, hR2, hb2⟩; have HR2 := Aside0.mk (Kd.R_lower hR2 HB1.out.size); have HB2 := Aside0.mk (below_step HB1.out hb2); clear hR2 hb2)
  refine bodyPost_ret (results_tmp2 rfl _ _ _) rfl ⟨_, rfl, ?_, ?_⟩
  · exact Kd.R_alloc HR2.out _
  · exact below_alloc HB2.out _
end Go.Proofs.Yteopooljohdoiaa.Px
