/- Contracts of the program's functions and plain words (part 4): each says what a call answers and that what lay in memory lies; no condition but what stands in each theorem -/
import Derived.Test.YteopooljohdoiaaWWords
import Derived.Test.YteopooljohdoiaaWLast
import Derived.ProofKit
import Derived.Deep.Slices
set_option linter.unusedVariables false
set_option linter.unusedSimpArgs false
namespace Go.Proofs.Yteopooljohdoiaa.Px
open Go.RowKit Go.Proofs.YteopooljohdoiaaW.PrintWords
def Opens {α : Type} (P : Program) (d : Kd α) (t : TypeId) (ok : α → Prop) : Prop :=
  ∀ {H : Type} (enc : TypeId × Value → H) (w : World) (fuel : Nat) (cs : List Value) (x : DataW H × List MemPlace), DataW.trod enc P w 0 (fun _ => true) true fuel t cs = some x → ∃ y, d.K w y cs ∧ ok y
theorem Opens.int {P : Program} {t : TypeId} {k : IntKind} (ht : P.underlying t = some (.int k)) : Opens P (Kd.int k) t (fun y => (Lit.int k y).wf = true) := by
  intro H enc w fuel cs x h
  cases fuel with
  | zero => simp [DataW.trod] at h
  | succ n =>
    unfold DataW.trod at h
    rw [ht] at h
    split at h <;> simp_all
    exact ⟨_, rfl, h.1.2⟩
theorem Opens.str {P : Program} {t : TypeId} (ht : P.underlying t = some .string) : Opens P Kd.string t (fun y => y.size ≤ maxLen) := by
  intro H enc w fuel cs x h
  cases fuel with
  | zero => simp [DataW.trod] at h
  | succ n =>
    unfold DataW.trod at h
    rw [ht] at h
    split at h <;> simp_all
    exact ⟨_, rfl, h.1⟩
theorem cells?_at {w : World} {a : Addr} {n : Nat} {cs : List Value} (h : w.cells? 0 a n = some cs) : cs.length = n ∧ ∀ i u, cs[i]? = some u → w.cell? (a.add i) = some u := by
  unfold World.cells? at h
  rw [if_pos (Nat.zero_le _)] at h
  have hl := mapM_some_length h
  refine ⟨by simpa using hl, fun i u hu => ?_⟩
  have hi : i < cs.length := (List.getElem?_eq_some_iff.1 hu).1
  have hl' : cs.length = n := by simpa using hl
  have hr : (List.range n)[i]? = some i := by rw [List.getElem?_range (by omega)]
  have := mapM_some_get h i i hr
  rw [this, hu]
theorem list_of {α : Type} (n : Nat) (p : Nat → α → Prop) (key : ∀ i, i < n → ∃ y, p i y) : ∃ ys : List α, ys.length = n ∧ ∀ i y, ys[i]? = some y → p i y := by
  induction n with
  | zero => exact ⟨[], rfl, by simp⟩
  | succ n ih =>
    obtain ⟨ys, hlen, hys⟩ := ih (fun i hi => key i (by omega))
    obtain ⟨y, hy⟩ := key n (by omega)
    refine ⟨ys ++ [y], by simp [hlen], fun i z hz => ?_⟩
    rcases Nat.lt_or_ge i ys.length with hi | hi
    · rw [List.getElem?_append_left hi] at hz
      exact hys i z hz
    · have : i = n := by
        have := (List.getElem?_eq_some_iff.1 hz).1
        simp at this
        omega
      subst this
      rw [← hlen] at hz
      simp at hz
      subst hz
      exact hlen ▸ hy
theorem Opens.slice {α : Type} {P : Program} {d : Kd α} {t e : TypeId} {ok : α → Prop} (ht : P.underlying t = some (.slice e)) (hsz : P.cellsOf e = d.sz) (he : Opens P d e ok) :
    Opens P (Kd.slice e d) t (fun ys => ys.length ≤ maxLen ∧ ∀ y ∈ ys, ok y) := by
  intro H enc w fuel cs x h
  rcases Go.Deep.open_slice ht h with ⟨rfl, _⟩ | ⟨a, len, cap, m, n, D, Pl, rfl, _, hl, hm, hmm, hx_, hel⟩
  · exact ⟨[], ⟨none, 0, rfl, Nat.le_refl _, Kd.C_nil _ _⟩, by simp⟩
  · have hmc : m = cap := by simpa using hmm
    have key : ∀ i, i < len → ∃ y, (∃ c, c.length = d.sz ∧ d.K w y c ∧ ∀ j u, c[j]? = some u → w.cell? ((a.add (i * d.sz)).add j) = some u) ∧ ok y := by
      intro i hi
      obtain ⟨cs', hc, ht'⟩ := hel i (by omega)
      rw [hsz] at hc
      obtain ⟨h1, h2⟩ := cells?_at hc
      obtain ⟨y, hK, hy⟩ := he enc w _ _ _ ht'
      exact ⟨y, ⟨cs', h1, hK, h2⟩, hy⟩
    obtain ⟨ys, hlen, hys⟩ := list_of len _ key
    refine ⟨ys, ⟨some a, cap, by rw [hlen], by omega, rfl, by simp only [maxLen] at hm; omega, fun _ => ⟨a, rfl, fun j p hp => ?_⟩⟩, by omega, fun y hy => ?_⟩
    · obtain ⟨⟨c, h1, h2, h3⟩, _⟩ := hys j p hp
      exact ⟨c, h1, h2, fun i u hu => by rw [← Go.Deep.add_add]; exact h3 i u hu⟩
    · obtain ⟨i, hi, rfl⟩ := List.getElem_of_mem hy
      exact (hys i _ (List.getElem?_eq_getElem hi)).2
def OpensL {α : Type} (P : Program) (d : Kd α) (ts : List TypeId) (ok : α → Prop) : Prop :=
  ∀ {H : Type} (enc : TypeId × Value → H) (w : World) (fuel : Nat) (cs : List Value), cs.length = (ts.map P.cellsOf).sum →
    (∀ i t, ts[i]? = some t → ∃ x, DataW.trod enc P w 0 (fun _ => true) true fuel t ((cs.drop ((ts.take i).map P.cellsOf).sum).take (P.cellsOf t)) = some x) → ∃ y, d.K w y cs ∧ ok y
theorem OpensL.one {α : Type} {P : Program} {d : Kd α} {t : TypeId} {ok : α → Prop} (h : Opens P d t ok) : OpensL P d [t] ok := by
  intro H enc w fuel cs hl hx
  obtain ⟨x, hx⟩ := hx 0 t rfl
  have : cs.take (P.cellsOf t) = cs := List.take_of_length_le (by simp at hl; omega)
  simp only [List.take_zero, List.map_nil, List.sum_nil, List.drop_zero, this] at hx
  exact h enc w fuel cs x hx
theorem OpensL.cons {α β : Type} {P : Program} {d : Kd α} {d2 : Kd β} {t : TypeId} {ts : List TypeId} {ok : α → Prop} {ok2 : β → Prop} (h : Opens P d t ok) (h2 : OpensL P d2 ts ok2) :
    OpensL P (Kd.pair d d2) (t :: ts) (fun y => ok y.1 ∧ ok2 y.2) := by
  intro H enc w fuel cs hl hx
  have hl' : cs.length = P.cellsOf t + (ts.map P.cellsOf).sum := by simpa using hl
  obtain ⟨x, h0⟩ := hx 0 t rfl
  simp only [List.take_zero, List.map_nil, List.sum_nil, List.drop_zero] at h0
  obtain ⟨y, hK, hy⟩ := h enc w fuel _ x h0
  obtain ⟨z, hK2, hz⟩ := h2 enc w fuel (cs.drop (P.cellsOf t)) (by simp; omega) (fun i u hu => by
    obtain ⟨x, h1⟩ := hx (i + 1) u (by simpa using hu)
    refine ⟨x, ?_⟩
    rw [List.drop_drop]
    simpa using h1)
  exact ⟨(y, z), ⟨cs.take (P.cellsOf t), cs.drop (P.cellsOf t), (List.take_append_drop _ _).symm, hK, hK2⟩, hy, hz⟩
theorem Opens.struct {α : Type} {P : Program} {d : Kd α} {t : TypeId} {fs : Array Field} {ok : α → Prop} (ht : P.underlying t = some (.struct fs)) (hc : P.cellsOf t = ((fs.toList.map (·.type)).map P.cellsOf).sum)
    (ho : ∀ i f, fs[i]? = some f → f.offset = (((fs.toList.map (·.type)).take i).map P.cellsOf).sum) (h : OpensL P d (fs.toList.map (·.type)) ok) : Opens P d t ok := by
  intro H enc w fuel cs x hx
  obtain ⟨xs, n, rfl, rfl, hl, hxl, hf⟩ := DataW.trod_struct ht hx
  refine h enc w n cs (by rw [hl, hc]) (fun i u hu => ?_)
  simp only [List.getElem?_map, Option.map_eq_some_iff] at hu
  obtain ⟨f, hfi, rfl⟩ := hu
  have hfi' : fs[i]? = some f := by simpa using hfi
  have := hf i f hfi'
  rw [ho i f hfi'] at this
  have hi : i < xs.length := by
    have := (Array.getElem?_eq_some_iff.1 hfi').1
    omega
  exact ⟨xs[i], by rw [this, List.getElem?_eq_getElem hi]⟩
theorem Opens.iso {α β : Type} {P : Program} {d : Kd α} {t : TypeId} {ok : α → Prop} (h : Opens P d t ok) (f : β → α) (g : α → β) (hfg : ∀ x, f (g x) = x) : Opens P (Kd.iso d f) t (fun y => ok (f y)) := by
  intro H enc w fuel cs x hx
  obtain ⟨y, hK, hy⟩ := h enc w fuel cs x hx
  exact ⟨g y, by show d.K w (f (g y)) cs; rw [hfg]; exact hK, by show ok (f (g y)); rw [hfg]; exact hy⟩
end Go.Proofs.Yteopooljohdoiaa.Px
