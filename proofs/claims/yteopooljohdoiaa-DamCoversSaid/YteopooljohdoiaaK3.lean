/- Contracts of the program's functions and plain words (part 3): each says what a call answers and that what lay in memory lies; no condition but what stands in each theorem -/
import Derived.Test.YteopooljohdoiaaK1
import Derived.Test.YteopooljohdoiaaK2
import Derived.Test.YteopooljohdoiaaWWords
import Derived.Test.YteopooljohdoiaaWLast
import Derived.ProofKit
import Derived.Deep.Slices
set_option linter.unusedVariables false
set_option linter.unusedSimpArgs false
namespace Go.Proofs.Yteopooljohdoiaa.Px
open Go.RowKit Go.Proofs.YteopooljohdoiaaW.PrintWords Go.Proofs.YteopooljohdoiaaW.PrintLast Go.Proofs.YteopooljohdoiaaW.PrintMore
attribute [local go_sem] max2_int min2_int max_two min_two max_three min_three max_four min_four
def termL (x : S53) : List Int := [1, x.f1, season0 (x.f0 % 360 * 4 / 360), season1 (x.f0 % 360 * 4 / 360), x.f0 / 360]
def okRd (x : S53) : Prop := (0 ≤ x.f0 ∧ x.f0 ≤ 36000) ∧ (-50 ≤ x.f1 ∧ x.f1 ≤ 50) ∧ (-2000 ≤ x.f2 ∧ x.f2 ≤ 2000)
instance (x : S53) : Decidable (okRd x) := inferInstanceAs (Decidable (_ ∧ _))
def okCh (ch : List Int) : Prop := ch.length ≤ 5 ∧ ∀ t ∈ ch, 0 ≤ t ∧ t < 5
instance (ch : List Int) : Decidable (okCh ch) := inferInstanceAs (Decidable (_ ∧ _))
def tg (x : S53) (a : Int) : Int := (termL x).getD a.toNat 0
def dotT (l : List S53) (a b : Int) : Int := (l.map fun x => tg x a * tg x b).sum
def dotM (l : List S53) (a : Int) : Int := (l.map fun x => tg x a * x.f2).sum
def matOf (l : List S53) (ch : List Int) : List (List Int) := ch.map fun a => ch.map fun b => dotT l a b
def rightOf (l : List S53) (ch : List Int) : List Int := ch.map fun a => dotM l a
def ownOf (mat : List (List Int)) (right : List Int) (k : Nat) : List (List Int) := List.zipWith (fun row r => row.set k r) mat right
def detOf (m : List (List Int)) : Int := detSum m (permsOf m.length m.length [] 1)
def partsTo (mat : List (List Int)) (right ch : List Int) : Nat → List Int
  | 0 => [0, 0, 0, 0, 0]
  | k + 1 => (partsTo mat right ch k).set (ch.getD k 0).toNat (detOf (ownOf mat right k))
def reduced (n g : Int) : Int := wrap64 (Int.tdiv n g)
def fitTail (l : List S53) (ch : List Int) : Option (Int × Int × Int × Int × Int × Int × Int) :=
  if (l.length ≤ 12 ∧ ∀ x ∈ l, okRd x) ∧ okCh ch then
    (if detOf (matOf l ch) = 0 then some (0, 0, 0, 0, 0, 0, 12) else
      match partsTo (matOf l ch) (rightOf l ch) ch ch.length with
      | [p0, p1, p2, p3, p4] =>
        (dam_divisor.f (detOf (matOf l ch)) p0 p1 p2 p3 p4).bind fun g =>
          if g = 0 then none else
          (dam_fitErr.f (reduced (detOf (matOf l ch)) g) (reduced p0 g) (reduced p1 g) (reduced p2 g) (reduced p3 g) (reduced p4 g)).bind fun e =>
            if e = 0 then some (reduced (detOf (matOf l ch)) g, reduced p0 g, reduced p1 g, reduced p2 g, reduced p3 g, reduced p4 g, 0) else some (0, 0, 0, 0, 0, 0, 8)
      | _ => none)
  else none
def dam_FitOf.f (k : Nat) (l0 : List S53) (a1 : Int) : Option (Int × Int × Int × Int × Int × Int × Int) :=
  (dam_readingsErr.f k l0).bind fun e1 => (dam_model_err.f a1).bind fun e2 => (dam_first.f k [e1, e2]).bind fun e =>
    if e = 0 then (dam_model_chosen.f k a1).bind fun ch => fitTail l0 ch else some (0, 0, 0, 0, 0, 0, e)
theorem det_some (m : List (List Int)) (h : m.length ≤ 1000) (hr : ∀ x ∈ m, x.length = m.length) : dam_determinant.f m = some (detOf m) := by
  unfold dam_determinant.f
  rw [if_pos ⟨h, hr⟩]
  rfl
theorem tg_cases (x : S53) (a : Int) (h0 : 0 ≤ a) (h5 : a < 5) : tg x a = 1 ∨ tg x a = x.f1 ∨ tg x a = season0 (x.f0 % 360 * 4 / 360) ∨ tg x a = season1 (x.f0 % 360 * 4 / 360) ∨ tg x a = x.f0 / 360 := by
  rcases (show a = 0 ∨ a = 1 ∨ a = 2 ∨ a = 3 ∨ a = 4 by omega) with rfl | rfl | rfl | rfl | rfl
  · exact .inl rfl
  · exact .inr (.inl rfl)
  · exact .inr (.inr (.inl rfl))
  · exact .inr (.inr (.inr (.inl rfl)))
  · exact .inr (.inr (.inr (.inr rfl)))
theorem tg_small (x : S53) (a : Int) (hx : okRd x) (h0 : 0 ≤ a) (h5 : a < 5) : -100 ≤ tg x a ∧ tg x a ≤ 100 := by
  obtain ⟨h1, h2, h3⟩ := hx
  rcases tg_cases x a h0 h5 with h | h | h | h | h <;> rw [h]
  · omega
  · omega
  · unfold season0; (repeat' split) <;> omega
  · unfold season1; (repeat' split) <;> omega
  · omega
theorem mul_small (a b A B : Int) (hA : 0 ≤ A) (h1 : -A ≤ a) (h2 : a ≤ A) (h3 : -B ≤ b) (h4 : b ≤ B) : -(A * B) ≤ a * b ∧ a * b ≤ A * B := by
  have hB : 0 ≤ B := by omega
  have n1 : a.natAbs ≤ A.natAbs := by omega
  have n2 : b.natAbs ≤ B.natAbs := by omega
  have n3 := Nat.mul_le_mul n1 n2
  rw [← Int.natAbs_mul, ← Int.natAbs_mul] at n3
  have hp : 0 ≤ A * B := Int.mul_nonneg hA hB
  omega
theorem mv_small (x : S53) (a : Int) (hx : okRd x) (h0 : 0 ≤ a) (h5 : a < 5) : -200000 ≤ tg x a * x.f2 ∧ tg x a * x.f2 ≤ 200000 := by
  have h := tg_small x a hx h0 h5
  exact mul_small _ _ 100 2000 (by decide) h.1 h.2 hx.2.2.1 hx.2.2.2
theorem tt_small (x : S53) (a b : Int) (hx : okRd x) (h0 : 0 ≤ a) (h5 : a < 5) (g0 : 0 ≤ b) (g5 : b < 5) : -10000 ≤ tg x a * tg x b ∧ tg x a * tg x b ≤ 10000 := by
  have h := tg_small x a hx h0 h5
  have g := tg_small x b hx g0 g5
  exact mul_small _ _ 100 100 (by decide) h.1 h.2 g.1 g.2
theorem sum_small {α : Type} (f : α → Int) (B : Int) : ∀ (l : List α), (∀ x ∈ l, -B ≤ f x ∧ f x ≤ B) → -(B * l.length) ≤ (l.map f).sum ∧ (l.map f).sum ≤ B * l.length := by
  intro l
  induction l with
  | nil => intro _; simp
  | cons x xs ih =>
    intro h
    have h1 := h x List.mem_cons_self
    have h2 := ih fun y hy => h y (List.mem_cons_of_mem _ hy)
    simp only [List.map_cons, List.sum_cons, List.length_cons]
    have e : B * ((xs.length + 1 : Nat) : Int) = B * xs.length + B := by rw [Int.natCast_add, Int.mul_add]; simp
    rw [e]
    omega
theorem dotM_snoc (l : List S53) (a : Int) (j : Nat) (hj : j < l.length) : dotM (l.take (j + 1)) a = dotM (l.take j) a + tg l[j] a * l[j].f2 := by
  unfold dotM
  rw [List.take_add_one, List.getElem?_eq_getElem hj, List.map_append, List.sum_append]
  simp
theorem dotT_snoc (l : List S53) (a b : Int) (j : Nat) (hj : j < l.length) : dotT (l.take (j + 1)) a b = dotT (l.take j) a b + tg l[j] a * tg l[j] b := by
  unfold dotT
  rw [List.take_add_one, List.getElem?_eq_getElem hj, List.map_append, List.sum_append]
  simp
theorem dotM_small (l : List S53) (a : Int) (hl : l.length ≤ 12) (hok : ∀ x ∈ l, okRd x) (h0 : 0 ≤ a) (h5 : a < 5) (j : Nat) : -2400000 ≤ dotM (l.take j) a ∧ dotM (l.take j) a ≤ 2400000 := by
  have h := sum_small (fun x : S53 => tg x a * x.f2) 200000 (l.take j) fun x hx => mv_small x a (hok x (List.mem_of_mem_take hx)) h0 h5
  have : (l.take j).length ≤ 12 := by simp; omega
  unfold dotM
  omega
theorem dotT_small (l : List S53) (a b : Int) (hl : l.length ≤ 12) (hok : ∀ x ∈ l, okRd x) (h0 : 0 ≤ a) (h5 : a < 5) (g0 : 0 ≤ b) (g5 : b < 5) (j : Nat) : -120000 ≤ dotT (l.take j) a b ∧ dotT (l.take j) a b ≤ 120000 := by
  have h := sum_small (fun x : S53 => tg x a * tg x b) 10000 (l.take j) fun x hx => tt_small x a b (hok x (List.mem_of_mem_take hx)) h0 h5 g0 g5
  have : (l.take j).length ≤ 12 := by simp; omega
  unfold dotT
  omega
theorem dotM_step (l : List S53) (a : Int) (hl : l.length ≤ 12) (hok : ∀ x ∈ l, okRd x) (h0 : 0 ≤ a) (h5 : a < 5) (j : Nat) (hj : j < l.length) : wrap64 (dotM (l.take j) a + wrap64 (tg l[j] a * l[j].f2)) = dotM (l.take (j + 1)) a := by
  have h1 := dotM_small l a hl hok h0 h5 j
  have h2 := mv_small l[j] a (hok _ (List.getElem_mem hj)) h0 h5
  rw [dotM_snoc l a j hj, w64 (n := tg l[j] a * l[j].f2) (by omega) (by omega), w64 (by omega) (by omega)]
theorem dotT_step (l : List S53) (a b : Int) (hl : l.length ≤ 12) (hok : ∀ x ∈ l, okRd x) (h0 : 0 ≤ a) (h5 : a < 5) (g0 : 0 ≤ b) (g5 : b < 5) (j : Nat) (hj : j < l.length) : wrap64 (dotT (l.take j) a b + wrap64 (tg l[j] a * tg l[j] b)) = dotT (l.take (j + 1)) a b := by
  have h1 := dotT_small l a b hl hok h0 h5 g0 g5 j
  have h2 := tt_small l[j] a b (hok _ (List.getElem_mem hj)) h0 h5 g0 g5
  rw [dotT_snoc l a b j hj, w64 (n := tg l[j] a * tg l[j] b) (by omega) (by omega), w64 (by omega) (by omega)]
def rightI (l : List S53) (ch : List Int) (i j : Nat) : List Int := (rightOf l ch).take i ++ dotM (l.take j) (ch.getD i 0) :: List.replicate (ch.length - (i + 1)) 0
def rowI (l : List S53) (ch : List Int) (a : Int) (j k : Nat) : List Int := (ch.take k).map (fun b => dotT (l.take (j + 1)) a b) ++ (ch.drop k).map (fun b => dotT (l.take j) a b)
theorem rightOf_len (l : List S53) (ch : List Int) : (rightOf l ch).length = ch.length := by simp [rightOf]
theorem matOf_len (l : List S53) (ch : List Int) : (matOf l ch).length = ch.length := by simp [matOf]
theorem rightI_len (l : List S53) (ch : List Int) (i j : Nat) (hi : i < ch.length) : (rightI l ch i j).length = ch.length := by
  simp [rightI, rightOf_len]; omega
theorem rightI_get (l : List S53) (ch : List Int) (i j : Nat) (hi : i < ch.length) : (rightI l ch i j).getD i 0 = dotM (l.take j) (ch.getD i 0) := by
  have : ((rightOf l ch).take i).length = i := by simp [rightOf_len]; omega
  unfold rightI
  rw [List.getD_eq_getElem?_getD, List.getElem?_append_right (by omega), this]
  simp
theorem rightI_set (l : List S53) (ch : List Int) (i j j' : Nat) (hi : i < ch.length) : (rightI l ch i j).set i (dotM (l.take j') (ch.getD i 0)) = rightI l ch i j' := by
  have : ((rightOf l ch).take i).length = i := by simp [rightOf_len]; omega
  unfold rightI
  rw [List.set_append_right _ _ (by omega), this]
  simp
theorem rightI_zero (l : List S53) (ch : List Int) (i : Nat) (hi : i < ch.length) : rightI l ch i 0 = (rightOf l ch).take i ++ List.replicate (ch.length - i) 0 := by
  have e : ch.length - i = (ch.length - (i + 1)) + 1 := by omega
  rw [e, List.replicate_succ]
  simp [rightI, dotM]
theorem rightI_end (l : List S53) (ch : List Int) (i : Nat) (hi : i < ch.length) : rightI l ch i l.length = (rightOf l ch).take (i + 1) ++ List.replicate (ch.length - (i + 1)) 0 := by
  have e : (rightOf l ch)[i]? = some (dotM l ch[i]) := by simp [rightOf, List.getElem?_eq_getElem hi]
  unfold rightI
  rw [List.take_add_one, e, List.take_length]
  simp [List.getD_eq_getElem?_getD, List.getElem?_eq_getElem hi]
theorem rowI_len (l : List S53) (ch : List Int) (a : Int) (j k : Nat) : (rowI l ch a j k).length = ch.length := by
  simp [rowI]; omega
theorem rowI_get (l : List S53) (ch : List Int) (a : Int) (j k : Nat) (hk : k < ch.length) : (rowI l ch a j k).getD k 0 = dotT (l.take j) a (ch.getD k 0) := by
  have : ((ch.take k).map (fun b => dotT (l.take (j + 1)) a b)).length = k := by simp; omega
  unfold rowI
  rw [List.getD_eq_getElem?_getD, List.getElem?_append_right (by omega), this]
  simp [List.getD_eq_getElem?_getD, List.getElem?_eq_getElem hk]
theorem rowI_set (l : List S53) (ch : List Int) (a : Int) (j k : Nat) (hk : k < ch.length) : (rowI l ch a j k).set k (dotT (l.take (j + 1)) a (ch.getD k 0)) = rowI l ch a j (k + 1) := by
  have : ((ch.take k).map (fun b => dotT (l.take (j + 1)) a b)).length = k := by simp; omega
  unfold rowI
  rw [List.set_append_right _ _ (by omega), this, List.drop_eq_getElem_cons hk, List.take_add_one (l := ch), List.getElem?_eq_getElem hk]
  simp only [Nat.sub_self, List.map_cons, List.set_cons_zero, List.getD_eq_getElem?_getD, List.getElem?_eq_getElem hk, Option.getD_some, Option.toList_some, List.map_append, List.map_nil, List.append_assoc, List.cons_append, List.nil_append]
theorem rowI_next (l : List S53) (ch : List Int) (a : Int) (j : Nat) : rowI l ch a j ch.length = rowI l ch a (j + 1) 0 := by
  simp [rowI]
theorem rowI_zero (l : List S53) (ch : List Int) (a : Int) : rowI l ch a 0 0 = List.replicate ch.length 0 := by
  simp [rowI, dotT, List.map_const']
theorem matOf_snoc (l : List S53) (ch : List Int) (i : Nat) (hi : i < ch.length) : (matOf l ch).take i ++ [rowI l ch (ch.getD i 0) l.length 0] = (matOf l ch).take (i + 1) := by
  have e : (matOf l ch)[i]? = some (ch.map fun b => dotT l ch[i] b) := by simp [matOf, List.getElem?_eq_getElem hi]
  rw [List.take_add_one, e]
  simp [rowI, List.getD_eq_getElem?_getD, List.getElem?_eq_getElem hi]
theorem hdr_free {W : World} {Gm n : Nat} {gs : List Nat} (h : HdrBlk W Gm n gs) (hlt : gs.length < n) : W.cell? ⟨Gm, gs.length, none⟩ = some (.slice none 0 0) := by
  refine (blk_cell h gs.length).trans ?_
  have e : n - gs.length = (n - (gs.length + 1)) + 1 := by omega
  rw [e, List.replicate_succ]
  simp [List.getElem?_append_right]
theorem arr5 {W : World} {T : Nat} {ty : TypeId} {xs : List Int} (h : W.heap[T]? = some (.cells (nums .i64 xs).toArray ty (0, 0))) (a : Int) (ha : a.toNat < xs.length) : W.cell? ⟨T, a.toNat, none⟩ = some (.int .i64 (xs.getD a.toNat 0)) := by
  refine (blk_cell h _).trans ?_
  simp [nums, List.getD_eq_getElem?_getD, List.getElem?_eq_getElem ha]
theorem matSt_made1 (W : World) (n : Nat) : MatSt ((W.alloc (.cells (madeCells #[.slice none 0 0] n) 22)).alloc (.cells (madeCells #[.int .i64 0] n) 3)).drew W.heap.size W.heap.size (W.heap.size + 1) n [] [] (List.replicate n 0) := by
  have h1 : HdrBlk ((W.alloc (.cells (madeCells #[.slice none 0 0] n) 22)).alloc (.cells (madeCells #[.int .i64 0] n) 3)) W.heap.size n [] := blk_alloc (HdrBlk.made W n) _
  have h2 : IntBlk ((W.alloc (.cells (madeCells #[.slice none 0 0] n) 22)).alloc (.cells (madeCells #[.int .i64 0] n) 3)) (W.heap.size + 1) (List.replicate n 0) := by
    have := IntBlk.made (W.alloc (.cells (madeCells #[.slice none 0 0] n) 22)) n
    rwa [show (W.alloc (.cells (madeCells #[.slice none 0 0] n) 22)).heap.size = W.heap.size + 1 from Array.size_push _] at this
  exact { len := rfl, hd := h1, rt := h2, row := fun i hi => absurd hi (by simp), nodup := fun i j hi => absurd hi (by simp), rtlen := by simp, bm := Nat.le_refl _, br := by omega, ne := by omega }
theorem matSt_made2 (W : World) (n : Nat) : MatSt ((W.alloc (.cells (madeCells #[.int .i64 0] n) 3)).alloc (.cells (madeCells #[.slice none 0 0] n) 22)).drew W.heap.size (W.heap.size + 1) W.heap.size n [] [] (List.replicate n 0) := by
  have h2 : IntBlk ((W.alloc (.cells (madeCells #[.int .i64 0] n) 3)).alloc (.cells (madeCells #[.slice none 0 0] n) 22)) W.heap.size (List.replicate n 0) := blk_alloc (IntBlk.made W n) _
  have h1 : HdrBlk ((W.alloc (.cells (madeCells #[.int .i64 0] n) 3)).alloc (.cells (madeCells #[.slice none 0 0] n) 22)) (W.heap.size + 1) n [] := by
    have := HdrBlk.made (W.alloc (.cells (madeCells #[.int .i64 0] n) 3)) n
    rwa [show (W.alloc (.cells (madeCells #[.int .i64 0] n) 3)).heap.size = W.heap.size + 1 from Array.size_push _] at this
  exact { len := rfl, hd := h1, rt := h2, row := fun i hi => absurd hi (by simp), nodup := fun i j hi => absurd hi (by simp), rtlen := by simp, bm := by omega, br := Nat.le_refl _, ne := by omega }
theorem MatSt.drewn {W : World} {B Gm Gr n : Nat} {gs : List Nat} {rows : List (List Int)} {right : List Int} (h : MatSt W B Gm Gr n gs rows right) : MatSt W.drew B Gm Gr n gs rows right := h.below (below_drew (Below.refl _ _))
theorem MatSt.C {W : World} {B Gm Gr n : Nat} {gs : List Nat} {rows : List (List Int)} {right : List Int} (h : MatSt W B Gm Gr n gs rows right) (hn : rows.length = n) (hm : n ≤ 9223372036854775807) : Kd.C (Kd.slice 3 (Kd.int .i64)) W (some ⟨Gm, 0, none⟩) n rows := by
  refine ⟨hn, hm, fun _ => ⟨_, rfl, fun j p hp => ?_⟩⟩
  have hj : j < gs.length := by
    have := (List.getElem?_eq_some_iff.1 hp).1
    rw [h.len]
    exact this
  have hpe : rows.getD j [] = p := by rw [List.getD_eq_getElem?_getD, hp]; rfl
  have hr := h.row j hj
  rw [hpe] at hr
  refine ⟨[.slice (some ⟨gs.getD j 0, 0, none⟩) n n], rfl, ⟨some ⟨gs.getD j 0, 0, none⟩, n, by rw [hr.2.1], by rw [hr.2.1]; exact Nat.le_refl _, hr.1.C (by rw [hr.2.1]; exact hm)⟩, fun i u hu => ?_⟩
  match i, hu with
  | 0, hu =>
    cases hu
    rw [add_plain]
    simpa [show (Kd.slice 3 (Kd.int .i64)).sz = 1 from rfl] using h.hd.cell hj
structure OwnSt (W : World) (B O n : Nat) (hs : List (Nat × Nat)) (rows : List (List Int)) : Prop where
  len : hs.length = rows.length
  hd : W.heap[O]? = some (.cells (hs.map (fun p => Value.slice (some ⟨p.1, 0, none⟩) n p.2) ++ List.replicate (n - hs.length) (Value.slice none 0 0)).toArray 22 (0, 0))
  row : ∀ i, i < hs.length → (rows.getD i []).length = n ∧ n ≤ (hs.getD i (0, 0)).2 ∧ Kd.R (Kd.int .i64) 3 W B (fun _ => True) (.slice (some ⟨(hs.getD i (0, 0)).1, 0, none⟩) n (hs.getD i (0, 0)).2) (rows.getD i [])
theorem OwnSt.below {W W' : World} {B O n : Nat} {hs : List (Nat × Nat)} {rows : List (List Int)} (h : OwnSt W B O n hs rows) (hb : Below W.heap.size W W') : OwnSt W' B O n hs rows :=
  { h with hd := blk_below h.hd hb, row := fun i hi => ⟨(h.row i hi).1, (h.row i hi).2.1, Kd.R_below (h.row i hi).2.2 hb⟩ }
theorem OwnSt.made (W : World) (B n : Nat) : OwnSt (W.alloc (.cells (madeCells #[.slice none 0 0] n) 22)) B W.heap.size n [] [] :=
  { len := rfl, hd := HdrBlk.made W n, row := fun i hi => absurd hi (by simp) }
theorem OwnSt.cell {W : World} {B O n : Nat} {hs : List (Nat × Nat)} {rows : List (List Int)} (h : OwnSt W B O n hs rows) {i : Nat} (hi : i < hs.length) : W.cell? ⟨O, i, none⟩ = some (.slice (some ⟨(hs.getD i (0, 0)).1, 0, none⟩) n (hs.getD i (0, 0)).2) := by
  refine (blk_cell h.hd i).trans ?_
  simp [List.getD_eq_getElem?_getD, List.getElem?_eq_getElem hi, List.getElem?_append_left (show i < (hs.map (fun p => Value.slice (some ⟨p.1, 0, none⟩) n p.2)).length by simpa using hi)]
theorem OwnSt.free {W : World} {B O n : Nat} {hs : List (Nat × Nat)} {rows : List (List Int)} (h : OwnSt W B O n hs rows) (hlt : hs.length < n) : W.cell? ⟨O, hs.length, none⟩ = some (.slice none 0 0) := by
  refine (blk_cell h.hd hs.length).trans ?_
  have e : n - hs.length = (n - (hs.length + 1)) + 1 := by omega
  rw [e, List.replicate_succ]
  simp [List.getElem?_append_right]
theorem OwnSt.C {W : World} {B O n : Nat} {hs : List (Nat × Nat)} {rows : List (List Int)} (h : OwnSt W B O n hs rows) (hn : rows.length = n) (hm : n ≤ 9223372036854775807) : Kd.C (Kd.slice 3 (Kd.int .i64)) W (some ⟨O, 0, none⟩) n rows := by
  refine ⟨hn, hm, fun _ => ⟨_, rfl, fun j p hp => ?_⟩⟩
  have hj : j < hs.length := by
    have := (List.getElem?_eq_some_iff.1 hp).1
    rw [h.len]
    exact this
  have hpe : rows.getD j [] = p := by rw [List.getD_eq_getElem?_getD, hp]; rfl
  have hr := h.row j hj
  rw [hpe] at hr
  refine ⟨[.slice (some ⟨(hs.getD j (0, 0)).1, 0, none⟩) n (hs.getD j (0, 0)).2], rfl, ⟨some ⟨(hs.getD j (0, 0)).1, 0, none⟩, (hs.getD j (0, 0)).2, by rw [hr.1], by rw [hr.1]; exact hr.2.1, (Kd.R_reads' hr.2.2).2.2⟩, fun i u hu => ?_⟩
  match i, hu with
  | 0, hu =>
    cases hu
    rw [add_plain]
    simpa [show (Kd.slice 3 (Kd.int .i64)).sz = 1 from rfl] using h.cell hj
theorem int_ne : ∀ q, q ∈ 3 :: (Kd.int .i64).E → q ≠ 22 := by
  intro q hq
  have hq : q ∈ [3] := hq
  rw [List.mem_singleton.1 hq]
  decide
theorem OwnSt.next {W W2 : World} {B O n g cap : Nat} {hs : List (Nat × Nat)} {rows : List (List Int)} {row : List Int} (h : OwnSt W B O n hs rows) (hlt : hs.length < n) (hb : Below W.heap.size W W2)
    (hR : Kd.R (Kd.int .i64) 3 W2 W.heap.size (fun _ => True) (.slice (some ⟨g, 0, none⟩) n cap) row) (hB : B ≤ W.heap.size) (k : Nat) (v : Int) :
    OwnSt (((W2.setCell ⟨O, hs.length, none⟩ (.slice (some ⟨g, 0, none⟩) n cap)).setCell ⟨g, k, none⟩ (.int .i64 v)).drew) B O n (hs ++ [(g, cap)]) (rows ++ [row.set k v]) := by
  have h2 := h.below hb
  have hgW : W.heap.size ≤ g := Kd.R_base hR g rfl
  have hOlt := blk_lt h.hd
  have hR3 := Kd.R_set hR h2.hd int_ne hs.length (.slice (some ⟨g, 0, none⟩) n cap)
  obtain ⟨hrl, hcap, _⟩ := Kd.R_reads' hR
  refine { len := by simp [h.len], hd := ?_, row := fun i hi => ?_ }
  · refine blk_drew (blk_far (p := ⟨g, k, none⟩) (blk_put h2.hd hs.length _ ?_) (by show O ≠ g; omega) _)
    apply Array.toList_inj.1
    have e : n - hs.length = (n - (hs.length + 1)) + 1 := by omega
    simp only [List.setIfInBounds_toArray, List.length_append, List.length_singleton, List.map_append, List.map_cons, List.map_nil]
    rw [e, List.replicate_succ, List.set_append_right _ _ (by simp)]
    simp
  · rcases Nat.lt_or_ge i hs.length with hi' | hi'
    · have e1 : (hs ++ [(g, cap)]).getD i (0, 0) = hs.getD i (0, 0) := by simp [List.getD_eq_getElem?_getD, List.getElem?_append_left hi']
      have e2 : (rows ++ [row.set k v]).getD i [] = rows.getD i [] := by simp [List.getD_eq_getElem?_getD, List.getElem?_append_left (show i < rows.length by rw [← h.len]; exact hi')]
      rw [e1, e2]
      have hr := h.row i hi'
      have hRW := Kd.R_elderB hr.2.2 g hgW
      have hR2 := Kd.R_below hRW hb
      have hR4 := Kd.R_set hR2 h2.hd int_ne hs.length (.slice (some ⟨g, 0, none⟩) n cap)
      have hR5 := Kd.R_far (p := ⟨g, k, none⟩) hR4 (fun _ hk => hk.2) (.int .i64 v)
      exact ⟨hr.1, hr.2.1, Kd.R_drew (Kd.R_mono hR5 (fun _ _ => trivial))⟩
    · have : i = hs.length := by simp at hi; omega
      subst this
      have e1 : (hs ++ [(g, cap)]).getD hs.length (0, 0) = (g, cap) := by simp [List.getD_eq_getElem?_getD]
      have e2 : (rows ++ [row.set k v]).getD hs.length [] = row.set k v := by rw [h.len]; simp [List.getD_eq_getElem?_getD]
      rw [e1, e2]
      have hR6 := Kd.R_putn hR3 (k : Int) v
      rw [Int.toNat_natCast] at hR6
      exact ⟨by simpa using hrl.symm, hcap, Kd.R_drew (Kd.R_lower hR6 hB)⟩
theorem partsTo_len (mat : List (List Int)) (right ch : List Int) : ∀ q, (partsTo mat right ch q).length = 5
  | 0 => rfl
  | q + 1 => by simp [partsTo, partsTo_len mat right ch q]
theorem ownOf_len (mat : List (List Int)) (right : List Int) (q : Nat) (h : mat.length = right.length) : (ownOf mat right q).length = mat.length := by simp [ownOf, ← h]
theorem ownOf_snoc (mat : List (List Int)) (right : List Int) (q i : Nat) (hi : i < mat.length) (h : mat.length = right.length) : (ownOf mat right q).take i ++ [(mat.getD i []).set q (right.getD i 0)] = (ownOf mat right q).take (i + 1) := by
  have hi2 : i < right.length := by omega
  have e : (ownOf mat right q)[i]? = some (mat[i].set q right[i]) := by
    unfold ownOf
    rw [List.getElem?_zipWith]
    simp [List.getElem?_eq_getElem hi, List.getElem?_eq_getElem hi2]
  rw [List.take_add_one, e]
  simp [List.getD_eq_getElem?_getD, List.getElem?_eq_getElem hi, List.getElem?_eq_getElem hi2]
def redTo (ps : List Int) (g : Int) (q : Nat) : List Int := (ps.take q).map (reduced · g) ++ ps.drop q
theorem redTo_get (ps : List Int) (g : Int) (q : Nat) (hq : q < ps.length) : (redTo ps g q).getD q 0 = ps.getD q 0 := by
  have : ((ps.take q).map (reduced · g)).length = q := by simp; omega
  unfold redTo
  rw [List.getD_eq_getElem?_getD, List.getElem?_append_right (by omega), this]
  simp [List.getD_eq_getElem?_getD, List.getElem?_eq_getElem hq]
theorem redTo_set (ps : List Int) (g : Int) (q : Nat) (hq : q < ps.length) : (redTo ps g q).set q (reduced (ps.getD q 0) g) = redTo ps g (q + 1) := by
  have : ((ps.take q).map (reduced · g)).length = q := by simp; omega
  unfold redTo
  rw [List.set_append_right _ _ (by omega), this, List.drop_eq_getElem_cons hq, List.take_add_one (l := ps), List.getElem?_eq_getElem hq]
  simp only [Nat.sub_self, List.set_cons_zero, List.getD_eq_getElem?_getD, List.getElem?_eq_getElem hq, Option.getD_some, Option.toList_some, List.map_append, List.map_cons, List.map_nil, List.append_assoc, List.cons_append, List.nil_append]
theorem redTo_len (ps : List Int) (g : Int) (q : Nat) : (redTo ps g q).length = ps.length := by simp [redTo]; omega
theorem fit_cell {W : World} {F : Nat} {ty : TypeId} {den : Int} {ps : List Int} (h : W.heap[F]? = some (.cells (nums .i64 (den :: ps)).toArray ty (0, 0))) (m : Nat) (hm : m < ps.length) : W.cell? ⟨F, 1 + m, none⟩ = some (.int .i64 (ps.getD m 0)) := by
  refine (blk_cell h _).trans ?_
  rw [Nat.add_comm 1 m]
  simp [nums, List.getD_eq_getElem?_getD, List.getElem?_eq_getElem hm]
theorem fit_put {W : World} {F : Nat} {ty : TypeId} {den : Int} {ps : List Int} (h : W.heap[F]? = some (.cells (nums .i64 (den :: ps)).toArray ty (0, 0))) (m : Nat) (v : Int) : (W.setCell ⟨F, 1 + m, none⟩ (.int .i64 v)).heap[F]? = some (.cells (nums .i64 (den :: ps.set m v)).toArray ty (0, 0)) := by
  refine blk_put h _ _ ?_
  rw [Nat.add_comm 1 m]
  simp [nums, List.map_set]
theorem idx6 (F m : Nat) (hm : m < 5) (W : World) : (Instr.indexAt 54 (.pointer (some ⟨F, 1, none⟩)) (.int .i64 (m : Int))).run Try.prog W = .ok (.pointer (some ⟨F, 1 + m, none⟩)) W := by
  rcases (show m = 0 ∨ m = 1 ∨ m = 2 ∨ m = 3 ∨ m = 4 by omega) with rfl | rfl | rfl | rfl | rfl <;> kernel_rfl
theorem five (ps : List Int) (h : ps.length = 5) : ∃ p0 p1 p2 p3 p4, ps = [p0, p1, p2, p3, p4] := by
  match ps, h with
  | [p0, p1, p2, p3, p4], _ => exact ⟨_, _, _, _, _, rfl⟩
set_option maxHeartbeats 8000000 in
set_option maxRecDepth 100000 in
theorem fitOf_err (k : Nat) (A0 : Option Addr) (c0 : Nat) (l0 : List S53) (a1 e1 e2 e : Int) (w : World) (hr0 : Kd.C k53 w A0 l0.length l0) (hc0 : l0.length ≤ c0)
    (h1 : dam_readingsErr.f k l0 = some e1) (h2 : dam_model_err.f a1 = some e2) (h3 : dam_first.f k [e1, e2] = some e) (he : ¬ e = 0) :
    Calls Try.prog 40 #[.slice A0 l0.length c0, .int .i64 a1] w fun e' w' => e' = .returned (.tuple #[.agg #[.int .i64 0, .int .i64 0, .int .i64 0, .int .i64 0, .int .i64 0, .int .i64 0], .int .i64 e]) ∧ Below w.heap.size w w' := by
  have HR0 := Aside0.mk hr0
  have HC0 := Aside0.mk hc0
  have H1 := Aside0.mk h1
  have H2 := Aside0.mk h2
  have H3 := Aside0.mk h3
  have hb : (e != 0) = true := bne_iff_ne.2 he
  clear hr0 hc0 h1 h2 h3 he
  go_enter Try.func40, Try.ntmps40
  go_wp2_with (first
    | (go_at_call 79; refine (dam_readingsErr.calls k A0 c0 l0 e1 _ (Kd.C_below HR0.out (below_alloc (Below.refl _ _) _)) HC0.out H1.out).mono ?_; rintro e' w1 ⟨rfl, hb1⟩; have HB1 := Aside0.mk hb1; clear hb1)
    | (go_at_call 80; refine (dam_model_err.calls a1 e2 _ H2.out).mono ?_; rintro e' w2 ⟨rfl, hb2⟩; have HB2 := Aside0.mk hb2.below; clear hb2)
    | (go_at_call 63; refine (dam_first.calls k _ _ [e1, e2] e _ (litC w2 26 [e1, e2] (by simp)) (Nat.le_refl _) H3.out).mono ?_; rintro e' w3 ⟨rfl, hb3⟩; have HB3 := Aside0.mk (below_step (below_step (below_step (below_alloc (Below.refl _ _) _) HB1.out) (below_alloc HB2.out _)) hb3.below); have hbl := blk_below (blk_alloc (blk_below (blk_below (blk_new w (.cells #[.int .i64 0, .int .i64 0, .int .i64 0, .int .i64 0, .int .i64 0, .int .i64 0] 69)) HB1.out) HB2.out) _) hb3.below; have hx0 := (blk_cell hbl 0).trans rfl; have hx1 := (blk_cell hbl 1).trans rfl; have hx2 := (blk_cell hbl 2).trans rfl; have hx3 := (blk_cell hbl 3).trans rfl; have hx4 := (blk_cell hbl 4).trans rfl; have hx5 := (blk_cell hbl 5).trans rfl; have hf0 := blk_frozen hbl 0; have hf1 := blk_frozen hbl 1; have hf2 := blk_frozen hbl 2; have hf3 := blk_frozen hbl 3; have hf4 := blk_frozen hbl 4; have hf5 := blk_frozen hbl 5; have HBL := Aside0.mk hbl; clear hb3 hbl))
  have hbl := HBL.out
  refine bodyPost_ret (results_ct rfl _ _ w.heap.size 69 #[.int .i64 0, .int .i64 0, .int .i64 0, .int .i64 0, .int .i64 0, .int .i64 0] (0, 0) _ rfl (blk_put (blk_put (blk_put (blk_put (blk_put (blk_put hbl 0 _ rfl) 1 _ rfl) 2 _ rfl) 3 _ rfl) 4 _ rfl) 5 _ rfl) Try.underlying69 (by rfl) (by rfl)) rfl ⟨rfl, ?_⟩
  exact below_set (below_set (below_set (below_set (below_set (below_set HB3.out (Nat.le_refl _)) (Nat.le_refl _)) (Nat.le_refl _)) (Nat.le_refl _)) (Nat.le_refl _)) (Nat.le_refl _)
set_option maxHeartbeats 8000000 in
set_option maxRecDepth 100000 in
theorem fitOf_ok (k : Nat) (A0 : Option Addr) (c0 : Nat) (l0 : List S53) (a1 e1 e2 : Int) (ch : List Int) (w : World) (hr0 : Kd.C k53 w A0 l0.length l0) (hc0 : l0.length ≤ c0)
    (h1 : dam_readingsErr.f k l0 = some e1) (h2 : dam_model_err.f a1 = some e2) (h3 : dam_first.f k [e1, e2] = some 0) (h4 : dam_model_chosen.f k a1 = some ch)
    (hl : l0.length ≤ 12) (hok : ∀ x ∈ l0, okRd x) (hch : okCh ch) (r1 r2 r3 r4 r5 r6 r7 : Int) (ht : fitTail l0 ch = some (r1, r2, r3, r4, r5, r6, r7)) :
    Calls Try.prog 40 #[.slice A0 l0.length c0, .int .i64 a1] w fun e' w' => e' = .returned (.tuple #[.agg #[.int .i64 r1, .int .i64 r2, .int .i64 r3, .int .i64 r4, .int .i64 r5, .int .i64 r6], .int .i64 r7]) ∧ Below w.heap.size w w' := by
  have HR0 := Aside0.mk hr0
  have HC0 := Aside0.mk hc0
  have H1 := Aside0.mk h1
  have H2 := Aside0.mk h2
  have H3 := Aside0.mk h3
  have H4 := Aside0.mk h4
  have HOK := Aside0.mk hok
  have HCH := Aside0.mk hch
  have HT := Aside0.mk ht
  have hn5 : ch.length ≤ 5 := hch.1
  clear hr0 hc0 h1 h2 h3 h4 hok hch ht
  have kmi := fun W => run_make_row' (P := Try.prog) 22 3 (.int .i64 0) 8 Try.underlying22 info3 rfl .i64 .i64 ch.length (by omega) (by omega) W
  have kmh := fun W => run_make_row' (P := Try.prog) 127 22 (.slice none 0 0) 24 Try.underlying127 (by kernel_rfl) rfl .i64 .i64 ch.length (by omega) (by omega) W
  go_enter Try.func40, Try.ntmps40
  go_upto_region 6 with (first
    | (go_at_call 79; refine (dam_readingsErr.calls k A0 c0 l0 e1 _ (Kd.C_below HR0.out (below_alloc (Below.refl _ _) _)) HC0.out H1.out).mono ?_; rintro e' w1 ⟨rfl, hb1⟩; have HB1 := Aside0.mk hb1; clear hb1)
    | (go_at_call 80; refine (dam_model_err.calls a1 e2 _ H2.out).mono ?_; rintro e' w2 ⟨rfl, hb2⟩; have HB2 := Aside0.mk hb2.below; clear hb2)
    | (go_at_call 63; refine (dam_first.calls k _ _ [e1, e2] 0 _ (litC w2 26 [e1, e2] (by simp)) (Nat.le_refl _) H3.out).mono ?_; rintro e' w3 ⟨rfl, hb3⟩; have HB3 := Aside0.mk (below_step (below_step (below_step (below_alloc (Below.refl _ _) _) HB1.out) (below_alloc HB2.out _)) hb3.below); have hbl := blk_below (blk_alloc (blk_below (blk_below (blk_new w (.cells #[.int .i64 0, .int .i64 0, .int .i64 0, .int .i64 0, .int .i64 0, .int .i64 0] 69)) HB1.out) HB2.out) _) hb3.below; have HBL := Aside0.mk hbl; clear hb3 hbl)
    | (go_at_call 81; refine (dam_model_chosen.calls k a1 ch _ H4.out).mono ?_; rintro e' w4 ⟨vch, rfl, hR4, hb4⟩; have HB4 := Aside0.mk (below_step HB3.out hb4); have HBL4 := Aside0.mk (blk_below HBL.out hb4); obtain ⟨Ac, cc, e4, hcc, hC4⟩ := Kd.R_reads hR4; subst e4; have HC4 := Aside0.mk hC4; have HCC := Aside0.mk hcc; clear hR4 hb4 hC4 hcc))
  go_cut [9, 10] (fun v9 v10 wc => ∃ (Gm Gr : Nat), v9 = .slice (some ⟨Gm, 0, none⟩) ch.length ch.length ∧ v10 = .slice (some ⟨Gr, 0, none⟩) ch.length ch.length ∧ Aside0 (MatSt wc w4.heap.size Gm Gr ch.length [] [] (List.replicate ch.length 0)) ∧ Aside0 (Below w4.heap.size w4 wc))
  case first =>
    go_region
    all_goals go_wp2
    all_goals go_meet
    case rel => exact ⟨_, _, rfl, rfl, ⟨matSt_made1 w4 ch.length⟩, ⟨below_drew (below_alloc (below_alloc (Below.refl _ _) _) _)⟩⟩
    case rel => exact ⟨_, _, rfl, rfl, ⟨matSt_made2 w4 ch.length⟩, ⟨below_drew (below_alloc (below_alloc (Below.refl _ _) _) _)⟩⟩
  case rest =>
    obtain ⟨Gm, Gr, rfl, rfl, HM, HBM⟩ := hcut
    go_wp2
    go_loopg [47] ch.length (fun gg s47 wr => ∃ (i : Nat) (gs : List Nat), i ≤ ch.length ∧ ch.length - i ≤ gg ∧ s47 = .int .i64 i ∧ Aside0 (MatSt wr w4.heap.size Gm Gr ch.length gs ((matOf l0 ch).take i) ((rightOf l0 ch).take i ++ List.replicate (ch.length - i) 0)) ∧ Aside0 (Below w4.heap.size w4 wr))
    case atStart => exact ⟨0, [], by omega, by omega, rfl, ⟨by simpa using HM.out⟩, HBM⟩
    case round =>
      obtain ⟨i, gs, hi, hgg, rfl, HMi, HBi⟩ := hrel
      obtain ⟨wA, hwA⟩ : ∃ wA, wA = wr := ⟨_, rfl⟩
      subst hwA
      by_cases hin : i < ch.length
      case pos =>
        have hin2 : (i : Int) < (ch.length : Int) := by omega
        obtain ⟨ad, e1, hx1⟩ := Kd.at_int (Kd.C_below HC4.out HBi.out) (i : Int) (by omega) (by omega)
        cases e1
        have hrd : rd ch (i : Int) = ch.getD i 0 := rfl
        rw [hrd, Int.toNat_natCast] at hx1
        clear hrd
        obtain ⟨a, ha⟩ : ∃ a, a = ch.getD i 0 := ⟨_, rfl⟩
        rw [← ha] at hx1
        have hab : 0 ≤ a ∧ a < 5 := HCH.out.2 a (by rw [ha, List.getD_eq_getElem?_getD, List.getElem?_eq_getElem hin]; exact List.getElem_mem hin)
        obtain ⟨ha0, ha5⟩ := hab
        have HA := Aside0.mk ha
        clear ha
        have hlen : gs.length = i := by have := HMi.out.len; simpa [matOf_len, Nat.min_eq_left hi] using this
        have HLEN := Aside0.mk hlen
        clear hlen
        have hfz : ∀ o, (wA.alloc o).frozen? ⟨Gm, i, none⟩ = false := fun o => blk_frozen (blk_alloc HMi.out.hd o) i
        have hcz : ∀ o, (wA.alloc o).cell? ⟨Gm, i, none⟩ = some (.slice none 0 0) := fun o => by
          have := hdr_free (show HdrBlk (wA.alloc o) Gm ch.length gs from blk_alloc HMi.out.hd o) (by rw [HLEN.out]; exact hin)
          rwa [HLEN.out] at this
        have hM0 := HMi.out.newRow (by rw [HLEN.out]; exact hin) (below_alloc (Below.refl _ wA) _) (IntBlk.made wA ch.length) (Nat.le_refl _) (by simp)
        rw [HLEN.out, ← rowI_zero l0 ch a, ← rightI_zero l0 ch i hin] at hM0
        have HM0 := Aside0.mk hM0
        clear hM0
        go_wp2
        have HB0 := Aside0.mk (show Below w4.heap.size w4 ((wA.alloc (.cells (madeCells #[.int .i64 0] ch.length) 3)).setCell ⟨Gm, i, none⟩ (.slice (some ⟨wA.heap.size, 0, none⟩) ch.length ch.length)) from below_set (below_alloc HBi.out _) HMi.out.bm)
        have HBI := Aside0.mk HBi.out
        clear hfz hcz hx1 HMi HBi HM HBM kmi kmh HBL HB3 HB1 HB2 H1 H2 H3 H4
        go_loopg [60] l0.length (fun gg s60 w5 => ∃ (j : Nat), j ≤ l0.length ∧ l0.length - j ≤ gg ∧ s60 = .int .i64 j ∧ Aside0 (MatSt w5 w4.heap.size Gm Gr ch.length (gs ++ [wA.heap.size]) ((matOf l0 ch).take i ++ [rowI l0 ch a j 0]) (rightI l0 ch i j)) ∧ Aside0 (Below w4.heap.size w4 w5))
        case atStart => exact ⟨0, by omega, by omega, rfl, HM0, HB0⟩
        case round =>
          obtain ⟨j, hj, hgg2, rfl, HMj, HBj⟩ := hrel
          obtain ⟨wC, hwC⟩ : ∃ wC, wC = wr := ⟨_, rfl⟩
          subst hwC
          clear HM0 HB0
          by_cases hjn : j < l0.length
          case pos =>
            have hjn2 : (j : Int) < (l0.length : Int) := by omega
            obtain ⟨ad2, e1, hy0, hy1, hy2⟩ := at_T53 (Kd.C_below HR0.out (below_weaken HB4.out (by have := HB4.out.size; exact this) HBj.out)) (j : Int) (by omega) (by omega)
            cases e1
            obtain ⟨x, hx⟩ : ∃ x, x = rd_T53 l0 (j : Int) := ⟨_, rfl⟩
            rw [← hx] at hy0 hy1 hy2
            rw [Int.toNat_natCast] at hy0 hy1 hy2
            have hxj : x = l0[j] := by
              rw [hx]
              show l0.getD (j : Int).toNat _ = _
              rw [Int.toNat_natCast, List.getD_eq_getElem?_getD, List.getElem?_eq_getElem hjn]
              rfl
            have HX := Aside0.mk hxj
            have hox : okRd x := by rw [hxj]; exact HOK.out _ (List.getElem_mem hjn)
            clear hx hxj
            have HOX := Aside0.mk hox
            have hcT : dam_terms.f x.f0 x.f1 x.f2 = some (1, x.f1, season0 (x.f0 % 360 * 4 / 360), season1 (x.f0 % 360 * 4 / 360), x.f0 / 360) := by
              unfold dam_terms.f
              rw [if_pos hox.1]
            have HCT := Aside0.mk hcT
            clear hcT hox
            go_upto_region 15 with (go_at_call 77; refine (dam_terms.calls x.f0 x.f1 x.f2 _ _ _ _ _ _ HCT.out).mono ?_; rintro e' w6 ⟨rfl, hb6⟩; have HB6 := Aside0.mk hb6; clear hb6)
            have hb7 : Below wC.heap.size wC (w6.alloc (.cells #[.int .i64 1, .int .i64 x.f1, .int .i64 (season0 (x.f0 % 360 * 4 / 360)), .int .i64 (season1 (x.f0 % 360 * 4 / 360)), .int .i64 (x.f0 / 360)] 54)) := below_alloc (below_step (below_alloc (Below.refl _ _) _) HB6.out) _
            have hrb := blk_alloc (blk_below (blk_new wC (.cells #[.int .i64 x.f0, .int .i64 x.f1, .int .i64 x.f2] 53)) HB6.out) (.cells #[.int .i64 1, .int .i64 x.f1, .int .i64 (season0 (x.f0 % 360 * 4 / 360)), .int .i64 (season1 (x.f0 % 360 * 4 / 360)), .int .i64 (x.f0 / 360)] 54)
            have htb := blk_new w6 (.cells #[.int .i64 1, .int .i64 x.f1, .int .i64 (season0 (x.f0 % 360 * 4 / 360)), .int .i64 (season1 (x.f0 % 360 * 4 / 360)), .int .i64 (x.f0 / 360)] 54)
            have hTne : w6.heap.size ≠ Gr ∧ w6.heap.size ≠ wA.heap.size := by
              have h1 := HMj.out.rt.lt
              have h2 := (HMj.out.row i (by simp [HLEN.out])).1.lt
              have h3 : (gs ++ [wA.heap.size]).getD i 0 = wA.heap.size := by simp [List.getD_eq_getElem?_getD, HLEN.out]
              rw [h3] at h2
              have h4 := (below_step (below_alloc (Below.refl _ wC) _) HB6.out).size
              omega
            have hM7 := HMj.out.below hb7
            have hB7 := below_weaken HBj.out HBj.out.size hb7
            generalize w6.alloc (.cells #[.int .i64 1, .int .i64 x.f1, .int .i64 (season0 (x.f0 % 360 * 4 / 360)), .int .i64 (season1 (x.f0 % 360 * 4 / 360)), .int .i64 (x.f0 / 360)] 54) = w7 at *
            generalize w6.heap.size = T at *
            have hc14 := (blk_cell hrb 2).trans rfl
            have hcr := hM7.rt.cell (i := i) (by rw [rightI_len l0 ch i j hin]; exact hin)
            rw [rightI_get l0 ch i j hin, ← HA.out] at hcr
            have hfr := hM7.rt.frozen i
            have hct := arr5 (xs := termL x) htb a (by simp [termL]; omega)
            have hia : ∀ W, (Instr.indexAt 54 (.pointer (some ⟨T, 0, none⟩)) (.int .i64 a)).run Try.prog W = .ok (.pointer (some ⟨T, a.toNat, none⟩)) W := by
              intro W
              rcases (show a = 0 ∨ a = 1 ∨ a = 2 ∨ a = 3 ∨ a = 4 by omega) with rfl | rfl | rfl | rfl | rfl <;> kernel_rfl
            have HM7 := Aside0.mk hM7
            have HB7 := Aside0.mk hB7
            have HTB := Aside0.mk htb
            have HTNE := Aside0.mk hTne
            clear hM7 hB7 hb7 htb hTne hrb hy0 hy1 hy2
            obtain ⟨ta, hta⟩ : ∃ ta, ta = (termL x).getD a.toNat 0 := ⟨_, rfl⟩
            rw [← hta] at hct
            obtain ⟨ra, hra⟩ : ∃ ra, ra = dotM (List.take j l0) a := ⟨_, rfl⟩
            rw [← hra] at hcr
            have HTA := Aside0.mk hta
            have HRA := Aside0.mk hra
            clear hta hra
            go_region
            have hv8 : wrap64 (ra + wrap64 (ta * x.f2)) = dotM (l0.take (j + 1)) (ch.getD i 0) := by
              rw [HRA.out, HTA.out, HX.out, ← HA.out]
              exact dotM_step l0 a hl HOK.out ha0 ha5 j hjn
            have hM8 := (HM7.out.setRight i (wrap64 (ra + wrap64 (ta * x.f2)))).drewn
            rw [show (rightI l0 ch i j).set i (wrap64 (ra + wrap64 (ta * x.f2))) = rightI l0 ch i (j + 1) from by rw [hv8]; exact rightI_set l0 ch i j (j + 1) hin] at hM8
            have hB8 := below_drew (HB7.out.setCell (p := ⟨Gr, i, none⟩) HM7.out.br (.int .i64 (wrap64 (ra + wrap64 (ta * x.f2)))))
            have hT8 := blk_drew (blk_far (p := ⟨Gr, i, none⟩) HTB.out HTNE.out.1 (.int .i64 (wrap64 (ra + wrap64 (ta * x.f2)))))
            clear hv8 hcr hfr hct hc14
            generalize (w7.setCell ⟨Gr, i, none⟩ (.int .i64 (wrap64 (ra + wrap64 (ta * x.f2))))).drew = w8 at *
            have HM8 := Aside0.mk hM8
            have HB8 := Aside0.mk hB8
            have HT8 := Aside0.mk hT8
            clear hM8 hB8 hT8 HTB HM7 HB7 HMj HBj HRA
            go_wp2
            go_loopg [80] ch.length (fun gg s80 w5 => ∃ (q : Nat), q ≤ ch.length ∧ ch.length - q ≤ gg ∧ s80 = .int .i64 q ∧ Aside0 (MatSt w5 w4.heap.size Gm Gr ch.length (gs ++ [wA.heap.size]) ((matOf l0 ch).take i ++ [rowI l0 ch a j q]) (rightI l0 ch i (j + 1))) ∧ Aside0 (Below w4.heap.size w4 w5) ∧ Aside0 (w5.heap[T]? = some (.cells (nums .i64 (termL x)).toArray 54 (0, 0))))
            case atStart => exact ⟨0, by omega, by omega, rfl, HM8, HB8, HT8⟩
            case round =>
              obtain ⟨q, hq, hgg3, rfl, HMq, HBq, HTq⟩ := hrel
              clear HM8 HB8 HT8
              obtain ⟨wD, hwD⟩ : ∃ wD, wD = wr := ⟨_, rfl⟩
              subst hwD
              by_cases hqn : q < ch.length
              case pos =>
                have hqn2 : (q : Int) < (ch.length : Int) := by omega
                obtain ⟨ad3, e1, hx3⟩ := Kd.at_int (Kd.C_below HC4.out HBq.out) (q : Int) (by omega) (by omega)
                cases e1
                have hrd : rd ch (q : Int) = ch.getD q 0 := rfl
                rw [hrd, Int.toNat_natCast] at hx3
                clear hrd
                obtain ⟨b, hb⟩ : ∃ b, b = ch.getD q 0 := ⟨_, rfl⟩
                rw [← hb] at hx3
                have hbb : 0 ≤ b ∧ b < 5 := HCH.out.2 b (by rw [hb, List.getD_eq_getElem?_getD, List.getElem?_eq_getElem hqn]; exact List.getElem_mem hqn)
                obtain ⟨hb0, hb5⟩ := hbb
                have HBB := Aside0.mk hb
                clear hb
                have hgi : (gs ++ [wA.heap.size]).getD i 0 = wA.heap.size := by simp [List.getD_eq_getElem?_getD, HLEN.out]
                have hri : ((matOf l0 ch).take i ++ [rowI l0 ch a j q]).getD i [] = rowI l0 ch a j q := by
                  have : ((matOf l0 ch).take i).length = i := by simp [matOf_len]; omega
                  rw [List.getD_eq_getElem?_getD, List.getElem?_append_right (by omega), this]
                  simp
                have hri2 : ((matOf l0 ch).take i ++ [rowI l0 ch a j q]).set i (rowI l0 ch a j (q + 1)) = (matOf l0 ch).take i ++ [rowI l0 ch a j (q + 1)] := by
                  have : ((matOf l0 ch).take i).length = i := by simp [matOf_len]; omega
                  rw [List.set_append_right _ _ (by omega), this]
                  simp
                have hil : i < (gs ++ [wA.heap.size]).length := by simp [HLEN.out]
                have hch := HMq.out.hd.cell hil
                rw [hgi] at hch
                have hrw := (HMq.out.row i hil).1
                rw [hgi, hri] at hrw
                have hce := hrw.cell (i := q) (by rw [rowI_len]; exact hqn)
                rw [rowI_get l0 ch a j q hqn, ← HBB.out] at hce
                have hfe := hrw.frozen q
                have hct := arr5 (xs := termL x) HTq.out a (by simp [termL]; omega)
                have hctb := arr5 (xs := termL x) HTq.out b (by simp [termL]; omega)
                have hia : ∀ W, (Instr.indexAt 54 (.pointer (some ⟨T, 0, none⟩)) (.int .i64 a)).run Try.prog W = .ok (.pointer (some ⟨T, a.toNat, none⟩)) W := by
                  intro W
                  rcases (show a = 0 ∨ a = 1 ∨ a = 2 ∨ a = 3 ∨ a = 4 by omega) with rfl | rfl | rfl | rfl | rfl <;> kernel_rfl
                have hib : ∀ W, (Instr.indexAt 54 (.pointer (some ⟨T, 0, none⟩)) (.int .i64 b)).run Try.prog W = .ok (.pointer (some ⟨T, b.toNat, none⟩)) W := by
                  intro W
                  rcases (show b = 0 ∨ b = 1 ∨ b = 2 ∨ b = 3 ∨ b = 4 by omega) with rfl | rfl | rfl | rfl | rfl <;> kernel_rfl
                obtain ⟨ta, hta⟩ : ∃ ta, ta = (termL x).getD a.toNat 0 := ⟨_, rfl⟩
                obtain ⟨tb, htb⟩ : ∃ tb, tb = (termL x).getD b.toNat 0 := ⟨_, rfl⟩
                rw [← hta] at hct
                rw [← htb] at hctb
                have HTA := Aside0.mk hta
                have HTB := Aside0.mk htb
                clear hta htb
                obtain ⟨ra, hra⟩ : ∃ ra, ra = dotT (List.take j l0) a b := ⟨_, rfl⟩
                rw [← hra] at hce
                have HRA := Aside0.mk hra
                have HRI := Aside0.mk hri
                have HRI2 := Aside0.mk hri2
                have HGI := Aside0.mk hgi
                clear hra hri hri2 hgi hil hrw
                go_wp2
                go_region
                have hv9 : wrap64 (ra + wrap64 (ta * tb)) = dotT (l0.take (j + 1)) a (ch.getD q 0) := by
                  rw [HRA.out, HTA.out, HTB.out, HX.out, ← HBB.out]
                  exact dotT_step l0 a b hl HOK.out ha0 ha5 hb0 hb5 j hjn
                have hM9 := (HMq.out.setEntry (i := i) (by simp [HLEN.out]) q (wrap64 (ra + wrap64 (ta * tb)))).drewn
                rw [HRI.out, HGI.out, show (rowI l0 ch a j q).set q (wrap64 (ra + wrap64 (ta * tb))) = rowI l0 ch a j (q + 1) from by rw [hv9]; exact rowI_set l0 ch a j q hqn, HRI2.out] at hM9
                have hB9 := below_drew (HBq.out.setCell (p := ⟨wA.heap.size, q, none⟩) HBI.out.size (.int .i64 (wrap64 (ra + wrap64 (ta * tb)))))
                have hT9 := blk_drew (blk_far (p := ⟨wA.heap.size, q, none⟩) HTq.out HTNE.out.2 (.int .i64 (wrap64 (ra + wrap64 (ta * tb)))))
                clear hv9 hce hfe hct hctb hch
                generalize (wD.setCell ⟨wA.heap.size, q, none⟩ (.int .i64 (wrap64 (ra + wrap64 (ta * tb))))).drew = w9 at *
                have HM9 := Aside0.mk hM9
                have HB9 := Aside0.mk hB9
                have HT9 := Aside0.mk hT9
                clear hM9 hB9 hT9
                go_wp2
                go_roundg (ch.length - (q + 1))
                case measure => omega
                case rel => exact ⟨q + 1, by omega, by omega, by go_num, HM9, HB9, HT9⟩
              case neg =>
                obtain rfl : q = ch.length := by omega
                go_wp2
                go_roundg (l0.length - (j + 1))
                case measure => omega
                case rel => exact ⟨j + 1, by omega, by omega, by go_num, ⟨by have := HMq.out; rw [rowI_next] at this; exact this⟩, HBq⟩
          case neg =>
            obtain rfl : j = l0.length := by omega
            go_wp2
            go_roundg (ch.length - (i + 1))
            case measure => omega
            case rel => exact ⟨i + 1, gs ++ [wA.heap.size], by omega, by omega, by go_num, ⟨by have := HMj.out; rw [HA.out, matOf_snoc l0 ch i hin, rightI_end l0 ch i hin] at this; exact this⟩, HBj⟩
      case neg =>
        obtain rfl : i = ch.length := by omega
        have hME : MatSt wA w4.heap.size Gm Gr ch.length gs (matOf l0 ch) (rightOf l0 ch) := by
          have := HMi.out
          rw [List.take_of_length_le (by rw [matOf_len]; exact Nat.le_refl _), List.take_of_length_le (by rw [rightOf_len]; exact Nat.le_refl _), Nat.sub_self] at this
          simpa using this
        have hTf := HT.out
        unfold fitTail at hTf
        rw [if_pos ⟨⟨hl, HOK.out⟩, HCH.out⟩] at hTf
        have hml : (matOf l0 ch).length = ch.length := matOf_len l0 ch
        have hrl : (rightOf l0 ch).length = ch.length := rightOf_len l0 ch
        have hrows : ∀ x ∈ matOf l0 ch, x.length = (matOf l0 ch).length := by
          intro x hx
          simp only [matOf, List.mem_map] at hx
          obtain ⟨_, _, rfl⟩ := hx
          simp [matOf]
        generalize matOf l0 ch = mat at *
        generalize rightOf l0 ch = right at *
        have hdet := det_some mat (by omega) hrows
        obtain ⟨den, hden⟩ : ∃ den, den = detOf mat := ⟨_, rfl⟩
        rw [← hden] at hdet hTf
        have hcD := dam_determinant.calls (some ⟨Gm, 0, none⟩) ch.length mat den wA (by rw [hml]; exact hME.C hml (by omega)) (by omega) hdet
        rw [hml] at hcD
        have HCD := Aside0.mk hcD
        have HME := Aside0.mk hME
        have HML := Aside0.mk hml
        have HRL := Aside0.mk hrl
        have HRW := Aside0.mk hrows
        have HBL5 := Aside0.mk (blk_below HBL4.out HBi.out)
        clear hcD hME hml hrl hrows hdet hden HMi HM HBM HBL HB1 HB2 HB3 H1 H2 H3 H4 HR0 HC0
        by_cases hd0 : den = 0
        case pos =>
          rw [if_pos hd0] at hTf
          simp only [Option.some.injEq, Prod.mk.injEq] at hTf
          obtain ⟨rfl, rfl, rfl, rfl, rfl, rfl, rfl⟩ := hTf
          subst hd0
          clear HT
          go_wp2_with (go_at_call 82; refine HCD.out.mono ?_; rintro e' w10 ⟨rfl, hb10⟩; have hbl := blk_alloc (blk_below HBL5.out hb10) (.cells #[.int .i64 0, .int .i64 0, .int .i64 0, .int .i64 0, .int .i64 0, .int .i64 0] 69); have hx0 := (blk_cell hbl 0).trans rfl; have hx1 := (blk_cell hbl 1).trans rfl; have hx2 := (blk_cell hbl 2).trans rfl; have hx3 := (blk_cell hbl 3).trans rfl; have hx4 := (blk_cell hbl 4).trans rfl; have hx5 := (blk_cell hbl 5).trans rfl; have hf0 := blk_frozen hbl 0; have hf1 := blk_frozen hbl 1; have hf2 := blk_frozen hbl 2; have hf3 := blk_frozen hbl 3; have hf4 := blk_frozen hbl 4; have hf5 := blk_frozen hbl 5; have HBL6 := Aside0.mk hbl; have HB10 := Aside0.mk (below_alloc (below_step (below_weaken HB4.out HB4.out.size HBi.out) hb10) (.cells #[.int .i64 0, .int .i64 0, .int .i64 0, .int .i64 0, .int .i64 0, .int .i64 0] 69)); have hc10 := (blk_cell (blk_new w10 (.cells #[.int .i64 0, .int .i64 0, .int .i64 0, .int .i64 0, .int .i64 0, .int .i64 0] 69)) 0).trans rfl; clear hbl hb10)
          have hbl := HBL6.out
          refine bodyPost_ret (results_ct rfl _ _ w.heap.size 69 #[.int .i64 0, .int .i64 0, .int .i64 0, .int .i64 0, .int .i64 0, .int .i64 0] (0, 0) _ rfl (blk_put (blk_put (blk_put (blk_put (blk_put (blk_put hbl 0 _ rfl) 1 _ rfl) 2 _ rfl) 3 _ rfl) 4 _ rfl) 5 _ rfl) Try.underlying69 (by rfl) (by rfl)) rfl ⟨rfl, ?_⟩
          exact below_set (below_set (below_set (below_set (below_set (below_set HB10.out (Nat.le_refl _)) (Nat.le_refl _)) (Nat.le_refl _)) (Nat.le_refl _)) (Nat.le_refl _)) (Nat.le_refl _)
        case neg =>
          rw [if_neg hd0] at hTf
          have hdb : (den == 0) = false := beq_eq_false_iff_ne.mpr hd0
          have HTF := Aside0.mk hTf
          have HD0 := Aside0.mk hd0
          clear hTf hd0 HT
          go_wp2_with (go_at_call 82; refine HCD.out.mono ?_; rintro e' w10 ⟨rfl, hb10⟩; have HB10 := Aside0.mk (below_weaken HBi.out HBi.out.size hb10); have HM10 := Aside0.mk (HME.out.below hb10); have HBL6 := Aside0.mk (blk_below HBL5.out hb10); have hc10 := (blk_cell (blk_new w10 (.cells #[.int .i64 den, .int .i64 0, .int .i64 0, .int .i64 0, .int .i64 0, .int .i64 0] 69)) 0).trans rfl; clear hb10)
          have HFN : Aside0 ((w10.alloc (.cells #[.int .i64 den, .int .i64 0, .int .i64 0, .int .i64 0, .int .i64 0, .int .i64 0] 69)).heap[w10.heap.size]? = some (.cells (nums .i64 (den :: partsTo mat right ch 0)).toArray 69 (0, 0))) := ⟨blk_new w10 _⟩
          go_loopg [113] ch.length (fun gg s113 w5 => ∃ (q : Nat), q ≤ ch.length ∧ ch.length - q ≤ gg ∧ s113 = .int .i64 q ∧ Aside0 (w5.heap[w10.heap.size]? = some (.cells (nums .i64 (den :: partsTo mat right ch q)).toArray 69 (0, 0))) ∧ Aside0 (Below w10.heap.size w10 w5))
          case atStart => exact ⟨0, by omega, by omega, rfl, HFN, ⟨below_alloc (Below.refl _ _) _⟩⟩
          case round =>
            obtain ⟨q, hq, hgg4, rfl, HFQ, HBQ⟩ := hrel
            clear hc10 HFN HBi
            obtain ⟨wG, hwG⟩ : ∃ wG, wG = wr := ⟨_, rfl⟩
            subst hwG
            by_cases hqn : q < ch.length
            case pos =>
              have hqn2 : (q : Int) < (ch.length : Int) := by omega
              have HBG := Aside0.mk (below_weaken HB10.out HB10.out.size HBQ.out)
              obtain ⟨ad, e1, hx1⟩ := Kd.at_int (Kd.C_below HC4.out HBG.out) (q : Int) (by omega) (by omega)
              cases e1
              have hrd : rd ch (q : Int) = ch.getD q 0 := rfl
              rw [hrd, Int.toNat_natCast] at hx1
              clear hrd
              obtain ⟨a, ha⟩ : ∃ a, a = ch.getD q 0 := ⟨_, rfl⟩
              rw [← ha] at hx1
              have hab : 0 ≤ a ∧ a < 5 := HCH.out.2 a (by rw [ha, List.getD_eq_getElem?_getD, List.getElem?_eq_getElem hqn]; exact List.getElem_mem hqn)
              obtain ⟨ha0, ha5⟩ := hab
              obtain ⟨an, han⟩ : ∃ an : Nat, a = (an : Int) := ⟨a.toNat, by omega⟩
              have HA := Aside0.mk ha
              clear ha
              subst han
              have HOM := Aside0.mk (OwnSt.made wG w10.heap.size ch.length)
              have HBO := Aside0.mk (below_alloc (Below.refl _ wG) (.cells (madeCells #[.slice none 0 0] ch.length) 22))
              go_wp2
              go_loopg [123] ch.length (fun gg s123 w5 => ∃ (i : Nat) (hs : List (Nat × Nat)), i ≤ ch.length ∧ ch.length - i ≤ gg ∧ s123 = .int .i64 i ∧ Aside0 (OwnSt w5 w10.heap.size wG.heap.size ch.length hs ((ownOf mat right q).take i)) ∧ Aside0 (Below wG.heap.size wG w5))
              case atStart => exact ⟨0, [], by omega, by omega, rfl, ⟨by simpa using HOM.out⟩, HBO⟩
              case round =>
                obtain ⟨i, hs, hi, hgg5, rfl, HOI, HBI⟩ := hrel
                clear HOM HBO hx1
                obtain ⟨wI, hwI⟩ : ∃ wI, wI = wr := ⟨_, rfl⟩
                subst hwI
                have hol : (ownOf mat right q).length = ch.length := by rw [ownOf_len _ _ _ (by rw [HML.out, HRL.out]), HML.out]
                have HOL := Aside0.mk hol
                clear hol
                have HBQI := Aside0.mk (below_weaken HBQ.out HBQ.out.size HBI.out)
                by_cases hin : i < ch.length
                case pos =>
                  have hin2 : (i : Int) < (ch.length : Int) := by omega
                  have hM := HM10.out.below HBQI.out
                  have hhs : hs.length = i := by have := HOI.out.len; rw [List.length_take, HOL.out, Nat.min_eq_left hi] at this; exact this
                  have hgl : i < gs.length := by have := hM.len; rw [HML.out] at this; omega
                  have hch := hM.hd.cell hgl
                  have hrow := hM.row i hgl
                  have hrC := hrow.1.C (by rw [hrow.2.1]; omega)
                  have hcl := slices_Clone_int_int.calls (some ⟨gs.getD i 0, 0, none⟩) ch.length (mat.getD i []) (mat.getD i []) wI hrC (by rw [hrow.2.1]; exact Nat.le_refl _) (by unfold slices_Clone_int_int.f; rw [if_pos (by rw [hrow.2.1]; omega)])
                  rw [hrow.2.1] at hcl
                  have HCL := Aside0.mk hcl
                  have HRO := Aside0.mk hrow
                  have HHS := Aside0.mk hhs
                  have HM := Aside0.mk hM
                  clear hcl hrow hrC hM hhs
                  generalize gs.getD i 0 = gi at *
                  go_upto_region 34 with (go_at_call 73; refine HCL.out.mono ?_; rintro e' w11 ⟨v11, rfl, hR11, hb11⟩; obtain ⟨g, cap, ev, hgb, hgl11, _⟩ := Kd.R_form hR11 (by have := HRO.out.2.1; omega); rw [HRO.out.2.1] at ev; subst ev; have hO11 := HOI.out.below hb11; have hfree := hO11.free (by rw [HHS.out]; exact hin); rw [HHS.out] at hfree; have hfz := blk_frozen hO11.hd i; have HR11 := Aside0.mk hR11; have HB11 := Aside0.mk hb11; have HO11 := Aside0.mk hO11; clear hR11 hb11 hO11 hgl11)
                  have hgb2 : wG.heap.size ≠ g := by have h1 := blk_lt HOI.out.hd; have h2 : wI.heap.size ≤ g := hgb; omega
                  have hcO : (w11.setCell ⟨wG.heap.size, i, none⟩ (.slice (some ⟨g, 0, none⟩) ch.length cap)).cell? ⟨wG.heap.size, i, none⟩ = some (.slice (some ⟨g, 0, none⟩) ch.length cap) := by
                    refine (blk_cell (blk_set HO11.out.hd i _) i).trans ?_
                    have : i < (hs.map (fun p => Value.slice (some ⟨p.1, 0, none⟩) ch.length p.2) ++ List.replicate (ch.length - hs.length) (Value.slice none 0 0)).length := by simp; have := HHS.out; omega
                    rw [List.setIfInBounds_toArray, List.getElem?_toArray, List.getElem?_set_self this]
                  have hR12 := Kd.R_set HR11.out HO11.out.hd int_ne i (.slice (some ⟨g, 0, none⟩) ch.length cap)
                  have hcg := Kd.R_celln 0 hR12 (q : Int) (by omega) hqn2
                  rw [Int.toNat_natCast] at hcg
                  obtain ⟨hcg, hfg⟩ := hcg
                  have hM11 := HM.out.below HB11.out
                  have hrt : IntBlk (w11.setCell ⟨wG.heap.size, i, none⟩ (.slice (some ⟨g, 0, none⟩) ch.length cap)) Gr right := hM11.rt.far (by have h1 := HM10.out.rt.lt; have h2 := HBQ.out.size; omega) _ _
                  have hcr := hrt.cell (i := i) (by rw [HRL.out]; exact hin)
                  have hON := HOI.out.next (by rw [HHS.out]; exact hin) HB11.out HR11.out HBQI.out.size q (right.getD i 0)
                  rw [HHS.out, ownOf_snoc mat right q i (by rw [HML.out]; exact hin) (by rw [HML.out, HRL.out])] at hON
                  have HON := Aside0.mk hON
                  have HBN := Aside0.mk (below_drew ((below_set (below_step HBI.out HB11.out) (Nat.le_refl _) (j := i) (v := .slice (some ⟨g, 0, none⟩) ch.length cap)).setCell (p := ⟨g, q, none⟩) (by have h1 := HBI.out.size; have h2 : wI.heap.size ≤ g := hgb; show wG.heap.size ≤ g; omega) (.int .i64 (right.getD i 0))))
                  clear hON hR12 hM11 hrt hfree hfz hch
                  generalize w11.setCell ⟨wG.heap.size, i, none⟩ (.slice (some ⟨g, 0, none⟩) ch.length cap) = w12 at *
                  go_region
                  go_wp2
                  go_roundg (ch.length - (i + 1))
                  case measure => omega
                  case rel => exact ⟨i + 1, hs ++ [(g, cap)], by omega, by omega, by go_num, HON, HBN⟩
                case neg =>
                  obtain rfl : i = ch.length := by omega
                  have hON := HOI.out
                  rw [List.take_of_length_le (by rw [HOL.out]; exact Nat.le_refl _)] at hON
                  have hrws : ∀ x ∈ ownOf mat right q, x.length = (ownOf mat right q).length := by
                    intro x hx
                    obtain ⟨m, hm, rfl⟩ := List.getElem_of_mem hx
                    have hr := (hON.row m (by rw [hON.len]; exact hm)).1
                    rw [List.getD_eq_getElem?_getD, List.getElem?_eq_getElem hm] at hr
                    rw [HOL.out]
                    exact hr
                  have hcD := dam_determinant.calls (some ⟨wG.heap.size, 0, none⟩) ch.length (ownOf mat right q) (detOf (ownOf mat right q)) wI (by rw [HOL.out]; exact hON.C HOL.out (by omega)) (by rw [HOL.out]; exact Nat.le_refl _) (det_some _ (by rw [HOL.out]; omega) hrws)
                  rw [HOL.out] at hcD
                  have HCD2 := Aside0.mk hcD
                  have hst : partsTo mat right ch (q + 1) = (partsTo mat right ch q).set an (detOf (ownOf mat right q)) := by
                    simp only [partsTo]
                    rw [← HA.out, Int.toNat_natCast]
                  have HST := Aside0.mk hst
                  clear hcD hrws hON hst
                  obtain ⟨dq, hdq⟩ : ∃ dq, dq = detOf (ownOf mat right q) := ⟨_, rfl⟩
                  rw [← hdq] at HCD2 HST
                  clear hdq
                  have hia := fun W => idx6 w10.heap.size an (by omega) W
                  go_wp2_with (go_at_call 82; refine HCD2.out.mono ?_; rintro e' w13 ⟨rfl, hb13⟩; have hF13 := blk_below (blk_below HFQ.out HBI.out) hb13; have hcF := fit_cell hF13 an (by rw [partsTo_len]; omega); have hfF := blk_frozen hF13 (1 + an); have hFN := fit_put hF13 an dq; rw [← HST.out] at hFN; have HFN := Aside0.mk hFN; have HB13 := Aside0.mk ((below_weaken HBQI.out HBQI.out.size hb13).setCell (p := ⟨w10.heap.size, 1 + an, none⟩) (Nat.le_refl _) (.int .i64 dq)); clear hF13 hFN hb13)
                  go_roundg (ch.length - (q + 1))
                  case measure => omega
                  case rel => exact ⟨q + 1, by omega, by omega, by go_num, HFN, HB13⟩
            case neg =>
              obtain rfl : q = ch.length := by omega
              have HBW := Aside0.mk (below_weaken (below_weaken HB4.out HB4.out.size HB10.out) (Nat.le_trans HB4.out.size HB10.out.size) HBQ.out)
              have HRES := Aside0.mk (blk_below HBL6.out HBQ.out)
              have hFb := HFQ.out
              have hTf := HTF.out
              obtain ⟨p0, p1, p2, p3, p4, hp⟩ := five _ (partsTo_len mat right ch ch.length)
              rw [hp] at hFb hTf
              replace hFb : wG.heap[w10.heap.size]? = some (.cells #[.int .i64 den, .int .i64 p0, .int .i64 p1, .int .i64 p2, .int .i64 p3, .int .i64 p4] 69 (0, 0)) := hFb
              replace hTf := Option.bind_eq_some_iff.mp hTf
              obtain ⟨g, hg, hTf⟩ := hTf
              by_cases hg0 : g = 0
              · rw [if_pos hg0] at hTf
                exact absurd hTf (by simp)
              rw [if_neg hg0] at hTf
              replace hTf := Option.bind_eq_some_iff.mp hTf
              obtain ⟨e, he, hTf⟩ := hTf
              have HG := Aside0.mk hg
              have HE := Aside0.mk he
              have HTF2 := Aside0.mk hTf
              have hcF0 := (blk_cell hFb 0).trans rfl
              have hcF1 := (blk_cell hFb 1).trans rfl
              have hcF2 := (blk_cell hFb 2).trans rfl
              have hcF3 := (blk_cell hFb 3).trans rfl
              have hcF4 := (blk_cell hFb 4).trans rfl
              have hcF5 := (blk_cell hFb 5).trans rfl
              have HFB := Aside0.mk hFb
              clear hg he hTf hFb hp HFQ HTF HM10 HML HRL HRW HCD HME
              go_upto_region 39 with (go_at_call 83; refine (dam_divisor.calls den p0 p1 p2 p3 p4 g _ HG.out).mono ?_; rintro e' w14 ⟨rfl, hb14⟩; have hF14 := blk_below HFB.out hb14; have HF14 := Aside0.mk hF14; have HB14 := Aside0.mk hb14; clear hb14 hF14)
              clear hcF0 hcF1 hcF2 hcF3 hcF4 hcF5
              have hcd := (blk_cell HF14.out 0).trans rfl
              have hfd := blk_frozen HF14.out 0
              have hgb : (g == 0) = false := beq_eq_false_iff_ne.mpr hg0
              go_wp2
              have HF15 : Aside0 ((w14.setCell ⟨w10.heap.size, 0, none⟩ (.int .i64 (wrap64 (Int.tdiv den g)))).heap[w10.heap.size]? = some (.cells (nums .i64 (reduced den g :: redTo [p0, p1, p2, p3, p4] g 0)).toArray 69 (0, 0))) := ⟨blk_put HF14.out 0 _ rfl⟩
              have HB15 := Aside0.mk (Below.setCell (p := ⟨w10.heap.size, 0, none⟩) (below_weaken HBQ.out HBQ.out.size HB14.out) (Nat.le_refl _) (.int .i64 (wrap64 (Int.tdiv den g))))
              clear hcd hfd
              go_loopg [157] 5 (fun gg s157 w5 => ∃ (m : Nat), m ≤ 5 ∧ 5 - m ≤ gg ∧ s157 = .int .i64 m ∧ Aside0 (w5.heap[w10.heap.size]? = some (.cells (nums .i64 (reduced den g :: redTo [p0, p1, p2, p3, p4] g m)).toArray 69 (0, 0))) ∧ Aside0 (Below w10.heap.size w10 w5))
              case atStart => exact ⟨0, by omega, by omega, rfl, HF15, HB15⟩
              case round =>
                obtain ⟨m, hm, hgg6, rfl, HFM, HBM2⟩ := hrel
                clear HF15 HB15
                by_cases hmn : m < 5
                case pos =>
                  have hmn2 : (m : Int) < 5 := by omega
                  have hcm := fit_cell HFM.out m (by rw [redTo_len]; exact hmn)
                  rw [redTo_get _ _ _ (by exact hmn)] at hcm
                  have hfm := blk_frozen HFM.out (1 + m)
                  have hia := fun W => idx6 w10.heap.size m hmn W
                  have hFN := fit_put HFM.out m (reduced ([p0, p1, p2, p3, p4].getD m 0) g)
                  rw [redTo_set _ _ _ (by exact hmn)] at hFN
                  have HFN2 := Aside0.mk hFN
                  have HBN2 := Aside0.mk (Below.setCell (p := ⟨w10.heap.size, 1 + m, none⟩) HBM2.out (Nat.le_refl _) (.int .i64 (reduced ([p0, p1, p2, p3, p4].getD m 0) g)))
                  clear hFN
                  obtain ⟨pm, hpm⟩ : ∃ pm, pm = [p0, p1, p2, p3, p4].getD m 0 := ⟨_, rfl⟩
                  rw [← hpm] at hcm HFN2 HBN2
                  clear hpm
                  go_wp2
                  go_roundg (5 - (m + 1))
                  case measure => omega
                  case rel => exact ⟨m + 1, by omega, by omega, by go_num, HFN2, HBN2⟩
                case neg =>
                  obtain rfl : m = 5 := by omega
                  have hFb : wr.heap[w10.heap.size]? = some (.cells #[.int .i64 (reduced den g), .int .i64 (reduced p0 g), .int .i64 (reduced p1 g), .int .i64 (reduced p2 g), .int .i64 (reduced p3 g), .int .i64 (reduced p4 g)] 69 (0, 0)) := HFM.out
                  have hTf := HTF2.out
                  have hE := HE.out
                  generalize reduced den g = d0 at *
                  generalize reduced p0 g = q0 at *
                  generalize reduced p1 g = q1 at *
                  generalize reduced p2 g = q2 at *
                  generalize reduced p3 g = q3 at *
                  generalize reduced p4 g = q4 at *
                  have hcF0 := (blk_cell hFb 0).trans rfl
                  have hcF1 := (blk_cell hFb 1).trans rfl
                  have hcF2 := (blk_cell hFb 2).trans rfl
                  have hcF3 := (blk_cell hFb 3).trans rfl
                  have hcF4 := (blk_cell hFb 4).trans rfl
                  have hcF5 := (blk_cell hFb 5).trans rfl
                  have HFB2 := Aside0.mk hFb
                  have HE2 := Aside0.mk hE
                  have HRES2 := Aside0.mk (blk_below HBL6.out HBM2.out)
                  have HW10 := below_weaken HB4.out HB4.out.size HB10.out
                  have HWR := Aside0.mk (below_weaken HW10 HW10.size HBM2.out)
                  clear HW10
                  clear hFb hE HFM HF14 HFB HE
                  by_cases he0 : e = 0
                  case pos =>
                    rw [if_pos he0] at hTf
                    simp only [Option.some.injEq, Prod.mk.injEq] at hTf
                    obtain ⟨rfl, rfl, rfl, rfl, rfl, rfl, rfl⟩ := hTf
                    subst he0
                    go_wp2_with (go_at_call 84; refine (dam_fitErr.calls d0 q0 q1 q2 q3 q4 0 _ HE2.out).mono ?_; rintro e' w16 ⟨rfl, hb16⟩; have hbl := blk_below HRES2.out hb16; have hF16 := blk_below HFB2.out hb16; have hd0 := (blk_cell hF16 0).trans rfl; have hd1 := (blk_cell hF16 1).trans rfl; have hd2 := (blk_cell hF16 2).trans rfl; have hd3 := (blk_cell hF16 3).trans rfl; have hd4 := (blk_cell hF16 4).trans rfl; have hd5 := (blk_cell hF16 5).trans rfl; have hx0 := (blk_cell hbl 0).trans rfl; have hx1 := (blk_cell hbl 1).trans rfl; have hx2 := (blk_cell hbl 2).trans rfl; have hx3 := (blk_cell hbl 3).trans rfl; have hx4 := (blk_cell hbl 4).trans rfl; have hx5 := (blk_cell hbl 5).trans rfl; have hf0 := blk_frozen hbl 0; have hf1 := blk_frozen hbl 1; have hf2 := blk_frozen hbl 2; have hf3 := blk_frozen hbl 3; have hf4 := blk_frozen hbl 4; have hf5 := blk_frozen hbl 5; have HBL7 := Aside0.mk hbl; have HB16 := Aside0.mk (below_step HWR.out hb16); clear hbl hb16 hF16)
                    have hbl := HBL7.out
                    refine bodyPost_ret (results_ct rfl _ _ w.heap.size 69 #[.int .i64 d0, .int .i64 q0, .int .i64 q1, .int .i64 q2, .int .i64 q3, .int .i64 q4] (0, 0) _ rfl (blk_put (blk_put (blk_put (blk_put (blk_put (blk_put hbl 0 _ rfl) 1 _ rfl) 2 _ rfl) 3 _ rfl) 4 _ rfl) 5 _ rfl) Try.underlying69 (by rfl) (by rfl)) rfl ⟨rfl, ?_⟩
                    exact below_set (below_set (below_set (below_set (below_set (below_set HB16.out (Nat.le_refl _)) (Nat.le_refl _)) (Nat.le_refl _)) (Nat.le_refl _)) (Nat.le_refl _)) (Nat.le_refl _)
                  case neg =>
                    rw [if_neg he0] at hTf
                    simp only [Option.some.injEq, Prod.mk.injEq] at hTf
                    obtain ⟨rfl, rfl, rfl, rfl, rfl, rfl, rfl⟩ := hTf
                    have heb : (e != 0) = true := bne_iff_ne.2 he0
                    go_wp2_with (go_at_call 84; refine (dam_fitErr.calls d0 q0 q1 q2 q3 q4 e _ HE2.out).mono ?_; rintro e' w16 ⟨rfl, hb16⟩; have hbl := blk_below HRES2.out hb16; have hF16 := blk_below HFB2.out hb16; have hd0 := (blk_cell hF16 0).trans rfl; have hd1 := (blk_cell hF16 1).trans rfl; have hd2 := (blk_cell hF16 2).trans rfl; have hd3 := (blk_cell hF16 3).trans rfl; have hd4 := (blk_cell hF16 4).trans rfl; have hd5 := (blk_cell hF16 5).trans rfl; have hx0 := (blk_cell hbl 0).trans rfl; have hx1 := (blk_cell hbl 1).trans rfl; have hx2 := (blk_cell hbl 2).trans rfl; have hx3 := (blk_cell hbl 3).trans rfl; have hx4 := (blk_cell hbl 4).trans rfl; have hx5 := (blk_cell hbl 5).trans rfl; have hf0 := blk_frozen hbl 0; have hf1 := blk_frozen hbl 1; have hf2 := blk_frozen hbl 2; have hf3 := blk_frozen hbl 3; have hf4 := blk_frozen hbl 4; have hf5 := blk_frozen hbl 5; have HBL7 := Aside0.mk hbl; have HB16 := Aside0.mk (below_step HWR.out hb16); clear hbl hb16 hF16)
                    have hbl := HBL7.out
                    refine bodyPost_ret (results_ct rfl _ _ w.heap.size 69 #[.int .i64 0, .int .i64 0, .int .i64 0, .int .i64 0, .int .i64 0, .int .i64 0] (0, 0) _ rfl (blk_put (blk_put (blk_put (blk_put (blk_put (blk_put hbl 0 _ rfl) 1 _ rfl) 2 _ rfl) 3 _ rfl) 4 _ rfl) 5 _ rfl) Try.underlying69 (by rfl) (by rfl)) rfl ⟨rfl, ?_⟩
                    exact below_set (below_set (below_set (below_set (below_set (below_set HB16.out (Nat.le_refl _)) (Nat.le_refl _)) (Nat.le_refl _)) (Nat.le_refl _)) (Nat.le_refl _)) (Nat.le_refl _)
set_option maxHeartbeats 1000000 in
theorem dam_FitOf.calls (k : Nat) (A0 : Option Addr) (c0 : Nat) (l0 : List S53) (a1 : Int) (r1 : Int) (r2 : Int) (r3 : Int) (r4 : Int) (r5 : Int) (r6 : Int) (r7 : Int) (w : World) (hr0 : Kd.C k53 w A0 l0.length l0) (hc0 : l0.length ≤ c0) (h : dam_FitOf.f k l0 a1 = some (r1, r2, r3, r4, r5, r6, r7)) :
    Calls Try.prog 40 #[.slice A0 l0.length c0, .int .i64 a1] w fun e w' => e = .returned (.tuple #[.agg #[.int .i64 r1, .int .i64 r2, .int .i64 r3, .int .i64 r4, .int .i64 r5, .int .i64 r6], .int .i64 r7]) ∧ Below w.heap.size w w' := by
  unfold dam_FitOf.f at h
  replace h := Option.bind_eq_some_iff.mp h
  obtain ⟨e1, h1, h⟩ := h
  replace h := Option.bind_eq_some_iff.mp h
  obtain ⟨e2, h2, h⟩ := h
  replace h := Option.bind_eq_some_iff.mp h
  obtain ⟨e, h3, h⟩ := h
  by_cases he : e = 0
  · subst he
    rw [if_pos rfl] at h
    replace h := Option.bind_eq_some_iff.mp h
    obtain ⟨ch, h4, h⟩ := h
    have hg := h
    unfold fitTail at hg
    split at hg
    case isTrue hb => exact fitOf_ok k A0 c0 l0 a1 e1 e2 ch w hr0 hc0 h1 h2 h3 h4 hb.1.1 hb.1.2 hb.2 r1 r2 r3 r4 r5 r6 r7 h
    case isFalse => exact absurd hg (by simp)
  · rw [if_neg he] at h
    simp only [Option.some.injEq, Prod.mk.injEq] at h
    obtain ⟨rfl, rfl, rfl, rfl, rfl, rfl, rfl⟩ := h
    exact fitOf_err k A0 c0 l0 a1 e1 e2 e w hr0 hc0 h1 h2 h3 he
def dam_isLetter.f (a0 : Int) : Option (Bool) := (dam_within.f (wrap64 (a0)) 97 122).bind fun t345001 => (if t345001 = true then (some true) else ((dam_within.f (wrap64 (a0)) 65 90).bind fun t345002 => (some t345002)))
set_option maxHeartbeats 8000000 in
set_option maxRecDepth 100000 in
theorem dam_isLetter.calls (a0 : Int) (r : Bool) (w : World) (h : dam_isLetter.f a0 = some r) :
    Calls Try.prog 115 #[.int .u8 a0] w fun e w' => e = .returned (.bool r) ∧ Drawn0 w w' := by
  have H : ((dam_within.f (wrap64 (a0)) 97 122).bind fun t345001 => (if t345001 = true then (some true) else ((dam_within.f (wrap64 (a0)) 65 90).bind fun t345002 => (some t345002)))) = some r := h
  clear h
  replace H := Option.bind_eq_some_iff.mp H
  obtain ⟨t345001, A20, H⟩ := H
  replace H : (if t345001 = true then (some true) else ((dam_within.f (wrap64 (a0)) 65 90).bind fun t345002 => (some t345002))) = some r := H
  have A2 := Aside0.mk A20
  clear A20
  by_cases c3 : t345001 = true
  · subst c3
    have H1 : (some true) = some r := by rw [if_pos rfl] at H; exact H
    clear H
    have H := H1
    clear H1
    obtain rfl := Option.some.inj H
    go_enter Try.func115, Try.ntmps115
    go_wp2_with (first | ((with_reducible refine gate_callee (f := 65) rfl ?_); refine goesL_ (some 5) rfl rfl Try.func65 (by kernel_rfl) rfl #[.int .i64 (wrap64 (a0)), .int .i64 97, .int .i64 122] rfl mpa ?_; (with_reducible refine (dam_within.calls (wrap64 (a0)) 97 122 true _ A2.out).mono ?_); rintro e w' ⟨rfl, ⟨nd, rfl⟩⟩; refine ⟨_, rfl, ?_⟩))
    go_ret
    exact ⟨by first | rfl | (simp; done) | (simp [*]; done), by repeat (first | exact Drawn0.refl _ | apply Drawn0.step)⟩
  · replace c3 := Bool.eq_false_iff.mpr c3
    subst c3
    have H1 : ((dam_within.f (wrap64 (a0)) 65 90).bind fun t345002 => (some t345002)) = some r := by rw [if_neg (show ¬ (false = true) by decide)] at H; exact H
    clear H
    have H := H1
    clear H1
    replace H := Option.bind_eq_some_iff.mp H
    obtain ⟨t345002, A40, H⟩ := H
    replace H : (some t345002) = some r := H
    have A4 := Aside0.mk A40
    clear A40
    obtain rfl := Option.some.inj H
    go_enter Try.func115, Try.ntmps115
    go_wp2_with (first | ((with_reducible refine gate_callee (f := 65) rfl ?_); refine goesL_ (some 5) rfl rfl Try.func65 (by kernel_rfl) rfl #[.int .i64 (wrap64 (a0)), .int .i64 97, .int .i64 122] rfl mpa ?_; (with_reducible refine (dam_within.calls (wrap64 (a0)) 97 122 false _ A2.out).mono ?_); rintro e w' ⟨rfl, ⟨nd, rfl⟩⟩; refine ⟨_, rfl, ?_⟩) | (go_at_call 65; (with_reducible refine (dam_within.calls (wrap64 (a0)) 65 90 t345002 _ A4.out).mono ?_); rintro e w' ⟨rfl, ⟨nd, rfl⟩⟩))
    go_ret
    exact ⟨by first | rfl | (simp; done) | (simp [*]; done), by repeat (first | exact Drawn0.refl _ | apply Drawn0.step)⟩
def isLetB (c : Int) : Bool := (decide (97 ≤ c) && decide (c ≤ 122)) || (decide (65 ≤ c) && decide (c ≤ 90))
def isDigB (c : Int) : Bool := decide (48 ≤ c) && decide (c ≤ 57)
def nameCh (i : Nat) (c : Int) : Bool := isLetB c || (i != 0 && (c == 45 || isDigB c))
def nameOk (s : ByteArray) : Bool := (List.range s.size).all (fun i => nameCh i (bt s (i : Int))) && (decide (1 ≤ s.size) && decide (s.size ≤ 12))
def dam_isName.f (a0 : ByteArray) : Option Bool := if a0.size ≤ 4611686018427387904 then some (nameOk a0) else none
theorem isLet_f (c : Int) (h0 : 0 ≤ c) (h1 : c ≤ 255) : dam_isLetter.f c = some (isLetB c) := by
  unfold dam_isLetter.f dam_within.f isLetB
  rw [show wrap64 c = c from by unfold wrap64; omega]
  by_cases h2 : 97 ≤ c <;> by_cases h3 : c ≤ 122 <;> by_cases h4 : 65 ≤ c <;> simp [h2, h3, h4]
theorem within_f (a b c : Int) : dam_within.f a b c = some (decide (b ≤ a) && decide (a ≤ c)) := by
  unfold dam_within.f
  by_cases h : b ≤ a <;> simp [h]
theorem nameOk_bad (s : ByteArray) (i : Nat) (hi : i < s.size) (h : nameCh i (bt s (i : Int)) = false) : nameOk s = false := by
  have : (List.range s.size).all (fun i => nameCh i (bt s (i : Int))) = false := by
    rw [List.all_eq_false]
    exact ⟨i, List.mem_range.2 hi, by simp [h]⟩
  unfold nameOk
  rw [this]
  rfl
theorem nameOk_good (s : ByteArray) (h : ∀ j, j < s.size → nameCh j (bt s (j : Int)) = true) : nameOk s = (decide ((1 : Int) ≤ (s.size : Int)) && decide ((s.size : Int) ≤ 12)) := by
  have : (List.range s.size).all (fun i => nameCh i (bt s (i : Int))) = true := by
    rw [List.all_eq_true]
    intro i hi
    exact h i (List.mem_range.1 hi)
  unfold nameOk
  rw [this, Bool.true_and]
  congr 1 <;> exact decide_eq_decide.2 (by omega)
set_option maxHeartbeats 8000000 in
set_option maxRecDepth 100000 in
theorem dam_isName.calls (a0 : ByteArray) (r : Bool) (w : World) (h : dam_isName.f a0 = some r) :
    Calls Try.prog 98 #[.string a0] w fun e w' => e = .returned (.bool r) ∧ Below w.heap.size w w' := by
  have hh : a0.size ≤ 4611686018427387904 ∧ r = nameOk a0 := by
    unfold dam_isName.f at h
    split at h
    · exact ⟨by assumption, (Option.some.inj h).symm⟩
    · exact absurd h (by simp)
  clear h
  obtain ⟨hbig, hr⟩ := hh
  have HR := Aside0.mk hr
  clear hr
  have kc := fun W => run_bytes_of_string W 9 157 5 a0 Try.underlying9 Try.underlying157 Try.underlying5
  go_enter Try.func98, Try.ntmps98
  go_wp2
  go_loopg [8] a0.size (fun gg s8 w5 => ∃ (i : Nat), i ≤ a0.size ∧ a0.size - i ≤ gg ∧ s8 = .int .i64 i ∧ Aside0 (∀ j, j < i → nameCh j (bt a0 (j : Int)) = true) ∧ Aside0 (∀ j, j < a0.size → w5.cell? ⟨w.heap.size, j, none⟩ = some (.int .u8 (bt a0 (j : Int)))) ∧ Aside0 (Below w.heap.size w w5))
  case atStart =>
    refine ⟨0, by omega, by omega, rfl, ⟨fun j hj => absurd hj (by omega)⟩, ⟨fun j hj => ?_⟩, ⟨?_⟩⟩
    · have hn := blk_new w (.cells (bytesRow a0 (grownCap w a0.size 0 5)) 5 ((bytesRow a0 (grownCap w a0.size 0 5)).size, (bytesRow a0 (grownCap w a0.size 0 5)).size + 1))
      refine (cell_of_row _ _ j _ _ _ (blk_drew hn)).trans ((bytesRow_at a0 _ j hj).trans ?_)
      have : bt a0 (j : Int) = ((a0.data[j]'hj).toNat : Int) := by
        unfold bt
        simp only [Int.toNat_natCast]
        rw [dif_pos hj]
        rfl
      rw [this]
    · exact below_drew (below_alloc (Below.refl _ _) _)
  case round =>
    obtain ⟨i, hi, hgg, rfl, HJ, HC, HB⟩ := hrel
    by_cases hin : i < a0.size
    case pos =>
      have hin2 : (i : Int) < (a0.size : Int) := by omega
      have hx := HC.out i hin
      have hrg := bt_range a0 (i : Int)
      obtain ⟨c, hc⟩ : ∃ c, c = bt a0 (i : Int) := ⟨_, rfl⟩
      rw [← hc] at hx hrg
      obtain ⟨hc0, hc255⟩ := hrg
      have HCC := Aside0.mk hc
      clear hc
      have HL := Aside0.mk (isLet_f c hc0 hc255)
      obtain ⟨lb, hlb⟩ : ∃ lb, lb = isLetB c := ⟨_, rfl⟩
      rw [← hlb] at HL
      have HLB := Aside0.mk hlb
      have HD := Aside0.mk (within_f c 48 57)
      obtain ⟨db, hdb⟩ : ∃ db, db = (decide (48 ≤ c) && decide (c ≤ 57)) := ⟨_, rfl⟩
      rw [← hdb] at HD
      have HDB := Aside0.mk (show db = isDigB c from hdb)
      clear hlb hdb kc
      have hiz : i = 0 ∨ 0 < i := by omega
      have hcq : c = 45 ∨ c ≠ 45 := by omega
      rcases hiz with hiz | hiz <;> rcases hcq with hcq | hcq <;> cases lb <;> cases db
      all_goals
        (try have hz1 : ((i : Int) == 0) = true := by (subst hiz; rfl))
        (try have hz1 : ((i : Int) == 0) = false := beq_eq_false_iff_ne.mpr (by omega))
        (try have hz2 : (c != 45) = false := by (subst hcq; rfl))
        (try have hz2 : (c != 45) = true := bne_iff_ne.2 hcq)
        have HIZ := Aside0.mk hiz
        have HCQ := Aside0.mk hcq
        clear hiz hcq
        go_wp2_with (first | (go_at_call 115; refine (dam_isLetter.calls _ _ _ HL.out).mono ?_; rintro e w3 ⟨rfl, ⟨nd, rfl⟩⟩) | (go_at_call 65; refine (dam_within.calls _ _ _ _ _ HD.out).mono ?_; rintro e w3 ⟨rfl, ⟨nd2, rfl⟩⟩))
        first
          | (go_roundg (a0.size - (i + 1))
             case measure => omega
             case rel =>
               refine ⟨i + 1, by omega, by omega, by go_num, ⟨fun j hj => ?_⟩, ⟨fun j hj => HC.out j hj⟩, ⟨by repeat (first | exact HB.out | apply pw_below_drewN)⟩⟩
               by_cases hji : j = i
               · subst hji
                 have h1 := HIZ.out
                 have h2 := HCQ.out
                 rw [← HCC.out]
                 simp only [nameCh, ← HLB.out, ← HDB.out]
                 first | rfl | (simp [h2]; done) | (simp [h1]; omega) | (simp [h1, h2]; omega) | (simp; omega)
               · exact HJ.out j (by omega))
          | (go_ret
             refine ⟨?_, by repeat (first | exact HB.out | apply pw_below_drewN)⟩
             have hbad : nameCh i (bt a0 (i : Int)) = false := by
               have h1 := HIZ.out
               have h2 := HCQ.out
               rw [← HCC.out]
               simp only [nameCh, ← HLB.out, ← HDB.out]
               first | rfl | (simp [h2]; done) | (simp [h1]; done) | (simp [h1, h2]; done)
             rw [HR.out, nameOk_bad a0 i hin hbad]
             rfl)
    case neg =>
      obtain rfl : i = a0.size := by omega
      have HG := Aside0.mk (nameOk_good a0 HJ.out)
      have HW := Aside0.mk (within_f (a0.size : Int) 1 12)
      rw [← (HG.out), ← HR.out] at HW
      go_wp2_with (go_at_call 65; refine (dam_within.calls _ _ _ _ _ HW.out).mono ?_; rintro e w3 ⟨rfl, hb3⟩; have HB3 := Aside0.mk hb3.below; clear hb3)
      go_ret
      exact ⟨rfl, below_step HB.out HB3.out⟩
def dam_CheckRules_1.f (a0 : Int) : Option (Bool) := (dam_within.f a0 1 1000000).bind fun t285001 => (some t285001)
set_option maxHeartbeats 8000000 in
set_option maxRecDepth 100000 in
theorem dam_CheckRules_1.calls (a0 : Int) (r : Bool) (w : World) (h : dam_CheckRules_1.f a0 = some r) :
    Calls Try.prog 95 #[.int .i64 a0] w fun e w' => e = .returned (.bool r) ∧ Drawn0 w w' := by
  have H : ((dam_within.f a0 1 1000000).bind fun t285001 => (some t285001)) = some r := h
  clear h
  replace H := Option.bind_eq_some_iff.mp H
  obtain ⟨t285001, A20, H⟩ := H
  replace H : (some t285001) = some r := H
  have A2 := Aside0.mk A20
  clear A20
  obtain rfl := Option.some.inj H
  go_enter Try.func95, Try.ntmps95
  go_wp2_with (first | ((with_reducible refine gate_callee (f := 65) rfl ?_); refine goesL_ (some 4) rfl rfl Try.func65 (by kernel_rfl) rfl #[.int .i64 a0, .int .i64 1, .int .i64 1000000] rfl mpa ?_; (with_reducible refine (dam_within.calls a0 1 1000000 t285001 _ A2.out).mono ?_); rintro e w' ⟨rfl, ⟨nd, rfl⟩⟩; refine ⟨_, rfl, ?_⟩))
  go_ret
  exact ⟨by first | rfl | (simp; done) | (simp [*]; done), by repeat (first | exact Drawn0.refl _ | apply Drawn0.step)⟩
set_option maxHeartbeats 8000000 in
set_option maxRecDepth 100000 in
theorem hIndexPerson (g : Nat) (lb : Array Value) (p : S135 → Bool) (eg : ∀ args w, (callFunc g args).run Try.prog w = .ok (.enter g args) w) (A0 : Option Addr) (c0 : Nat) (l0 : List S135) (w : World) (hr0 : Kd.C k135 w A0 l0.length l0) (hp : PredB Try.prog g lb (fun x : S135 => .agg #[.string x.f0, .int .i64 x.f1]) p l0 w) :
    Calls Try.prog 114 #[.slice A0 l0.length c0, .func (.func g) #[] lb] w fun e w' => e = .returned (.int .i64 (idxF p l0)) ∧ Below w.heap.size w w' := by
  have hlen : l0.length ≤ 9223372036854775807 := hr0.2.1
  have HR0 := Aside0.mk hr0
  have HP := Aside0.mk hp
  clear hr0 hp
  go_enter Try.func114, Try.ntmps114
  go_wp2
  go_loopg [5, 8] l0.length (fun gg _ s8 wr => ∃ kk : Nat, kk ≤ l0.length ∧ l0.length - kk ≤ gg ∧ s8 = .int .i64 kk ∧ Aside0 (Below w.heap.size w wr) ∧ Aside0 (∀ j, j < kk → p (l0.getD j z135) = false))
  case atStart => exact ⟨0, Nat.zero_le _, by omega, rfl, ⟨Below.refl _ _⟩, ⟨fun j hj => absurd hj (Nat.not_lt_zero _)⟩⟩
  case round =>
    obtain ⟨kk, hkk, hg, rfl, HB, A⟩ := hrel
    by_cases hlt : kk < l0.length
    · have hltz : (kk : Int) < (l0.length : Int) := by omega
      obtain ⟨ad, e1, hx1, hx2⟩ := at_T135 (Kd.C_below HR0.out HB.out) (kk : Int) (by omega) (by omega)
      cases e1
      have hmem : l0.getD kk z135 ∈ l0 := by rw [List.getD_eq_getElem?_getD, List.getElem?_eq_getElem hlt]; exact List.getElem_mem hlt
      have hrd : rd_T135 l0 (kk : Int) = l0.getD kk z135 := rfl
      rw [hrd, Int.toNat_natCast] at hx1 hx2
      clear hrd
      generalize hy : l0.getD kk z135 = y at hx1 hx2 hmem
      have B := Aside0.mk hy
      clear hy
      have hcall := HP.out wr y hmem HB.out
      have hu := Try.underlying135
      cases hq : p y with
      | true =>
        rw [hq] at hcall
        have HC := Aside0.mk hcall
        have HQ := Aside0.mk hq
        clear hcall hq
        go_wp2_with (go_at_fn g; refine HC.out.mono ?_; rintro e w' ⟨rfl, hb⟩)
        go_ret
        refine ⟨?_, ?_⟩
        · rw [idxF_hit hlt A.out (by rw [B.out]; exact HQ.out)]; rfl
        · exact below_step HB.out (by assumption)
      | false =>
        rw [hq] at hcall
        have HC := Aside0.mk hcall
        have HQ := Aside0.mk hq
        clear hcall hq
        go_wp2_with (go_at_fn g; refine HC.out.mono ?_; rintro e w' ⟨rfl, hb⟩; have HB2 := Aside0.mk (below_step HB.out hb); clear hb)
        go_roundg (l0.length - (kk + 1))
        case measure => omega
        case rel =>
          refine ⟨kk + 1, by omega, by omega, by go_num, by assumption, ⟨fun j hj => ?_⟩⟩
          by_cases e : j = kk
          · subst e
            rw [B.out]; exact HQ.out
          · exact A.out j (by omega)
    · have hltz : ¬ (kk : Int) < (l0.length : Int) := by omega
      obtain rfl : kk = l0.length := by omega
      go_wp2
      go_ret
      refine ⟨?_, HB.out⟩
      rw [idxF_miss A.out]; rfl
set_option maxHeartbeats 8000000 in
set_option maxRecDepth 100000 in
theorem hContainsPerson (g : Nat) (lb : Array Value) (p : S135 → Bool) (eg : ∀ args w, (callFunc g args).run Try.prog w = .ok (.enter g args) w) (A0 : Option Addr) (c0 : Nat) (l0 : List S135) (w : World) (hr0 : Kd.C k135 w A0 l0.length l0) (hp : PredB Try.prog g lb (fun x : S135 => .agg #[.string x.f0, .int .i64 x.f1]) p l0 w) :
    Calls Try.prog 96 #[.slice A0 l0.length c0, .func (.func g) #[] lb] w fun e w' => e = .returned (.bool (l0.any p)) ∧ Below w.heap.size w w' := by
  have HI := Aside0.mk (hIndexPerson g lb p eg A0 c0 l0 w hr0 hp)
  clear hr0 hp
  obtain ⟨x, hx⟩ : ∃ x, x = idxF p l0 := ⟨_, rfl⟩
  rw [← hx] at HI
  have HX := Aside0.mk hx
  clear hx
  go_enter Try.func96, Try.ntmps96
  go_wp2_with (go_at_call 114; refine HI.out.mono ?_; rintro e w' ⟨rfl, hb⟩)
  go_ret
  refine ⟨?_, by assumption⟩
  rw [← idxF_any p l0, ← HX.out]; rfl
def isThr (n : Int) : Bool := decide (1 ≤ n) && decide (n ≤ 1000000)
def unlessI (b : Bool) (e : Int) : Int := if b then 0 else e
def firstI : List Int → Int
  | [] => 0
  | x :: xs => if x = 0 then firstI xs else x
theorem unless_f (b : Bool) (e : Int) : dam_unless.f b e = some (unlessI b e) := by cases b <;> rfl
theorem thr_f (n : Int) : dam_CheckRules_1.f n = some (isThr n) := by
  unfold dam_CheckRules_1.f
  rw [within_f]
  rfl
theorem first_f2 (a b : Int) : dam_first.f 9 [a, b] = some (firstI [a, b]) := by
  by_cases ha : a = 0 <;> by_cases hb : b = 0 <;> simp [dam_first.f, dam_first.l0, firstI, rd, ha, hb, wrap64]
theorem first_f3 (a b c : Int) : dam_first.f 9 [a, b, c] = some (firstI [a, b, c]) := by
  by_cases ha : a = 0 <;> by_cases hb : b = 0 <;> by_cases hc : c = 0 <;> simp [dam_first.f, dam_first.l0, firstI, rd, ha, hb, hc, wrap64]
def stepErr (ups downs : List Int) (i : Nat) : Int :=
  firstI [unlessI (isThr (ups.getD i 0) && isThr (downs.getD i 0)) 2, unlessI (decide (downs.getD i 0 ≤ ups.getD i 0)) 3, unlessI (i == 0 || (decide (ups.getD i 0 > ups.getD (i - 1) 0) && decide (downs.getD i 0 ≥ downs.getD (i - 1) 0))) 9]
def personErr (ps : List S135) (steps : Nat) (z : S135) (i : Nat) : Int :=
  firstI [unlessI (nameOk (ps.getD i z).f0) 4, unlessI (!((ps.take i).any fun o => o.f0.toList == (ps.getD i z).f0.toList)) 5, unlessI (decide (1 ≤ (ps.getD i z).f1) && decide ((ps.getD i z).f1 ≤ (steps : Int))) 2]
def firstBad (n : Nat) (p : Nat → Int) : Option Nat := (List.range n).find? fun i => p i != 0
def personsOut (ps : List S135) (steps : Nat) : Int × Int :=
  match firstBad ps.length (personErr ps steps z135) with
  | some i => ((i : Int), personErr ps steps z135 i)
  | none => (0, 0)
def rulesOut (ups downs : List Int) (hold : Int) (ps : List S135) : Int × Int :=
  let e0 := firstI [unlessI (decide (0 < (ups.length : Int)) && ((downs.length : Int) == (ups.length : Int))) 10, unlessI (decide ((ups.length : Int) ≤ 5)) 8]
  if e0 = 0 then
    match firstBad ups.length (stepErr ups downs) with
    | some i => ((i : Int), stepErr ups downs i)
    | none =>
      let e1 := firstI [unlessI (decide (0 ≤ hold) && decide (hold ≤ 1000000)) 2, unlessI (decide ((ps.length : Int) ≤ 10)) 8]
      if e1 = 0 then personsOut ps ups.length else (0, e1)
  else (0, e0)
def dam_CheckRules.f (l0_0 : List Int) (l0_1 : List Int) (a0_2 : Int) (l0_3 : List S135) : Option (Int × Int) :=
  if ∀ p ∈ l0_3, p.f0.size ≤ 4611686018427387904 then some (rulesOut l0_0 l0_1 a0_2 l0_3) else none
theorem firstBad_some {n : Nat} {p : Nat → Int} {i : Nat} (hi : i < n) (h0 : ∀ j, j < i → p j = 0) (h1 : ¬ p i = 0) : firstBad n p = some i := by
  unfold firstBad
  rw [List.find?_eq_some_iff_getElem]
  refine ⟨by simpa using h1, i, by simpa using hi, by simp, fun j hj => ?_⟩
  simpa using h0 j hj
theorem firstBad_none {n : Nat} {p : Nat → Int} (h0 : ∀ j, j < n → p j = 0) : firstBad n p = none := by
  unfold firstBad
  rw [List.find?_eq_none]
  intro x hx
  simpa using h0 x (List.mem_range.1 hx)
set_option maxHeartbeats 8000000 in
set_option maxRecDepth 100000 in
theorem checkRules2_calls (x : S135) (P : Nat) (nm : ByteArray) (w : World) (hc : w.cell? ⟨P, 0, none⟩ = some (.string nm)) (hlt : P < w.heap.size) :
    Calls Try.prog 97 #[.agg #[.string x.f0, .int .i64 x.f1], .pointer (some ⟨P, 0, none⟩)] w fun e w' => e = .returned (.bool (x.f0.toList == nm.toList)) ∧ Below w.heap.size w w' := by
  have hu2 := Try.underlying135
  have hcc : ∀ o, (w.alloc o).cell? ⟨P, 0, none⟩ = some (.string nm) := fun o => ((below_alloc (Below.refl _ w) o).cell (World.block_lt_of_cell? w _ hc)).trans hc
  have hn := World.new_ne w _ hc
  go_enter Try.func97, Try.ntmps97
  go_wp2
  go_ret
  exact ⟨rfl, below_alloc (Below.refl _ _) _⟩
theorem personBlk {W : World} {g : Nat} {x : S135} (h : W.heap[g]? = some (.cells #[.string x.f0, .int .i64 x.f1] 135 (0, 0))) : W.cell? ⟨g, 0, none⟩ = some (.string x.f0) ∧ W.cell? ⟨g, 1, none⟩ = some (.int .i64 x.f1) := ⟨(blk_cell h 0).trans rfl, (blk_cell h 1).trans rfl⟩
set_option maxHeartbeats 8000000 in
set_option maxRecDepth 100000 in
theorem dam_CheckRules.calls (A0_0 : Option Addr) (c0_0 : Nat) (l0_0 : List Int) (A0_1 : Option Addr) (c0_1 : Nat) (l0_1 : List Int) (a0_2 : Int) (A0_3 : Option Addr) (c0_3 : Nat) (l0_3 : List S135) (r1 : Int) (r2 : Int) (w : World) (hr0_0 : Kd.C (Kd.int .i64) w A0_0 l0_0.length l0_0) (hc0_0 : l0_0.length ≤ c0_0) (hr0_1 : Kd.C (Kd.int .i64) w A0_1 l0_1.length l0_1) (hc0_1 : l0_1.length ≤ c0_1) (hr0_3 : Kd.C k135 w A0_3 l0_3.length l0_3) (hc0_3 : l0_3.length ≤ c0_3) (h : dam_CheckRules.f l0_0 l0_1 a0_2 l0_3 = some (r1, r2)) :
    Calls Try.prog 53 #[.agg #[.slice A0_0 l0_0.length c0_0, .slice A0_1 l0_1.length c0_1, .int .i64 a0_2, .slice A0_3 l0_3.length c0_3]] w fun e w' => e = .returned (.tuple #[.int .i64 r1, .int .i64 r2]) ∧ Below w.heap.size w w' := by
  have hu := Try.underlying85
  have hu2 := Try.underlying135
  have hh : (∀ p ∈ l0_3, p.f0.size ≤ 4611686018427387904) ∧ rulesOut l0_0 l0_1 a0_2 l0_3 = (r1, r2) := by
    unfold dam_CheckRules.f at h
    split at h
    · exact ⟨by assumption, Option.some.inj h⟩
    · exact absurd h (by simp)
  clear h
  obtain ⟨hnm, hout⟩ := hh
  have HR0 := Aside0.mk hr0_0
  have HR1 := Aside0.mk hr0_1
  have HR3 := Aside0.mk hr0_3
  have HC3 := Aside0.mk hc0_3
  have HNM := Aside0.mk hnm
  have hm0 : l0_0.length ≤ 9223372036854775807 := hr0_0.2.1
  have hm3 : l0_3.length ≤ 9223372036854775807 := hr0_3.2.1
  clear hr0_0 hr0_1 hr0_3 hnm hc0_0 hc0_1 hc0_3
  unfold rulesOut at hout
  have HOUT := Aside0.mk hout
  clear hout
  have hpos : 0 < (l0_0.length : Int) ∨ ¬ 0 < (l0_0.length : Int) := by omega
  rcases hpos with hpos | hpos
  case inr =>
    have hout := HOUT.out
    rw [decide_eq_false hpos, Bool.false_and] at hout
    have he : firstI [unlessI false 10, unlessI (decide ((l0_0.length : Int) ≤ 5)) 8] = 10 := rfl
    rw [he] at hout
    simp at hout
    obtain ⟨rfl, rfl⟩ := hout
    obtain ⟨b2, hb2⟩ : ∃ b2, b2 = decide ((l0_0.length : Int) ≤ 5) := ⟨_, rfl⟩
    have H0 := Aside0.mk ((first_f2 (unlessI false 10) (unlessI b2 8)).trans (by rw [hb2, he]))
    have hq2 := hb2.symm
    clear he HOUT hb2
    go_enter Try.func53, Try.ntmps53
    go_upto_region 1 with fail
    have hbl := blk_new w (.cells #[.slice A0_0 l0_0.length c0_0, .slice A0_1 l0_1.length c0_1, .int .i64 a0_2, .slice A0_3 l0_3.length c0_3] 85)
    have hb01 := below_alloc (Below.refl _ w) (.cells #[.slice A0_0 l0_0.length c0_0, .slice A0_1 l0_1.length c0_1, .int .i64 a0_2, .slice A0_3 l0_3.length c0_3] 85)
    generalize w.alloc (.cells #[.slice A0_0 l0_0.length c0_0, .slice A0_1 l0_1.length c0_1, .int .i64 a0_2, .slice A0_3 l0_3.length c0_3] 85) = w1 at *
    have hx0 := (blk_cell hbl 0).trans rfl
    have hx1 := (blk_cell hbl 1).trans rfl
    have HBL := Aside0.mk hbl
    have HB01 := Aside0.mk hb01
    have HBc := Aside0.mk (Below.refl w1.heap.size w1)
    clear hbl hb01
    go_wp2_with (first | (go_at_call 64; refine (dam_unless.calls _ _ _ _ (unless_f _ _)).mono ?_; rintro e w3 ⟨rfl, hb3⟩; have hb4 := below_step (show Below w1.heap.size w1 _ by repeat (first | exact HBc.out | apply below_alloc | apply below_drew | apply pw_below_drewN)) hb3.below; clear HBc; have HBc := Aside0.mk hb4; clear hb4 hb3) | (go_at_call 63; refine (dam_first.calls 9 _ _ [unlessI false 10, unlessI b2 8] 10 _ (litC _ 26 [unlessI false 10, unlessI b2 8] (by simp)) (Nat.le_refl _) H0.out).mono ?_; rintro e' w3 ⟨rfl, hb3⟩; have hb4 := below_step (show Below w1.heap.size w1 _ by repeat (first | exact HBc.out | apply below_alloc | apply below_drew | apply pw_below_drewN)) hb3.below; clear HBc; have HBc := Aside0.mk hb4; clear hb4 hb3))
    go_ret2
    exact ⟨rfl, below_weaken HB01.out HB01.out.size HBc.out⟩
  case inl =>
  have hout := HOUT.out
  rw [decide_eq_true hpos, Bool.true_and] at hout
  obtain ⟨b2, hb2⟩ : ∃ b2, b2 = decide ((l0_0.length : Int) ≤ 5) := ⟨_, rfl⟩
  obtain ⟨b1, hb1⟩ : ∃ b1, b1 = ((l0_1.length : Int) == (l0_0.length : Int)) := ⟨_, rfl⟩
  rw [← hb1, ← hb2] at hout
  obtain ⟨e0, he0⟩ : ∃ e0, e0 = firstI [unlessI b1 10, unlessI b2 8] := ⟨_, rfl⟩
  rw [← he0] at hout
  have H0 := Aside0.mk ((first_f2 (unlessI b1 10) (unlessI b2 8)).trans (by rw [← he0]))
  have hq1 := hb1.symm
  have hq2 := hb2.symm
  clear HOUT
  by_cases hz0 : e0 = 0
  case neg =>
    rw [if_neg hz0] at hout
    simp only [Prod.mk.injEq] at hout
    obtain ⟨rfl, rfl⟩ := hout
    have hzb : (e0 != 0) = true := bne_iff_ne.2 hz0
    clear hz0 he0 hb1 hb2
    go_enter Try.func53, Try.ntmps53
    go_upto_region 1 with fail
    have hbl := blk_new w (.cells #[.slice A0_0 l0_0.length c0_0, .slice A0_1 l0_1.length c0_1, .int .i64 a0_2, .slice A0_3 l0_3.length c0_3] 85)
    have hb01 := below_alloc (Below.refl _ w) (.cells #[.slice A0_0 l0_0.length c0_0, .slice A0_1 l0_1.length c0_1, .int .i64 a0_2, .slice A0_3 l0_3.length c0_3] 85)
    generalize w.alloc (.cells #[.slice A0_0 l0_0.length c0_0, .slice A0_1 l0_1.length c0_1, .int .i64 a0_2, .slice A0_3 l0_3.length c0_3] 85) = w1 at *
    have hx0 := (blk_cell hbl 0).trans rfl
    have hx1 := (blk_cell hbl 1).trans rfl
    have HBL := Aside0.mk hbl
    have HB01 := Aside0.mk hb01
    have HBc := Aside0.mk (Below.refl w1.heap.size w1)
    clear hbl hb01
    go_wp2_with (first | (go_at_call 64; refine (dam_unless.calls _ _ _ _ (unless_f _ _)).mono ?_; rintro e w3 ⟨rfl, hb3⟩; have hb4 := below_step (show Below w1.heap.size w1 _ by repeat (first | exact HBc.out | apply below_alloc | apply below_drew | apply pw_below_drewN)) hb3.below; clear HBc; have HBc := Aside0.mk hb4; clear hb4 hb3) | (go_at_call 63; refine (dam_first.calls 9 _ _ [unlessI b1 10, unlessI b2 8] e0 _ (litC _ 26 [unlessI b1 10, unlessI b2 8] (by simp)) (Nat.le_refl _) H0.out).mono ?_; rintro e' w3 ⟨rfl, hb3⟩; have hb4 := below_step (show Below w1.heap.size w1 _ by repeat (first | exact HBc.out | apply below_alloc | apply below_drew | apply pw_below_drewN)) hb3.below; clear HBc; have HBc := Aside0.mk hb4; clear hb4 hb3))
    go_ret2
    exact ⟨rfl, below_weaken HB01.out HB01.out.size HBc.out⟩
  case pos =>
    rw [if_pos hz0] at hout
    subst hz0
    have hb1t : b1 = true := by
      cases b1 with
      | true => rfl
      | false => exact absurd he0 (by cases b2 <;> decide)
    subst hb1t
    have hlen : l0_1.length = l0_0.length := by
      have := beq_iff_eq.1 hq1
      omega
    have HLEN := Aside0.mk hlen
    have HOUT := Aside0.mk hout
    clear hout hb1 hb2 he0 hlen
    go_enter Try.func53, Try.ntmps53
    go_upto_region 1 with fail
    have hbl := blk_new w (.cells #[.slice A0_0 l0_0.length c0_0, .slice A0_1 l0_1.length c0_1, .int .i64 a0_2, .slice A0_3 l0_3.length c0_3] 85)
    have hb01 := below_alloc (Below.refl _ w) (.cells #[.slice A0_0 l0_0.length c0_0, .slice A0_1 l0_1.length c0_1, .int .i64 a0_2, .slice A0_3 l0_3.length c0_3] 85)
    generalize w.alloc (.cells #[.slice A0_0 l0_0.length c0_0, .slice A0_1 l0_1.length c0_1, .int .i64 a0_2, .slice A0_3 l0_3.length c0_3] 85) = w1 at *
    have hx0 := (blk_cell hbl 0).trans rfl
    have hx1 := (blk_cell hbl 1).trans rfl
    have HBL := Aside0.mk hbl
    have HB01 := Aside0.mk hb01
    have HBc := Aside0.mk (Below.refl w1.heap.size w1)
    clear hbl hb01
    go_upto_region 6 with (first | (go_at_call 64; refine (dam_unless.calls _ _ _ _ (unless_f _ _)).mono ?_; rintro e w3 ⟨rfl, hb3⟩; have hb4 := below_step (show Below w1.heap.size w1 _ by repeat (first | exact HBc.out | apply below_alloc | apply below_drew | apply pw_below_drewN)) hb3.below; clear HBc; have HBc := Aside0.mk hb4; clear hb4 hb3) | (go_at_call 63; refine (dam_first.calls 9 _ _ [unlessI true 10, unlessI b2 8] 0 _ (litC _ 26 [unlessI true 10, unlessI b2 8] (by simp)) (Nat.le_refl _) H0.out).mono ?_; rintro e' w3 ⟨rfl, hb3⟩; have hb4 := below_step (show Below w1.heap.size w1 _ by repeat (first | exact HBc.out | apply below_alloc | apply below_drew | apply pw_below_drewN)) hb3.below; clear HBc; have HBc := Aside0.mk hb4; clear hb4 hb3))
    have hbx := blk_below HBL.out HBc.out
    have hy0 := (blk_cell hbx 0).trans rfl
    have HBd := Aside0.mk HBc.out
    clear hx0 hx1 hbx
    go_wp2
    go_loopg [41] l0_0.length (fun gg s41 w5 => ∃ (i : Nat), i ≤ l0_0.length ∧ l0_0.length - i ≤ gg ∧ s41 = .int .i64 i ∧ Aside0 (∀ j, j < i → stepErr l0_0 l0_1 j = 0) ∧ Aside0 (Below w1.heap.size w1 w5))
    case atStart => exact ⟨0, by omega, by omega, rfl, ⟨fun j hj => absurd hj (by omega)⟩, HBd⟩
    case round =>
      obtain ⟨i, hi, hgg, rfl, HJ, HBi⟩ := hrel
      obtain ⟨wA, hwA⟩ : ∃ wA, wA = wr := ⟨_, rfl⟩
      subst hwA
      clear hy0 HBc HBd
      have HBW := Aside0.mk (below_weaken HB01.out HB01.out.size HBi.out)
      have hbx := blk_below HBL.out HBi.out
      have hy0 := (blk_cell hbx 0).trans rfl
      have hy1 := (blk_cell hbx 1).trans rfl
      have hy2 := (blk_cell hbx 2).trans rfl
      have hy3 := (blk_cell hbx 3).trans rfl
      clear hbx
      by_cases hin : i < l0_0.length
      case pos =>
        have hin2 : (i : Int) < (l0_0.length : Int) := by omega
        have hin3 : (i : Int) < (l0_1.length : Int) := by have := HLEN.out; omega
        obtain ⟨ad, e1, hu1⟩ := Kd.at_int (Kd.C_below HR0.out HBW.out) (i : Int) (by omega) (by omega)
        cases e1
        obtain ⟨ad2, e1, hd1⟩ := Kd.at_int (Kd.C_below HR1.out HBW.out) (i : Int) (by omega) (by omega)
        cases e1
        rw [show rd l0_0 (i : Int) = l0_0.getD i 0 from rfl, Int.toNat_natCast] at hu1
        rw [show rd l0_1 (i : Int) = l0_1.getD i 0 from rfl, Int.toNat_natCast] at hd1
        obtain ⟨u, hu⟩ : ∃ u, u = l0_0.getD i 0 := ⟨_, rfl⟩
        obtain ⟨d, hd⟩ : ∃ d, d = l0_1.getD i 0 := ⟨_, rfl⟩
        rw [← hu] at hu1
        rw [← hd] at hd1
        have HBc := Aside0.mk HBi.out
        have HUU := Aside0.mk hu
        have HDD := Aside0.mk hd
        clear hu hd
        go_upto_region 10 with fail
        clear hu1 hd1
        have HU := Aside0.mk (thr_f u)
        have HD := Aside0.mk (thr_f d)
        have hse : stepErr l0_0 l0_1 i = firstI [unlessI (isThr u && isThr d) 2, unlessI (decide (d ≤ u)) 3, unlessI (i == 0 || (decide (u > l0_0.getD (i - 1) 0) && decide (d ≥ l0_1.getD (i - 1) 0))) 9] := by rw [HUU.out, HDD.out]; rfl
        obtain ⟨bu, hbu⟩ : ∃ bu, bu = isThr u := ⟨_, rfl⟩
        obtain ⟨bd, hbd⟩ : ∃ bd, bd = isThr d := ⟨_, rfl⟩
        obtain ⟨bc, hbc⟩ : ∃ bc, bc = decide (d ≤ u) := ⟨_, rfl⟩
        rw [← hbu] at HU hse
        rw [← hbd] at HD hse
        rw [← hbc] at hse
        have hqc := hbc.symm
        clear hbu hbd hbc
        obtain ⟨es, hes⟩ : ∃ es, es = stepErr l0_0 l0_1 i := ⟨_, rfl⟩
        rw [← hes] at hse
        have HES := Aside0.mk hes
        clear hes
        have HIN := Aside0.mk hin
        rcases (show i = 0 ∨ 0 < i by omega) with hi0 | hi0
        case inl =>
          subst hi0
          have H1 := Aside0.mk (show dam_first.f 9 [unlessI (bu && bd) 2, unlessI bc 3, unlessI true 9] = some es from (first_f3 _ _ _).trans (by rw [hse]; rfl))
          clear hse hi hin2 hin3
          by_cases hz : es = 0
          case pos =>
            have hzb : (es != 0) = false := bne_eq_false_iff_eq.mpr hz
            have HZ := Aside0.mk hz
            clear hz
            cases bu
            all_goals
              simp only [Bool.true_and, Bool.false_and] at H1
              go_wp2_with (first | (go_at_call 64; refine (dam_unless.calls _ _ _ _ (unless_f _ _)).mono ?_; rintro e w3 ⟨rfl, hb3⟩; have hb4 := below_step (show Below w1.heap.size w1 _ by repeat (first | exact HBc.out | apply below_alloc | apply below_drew | apply pw_below_drewN)) hb3.below; clear HBc; have HBc := Aside0.mk hb4; clear hb4 hb3) | (go_at_call 63; refine (dam_first.calls 9 _ _ _ es _ (litC _ 26 _ (by simp)) (Nat.le_refl _) H1.out).mono ?_; rintro e' w3 ⟨rfl, hb3⟩; have hb4 := below_step (show Below w1.heap.size w1 _ by repeat (first | exact HBc.out | apply below_alloc | apply below_drew | apply pw_below_drewN)) hb3.below; clear HBc; have HBc := Aside0.mk hb4; clear hb4 hb3) | (go_at_call 95; refine (dam_CheckRules_1.calls u _ _ HU.out).mono ?_; rintro e w3 ⟨rfl, hb3⟩; have hb4 := below_step (show Below w1.heap.size w1 _ by repeat (first | exact HBc.out | apply below_alloc | apply below_drew | apply pw_below_drewN)) hb3.below; clear HBc; have HBc := Aside0.mk hb4; clear hb4 hb3) | (go_at_call 95; refine (dam_CheckRules_1.calls d _ _ HD.out).mono ?_; rintro e w3 ⟨rfl, hb3⟩; have hb4 := below_step (show Below w1.heap.size w1 _ by repeat (first | exact HBc.out | apply below_alloc | apply below_drew | apply pw_below_drewN)) hb3.below; clear HBc; have HBc := Aside0.mk hb4; clear hb4 hb3))
              go_roundg (l0_0.length - (0 + 1))
              case measure => have := HIN.out; omega
              case rel =>
                exact ⟨0 + 1, by have := HIN.out; omega, by have := HIN.out; omega, by first | go_num | (have := HIN.out; rw [w64 (by omega) (by omega)]; go_num), ⟨fun j hj => by
                  by_cases e : j = 0
                  · subst e
                    rw [← HES.out]
                    exact HZ.out
                  · exact HJ.out j (by omega)⟩, HBc⟩
          case neg =>
            have hzb : (es != 0) = true := bne_iff_ne.2 hz
            have HZ := Aside0.mk hz
            clear hz
            cases bu
            all_goals
              simp only [Bool.true_and, Bool.false_and] at H1
              go_wp2_with (first | (go_at_call 64; refine (dam_unless.calls _ _ _ _ (unless_f _ _)).mono ?_; rintro e w3 ⟨rfl, hb3⟩; have hb4 := below_step (show Below w1.heap.size w1 _ by repeat (first | exact HBc.out | apply below_alloc | apply below_drew | apply pw_below_drewN)) hb3.below; clear HBc; have HBc := Aside0.mk hb4; clear hb4 hb3) | (go_at_call 63; refine (dam_first.calls 9 _ _ _ es _ (litC _ 26 _ (by simp)) (Nat.le_refl _) H1.out).mono ?_; rintro e' w3 ⟨rfl, hb3⟩; have hb4 := below_step (show Below w1.heap.size w1 _ by repeat (first | exact HBc.out | apply below_alloc | apply below_drew | apply pw_below_drewN)) hb3.below; clear HBc; have HBc := Aside0.mk hb4; clear hb4 hb3) | (go_at_call 95; refine (dam_CheckRules_1.calls u _ _ HU.out).mono ?_; rintro e w3 ⟨rfl, hb3⟩; have hb4 := below_step (show Below w1.heap.size w1 _ by repeat (first | exact HBc.out | apply below_alloc | apply below_drew | apply pw_below_drewN)) hb3.below; clear HBc; have HBc := Aside0.mk hb4; clear hb4 hb3) | (go_at_call 95; refine (dam_CheckRules_1.calls d _ _ HD.out).mono ?_; rintro e w3 ⟨rfl, hb3⟩; have hb4 := below_step (show Below w1.heap.size w1 _ by repeat (first | exact HBc.out | apply below_alloc | apply below_drew | apply pw_below_drewN)) hb3.below; clear HBc; have HBc := Aside0.mk hb4; clear hb4 hb3))
              go_ret2
              have hf : firstBad l0_0.length (stepErr l0_0 l0_1) = some (0) := firstBad_some HIN.out HJ.out (by rw [← HES.out]; exact HZ.out)
              have ho := HOUT.out
              rw [hf] at ho
              simp only [Prod.mk.injEq] at ho
              obtain ⟨h1, h2⟩ := ho
              exact ⟨by rw [← h1, ← h2, ← HES.out]; rfl, below_weaken HB01.out HB01.out.size HBc.out⟩
        case inr =>
          obtain ⟨m, hm⟩ : ∃ m, m = i - 1 := ⟨_, rfl⟩
          have hbf : (if 1 < (i : Int) then (i : Int) - 1 else 0) = (m : Int) := by split <;> omega
          rw [hbf]
          have hm1 : (m : Int) < (l0_0.length : Int) := by omega
          have hm2 : (m : Int) < (l0_1.length : Int) := by omega
          have hiz : ((i : Int) == 0) = false := by simp; omega
          have hizn : (i == 0) = false := by simp; omega
          obtain ⟨ad3, e1, hv1⟩ := Kd.at_int (Kd.C_below HR0.out HB01.out) (m : Int) (by omega) (by omega)
          cases e1
          obtain ⟨ad4, e1, hv2⟩ := Kd.at_int (Kd.C_below HR1.out HB01.out) (m : Int) (by omega) (by omega)
          cases e1
          rw [show rd l0_0 (m : Int) = l0_0.getD m 0 from rfl, Int.toNat_natCast] at hv1
          rw [show rd l0_1 (m : Int) = l0_1.getD m 0 from rfl, Int.toNat_natCast] at hv2
          rw [← hm, hizn, Bool.false_or] at hse
          obtain ⟨pu, hpu⟩ : ∃ pu, pu = l0_0.getD m 0 := ⟨_, rfl⟩
          obtain ⟨pd, hpd⟩ : ∃ pd, pd = l0_1.getD m 0 := ⟨_, rfl⟩
          rw [← hpu] at hv1 hse
          rw [← hpd] at hv2 hse
          have HPF : Aside0 (∀ W, Below w1.heap.size w1 W → W.cell? ⟨w.heap.size, 0, none⟩ = some (.slice (some ad) l0_0.length c0_0) ∧ W.cell? ⟨w.heap.size, 1, none⟩ = some (.slice (some ad2) l0_1.length c0_1) ∧ W.cell? (ad.add m) = some (.int .i64 pu) ∧ W.cell? (ad2.add m) = some (.int .i64 pd)) := by
            refine ⟨fun W hb => ⟨?_, ?_, ?_, ?_⟩⟩
            · exact (blk_cell (blk_below HBL.out hb) 0).trans rfl
            · exact (blk_cell (blk_below HBL.out hb) 1).trans rfl
            · exact (hb.cell (World.block_lt_of_cell? w1 _ hv1)).trans hv1
            · exact (hb.cell (World.block_lt_of_cell? w1 _ hv2)).trans hv2
          have HM := Aside0.mk hm
          clear hm hbf hv1 hv2 hpu hpd hizn hy0 hy1 hy2 hy3
          by_cases hgt : pu < u
          case pos =>
            rw [decide_eq_true (show u > pu from hgt), Bool.true_and] at hse
            obtain ⟨bz, hbz⟩ : ∃ bz, bz = decide (d ≥ pd) := ⟨_, rfl⟩
            rw [← hbz] at hse
            have hqz : decide (pd ≤ d) = bz := hbz.symm
            have H1 := Aside0.mk (show dam_first.f 9 [unlessI (bu && bd) 2, unlessI bc 3, unlessI bz 9] = some es from (first_f3 _ _ _).trans (by rw [hse]))
            clear hse hbz hi hi0 hin hin2 hin3
            by_cases hz : es = 0
            case pos =>
              have hzb : (es != 0) = false := bne_eq_false_iff_eq.mpr hz
              have HZ := Aside0.mk hz
              clear hz
              cases bu
              all_goals
                simp only [Bool.true_and, Bool.false_and] at H1
                go_wp2_with (first | (go_at_call 64; refine (dam_unless.calls _ _ _ _ (unless_f _ _)).mono ?_; rintro e w3 ⟨rfl, hb3⟩; have hb4 := below_step (show Below w1.heap.size w1 _ by repeat (first | exact HBc.out | apply below_alloc | apply below_drew | apply pw_below_drewN)) hb3.below; clear HBc; have HBc := Aside0.mk hb4; clear hb4 hb3; obtain ⟨hz0, hz1, hz2, hz3⟩ := HPF.out _ HBc.out) | (go_at_call 63; refine (dam_first.calls 9 _ _ _ es _ (litC _ 26 _ (by simp)) (Nat.le_refl _) H1.out).mono ?_; rintro e' w3 ⟨rfl, hb3⟩; have hb4 := below_step (show Below w1.heap.size w1 _ by repeat (first | exact HBc.out | apply below_alloc | apply below_drew | apply pw_below_drewN)) hb3.below; clear HBc; have HBc := Aside0.mk hb4; clear hb4 hb3) | (go_at_call 95; refine (dam_CheckRules_1.calls u _ _ HU.out).mono ?_; rintro e w3 ⟨rfl, hb3⟩; have hb4 := below_step (show Below w1.heap.size w1 _ by repeat (first | exact HBc.out | apply below_alloc | apply below_drew | apply pw_below_drewN)) hb3.below; clear HBc; have HBc := Aside0.mk hb4; clear hb4 hb3) | (go_at_call 95; refine (dam_CheckRules_1.calls d _ _ HD.out).mono ?_; rintro e w3 ⟨rfl, hb3⟩; have hb4 := below_step (show Below w1.heap.size w1 _ by repeat (first | exact HBc.out | apply below_alloc | apply below_drew | apply pw_below_drewN)) hb3.below; clear HBc; have HBc := Aside0.mk hb4; clear hb4 hb3))
                go_roundg (l0_0.length - (i + 1))
                case measure => have := HIN.out; omega
                case rel =>
                  exact ⟨i + 1, by have := HIN.out; omega, by have := HIN.out; omega, by first | go_num | (have := HIN.out; rw [w64 (by omega) (by omega)]; go_num), ⟨fun j hj => by
                    by_cases e : j = i
                    · subst e
                      rw [← HES.out]
                      exact HZ.out
                    · exact HJ.out j (by omega)⟩, HBc⟩
            case neg =>
              have hzb : (es != 0) = true := bne_iff_ne.2 hz
              have HZ := Aside0.mk hz
              clear hz
              cases bu
              all_goals
                simp only [Bool.true_and, Bool.false_and] at H1
                go_wp2_with (first | (go_at_call 64; refine (dam_unless.calls _ _ _ _ (unless_f _ _)).mono ?_; rintro e w3 ⟨rfl, hb3⟩; have hb4 := below_step (show Below w1.heap.size w1 _ by repeat (first | exact HBc.out | apply below_alloc | apply below_drew | apply pw_below_drewN)) hb3.below; clear HBc; have HBc := Aside0.mk hb4; clear hb4 hb3; obtain ⟨hz0, hz1, hz2, hz3⟩ := HPF.out _ HBc.out) | (go_at_call 63; refine (dam_first.calls 9 _ _ _ es _ (litC _ 26 _ (by simp)) (Nat.le_refl _) H1.out).mono ?_; rintro e' w3 ⟨rfl, hb3⟩; have hb4 := below_step (show Below w1.heap.size w1 _ by repeat (first | exact HBc.out | apply below_alloc | apply below_drew | apply pw_below_drewN)) hb3.below; clear HBc; have HBc := Aside0.mk hb4; clear hb4 hb3) | (go_at_call 95; refine (dam_CheckRules_1.calls u _ _ HU.out).mono ?_; rintro e w3 ⟨rfl, hb3⟩; have hb4 := below_step (show Below w1.heap.size w1 _ by repeat (first | exact HBc.out | apply below_alloc | apply below_drew | apply pw_below_drewN)) hb3.below; clear HBc; have HBc := Aside0.mk hb4; clear hb4 hb3) | (go_at_call 95; refine (dam_CheckRules_1.calls d _ _ HD.out).mono ?_; rintro e w3 ⟨rfl, hb3⟩; have hb4 := below_step (show Below w1.heap.size w1 _ by repeat (first | exact HBc.out | apply below_alloc | apply below_drew | apply pw_below_drewN)) hb3.below; clear HBc; have HBc := Aside0.mk hb4; clear hb4 hb3))
                go_ret2
                have hf : firstBad l0_0.length (stepErr l0_0 l0_1) = some (i) := firstBad_some HIN.out HJ.out (by rw [← HES.out]; exact HZ.out)
                have ho := HOUT.out
                rw [hf] at ho
                simp only [Prod.mk.injEq] at ho
                obtain ⟨h1, h2⟩ := ho
                exact ⟨by rw [← h1, ← h2, ← HES.out]; rfl, below_weaken HB01.out HB01.out.size HBc.out⟩
          case neg =>
            rw [decide_eq_false (show ¬ u > pu from hgt), Bool.false_and] at hse
            have H1 := Aside0.mk (show dam_first.f 9 [unlessI (bu && bd) 2, unlessI bc 3, unlessI false 9] = some es from (first_f3 _ _ _).trans (by rw [hse]))
            clear hse hi hi0 hin hin2 hin3
            by_cases hz : es = 0
            case pos =>
              have hzb : (es != 0) = false := bne_eq_false_iff_eq.mpr hz
              have HZ := Aside0.mk hz
              clear hz
              cases bu
              all_goals
                simp only [Bool.true_and, Bool.false_and] at H1
                go_wp2_with (first | (go_at_call 64; refine (dam_unless.calls _ _ _ _ (unless_f _ _)).mono ?_; rintro e w3 ⟨rfl, hb3⟩; have hb4 := below_step (show Below w1.heap.size w1 _ by repeat (first | exact HBc.out | apply below_alloc | apply below_drew | apply pw_below_drewN)) hb3.below; clear HBc; have HBc := Aside0.mk hb4; clear hb4 hb3; obtain ⟨hz0, hz1, hz2, hz3⟩ := HPF.out _ HBc.out) | (go_at_call 63; refine (dam_first.calls 9 _ _ _ es _ (litC _ 26 _ (by simp)) (Nat.le_refl _) H1.out).mono ?_; rintro e' w3 ⟨rfl, hb3⟩; have hb4 := below_step (show Below w1.heap.size w1 _ by repeat (first | exact HBc.out | apply below_alloc | apply below_drew | apply pw_below_drewN)) hb3.below; clear HBc; have HBc := Aside0.mk hb4; clear hb4 hb3) | (go_at_call 95; refine (dam_CheckRules_1.calls u _ _ HU.out).mono ?_; rintro e w3 ⟨rfl, hb3⟩; have hb4 := below_step (show Below w1.heap.size w1 _ by repeat (first | exact HBc.out | apply below_alloc | apply below_drew | apply pw_below_drewN)) hb3.below; clear HBc; have HBc := Aside0.mk hb4; clear hb4 hb3) | (go_at_call 95; refine (dam_CheckRules_1.calls d _ _ HD.out).mono ?_; rintro e w3 ⟨rfl, hb3⟩; have hb4 := below_step (show Below w1.heap.size w1 _ by repeat (first | exact HBc.out | apply below_alloc | apply below_drew | apply pw_below_drewN)) hb3.below; clear HBc; have HBc := Aside0.mk hb4; clear hb4 hb3))
                go_roundg (l0_0.length - (i + 1))
                case measure => have := HIN.out; omega
                case rel =>
                  exact ⟨i + 1, by have := HIN.out; omega, by have := HIN.out; omega, by first | go_num | (have := HIN.out; rw [w64 (by omega) (by omega)]; go_num), ⟨fun j hj => by
                    by_cases e : j = i
                    · subst e
                      rw [← HES.out]
                      exact HZ.out
                    · exact HJ.out j (by omega)⟩, HBc⟩
            case neg =>
              have hzb : (es != 0) = true := bne_iff_ne.2 hz
              have HZ := Aside0.mk hz
              clear hz
              cases bu
              all_goals
                simp only [Bool.true_and, Bool.false_and] at H1
                go_wp2_with (first | (go_at_call 64; refine (dam_unless.calls _ _ _ _ (unless_f _ _)).mono ?_; rintro e w3 ⟨rfl, hb3⟩; have hb4 := below_step (show Below w1.heap.size w1 _ by repeat (first | exact HBc.out | apply below_alloc | apply below_drew | apply pw_below_drewN)) hb3.below; clear HBc; have HBc := Aside0.mk hb4; clear hb4 hb3; obtain ⟨hz0, hz1, hz2, hz3⟩ := HPF.out _ HBc.out) | (go_at_call 63; refine (dam_first.calls 9 _ _ _ es _ (litC _ 26 _ (by simp)) (Nat.le_refl _) H1.out).mono ?_; rintro e' w3 ⟨rfl, hb3⟩; have hb4 := below_step (show Below w1.heap.size w1 _ by repeat (first | exact HBc.out | apply below_alloc | apply below_drew | apply pw_below_drewN)) hb3.below; clear HBc; have HBc := Aside0.mk hb4; clear hb4 hb3) | (go_at_call 95; refine (dam_CheckRules_1.calls u _ _ HU.out).mono ?_; rintro e w3 ⟨rfl, hb3⟩; have hb4 := below_step (show Below w1.heap.size w1 _ by repeat (first | exact HBc.out | apply below_alloc | apply below_drew | apply pw_below_drewN)) hb3.below; clear HBc; have HBc := Aside0.mk hb4; clear hb4 hb3) | (go_at_call 95; refine (dam_CheckRules_1.calls d _ _ HD.out).mono ?_; rintro e w3 ⟨rfl, hb3⟩; have hb4 := below_step (show Below w1.heap.size w1 _ by repeat (first | exact HBc.out | apply below_alloc | apply below_drew | apply pw_below_drewN)) hb3.below; clear HBc; have HBc := Aside0.mk hb4; clear hb4 hb3))
                go_ret2
                have hf : firstBad l0_0.length (stepErr l0_0 l0_1) = some (i) := firstBad_some HIN.out HJ.out (by rw [← HES.out]; exact HZ.out)
                have ho := HOUT.out
                rw [hf] at ho
                simp only [Prod.mk.injEq] at ho
                obtain ⟨h1, h2⟩ := ho
                exact ⟨by rw [← h1, ← h2, ← HES.out]; rfl, below_weaken HB01.out HB01.out.size HBc.out⟩
      case neg =>
        obtain rfl : i = l0_0.length := by omega
        have hf : firstBad l0_0.length (stepErr l0_0 l0_1) = none := firstBad_none HJ.out
        have hout := HOUT.out
        rw [hf] at hout
        simp only at hout
        obtain ⟨q1, hq1⟩ : ∃ q1, q1 = (decide (0 ≤ a0_2) && decide (a0_2 ≤ 1000000)) := ⟨_, rfl⟩
        obtain ⟨q2, hq2⟩ : ∃ q2, q2 = decide ((l0_3.length : Int) ≤ 10) := ⟨_, rfl⟩
        have HWI := Aside0.mk ((within_f a0_2 0 1000000).trans (by rw [← hq1]))
        rw [← hq1, ← hq2] at hout
        obtain ⟨e1, he1⟩ : ∃ e1, e1 = firstI [unlessI q1 2, unlessI q2 8] := ⟨_, rfl⟩
        rw [← he1] at hout
        have H1 := Aside0.mk (show dam_first.f 9 [unlessI q1 2, unlessI q2 8] = some e1 from (first_f2 _ _).trans (by rw [← he1]))
        have hqc := hq2.symm
        have HOUT2 := Aside0.mk hout
        have HE1 := Aside0.mk he1
        have HBc := Aside0.mk HBi.out
        clear hout hf HOUT hq1 hq2 he1 hy0 hy1
        have hz2 : wA.cell? ⟨w.heap.size, 2, none⟩ = some (.int .i64 a0_2) := hy2
        have hz3 : wA.cell? ⟨w.heap.size, 3, none⟩ = some (.slice A0_3 l0_3.length c0_3) := hy3
        clear hy2 hy3
        go_upto_region 14 with fail
        go_region_held3 (fun w' => w'.cell? ⟨w.heap.size, 2, none⟩ = some (.int .i64 a0_2) ∧ w'.cell? ⟨w.heap.size, 3, none⟩ = some (.slice A0_3 l0_3.length c0_3) ∧ Below wA.heap.size wA w')
          ((refine keep2 hz2 hz3 ?_; repeat (first | assumption | exact Below.refl _ _ | apply pw_below_drewN | apply below_drew | apply below_alloc | (apply And.right; apply And.right; assumption) | refine below_step ?_ (by assumption))))
          (first | (go_at_call 64; refine (dam_unless.calls _ _ _ _ (unless_f _ _)).mono ?_; rintro e w3 ⟨rfl, hb3⟩; have hb4 := hb3.below; clear hb3) | (go_at_call 65; refine (dam_within.calls _ _ _ _ _ HWI.out).mono ?_; rintro e w3 ⟨rfl, hb3⟩; have hb4 := hb3.below; clear hb3) | (go_at_call 63; refine (dam_first.calls 9 _ _ _ e1 _ (litC _ 26 _ (by simp)) (Nat.le_refl _) H1.out).mono ?_; rintro e w3 ⟨rfl, hb3⟩; have hb4 := hb3.below; clear hb3))
        have hBw : Below wA.heap.size wA w3 := by
          apply And.right
          apply And.right
          assumption
        have hB3 := below_weaken HBi.out HBi.out.size hBw
        have HB3 := Aside0.mk hB3
        clear hBw hB3 hz2 hz3
        by_cases hz1 : e1 = 0
        case neg =>
          have hzb : (e1 != 0) = true := bne_iff_ne.2 hz1
          have hout := HOUT2.out
          rw [if_neg hz1] at hout
          simp only [Prod.mk.injEq] at hout
          obtain ⟨rfl, rfl⟩ := hout
          clear hz1
          go_wp2
          go_ret2
          exact ⟨rfl, below_weaken HB01.out HB01.out.size HB3.out⟩
        case pos =>
          subst hz1
          have hout := HOUT2.out
          rw [if_pos rfl] at hout
          have HOUT3 := Aside0.mk hout
          clear hout
          have hbx := blk_below HBL.out HB3.out
          have hy3 : w3.cell? ⟨w.heap.size, 3, none⟩ = some (.slice A0_3 l0_3.length c0_3) := (blk_cell hbx 3).trans rfl
          clear hbx
          go_wp2
          go_loopg [112] l0_3.length (fun gg s112 w5 => ∃ (i : Nat), i ≤ l0_3.length ∧ l0_3.length - i ≤ gg ∧ s112 = .int .i64 i ∧ Aside0 (∀ j, j < i → personErr l0_3 l0_0.length z135 j = 0) ∧ Aside0 (Below w1.heap.size w1 w5))
          case atStart => exact ⟨0, by omega, by omega, rfl, ⟨fun j hj => absurd hj (by omega)⟩, HB3⟩
          case round =>
            obtain ⟨i, hi, hgg2, rfl, HJ3, HBq⟩ := hrel
            clear hy3
            obtain ⟨wB, hwB⟩ : ∃ wB, wB = wr := ⟨_, rfl⟩
            subst hwB
            by_cases hin : i < l0_3.length
            case pos =>
              have hin2 : (i : Int) < (l0_3.length : Int) := by omega
              have HBX := Aside0.mk (below_weaken HB01.out HB01.out.size HBq.out)
              obtain ⟨ad, e1, hv0, hv1⟩ := at_T135 (Kd.C_below HR3.out HBX.out) (i : Int) (by omega) (by omega)
              cases e1
              rw [show rd_T135 l0_3 (i : Int) = l0_3.getD i z135 from rfl] at hv0 hv1
              rw [Int.toNat_natCast] at hv0 hv1
              obtain ⟨x, hx⟩ : ∃ x, x = l0_3.getD i z135 := ⟨_, rfl⟩
              rw [← hx] at hv0 hv1
              have hxm : x ∈ l0_3 := by rw [hx, List.getD_eq_getElem?_getD, List.getElem?_eq_getElem hin]; exact List.getElem_mem hin
              have HX := Aside0.mk hx
              have HXM := Aside0.mk hxm
              clear hx hxm
              go_upto_region 20 with fail
              have hPb := blk_new wB (.cells #[.string x.f0, .int .i64 x.f1] 135)
              have hB4 := below_weaken HBq.out HBq.out.size (below_alloc (Below.refl _ wB) (.cells #[.string x.f0, .int .i64 x.f1] 135))
              have hPl : wB.heap.size < (wB.alloc (.cells #[.string x.f0, .int .i64 x.f1] 135)).heap.size := blk_lt hPb
              clear hv0 hv1
              generalize wB.alloc (.cells #[.string x.f0, .int .i64 x.f1] 135) = w4 at *
              generalize wB.heap.size = P at *
              have hti : (l0_3.take i).length = i := by simp; omega
              have hB4w := below_weaken HB01.out HB01.out.size hB4
              obtain ⟨hcx0, hcx1⟩ := personBlk hPb
              have hK := hContainsPerson 97 #[.pointer (some ⟨P, 0, none⟩)] (fun o => o.f0.toList == x.f0.toList) (fun args w => by rfl) (some ad) c0_3 (l0_3.take i) w4 (Kd.C_take (Kd.C_below HR3.out hB4w) hi)
                (fun W y _ hb => checkRules2_calls y P x.f0 W ((hb.cell (World.block_lt_of_cell? w4 _ hcx0)).trans hcx0) (Nat.lt_of_lt_of_le hPl hb.size))
              rw [hti] at hK
              obtain ⟨kb, hkb⟩ : ∃ kb, kb = (l0_3.take i).any (fun o => o.f0.toList == x.f0.toList) := ⟨_, rfl⟩
              rw [← hkb] at hK
              have HK := Aside0.mk hK
              have hse : personErr l0_3 l0_0.length z135 i = firstI [unlessI (nameOk x.f0) 4, unlessI (!kb) 5, unlessI (decide (1 ≤ x.f1) && decide (x.f1 ≤ (l0_0.length : Int))) 2] := by
                unfold personErr
                rw [← HX.out, ← hkb]
              have HNf := Aside0.mk (show dam_isName.f x.f0 = some (nameOk x.f0) from by unfold dam_isName.f; rw [if_pos (HNM.out x HXM.out)])
              have HWf := Aside0.mk (within_f x.f1 1 (l0_0.length : Int))
              obtain ⟨bn, hbn⟩ : ∃ bn, bn = nameOk x.f0 := ⟨_, rfl⟩
              obtain ⟨bw, hbw⟩ : ∃ bw, bw = (decide (1 ≤ x.f1) && decide (x.f1 ≤ (l0_0.length : Int))) := ⟨_, rfl⟩
              rw [← hbn] at HNf hse
              rw [← hbw] at HWf hse
              obtain ⟨es, hes⟩ : ∃ es, es = personErr l0_3 l0_0.length z135 i := ⟨_, rfl⟩
              rw [← hes] at hse
              have H2 := Aside0.mk (show dam_first.f 9 [unlessI bn 4, unlessI (!kb) 5, unlessI bw 2] = some es from (first_f3 _ _ _).trans (by rw [hse]))
              have HES := Aside0.mk hes
              have HIN := Aside0.mk hin
              have hy3 : w4.cell? ⟨w.heap.size, 3, none⟩ = some (.slice (some ad) l0_3.length c0_3) := (blk_cell (blk_below HBL.out hB4) 3).trans rfl
              have HB4 := Aside0.mk hB4
              have HC := Aside0.mk (And.intro hcx0 hcx1)
              have hcc := HC3.out
              have hic : (i : Int) ≤ (c0_3 : Int) := by omega
              clear hse hes hbn hbw hkb hK hti hB4 hB4w hPb hcx0 hcx1 hPl
              go_upto_region 21 with (go_at_call 96; refine HK.out.mono ?_; rintro e w5 ⟨rfl, hb5⟩; have HB5 := Aside0.mk hb5; clear hb5)
              clear hy3
              have hB5 := below_weaken HB4.out HB4.out.size HB5.out
              have hcx0 := (HB5.out.cell (World.block_lt_of_cell? w4 _ HC.out.1)).trans HC.out.1
              have hcx1 := (HB5.out.cell (World.block_lt_of_cell? w4 _ HC.out.2)).trans HC.out.2
              have HB6 := Aside0.mk hB5
              clear hB5
              go_region_held3 (fun w' => w'.cell? ⟨P, 0, none⟩ = some (.string x.f0) ∧ w'.cell? ⟨P, 1, none⟩ = some (.int .i64 x.f1) ∧ Below w5.heap.size w5 w')
                ((refine keep2 hcx0 hcx1 ?_; repeat (first | assumption | exact Below.refl _ _ | apply pw_below_drewN | apply below_drew | apply below_alloc | (apply And.right; apply And.right; assumption) | refine below_step ?_ (by assumption))))
                (first | (go_at_call 64; refine (dam_unless.calls _ _ _ _ (unless_f _ _)).mono ?_; rintro e w3 ⟨rfl, hb3⟩; have hb4 := hb3.below; clear hb3) | (go_at_call 98; refine (dam_isName.calls _ _ _ HNf.out).mono ?_; rintro e w3 ⟨rfl, hb4⟩) | (go_at_call 65; refine (dam_within.calls _ _ _ _ _ HWf.out).mono ?_; rintro e w3 ⟨rfl, hb3⟩; have hb4 := hb3.below; clear hb3) | (go_at_call 63; refine (dam_first.calls 9 _ _ _ es _ (litC _ 26 _ (by simp)) (Nat.le_refl _) H2.out).mono ?_; rintro e w3 ⟨rfl, hb3⟩; have hb4 := hb3.below; clear hb3))
              have hBw : Below w5.heap.size w5 w3 := by
                apply And.right
                apply And.right
                assumption
              have hB7 := below_weaken HB6.out HB6.out.size hBw
              have HB7 := Aside0.mk hB7
              clear hBw hB7 hcx0 hcx1
              by_cases hz : es = 0
              case pos =>
                have hzb : (es != 0) = false := bne_eq_false_iff_eq.mpr hz
                have HZ := Aside0.mk hz
                clear hz
                go_wp2
                go_roundg (l0_3.length - (i + 1))
                case measure => omega
                case rel =>
                  exact ⟨i + 1, by omega, by omega, by go_num, ⟨fun j hj => by
                    by_cases e : j = i
                    · subst e
                      rw [← HES.out]
                      exact HZ.out
                    · exact HJ3.out j (by omega)⟩, HB7⟩
              case neg =>
                have hzb : (es != 0) = true := bne_iff_ne.2 hz
                have HZ := Aside0.mk hz
                clear hz
                go_wp2
                go_ret2
                have ho := HOUT3.out
                unfold personsOut at ho
                rw [firstBad_some HIN.out HJ3.out (by rw [← HES.out]; exact HZ.out)] at ho
                simp only [Prod.mk.injEq] at ho
                obtain ⟨h1, h2⟩ := ho
                exact ⟨by rw [← h1, ← h2, ← HES.out]; rfl, below_weaken HB01.out HB01.out.size HB7.out⟩
            case neg =>
              obtain rfl : i = l0_3.length := by omega
              have ho := HOUT3.out
              unfold personsOut at ho
              rw [firstBad_none HJ3.out] at ho
              simp only [Prod.mk.injEq] at ho
              obtain ⟨rfl, rfl⟩ := ho
              go_wp2
              go_ret2
              exact ⟨rfl, below_weaken HB01.out HB01.out.size HBq.out⟩
def dam_isDeviation.f (a0 : Int) : Option (Bool) := (dam_within.f a0 0 1000000).bind fun t279001 => (some t279001)
set_option maxHeartbeats 8000000 in
set_option maxRecDepth 100000 in
theorem dam_isDeviation.calls (a0 : Int) (r : Bool) (w : World) (h : dam_isDeviation.f a0 = some r) :
    Calls Try.prog 93 #[.int .i64 a0] w fun e w' => e = .returned (.bool r) ∧ Drawn0 w w' := by
  have H : ((dam_within.f a0 0 1000000).bind fun t279001 => (some t279001)) = some r := h
  clear h
  replace H := Option.bind_eq_some_iff.mp H
  obtain ⟨t279001, A20, H⟩ := H
  replace H : (some t279001) = some r := H
  have A2 := Aside0.mk A20
  clear A20
  obtain rfl := Option.some.inj H
  go_enter Try.func93, Try.ntmps93
  go_wp2_with (first | ((with_reducible refine gate_callee (f := 65) rfl ?_); refine goesL_ (some 4) rfl rfl Try.func65 (by kernel_rfl) rfl #[.int .i64 a0, .int .i64 0, .int .i64 1000000] rfl mpa ?_; (with_reducible refine (dam_within.calls a0 0 1000000 t279001 _ A2.out).mono ?_); rintro e w' ⟨rfl, ⟨nd, rfl⟩⟩; refine ⟨_, rfl, ?_⟩))
  go_ret
  exact ⟨by first | rfl | (simp; done) | (simp [*]; done), by repeat (first | exact Drawn0.refl _ | apply Drawn0.step)⟩
def slices_isNaN_int.f (a0 : Int) : Option (Bool) := some (a0 != a0)
set_option maxHeartbeats 8000000 in
set_option maxRecDepth 100000 in
theorem slices_isNaN_int.calls (a0 : Int) (r : Bool) (w : World) (h : slices_isNaN_int.f a0 = some r) :
    Calls Try.prog 125 #[.int .i64 a0] w fun e w' => e = .returned (.bool r) ∧ Drawn0 w w' := by
  have H : (some (a0 != a0)) = some r := h
  clear h
  obtain rfl := Option.some.inj H
  go_enter Try.func125, Try.ntmps125
  go_wp2
  go_ret
  exact ⟨by first | rfl | (simp; done) | (simp [*]; done), by repeat (first | exact Drawn0.refl _ | apply Drawn0.step)⟩
def slices_BinarySearch_int_int.l0 : Nat → List Int → Int → Int → Int → Int → Option (Int × Bool)
  | 0, _, _, _, _, _ => none
  | k + 1, x0, x1, x6, x7, x8 => if x7 < x8 then (if 0 ≤ (wrap64 ((IntKind.u64.wrap (wrap64 (x7 + x8))) / 2)) then (if (wrap64 ((IntKind.u64.wrap (wrap64 (x7 + x8))) / 2)) < (x0.length : Int) then ((cmp_Less_int.f (rd x0 (wrap64 ((IntKind.u64.wrap (wrap64 (x7 + x8))) / 2))) x1).bind fun t348002 => (if t348002 = true then (slices_BinarySearch_int_int.l0 k x0 x1 x6 (wrap64 ((wrap64 ((IntKind.u64.wrap (wrap64 (x7 + x8))) / 2)) + 1)) x8) else (slices_BinarySearch_int_int.l0 k x0 x1 x6 x7 (wrap64 ((IntKind.u64.wrap (wrap64 (x7 + x8))) / 2))))) else (none)) else (none)) else (if x7 < x6 then (if 0 ≤ x7 then (if x7 < (x0.length : Int) then (if (rd x0 x7) = x1 then (some (x7, true)) else ((slices_isNaN_int.f (rd x0 x7)).bind fun t348005 => (if t348005 = true then ((slices_isNaN_int.f x1).bind fun t348006 => (some (x7, t348006))) else (some (x7, false))))) else (none)) else (none)) else (some (x7, false)))
def slices_BinarySearch_int_int.f (k : Nat) (l0 : List Int) (a1 : Int) : Option (Int × Bool) := slices_BinarySearch_int_int.l0 k l0 a1 (l0.length : Int) 0 (l0.length : Int)
set_option maxHeartbeats 8000000 in
set_option maxRecDepth 100000 in
theorem slices_BinarySearch_int_int.calls (k : Nat) (A0 : Option Addr) (c0 : Nat) (l0 : List Int) (a1 : Int) (r1 : Int) (r2 : Bool) (w : World) (hr0 : Kd.C (Kd.int .i64) w A0 l0.length l0) (hc0 : l0.length ≤ c0) (h : slices_BinarySearch_int_int.f k l0 a1 = some (r1, r2)) :
    Calls Try.prog 116 #[.slice A0 l0.length c0, .int .i64 a1] w fun e w' => e = .returned (.tuple #[.int .i64 r1, .bool r2]) ∧ Drawn0 w w' := by
  have HR0 := Aside0.mk hr0
  have HC0 := Aside0.mk hc0
  clear hr0 hc0
  have H : (slices_BinarySearch_int_int.l0 k l0 a1 (l0.length : Int) 0 (l0.length : Int)) = some (r1, r2) := h
  clear h
  have H' := Aside0.mk H
  clear H
  go_enter Try.func116, Try.ntmps116
  go_wp2
  go_loopg [7, 8] k (fun kq v7 v8 w' => ∃ (x7_1 : Int) (x8_1 : Int), v7 = .int .i64 x7_1 ∧ v8 = .int .i64 x8_1 ∧ Aside0 (slices_BinarySearch_int_int.l0 kq l0 a1 (l0.length : Int) x7_1 x8_1 = some (r1, r2)) ∧ Aside0 (kq ≤ k) ∧ Drawn0 w w')
  case atStart => exact ⟨(0), ((l0.length : Int)), (by first | rfl | (simp; done) | (simp [*]; done)), (by first | rfl | (simp; done) | (simp [*]; done)), H', ⟨Nat.le_refl _⟩, by repeat (first | exact Drawn0.refl _ | apply Drawn0.step)⟩
  case round =>
    clear H'
    try clear c1
    try clear p2
    obtain ⟨x7_1, x8_1, rfl, rfl, HA, HK1, ⟨m1, rfl⟩⟩ := hrel
    cases gk with
    | zero => exact absurd HA.out (by simp [slices_BinarySearch_int_int.l0])
    | succ k1 =>
      have H := HA.out
      clear HA
      simp only [slices_BinarySearch_int_int.l0] at H
      by_cases c3 : x7_1 < x8_1
      · rw [if_pos c3] at H
        have c3b0 : decide (x7_1 < x8_1) = true := decide_eq_true c3
        clear c3
        obtain ⟨ji4, hji4⟩ : ∃ j_ : Int, (wrap64 ((IntKind.u64.wrap (wrap64 (x7_1 + x8_1))) / 2)) = j_ := ⟨_, rfl⟩
        replace H : (if 0 ≤ (ji4) then (if (ji4) < (l0.length : Int) then ((cmp_Less_int.f (rd l0 (ji4)) a1).bind fun t348002 => (if t348002 = true then (slices_BinarySearch_int_int.l0 k1 l0 a1 (l0.length : Int) (wrap64 ((ji4) + 1)) x8_1) else (slices_BinarySearch_int_int.l0 k1 l0 a1 (l0.length : Int) x7_1 ji4))) else (none)) else (none)) = some (r1, r2) := by first | (rw [hji4] at H; exact H) | (simp only [hji4] at H ⊢; exact H)
        have hji4w : (IntKind.i64.wrap ((IntKind.u64.wrap (wrap64 (x7_1 + x8_1))) / 2)) = ji4 := (i64_w _).trans hji4
        by_cases c5 : 0 ≤ (ji4)
        · rw [if_pos c5] at H
          have c5b0 : decide (0 ≤ (ji4)) = true := decide_eq_true c5
          clear c5
          by_cases c6 : (ji4) < (l0.length : Int)
          · rw [if_pos c6] at H
            have c6b0 : decide ((ji4) < (l0.length : Int)) = true := decide_eq_true c6
            clear c6
            replace H := Option.bind_eq_some_iff.mp H
            obtain ⟨t348002, A70, H⟩ := H
            replace H : (if t348002 = true then (slices_BinarySearch_int_int.l0 k1 l0 a1 (l0.length : Int) (wrap64 ((ji4) + 1)) x8_1) else (slices_BinarySearch_int_int.l0 k1 l0 a1 (l0.length : Int) x7_1 ji4)) = some (r1, r2) := H
            have A7 := Aside0.mk A70
            clear A70
            by_cases c8 : t348002 = true
            · subst c8
              have H1 : (slices_BinarySearch_int_int.l0 k1 l0 a1 (l0.length : Int) (wrap64 ((ji4) + 1)) x8_1) = some (r1, r2) := by rw [if_pos rfl] at H; exact H
              clear H
              have H := H1
              clear H1
              have H' := Aside0.mk H
              clear H
              have p348001 : 0 ≤ ((ji4) : Int) := of_decide_eq_true asm_
              have q348001 : (ji4) < (l0.length : Int) := of_decide_eq_true asm_
              obtain ⟨ad348001, e348001, hx348001_0⟩ := Kd.at_int HR0.out (ji4) p348001 q348001
              cases e348001
              replace p348001 := eq_true p348001
              replace q348001 := eq_true q348001
              go_wp2_with (first | ((with_reducible refine gate_callee (f := 124) rfl ?_); refine goesL_ (some 27) rfl rfl Try.func124 (by kernel_rfl) rfl #[.int .i64 (rd l0 (ji4)), .int .i64 a1] rfl (by (try simp only [List.map_toArray, List.map_cons, List.map_nil]); first | done | (simp only [hji4]; rfl) | rfl | (simp only [List.length_drop, List.length_take]; rfl)) ?_; (with_reducible refine (cmp_Less_int.calls (rd l0 (ji4)) a1 true _ A7.out).mono ?_); rintro e w' ⟨rfl, ⟨nd, rfl⟩⟩; refine ⟨_, rfl, ?_⟩))
              go_roundg k1
              case measure => have := HK1.out; omega
              case rel => exact ⟨(wrap64 ((ji4) + 1)), (x8_1), (by first | rfl | (simp; done) | (simp only [← hji4] <;> (first | rfl | simp)) | (simp [*]; done)), (by first | rfl | (simp; done) | (simp [*]; done)), H', ⟨by have := HK1.out; omega⟩, by repeat (first | exact Drawn0.refl _ | apply Drawn0.step)⟩
            · replace c8 := Bool.eq_false_iff.mpr c8
              subst c8
              have H1 : (slices_BinarySearch_int_int.l0 k1 l0 a1 (l0.length : Int) x7_1 ji4) = some (r1, r2) := by rw [if_neg (show ¬ (false = true) by decide)] at H; exact H
              clear H
              have H := H1
              clear H1
              have H' := Aside0.mk H
              clear H
              have p348001 : 0 ≤ ((ji4) : Int) := of_decide_eq_true asm_
              have q348001 : (ji4) < (l0.length : Int) := of_decide_eq_true asm_
              obtain ⟨ad348001, e348001, hx348001_0⟩ := Kd.at_int HR0.out (ji4) p348001 q348001
              cases e348001
              replace p348001 := eq_true p348001
              replace q348001 := eq_true q348001
              go_wp2_with (first | ((with_reducible refine gate_callee (f := 124) rfl ?_); refine goesL_ (some 27) rfl rfl Try.func124 (by kernel_rfl) rfl #[.int .i64 (rd l0 (ji4)), .int .i64 a1] rfl (by (try simp only [List.map_toArray, List.map_cons, List.map_nil]); first | done | (simp only [hji4]; rfl) | rfl | (simp only [List.length_drop, List.length_take]; rfl)) ?_; (with_reducible refine (cmp_Less_int.calls (rd l0 (ji4)) a1 false _ A7.out).mono ?_); rintro e w' ⟨rfl, ⟨nd, rfl⟩⟩; refine ⟨_, rfl, ?_⟩))
              go_roundg k1
              case measure => have := HK1.out; omega
              case rel => exact ⟨(x7_1), (ji4), (by first | rfl | (simp; done) | (simp [*]; done)), (by first | rfl | (simp; done) | (simp only [← hji4] <;> (first | rfl | simp)) | (simp [*]; done)), H', ⟨by have := HK1.out; omega⟩, by repeat (first | exact Drawn0.refl _ | apply Drawn0.step)⟩
          · rw [if_neg c6] at H
            exact absurd H (by simp)
        · rw [if_neg c5] at H
          exact absurd H (by simp)
      · rw [if_neg c3] at H
        have c3b0 : decide (x7_1 < x8_1) = false := decide_eq_false c3
        clear c3
        by_cases c9 : x7_1 < (l0.length : Int)
        · rw [if_pos c9] at H
          have c9b0 : decide (x7_1 < (l0.length : Int)) = true := decide_eq_true c9
          clear c9
          by_cases c10 : 0 ≤ x7_1
          · rw [if_pos c10] at H
            have c10b0 : decide (0 ≤ x7_1) = true := decide_eq_true c10
            clear c10
            by_cases c11 : x7_1 < (l0.length : Int)
            · rw [if_pos c11] at H
              have c11b0 : decide (x7_1 < (l0.length : Int)) = true := decide_eq_true c11
              clear c11
              by_cases c12 : (rd l0 x7_1) = a1
              · rw [if_pos c12] at H
                have c12b0 : ((rd l0 x7_1) == a1) = true := beq_iff_eq.mpr c12
                have c12b1 : ((rd l0 x7_1) != a1) = false := bne_eq_false_iff_eq.mpr c12
                clear c12
                simp only [Option.some.injEq, Prod.mk.injEq] at H
                obtain ⟨rfl, rfl⟩ := H
                have p348003 : 0 ≤ (x7_1 : Int) := of_decide_eq_true asm_
                have q348003 : x7_1 < (l0.length : Int) := of_decide_eq_true asm_
                obtain ⟨ad348003, e348003, hx348003_0⟩ := Kd.at_int HR0.out x7_1 p348003 q348003
                cases e348003
                replace p348003 := eq_true p348003
                replace q348003 := eq_true q348003
                go_wp2
                go_ret2
                exact ⟨by first | rfl | (simp; done) | (simp [*]; done), by repeat (first | exact Drawn0.refl _ | apply Drawn0.step)⟩
              · rw [if_neg c12] at H
                have c12b0 : ((rd l0 x7_1) == a1) = false := beq_eq_false_iff_ne.mpr c12
                have c12b1 : ((rd l0 x7_1) != a1) = true := bne_iff_ne.mpr c12
                replace H := Option.bind_eq_some_iff.mp H
                obtain ⟨t348005, A130, H⟩ := H
                replace H : (if t348005 = true then ((slices_isNaN_int.f a1).bind fun t348006 => (some (x7_1, t348006))) else (some (x7_1, false))) = some (r1, r2) := H
                have A13 := Aside0.mk A130
                clear A130
                by_cases c14 : t348005 = true
                · subst c14
                  have H1 : ((slices_isNaN_int.f a1).bind fun t348006 => (some (x7_1, t348006))) = some (r1, r2) := by rw [if_pos rfl] at H; exact H
                  clear H
                  have H := H1
                  clear H1
                  replace H := Option.bind_eq_some_iff.mp H
                  obtain ⟨t348006, A150, H⟩ := H
                  replace H : (some (x7_1, t348006)) = some (r1, r2) := H
                  have A15 := Aside0.mk A150
                  clear A150
                  simp only [Option.some.injEq, Prod.mk.injEq] at H
                  obtain ⟨rfl, rfl⟩ := H
                  have p348003 : 0 ≤ (x7_1 : Int) := of_decide_eq_true asm_
                  have q348003 : x7_1 < (l0.length : Int) := of_decide_eq_true asm_
                  obtain ⟨ad348003, e348003, hx348003_0⟩ := Kd.at_int HR0.out x7_1 p348003 q348003
                  cases e348003
                  replace p348003 := eq_true p348003
                  replace q348003 := eq_true q348003
                  have p348004 : 0 ≤ (x7_1 : Int) := of_decide_eq_true asm_
                  have q348004 : x7_1 < (l0.length : Int) := of_decide_eq_true asm_
                  obtain ⟨ad348004, e348004, hx348004_0⟩ := Kd.at_int HR0.out x7_1 p348004 q348004
                  obtain rfl : ad348003 = ad348004 := (by injection e348004)
                  replace p348004 := eq_true p348004
                  replace q348004 := eq_true q348004
                  go_wp2_with (first | (go_at_call 125; (with_reducible refine (slices_isNaN_int.calls (rd l0 x7_1) true _ A13.out).mono ?_); rintro e w' ⟨rfl, ⟨nd, rfl⟩⟩) | (go_at_call 125; (with_reducible refine (slices_isNaN_int.calls a1 t348006 _ A15.out).mono ?_); rintro e w' ⟨rfl, ⟨nd, rfl⟩⟩))
                  go_ret2
                  exact ⟨by first | rfl | (simp; done) | (simp [*]; done), by repeat (first | exact Drawn0.refl _ | apply Drawn0.step)⟩
                · replace c14 := Bool.eq_false_iff.mpr c14
                  subst c14
                  have H1 : (some (x7_1, false)) = some (r1, r2) := by rw [if_neg (show ¬ (false = true) by decide)] at H; exact H
                  clear H
                  have H := H1
                  clear H1
                  simp only [Option.some.injEq, Prod.mk.injEq] at H
                  obtain ⟨rfl, rfl⟩ := H
                  have p348003 : 0 ≤ (x7_1 : Int) := of_decide_eq_true asm_
                  have q348003 : x7_1 < (l0.length : Int) := of_decide_eq_true asm_
                  obtain ⟨ad348003, e348003, hx348003_0⟩ := Kd.at_int HR0.out x7_1 p348003 q348003
                  cases e348003
                  replace p348003 := eq_true p348003
                  replace q348003 := eq_true q348003
                  have p348004 : 0 ≤ (x7_1 : Int) := of_decide_eq_true asm_
                  have q348004 : x7_1 < (l0.length : Int) := of_decide_eq_true asm_
                  obtain ⟨ad348004, e348004, hx348004_0⟩ := Kd.at_int HR0.out x7_1 p348004 q348004
                  obtain rfl : ad348003 = ad348004 := (by injection e348004)
                  replace p348004 := eq_true p348004
                  replace q348004 := eq_true q348004
                  go_wp2_with (first | (go_at_call 125; (with_reducible refine (slices_isNaN_int.calls (rd l0 x7_1) false _ A13.out).mono ?_); rintro e w' ⟨rfl, ⟨nd, rfl⟩⟩))
                  go_ret2
                  exact ⟨by first | rfl | (simp; done) | (simp [*]; done), by repeat (first | exact Drawn0.refl _ | apply Drawn0.step)⟩
            · rw [if_neg c11] at H
              exact absurd H (by simp)
          · rw [if_neg c10] at H
            exact absurd H (by simp)
        · rw [if_neg c9] at H
          have c9b0 : decide (x7_1 < (l0.length : Int)) = false := decide_eq_false c9
          clear c9
          simp only [Option.some.injEq, Prod.mk.injEq] at H
          obtain ⟨rfl, rfl⟩ := H
          go_wp2
          go_ret2
          exact ⟨by first | rfl | (simp; done) | (simp [*]; done), by repeat (first | exact Drawn0.refl _ | apply Drawn0.step)⟩
def dam_rules_asked.f (k : Nat) (l0_0 : List Int) (l0_1 : List Int) (a0_2 : Int) (l0_3 : List (S135)) (a1 : Int) : Option (Int) := (slices_BinarySearch_int_int.f k l0_0 a1).bind fun bt297002 => (if bt297002.2 = true then (some (wrap64 (bt297002.1 + 1))) else (some bt297002.1))
set_option maxHeartbeats 8000000 in
set_option maxRecDepth 100000 in
theorem dam_rules_asked.calls (k : Nat) (A0_0 : Option Addr) (c0_0 : Nat) (l0_0 : List Int) (A0_1 : Option Addr) (c0_1 : Nat) (l0_1 : List Int) (a0_2 : Int) (A0_3 : Option Addr) (c0_3 : Nat) (l0_3 : List (S135)) (a1 : Int) (r : Int) (w : World) (hr0_0 : Kd.C (Kd.int .i64) w A0_0 l0_0.length l0_0) (hc0_0 : l0_0.length ≤ c0_0) (hr0_1 : Kd.C (Kd.int .i64) w A0_1 l0_1.length l0_1) (hc0_1 : l0_1.length ≤ c0_1) (hr0_3 : Kd.C k135 w A0_3 l0_3.length l0_3) (hc0_3 : l0_3.length ≤ c0_3) (h : dam_rules_asked.f k l0_0 l0_1 a0_2 l0_3 a1 = some r) :
    Calls Try.prog 99 #[.agg #[.slice A0_0 l0_0.length c0_0, .slice A0_1 l0_1.length c0_1, .int .i64 a0_2, .slice A0_3 l0_3.length c0_3], .int .i64 a1] w fun e w' => e = .returned (.int .i64 r) ∧ Below w.heap.size w w' := by
  have hu137 := Try.underlying137
  have HR0_0 := Aside0.mk hr0_0
  have HC0_0 := Aside0.mk hc0_0
  clear hr0_0 hc0_0
  have HR0_1 := Aside0.mk hr0_1
  have HC0_1 := Aside0.mk hc0_1
  clear hr0_1 hc0_1
  have HR0_3 := Aside0.mk hr0_3
  have HC0_3 := Aside0.mk hc0_3
  clear hr0_3 hc0_3
  have HB := Aside0.mk (Below.refl w.heap.size w)
  have H : ((slices_BinarySearch_int_int.f k l0_0 a1).bind fun bt297002 => (if bt297002.2 = true then (some (wrap64 (bt297002.1 + 1))) else (some bt297002.1))) = some r := h
  clear h
  replace H := Option.bind_eq_some_iff.mp H
  obtain ⟨⟨t297002, t297003⟩, A30, H⟩ := H
  replace H : (if t297003 = true then (some (wrap64 (t297002 + 1))) else (some t297002)) = some r := H
  have A3 := Aside0.mk A30
  clear A30
  by_cases c4 : t297003 = true
  · subst c4
    have H1 : (some (wrap64 (t297002 + 1))) = some r := by rw [if_pos rfl] at H; exact H
    clear H
    have H := H1
    clear H1
    obtain rfl := Option.some.inj H
    go_enter Try.func99, Try.ntmps99
    go_wp2_with (first | ((with_reducible refine gate_dst (N := 2) rfl ?_); refine box_event ?hg (N := 2) ?hd (cs := #[.slice A0_0 l0_0.length c0_0, .slice A0_1 l0_1.length c0_1, .int .i64 a0_2, .slice A0_3 l0_3.length c0_3]) (t := 137) ?hr ?_; (case hd => rfl); (case hg => rfl); (case hr => first | (go_simp; done) | (go_simp; rfl)); intro gb297001 hg w5 hbox hb; have n0_ := Aside0.mk (below_step (bel HB.out) hb); have n1_ := Aside0.mk (hbox); have n2_ := Aside0.mk ((by rw [hg]; exact (below_size (bel HB.out)) : w.heap.size ≤ gb297001)); have n3_ := Aside0.mk ((by rw [hg]; exact (below_size (bel HB.out)) : w.heap.size ≤ gb297001)); clear HB; have HB := n0_; have BK297001 := n1_; have GW297001 := n2_; have GE297001 := n3_; clear n0_ n1_ n2_ n3_; clear hb hbox hg; have hcz6_0 : w5.cell? ⟨gb297001, 0, none⟩ = some (.slice A0_0 l0_0.length c0_0) := (blk_cell BK297001.out 0).trans rfl; have hcz6_1 : w5.cell? ⟨gb297001, 1, none⟩ = some (.slice A0_1 l0_1.length c0_1) := (blk_cell BK297001.out 1).trans rfl; have hcz6_2 : w5.cell? ⟨gb297001, 2, none⟩ = some (.int .i64 a0_2) := (blk_cell BK297001.out 2).trans rfl; have hcz6_3 : w5.cell? ⟨gb297001, 3, none⟩ = some (.slice A0_3 l0_3.length c0_3) := (blk_cell BK297001.out 3).trans rfl; have hfz6_0 := blk_frozen BK297001.out 0; have hfz6_1 := blk_frozen BK297001.out 1; have hfz6_2 := blk_frozen BK297001.out 2; have hfz6_3 := blk_frozen BK297001.out 3) | ((with_reducible refine gate_callee (f := 116) rfl ?_); refine goesL_ (some 12) rfl rfl Try.func116 (by kernel_rfl) rfl #[.slice A0_0 l0_0.length c0_0, .int .i64 a1] rfl mpa ?_; (with_reducible refine (slices_BinarySearch_int_int.calls k _ _ l0_0 a1 t297002 true _ ?side1 ?side2 A3.out).mono ?_); (case side1 => repeat (first | exact (Kd.C_below HR0_0.out HB.out) | (with_reducible refine Kd.C_alloc ?_ _) | (with_reducible refine Kd.C_drewN ?_ _) | (with_reducible refine Kd.C_drew ?_))); (case side2 => exact HC0_0.out); rintro e w' ⟨rfl, ⟨nd, rfl⟩⟩; refine ⟨_, rfl, ?_⟩))
    go_ret
    exact ⟨by first | rfl | (simp [errW_none, errW_some] <;> rfl) | (simp [*, errW_none, errW_some] <;> rfl), belS HB.out GE297001.out⟩
  · replace c4 := Bool.eq_false_iff.mpr c4
    subst c4
    have H1 : (some t297002) = some r := by rw [if_neg (show ¬ (false = true) by decide)] at H; exact H
    clear H
    have H := H1
    clear H1
    obtain rfl := Option.some.inj H
    go_enter Try.func99, Try.ntmps99
    go_wp2_with (first | ((with_reducible refine gate_dst (N := 2) rfl ?_); refine box_event ?hg (N := 2) ?hd (cs := #[.slice A0_0 l0_0.length c0_0, .slice A0_1 l0_1.length c0_1, .int .i64 a0_2, .slice A0_3 l0_3.length c0_3]) (t := 137) ?hr ?_; (case hd => rfl); (case hg => rfl); (case hr => first | (go_simp; done) | (go_simp; rfl)); intro gb297001 hg w7 hbox hb; have n0_ := Aside0.mk (below_step (bel HB.out) hb); have n1_ := Aside0.mk (hbox); have n2_ := Aside0.mk ((by rw [hg]; exact (below_size (bel HB.out)) : w.heap.size ≤ gb297001)); have n3_ := Aside0.mk ((by rw [hg]; exact (below_size (bel HB.out)) : w.heap.size ≤ gb297001)); clear HB; have HB := n0_; have BK297001 := n1_; have GW297001 := n2_; have GE297001 := n3_; clear n0_ n1_ n2_ n3_; clear hb hbox hg; have hcz8_0 : w7.cell? ⟨gb297001, 0, none⟩ = some (.slice A0_0 l0_0.length c0_0) := (blk_cell BK297001.out 0).trans rfl; have hcz8_1 : w7.cell? ⟨gb297001, 1, none⟩ = some (.slice A0_1 l0_1.length c0_1) := (blk_cell BK297001.out 1).trans rfl; have hcz8_2 : w7.cell? ⟨gb297001, 2, none⟩ = some (.int .i64 a0_2) := (blk_cell BK297001.out 2).trans rfl; have hcz8_3 : w7.cell? ⟨gb297001, 3, none⟩ = some (.slice A0_3 l0_3.length c0_3) := (blk_cell BK297001.out 3).trans rfl; have hfz8_0 := blk_frozen BK297001.out 0; have hfz8_1 := blk_frozen BK297001.out 1; have hfz8_2 := blk_frozen BK297001.out 2; have hfz8_3 := blk_frozen BK297001.out 3) | ((with_reducible refine gate_callee (f := 116) rfl ?_); refine goesL_ (some 12) rfl rfl Try.func116 (by kernel_rfl) rfl #[.slice A0_0 l0_0.length c0_0, .int .i64 a1] rfl mpa ?_; (with_reducible refine (slices_BinarySearch_int_int.calls k _ _ l0_0 a1 t297002 false _ ?side1 ?side2 A3.out).mono ?_); (case side1 => repeat (first | exact (Kd.C_below HR0_0.out HB.out) | (with_reducible refine Kd.C_alloc ?_ _) | (with_reducible refine Kd.C_drewN ?_ _) | (with_reducible refine Kd.C_drew ?_))); (case side2 => exact HC0_0.out); rintro e w' ⟨rfl, ⟨nd, rfl⟩⟩; refine ⟨_, rfl, ?_⟩))
    go_ret
    exact ⟨by first | rfl | (simp [errW_none, errW_some] <;> rfl) | (simp [*, errW_none, errW_some] <;> rfl), belS HB.out GE297001.out⟩
def dam_rules_watched.f (k : Nat) (l0_0 : List Int) (l0_1 : List Int) (a0_2 : Int) (l0_3 : List (S135)) (a1_0 : Int) (a1_1 : Int) (a1_2 : Int) (a2 : Int) : Option (Int × Int × Int) := (dam_rules_asked.f k l0_0 l0_1 a0_2 l0_3 a2).bind fun t282004 => (if t282004 > a1_0 then (some (t282004, 0, a2)) else (if a1_0 > 0 then (if 0 ≤ (wrap64 (a1_0 - 1)) then (if (wrap64 (a1_0 - 1)) < (l0_1.length : Int) then (if a2 < (rd l0_1 (wrap64 (a1_0 - 1))) then (some (a1_0, mn (wrap64 (a1_1 + 1)) 1000000, a2)) else (some (a1_0, 0, a2))) else (none)) else (none)) else (some (a1_0, 0, a2))))
set_option maxHeartbeats 8000000 in
set_option maxRecDepth 100000 in
theorem dam_rules_watched.calls (k : Nat) (A0_0 : Option Addr) (c0_0 : Nat) (l0_0 : List Int) (A0_1 : Option Addr) (c0_1 : Nat) (l0_1 : List Int) (a0_2 : Int) (A0_3 : Option Addr) (c0_3 : Nat) (l0_3 : List (S135)) (a1_0 : Int) (a1_1 : Int) (a1_2 : Int) (a2 : Int) (r1 : Int) (r2 : Int) (r3 : Int) (w : World) (hr0_0 : Kd.C (Kd.int .i64) w A0_0 l0_0.length l0_0) (hc0_0 : l0_0.length ≤ c0_0) (hr0_1 : Kd.C (Kd.int .i64) w A0_1 l0_1.length l0_1) (hc0_1 : l0_1.length ≤ c0_1) (hr0_3 : Kd.C k135 w A0_3 l0_3.length l0_3) (hc0_3 : l0_3.length ≤ c0_3) (h : dam_rules_watched.f k l0_0 l0_1 a0_2 l0_3 a1_0 a1_1 a1_2 a2 = some (r1, r2, r3)) :
    Calls Try.prog 94 #[.agg #[.slice A0_0 l0_0.length c0_0, .slice A0_1 l0_1.length c0_1, .int .i64 a0_2, .slice A0_3 l0_3.length c0_3], .agg #[.int .i64 a1_0, .int .i64 a1_1, .int .i64 a1_2], .int .i64 a2] w fun e w' => e = .returned (.agg #[.int .i64 r1, .int .i64 r2, .int .i64 r3]) ∧ Below w.heap.size w w' := by
  have hu := Try.underlying137
  have hu1 := Try.underlying85
  have hu2 := Try.underlying88
  have HR0 := Aside0.mk hr0_0
  have HR1 := Aside0.mk hr0_1
  have HR3 := Aside0.mk hr0_3
  have HC := Aside0.mk (And.intro hc0_0 (And.intro hc0_1 hc0_3))
  clear hr0_0 hr0_1 hr0_3 hc0_0 hc0_1 hc0_3
  unfold dam_rules_watched.f at h
  replace h := Option.bind_eq_some_iff.mp h
  obtain ⟨c, hc, h⟩ := h
  have HA := Aside0.mk hc
  have HOUT := Aside0.mk h
  clear hc h
  go_enter Try.func94, Try.ntmps94
  go_upto_region 2 with fail
  have hX := blk_alloc (blk_alloc (blk_new w (.cells #[.slice A0_0 l0_0.length c0_0, .slice A0_1 l0_1.length c0_1, .int .i64 a0_2, .slice A0_3 l0_3.length c0_3] 137)) (.cells #[.int .i64 a1_0, .int .i64 a1_1, .int .i64 a2] 88)) (.cells #[.int .i64 0, .int .i64 0, .int .i64 0] 88)
  have hS := blk_alloc (blk_new (w.alloc (.cells #[.slice A0_0 l0_0.length c0_0, .slice A0_1 l0_1.length c0_1, .int .i64 a0_2, .slice A0_3 l0_3.length c0_3] 137)) (.cells #[.int .i64 a1_0, .int .i64 a1_1, .int .i64 a2] 88)) (.cells #[.int .i64 0, .int .i64 0, .int .i64 0] 88)
  have hZ := blk_new ((w.alloc (.cells #[.slice A0_0 l0_0.length c0_0, .slice A0_1 l0_1.length c0_1, .int .i64 a0_2, .slice A0_3 l0_3.length c0_3] 137)).alloc (.cells #[.int .i64 a1_0, .int .i64 a1_1, .int .i64 a2] 88)) (.cells #[.int .i64 0, .int .i64 0, .int .i64 0] 88)
  have hb1 := below_alloc (below_alloc (below_alloc (Below.refl _ w) (.cells #[.slice A0_0 l0_0.length c0_0, .slice A0_1 l0_1.length c0_1, .int .i64 a0_2, .slice A0_3 l0_3.length c0_3] 137)) (.cells #[.int .i64 a1_0, .int .i64 a1_1, .int .i64 a2] 88)) (.cells #[.int .i64 0, .int .i64 0, .int .i64 0] 88)
  rw [show (w.alloc (.cells #[.slice A0_0 l0_0.length c0_0, .slice A0_1 l0_1.length c0_1, .int .i64 a0_2, .slice A0_3 l0_3.length c0_3] 137)).heap.size = w.heap.size + 1 from Array.size_push _] at hS
  rw [show ((w.alloc (.cells #[.slice A0_0 l0_0.length c0_0, .slice A0_1 l0_1.length c0_1, .int .i64 a0_2, .slice A0_3 l0_3.length c0_3] 137)).alloc (.cells #[.int .i64 a1_0, .int .i64 a1_1, .int .i64 a2] 88)).heap.size = w.heap.size + 1 + 1 from (Array.size_push _).trans (congrArg (· + 1) (Array.size_push _))] at hZ
  generalize ((w.alloc (.cells #[.slice A0_0 l0_0.length c0_0, .slice A0_1 l0_1.length c0_1, .int .i64 a0_2, .slice A0_3 l0_3.length c0_3] 137)).alloc (.cells #[.int .i64 a1_0, .int .i64 a1_1, .int .i64 a2] 88)).alloc (.cells #[.int .i64 0, .int .i64 0, .int .i64 0] 88) = w1 at *
  have hx0 := (blk_cell hX 0).trans rfl
  have hx1 := (blk_cell hX 1).trans rfl
  have hx2 := (blk_cell hX 2).trans rfl
  have hx3 := (blk_cell hX 3).trans rfl
  have HX := Aside0.mk hX
  have HS := Aside0.mk hS
  have HZ := Aside0.mk hZ
  have HB1 := Aside0.mk hb1
  clear hX hS hZ hb1
  go_upto_region 4 with (go_at_call 99; refine (dam_rules_asked.calls k A0_0 c0_0 l0_0 A0_1 c0_1 l0_1 a0_2 A0_3 c0_3 l0_3 a2 c _ (Kd.C_below HR0.out HB1.out) HC.out.1 (Kd.C_below HR1.out HB1.out) HC.out.2.1 (Kd.C_below HR3.out HB1.out) HC.out.2.2 HA.out).mono ?_; rintro e w2 ⟨rfl, hb2⟩; have HB2 := Aside0.mk hb2; clear hb2)
  clear hx0 hx1 hx2 hx3
  have hX2 := blk_below HX.out HB2.out
  have hS2 := blk_below HS.out HB2.out
  have HZ2 := Aside0.mk (blk_below HZ.out HB2.out)
  have HBw := Aside0.mk (below_step HB1.out HB2.out)
  have hx1 : w2.cell? ⟨w.heap.size, 1, none⟩ = some (.slice A0_1 l0_1.length c0_1) := (blk_cell hX2 1).trans rfl
  have hs0 : w2.cell? ⟨w.heap.size + 1, 0, none⟩ = some (.int .i64 a1_0) := (blk_cell hS2 0).trans rfl
  have hs1 : w2.cell? ⟨w.heap.size + 1, 1, none⟩ = some (.int .i64 a1_1) := (blk_cell hS2 1).trans rfl
  have hs2 : w2.cell? ⟨w.heap.size + 1, 2, none⟩ = some (.int .i64 a2) := (blk_cell hS2 2).trans rfl
  have hz0 : w2.cell? ⟨w.heap.size + 1 + 1, 0, none⟩ = some (.int .i64 0) := (blk_cell HZ2.out 0).trans rfl
  have hz1 : w2.cell? ⟨w.heap.size + 1 + 1, 1, none⟩ = some (.int .i64 0) := (blk_cell HZ2.out 1).trans rfl
  have hz2 : w2.cell? ⟨w.heap.size + 1 + 1, 2, none⟩ = some (.int .i64 0) := (blk_cell HZ2.out 2).trans rfl
  have hf0 := blk_frozen hS2 0
  have hf1 := blk_frozen hS2 1
  have hg0 := blk_frozen HZ2.out 0
  have hg1 := blk_frozen HZ2.out 1
  have hg2 := blk_frozen HZ2.out 2
  have hne : w.heap.size + 1 + 1 ≠ w.heap.size + 1 := by omega
  have HNE := Aside0.mk hne
  clear hX2 hS2 hne
  have ho := HOUT.out
  by_cases c1 : c > a1_0
  · rw [if_pos c1] at ho
    simp only [Option.some.injEq, Prod.mk.injEq] at ho
    obtain ⟨rfl, rfl, rfl⟩ := ho
    clear HOUT HA
    go_wp2
    refine bodyPost_ret (results_cell_row rfl _ _ (w.heap.size + 1 + 1) 88 #[.int .i64 _, .int .i64 _, .int .i64 _] (0, 0) _ rfl ?_ Try.underlying88 (by rfl) (by rfl)) rfl ⟨rfl, by repeat (first | exact HBw.out | refine below_set ?_ (by omega))⟩
    refine blk_put (cs := #[.int .i64 _, .int .i64 _, .int .i64 0]) ?_ 2 _ rfl; refine blk_put (cs := #[.int .i64 _, .int .i64 0, .int .i64 0]) ?_ 1 _ rfl; refine blk_put (cs := #[.int .i64 0, .int .i64 0, .int .i64 0]) ?_ 0 _ rfl; repeat (first | exact HZ2.out | refine blk_far (p := ⟨_, _, none⟩) ?_ HNE.out _)
  · rw [if_neg c1] at ho
    have hd1 : ¬ a1_0 < c := c1
    by_cases c2 : a1_0 > 0
    · rw [if_pos c2] at ho
      by_cases c3 : 0 ≤ wrap64 (a1_0 - 1)
      · rw [if_pos c3] at ho
        by_cases c4 : wrap64 (a1_0 - 1) < (l0_1.length : Int)
        · rw [if_pos c4] at ho
          obtain ⟨ad, e1, hd⟩ := Kd.at_int (Kd.C_below HR1.out HBw.out) (wrap64 (a1_0 - 1)) c3 c4
          subst e1
          generalize rd l0_1 (wrap64 (a1_0 - 1)) = x at *
          have HO2 := Aside0.mk ho
          clear HOUT HA ho
          by_cases c5 : a2 < x
          · have ho := HO2.out
            rw [if_pos c5] at ho
            by_cases c6 : 1000000 < wrap64 (a1_1 + 1)
            · rw [show mn (wrap64 (a1_1 + 1)) 1000000 = 1000000 from by unfold mn; omega] at ho
              simp only [Option.some.injEq, Prod.mk.injEq] at ho
              obtain ⟨rfl, rfl, rfl⟩ := ho
              clear HO2
              go_wp2
              refine bodyPost_ret (results_cell_row rfl _ _ (w.heap.size + 1 + 1) 88 #[.int .i64 _, .int .i64 _, .int .i64 _] (0, 0) _ rfl ?_ Try.underlying88 (by rfl) (by rfl)) rfl ⟨rfl, by repeat (first | exact HBw.out | refine below_set ?_ (by omega))⟩
              refine blk_put (cs := #[.int .i64 _, .int .i64 _, .int .i64 0]) ?_ 2 _ rfl; refine blk_put (cs := #[.int .i64 _, .int .i64 0, .int .i64 0]) ?_ 1 _ rfl; refine blk_put (cs := #[.int .i64 0, .int .i64 0, .int .i64 0]) ?_ 0 _ rfl; repeat (first | exact HZ2.out | refine blk_far (p := ⟨_, _, none⟩) ?_ HNE.out _)
            · rw [show mn (wrap64 (a1_1 + 1)) 1000000 = wrap64 (a1_1 + 1) from by unfold mn; omega] at ho
              simp only [Option.some.injEq, Prod.mk.injEq] at ho
              obtain ⟨rfl, rfl, rfl⟩ := ho
              clear HO2
              go_wp2
              refine bodyPost_ret (results_cell_row rfl _ _ (w.heap.size + 1 + 1) 88 #[.int .i64 _, .int .i64 _, .int .i64 _] (0, 0) _ rfl ?_ Try.underlying88 (by rfl) (by rfl)) rfl ⟨rfl, by repeat (first | exact HBw.out | refine below_set ?_ (by omega))⟩
              refine blk_put (cs := #[.int .i64 _, .int .i64 _, .int .i64 0]) ?_ 2 _ rfl; refine blk_put (cs := #[.int .i64 _, .int .i64 0, .int .i64 0]) ?_ 1 _ rfl; refine blk_put (cs := #[.int .i64 0, .int .i64 0, .int .i64 0]) ?_ 0 _ rfl; repeat (first | exact HZ2.out | refine blk_far (p := ⟨_, _, none⟩) ?_ HNE.out _)
          · have ho := HO2.out
            rw [if_neg c5] at ho
            simp only [Option.some.injEq, Prod.mk.injEq] at ho
            obtain ⟨rfl, rfl, rfl⟩ := ho
            clear HO2
            go_wp2
            refine bodyPost_ret (results_cell_row rfl _ _ (w.heap.size + 1 + 1) 88 #[.int .i64 _, .int .i64 _, .int .i64 _] (0, 0) _ rfl ?_ Try.underlying88 (by rfl) (by rfl)) rfl ⟨rfl, by repeat (first | exact HBw.out | refine below_set ?_ (by omega))⟩
            refine blk_put (cs := #[.int .i64 _, .int .i64 _, .int .i64 0]) ?_ 2 _ rfl; refine blk_put (cs := #[.int .i64 _, .int .i64 0, .int .i64 0]) ?_ 1 _ rfl; refine blk_put (cs := #[.int .i64 0, .int .i64 0, .int .i64 0]) ?_ 0 _ rfl; repeat (first | exact HZ2.out | refine blk_far (p := ⟨_, _, none⟩) ?_ HNE.out _)
        · rw [if_neg c4] at ho; exact absurd ho (by simp)
      · rw [if_neg c3] at ho; exact absurd ho (by simp)
    · rw [if_neg c2] at ho
      simp only [Option.some.injEq, Prod.mk.injEq] at ho
      obtain ⟨rfl, rfl, rfl⟩ := ho
      have hd2 : ¬ 0 < a1_0 := c2
      clear HOUT HA
      go_wp2
      refine bodyPost_ret (results_cell_row rfl _ _ (w.heap.size + 1 + 1) 88 #[.int .i64 _, .int .i64 _, .int .i64 _] (0, 0) _ rfl ?_ Try.underlying88 (by rfl) (by rfl)) rfl ⟨rfl, by repeat (first | exact HBw.out | refine below_set ?_ (by omega))⟩
      refine blk_put (cs := #[.int .i64 _, .int .i64 _, .int .i64 0]) ?_ 2 _ rfl; refine blk_put (cs := #[.int .i64 _, .int .i64 0, .int .i64 0]) ?_ 1 _ rfl; refine blk_put (cs := #[.int .i64 0, .int .i64 0, .int .i64 0]) ?_ 0 _ rfl; repeat (first | exact HZ2.out | refine blk_far (p := ⟨_, _, none⟩) ?_ HNE.out _)
set_option maxHeartbeats 8000000 in
set_option maxRecDepth 100000 in
theorem open_c (A0_0 : Option Addr) (c0_0 : Nat) (l0_0 : List Int) (A0_1 : Option Addr) (c0_1 : Nat) (l0_1 : List Int) (a0_2 : Int) (A0_3 : Option Addr) (c0_3 : Nat) (l0_3 : List S135) (r1 : Int) (r2 : Int) (w : World) (hr0_0 : Kd.C (Kd.int .i64) w A0_0 l0_0.length l0_0) (hc0_0 : l0_0.length ≤ c0_0) (hr0_1 : Kd.C (Kd.int .i64) w A0_1 l0_1.length l0_1) (hc0_1 : l0_1.length ≤ c0_1) (hr0_3 : Kd.C k135 w A0_3 l0_3.length l0_3) (hc0_3 : l0_3.length ≤ c0_3) (h : dam_CheckRules.f l0_0 l0_1 a0_2 l0_3 = some (r1, r2)) :
    Calls Try.prog 90 #[.agg #[.slice A0_0 l0_0.length c0_0, .slice A0_1 l0_1.length c0_1, .int .i64 a0_2, .slice A0_3 l0_3.length c0_3]] w fun e w' => e = .returned (.tuple #[.agg #[.slice A0_0 l0_0.length c0_0, .slice A0_1 l0_1.length c0_1, .int .i64 a0_2, .slice A0_3 l0_3.length c0_3], .int .i64 r2]) ∧ Below w.heap.size w w' := by
  have hu := Try.underlying85
  have hu2 := Try.underlying137
  have HR0 := Aside0.mk hr0_0
  have HR1 := Aside0.mk hr0_1
  have HR3 := Aside0.mk hr0_3
  have HC := Aside0.mk (And.intro hc0_0 (And.intro hc0_1 hc0_3))
  have H := Aside0.mk h
  clear hr0_0 hr0_1 hr0_3 hc0_0 hc0_1 hc0_3 h
  go_enter Try.func90, Try.ntmps90
  go_upto_region 1 with fail
  have hbl := blk_alloc (blk_new w (.cells #[.slice A0_0 l0_0.length c0_0, .slice A0_1 l0_1.length c0_1, .int .i64 a0_2, .slice A0_3 l0_3.length c0_3] 85)) (.cells #[.slice none 0 0, .slice none 0 0, .int .i64 0, .slice none 0 0] 137)
  have hrl := blk_new (w.alloc (.cells #[.slice A0_0 l0_0.length c0_0, .slice A0_1 l0_1.length c0_1, .int .i64 a0_2, .slice A0_3 l0_3.length c0_3] 85)) (.cells #[.slice none 0 0, .slice none 0 0, .int .i64 0, .slice none 0 0] 137)
  rw [show (w.alloc (.cells #[.slice A0_0 l0_0.length c0_0, .slice A0_1 l0_1.length c0_1, .int .i64 a0_2, .slice A0_3 l0_3.length c0_3] 85)).heap.size = w.heap.size + 1 from Array.size_push _] at hrl
  have hb1 := below_alloc (below_alloc (Below.refl _ w) (.cells #[.slice A0_0 l0_0.length c0_0, .slice A0_1 l0_1.length c0_1, .int .i64 a0_2, .slice A0_3 l0_3.length c0_3] 85)) (.cells #[.slice none 0 0, .slice none 0 0, .int .i64 0, .slice none 0 0] 137)
  generalize (w.alloc (.cells #[.slice A0_0 l0_0.length c0_0, .slice A0_1 l0_1.length c0_1, .int .i64 a0_2, .slice A0_3 l0_3.length c0_3] 85)).alloc (.cells #[.slice none 0 0, .slice none 0 0, .int .i64 0, .slice none 0 0] 137) = w1 at *
  have hx0 := (blk_cell hbl 0).trans rfl
  have hx1 := (blk_cell hbl 1).trans rfl
  have hx2 := (blk_cell hbl 2).trans rfl
  have hx3 := (blk_cell hbl 3).trans rfl
  have HBL := Aside0.mk hbl
  have HRL := Aside0.mk hrl
  have HB1 := Aside0.mk hb1
  clear hbl hrl hb1
  go_upto_region 2 with (go_at_call 53; refine (dam_CheckRules.calls A0_0 c0_0 l0_0 A0_1 c0_1 l0_1 a0_2 A0_3 c0_3 l0_3 r1 r2 _ (Kd.C_below HR0.out HB1.out) HC.out.1 (Kd.C_below HR1.out HB1.out) HC.out.2.1 (Kd.C_below HR3.out HB1.out) HC.out.2.2 H.out).mono ?_; rintro e w2 ⟨rfl, hb2⟩; have HB2 := Aside0.mk hb2; clear hb2)
  clear hx0 hx1 hx2 hx3
  have hbl := blk_below HBL.out HB2.out
  have hrl := blk_below HRL.out HB2.out
  have hx0 := (blk_cell hbl 0).trans rfl
  have hx1 := (blk_cell hbl 1).trans rfl
  have hx2 := (blk_cell hbl 2).trans rfl
  have hx3 := (blk_cell hbl 3).trans rfl
  have hy0 := (blk_cell hrl 0).trans rfl
  have hy1 := (blk_cell hrl 1).trans rfl
  have hy2 := (blk_cell hrl 2).trans rfl
  have hy3 := (blk_cell hrl 3).trans rfl
  have hf0 := blk_frozen hrl 0
  have hf1 := blk_frozen hrl 1
  have hf2 := blk_frozen hrl 2
  have hf3 := blk_frozen hrl 3
  clear hbl hrl
  go_wp2
  have hrl := blk_below HRL.out HB2.out
  refine bodyPost_ret (results_ct rfl _ _ (w.heap.size + 1) 137 #[.slice A0_0 l0_0.length c0_0, .slice A0_1 l0_1.length c0_1, .int .i64 a0_2, .slice A0_3 l0_3.length c0_3] (0, 0) _ rfl (blk_put (blk_put (blk_put (blk_put hrl 0 _ rfl) 1 _ rfl) 2 _ rfl) 3 _ rfl) Try.underlying137 (by rfl) (by rfl)) rfl ⟨rfl, ?_⟩
  exact below_set (below_set (below_set (below_set (below_step HB1.out HB2.out) (Nat.le_succ _)) (Nat.le_succ _)) (Nat.le_succ _)) (Nat.le_succ _)
def isDev (n : Int) : Bool := decide (0 ≤ n) && decide (n ≤ 1000000)
theorem dev_f (n : Int) : dam_isDeviation.f n = some (isDev n) := by
  unfold dam_isDeviation.f
  rw [within_f]
  rfl
set_option maxHeartbeats 8000000 in
set_option maxRecDepth 100000 in
theorem watchOf1_calls (n : Int) (w : World) : Calls Try.prog 92 #[.int .i64 n] w fun e w' => e = .returned (.bool (!isDev n)) ∧ Below w.heap.size w w' := by
  have H := Aside0.mk (dev_f n)
  obtain ⟨b, hb⟩ : ∃ b, b = isDev n := ⟨_, rfl⟩
  rw [← hb] at H
  rw [← hb]
  clear hb
  go_enter Try.func92, Try.ntmps92
  go_wp2_with (go_at_call 93; refine (dam_isDeviation.calls _ _ _ H.out).mono ?_; rintro e w' ⟨rfl, hb⟩; have HB := Aside0.mk hb.below; clear hb)
  go_ret
  exact ⟨rfl, HB.out⟩
def watchAll (k : Nat) (l0_0 l0_1 : List Int) (a0_2 : Int) (l0_3 : List S135) : Int → Int → Int → List Int → Option (Int × Int × Int)
  | a, b, c, [] => some (a, b, c)
  | a, b, c, x :: xs => (dam_rules_watched.f k l0_0 l0_1 a0_2 l0_3 a b c x).bind fun t => watchAll k l0_0 l0_1 a0_2 l0_3 t.1 t.2.1 t.2.2 xs
def watchErr (e : Int) (l1 : List Int) : Int := firstI [e, unlessI (decide ((l1.length : Int) ≤ 100)) 8, unlessI (!(l1.any fun n => !isDev n)) 2]
def dam_WatchOf.f (k : Nat) (l0_0 : List Int) (l0_1 : List Int) (a0_2 : Int) (l0_3 : List S135) (l1 : List Int) : Option (Int × Int × Int × Int) :=
  (dam_CheckRules.f l0_0 l0_1 a0_2 l0_3).bind fun c =>
    if watchErr c.2 l1 = 0 then (watchAll k l0_0 l0_1 a0_2 l0_3 0 0 0 l1).bind fun s => some (s.1, s.2.1, s.2.2, 0) else some (0, 0, 0, watchErr c.2 l1)
set_option maxHeartbeats 8000000 in
set_option maxRecDepth 100000 in
theorem dam_WatchOf.calls (k : Nat) (A0_0 : Option Addr) (c0_0 : Nat) (l0_0 : List Int) (A0_1 : Option Addr) (c0_1 : Nat) (l0_1 : List Int) (a0_2 : Int) (A0_3 : Option Addr) (c0_3 : Nat) (l0_3 : List S135) (A1 : Option Addr) (c1 : Nat) (l1 : List Int) (r1 : Int) (r2 : Int) (r3 : Int) (r4 : Int) (w : World) (hr0_0 : Kd.C (Kd.int .i64) w A0_0 l0_0.length l0_0) (hc0_0 : l0_0.length ≤ c0_0) (hr0_1 : Kd.C (Kd.int .i64) w A0_1 l0_1.length l0_1) (hc0_1 : l0_1.length ≤ c0_1) (hr0_3 : Kd.C k135 w A0_3 l0_3.length l0_3) (hc0_3 : l0_3.length ≤ c0_3) (hr1 : Kd.C (Kd.int .i64) w A1 l1.length l1) (hc1 : l1.length ≤ c1) (h : dam_WatchOf.f k l0_0 l0_1 a0_2 l0_3 l1 = some (r1, r2, r3, r4)) :
    Calls Try.prog 47 #[.agg #[.slice A0_0 l0_0.length c0_0, .slice A0_1 l0_1.length c0_1, .int .i64 a0_2, .slice A0_3 l0_3.length c0_3], .slice A1 l1.length c1] w fun e w' => e = .returned (.tuple #[.agg #[.int .i64 r1, .int .i64 r2, .int .i64 r3], .int .i64 r4]) ∧ Below w.heap.size w w' := by
  have hu := Try.underlying85
  have hu2 := Try.underlying137
  have hu3 := Try.underlying88
  have HR0 := Aside0.mk hr0_0
  have HR1 := Aside0.mk hr0_1
  have HR3 := Aside0.mk hr0_3
  have HL := Aside0.mk hr1
  have HC := Aside0.mk (And.intro hc0_0 (And.intro hc0_1 hc0_3))
  have hm1 : l1.length ≤ 9223372036854775807 := hr1.2.1
  clear hr0_0 hr0_1 hr0_3 hc0_0 hc0_1 hc0_3 hr1 hc1
  unfold dam_WatchOf.f at h
  replace h := Option.bind_eq_some_iff.mp h
  obtain ⟨⟨c1', e1⟩, hck, h⟩ := h
  have H := Aside0.mk hck
  obtain ⟨es, hes⟩ : ∃ es, es = watchErr e1 l1 := ⟨_, rfl⟩
  rw [← hes] at h
  unfold watchErr at hes
  have HOUT := Aside0.mk h
  obtain ⟨kb, hkb⟩ : ∃ kb, kb = l1.any (fun n => !isDev n) := ⟨_, rfl⟩
  rw [← hkb] at hes
  obtain ⟨b2, hb2⟩ : ∃ b2, b2 = decide ((l1.length : Int) ≤ 100) := ⟨_, rfl⟩
  rw [← hb2] at hes
  have HF := Aside0.mk (show dam_first.f 9 [e1, unlessI b2 8, unlessI (!kb) 2] = some es from (first_f3 _ _ _).trans (by rw [hes]))
  have HKB := Aside0.mk hkb
  have hq2 := hb2.symm
  clear h hck hes hkb hb2
  go_enter Try.func47, Try.ntmps47
  go_upto_region 1 with fail
  have hbl := blk_alloc (blk_new w (.cells #[.slice A0_0 l0_0.length c0_0, .slice A0_1 l0_1.length c0_1, .int .i64 a0_2, .slice A0_3 l0_3.length c0_3] 85)) (.cells #[.int .i64 0, .int .i64 0, .int .i64 0] 88)
  have hrl := blk_new (w.alloc (.cells #[.slice A0_0 l0_0.length c0_0, .slice A0_1 l0_1.length c0_1, .int .i64 a0_2, .slice A0_3 l0_3.length c0_3] 85)) (.cells #[.int .i64 0, .int .i64 0, .int .i64 0] 88)
  rw [show (w.alloc (.cells #[.slice A0_0 l0_0.length c0_0, .slice A0_1 l0_1.length c0_1, .int .i64 a0_2, .slice A0_3 l0_3.length c0_3] 85)).heap.size = w.heap.size + 1 from Array.size_push _] at hrl
  have hb1 := below_alloc (below_alloc (Below.refl _ w) (.cells #[.slice A0_0 l0_0.length c0_0, .slice A0_1 l0_1.length c0_1, .int .i64 a0_2, .slice A0_3 l0_3.length c0_3] 85)) (.cells #[.int .i64 0, .int .i64 0, .int .i64 0] 88)
  generalize (w.alloc (.cells #[.slice A0_0 l0_0.length c0_0, .slice A0_1 l0_1.length c0_1, .int .i64 a0_2, .slice A0_3 l0_3.length c0_3] 85)).alloc (.cells #[.int .i64 0, .int .i64 0, .int .i64 0] 88) = w1 at *
  have hx0 := (blk_cell hbl 0).trans rfl
  have hx1 := (blk_cell hbl 1).trans rfl
  have hx2 := (blk_cell hbl 2).trans rfl
  have hx3 := (blk_cell hbl 3).trans rfl
  have HBL := Aside0.mk hbl
  have HRL := Aside0.mk hrl
  have HB1 := Aside0.mk hb1
  clear hbl hrl hb1
  go_upto_region 2 with (go_at_call 90; refine (open_c A0_0 c0_0 l0_0 A0_1 c0_1 l0_1 a0_2 A0_3 c0_3 l0_3 c1' e1 _ (Kd.C_below HR0.out HB1.out) HC.out.1 (Kd.C_below HR1.out HB1.out) HC.out.2.1 (Kd.C_below HR3.out HB1.out) HC.out.2.2 H.out).mono ?_; rintro e w2 ⟨rfl, hb2⟩; have HB2 := Aside0.mk hb2; clear hb2)
  clear hx0 hx1 hx2 hx3
  have hgl := blk_new w2 (.cells #[.slice A0_0 l0_0.length c0_0, .slice A0_1 l0_1.length c0_1, .int .i64 a0_2, .slice A0_3 l0_3.length c0_3] 137)
  have hb3 := below_alloc (below_step HB1.out HB2.out) (.cells #[.slice A0_0 l0_0.length c0_0, .slice A0_1 l0_1.length c0_1, .int .i64 a0_2, .slice A0_3 l0_3.length c0_3] 137)
  have hrl := blk_alloc (blk_below HRL.out HB2.out) (.cells #[.slice A0_0 l0_0.length c0_0, .slice A0_1 l0_1.length c0_1, .int .i64 a0_2, .slice A0_3 l0_3.length c0_3] 137)
  generalize w2.alloc (.cells #[.slice A0_0 l0_0.length c0_0, .slice A0_1 l0_1.length c0_1, .int .i64 a0_2, .slice A0_3 l0_3.length c0_3] 137) = w3 at *
  generalize w2.heap.size = G at *
  have HG := Aside0.mk hgl
  have HB3 := Aside0.mk hb3
  have HRL3 := Aside0.mk hrl
  have HK := Aside0.mk (hContainsInt 92 #[] (fun n => !isDev n) (fun args w => by rfl) A1 c1 l1 w3 (Kd.C_below HL.out hb3) (fun W y _ _ => watchOf1_calls y W))
  rw [← HKB.out] at HK
  clear hgl hb3 hrl
  have HBc := Aside0.mk (Below.refl w3.heap.size w3)
  go_upto_region 4 with (first | (go_at_call 64; refine (dam_unless.calls _ _ _ _ (unless_f _ _)).mono ?_; rintro e w5 ⟨rfl, hb3⟩; have hb4 := below_step (show Below w3.heap.size w3 _ by repeat (first | exact HBc.out | apply below_alloc | apply below_drew | apply pw_below_drewN)) hb3.below; clear HBc; have HBc := Aside0.mk hb4; clear hb4 hb3) | (go_at_call 63; refine (dam_first.calls 9 _ _ _ es _ (litC _ 26 _ (by simp)) (Nat.le_refl _) HF.out).mono ?_; rintro e w5 ⟨rfl, hb3⟩; have hb4 := below_step (show Below w3.heap.size w3 _ by repeat (first | exact HBc.out | apply below_alloc | apply below_drew | apply pw_below_drewN)) hb3.below; clear HBc; have HBc := Aside0.mk hb4; clear hb4 hb3) | (go_at_call 91; refine HK.out.mono ?_; rintro e w5 ⟨rfl, hb5⟩; have hb4 := below_step (show Below w3.heap.size w3 _ by repeat (first | exact HBc.out | apply below_alloc | apply below_drew | apply pw_below_drewN)) hb5; clear HBc; have HBc := Aside0.mk hb4; clear hb4 hb5))
  have HB5 := Aside0.mk (below_step HB3.out HBc.out)
  by_cases hz : es = 0
  case neg =>
    have hzb : (es != 0) = true := bne_iff_ne.2 hz
    have ho := HOUT.out
    rw [if_neg hz] at ho
    simp only [Option.some.injEq, Prod.mk.injEq] at ho
    obtain ⟨rfl, rfl, rfl, rfl⟩ := ho
    have hrl := blk_below HRL3.out HBc.out
    have hy0 := (blk_cell hrl 0).trans rfl
    have hy1 := (blk_cell hrl 1).trans rfl
    have hy2 := (blk_cell hrl 2).trans rfl
    have hf0 := blk_frozen hrl 0
    have hf1 := blk_frozen hrl 1
    have hf2 := blk_frozen hrl 2
    have HRL5 := Aside0.mk hrl
    clear hrl hz
    go_wp2
    refine bodyPost_ret (results_ct rfl _ _ (w.heap.size + 1) 88 #[.int .i64 0, .int .i64 0, .int .i64 0] (0, 0) _ rfl (blk_put (blk_put (blk_put HRL5.out 0 _ rfl) 1 _ rfl) 2 _ rfl) Try.underlying88 (by rfl) (by rfl)) rfl ⟨rfl, ?_⟩
    exact below_set (below_set (below_set HB5.out (Nat.le_succ _)) (Nat.le_succ _)) (Nat.le_succ _)
  case pos =>
    subst hz
    have ho := HOUT.out
    rw [if_pos rfl] at ho
    replace ho := Option.bind_eq_some_iff.mp ho
    obtain ⟨⟨s1, s2, s3⟩, hwa, ho⟩ := ho
    simp only [Option.some.injEq, Prod.mk.injEq] at ho
    obtain ⟨rfl, rfl, rfl, rfl⟩ := ho
    have HWA := Aside0.mk (show watchAll k l0_0 l0_1 a0_2 l0_3 0 0 0 (l1.drop 0) = some (s1, s2, s3) from hwa)
    have HG5 := Aside0.mk (blk_below HG.out HBc.out)
    have HRL5 := Aside0.mk (blk_below HRL3.out HBc.out)
    clear hwa HOUT HK HF
    have HS := Aside0.mk (blk_new w5 (.cells #[.int .i64 0, .int .i64 0, .int .i64 0] 88))
    have HBS := Aside0.mk (below_alloc (Below.refl _ w5) (.cells #[.int .i64 0, .int .i64 0, .int .i64 0] 88))
    go_wp2
    go_loopg [35] l1.length (fun gg s35 W5 => ∃ (i : Nat) (a b c : Int), i ≤ l1.length ∧ l1.length - i ≤ gg ∧ s35 = .int .i64 i ∧ Aside0 (watchAll k l0_0 l0_1 a0_2 l0_3 a b c (l1.drop i) = some (s1, s2, s3)) ∧ Aside0 (W5.heap[w5.heap.size]? = some (.cells #[.int .i64 a, .int .i64 b, .int .i64 c] 88 (0, 0))) ∧ Aside0 (Below w5.heap.size w5 W5))
    case atStart => exact ⟨0, 0, 0, 0, by omega, by omega, rfl, HWA, HS, HBS⟩
    case round =>
      obtain ⟨i, a, b, c, hi, hgg, rfl, HWI, HSI, HBI⟩ := hrel
      obtain ⟨wA, hwA⟩ : ∃ wA, wA = wr := ⟨_, rfl⟩
      subst hwA
      clear HWA HS HBS
      have HBW := Aside0.mk (below_weaken HB5.out HB5.out.size HBI.out)
      by_cases hin : i < l1.length
      case pos =>
        have hin2 : (i : Int) < (l1.length : Int) := by omega
        obtain ⟨ad, e1, hu1⟩ := Kd.at_int (Kd.C_below HL.out HBW.out) (i : Int) (by omega) (by omega)
        cases e1
        rw [show rd l1 (i : Int) = l1.getD i 0 from rfl, Int.toNat_natCast] at hu1
        have hdr : l1.drop i = l1.getD i 0 :: l1.drop (i + 1) := by
          rw [List.drop_eq_getElem_cons hin, List.getD_eq_getElem?_getD, List.getElem?_eq_getElem hin]
          rfl
        have hw := HWI.out
        rw [hdr] at hw
        obtain ⟨x, hx⟩ : ∃ x, x = l1.getD i 0 := ⟨_, rfl⟩
        rw [← hx] at hu1 hw
        clear hdr hx
        simp only [watchAll] at hw
        replace hw := Option.bind_eq_some_iff.mp hw
        obtain ⟨⟨a', b', c'⟩, hst, hw⟩ := hw
        have HST := Aside0.mk hst
        have HW := Aside0.mk hw
        clear hst hw
        have hgl := blk_below HG5.out HBI.out
        have hg0 := (blk_cell hgl 0).trans rfl
        have hg1 := (blk_cell hgl 1).trans rfl
        have hg2 := (blk_cell hgl 2).trans rfl
        have hg3 := (blk_cell hgl 3).trans rfl
        have hs0 := (blk_cell HSI.out 0).trans rfl
        have hs1 := (blk_cell HSI.out 1).trans rfl
        have hs2 := (blk_cell HSI.out 2).trans rfl
        clear hgl
        go_wp2_with (go_at_call 94; refine (dam_rules_watched.calls k A0_0 c0_0 l0_0 A0_1 c0_1 l0_1 a0_2 A0_3 c0_3 l0_3 a b c x a' b' c' _ (Kd.C_below HR0.out HBW.out) HC.out.1 (Kd.C_below HR1.out HBW.out) HC.out.2.1 (Kd.C_below HR3.out HBW.out) HC.out.2.2 HST.out).mono ?_; rintro e w6 ⟨rfl, hb6⟩; have hsl := blk_below HSI.out hb6; have ht0 := (blk_cell hsl 0).trans rfl; have ht1 := (blk_cell hsl 1).trans rfl; have ht2 := (blk_cell hsl 2).trans rfl; have hf0 := blk_frozen hsl 0; have hf1 := blk_frozen hsl 1; have hf2 := blk_frozen hsl 2; have HSN := Aside0.mk (blk_put (blk_put (blk_put hsl 0 (.int .i64 a') rfl) 1 (.int .i64 b') rfl) 2 (.int .i64 c') rfl); have HBN := Aside0.mk ((((below_weaken HBI.out HBI.out.size hb6).setCell (p := ⟨w5.heap.size, 0, none⟩) (Nat.le_refl _) (.int .i64 a')).setCell (p := ⟨w5.heap.size, 1, none⟩) (Nat.le_refl _) (.int .i64 b')).setCell (p := ⟨w5.heap.size, 2, none⟩) (Nat.le_refl _) (.int .i64 c')); clear hsl hb6)
        go_roundg (l1.length - (i + 1))
        case measure => omega
        case rel => exact ⟨i + 1, a', b', c', by omega, by omega, by go_num, HW, HSN, HBN⟩
      case neg =>
        obtain rfl : i = l1.length := by omega
        have hw := HWI.out
        rw [List.drop_length] at hw
        simp only [watchAll, Option.some.injEq, Prod.mk.injEq] at hw
        obtain ⟨rfl, rfl, rfl⟩ := hw
        have hrl := blk_below HRL5.out HBI.out
        have hs0 := (blk_cell HSI.out 0).trans rfl
        have hs1 := (blk_cell HSI.out 1).trans rfl
        have hs2 := (blk_cell HSI.out 2).trans rfl
        have hy0 := (blk_cell hrl 0).trans rfl
        have hy1 := (blk_cell hrl 1).trans rfl
        have hy2 := (blk_cell hrl 2).trans rfl
        have hf0 := blk_frozen hrl 0
        have hf1 := blk_frozen hrl 1
        have hf2 := blk_frozen hrl 2
        have HRL7 := Aside0.mk hrl
        clear hrl
        go_wp2
        refine bodyPost_ret (results_ct rfl _ _ (w.heap.size + 1) 88 #[.int .i64 a, .int .i64 b, .int .i64 c] (0, 0) _ rfl (blk_put (blk_put (blk_put HRL7.out 0 _ rfl) 1 _ rfl) 2 _ rfl) Try.underlying88 (by rfl) (by rfl)) rfl ⟨rfl, ?_⟩
        exact below_set (below_set (below_set HBW.out (Nat.le_succ _)) (Nat.le_succ _)) (Nat.le_succ _)
def guidevanelaw09_Readings.f  : Option ((List (S53))) := some (([(⟨0, 0, 100⟩ : S53), (⟨0, 10, 130⟩ : S53), (⟨0, (-10), 72⟩ : S53)] : List (S53)))
set_option maxHeartbeats 8000000 in
set_option maxRecDepth 100000 in
theorem guidevanelaw09_Readings.calls  (r : List (S53)) (w : World) (h : guidevanelaw09_Readings.f  = some r) :
    Calls Try.prog 60 #[] w fun e w' => ∃ v0_ : Value, e = .returned (v0_) ∧ Kd.R k53 53 w' w.heap.size (fun _ => True) v0_ r ∧ Below w.heap.size w w' := by
  have hu53 := Try.underlying53
  have HB := Aside0.mk (Below.refl w.heap.size w)
  have H : (some (([(⟨0, 0, 100⟩ : S53), (⟨0, 10, 130⟩ : S53), (⟨0, (-10), 72⟩ : S53)] : List (S53)))) = some r := h
  clear h
  obtain ⟨y180001, hy180001⟩ : ∃ y_ : List (S53), y_ = (([(⟨0, 0, 100⟩ : S53), (⟨0, 10, 130⟩ : S53), (⟨0, (-10), 72⟩ : S53)] : List (S53))) := ⟨_, rfl⟩
  replace H : (some y180001) = some r := by first | (rw [hy180001]; with_reducible exact H) | (have H2_ := (Option.bind_some _ _).symm.trans H; rw [hy180001]; with_reducible exact H2_) | (have H2_ := (Option.bind_some _ _).symm.trans H; with_reducible exact H2_) | with_reducible exact H | (rw [hy180001]; exact H) | exact H
  have Ny180001 := Aside0.mk hy180001
  clear hy180001
  obtain rfl := Option.some.inj H
  go_enter Try.func60, Try.ntmps60
  go_wp2_with (first | ((with_reducible refine gate_dst (N := 4) rfl ?_); refine Kd.R_lit k53 _ 53 ?hg (N := 4) ?hd (xs := ([(⟨0, 0, 100⟩ : S53), (⟨0, 10, 130⟩ : S53), (⟨0, (-10), 72⟩ : S53)] : List (S53))) (inner := [.int .i64 0, .int .i64 0, .int .i64 100, .int .i64 0, .int .i64 10, .int .i64 130, .int .i64 0, .int .i64 (-10), .int .i64 72]) (ok := fun _ => True) (okp := fun _ => True) ?hr ?hp (fun _ hk => hk) trivial (Below.refl _ _) (Nat.le_refl _) (by simp) ?_; (case hd => rfl); (case hg => rfl); (case hr => first | (go_simp; done) | (go_simp; rfl)); (case hp => exact (Reps.c3 (show Kd.M k53 _ _ _ (⟨0, 0, 100⟩ : S53) [.int .i64 0, .int .i64 0, .int .i64 100] from (k53_mkM _ _ _ (⟨0, 0, 100⟩ : S53) )) (Reps.c3 (show Kd.M k53 _ _ _ (⟨0, 10, 130⟩ : S53) [.int .i64 0, .int .i64 10, .int .i64 130] from (k53_mkM _ _ _ (⟨0, 10, 130⟩ : S53) )) (Reps.c3 (show Kd.M k53 _ _ _ (⟨0, (-10), 72⟩ : S53) [.int .i64 0, .int .i64 (-10), .int .i64 72] from (k53_mkM _ _ _ (⟨0, (-10), 72⟩ : S53) )) (Reps.none _ _))))); intro v180002 w1 ho2 hb hg_ hnew_; clear hg_ hnew_; (first | rw [← Ny180001.out] at ho2 | (simp only [Int.reduceToNat] at ho2; rw [← Ny180001.out] at ho2)); have n0_ := Aside0.mk (Kd.R_lower ho2 (below_size (bel HB.out))); have n1_ := Aside0.mk (below_step (bel HB.out) hb); clear HB; have HO180003 := n0_; have HB := n1_; clear n0_ n1_; clear hb ho2))
  go_ret
  exact ⟨_, by first | rfl | (simp [errW_none, errW_some] <;> rfl) | (simp [*, errW_none, errW_some] <;> rfl), by (with_reducible repeat (first | apply Kd.R_alloc | apply Kd.R_drewN | apply Kd.R_drew)); exact HO180003.out, bel HB.out⟩
def guidevanelaw09_Rules.f  : Option (List Int × List Int × Int × (List (S135))) := some ((([50, 100] : List Int)), (([30, 80] : List Int)), 2, (([(⟨(⟨#[97, 110, 110]⟩ : ByteArray), 2⟩ : S135), (⟨(⟨#[98, 111, 98]⟩ : ByteArray), 1⟩ : S135)] : List (S135))))
set_option maxHeartbeats 8000000 in
set_option maxRecDepth 100000 in
theorem guidevanelaw09_Rules.calls  (r1 : List Int) (r2 : List Int) (r3 : Int) (r4 : List (S135)) (w : World) (h : guidevanelaw09_Rules.f  = some (r1, r2, r3, r4)) :
    Calls Try.prog 61 #[] w fun e w' => ∃ v0_ v1_ v3_ : Value, e = .returned (.agg #[v0_, v1_, .int .i64 r3, v3_]) ∧ Kd.R (Kd.int .i64) 3 w' w.heap.size (fun k_ => some k_ ≠ (v1_ : Value).ownBlock) v0_ r1 ∧ Kd.R (Kd.int .i64) 3 w' w.heap.size (fun k_ => some k_ ≠ (v0_ : Value).ownBlock) v1_ r2 ∧ Kd.R k135 135 w' w.heap.size (fun _ => True) v3_ r4 ∧ Below w.heap.size w w' := by
  have hu85 := Try.underlying85
  have hu135 := Try.underlying135
  have HB := Aside0.mk (Below.refl w.heap.size w)
  have H : (some ((([50, 100] : List Int)), (([30, 80] : List Int)), 2, (([(⟨(⟨#[97, 110, 110]⟩ : ByteArray), 2⟩ : S135), (⟨(⟨#[98, 111, 98]⟩ : ByteArray), 1⟩ : S135)] : List (S135))))) = some (r1, r2, r3, r4) := h
  clear h
  obtain ⟨y183002, hy183002⟩ : ∃ y_ : List Int, y_ = (([50, 100] : List Int)) := ⟨_, rfl⟩
  replace H : (some (y183002, (([30, 80] : List Int)), 2, (([(⟨(⟨#[97, 110, 110]⟩ : ByteArray), 2⟩ : S135), (⟨(⟨#[98, 111, 98]⟩ : ByteArray), 1⟩ : S135)] : List (S135))))) = some (r1, r2, r3, r4) := by first | (rw [hy183002]; with_reducible exact H) | (have H2_ := (Option.bind_some _ _).symm.trans H; rw [hy183002]; with_reducible exact H2_) | (have H2_ := (Option.bind_some _ _).symm.trans H; with_reducible exact H2_) | with_reducible exact H | (rw [hy183002]; exact H) | exact H
  have Ny183002 := Aside0.mk hy183002
  clear hy183002
  obtain ⟨y183005, hy183005⟩ : ∃ y_ : List Int, y_ = (([30, 80] : List Int)) := ⟨_, rfl⟩
  replace H : (some (y183002, y183005, 2, (([(⟨(⟨#[97, 110, 110]⟩ : ByteArray), 2⟩ : S135), (⟨(⟨#[98, 111, 98]⟩ : ByteArray), 1⟩ : S135)] : List (S135))))) = some (r1, r2, r3, r4) := by first | (rw [hy183005]; with_reducible exact H) | (have H2_ := (Option.bind_some _ _).symm.trans H; rw [hy183005]; with_reducible exact H2_) | (have H2_ := (Option.bind_some _ _).symm.trans H; with_reducible exact H2_) | with_reducible exact H | (rw [hy183005]; exact H) | exact H
  have Ny183005 := Aside0.mk hy183005
  clear hy183005
  obtain ⟨y183008, hy183008⟩ : ∃ y_ : List (S135), y_ = (([(⟨(⟨#[97, 110, 110]⟩ : ByteArray), 2⟩ : S135), (⟨(⟨#[98, 111, 98]⟩ : ByteArray), 1⟩ : S135)] : List (S135))) := ⟨_, rfl⟩
  replace H : (some (y183002, y183005, 2, y183008)) = some (r1, r2, r3, r4) := by first | (rw [hy183008]; with_reducible exact H) | (have H2_ := (Option.bind_some _ _).symm.trans H; rw [hy183008]; with_reducible exact H2_) | (have H2_ := (Option.bind_some _ _).symm.trans H; with_reducible exact H2_) | with_reducible exact H | (rw [hy183008]; exact H) | exact H
  have Ny183008 := Aside0.mk hy183008
  clear hy183008
  simp only [Option.some.injEq, Prod.mk.injEq] at H
  obtain ⟨rfl, rfl, rfl, rfl⟩ := H
  go_enter Try.func61, Try.ntmps61
  go_wp2_with (first | ((with_reducible refine gate_dst (N := 0) rfl ?_); refine box_event ?hg (N := 0) ?hd (cs := #[.slice none 0 0, .slice none 0 0, .int .i64 0, .slice none 0 0]) (t := 85) ?hr ?_; (case hd => rfl); (case hg => rfl); (case hr => first | (go_simp; done) | (go_simp; rfl)); intro gb183001 hg w1 hbox hb; have n0_ := Aside0.mk (below_step (bel HB.out) hb); have n1_ := Aside0.mk (hbox); have n2_ := Aside0.mk ((by rw [hg]; exact (below_size (bel HB.out)) : w.heap.size ≤ gb183001)); have n3_ := Aside0.mk ((by rw [hg]; exact (below_size (bel HB.out)) : w.heap.size ≤ gb183001)); clear HB; have HB := n0_; have BK183001 := n1_; have GW183001 := n2_; have GE183001 := n3_; clear n0_ n1_ n2_ n3_; clear hb hbox hg) | ((with_reducible refine gate_dst (N := 1) rfl ?_); refine Kd.R_lit (Kd.int .i64) _ 3 ?hg (N := 1) ?hd (xs := ([50, 100] : List Int)) (inner := [.int .i64 50, .int .i64 100]) (ok := fun _ => True) (okp := fun _ => True) ?hr ?hp (fun _ hk => hk) trivial (Below.refl _ _) (Nat.le_refl _) (by simp) ?_; (case hd => rfl); (case hg => rfl); (case hr => first | (go_simp; done) | (go_simp; rfl)); (case hp => exact (Reps.one (show Kd.M (Kd.int .i64) _ _ _ 50 [.int .i64 50] from rfl) (Reps.one (show Kd.M (Kd.int .i64) _ _ _ 100 [.int .i64 100] from rfl) (Reps.none _ _)))); intro v183003 w2 ho3 hb hg_ hnew_; clear hg_ hnew_; (first | rw [← Ny183002.out] at ho3 | (simp only [Int.reduceToNat] at ho3; rw [← Ny183002.out] at ho3)); have n0_ := Aside0.mk (Kd.R_lower ho3 (below_size (belS HB.out GE183001.out))); have n1_ := Aside0.mk (blk_below (g := gb183001) (o := .cells #[.slice none 0 0, .slice none 0 0, .int .i64 0, .slice none 0 0] 85 (0, 0)) (bkl BK183001.out) hb); have n2_ := Aside0.mk (below_step (belS HB.out GE183001.out) hb); clear BK183001; clear HB; have HO183004 := n0_; have BK183001 := n1_; have HB := n2_; clear n0_ n1_ n2_; clear hb ho3) | ((with_reducible refine gate_dst (N := 2) rfl ?_); refine Kd.R_lit (Kd.int .i64) _ 3 ?hg (N := 2) ?hd (xs := ([30, 80] : List Int)) (inner := [.int .i64 30, .int .i64 80]) (ok := fun _ => True) (okp := fun _ => True) ?hr ?hp (fun _ hk => hk) trivial (Below.refl _ _) (Nat.le_refl _) (by simp) ?_; (case hd => rfl); (case hg => rfl); (case hr => first | (go_simp; done) | (go_simp; rfl)); (case hp => exact (Reps.one (show Kd.M (Kd.int .i64) _ _ _ 30 [.int .i64 30] from rfl) (Reps.one (show Kd.M (Kd.int .i64) _ _ _ 80 [.int .i64 80] from rfl) (Reps.none _ _)))); intro v183006 w4 ho5 hb hg_ hnew_; clear hg_ hnew_; (first | rw [← Ny183005.out] at ho5 | (simp only [Int.reduceToNat] at ho5; rw [← Ny183005.out] at ho5)); have n0_ := Aside0.mk (Kd.R_elder' (krl HO183004.out) (Kd.R_base ho5) hb); have n1_ := Aside0.mk (Kd.R_lower (Kd.R_new' ho5 (Kd.R_lt (krl HO183004.out))) (below_size (belS HB.out GE183001.out))); have n2_ := Aside0.mk (blk_below (g := gb183001) (o := .cells #[.slice none 0 0, .slice none 0 0, .int .i64 0, .slice none 0 0] 85 (0, 0)) (bkl BK183001.out) hb); have n3_ := Aside0.mk (below_step (belS HB.out GE183001.out) hb); clear HO183004; clear BK183001; clear HB; have HO183004 := n0_; have HO183007 := n1_; have BK183001 := n2_; have HB := n3_; clear n0_ n1_ n2_ n3_; clear hb ho5) | ((with_reducible refine gate_dst (N := 5) rfl ?_); refine Kd.R_lit k135 _ 135 ?hg (N := 5) ?hd (xs := ([(⟨(⟨#[97, 110, 110]⟩ : ByteArray), 2⟩ : S135), (⟨(⟨#[98, 111, 98]⟩ : ByteArray), 1⟩ : S135)] : List (S135))) (inner := [.string (⟨#[97, 110, 110]⟩ : ByteArray), .int .i64 2, .string (⟨#[98, 111, 98]⟩ : ByteArray), .int .i64 1]) (ok := fun _ => True) (okp := fun _ => True) ?hr ?hp (fun _ hk => hk) trivial (Below.refl _ _) (Nat.le_refl _) (by simp) ?_; (case hd => rfl); (case hg => rfl); (case hr => first | (go_simp; done) | (go_simp; rfl)); (case hp => exact (Reps.c2 (show Kd.M k135 _ _ _ (⟨(⟨#[97, 110, 110]⟩ : ByteArray), 2⟩ : S135) [.string (⟨#[97, 110, 110]⟩ : ByteArray), .int .i64 2] from (k135_mkM _ _ _ (⟨(⟨#[97, 110, 110]⟩ : ByteArray), 2⟩ : S135) )) (Reps.c2 (show Kd.M k135 _ _ _ (⟨(⟨#[98, 111, 98]⟩ : ByteArray), 1⟩ : S135) [.string (⟨#[98, 111, 98]⟩ : ByteArray), .int .i64 1] from (k135_mkM _ _ _ (⟨(⟨#[98, 111, 98]⟩ : ByteArray), 1⟩ : S135) )) (Reps.none _ _)))); intro v183009 w6 ho7 hb hg_ hnew_; clear hg_ hnew_; (first | rw [← Ny183008.out] at ho7 | (simp only [Int.reduceToNat] at ho7; rw [← Ny183008.out] at ho7)); have n0_ := Aside0.mk (Kd.R_below (krl HO183004.out) hb); have n1_ := Aside0.mk (Kd.R_below (krl HO183007.out) hb); have n2_ := Aside0.mk (Kd.R_lower ho7 (below_size (belS HB.out GE183001.out))); have n3_ := Aside0.mk (blk_below (g := gb183001) (o := .cells #[.slice none 0 0, .slice none 0 0, .int .i64 0, .slice none 0 0] 85 (0, 0)) (bkl BK183001.out) hb); have n4_ := Aside0.mk (below_step (belS HB.out GE183001.out) hb); clear HO183004; clear HO183007; clear BK183001; clear HB; have HO183004 := n0_; have HO183007 := n1_; have HO183010 := n2_; have BK183001 := n3_; have HB := n4_; clear n0_ n1_ n2_ n3_ n4_; clear hb ho7; obtain ⟨Ao8, co8, eo8⟩ := Kd.R_slice HO183010.out; subst eo8; obtain ⟨Ao9, co9, eo9⟩ := Kd.R_slice HO183007.out; subst eo9; obtain ⟨Ao10, co10, eo10⟩ := Kd.R_slice HO183004.out; subst eo10; have hcz11_0 : w6.cell? ⟨gb183001, 0, none⟩ = some (.slice none 0 0) := (blk_cell BK183001.out 0).trans rfl; have hcz11_1 : w6.cell? ⟨gb183001, 1, none⟩ = some (.slice none 0 0) := (blk_cell BK183001.out 1).trans rfl; have hcz11_2 : w6.cell? ⟨gb183001, 2, none⟩ = some (.int .i64 0) := (blk_cell BK183001.out 2).trans rfl; have hcz11_3 : w6.cell? ⟨gb183001, 3, none⟩ = some (.slice none 0 0) := (blk_cell BK183001.out 3).trans rfl; have hfz11_0 := blk_frozen BK183001.out 0; have hfz11_1 := blk_frozen BK183001.out 1; have hfz11_2 := blk_frozen BK183001.out 2; have hfz11_3 := blk_frozen BK183001.out 3))
  refine bodyPost_ret (results_cell_row rfl _ _ gb183001 85 #[.slice Ao10 y183002.length co10, .slice Ao9 y183005.length co9, .int .i64 2, .slice Ao8 y183008.length co8] (0, 0) _ rfl (by (with_reducible repeat (first | refine blk_drewN ?_ _ | refine blk_drew ?_ | refine blk_alloc ?_ _)); refine blk_put (cs := #[.slice Ao10 y183002.length co10, .slice Ao9 y183005.length co9, .int .i64 2, .slice none 0 0]) ?_ 3 _ rfl; (with_reducible repeat (first | refine blk_drewN ?_ _ | refine blk_drew ?_ | refine blk_alloc ?_ _)); refine blk_put (cs := #[.slice Ao10 y183002.length co10, .slice Ao9 y183005.length co9, .int .i64 0, .slice none 0 0]) ?_ 2 _ rfl; (with_reducible repeat (first | refine blk_drewN ?_ _ | refine blk_drew ?_ | refine blk_alloc ?_ _)); refine blk_put (cs := #[.slice Ao10 y183002.length co10, .slice none 0 0, .int .i64 0, .slice none 0 0]) ?_ 1 _ rfl; (with_reducible repeat (first | refine blk_drewN ?_ _ | refine blk_drew ?_ | refine blk_alloc ?_ _)); refine blk_put (cs := #[.slice none 0 0, .slice none 0 0, .int .i64 0, .slice none 0 0]) ?_ 0 _ rfl; (with_reducible repeat (first | refine blk_drewN ?_ _ | refine blk_drew ?_ | refine blk_alloc ?_ _)); exact BK183001.out) Try.underlying85 rfl (by kernel_rfl)) rfl ?_
  exact ⟨_, _, _, by first | rfl | (simp [errW_none, errW_some] <;> rfl) | (simp [*, errW_none, errW_some] <;> rfl), by (with_reducible repeat (first | apply Kd.R_alloc | apply Kd.R_drewN | apply Kd.R_drew)); exact Kd.R_mono (Kd.R_far (p := ⟨gb183001, 3, none⟩) (Kd.R_far (p := ⟨gb183001, 2, none⟩) (Kd.R_far (p := ⟨gb183001, 1, none⟩) (Kd.R_far (p := ⟨gb183001, 0, none⟩) (Kd.R_types HO183004.out BK183001.out (by decide)) (fun _ hk => hk.2) (.slice Ao10 y183002.length co10)) (fun _ hk => hk.2) (.slice Ao9 y183005.length co9)) (fun _ hk => hk.2) (.int .i64 2)) (fun _ hk => hk.2) (.slice Ao8 y183008.length co8)) (fun _ hk => hk.1.2), by (with_reducible repeat (first | apply Kd.R_alloc | apply Kd.R_drewN | apply Kd.R_drew)); exact Kd.R_mono (Kd.R_far (p := ⟨gb183001, 3, none⟩) (Kd.R_far (p := ⟨gb183001, 2, none⟩) (Kd.R_far (p := ⟨gb183001, 1, none⟩) (Kd.R_far (p := ⟨gb183001, 0, none⟩) (Kd.R_types HO183007.out BK183001.out (by decide)) (fun _ hk => hk.2) (.slice Ao10 y183002.length co10)) (fun _ hk => hk.2) (.slice Ao9 y183005.length co9)) (fun _ hk => hk.2) (.int .i64 2)) (fun _ hk => hk.2) (.slice Ao8 y183008.length co8)) (fun _ hk => hk.1.2), by (with_reducible repeat (first | apply Kd.R_alloc | apply Kd.R_drewN | apply Kd.R_drew)); exact Kd.R_mono (Kd.R_far (p := ⟨gb183001, 3, none⟩) (Kd.R_far (p := ⟨gb183001, 2, none⟩) (Kd.R_far (p := ⟨gb183001, 1, none⟩) (Kd.R_far (p := ⟨gb183001, 0, none⟩) (Kd.R_types HO183010.out BK183001.out (by decide)) (fun _ hk => hk.2) (.slice Ao10 y183002.length co10)) (fun _ hk => hk.2) (.slice Ao9 y183005.length co9)) (fun _ hk => hk.2) (.int .i64 2)) (fun _ hk => hk.2) (.slice Ao8 y183008.length co8)) (fun _ hk => trivial), belS HB.out GE183001.out⟩
def guidevanelaw09_Valley.f  : Option ((List (S112)) × List Int) := some ((([(⟨10, 10⟩ : S112), (⟨30, 10⟩ : S112), (⟨55, 15⟩ : S112)] : List (S112))), (([5, 20, 40, 60] : List Int)))
set_option maxHeartbeats 8000000 in
set_option maxRecDepth 100000 in
theorem guidevanelaw09_Valley.calls  (r1 : List (S112)) (r2 : List Int) (w : World) (h : guidevanelaw09_Valley.f  = some (r1, r2)) :
    Calls Try.prog 62 #[] w fun e w' => ∃ v0_ v1_ : Value, e = .returned (.agg #[v0_, v1_]) ∧ Kd.R k112 112 w' w.heap.size (fun _ => True) v0_ r1 ∧ Kd.R (Kd.int .i64) 3 w' w.heap.size (fun _ => True) v1_ r2 ∧ Below w.heap.size w w' := by
  have hu39 := Try.underlying39
  have hu112 := Try.underlying112
  have HB := Aside0.mk (Below.refl w.heap.size w)
  have H : (some ((([(⟨10, 10⟩ : S112), (⟨30, 10⟩ : S112), (⟨55, 15⟩ : S112)] : List (S112))), (([5, 20, 40, 60] : List Int)))) = some (r1, r2) := h
  clear h
  obtain ⟨y186002, hy186002⟩ : ∃ y_ : List (S112), y_ = (([(⟨10, 10⟩ : S112), (⟨30, 10⟩ : S112), (⟨55, 15⟩ : S112)] : List (S112))) := ⟨_, rfl⟩
  replace H : (some (y186002, (([5, 20, 40, 60] : List Int)))) = some (r1, r2) := by first | (rw [hy186002]; with_reducible exact H) | (have H2_ := (Option.bind_some _ _).symm.trans H; rw [hy186002]; with_reducible exact H2_) | (have H2_ := (Option.bind_some _ _).symm.trans H; with_reducible exact H2_) | with_reducible exact H | (rw [hy186002]; exact H) | exact H
  have Ny186002 := Aside0.mk hy186002
  clear hy186002
  obtain ⟨y186005, hy186005⟩ : ∃ y_ : List Int, y_ = (([5, 20, 40, 60] : List Int)) := ⟨_, rfl⟩
  replace H : (some (y186002, y186005)) = some (r1, r2) := by first | (rw [hy186005]; with_reducible exact H) | (have H2_ := (Option.bind_some _ _).symm.trans H; rw [hy186005]; with_reducible exact H2_) | (have H2_ := (Option.bind_some _ _).symm.trans H; with_reducible exact H2_) | with_reducible exact H | (rw [hy186005]; exact H) | exact H
  have Ny186005 := Aside0.mk hy186005
  clear hy186005
  simp only [Option.some.injEq, Prod.mk.injEq] at H
  obtain ⟨rfl, rfl⟩ := H
  go_enter Try.func62, Try.ntmps62
  go_wp2_with (first | ((with_reducible refine gate_dst (N := 0) rfl ?_); refine box_event ?hg (N := 0) ?hd (cs := #[.slice none 0 0, .slice none 0 0]) (t := 39) ?hr ?_; (case hd => rfl); (case hg => rfl); (case hr => first | (go_simp; done) | (go_simp; rfl)); intro gb186001 hg w1 hbox hb; have n0_ := Aside0.mk (below_step (bel HB.out) hb); have n1_ := Aside0.mk (hbox); have n2_ := Aside0.mk ((by rw [hg]; exact (below_size (bel HB.out)) : w.heap.size ≤ gb186001)); have n3_ := Aside0.mk ((by rw [hg]; exact (below_size (bel HB.out)) : w.heap.size ≤ gb186001)); clear HB; have HB := n0_; have BK186001 := n1_; have GW186001 := n2_; have GE186001 := n3_; clear n0_ n1_ n2_ n3_; clear hb hbox hg) | ((with_reducible refine gate_dst (N := 4) rfl ?_); refine Kd.R_lit k112 _ 112 ?hg (N := 4) ?hd (xs := ([(⟨10, 10⟩ : S112), (⟨30, 10⟩ : S112), (⟨55, 15⟩ : S112)] : List (S112))) (inner := [.int .i64 10, .int .i64 10, .int .i64 30, .int .i64 10, .int .i64 55, .int .i64 15]) (ok := fun _ => True) (okp := fun _ => True) ?hr ?hp (fun _ hk => hk) trivial (Below.refl _ _) (Nat.le_refl _) (by simp) ?_; (case hd => rfl); (case hg => rfl); (case hr => first | (go_simp; done) | (go_simp; rfl)); (case hp => exact (Reps.c2 (show Kd.M k112 _ _ _ (⟨10, 10⟩ : S112) [.int .i64 10, .int .i64 10] from (k112_mkM _ _ _ (⟨10, 10⟩ : S112) )) (Reps.c2 (show Kd.M k112 _ _ _ (⟨30, 10⟩ : S112) [.int .i64 30, .int .i64 10] from (k112_mkM _ _ _ (⟨30, 10⟩ : S112) )) (Reps.c2 (show Kd.M k112 _ _ _ (⟨55, 15⟩ : S112) [.int .i64 55, .int .i64 15] from (k112_mkM _ _ _ (⟨55, 15⟩ : S112) )) (Reps.none _ _))))); intro v186003 w2 ho3 hb hg_ hnew_; clear hg_ hnew_; (first | rw [← Ny186002.out] at ho3 | (simp only [Int.reduceToNat] at ho3; rw [← Ny186002.out] at ho3)); have n0_ := Aside0.mk (Kd.R_lower ho3 (below_size (belS HB.out GE186001.out))); have n1_ := Aside0.mk (blk_below (g := gb186001) (o := .cells #[.slice none 0 0, .slice none 0 0] 39 (0, 0)) (bkl BK186001.out) hb); have n2_ := Aside0.mk (below_step (belS HB.out GE186001.out) hb); clear BK186001; clear HB; have HO186004 := n0_; have BK186001 := n1_; have HB := n2_; clear n0_ n1_ n2_; clear hb ho3) | ((with_reducible refine gate_dst (N := 5) rfl ?_); refine Kd.R_lit (Kd.int .i64) _ 3 ?hg (N := 5) ?hd (xs := ([5, 20, 40, 60] : List Int)) (inner := [.int .i64 5, .int .i64 20, .int .i64 40, .int .i64 60]) (ok := fun _ => True) (okp := fun _ => True) ?hr ?hp (fun _ hk => hk) trivial (Below.refl _ _) (Nat.le_refl _) (by simp) ?_; (case hd => rfl); (case hg => rfl); (case hr => first | (go_simp; done) | (go_simp; rfl)); (case hp => exact (Reps.one (show Kd.M (Kd.int .i64) _ _ _ 5 [.int .i64 5] from rfl) (Reps.one (show Kd.M (Kd.int .i64) _ _ _ 20 [.int .i64 20] from rfl) (Reps.one (show Kd.M (Kd.int .i64) _ _ _ 40 [.int .i64 40] from rfl) (Reps.one (show Kd.M (Kd.int .i64) _ _ _ 60 [.int .i64 60] from rfl) (Reps.none _ _)))))); intro v186006 w4 ho5 hb hg_ hnew_; clear hg_ hnew_; (first | rw [← Ny186005.out] at ho5 | (simp only [Int.reduceToNat] at ho5; rw [← Ny186005.out] at ho5)); have n0_ := Aside0.mk (Kd.R_below (krl HO186004.out) hb); have n1_ := Aside0.mk (Kd.R_lower ho5 (below_size (belS HB.out GE186001.out))); have n2_ := Aside0.mk (blk_below (g := gb186001) (o := .cells #[.slice none 0 0, .slice none 0 0] 39 (0, 0)) (bkl BK186001.out) hb); have n3_ := Aside0.mk (below_step (belS HB.out GE186001.out) hb); clear HO186004; clear BK186001; clear HB; have HO186004 := n0_; have HO186007 := n1_; have BK186001 := n2_; have HB := n3_; clear n0_ n1_ n2_ n3_; clear hb ho5; obtain ⟨Ao6, co6, eo6⟩ := Kd.R_slice HO186007.out; subst eo6; obtain ⟨Ao7, co7, eo7⟩ := Kd.R_slice HO186004.out; subst eo7; have hcz8_0 : w4.cell? ⟨gb186001, 0, none⟩ = some (.slice none 0 0) := (blk_cell BK186001.out 0).trans rfl; have hcz8_1 : w4.cell? ⟨gb186001, 1, none⟩ = some (.slice none 0 0) := (blk_cell BK186001.out 1).trans rfl; have hfz8_0 := blk_frozen BK186001.out 0; have hfz8_1 := blk_frozen BK186001.out 1))
  refine bodyPost_ret (results_cell_row rfl _ _ gb186001 39 #[.slice Ao7 y186002.length co7, .slice Ao6 y186005.length co6] (0, 0) _ rfl (by (with_reducible repeat (first | refine blk_drewN ?_ _ | refine blk_drew ?_ | refine blk_alloc ?_ _)); refine blk_put (cs := #[.slice Ao7 y186002.length co7, .slice none 0 0]) ?_ 1 _ rfl; (with_reducible repeat (first | refine blk_drewN ?_ _ | refine blk_drew ?_ | refine blk_alloc ?_ _)); refine blk_put (cs := #[.slice none 0 0, .slice none 0 0]) ?_ 0 _ rfl; (with_reducible repeat (first | refine blk_drewN ?_ _ | refine blk_drew ?_ | refine blk_alloc ?_ _)); exact BK186001.out) Try.underlying39 rfl (by kernel_rfl)) rfl ?_
  exact ⟨_, _, by first | rfl | (simp [errW_none, errW_some] <;> rfl) | (simp [*, errW_none, errW_some] <;> rfl), by (with_reducible repeat (first | apply Kd.R_alloc | apply Kd.R_drewN | apply Kd.R_drew)); exact Kd.R_mono (Kd.R_far (p := ⟨gb186001, 1, none⟩) (Kd.R_far (p := ⟨gb186001, 0, none⟩) (Kd.R_types HO186004.out BK186001.out (by decide)) (fun _ hk => hk.2) (.slice Ao7 y186002.length co7)) (fun _ hk => hk.2) (.slice Ao6 y186005.length co6)) (fun _ hk => trivial), by (with_reducible repeat (first | apply Kd.R_alloc | apply Kd.R_drewN | apply Kd.R_drew)); exact Kd.R_mono (Kd.R_far (p := ⟨gb186001, 1, none⟩) (Kd.R_far (p := ⟨gb186001, 0, none⟩) (Kd.R_types HO186007.out BK186001.out (by decide)) (fun _ hk => hk.2) (.slice Ao7 y186002.length co7)) (fun _ hk => hk.2) (.slice Ao6 y186005.length co6)) (fun _ hk => trivial), belS HB.out GE186001.out⟩
end Go.Proofs.Yteopooljohdoiaa.Px
namespace Go.Proofs.Yteopooljohdoiaa.Px
open Go.RowKit Go.Proofs.YteopooljohdoiaaW.PrintWords Go.Proofs.YteopooljohdoiaaW.PrintLast Go.Proofs.YteopooljohdoiaaW.PrintMore
attribute [local go_sem] max2_int min2_int max_two min_two max_three min_three max_four min_four
theorem eqi_cons {P : Program} {d : Nat} {e : TypeId} {n : Nat} {xs ys : Array Value} {j : Nat} {js : List Nat} {a b : Value} {r s : Bool} {w : World} (ha : (part e xs (j * n)).run P w = .ok a w) (hb : (part e ys (j * n)).run P w = .ok b w) (he : (Op.equalIn d e a b).run P w = .ok r w) (hr : (Op.eqItems d e n xs ys js).run P w = .ok s w) :
    (Op.eqItems d e n xs ys (j :: js)).run P w = .ok (r && s) w := by
  simp only [Op.eqItems, Sem.run_bind, ha, hb, he, Result.andThen_ok]
  cases r
  · simp
  · simpa using hr
theorem eqA54 (d : Nat) (w : World) (x0 y0 : Int) (x1 y1 : Int) (x2 y2 : Int) (x3 y3 : Int) (x4 y4 : Int) :
    (Op.equalIn (d + 2) 54 (.agg #[.int .i64 x0, .int .i64 x1, .int .i64 x2, .int .i64 x3, .int .i64 x4]) (.agg #[.int .i64 y0, .int .i64 y1, .int .i64 y2, .int .i64 y3, .int .i64 y4])).run Try.prog w = .ok (x0 == y0 && (x1 == y1 && (x2 == y2 && (x3 == y3 && (x4 == y4))))) w := by
  have hz : Try.prog.cellsOf 3 = 1 := by kernel_rfl
  have hs : (Try.prog.info? 3).isSome = true := by kernel_rfl
  obtain ⟨i, hi⟩ := Option.isSome_iff_exists.1 hs
  rw [run_equalIn_array w (d + 1) _ _ Try.underlying54 hi, hz]
  rw [show List.range 5 = [0, 1, 2, 3, 4] from rfl]
  refine eqi_cons (by go_simp; rfl) (by go_simp; rfl) (by go_simp) ?_
  refine eqi_cons (by go_simp; rfl) (by go_simp; rfl) (by go_simp) ?_
  refine eqi_cons (by go_simp; rfl) (by go_simp; rfl) (by go_simp) ?_
  refine eqi_cons (by go_simp; rfl) (by go_simp; rfl) (by go_simp) ?_
  exact (eqi_cons (r := x4 == y4) (s := true) (by go_simp; rfl) (by go_simp; rfl) (by go_simp) rfl).trans (by rw [Bool.and_true])
theorem eqA69 (d : Nat) (w : World) (x0 y0 : Int) (x1 y1 : Int) (x2 y2 : Int) (x3 y3 : Int) (x4 y4 : Int) (x5 y5 : Int) :
    (Op.equalIn (d + 3) 69 (.agg #[.int .i64 x0, .int .i64 x1, .int .i64 x2, .int .i64 x3, .int .i64 x4, .int .i64 x5]) (.agg #[.int .i64 y0, .int .i64 y1, .int .i64 y2, .int .i64 y3, .int .i64 y4, .int .i64 y5])).run Try.prog w = .ok (x0 == y0 && ((x1 == y1 && (x2 == y2 && (x3 == y3 && (x4 == y4 && (x5 == y5))))))) w := by
  refine eqA_of Try.underlying69 (by kernel_rfl) ?_
  refine eqf_cons (by rfl) (by go_simp; rfl) (by go_simp; rfl) (by go_simp) ?_
  exact eqf_last (by rfl) (by go_simp) (by go_simp) (eqA54 (d + 0) w _ _ _ _ _ _ _ _ _ _)
theorem eqA88 (d : Nat) (w : World) (x0 y0 : Int) (x1 y1 : Int) (x2 y2 : Int) :
    (Op.equalIn (d + 2) 88 (.agg #[.int .i64 x0, .int .i64 x1, .int .i64 x2]) (.agg #[.int .i64 y0, .int .i64 y1, .int .i64 y2])).run Try.prog w = .ok (x0 == y0 && (x1 == y1 && (x2 == y2))) w := by
  refine eqA_of Try.underlying88 (by kernel_rfl) ?_
  refine eqf_cons (by rfl) (by go_simp; rfl) (by go_simp; rfl) (by go_simp) ?_
  refine eqf_cons (by rfl) (by go_simp; rfl) (by go_simp; rfl) (by go_simp) ?_
  exact eqf_last (by rfl) (by go_simp; rfl) (by go_simp; rfl) (by go_simp)
attribute [local go_sem high] eqA69 eqA54 eqA88
def guidevanelaw09_awake.f : Option Bool := some true
theorem awake_fit : dam_FitOf.f 20 [⟨0, 0, 100⟩, ⟨0, 10, 130⟩, ⟨0, -10, 72⟩] 3 = some (30, 3020, 87, 0, 0, 0, 0) := by kernel_rfl
theorem awake_watch : dam_WatchOf.f 20 [50, 100] [30, 80] 2 [⟨⟨#[97, 110, 110]⟩, 2⟩, ⟨⟨#[98, 111, 98]⟩, 1⟩] [60, 20, 10] = some (1, 2, 10, 0) := by kernel_rfl
theorem awake_cover : dam_CoverOf.f 20 [⟨10, 10⟩, ⟨30, 10⟩, ⟨55, 15⟩] [5, 20, 40, 60] = some ([0, 2], 0) := by kernel_rfl
theorem awake_empty : dam_EmptyingOf.f 20 [1000, 500] [300, 100] 2 = some (9, 0) := by kernel_rfl
theorem awake_ints : guidevanebase_Ints.f 20 [0, 2] [0, 2] = some true := by kernel_rfl
set_option maxHeartbeats 8000000 in
set_option maxRecDepth 100000 in
theorem guidevanelaw09_awake.calls (r : Bool) (w : World) (h : guidevanelaw09_awake.f = some r) : Calls Try.prog 10 #[] w fun e w' => e = .returned (.bool r) ∧ Below w.heap.size w w' := by
  have hu1 := Try.underlying69
  have hu2 := Try.underlying54
  have hu3 := Try.underlying88
  have hu4 := Try.underlying24
  obtain rfl : r = true := (Option.some.inj h).symm
  clear h
  obtain ⟨l, hl⟩ : ∃ l : List S53, l = [⟨0, 0, 100⟩, ⟨0, 10, 130⟩, ⟨0, -10, 72⟩] := ⟨_, rfl⟩
  have HF := Aside0.mk awake_fit
  rw [← hl] at HF
  have HL := Aside0.mk (show guidevanelaw09_Readings.f = some l by rw [hl]; rfl)
  clear hl
  obtain ⟨q1, hq1⟩ : ∃ l : List Int, l = [50, 100] := ⟨_, rfl⟩
  obtain ⟨q2, hq2⟩ : ∃ l : List Int, l = [30, 80] := ⟨_, rfl⟩
  obtain ⟨q3, hq3⟩ : ∃ l : List S135, l = [⟨⟨#[97, 110, 110]⟩, 2⟩, ⟨⟨#[98, 111, 98]⟩, 1⟩] := ⟨_, rfl⟩
  have HW := Aside0.mk awake_watch
  rw [← hq1, ← hq2, ← hq3] at HW
  have HR := Aside0.mk (show guidevanelaw09_Rules.f = some (q1, q2, 2, q3) by rw [hq1, hq2, hq3]; rfl)
  clear hq1 hq2 hq3
  obtain ⟨v1, hv1⟩ : ∃ l : List S112, l = [⟨10, 10⟩, ⟨30, 10⟩, ⟨55, 15⟩] := ⟨_, rfl⟩
  obtain ⟨v2, hv2⟩ : ∃ l : List Int, l = [5, 20, 40, 60] := ⟨_, rfl⟩
  obtain ⟨v3, hv3⟩ : ∃ l : List Int, l = [0, 2] := ⟨_, rfl⟩
  have HV := Aside0.mk awake_cover
  rw [← hv1, ← hv2, ← hv3] at HV
  have HI := Aside0.mk (show guidevanebase_Ints.f 20 v3 [0, 2] = some true by rw [hv3]; exact awake_ints)
  have HA := Aside0.mk (show guidevanelaw09_Valley.f = some (v1, v2) by rw [hv1, hv2]; rfl)
  clear hv1 hv2 hv3
  have HB := Aside0.mk (Below.refl w.heap.size w)
  go_enter Try.func10, Try.ntmps10
  go_upto_region 2 with (first | (go_at_call 60; refine (guidevanelaw09_Readings.calls _ _ HL.out).mono ?_; rintro e w1 ⟨x1, rfl, hR1, hb1⟩; obtain ⟨A1, c1, e1, hc1, hC1⟩ := Kd.R_reads hR1; subst e1; have HC1 := Aside0.mk (And.intro hc1 hC1); have HB1 := Aside0.mk hb1; clear hb1 hC1 hc1 hR1) | (go_at_call 40; refine (dam_FitOf.calls 20 A1 c1 l 3 30 3020 87 0 0 0 0 _ HC1.out.2 HC1.out.1 HF.out).mono ?_; rintro e w2 ⟨rfl, hb2⟩; have HB2 := Aside0.mk (below_step HB1.out hb2); clear hb2))
  have hfl := blk_new w2 (.cells #[.int .i64 30, .int .i64 3020, .int .i64 87, .int .i64 0, .int .i64 0, .int .i64 0] 69)
  have hb3 := below_alloc HB2.out (.cells #[.int .i64 30, .int .i64 3020, .int .i64 87, .int .i64 0, .int .i64 0, .int .i64 0] 69)
  generalize w2.alloc (.cells #[.int .i64 30, .int .i64 3020, .int .i64 87, .int .i64 0, .int .i64 0, .int .i64 0] 69) = w3 at *
  generalize w2.heap.size = F at *
  have HFL := Aside0.mk hfl
  have HB3 := Aside0.mk hb3
  clear hfl hb3
  go_upto_region 3 with (first | (go_at_call 61; refine (guidevanelaw09_Rules.calls _ _ _ _ _ HR.out).mono ?_; rintro e w4 ⟨y0, y1, y3, rfl, hR1, hR2, hR3, hb4⟩; obtain ⟨A1, c1, e1, hc1, hC1⟩ := Kd.R_reads hR1; subst e1; obtain ⟨A2, c2, e1, hc2, hC2⟩ := Kd.R_reads hR2; subst e1; obtain ⟨A3, c3, e1, hc3, hC3⟩ := Kd.R_reads hR3; subst e1; have HC1 := Aside0.mk (And.intro hc1 hC1); have HC2 := Aside0.mk (And.intro hc2 hC2); have HC3 := Aside0.mk (And.intro hc3 hC3); have HB4 := Aside0.mk (below_step HB3.out hb4); have HFL4 := Aside0.mk (blk_below HFL.out hb4); clear hb4 hC1 hc1 hR1 hC2 hc2 hR2 hC3 hc3 hR3) | (go_at_call 47; refine (dam_WatchOf.calls 20 A1 c1 q1 A2 c2 q2 2 A3 c3 q3 _ _ [60, 20, 10] 1 2 10 0 (w4.alloc (.cells #[.int .i64 60, .int .i64 20, .int .i64 10] 3)) (Kd.C_alloc HC1.out.2 _) HC1.out.1 (Kd.C_alloc HC2.out.2 _) HC2.out.1 (Kd.C_alloc HC3.out.2 _) HC3.out.1 (litC w4 3 [60, 20, 10]) (Nat.le_refl _) HW.out).mono ?_; rintro e w5 ⟨rfl, hb5⟩; have HB5 := Aside0.mk (below_step (below_alloc HB4.out _) hb5); have HFL5 := Aside0.mk (blk_below (blk_alloc HFL4.out _) hb5); clear hb5))
  have hsl := blk_new w5 (.cells #[.int .i64 1, .int .i64 2, .int .i64 10] 88)
  have hfl := blk_alloc HFL5.out (.cells #[.int .i64 1, .int .i64 2, .int .i64 10] 88)
  have hb6 := below_alloc HB5.out (.cells #[.int .i64 1, .int .i64 2, .int .i64 10] 88)
  generalize w5.alloc (.cells #[.int .i64 1, .int .i64 2, .int .i64 10] 88) = w6 at *
  generalize w5.heap.size = G at *
  have HSL := Aside0.mk hsl
  have HFL6 := Aside0.mk hfl
  have HB6 := Aside0.mk hb6
  clear hfl hsl hb6
  go_upto_region 4 with (first | (go_at_call 62; refine (guidevanelaw09_Valley.calls _ _ _ HA.out).mono ?_; rintro e w7 ⟨y0, y1, rfl, hR1, hR2, hb7⟩; obtain ⟨A1, c1, e1, hc1, hC1⟩ := Kd.R_reads hR1; subst e1; obtain ⟨A2, c2, e1, hc2, hC2⟩ := Kd.R_reads hR2; subst e1; have HC1 := Aside0.mk (And.intro hc1 hC1); have HC2 := Aside0.mk (And.intro hc2 hC2); have HB7 := Aside0.mk (below_step HB6.out hb7); have HFL7 := Aside0.mk (blk_below HFL6.out hb7); have HSL7 := Aside0.mk (blk_below HSL.out hb7); clear hb7 hC1 hc1 hR1 hC2 hc2 hR2) | (go_at_call 22; refine (dam_CoverOf.calls 20 A1 c1 v1 A2 c2 v2 v3 0 _ HC1.out.2 HC1.out.1 HC2.out.2 HC2.out.1 HV.out).mono ?_; rintro e w8 ⟨z0, rfl, hR1, hb8⟩; obtain ⟨A8, c8, e1, hc8, hC8⟩ := Kd.R_reads hR1; subst e1; have HC8 := Aside0.mk (And.intro hc8 hC8); have HB8 := Aside0.mk (below_step HB7.out hb8); have HFL8 := Aside0.mk (blk_below HFL7.out hb8); have HSL8 := Aside0.mk (blk_below HSL7.out hb8); clear hb8 hC8 hc8 hR1))
  obtain ⟨we, hwe⟩ : ∃ we, we = (w8.alloc (.cells #[.int .i64 1000, .int .i64 500] 3)).alloc (.cells #[.int .i64 300, .int .i64 100] 3) := ⟨_, rfl⟩
  have hE1 : Kd.C (Kd.int .i64) we (some ⟨w8.heap.size, 0, none⟩) 2 [1000, 500] := by rw [hwe]; exact Kd.C_alloc (litC w8 3 [1000, 500]) _
  have hE2 : Kd.C (Kd.int .i64) we (some ⟨w8.heap.size + 1, 0, none⟩) 2 [300, 100] := by
    have := litC (w8.alloc (.cells #[.int .i64 1000, .int .i64 500] 3)) 3 [300, 100]
    rw [show (w8.alloc (.cells #[.int .i64 1000, .int .i64 500] 3)).heap.size = w8.heap.size + 1 from Array.size_push _] at this
    rw [hwe]; exact this
  have hE3 : Calls Try.prog 13 #[.agg #[.slice (some ⟨w8.heap.size, 0, none⟩) 2 2, .slice (some ⟨w8.heap.size + 1, 0, none⟩) 2 2], .int .i64 2] we fun e w' => e = .returned (.tuple #[.int .i64 9, .int .i64 0]) ∧ Below we.heap.size we w' := dam_EmptyingOf.calls 20 (some ⟨w8.heap.size, 0, none⟩) 2 [1000, 500] (some ⟨w8.heap.size + 1, 0, none⟩) 2 [300, 100] 2 9 0 we hE1 (Nat.le_refl _) hE2 (Nat.le_refl _) awake_empty
  have hEb : Below w.heap.size w we := by rw [hwe]; exact below_alloc (below_alloc HB8.out _) _
  have hEf : we.heap[F]? = some (.cells #[.int .i64 30, .int .i64 3020, .int .i64 87, .int .i64 0, .int .i64 0, .int .i64 0] 69 (0, 0)) := by rw [hwe]; exact blk_alloc (blk_alloc HFL8.out _) _
  have hEs : we.heap[G]? = some (.cells #[.int .i64 1, .int .i64 2, .int .i64 10] 88 (0, 0)) := by rw [hwe]; exact blk_alloc (blk_alloc HSL8.out _) _
  have hEc : Kd.C (Kd.int .i64) we A8 v3.length v3 := by rw [hwe]; exact Kd.C_alloc (Kd.C_alloc HC8.out.2 _) _
  rw [hwe] at hE3
  have HE := Aside0.mk hE3
  have HEb := Aside0.mk hEb
  have HEf := Aside0.mk hEf
  have HEs := Aside0.mk hEs
  have HEc := Aside0.mk hEc
  rw [hwe] at HEb HEf HEs HEc
  clear hE1 hE2 hE3 hEb hEf hEs hEc hwe
  go_upto_region 5 with (go_at_call 13; refine HE.out.mono ?_; rintro e w9 ⟨rfl, hb9⟩; have HB9 := Aside0.mk (below_step HEb.out hb9); have HFL9 := Aside0.mk (blk_below HEf.out hb9); have HSL9 := Aside0.mk (blk_below HEs.out hb9); have HC9 := Aside0.mk (Kd.C_below HEc.out hb9); clear hb9)
  have hs0 := (blk_cell HSL9.out 0).trans rfl
  have hs1 := (blk_cell HSL9.out 1).trans rfl
  have hs2 := (blk_cell HSL9.out 2).trans rfl
  have hf0 := (blk_cell HFL9.out 0).trans rfl
  have hf1 := (blk_cell HFL9.out 1).trans rfl
  have hf2 := (blk_cell HFL9.out 2).trans rfl
  have hf3 := (blk_cell HFL9.out 3).trans rfl
  have hf4 := (blk_cell HFL9.out 4).trans rfl
  have hf5 := (blk_cell HFL9.out 5).trans rfl
  have hI : Calls Try.prog 26 #[.slice A8 v3.length c8, .slice (some ⟨w9.heap.size, 0, none⟩) 2 2] (w9.alloc (.cells #[.int .i64 0, .int .i64 2] 3)) fun e w' => e = .returned (.bool true) ∧ Drawn0 (w9.alloc (.cells #[.int .i64 0, .int .i64 2] 3)) w' := guidevanebase_Ints.calls 20 A8 c8 v3 (some ⟨w9.heap.size, 0, none⟩) 2 [0, 2] true (w9.alloc (.cells #[.int .i64 0, .int .i64 2] 3)) (Kd.C_alloc HC9.out _) HC8.out.1 (litC w9 3 [0, 2]) (Nat.le_refl _) HI.out
  have HN := Aside0.mk hI
  clear hI
  go_wp2_with (go_at_call 26; refine HN.out.mono ?_; rintro e w10 ⟨rfl, hd⟩; have HB10 := Aside0.mk (below_step (below_alloc HB9.out (.cells #[.int .i64 0, .int .i64 2] 3)) hd.below); clear hd)
  go_ret
  exact ⟨rfl, HB10.out⟩
end Go.Proofs.Yteopooljohdoiaa.Px
namespace Go.Proofs.Yteopooljohdoiaa.Px
open Go.RowKit Go.Proofs.YteopooljohdoiaaW.PrintWords Go.Proofs.YteopooljohdoiaaW.PrintLast Go.Proofs.YteopooljohdoiaaW.PrintMore
attribute [local go_sem] max2_int min2_int max_two min_two max_three min_three max_four min_four
def guidevanebase_Within.f (a0 : Int) (a1 : Int) (a2 : Int) : Option (Bool) := if a1 ≤ a0 then (some (decide (a0 ≤ a2))) else (some false)
set_option maxHeartbeats 8000000 in
set_option maxRecDepth 100000 in
theorem guidevanebase_Within.calls (a0 : Int) (a1 : Int) (a2 : Int) (r : Bool) (w : World) (h : guidevanebase_Within.f a0 a1 a2 = some r) :
    Calls Try.prog 15 #[.int .i64 a0, .int .i64 a1, .int .i64 a2] w fun e w' => e = .returned (.bool r) ∧ Drawn0 w w' := by
  have H : (if a1 ≤ a0 then (some (decide (a0 ≤ a2))) else (some false)) = some r := h
  clear h
  by_cases c4 : a1 ≤ a0
  · rw [if_pos c4] at H
    have c4b0 : decide (a1 ≤ a0) = true := decide_eq_true c4
    clear c4
    obtain rfl := Option.some.inj H
    go_enter Try.func15, Try.ntmps15
    go_wp2
    go_ret
    exact ⟨by first | rfl | (simp; done) | (simp [*]; done), by repeat (first | exact Drawn0.refl _ | apply Drawn0.step)⟩
  · rw [if_neg c4] at H
    have c4b0 : decide (a1 ≤ a0) = false := decide_eq_false c4
    clear c4
    obtain rfl := Option.some.inj H
    go_enter Try.func15, Try.ntmps15
    go_wp2
    go_ret
    exact ⟨by first | rfl | (simp; done) | (simp [*]; done), by repeat (first | exact Drawn0.refl _ | apply Drawn0.step)⟩
def guidevanebase_CopyInts.f (l0 : List Int) : Option (List Int) := (some (([] : List Int) : List Int)).bind fun y147001 => (if y147001.length + l0.length < 17592186044416 then (some (y147001 ++ l0)) else (none))
set_option maxHeartbeats 8000000 in
set_option maxRecDepth 100000 in
theorem guidevanebase_CopyInts.calls (A0 : Option Addr) (c0 : Nat) (l0 : List Int) (r : List Int) (w : World) (hr0 : Kd.C (Kd.int .i64) w A0 l0.length l0) (hc0 : l0.length ≤ c0) (h : guidevanebase_CopyInts.f l0 = some r) :
    Calls Try.prog 49 #[.slice A0 l0.length c0] w fun e w' => ∃ v0_ : Value, e = .returned (v0_) ∧ Kd.R (Kd.int .i64) 3 w' w.heap.size (fun _ => True) v0_ r ∧ Below w.heap.size w w' := by
  have HR0 := Aside0.mk hr0
  have HC0 := Aside0.mk hc0
  clear hr0 hc0
  have HB := Aside0.mk (Below.refl w.heap.size w)
  have H : ((some (([] : List Int) : List Int)).bind fun y147001 => (if y147001.length + l0.length < 17592186044416 then (some (y147001 ++ l0)) else (none))) = some r := h
  clear h
  obtain ⟨y147001, hy147001⟩ : ∃ y_ : List Int, y_ = (([] : List Int)) := ⟨_, rfl⟩
  replace H : (if y147001.length + l0.length < 17592186044416 then (some (y147001 ++ l0)) else (none)) = some r := by first | (rw [hy147001]; with_reducible exact H) | (have H2_ := (Option.bind_some _ _).symm.trans H; rw [hy147001]; with_reducible exact H2_) | (have H2_ := (Option.bind_some _ _).symm.trans H; with_reducible exact H2_) | with_reducible exact H | (rw [hy147001]; exact H) | exact H
  have Ny147001 := Aside0.mk hy147001
  clear hy147001
  by_cases c2 : y147001.length + l0.length < 17592186044416
  · rw [if_pos c2] at H
    have LMc2 := Aside0.mk c2
    clear c2
    obtain ⟨y147004, hy147004⟩ : ∃ y_ : List Int, y_ = (y147001 ++ l0) := ⟨_, rfl⟩
    replace H : (some y147004) = some r := by first | (rw [hy147004]; with_reducible exact H) | (have H2_ := (Option.bind_some _ _).symm.trans H; rw [hy147004]; with_reducible exact H2_) | (have H2_ := (Option.bind_some _ _).symm.trans H; with_reducible exact H2_) | with_reducible exact H | (rw [hy147004]; exact H) | exact H
    have Ny147004 := Aside0.mk hy147004
    clear hy147004
    obtain rfl := Option.some.inj H
    go_enter Try.func49, Try.ntmps49
    go_wp2_with (first | ((with_reducible refine gate_dst (N := 3) rfl ?_); refine Kd.R_lit (Kd.int .i64) _ 3 ?hg (N := 3) ?hd (xs := ([] : List Int)) (inner := []) (ok := fun _ => True) (okp := fun _ => True) ?hr ?hp (fun _ hk => hk) trivial (Below.refl _ _) (Nat.le_refl _) (by simp) ?_; (case hd => rfl); (case hg => rfl); (case hr => first | (go_simp; done) | (go_simp; rfl)); (case hp => exact (Reps.none _ _)); intro v147002 w3 ho4 hb hg_ hnew_; clear hg_ hnew_; (first | rw [← Ny147001.out] at ho4 | (simp only [Int.reduceToNat] at ho4; rw [← Ny147001.out] at ho4)); have n0_ := Aside0.mk (Kd.R_lower ho4 (below_size (bel HB.out))); have n1_ := Aside0.mk (below_step (bel HB.out) hb); clear HB; have HO147003 := n0_; have HB := n1_; clear n0_ n1_; clear hb ho4) | ((with_reducible refine gate_builtin (b := .append) (xs := #[.tmp 3, .tmp 4]) rfl ?_); at_builtin; refine Kd.R_append_rows (Kd.int .i64) (w0 := w) w.heap.size rfl (.tmp 3) (.tmp 4) 22 3 (.int .i64 0) 8 rfl Try.underlying22 info3 rfl (by decide) (by omega) v147002 y147001 l0 _ _ _ (fun _ => True) (fun _ => False) rfl rfl ?aO ?aR (fun _ _ h => h) (fun _ h => h.elim) ?aF ?aB ?aS ?aL ?_; (case aR => repeat (first | exact (Kd.C_below HR0.out HB.out) | (with_reducible refine Kd.C_alloc ?_ _) | (with_reducible refine Kd.C_drewN ?_ _) | (with_reducible refine Kd.C_drew ?_))); (case aB => exact (bel HB.out)); (case aF => exact (fun _ _ => trivial)); (case aO => exact (krl HO147003.out)); (case aS => exact (below_size (bel HB.out))); (case aL => have := LMc2.out; omega); intro v147005 w5 ho hb hg hat; rw [← Ny147004.out] at ho; have n0_ := Aside0.mk (hb); have n1_ := Aside0.mk (ho); clear HB; clear HO147003; have HB := n0_; have HO147006 := n1_; clear n0_ n1_; clear ho hb hg hat))
    go_ret
    exact ⟨_, by first | rfl | (simp [errW_none, errW_some] <;> rfl) | (simp [*, errW_none, errW_some] <;> rfl), by (with_reducible repeat (first | apply Kd.R_alloc | apply Kd.R_drewN | apply Kd.R_drew)); exact HO147006.out, bel HB.out⟩
  · rw [if_neg c2] at H
    exact absurd H (by simp)
end Go.Proofs.Yteopooljohdoiaa.Px
namespace Go.Proofs.Yteopooljohdoiaa.Px
open Go.RowKit Go.Proofs.YteopooljohdoiaaW.PrintWords Go.Proofs.YteopooljohdoiaaW.PrintLast
theorem bwithin_f (a b c : Int) : guidevanebase_Within.f a b c = some (decide (b ≤ a) && decide (a ≤ c)) := by
  unfold guidevanebase_Within.f
  by_cases h : b ≤ a <;> simp [h]
theorem pw64 {n : Int} (h0 : -9223372036854775808 ≤ n) (h1 : n ≤ 9223372036854775807) : wrap64 n = n := by unfold wrap64; omega
theorem rd_nat (l : List Int) (i : Nat) : rd l (i : Int) = l.getD i 0 := by unfold rd; rw [Int.toNat_natCast]
theorem copyInts_f (l : List Int) (h : l.length < 17592186044416) : guidevanebase_CopyInts.f l = some l := by
  unfold guidevanebase_CopyInts.f
  simp only [Option.bind_some]
  rw [if_pos (by simpa using h)]
  rfl
end Go.Proofs.Yteopooljohdoiaa.Px
namespace Go.Proofs.Yteopooljohdoiaa.Px
open Go.RowKit Go.Proofs.YteopooljohdoiaaW.PrintWords
def Opens {α : Type} (P : Program) (d : Kd α) (t : TypeId) (ok : α → Prop) : Prop :=
  ∀ {H : Type} (enc : TypeId × Value → H) (w : World) (fuel : Nat) (cs : List Value) (x : DataW H × List MemPlace), DataW.trod enc P w 0 (fun _ => true) true fuel t cs = some x → ∃ y, d.K w y cs ∧ ok y
theorem Opens.int {P : Program} {t : TypeId} {k : IntKind} (ht : P.underlying t = some (.int k)) : Opens P (Kd.int k) t (fun y => (Lit.int k y).wf = true) := by
  intro H enc w fuel cs x h
  cases fuel with
  | zero => simp [DataW.trod] at h
  | succ n =>
    unfold DataW.trod at h
    rw [ht] at h
    split at h <;> simp_all
    exact ⟨_, rfl, h.1.2⟩
theorem cells?_at {w : World} {a : Addr} {n : Nat} {cs : List Value} (h : w.cells? 0 a n = some cs) : cs.length = n ∧ ∀ i u, cs[i]? = some u → w.cell? (a.add i) = some u := by
  unfold World.cells? at h
  rw [if_pos (Nat.zero_le _)] at h
  have hl := mapM_some_length h
  refine ⟨by simpa using hl, fun i u hu => ?_⟩
  have hi : i < cs.length := (List.getElem?_eq_some_iff.1 hu).1
  have hl' : cs.length = n := by simpa using hl
  have hr : (List.range n)[i]? = some i := by rw [List.getElem?_range (by omega)]
  have := mapM_some_get h i i hr
  rw [this, hu]
theorem list_of {α : Type} (n : Nat) (p : Nat → α → Prop) (key : ∀ i, i < n → ∃ y, p i y) : ∃ ys : List α, ys.length = n ∧ ∀ i y, ys[i]? = some y → p i y := by
  induction n with
  | zero => exact ⟨[], rfl, by simp⟩
  | succ n ih =>
    obtain ⟨ys, hlen, hys⟩ := ih (fun i hi => key i (by omega))
    obtain ⟨y, hy⟩ := key n (by omega)
    refine ⟨ys ++ [y], by simp [hlen], fun i z hz => ?_⟩
    rcases Nat.lt_or_ge i ys.length with hi | hi
    · rw [List.getElem?_append_left hi] at hz
      exact hys i z hz
    · have : i = n := by
        have := (List.getElem?_eq_some_iff.1 hz).1
        simp at this
        omega
      subst this
      rw [← hlen] at hz
      simp at hz
      subst hz
      exact hlen ▸ hy
theorem Opens.slice {α : Type} {P : Program} {d : Kd α} {t e : TypeId} {ok : α → Prop} (ht : P.underlying t = some (.slice e)) (hsz : P.cellsOf e = d.sz) (he : Opens P d e ok) :
    Opens P (Kd.slice e d) t (fun ys => ys.length ≤ maxLen ∧ ∀ y ∈ ys, ok y) := by
  intro H enc w fuel cs x h
  rcases Go.Deep.open_slice ht h with ⟨rfl, _⟩ | ⟨a, len, cap, m, n, D, Pl, rfl, _, hl, hm, hmm, hx_, hel⟩
  · exact ⟨[], ⟨none, 0, rfl, Nat.le_refl _, Kd.C_nil _ _⟩, by simp⟩
  · have hmc : m = cap := by simpa using hmm
    have key : ∀ i, i < len → ∃ y, (∃ c, c.length = d.sz ∧ d.K w y c ∧ ∀ j u, c[j]? = some u → w.cell? ((a.add (i * d.sz)).add j) = some u) ∧ ok y := by
      intro i hi
      obtain ⟨cs', hc, ht'⟩ := hel i (by omega)
      rw [hsz] at hc
      obtain ⟨h1, h2⟩ := cells?_at hc
      obtain ⟨y, hK, hy⟩ := he enc w _ _ _ ht'
      exact ⟨y, ⟨cs', h1, hK, h2⟩, hy⟩
    obtain ⟨ys, hlen, hys⟩ := list_of len _ key
    refine ⟨ys, ⟨some a, cap, by rw [hlen], by omega, rfl, by simp only [maxLen] at hm; omega, fun _ => ⟨a, rfl, fun j p hp => ?_⟩⟩, by omega, fun y hy => ?_⟩
    · obtain ⟨⟨c, h1, h2, h3⟩, _⟩ := hys j p hp
      exact ⟨c, h1, h2, fun i u hu => by rw [← Go.Deep.add_add]; exact h3 i u hu⟩
    · obtain ⟨i, hi, rfl⟩ := List.getElem_of_mem hy
      exact (hys i _ (List.getElem?_eq_getElem hi)).2
def OpensL {α : Type} (P : Program) (d : Kd α) (ts : List TypeId) (ok : α → Prop) : Prop :=
  ∀ {H : Type} (enc : TypeId × Value → H) (w : World) (fuel : Nat) (cs : List Value), cs.length = (ts.map P.cellsOf).sum →
    (∀ i t, ts[i]? = some t → ∃ x, DataW.trod enc P w 0 (fun _ => true) true fuel t ((cs.drop ((ts.take i).map P.cellsOf).sum).take (P.cellsOf t)) = some x) → ∃ y, d.K w y cs ∧ ok y
theorem OpensL.one {α : Type} {P : Program} {d : Kd α} {t : TypeId} {ok : α → Prop} (h : Opens P d t ok) : OpensL P d [t] ok := by
  intro H enc w fuel cs hl hx
  obtain ⟨x, hx⟩ := hx 0 t rfl
  have : cs.take (P.cellsOf t) = cs := List.take_of_length_le (by simp at hl; omega)
  simp only [List.take_zero, List.map_nil, List.sum_nil, List.drop_zero, this] at hx
  exact h enc w fuel cs x hx
theorem OpensL.cons {α β : Type} {P : Program} {d : Kd α} {d2 : Kd β} {t : TypeId} {ts : List TypeId} {ok : α → Prop} {ok2 : β → Prop} (h : Opens P d t ok) (h2 : OpensL P d2 ts ok2) :
    OpensL P (Kd.pair d d2) (t :: ts) (fun y => ok y.1 ∧ ok2 y.2) := by
  intro H enc w fuel cs hl hx
  have hl' : cs.length = P.cellsOf t + (ts.map P.cellsOf).sum := by simpa using hl
  obtain ⟨x, h0⟩ := hx 0 t rfl
  simp only [List.take_zero, List.map_nil, List.sum_nil, List.drop_zero] at h0
  obtain ⟨y, hK, hy⟩ := h enc w fuel _ x h0
  obtain ⟨z, hK2, hz⟩ := h2 enc w fuel (cs.drop (P.cellsOf t)) (by simp; omega) (fun i u hu => by
    obtain ⟨x, h1⟩ := hx (i + 1) u (by simpa using hu)
    refine ⟨x, ?_⟩
    rw [List.drop_drop]
    simpa using h1)
  exact ⟨(y, z), ⟨cs.take (P.cellsOf t), cs.drop (P.cellsOf t), (List.take_append_drop _ _).symm, hK, hK2⟩, hy, hz⟩
theorem Opens.struct {α : Type} {P : Program} {d : Kd α} {t : TypeId} {fs : Array Field} {ok : α → Prop} (ht : P.underlying t = some (.struct fs)) (hc : P.cellsOf t = ((fs.toList.map (·.type)).map P.cellsOf).sum)
    (ho : ∀ i f, fs[i]? = some f → f.offset = (((fs.toList.map (·.type)).take i).map P.cellsOf).sum) (h : OpensL P d (fs.toList.map (·.type)) ok) : Opens P d t ok := by
  intro H enc w fuel cs x hx
  obtain ⟨xs, n, rfl, rfl, hl, hxl, hf⟩ := DataW.trod_struct ht hx
  refine h enc w n cs (by rw [hl, hc]) (fun i u hu => ?_)
  simp only [List.getElem?_map, Option.map_eq_some_iff] at hu
  obtain ⟨f, hfi, rfl⟩ := hu
  have hfi' : fs[i]? = some f := by simpa using hfi
  have := hf i f hfi'
  rw [ho i f hfi'] at this
  have hi : i < xs.length := by
    have := (Array.getElem?_eq_some_iff.1 hfi').1
    omega
  exact ⟨xs[i], by rw [this, List.getElem?_eq_getElem hi]⟩
theorem Opens.iso {α β : Type} {P : Program} {d : Kd α} {t : TypeId} {ok : α → Prop} (h : Opens P d t ok) (f : β → α) (g : α → β) (hfg : ∀ x, f (g x) = x) : Opens P (Kd.iso d f) t (fun y => ok (f y)) := by
  intro H enc w fuel cs x hx
  obtain ⟨y, hK, hy⟩ := h enc w fuel cs x hx
  exact ⟨g y, by show d.K w (f (g y)) cs; rw [hfg]; exact hK, by show ok (f (g y)); rw [hfg]; exact hy⟩
end Go.Proofs.Yteopooljohdoiaa.Px
