/- Contracts of the program's functions and plain words (part 1): each says what a call answers and that what lay in memory lies; no condition but what stands in each theorem -/
import Derived.WalkKit
import Derived.Lib.SliceRun
import Derived.Deep.LoopGhost
import Derived.Shelf.Abstract
import Derived.RangeFuncKeeps
import Derived.RangeFuncBound
import Derived.RangeFuncCalls
import Derived.RangeFuncLeaves
import Derived.Shelf.RegionOpen
import Derived.OwnWalkIn
import Derived.TacticsInMore
import Derived.LoopNIn
import Derived.LoopIn
import Derived.Test.YteopooljohdoiaaGreatWWords
import Derived.Test.YteopooljohdoiaaGreatWLast
import Derived.StillTailTactics
import Derived.Deep.RegionHeld3
import Derived.ChangeKeysEq
import Derived.Test.YteopooljohdoiaaGreatWMore
import Derived.Test.YteopooljohdoiaaGreatProg
import Derived.Below
import Derived.Deep.Draws
import Derived.Deep.AppendLies
import Derived.Maps.AppendAt
import Derived.OwnWalk
import Derived.Laws.BytesArg
import Derived.Laws.MakeOwn
import Derived.Laws.OwnMore
import Derived.Deep.OwnRows
import Derived.Tactics
import Derived.Lib.ConvBytes
import Derived.Laws.Slices
import Derived.KernelRfl
import Derived.RowKit3
import Derived.Deep.QuietTactic
import Derived.BigQuiet
import Derived.WideLaws
import Derived.Deep.DeepCutAuto
import Derived.Deep.CutBlock
import Derived.Laws.Rows
import Derived.Lib.AppendStr
import Derived.ArgAppend
import Derived.Laws.IdiomCopy
import Derived.OrdersHeld
import Derived.Laws.BitsLemmas
import Derived.RowKit
import Derived.Test.YteopooljohdoiaaGreatWTab
import Derived.Test.YteopooljohdoiaaGreatWFour
import Derived.Test.YteopooljohdoiaaGreatWQPut
import Derived.Test.YteopooljohdoiaaGreatWApart
import Derived.Test.YteopooljohdoiaaGreatWArr
import Derived.Test.YteopooljohdoiaaGreatWZeros
import Derived.Test.YteopooljohdoiaaGreatWFoot
import Derived.Test.YteopooljohdoiaaGreatWKept
import Derived.Test.YteopooljohdoiaaGreatWShare
import Derived.Test.YteopooljohdoiaaGreatWN
import Derived.Test.YteopooljohdoiaaGreatWFootNe
import Derived.Test.YteopooljohdoiaaGreatWAt
import Derived.Test.YteopooljohdoiaaGreatWEqStruct
import Derived.Test.YteopooljohdoiaaGreatWRepsOne
import Derived.Test.YteopooljohdoiaaGreatWInv
import Derived.Test.YteopooljohdoiaaGreatWInvWords
import Derived.Test.YteopooljohdoiaaGreatWGuard
import Derived.Test.YteopooljohdoiaaGreatWNEv
set_option linter.unusedVariables false
set_option linter.unusedSimpArgs false
namespace Go.Proofs.YteopooljohdoiaaGreat.Px
open Go.RowKit
def idxF {α : Type} (p : α → Bool) (l : List α) : Int := match l.findIdx? p with | some i => (i : Int) | none => -1
theorem idxF_hit {α : Type} {p : α → Bool} {l : List α} {d : α} {k : Nat} (hk : k < l.length) (h0 : ∀ j, j < k → p (l.getD j d) = false) (h1 : p (l.getD k d) = true) : idxF p l = k := by
  have : l.findIdx? p = some k := by
    rw [List.findIdx?_eq_some_iff_getElem]
    refine ⟨hk, ?_, ?_⟩
    · simpa [List.getD_eq_getElem?_getD, List.getElem?_eq_getElem hk] using h1
    · intro j hj
      have := h0 j hj
      have hj' : j < l.length := by omega
      simpa [List.getD_eq_getElem?_getD, List.getElem?_eq_getElem hj'] using this
  simp [idxF, this]
theorem idxF_miss {α : Type} {p : α → Bool} {l : List α} {d : α} (h0 : ∀ j, j < l.length → p (l.getD j d) = false) : idxF p l = -1 := by
  have : l.findIdx? p = none := by
    rw [List.findIdx?_eq_none_iff]
    intro x hx
    obtain ⟨j, hj, rfl⟩ := List.getElem_of_mem hx
    have := h0 j hj
    simpa [List.getD_eq_getElem?_getD, List.getElem?_eq_getElem hj] using this
  simp [idxF, this]
theorem idxF_any {α : Type} (p : α → Bool) (l : List α) : decide (0 ≤ idxF p l) = l.any p := by
  unfold idxF
  cases h : l.findIdx? p with
  | none =>
    rw [List.findIdx?_eq_none_iff] at h
    have : l.any p = false := by rw [List.any_eq_false]; intro x hx; simp [h x hx]
    simp [this]
  | some i =>
    rw [List.findIdx?_eq_some_iff_getElem] at h
    obtain ⟨hi, h1, _⟩ := h
    have : l.any p = true := by rw [List.any_eq_true]; exact ⟨l[i], List.getElem_mem hi, h1⟩
    simp [this]
def PredB {α : Type} (P : Program) (g : Nat) (lb : Array Value) (enc : α → Value) (p : α → Bool) (l : List α) (w : World) : Prop :=
  ∀ (W : World) (x : α), x ∈ l → Below w.heap.size w W → Calls P g (#[enc x] ++ lb) W fun e w' => e = .returned (.bool (p x)) ∧ Below W.heap.size W w'
def KeepSL (s l : Nat) (W W' : World) : Prop := W.heap.size ≤ W'.heap.size ∧ ∀ i, i < W.heap.size → i ≠ s → i ≠ l → W'.heap[i]? = W.heap[i]?
theorem KeepSL.refl (s l : Nat) (W : World) : KeepSL s l W W := ⟨Nat.le_refl _, fun _ _ _ _ => rfl⟩
theorem KeepSL.trans {s l : Nat} {A B C : World} (h : KeepSL s l A B) (k : KeepSL s l B C) : KeepSL s l A C :=
  ⟨Nat.le_trans h.1 k.1, fun i hi h1 h2 => (k.2 i (Nat.lt_of_lt_of_le hi h.1) h1 h2).trans (h.2 i hi h1 h2)⟩
theorem KeepSL.of_below {s l : Nat} {A B : World} (h : Below A.heap.size A B) : KeepSL s l A B := ⟨h.size, fun i hi _ _ => h.block i hi⟩
def permLoop (rec : List Int → Int → List (List Int × Int)) (b : List Int) : List Nat → Int → List (List Int × Int)
  | [], _ => []
  | n :: ns, s => if b.contains (n : Int) then permLoop rec b ns s else rec (b ++ [(n : Int)]) s ++ permLoop rec b ns (-s)
def permsOf (count : Nat) : Nat → List Int → Int → List (List Int × Int)
  | 0, b, s => [(b, s)]
  | d + 1, b, s => permLoop (permsOf count d) b (List.range count) s
theorem range_drop (count k : Nat) (h : k < count) : (List.range count).drop k = k :: (List.range count).drop (k + 1) := by
  rw [List.drop_eq_getElem_cons (by simpa using h)]
  simp
theorem range_drop_all (count : Nat) : (List.range count).drop count = [] := by simp
def prodTo (m : List (List Int)) (o : List Int) (sg : Int) : Nat → Int
  | 0 => sg
  | k + 1 => wrap64 (prodTo m o sg k * (m.getD k []).getD (o.getD k 0).toNat 0)
def detSum (m : List (List Int)) (l : List (List Int × Int)) : Int := l.foldl (fun s x => wrap64 (s + prodTo m x.1 x.2 m.length)) 0
theorem detSum_snoc (m : List (List Int)) (l : List (List Int × Int)) (o : List Int) (sg : Int) : detSum m (l ++ [(o, sg)]) = wrap64 (detSum m l + prodTo m o sg m.length) := by
  simp [detSum, List.foldl_append]
end Go.Proofs.YteopooljohdoiaaGreat.Px
namespace Go.Proofs.YteopooljohdoiaaGreat.Px
open Go.RowKit Go.Proofs.YteopooljohdoiaaGreatW.PrintWords Go.Proofs.YteopooljohdoiaaGreatW.PrintLast
def hdr (n g : Nat) : Value := .slice (some ⟨g, 0, none⟩) n n
def IntBlk (W : World) (g : Nat) (xs : List Int) : Prop := W.heap[g]? = some (.cells (nums .i64 xs).toArray 3 (0, 0))
theorem IntBlk.lt {W : World} {g : Nat} {xs : List Int} (h : IntBlk W g xs) : g < W.heap.size := blk_lt h
theorem IntBlk.cell {W : World} {g : Nat} {xs : List Int} (h : IntBlk W g xs) {i : Nat} (hi : i < xs.length) : W.cell? ⟨g, i, none⟩ = some (.int .i64 (xs.getD i 0)) := by
  refine (blk_cell h i).trans ?_
  simp [nums, List.getD_eq_getElem?_getD, List.getElem?_eq_getElem hi]
theorem IntBlk.frozen {W : World} {g : Nat} {xs : List Int} (h : IntBlk W g xs) (i : Nat) : W.frozen? ⟨g, i, none⟩ = false := blk_frozen h i
theorem IntBlk.set {W : World} {g : Nat} {xs : List Int} (h : IntBlk W g xs) (i : Nat) (v : Int) : IntBlk (W.setCell ⟨g, i, none⟩ (.int .i64 v)) g (xs.set i v) := by
  refine blk_put h i _ ?_
  simp [nums, List.map_set]
theorem IntBlk.far {W : World} {g g2 : Nat} {xs : List Int} (h : IntBlk W g xs) (hne : g ≠ g2) (i : Nat) (v : Value) : IntBlk (W.setCell ⟨g2, i, none⟩ v) g xs := blk_far (p := ⟨g2, i, none⟩) h hne v
theorem IntBlk.below {W W' : World} {g : Nat} {xs : List Int} (h : IntBlk W g xs) (hb : Below W.heap.size W W') : IntBlk W' g xs := blk_below h hb
theorem IntBlk.C {W : World} {g : Nat} {xs : List Int} (h : IntBlk W g xs) (hm : xs.length ≤ 9223372036854775807) : Kd.C (Kd.int .i64) W (some ⟨g, 0, none⟩) xs.length xs := by
  refine Kd.C_of_reads (d := (0 : Int)) (h1 := fun _ => rfl) ⟨rfl, hm, fun _ => ⟨_, rfl, fun j hj => ?_⟩⟩
  rw [add_plain]
  exact h.cell hj
theorem made_nums (n : Nat) : madeCells #[Value.int .i64 0] n = (nums .i64 (List.replicate n 0)).toArray := by
  apply Array.toList_inj.1
  apply List.ext_getElem
  · simp [nums, madeCells]
  · intro i h1 h2
    simp [nums, madeCells, Nat.mod_one]
theorem IntBlk.made (W : World) (n : Nat) : IntBlk (W.alloc (.cells (madeCells #[.int .i64 0] n) 3)) W.heap.size (List.replicate n 0) := by
  rw [made_nums]
  exact blk_new _ _
def HdrBlk (W : World) (Gm n : Nat) (gs : List Nat) : Prop := W.heap[Gm]? = some (.cells (gs.map (hdr n) ++ List.replicate (n - gs.length) (Value.slice none 0 0)).toArray 22 (0, 0))
theorem HdrBlk.cell {W : World} {Gm n : Nat} {gs : List Nat} (h : HdrBlk W Gm n gs) {i : Nat} (hi : i < gs.length) : W.cell? ⟨Gm, i, none⟩ = some (.slice (some ⟨gs.getD i 0, 0, none⟩) n n) := by
  refine (blk_cell h i).trans ?_
  simp [List.getD_eq_getElem?_getD, List.getElem?_eq_getElem hi, List.getElem?_append_left (show i < (gs.map (hdr n)).length by simpa using hi), hdr]
theorem HdrBlk.made (W : World) (n : Nat) : HdrBlk (W.alloc (.cells (madeCells #[.slice none 0 0] n) 22)) W.heap.size n [] := by
  have : madeCells #[Value.slice none 0 0] n = (([] : List Nat).map (hdr n) ++ List.replicate (n - 0) (Value.slice none 0 0)).toArray := by
    apply Array.toList_inj.1
    apply List.ext_getElem
    · simp [madeCells]
    · intro i h1 h2
      simp [madeCells, Nat.mod_one]
  rw [this]
  exact blk_new _ _
theorem HdrBlk.put {W : World} {Gm n : Nat} {gs : List Nat} (h : HdrBlk W Gm n gs) (hlt : gs.length < n) (g : Nat) : HdrBlk (W.setCell ⟨Gm, gs.length, none⟩ (.slice (some ⟨g, 0, none⟩) n n)) Gm n (gs ++ [g]) := by
  refine blk_put h _ _ ?_
  apply Array.toList_inj.1
  have e : n - gs.length = (n - (gs.length + 1)) + 1 := by omega
  simp only [List.setIfInBounds_toArray, List.length_append, List.length_singleton, List.map_append, List.map_cons, List.map_nil]
  rw [e, List.replicate_succ, List.set_append_right _ _ (by simp)]
  simp [hdr]
structure MatSt (W : World) (B Gm Gr n : Nat) (gs : List Nat) (rows : List (List Int)) (right : List Int) : Prop where
  len : gs.length = rows.length
  hd : HdrBlk W Gm n gs
  rt : IntBlk W Gr right
  row : ∀ i, i < gs.length → IntBlk W (gs.getD i 0) (rows.getD i []) ∧ (rows.getD i []).length = n ∧ B ≤ gs.getD i 0 ∧ gs.getD i 0 ≠ Gm ∧ gs.getD i 0 ≠ Gr
  nodup : ∀ i j, i < gs.length → j < gs.length → gs.getD i 0 = gs.getD j 0 → i = j
  rtlen : right.length = n
  bm : B ≤ Gm
  br : B ≤ Gr
  ne : Gm ≠ Gr
theorem MatSt.below {W W' : World} {B Gm Gr n : Nat} {gs : List Nat} {rows : List (List Int)} {right : List Int} (h : MatSt W B Gm Gr n gs rows right) (hb : Below W.heap.size W W') : MatSt W' B Gm Gr n gs rows right :=
  { h with hd := blk_below h.hd hb, rt := h.rt.below hb, row := fun i hi => ⟨(h.row i hi).1.below hb, (h.row i hi).2⟩ }
theorem MatSt.setRight {W : World} {B Gm Gr n : Nat} {gs : List Nat} {rows : List (List Int)} {right : List Int} (h : MatSt W B Gm Gr n gs rows right) (i : Nat) (v : Int) : MatSt (W.setCell ⟨Gr, i, none⟩ (.int .i64 v)) B Gm Gr n gs rows (right.set i v) :=
  { h with hd := blk_far (p := ⟨Gr, i, none⟩) h.hd h.ne _, rt := h.rt.set i v, row := fun j hj => ⟨(h.row j hj).1.far (h.row j hj).2.2.2.2 _ _, (h.row j hj).2⟩, rtlen := by simpa using h.rtlen }
theorem getD_set_same {α : Type} (l : List α) (i : Nat) (x d : α) (h : i < l.length) : (l.set i x).getD i d = x := by
  simp [List.getD_eq_getElem?_getD, List.getElem?_set, h]
theorem getD_set_other {α : Type} (l : List α) (i j : Nat) (x d : α) (h : i ≠ j) : (l.set i x).getD j d = l.getD j d := by
  simp [List.getD_eq_getElem?_getD, List.getElem?_set, h]
theorem MatSt.setEntry {W : World} {B Gm Gr n : Nat} {gs : List Nat} {rows : List (List Int)} {right : List Int} (h : MatSt W B Gm Gr n gs rows right) {i : Nat} (hi : i < gs.length) (k : Nat) (v : Int) :
    MatSt (W.setCell ⟨gs.getD i 0, k, none⟩ (.int .i64 v)) B Gm Gr n gs (rows.set i ((rows.getD i []).set k v)) right :=
  { h with
    len := by simpa using h.len
    hd := blk_far (p := ⟨gs.getD i 0, k, none⟩) h.hd (Ne.symm (h.row i hi).2.2.2.1) _
    rt := h.rt.far (Ne.symm (h.row i hi).2.2.2.2) _ _
    row := fun j hj => by
      by_cases e : i = j
      · subst e
        rw [getD_set_same _ _ _ _ (by rw [← h.len]; exact hi)]
        exact ⟨(h.row i hi).1.set k v, by simpa using (h.row i hi).2.1, (h.row i hi).2.2⟩
      · rw [getD_set_other _ _ _ _ _ e]
        exact ⟨(h.row j hj).1.far (fun e2 => e (h.nodup i j hi hj e2.symm)) _ _, (h.row j hj).2⟩ }
theorem MatSt.newRow {W : World} {B Gm Gr n : Nat} {gs : List Nat} {rows : List (List Int)} {right : List Int} (h : MatSt W B Gm Gr n gs rows right) (hlt : gs.length < n) {W2 : World} {g : Nat} {row : List Int} (hb : Below W.heap.size W W2) (hg : IntBlk W2 g row) (hgs : W.heap.size ≤ g) (hrl : row.length = n) :
    MatSt (W2.setCell ⟨Gm, gs.length, none⟩ (.slice (some ⟨g, 0, none⟩) n n)) B Gm Gr n (gs ++ [g]) (rows ++ [row]) right := by
  have h2 := h.below hb
  have hmlt : Gm < W.heap.size := blk_lt h.hd
  have hrlt : Gr < W.heap.size := h.rt.lt
  have hB : B ≤ g := by have := h.bm; omega
  refine { len := by simp [h.len], hd := HdrBlk.put h2.hd hlt g, rt := h2.rt.far (Ne.symm h.ne) _ _, row := fun i hi => ?_, nodup := fun i j hi hj e => ?_, rtlen := h.rtlen, bm := h.bm, br := h.br, ne := h.ne }
  · rcases Nat.lt_or_ge i gs.length with hi' | hi'
    · have e1 : (gs ++ [g]).getD i 0 = gs.getD i 0 := by simp [List.getD_eq_getElem?_getD, List.getElem?_append_left hi']
      have e2 : (rows ++ [row]).getD i [] = rows.getD i [] := by simp [List.getD_eq_getElem?_getD, List.getElem?_append_left (show i < rows.length by rw [← h.len]; exact hi')]
      rw [e1, e2]
      exact ⟨(h2.row i hi').1.far (h2.row i hi').2.2.2.1 _ _, (h2.row i hi').2⟩
    · have : i = gs.length := by simp at hi; omega
      subst this
      have e1 : (gs ++ [g]).getD gs.length 0 = g := by simp [List.getD_eq_getElem?_getD]
      have e2 : (rows ++ [row]).getD gs.length [] = row := by rw [h.len]; simp [List.getD_eq_getElem?_getD]
      rw [e1, e2]
      exact ⟨hg.far (by omega) _ _, hrl, hB, by omega, by omega⟩
  · have key : ∀ i, i < gs.length → gs.getD i 0 < W.heap.size := fun i hi => (h.row i hi).1.lt
    have e1 : ∀ i, i < gs.length → (gs ++ [g]).getD i 0 = gs.getD i 0 := fun i hi => by simp [List.getD_eq_getElem?_getD, List.getElem?_append_left hi]
    have e2 : (gs ++ [g]).getD gs.length 0 = g := by simp [List.getD_eq_getElem?_getD]
    simp only [List.length_append, List.length_singleton] at hi hj
    rcases Nat.lt_or_ge i gs.length with hi' | hi' <;> rcases Nat.lt_or_ge j gs.length with hj' | hj'
    · rw [e1 i hi', e1 j hj'] at e
      exact h.nodup i j hi' hj' e
    · have : j = gs.length := by omega
      subst this
      rw [e1 i hi', e2] at e
      have := key i hi'
      omega
    · have : i = gs.length := by omega
      subst this
      rw [e1 j hj', e2] at e
      have := key j hj'
      omega
    · omega
theorem litC (w : World) (t : TypeId) (xs : List Int) (hm : xs.length ≤ 9223372036854775807 := by decide) : Kd.C (Kd.int .i64) (w.alloc (.cells (nums .i64 xs).toArray t)) (some ⟨w.heap.size, 0, none⟩) xs.length xs := by
  refine Kd.C_of_reads (d := (0 : Int)) (h1 := fun _ => rfl) ⟨rfl, hm, fun _ => ⟨_, rfl, fun j hj => ?_⟩⟩
  rw [add_plain]
  refine (blk_cell (blk_new w _) j).trans ?_
  simp [nums, List.getD_eq_getElem?_getD, List.getElem?_eq_getElem hj]
theorem w64 {n : Int} (h0 : -9223372036854775808 ≤ n) (h1 : n ≤ 9223372036854775807) : wrap64 n = n := by unfold wrap64; omega
theorem keep2 {wr W : World} {a b : Addr} {u v : Value} (ha : wr.cell? a = some u) (hb : wr.cell? b = some v) (h : Below wr.heap.size wr W) : W.cell? a = some u ∧ W.cell? b = some v ∧ Below wr.heap.size wr W :=
  ⟨(h.cell (World.block_lt_of_cell? wr _ ha)).trans ha, (h.cell (World.block_lt_of_cell? wr _ hb)).trans hb, h⟩
def swap2 (xs : List Int) (j : Nat) : List Int := (xs.set (j + 1) (xs.getD j 0)).set j (xs.getD (j + 1) 0)
def sink (lt : Int → Int → Bool) : Nat → List Int → List Int
  | 0, xs => xs
  | j + 1, xs => if lt (xs.getD (j + 1) 0) (xs.getD j 0) then sink lt j (swap2 xs j) else xs
def insTo (lt : Int → Int → Bool) : Nat → List Int → List Int
  | 0, xs => xs
  | i + 1, xs => sink lt i (insTo lt i xs)
theorem swap2_len (xs : List Int) (j : Nat) : (swap2 xs j).length = xs.length := by simp [swap2]
theorem sink_len (lt : Int → Int → Bool) : ∀ (j : Nat) (xs : List Int), (sink lt j xs).length = xs.length
  | 0, _ => rfl
  | j + 1, xs => by
    unfold sink
    split
    · rw [sink_len lt j, swap2_len]
    · rfl
theorem insTo_len (lt : Int → Int → Bool) : ∀ (i : Nat) (xs : List Int), (insTo lt i xs).length = xs.length
  | 0, _ => rfl
  | i + 1, xs => by
    unfold insTo
    rw [sink_len, insTo_len lt i]
theorem swap2_all {p : Int → Prop} {xs : List Int} {j : Nat} (hj : j + 1 < xs.length) (h : ∀ x ∈ xs, p x) : ∀ x ∈ swap2 xs j, p x := by
  have g : ∀ k, k < xs.length → p (xs.getD k 0) := fun k hk => h _ (by rw [List.getD_eq_getElem?_getD, List.getElem?_eq_getElem hk]; exact List.getElem_mem hk)
  intro x hx
  unfold swap2 at hx
  rcases List.mem_or_eq_of_mem_set hx with hx | rfl
  · rcases List.mem_or_eq_of_mem_set hx with hx | rfl
    · exact h x hx
    · exact g j (by omega)
  · exact g (j + 1) hj
theorem sink_all {p : Int → Prop} (lt : Int → Int → Bool) : ∀ (j : Nat) (xs : List Int), j < xs.length → (∀ x ∈ xs, p x) → ∀ x ∈ sink lt j xs, p x
  | 0, _, _, h => h
  | j + 1, xs, hj, h => by
    unfold sink
    split
    · exact sink_all lt j _ (by rw [swap2_len]; omega) (swap2_all hj h)
    · exact h
theorem insTo_all {p : Int → Prop} (lt : Int → Int → Bool) : ∀ (i : Nat) (xs : List Int), i ≤ xs.length → (∀ x ∈ xs, p x) → ∀ x ∈ insTo lt i xs, p x
  | 0, _, _, h => h
  | i + 1, xs, hi, h => by
    unfold insTo
    exact sink_all lt i _ (by rw [insTo_len]; omega) (insTo_all lt i xs (by omega) h)
def ButG (w W : World) (g : Nat) : Prop := W.os = w.os ∧ W.tape = w.tape ∧ W.output = w.output ∧ w.heap.size ≤ W.heap.size ∧ ∀ k, k < w.heap.size → k ≠ g → W.heap[k]? = w.heap[k]?
theorem ButG.refl (w : World) (g : Nat) : ButG w w g := ⟨rfl, rfl, rfl, Nat.le_refl _, fun _ _ _ => rfl⟩
theorem ButG.below {w W W2 : World} {g : Nat} (h : ButG w W g) (hb : Below W.heap.size W W2) : ButG w W2 g :=
  ⟨hb.os.trans h.1, hb.tape.trans h.2.1, hb.output.trans h.2.2.1, Nat.le_trans h.2.2.2.1 hb.size, fun k hk hg => (hb.block k (Nat.lt_of_lt_of_le hk h.2.2.2.1)).trans (h.2.2.2.2 k hk hg)⟩
theorem ButG.set {w W : World} {g : Nat} (h : ButG w W g) (i : Nat) (v : Value) : ButG w (W.setCell ⟨g, i, none⟩ v) g :=
  ⟨h.1, h.2.1, h.2.2.1, by simpa [World.setCell] using h.2.2.2.1, fun k hk hg => (Below.heap_setCell W ⟨g, i, none⟩ v k hg).trans (h.2.2.2.2 k hk hg)⟩
theorem ButG.toBelow {w0 w W : World} {g : Nat} (h : ButG w W g) (h0 : Below w0.heap.size w0 w) (hg : w0.heap.size ≤ g) : Below w0.heap.size w0 W :=
  ⟨h.1.trans h0.os, h.2.1.trans h0.tape, h.2.2.1.trans h0.output, Nat.le_trans h0.size h.2.2.2.1, fun k hk => (h.2.2.2.2 k (Nat.lt_of_lt_of_le hk h0.size) (by omega)).trans (h0.block k hk)⟩
def CmpB (P : Program) (gf : Nat) (lb : Array Value) (lt : Int → Int → Bool) (p : Int → Prop) (g : Nat) (w : World) : Prop :=
  ∀ (W : World) (x y : Int), p x → p y → ButG w W g → Calls P gf (#[.int .i64 x, .int .i64 y] ++ lb) W fun e w' => ∃ c : Int, e = .returned (.int .i64 c) ∧ decide (c < 0) = lt x y ∧ Below W.heap.size W w'
theorem Kd.R_twoS {w : World} {B : Nat} {ok : Nat → Prop} {v : Value} {xs : List Int} (h : Kd.R (Kd.int .i64) 3 w B ok v xs) : (v = .slice none 0 0 ∧ xs = []) ∨ ∃ g cap, v = .slice (some ⟨g, 0, none⟩) xs.length cap ∧ B ≤ g := by
  obtain ⟨inner, ho⟩ := Kd.R_own h
  rcases ho.2 with ⟨rfl, h0⟩ | ⟨g, cap, cur, rfl, hg, _⟩
  · exact .inl ⟨rfl, List.eq_nil_of_length_eq_zero h0⟩
  · exact .inr ⟨g, cap, rfl, hg⟩
theorem ButG.after {w W W2 : World} {g : Nat} (hb : Below w.heap.size w W) (h : ButG W W2 g) : ButG w W2 g :=
  ⟨h.1.trans hb.os, h.2.1.trans hb.tape, h.2.2.1.trans hb.output, Nat.le_trans hb.size h.2.2.2.1, fun k hk hg => (h.2.2.2.2 k (Nat.lt_of_lt_of_le hk hb.size) hg).trans (hb.block k hk)⟩
theorem eqi_cons {P : Program} {d : Nat} {e : TypeId} {n : Nat} {xs ys : Array Value} {j : Nat} {js : List Nat} {a b : Value} {r s : Bool} {w : World} (ha : (part e xs (j * n)).run P w = .ok a w) (hb : (part e ys (j * n)).run P w = .ok b w) (he : (Op.equalIn d e a b).run P w = .ok r w) (hr : (Op.eqItems d e n xs ys js).run P w = .ok s w) :
    (Op.eqItems d e n xs ys (j :: js)).run P w = .ok (r && s) w := by
  simp only [Op.eqItems, Sem.run_bind, ha, hb, he, Result.andThen_ok]
  cases r
  · simp
  · simpa using hr
end Go.Proofs.YteopooljohdoiaaGreat.Px
namespace Go.Proofs.YteopooljohdoiaaGreat.Px
open Go.RowKit Go.Proofs.YteopooljohdoiaaGreatW.PrintWords Go.Proofs.YteopooljohdoiaaGreatW.PrintLast Go.Proofs.YteopooljohdoiaaGreatW.PrintMore
attribute [local go_sem] max2_int min2_int max_two min_two max_three min_three max_four min_four
def errW : Option Int → Value
  | none => .nilIface
  | some c => .iface 0 (.int .i64 c)
theorem errW_none : errW none = .nilIface := rfl
theorem errW_some (c : Int) : errW (some c) = .iface 0 (.int .i64 c) := rfl
theorem info3 : (Tryz.prog.info? 3).map (fun i => (i.zero, i.size, i.bytes)) = some (some (.int .i64 0), 1, 8) := by kernel_rfl
theorem info32 : (Tryz.prog.info? 32).map (fun i => (i.zero, i.size, i.bytes)) = some (some (.int .i64 0), 1, 8) := by kernel_rfl
theorem info62 : (Tryz.prog.info? 62).map (fun i => (i.zero, i.size, i.bytes)) = some (some (.agg #[(.string ⟨#[]⟩), (.int .i64 0)]), 2, 24) := by kernel_rfl
theorem info69 : (Tryz.prog.info? 69).map (fun i => (i.zero, i.size, i.bytes)) = some (some (.agg #[(.int .i64 0), (.int .i64 0)]), 2, 16) := by kernel_rfl
theorem info71 : (Tryz.prog.info? 71).map (fun i => (i.zero, i.size, i.bytes)) = some (some (.agg #[(.string ⟨#[]⟩), (.int .i64 0), (.int .i64 0), (.int .i64 0), (.int .i64 0)]), 5, 48) := by kernel_rfl
theorem info85 : (Tryz.prog.info? 85).map (fun i => (i.zero, i.size, i.bytes)) = some (some (.agg #[(.int .i64 0), (.int .i64 0), (.int .i64 0)]), 3, 24) := by kernel_rfl
theorem info176 : (Tryz.prog.info? 176).map (fun i => (i.zero, i.size, i.bytes)) = some (some (.agg #[(.int .i64 0), (.int .i64 0)]), 2, 16) := by kernel_rfl
structure S8 where
  f0 : Int
  f1 : Int
  f2 : Bool
  f3 : Int
def z8 : S8 := ⟨(0 : Int), (0 : Int), false, (0 : Int)⟩
def k8 : Kd S8 := Kd.iso (Kd.pair (Kd.int .i64) (Kd.pair (Kd.int .i64) (Kd.pair Kd.bool (Kd.int .u8)))) (fun x : S8 => (x.f0, x.f1, x.f2, x.f3))
theorem k8_open {w : World} {x : S8} {cs : List Value} (h : k8.K w x cs) : cs = [.int .i64 x.f0, .int .i64 x.f1, .bool x.f2, .int .u8 x.f3] := by
  obtain ⟨_, _, rfl, rfl, ⟨_, _, rfl, rfl, ⟨_, _, rfl, rfl, rfl⟩⟩⟩ := h
  exact rfl
theorem k8_openM {w : World} {base : Nat} {ok : Nat → Prop} {x : S8} {cs : List Value} (h : k8.M w base ok x cs) : cs = [.int .i64 x.f0, .int .i64 x.f1, .bool x.f2, .int .u8 x.f3] := by
  obtain ⟨_, _, rfl, rfl, ⟨_, _, rfl, rfl, ⟨_, _, rfl, rfl, rfl⟩⟩⟩ := h
  exact rfl
theorem k8_mk (w : World) (x : S8)  : k8.K w x [.int .i64 x.f0, .int .i64 x.f1, .bool x.f2, .int .u8 x.f3] := ⟨[.int .i64 x.f0], [.int .i64 x.f1, .bool x.f2, .int .u8 x.f3], rfl, rfl, ⟨[.int .i64 x.f1], [.bool x.f2, .int .u8 x.f3], rfl, rfl, ⟨[.bool x.f2], [.int .u8 x.f3], rfl, rfl, rfl⟩⟩⟩
theorem k8_mkM (w : World) (base : Nat) (ok : Nat → Prop) (x : S8)  : k8.M w base ok x [.int .i64 x.f0, .int .i64 x.f1, .bool x.f2, .int .u8 x.f3] := ⟨[.int .i64 x.f0], [.int .i64 x.f1, .bool x.f2, .int .u8 x.f3], rfl, rfl, ⟨[.int .i64 x.f1], [.bool x.f2, .int .u8 x.f3], rfl, rfl, ⟨[.bool x.f2], [.int .u8 x.f3], rfl, rfl, rfl⟩⟩⟩
theorem k8_mkF (W : World) (ok : Nat → Prop) (x : S8) : Kd.FK k8 W ok x [.int .i64 x.f0, .int .i64 x.f1, .bool x.f2, .int .u8 x.f3] := fun W2 _ => k8_mk W2 x
def rd_T8 (xs : List S8) (i : Int) : S8 := xs.getD i.toNat z8
theorem at_T8 {w : World} {A : Option Addr} {n : Nat} {xs : List S8} (h : Kd.C k8 w A n xs) (i : Int) (h0 : 0 ≤ i) (h1 : i < n) : ∃ ad , A = some ad ∧ w.cell? (ad.add (i.toNat * 4)) = some (.int .i64 (rd_T8 xs i).f0) ∧ w.cell? ⟨(ad.add (i.toNat * 4)).block, (ad.add (i.toNat * 4)).off + 1, none⟩ = some (.int .i64 (rd_T8 xs i).f1) ∧ w.cell? ⟨(ad.add (i.toNat * 4)).block, (ad.add (i.toNat * 4)).off + 2, none⟩ = some (.bool (rd_T8 xs i).f2) ∧ w.cell? ⟨(ad.add (i.toNat * 4)).block, (ad.add (i.toNat * 4)).off + 3, none⟩ = some (.int .u8 (rd_T8 xs i).f3) := by
  obtain ⟨ad, c, e, _, hK, hc0⟩ := Kd.C_get h z8 i h0 h1
  have hc : ∀ j u, c[j]? = some u → w.cell? (ad.add (i.toNat * 4 + j)) = some u := hc0
  obtain rfl := k8_open hK
  exact ⟨ad, e, hc 0 _ rfl, by rw [← add_field _ _ 1 (by omega)]; exact hc 1 _ rfl, by rw [← add_field _ _ 2 (by omega)]; exact hc 2 _ rfl, by rw [← add_field _ _ 3 (by omega)]; exact hc 3 _ rfl⟩
structure S14 where
  f0 : ByteArray
  f1 : Int
def z14 : S14 := ⟨(⟨#[]⟩ : ByteArray), (0 : Int)⟩
def k14 : Kd S14 := Kd.iso (Kd.pair Kd.string (Kd.int .u64)) (fun x : S14 => (x.f0, x.f1))
theorem k14_open {w : World} {x : S14} {cs : List Value} (h : k14.K w x cs) : cs = [.string x.f0, .int .u64 x.f1] := by
  obtain ⟨_, _, rfl, rfl, rfl⟩ := h
  exact rfl
theorem k14_openM {w : World} {base : Nat} {ok : Nat → Prop} {x : S14} {cs : List Value} (h : k14.M w base ok x cs) : cs = [.string x.f0, .int .u64 x.f1] := by
  obtain ⟨_, _, rfl, rfl, rfl⟩ := h
  exact rfl
theorem k14_mk (w : World) (x : S14)  : k14.K w x [.string x.f0, .int .u64 x.f1] := ⟨[.string x.f0], [.int .u64 x.f1], rfl, rfl, rfl⟩
theorem k14_mkM (w : World) (base : Nat) (ok : Nat → Prop) (x : S14)  : k14.M w base ok x [.string x.f0, .int .u64 x.f1] := ⟨[.string x.f0], [.int .u64 x.f1], rfl, rfl, rfl⟩
theorem k14_mkF (W : World) (ok : Nat → Prop) (x : S14) : Kd.FK k14 W ok x [.string x.f0, .int .u64 x.f1] := fun W2 _ => k14_mk W2 x
def rd_T14 (xs : List S14) (i : Int) : S14 := xs.getD i.toNat z14
theorem at_T14 {w : World} {A : Option Addr} {n : Nat} {xs : List S14} (h : Kd.C k14 w A n xs) (i : Int) (h0 : 0 ≤ i) (h1 : i < n) : ∃ ad , A = some ad ∧ w.cell? (ad.add (i.toNat * 2)) = some (.string (rd_T14 xs i).f0) ∧ w.cell? ⟨(ad.add (i.toNat * 2)).block, (ad.add (i.toNat * 2)).off + 1, none⟩ = some (.int .u64 (rd_T14 xs i).f1) := by
  obtain ⟨ad, c, e, _, hK, hc0⟩ := Kd.C_get h z14 i h0 h1
  have hc : ∀ j u, c[j]? = some u → w.cell? (ad.add (i.toNat * 2 + j)) = some u := hc0
  obtain rfl := k14_open hK
  exact ⟨ad, e, hc 0 _ rfl, by rw [← add_field _ _ 1 (by omega)]; exact hc 1 _ rfl⟩
def rd_L7 (xs : List (List Int)) (i : Int) : (List Int) := xs.getD i.toNat ([] : List Int)
theorem at_L7 {w : World} {A : Option Addr} {n : Nat} {xs : List (List Int)} (h : Kd.C (Kd.slice 3 (Kd.int .i64)) w A n xs) (i : Int) (h0 : 0 ≤ i) (h1 : i < n) : ∃ ad A0 c0, A = some ad ∧ w.cell? (ad.add i.toNat) = some (.slice A0 (rd_L7 xs i).length c0) ∧ (rd_L7 xs i).length ≤ c0 ∧ (Kd.int .i64).C w A0 (rd_L7 xs i).length (rd_L7 xs i) := by
  obtain ⟨ad, c, e, _, hK, hc0⟩ := Kd.C_get h ([] : List Int) i h0 h1
  have hc : ∀ j u, c[j]? = some u → w.cell? (ad.add (i.toNat * 1 + j)) = some u := hc0
  obtain ⟨A0, c0, rfl, l0, g0⟩ := hK
  exact ⟨ad, A0, c0, e, by have hq := hc 0 _ rfl; rwa [Nat.mul_one, Nat.add_zero] at hq, l0, g0⟩
structure S62 where
  f0 : ByteArray
  f1 : Int
def z62 : S62 := ⟨(⟨#[]⟩ : ByteArray), (0 : Int)⟩
def k62 : Kd S62 := Kd.iso (Kd.pair Kd.string (Kd.int .i64)) (fun x : S62 => (x.f0, x.f1))
theorem k62_open {w : World} {x : S62} {cs : List Value} (h : k62.K w x cs) : cs = [.string x.f0, .int .i64 x.f1] := by
  obtain ⟨_, _, rfl, rfl, rfl⟩ := h
  exact rfl
theorem k62_openM {w : World} {base : Nat} {ok : Nat → Prop} {x : S62} {cs : List Value} (h : k62.M w base ok x cs) : cs = [.string x.f0, .int .i64 x.f1] := by
  obtain ⟨_, _, rfl, rfl, rfl⟩ := h
  exact rfl
theorem k62_mk (w : World) (x : S62)  : k62.K w x [.string x.f0, .int .i64 x.f1] := ⟨[.string x.f0], [.int .i64 x.f1], rfl, rfl, rfl⟩
theorem k62_mkM (w : World) (base : Nat) (ok : Nat → Prop) (x : S62)  : k62.M w base ok x [.string x.f0, .int .i64 x.f1] := ⟨[.string x.f0], [.int .i64 x.f1], rfl, rfl, rfl⟩
theorem k62_mkF (W : World) (ok : Nat → Prop) (x : S62) : Kd.FK k62 W ok x [.string x.f0, .int .i64 x.f1] := fun W2 _ => k62_mk W2 x
def rd_T62 (xs : List S62) (i : Int) : S62 := xs.getD i.toNat z62
theorem at_T62 {w : World} {A : Option Addr} {n : Nat} {xs : List S62} (h : Kd.C k62 w A n xs) (i : Int) (h0 : 0 ≤ i) (h1 : i < n) : ∃ ad , A = some ad ∧ w.cell? (ad.add (i.toNat * 2)) = some (.string (rd_T62 xs i).f0) ∧ w.cell? ⟨(ad.add (i.toNat * 2)).block, (ad.add (i.toNat * 2)).off + 1, none⟩ = some (.int .i64 (rd_T62 xs i).f1) := by
  obtain ⟨ad, c, e, _, hK, hc0⟩ := Kd.C_get h z62 i h0 h1
  have hc : ∀ j u, c[j]? = some u → w.cell? (ad.add (i.toNat * 2 + j)) = some u := hc0
  obtain rfl := k62_open hK
  exact ⟨ad, e, hc 0 _ rfl, by rw [← add_field _ _ 1 (by omega)]; exact hc 1 _ rfl⟩
def rd_L9 (xs : List (List S62)) (i : Int) : (List S62) := xs.getD i.toNat ([] : List S62)
theorem at_L9 {w : World} {A : Option Addr} {n : Nat} {xs : List (List S62)} (h : Kd.C (Kd.slice 62 k62) w A n xs) (i : Int) (h0 : 0 ≤ i) (h1 : i < n) : ∃ ad A0 c0, A = some ad ∧ w.cell? (ad.add i.toNat) = some (.slice A0 (rd_L9 xs i).length c0) ∧ (rd_L9 xs i).length ≤ c0 ∧ k62.C w A0 (rd_L9 xs i).length (rd_L9 xs i) := by
  obtain ⟨ad, c, e, _, hK, hc0⟩ := Kd.C_get h ([] : List S62) i h0 h1
  have hc : ∀ j u, c[j]? = some u → w.cell? (ad.add (i.toNat * 1 + j)) = some u := hc0
  obtain ⟨A0, c0, rfl, l0, g0⟩ := hK
  exact ⟨ad, A0, c0, e, by have hq := hc 0 _ rfl; rwa [Nat.mul_one, Nat.add_zero] at hq, l0, g0⟩
structure S25 where
  f0 : (List Int)
  f1 : (List Int)
  f2 : Int
  f3 : (List S62)
def z25 : S25 := ⟨([] : List Int), ([] : List Int), (0 : Int), ([] : List S62)⟩
def k25 : Kd S25 := Kd.iso (Kd.pair (Kd.slice 3 (Kd.int .i64)) (Kd.pair (Kd.slice 3 (Kd.int .i64)) (Kd.pair (Kd.int .i64) (Kd.slice 62 k62)))) (fun x : S25 => (x.f0, x.f1, x.f2, x.f3))
theorem k25_open {w : World} {x : S25} {cs : List Value} (h : k25.K w x cs) : ∃ A0 c0 A1 c1 A3 c3, cs = [.slice A0 x.f0.length c0, .slice A1 x.f1.length c1, .int .i64 x.f2, .slice A3 x.f3.length c3] ∧ x.f0.length ≤ c0 ∧ (Kd.int .i64).C w A0 x.f0.length x.f0 ∧ x.f1.length ≤ c1 ∧ (Kd.int .i64).C w A1 x.f1.length x.f1 ∧ x.f3.length ≤ c3 ∧ k62.C w A3 x.f3.length x.f3 := by
  obtain ⟨_, _, rfl, ⟨A0, c0, rfl, l0, g0⟩, ⟨_, _, rfl, ⟨A1, c1, rfl, l1, g1⟩, ⟨_, _, rfl, rfl, ⟨A3, c3, rfl, l3, g3⟩⟩⟩⟩ := h
  exact ⟨A0, c0, A1, c1, A3, c3, rfl, l0, g0, l1, g1, l3, g3⟩
theorem k25_openM {w : World} {base : Nat} {ok : Nat → Prop} {x : S25} {cs : List Value} (h : k25.M w base ok x cs) : ∃ v0 v1 v3, cs = [v0, v1, .int .i64 x.f2, v3] ∧ (Kd.int .i64).R 3 w base ok v0 x.f0 ∧ (Kd.int .i64).R 3 w base ok v1 x.f1 ∧ k62.R 62 w base ok v3 x.f3 := by
  obtain ⟨_, _, rfl, ⟨v0, rfl, g0⟩, ⟨_, _, rfl, ⟨v1, rfl, g1⟩, ⟨_, _, rfl, rfl, ⟨v3, rfl, g3⟩⟩⟩⟩ := h
  exact ⟨v0, v1, v3, rfl, g0, g1, g3⟩
theorem k25_mk (w : World) (x : S25) {A0 : Option Addr} {c0 : Nat} (l0 : x.f0.length ≤ c0) (g0 : (Kd.int .i64).C w A0 x.f0.length x.f0) {A1 : Option Addr} {c1 : Nat} (l1 : x.f1.length ≤ c1) (g1 : (Kd.int .i64).C w A1 x.f1.length x.f1) {A3 : Option Addr} {c3 : Nat} (l3 : x.f3.length ≤ c3) (g3 : k62.C w A3 x.f3.length x.f3) : k25.K w x [.slice A0 x.f0.length c0, .slice A1 x.f1.length c1, .int .i64 x.f2, .slice A3 x.f3.length c3] := ⟨[.slice A0 x.f0.length c0], [.slice A1 x.f1.length c1, .int .i64 x.f2, .slice A3 x.f3.length c3], rfl, ⟨A0, c0, rfl, l0, g0⟩, ⟨[.slice A1 x.f1.length c1], [.int .i64 x.f2, .slice A3 x.f3.length c3], rfl, ⟨A1, c1, rfl, l1, g1⟩, ⟨[.int .i64 x.f2], [.slice A3 x.f3.length c3], rfl, rfl, ⟨A3, c3, rfl, l3, g3⟩⟩⟩⟩
theorem k25_mkM (w : World) (base : Nat) (ok : Nat → Prop) (x : S25) {v0 : Value} (g0 : (Kd.int .i64).R 3 w base ok v0 x.f0) {v1 : Value} (g1 : (Kd.int .i64).R 3 w base ok v1 x.f1) {v3 : Value} (g3 : k62.R 62 w base ok v3 x.f3) : k25.M w base ok x [v0, v1, .int .i64 x.f2, v3] := ⟨[v0], [v1, .int .i64 x.f2, v3], rfl, ⟨v0, rfl, g0⟩, ⟨[v1], [.int .i64 x.f2, v3], rfl, ⟨v1, rfl, g1⟩, ⟨[.int .i64 x.f2], [v3], rfl, rfl, ⟨v3, rfl, g3⟩⟩⟩⟩
theorem k25_openF {W : World} {ok : Nat → Prop} {x : S25} {cs : List Value} (h : Kd.FK k25 W ok x cs) : ∃ A0 c0 A1 c1 A3 c3, cs = [.slice A0 x.f0.length c0, .slice A1 x.f1.length c1, .int .i64 x.f2, .slice A3 x.f3.length c3] ∧ x.f0.length ≤ c0 ∧ Kd.F (Kd.int .i64) W ok A0 x.f0.length x.f0 ∧ x.f1.length ≤ c1 ∧ Kd.F (Kd.int .i64) W ok A1 x.f1.length x.f1 ∧ x.f3.length ≤ c3 ∧ Kd.F k62 W ok A3 x.f3.length x.f3 := by
  obtain ⟨A0, c0, A1, c1, A3, c3, rfl, l0, _, l1, _, l3, _⟩ := k25_open (Kd.FK_now h)
  exact ⟨A0, c0, A1, c1, A3, c3, rfl, l0, (fun W' hW => by obtain ⟨A0_, c0_, A1_, c1_, A3_, c3_, he, l0_, g0_, l1_, g1_, l3_, g3_⟩ := k25_open (h W' hW); injection (Option.some.inj (show some (Value.slice A0 x.f0.length c0) = some (Value.slice A0_ x.f0.length c0_) from congrArg (fun l => l[0]?) he)) with ha_ _ _; rw [ha_]; exact g0_), l1, (fun W' hW => by obtain ⟨A0_, c0_, A1_, c1_, A3_, c3_, he, l0_, g0_, l1_, g1_, l3_, g3_⟩ := k25_open (h W' hW); injection (Option.some.inj (show some (Value.slice A1 x.f1.length c1) = some (Value.slice A1_ x.f1.length c1_) from congrArg (fun l => l[1]?) he)) with ha_ _ _; rw [ha_]; exact g1_), l3, (fun W' hW => by obtain ⟨A0_, c0_, A1_, c1_, A3_, c3_, he, l0_, g0_, l1_, g1_, l3_, g3_⟩ := k25_open (h W' hW); injection (Option.some.inj (show some (Value.slice A3 x.f3.length c3) = some (Value.slice A3_ x.f3.length c3_) from congrArg (fun l => l[3]?) he)) with ha_ _ _; rw [ha_]; exact g3_)⟩
theorem k25_mkF (W : World) (ok : Nat → Prop) (x : S25) {A0 : Option Addr} {c0 : Nat} (l0 : x.f0.length ≤ c0) (g0 : Kd.F (Kd.int .i64) W ok A0 x.f0.length x.f0) {A1 : Option Addr} {c1 : Nat} (l1 : x.f1.length ≤ c1) (g1 : Kd.F (Kd.int .i64) W ok A1 x.f1.length x.f1) {A3 : Option Addr} {c3 : Nat} (l3 : x.f3.length ≤ c3) (g3 : Kd.F k62 W ok A3 x.f3.length x.f3) : Kd.FK k25 W ok x [.slice A0 x.f0.length c0, .slice A1 x.f1.length c1, .int .i64 x.f2, .slice A3 x.f3.length c3] := fun W2 hW => k25_mk W2 x l0 (g0 W2 hW) l1 (g1 W2 hW) l3 (g3 W2 hW)
def rd_T25 (xs : List S25) (i : Int) : S25 := xs.getD i.toNat z25
theorem at_T25 {w : World} {A : Option Addr} {n : Nat} {xs : List S25} (h : Kd.C k25 w A n xs) (i : Int) (h0 : 0 ≤ i) (h1 : i < n) : ∃ ad A0 c0 A1 c1 A3 c3, A = some ad ∧ w.cell? (ad.add (i.toNat * 4)) = some (.slice A0 (rd_T25 xs i).f0.length c0) ∧ w.cell? ⟨(ad.add (i.toNat * 4)).block, (ad.add (i.toNat * 4)).off + 1, none⟩ = some (.slice A1 (rd_T25 xs i).f1.length c1) ∧ w.cell? ⟨(ad.add (i.toNat * 4)).block, (ad.add (i.toNat * 4)).off + 2, none⟩ = some (.int .i64 (rd_T25 xs i).f2) ∧ w.cell? ⟨(ad.add (i.toNat * 4)).block, (ad.add (i.toNat * 4)).off + 3, none⟩ = some (.slice A3 (rd_T25 xs i).f3.length c3) ∧ (rd_T25 xs i).f0.length ≤ c0 ∧ (Kd.int .i64).C w A0 (rd_T25 xs i).f0.length (rd_T25 xs i).f0 ∧ (rd_T25 xs i).f1.length ≤ c1 ∧ (Kd.int .i64).C w A1 (rd_T25 xs i).f1.length (rd_T25 xs i).f1 ∧ (rd_T25 xs i).f3.length ≤ c3 ∧ k62.C w A3 (rd_T25 xs i).f3.length (rd_T25 xs i).f3 := by
  obtain ⟨ad, c, e, _, hK, hc0⟩ := Kd.C_get h z25 i h0 h1
  have hc : ∀ j u, c[j]? = some u → w.cell? (ad.add (i.toNat * 4 + j)) = some u := hc0
  obtain ⟨A0, c0, A1, c1, A3, c3, rfl, l0, g0, l1, g1, l3, g3⟩ := k25_open hK
  exact ⟨ad, A0, c0, A1, c1, A3, c3, e, hc 0 _ rfl, by rw [← add_field _ _ 1 (by omega)]; exact hc 1 _ rfl, by rw [← add_field _ _ 2 (by omega)]; exact hc 2 _ rfl, by rw [← add_field _ _ 3 (by omega)]; exact hc 3 _ rfl, l0, g0, l1, g1, l3, g3⟩
structure S27 where
  f0 : Int
  f1 : Int
  f2 : Int
def z27 : S27 := ⟨(0 : Int), (0 : Int), (0 : Int)⟩
def k27 : Kd S27 := Kd.iso (Kd.pair (Kd.int .i64) (Kd.pair (Kd.int .i64) (Kd.int .i64))) (fun x : S27 => (x.f0, x.f1, x.f2))
theorem k27_open {w : World} {x : S27} {cs : List Value} (h : k27.K w x cs) : cs = [.int .i64 x.f0, .int .i64 x.f1, .int .i64 x.f2] := by
  obtain ⟨_, _, rfl, rfl, ⟨_, _, rfl, rfl, rfl⟩⟩ := h
  exact rfl
theorem k27_openM {w : World} {base : Nat} {ok : Nat → Prop} {x : S27} {cs : List Value} (h : k27.M w base ok x cs) : cs = [.int .i64 x.f0, .int .i64 x.f1, .int .i64 x.f2] := by
  obtain ⟨_, _, rfl, rfl, ⟨_, _, rfl, rfl, rfl⟩⟩ := h
  exact rfl
theorem k27_mk (w : World) (x : S27)  : k27.K w x [.int .i64 x.f0, .int .i64 x.f1, .int .i64 x.f2] := ⟨[.int .i64 x.f0], [.int .i64 x.f1, .int .i64 x.f2], rfl, rfl, ⟨[.int .i64 x.f1], [.int .i64 x.f2], rfl, rfl, rfl⟩⟩
theorem k27_mkM (w : World) (base : Nat) (ok : Nat → Prop) (x : S27)  : k27.M w base ok x [.int .i64 x.f0, .int .i64 x.f1, .int .i64 x.f2] := ⟨[.int .i64 x.f0], [.int .i64 x.f1, .int .i64 x.f2], rfl, rfl, ⟨[.int .i64 x.f1], [.int .i64 x.f2], rfl, rfl, rfl⟩⟩
theorem k27_mkF (W : World) (ok : Nat → Prop) (x : S27) : Kd.FK k27 W ok x [.int .i64 x.f0, .int .i64 x.f1, .int .i64 x.f2] := fun W2 _ => k27_mk W2 x
def rd_T27 (xs : List S27) (i : Int) : S27 := xs.getD i.toNat z27
theorem at_T27 {w : World} {A : Option Addr} {n : Nat} {xs : List S27} (h : Kd.C k27 w A n xs) (i : Int) (h0 : 0 ≤ i) (h1 : i < n) : ∃ ad , A = some ad ∧ w.cell? (ad.add (i.toNat * 3)) = some (.int .i64 (rd_T27 xs i).f0) ∧ w.cell? ⟨(ad.add (i.toNat * 3)).block, (ad.add (i.toNat * 3)).off + 1, none⟩ = some (.int .i64 (rd_T27 xs i).f1) ∧ w.cell? ⟨(ad.add (i.toNat * 3)).block, (ad.add (i.toNat * 3)).off + 2, none⟩ = some (.int .i64 (rd_T27 xs i).f2) := by
  obtain ⟨ad, c, e, _, hK, hc0⟩ := Kd.C_get h z27 i h0 h1
  have hc : ∀ j u, c[j]? = some u → w.cell? (ad.add (i.toNat * 3 + j)) = some u := hc0
  obtain rfl := k27_open hK
  exact ⟨ad, e, hc 0 _ rfl, by rw [← add_field _ _ 1 (by omega)]; exact hc 1 _ rfl, by rw [← add_field _ _ 2 (by omega)]; exact hc 2 _ rfl⟩
structure S29 where
  f0 : ByteArray
  f1 : Int
def z29 : S29 := ⟨(⟨#[]⟩ : ByteArray), (0 : Int)⟩
def k29 : Kd S29 := Kd.iso (Kd.pair Kd.string (Kd.int .i64)) (fun x : S29 => (x.f0, x.f1))
theorem k29_open {w : World} {x : S29} {cs : List Value} (h : k29.K w x cs) : cs = [.string x.f0, .int .i64 x.f1] := by
  obtain ⟨_, _, rfl, rfl, rfl⟩ := h
  exact rfl
theorem k29_openM {w : World} {base : Nat} {ok : Nat → Prop} {x : S29} {cs : List Value} (h : k29.M w base ok x cs) : cs = [.string x.f0, .int .i64 x.f1] := by
  obtain ⟨_, _, rfl, rfl, rfl⟩ := h
  exact rfl
theorem k29_mk (w : World) (x : S29)  : k29.K w x [.string x.f0, .int .i64 x.f1] := ⟨[.string x.f0], [.int .i64 x.f1], rfl, rfl, rfl⟩
theorem k29_mkM (w : World) (base : Nat) (ok : Nat → Prop) (x : S29)  : k29.M w base ok x [.string x.f0, .int .i64 x.f1] := ⟨[.string x.f0], [.int .i64 x.f1], rfl, rfl, rfl⟩
theorem k29_mkF (W : World) (ok : Nat → Prop) (x : S29) : Kd.FK k29 W ok x [.string x.f0, .int .i64 x.f1] := fun W2 _ => k29_mk W2 x
def rd_T29 (xs : List S29) (i : Int) : S29 := xs.getD i.toNat z29
theorem at_T29 {w : World} {A : Option Addr} {n : Nat} {xs : List S29} (h : Kd.C k29 w A n xs) (i : Int) (h0 : 0 ≤ i) (h1 : i < n) : ∃ ad , A = some ad ∧ w.cell? (ad.add (i.toNat * 2)) = some (.string (rd_T29 xs i).f0) ∧ w.cell? ⟨(ad.add (i.toNat * 2)).block, (ad.add (i.toNat * 2)).off + 1, none⟩ = some (.int .i64 (rd_T29 xs i).f1) := by
  obtain ⟨ad, c, e, _, hK, hc0⟩ := Kd.C_get h z29 i h0 h1
  have hc : ∀ j u, c[j]? = some u → w.cell? (ad.add (i.toNat * 2 + j)) = some u := hc0
  obtain rfl := k29_open hK
  exact ⟨ad, e, hc 0 _ rfl, by rw [← add_field _ _ 1 (by omega)]; exact hc 1 _ rfl⟩
structure S42 where
  f0 : Int
  f1 : Int
  f2 : Int
  f3 : Int
  f4 : Int
def z42 : S42 := ⟨(0 : Int), (0 : Int), (0 : Int), (0 : Int), (0 : Int)⟩
def k42 : Kd S42 := Kd.iso (Kd.pair (Kd.int .i64) (Kd.pair (Kd.int .i64) (Kd.pair (Kd.int .i64) (Kd.pair (Kd.int .i64) (Kd.int .i64))))) (fun x : S42 => (x.f0, x.f1, x.f2, x.f3, x.f4))
theorem k42_open {w : World} {x : S42} {cs : List Value} (h : k42.K w x cs) : cs = [.int .i64 x.f0, .int .i64 x.f1, .int .i64 x.f2, .int .i64 x.f3, .int .i64 x.f4] := by
  obtain ⟨_, _, rfl, rfl, ⟨_, _, rfl, rfl, ⟨_, _, rfl, rfl, ⟨_, _, rfl, rfl, rfl⟩⟩⟩⟩ := h
  exact rfl
theorem k42_openM {w : World} {base : Nat} {ok : Nat → Prop} {x : S42} {cs : List Value} (h : k42.M w base ok x cs) : cs = [.int .i64 x.f0, .int .i64 x.f1, .int .i64 x.f2, .int .i64 x.f3, .int .i64 x.f4] := by
  obtain ⟨_, _, rfl, rfl, ⟨_, _, rfl, rfl, ⟨_, _, rfl, rfl, ⟨_, _, rfl, rfl, rfl⟩⟩⟩⟩ := h
  exact rfl
theorem k42_mk (w : World) (x : S42)  : k42.K w x [.int .i64 x.f0, .int .i64 x.f1, .int .i64 x.f2, .int .i64 x.f3, .int .i64 x.f4] := ⟨[.int .i64 x.f0], [.int .i64 x.f1, .int .i64 x.f2, .int .i64 x.f3, .int .i64 x.f4], rfl, rfl, ⟨[.int .i64 x.f1], [.int .i64 x.f2, .int .i64 x.f3, .int .i64 x.f4], rfl, rfl, ⟨[.int .i64 x.f2], [.int .i64 x.f3, .int .i64 x.f4], rfl, rfl, ⟨[.int .i64 x.f3], [.int .i64 x.f4], rfl, rfl, rfl⟩⟩⟩⟩
theorem k42_mkM (w : World) (base : Nat) (ok : Nat → Prop) (x : S42)  : k42.M w base ok x [.int .i64 x.f0, .int .i64 x.f1, .int .i64 x.f2, .int .i64 x.f3, .int .i64 x.f4] := ⟨[.int .i64 x.f0], [.int .i64 x.f1, .int .i64 x.f2, .int .i64 x.f3, .int .i64 x.f4], rfl, rfl, ⟨[.int .i64 x.f1], [.int .i64 x.f2, .int .i64 x.f3, .int .i64 x.f4], rfl, rfl, ⟨[.int .i64 x.f2], [.int .i64 x.f3, .int .i64 x.f4], rfl, rfl, ⟨[.int .i64 x.f3], [.int .i64 x.f4], rfl, rfl, rfl⟩⟩⟩⟩
theorem k42_mkF (W : World) (ok : Nat → Prop) (x : S42) : Kd.FK k42 W ok x [.int .i64 x.f0, .int .i64 x.f1, .int .i64 x.f2, .int .i64 x.f3, .int .i64 x.f4] := fun W2 _ => k42_mk W2 x
def rd_T42 (xs : List S42) (i : Int) : S42 := xs.getD i.toNat z42
theorem at_T42 {w : World} {A : Option Addr} {n : Nat} {xs : List S42} (h : Kd.C k42 w A n xs) (i : Int) (h0 : 0 ≤ i) (h1 : i < n) : ∃ ad , A = some ad ∧ w.cell? (ad.add (i.toNat * 5)) = some (.int .i64 (rd_T42 xs i).f0) ∧ w.cell? ⟨(ad.add (i.toNat * 5)).block, (ad.add (i.toNat * 5)).off + 1, none⟩ = some (.int .i64 (rd_T42 xs i).f1) ∧ w.cell? ⟨(ad.add (i.toNat * 5)).block, (ad.add (i.toNat * 5)).off + 2, none⟩ = some (.int .i64 (rd_T42 xs i).f2) ∧ w.cell? ⟨(ad.add (i.toNat * 5)).block, (ad.add (i.toNat * 5)).off + 3, none⟩ = some (.int .i64 (rd_T42 xs i).f3) ∧ w.cell? ⟨(ad.add (i.toNat * 5)).block, (ad.add (i.toNat * 5)).off + 4, none⟩ = some (.int .i64 (rd_T42 xs i).f4) := by
  obtain ⟨ad, c, e, _, hK, hc0⟩ := Kd.C_get h z42 i h0 h1
  have hc : ∀ j u, c[j]? = some u → w.cell? (ad.add (i.toNat * 5 + j)) = some u := hc0
  obtain rfl := k42_open hK
  exact ⟨ad, e, hc 0 _ rfl, by rw [← add_field _ _ 1 (by omega)]; exact hc 1 _ rfl, by rw [← add_field _ _ 2 (by omega)]; exact hc 2 _ rfl, by rw [← add_field _ _ 3 (by omega)]; exact hc 3 _ rfl, by rw [← add_field _ _ 4 (by omega)]; exact hc 4 _ rfl⟩
structure S44 where
  f0 : Int
  f1 : S42
def z44 : S44 := ⟨(0 : Int), z42⟩
def k44 : Kd S44 := Kd.iso (Kd.pair (Kd.int .i64) k42) (fun x : S44 => (x.f0, x.f1))
theorem k44_open {w : World} {x : S44} {cs : List Value} (h : k44.K w x cs) : cs = [.int .i64 x.f0, .int .i64 x.f1.f0, .int .i64 x.f1.f1, .int .i64 x.f1.f2, .int .i64 x.f1.f3, .int .i64 x.f1.f4] := by
  obtain ⟨_, _, rfl, rfl, s1⟩ := h
  obtain rfl := k42_open s1
  exact rfl
theorem k44_openM {w : World} {base : Nat} {ok : Nat → Prop} {x : S44} {cs : List Value} (h : k44.M w base ok x cs) : cs = [.int .i64 x.f0, .int .i64 x.f1.f0, .int .i64 x.f1.f1, .int .i64 x.f1.f2, .int .i64 x.f1.f3, .int .i64 x.f1.f4] := by
  obtain ⟨_, _, rfl, rfl, s1⟩ := h
  obtain rfl := k42_openM s1
  exact rfl
theorem k44_mk (w : World) (x : S44)  : k44.K w x [.int .i64 x.f0, .int .i64 x.f1.f0, .int .i64 x.f1.f1, .int .i64 x.f1.f2, .int .i64 x.f1.f3, .int .i64 x.f1.f4] := ⟨[.int .i64 x.f0], [.int .i64 x.f1.f0, .int .i64 x.f1.f1, .int .i64 x.f1.f2, .int .i64 x.f1.f3, .int .i64 x.f1.f4], rfl, rfl, (k42_mk w x.f1 )⟩
theorem k44_mkM (w : World) (base : Nat) (ok : Nat → Prop) (x : S44)  : k44.M w base ok x [.int .i64 x.f0, .int .i64 x.f1.f0, .int .i64 x.f1.f1, .int .i64 x.f1.f2, .int .i64 x.f1.f3, .int .i64 x.f1.f4] := ⟨[.int .i64 x.f0], [.int .i64 x.f1.f0, .int .i64 x.f1.f1, .int .i64 x.f1.f2, .int .i64 x.f1.f3, .int .i64 x.f1.f4], rfl, rfl, (k42_mkM w base ok x.f1 )⟩
theorem k44_mkF (W : World) (ok : Nat → Prop) (x : S44) : Kd.FK k44 W ok x [.int .i64 x.f0, .int .i64 x.f1.f0, .int .i64 x.f1.f1, .int .i64 x.f1.f2, .int .i64 x.f1.f3, .int .i64 x.f1.f4] := fun W2 _ => k44_mk W2 x
def rd_T44 (xs : List S44) (i : Int) : S44 := xs.getD i.toNat z44
theorem at_T44 {w : World} {A : Option Addr} {n : Nat} {xs : List S44} (h : Kd.C k44 w A n xs) (i : Int) (h0 : 0 ≤ i) (h1 : i < n) : ∃ ad , A = some ad ∧ w.cell? (ad.add (i.toNat * 6)) = some (.int .i64 (rd_T44 xs i).f0) ∧ w.cell? ⟨(ad.add (i.toNat * 6)).block, (ad.add (i.toNat * 6)).off + 1, none⟩ = some (.int .i64 (rd_T44 xs i).f1.f0) ∧ w.cell? ⟨(ad.add (i.toNat * 6)).block, (ad.add (i.toNat * 6)).off + 2, none⟩ = some (.int .i64 (rd_T44 xs i).f1.f1) ∧ w.cell? ⟨(ad.add (i.toNat * 6)).block, (ad.add (i.toNat * 6)).off + 3, none⟩ = some (.int .i64 (rd_T44 xs i).f1.f2) ∧ w.cell? ⟨(ad.add (i.toNat * 6)).block, (ad.add (i.toNat * 6)).off + 4, none⟩ = some (.int .i64 (rd_T44 xs i).f1.f3) ∧ w.cell? ⟨(ad.add (i.toNat * 6)).block, (ad.add (i.toNat * 6)).off + 5, none⟩ = some (.int .i64 (rd_T44 xs i).f1.f4) := by
  obtain ⟨ad, c, e, _, hK, hc0⟩ := Kd.C_get h z44 i h0 h1
  have hc : ∀ j u, c[j]? = some u → w.cell? (ad.add (i.toNat * 6 + j)) = some u := hc0
  obtain rfl := k44_open hK
  exact ⟨ad, e, hc 0 _ rfl, by rw [← add_field _ _ 1 (by omega)]; exact hc 1 _ rfl, by rw [← add_field _ _ 2 (by omega)]; exact hc 2 _ rfl, by rw [← add_field _ _ 3 (by omega)]; exact hc 3 _ rfl, by rw [← add_field _ _ 4 (by omega)]; exact hc 4 _ rfl, by rw [← add_field _ _ 5 (by omega)]; exact hc 5 _ rfl⟩
structure S69 where
  f0 : Int
  f1 : Int
def z69 : S69 := ⟨(0 : Int), (0 : Int)⟩
def k69 : Kd S69 := Kd.iso (Kd.pair (Kd.int .i64) (Kd.int .i64)) (fun x : S69 => (x.f0, x.f1))
theorem k69_open {w : World} {x : S69} {cs : List Value} (h : k69.K w x cs) : cs = [.int .i64 x.f0, .int .i64 x.f1] := by
  obtain ⟨_, _, rfl, rfl, rfl⟩ := h
  exact rfl
theorem k69_openM {w : World} {base : Nat} {ok : Nat → Prop} {x : S69} {cs : List Value} (h : k69.M w base ok x cs) : cs = [.int .i64 x.f0, .int .i64 x.f1] := by
  obtain ⟨_, _, rfl, rfl, rfl⟩ := h
  exact rfl
theorem k69_mk (w : World) (x : S69)  : k69.K w x [.int .i64 x.f0, .int .i64 x.f1] := ⟨[.int .i64 x.f0], [.int .i64 x.f1], rfl, rfl, rfl⟩
theorem k69_mkM (w : World) (base : Nat) (ok : Nat → Prop) (x : S69)  : k69.M w base ok x [.int .i64 x.f0, .int .i64 x.f1] := ⟨[.int .i64 x.f0], [.int .i64 x.f1], rfl, rfl, rfl⟩
theorem k69_mkF (W : World) (ok : Nat → Prop) (x : S69) : Kd.FK k69 W ok x [.int .i64 x.f0, .int .i64 x.f1] := fun W2 _ => k69_mk W2 x
def rd_T69 (xs : List S69) (i : Int) : S69 := xs.getD i.toNat z69
theorem at_T69 {w : World} {A : Option Addr} {n : Nat} {xs : List S69} (h : Kd.C k69 w A n xs) (i : Int) (h0 : 0 ≤ i) (h1 : i < n) : ∃ ad , A = some ad ∧ w.cell? (ad.add (i.toNat * 2)) = some (.int .i64 (rd_T69 xs i).f0) ∧ w.cell? ⟨(ad.add (i.toNat * 2)).block, (ad.add (i.toNat * 2)).off + 1, none⟩ = some (.int .i64 (rd_T69 xs i).f1) := by
  obtain ⟨ad, c, e, _, hK, hc0⟩ := Kd.C_get h z69 i h0 h1
  have hc : ∀ j u, c[j]? = some u → w.cell? (ad.add (i.toNat * 2 + j)) = some u := hc0
  obtain rfl := k69_open hK
  exact ⟨ad, e, hc 0 _ rfl, by rw [← add_field _ _ 1 (by omega)]; exact hc 1 _ rfl⟩
structure S71 where
  f0 : ByteArray
  f1 : S69
  f2 : S69
def z71 : S71 := ⟨(⟨#[]⟩ : ByteArray), z69, z69⟩
def k71 : Kd S71 := Kd.iso (Kd.pair Kd.string (Kd.pair k69 k69)) (fun x : S71 => (x.f0, x.f1, x.f2))
theorem k71_open {w : World} {x : S71} {cs : List Value} (h : k71.K w x cs) : cs = [.string x.f0, .int .i64 x.f1.f0, .int .i64 x.f1.f1, .int .i64 x.f2.f0, .int .i64 x.f2.f1] := by
  obtain ⟨_, _, rfl, rfl, ⟨_, _, rfl, s1, s3⟩⟩ := h
  obtain rfl := k69_open s1
  obtain rfl := k69_open s3
  exact rfl
theorem k71_openM {w : World} {base : Nat} {ok : Nat → Prop} {x : S71} {cs : List Value} (h : k71.M w base ok x cs) : cs = [.string x.f0, .int .i64 x.f1.f0, .int .i64 x.f1.f1, .int .i64 x.f2.f0, .int .i64 x.f2.f1] := by
  obtain ⟨_, _, rfl, rfl, ⟨_, _, rfl, s1, s3⟩⟩ := h
  obtain rfl := k69_openM s1
  obtain rfl := k69_openM s3
  exact rfl
theorem k71_mk (w : World) (x : S71)  : k71.K w x [.string x.f0, .int .i64 x.f1.f0, .int .i64 x.f1.f1, .int .i64 x.f2.f0, .int .i64 x.f2.f1] := ⟨[.string x.f0], [.int .i64 x.f1.f0, .int .i64 x.f1.f1, .int .i64 x.f2.f0, .int .i64 x.f2.f1], rfl, rfl, ⟨[.int .i64 x.f1.f0, .int .i64 x.f1.f1], [.int .i64 x.f2.f0, .int .i64 x.f2.f1], rfl, (k69_mk w x.f1 ), (k69_mk w x.f2 )⟩⟩
theorem k71_mkM (w : World) (base : Nat) (ok : Nat → Prop) (x : S71)  : k71.M w base ok x [.string x.f0, .int .i64 x.f1.f0, .int .i64 x.f1.f1, .int .i64 x.f2.f0, .int .i64 x.f2.f1] := ⟨[.string x.f0], [.int .i64 x.f1.f0, .int .i64 x.f1.f1, .int .i64 x.f2.f0, .int .i64 x.f2.f1], rfl, rfl, ⟨[.int .i64 x.f1.f0, .int .i64 x.f1.f1], [.int .i64 x.f2.f0, .int .i64 x.f2.f1], rfl, (k69_mkM w base ok x.f1 ), (k69_mkM w base ok x.f2 )⟩⟩
theorem k71_mkF (W : World) (ok : Nat → Prop) (x : S71) : Kd.FK k71 W ok x [.string x.f0, .int .i64 x.f1.f0, .int .i64 x.f1.f1, .int .i64 x.f2.f0, .int .i64 x.f2.f1] := fun W2 _ => k71_mk W2 x
def rd_T71 (xs : List S71) (i : Int) : S71 := xs.getD i.toNat z71
theorem at_T71 {w : World} {A : Option Addr} {n : Nat} {xs : List S71} (h : Kd.C k71 w A n xs) (i : Int) (h0 : 0 ≤ i) (h1 : i < n) : ∃ ad , A = some ad ∧ w.cell? (ad.add (i.toNat * 5)) = some (.string (rd_T71 xs i).f0) ∧ w.cell? ⟨(ad.add (i.toNat * 5)).block, (ad.add (i.toNat * 5)).off + 1, none⟩ = some (.int .i64 (rd_T71 xs i).f1.f0) ∧ w.cell? ⟨(ad.add (i.toNat * 5)).block, (ad.add (i.toNat * 5)).off + 2, none⟩ = some (.int .i64 (rd_T71 xs i).f1.f1) ∧ w.cell? ⟨(ad.add (i.toNat * 5)).block, (ad.add (i.toNat * 5)).off + 3, none⟩ = some (.int .i64 (rd_T71 xs i).f2.f0) ∧ w.cell? ⟨(ad.add (i.toNat * 5)).block, (ad.add (i.toNat * 5)).off + 4, none⟩ = some (.int .i64 (rd_T71 xs i).f2.f1) := by
  obtain ⟨ad, c, e, _, hK, hc0⟩ := Kd.C_get h z71 i h0 h1
  have hc : ∀ j u, c[j]? = some u → w.cell? (ad.add (i.toNat * 5 + j)) = some u := hc0
  obtain rfl := k71_open hK
  exact ⟨ad, e, hc 0 _ rfl, by rw [← add_field _ _ 1 (by omega)]; exact hc 1 _ rfl, by rw [← add_field _ _ 2 (by omega)]; exact hc 2 _ rfl, by rw [← add_field _ _ 3 (by omega)]; exact hc 3 _ rfl, by rw [← add_field _ _ 4 (by omega)]; exact hc 4 _ rfl⟩
structure S85 where
  f0 : Int
  f1 : Int
  f2 : Int
def z85 : S85 := ⟨(0 : Int), (0 : Int), (0 : Int)⟩
def k85 : Kd S85 := Kd.iso (Kd.pair (Kd.int .i64) (Kd.pair (Kd.int .i64) (Kd.int .i64))) (fun x : S85 => (x.f0, x.f1, x.f2))
theorem k85_open {w : World} {x : S85} {cs : List Value} (h : k85.K w x cs) : cs = [.int .i64 x.f0, .int .i64 x.f1, .int .i64 x.f2] := by
  obtain ⟨_, _, rfl, rfl, ⟨_, _, rfl, rfl, rfl⟩⟩ := h
  exact rfl
theorem k85_openM {w : World} {base : Nat} {ok : Nat → Prop} {x : S85} {cs : List Value} (h : k85.M w base ok x cs) : cs = [.int .i64 x.f0, .int .i64 x.f1, .int .i64 x.f2] := by
  obtain ⟨_, _, rfl, rfl, ⟨_, _, rfl, rfl, rfl⟩⟩ := h
  exact rfl
theorem k85_mk (w : World) (x : S85)  : k85.K w x [.int .i64 x.f0, .int .i64 x.f1, .int .i64 x.f2] := ⟨[.int .i64 x.f0], [.int .i64 x.f1, .int .i64 x.f2], rfl, rfl, ⟨[.int .i64 x.f1], [.int .i64 x.f2], rfl, rfl, rfl⟩⟩
theorem k85_mkM (w : World) (base : Nat) (ok : Nat → Prop) (x : S85)  : k85.M w base ok x [.int .i64 x.f0, .int .i64 x.f1, .int .i64 x.f2] := ⟨[.int .i64 x.f0], [.int .i64 x.f1, .int .i64 x.f2], rfl, rfl, ⟨[.int .i64 x.f1], [.int .i64 x.f2], rfl, rfl, rfl⟩⟩
theorem k85_mkF (W : World) (ok : Nat → Prop) (x : S85) : Kd.FK k85 W ok x [.int .i64 x.f0, .int .i64 x.f1, .int .i64 x.f2] := fun W2 _ => k85_mk W2 x
def rd_T85 (xs : List S85) (i : Int) : S85 := xs.getD i.toNat z85
theorem at_T85 {w : World} {A : Option Addr} {n : Nat} {xs : List S85} (h : Kd.C k85 w A n xs) (i : Int) (h0 : 0 ≤ i) (h1 : i < n) : ∃ ad , A = some ad ∧ w.cell? (ad.add (i.toNat * 3)) = some (.int .i64 (rd_T85 xs i).f0) ∧ w.cell? ⟨(ad.add (i.toNat * 3)).block, (ad.add (i.toNat * 3)).off + 1, none⟩ = some (.int .i64 (rd_T85 xs i).f1) ∧ w.cell? ⟨(ad.add (i.toNat * 3)).block, (ad.add (i.toNat * 3)).off + 2, none⟩ = some (.int .i64 (rd_T85 xs i).f2) := by
  obtain ⟨ad, c, e, _, hK, hc0⟩ := Kd.C_get h z85 i h0 h1
  have hc : ∀ j u, c[j]? = some u → w.cell? (ad.add (i.toNat * 3 + j)) = some u := hc0
  obtain rfl := k85_open hK
  exact ⟨ad, e, hc 0 _ rfl, by rw [← add_field _ _ 1 (by omega)]; exact hc 1 _ rfl, by rw [← add_field _ _ 2 (by omega)]; exact hc 2 _ rfl⟩
structure S104 where
  f0 : Int
  f1 : (List Int)
def z104 : S104 := ⟨(0 : Int), ([] : List Int)⟩
def k104 : Kd S104 := Kd.iso (Kd.pair (Kd.int .i64) (Kd.slice 3 (Kd.int .i64))) (fun x : S104 => (x.f0, x.f1))
theorem k104_open {w : World} {x : S104} {cs : List Value} (h : k104.K w x cs) : ∃ A1 c1, cs = [.int .i64 x.f0, .slice A1 x.f1.length c1] ∧ x.f1.length ≤ c1 ∧ (Kd.int .i64).C w A1 x.f1.length x.f1 := by
  obtain ⟨_, _, rfl, rfl, ⟨A1, c1, rfl, l1, g1⟩⟩ := h
  exact ⟨A1, c1, rfl, l1, g1⟩
theorem k104_openM {w : World} {base : Nat} {ok : Nat → Prop} {x : S104} {cs : List Value} (h : k104.M w base ok x cs) : ∃ v1, cs = [.int .i64 x.f0, v1] ∧ (Kd.int .i64).R 3 w base ok v1 x.f1 := by
  obtain ⟨_, _, rfl, rfl, ⟨v1, rfl, g1⟩⟩ := h
  exact ⟨v1, rfl, g1⟩
theorem k104_mk (w : World) (x : S104) {A1 : Option Addr} {c1 : Nat} (l1 : x.f1.length ≤ c1) (g1 : (Kd.int .i64).C w A1 x.f1.length x.f1) : k104.K w x [.int .i64 x.f0, .slice A1 x.f1.length c1] := ⟨[.int .i64 x.f0], [.slice A1 x.f1.length c1], rfl, rfl, ⟨A1, c1, rfl, l1, g1⟩⟩
theorem k104_mkM (w : World) (base : Nat) (ok : Nat → Prop) (x : S104) {v1 : Value} (g1 : (Kd.int .i64).R 3 w base ok v1 x.f1) : k104.M w base ok x [.int .i64 x.f0, v1] := ⟨[.int .i64 x.f0], [v1], rfl, rfl, ⟨v1, rfl, g1⟩⟩
theorem k104_openF {W : World} {ok : Nat → Prop} {x : S104} {cs : List Value} (h : Kd.FK k104 W ok x cs) : ∃ A1 c1, cs = [.int .i64 x.f0, .slice A1 x.f1.length c1] ∧ x.f1.length ≤ c1 ∧ Kd.F (Kd.int .i64) W ok A1 x.f1.length x.f1 := by
  obtain ⟨A1, c1, rfl, l1, _⟩ := k104_open (Kd.FK_now h)
  exact ⟨A1, c1, rfl, l1, (fun W' hW => by obtain ⟨A1_, c1_, he, l1_, g1_⟩ := k104_open (h W' hW); injection (Option.some.inj (show some (Value.slice A1 x.f1.length c1) = some (Value.slice A1_ x.f1.length c1_) from congrArg (fun l => l[1]?) he)) with ha_ _ _; rw [ha_]; exact g1_)⟩
theorem k104_mkF (W : World) (ok : Nat → Prop) (x : S104) {A1 : Option Addr} {c1 : Nat} (l1 : x.f1.length ≤ c1) (g1 : Kd.F (Kd.int .i64) W ok A1 x.f1.length x.f1) : Kd.FK k104 W ok x [.int .i64 x.f0, .slice A1 x.f1.length c1] := fun W2 hW => k104_mk W2 x l1 (g1 W2 hW)
def rd_T104 (xs : List S104) (i : Int) : S104 := xs.getD i.toNat z104
theorem at_T104 {w : World} {A : Option Addr} {n : Nat} {xs : List S104} (h : Kd.C k104 w A n xs) (i : Int) (h0 : 0 ≤ i) (h1 : i < n) : ∃ ad A1 c1, A = some ad ∧ w.cell? (ad.add (i.toNat * 2)) = some (.int .i64 (rd_T104 xs i).f0) ∧ w.cell? ⟨(ad.add (i.toNat * 2)).block, (ad.add (i.toNat * 2)).off + 1, none⟩ = some (.slice A1 (rd_T104 xs i).f1.length c1) ∧ (rd_T104 xs i).f1.length ≤ c1 ∧ (Kd.int .i64).C w A1 (rd_T104 xs i).f1.length (rd_T104 xs i).f1 := by
  obtain ⟨ad, c, e, _, hK, hc0⟩ := Kd.C_get h z104 i h0 h1
  have hc : ∀ j u, c[j]? = some u → w.cell? (ad.add (i.toNat * 2 + j)) = some u := hc0
  obtain ⟨A1, c1, rfl, l1, g1⟩ := k104_open hK
  exact ⟨ad, A1, c1, e, hc 0 _ rfl, by rw [← add_field _ _ 1 (by omega)]; exact hc 1 _ rfl, l1, g1⟩
structure S176 where
  f0 : Int
  f1 : Int
def z176 : S176 := ⟨(0 : Int), (0 : Int)⟩
def k176 : Kd S176 := Kd.iso (Kd.pair (Kd.int .i64) (Kd.int .i64)) (fun x : S176 => (x.f0, x.f1))
theorem k176_open {w : World} {x : S176} {cs : List Value} (h : k176.K w x cs) : cs = [.int .i64 x.f0, .int .i64 x.f1] := by
  obtain ⟨_, _, rfl, rfl, rfl⟩ := h
  exact rfl
theorem k176_openM {w : World} {base : Nat} {ok : Nat → Prop} {x : S176} {cs : List Value} (h : k176.M w base ok x cs) : cs = [.int .i64 x.f0, .int .i64 x.f1] := by
  obtain ⟨_, _, rfl, rfl, rfl⟩ := h
  exact rfl
theorem k176_mk (w : World) (x : S176)  : k176.K w x [.int .i64 x.f0, .int .i64 x.f1] := ⟨[.int .i64 x.f0], [.int .i64 x.f1], rfl, rfl, rfl⟩
theorem k176_mkM (w : World) (base : Nat) (ok : Nat → Prop) (x : S176)  : k176.M w base ok x [.int .i64 x.f0, .int .i64 x.f1] := ⟨[.int .i64 x.f0], [.int .i64 x.f1], rfl, rfl, rfl⟩
theorem k176_mkF (W : World) (ok : Nat → Prop) (x : S176) : Kd.FK k176 W ok x [.int .i64 x.f0, .int .i64 x.f1] := fun W2 _ => k176_mk W2 x
def rd_T176 (xs : List S176) (i : Int) : S176 := xs.getD i.toNat z176
theorem at_T176 {w : World} {A : Option Addr} {n : Nat} {xs : List S176} (h : Kd.C k176 w A n xs) (i : Int) (h0 : 0 ≤ i) (h1 : i < n) : ∃ ad , A = some ad ∧ w.cell? (ad.add (i.toNat * 2)) = some (.int .i64 (rd_T176 xs i).f0) ∧ w.cell? ⟨(ad.add (i.toNat * 2)).block, (ad.add (i.toNat * 2)).off + 1, none⟩ = some (.int .i64 (rd_T176 xs i).f1) := by
  obtain ⟨ad, c, e, _, hK, hc0⟩ := Kd.C_get h z176 i h0 h1
  have hc : ∀ j u, c[j]? = some u → w.cell? (ad.add (i.toNat * 2 + j)) = some u := hc0
  obtain rfl := k176_open hK
  exact ⟨ad, e, hc 0 _ rfl, by rw [← add_field _ _ 1 (by omega)]; exact hc 1 _ rfl⟩
def rd_L20 (xs : List (List S176)) (i : Int) : (List S176) := xs.getD i.toNat ([] : List S176)
theorem at_L20 {w : World} {A : Option Addr} {n : Nat} {xs : List (List S176)} (h : Kd.C (Kd.slice 176 k176) w A n xs) (i : Int) (h0 : 0 ≤ i) (h1 : i < n) : ∃ ad A0 c0, A = some ad ∧ w.cell? (ad.add i.toNat) = some (.slice A0 (rd_L20 xs i).length c0) ∧ (rd_L20 xs i).length ≤ c0 ∧ k176.C w A0 (rd_L20 xs i).length (rd_L20 xs i) := by
  obtain ⟨ad, c, e, _, hK, hc0⟩ := Kd.C_get h ([] : List S176) i h0 h1
  have hc : ∀ j u, c[j]? = some u → w.cell? (ad.add (i.toNat * 1 + j)) = some u := hc0
  obtain ⟨A0, c0, rfl, l0, g0⟩ := hK
  exact ⟨ad, A0, c0, e, by have hq := hc 0 _ rfl; rwa [Nat.mul_one, Nat.add_zero] at hq, l0, g0⟩
structure S116 where
  f0 : (List S176)
  f1 : (List Int)
def z116 : S116 := ⟨([] : List S176), ([] : List Int)⟩
def k116 : Kd S116 := Kd.iso (Kd.pair (Kd.slice 176 k176) (Kd.slice 3 (Kd.int .i64))) (fun x : S116 => (x.f0, x.f1))
theorem k116_open {w : World} {x : S116} {cs : List Value} (h : k116.K w x cs) : ∃ A0 c0 A1 c1, cs = [.slice A0 x.f0.length c0, .slice A1 x.f1.length c1] ∧ x.f0.length ≤ c0 ∧ k176.C w A0 x.f0.length x.f0 ∧ x.f1.length ≤ c1 ∧ (Kd.int .i64).C w A1 x.f1.length x.f1 := by
  obtain ⟨_, _, rfl, ⟨A0, c0, rfl, l0, g0⟩, ⟨A1, c1, rfl, l1, g1⟩⟩ := h
  exact ⟨A0, c0, A1, c1, rfl, l0, g0, l1, g1⟩
theorem k116_openM {w : World} {base : Nat} {ok : Nat → Prop} {x : S116} {cs : List Value} (h : k116.M w base ok x cs) : ∃ v0 v1, cs = [v0, v1] ∧ k176.R 176 w base ok v0 x.f0 ∧ (Kd.int .i64).R 3 w base ok v1 x.f1 := by
  obtain ⟨_, _, rfl, ⟨v0, rfl, g0⟩, ⟨v1, rfl, g1⟩⟩ := h
  exact ⟨v0, v1, rfl, g0, g1⟩
theorem k116_mk (w : World) (x : S116) {A0 : Option Addr} {c0 : Nat} (l0 : x.f0.length ≤ c0) (g0 : k176.C w A0 x.f0.length x.f0) {A1 : Option Addr} {c1 : Nat} (l1 : x.f1.length ≤ c1) (g1 : (Kd.int .i64).C w A1 x.f1.length x.f1) : k116.K w x [.slice A0 x.f0.length c0, .slice A1 x.f1.length c1] := ⟨[.slice A0 x.f0.length c0], [.slice A1 x.f1.length c1], rfl, ⟨A0, c0, rfl, l0, g0⟩, ⟨A1, c1, rfl, l1, g1⟩⟩
theorem k116_mkM (w : World) (base : Nat) (ok : Nat → Prop) (x : S116) {v0 : Value} (g0 : k176.R 176 w base ok v0 x.f0) {v1 : Value} (g1 : (Kd.int .i64).R 3 w base ok v1 x.f1) : k116.M w base ok x [v0, v1] := ⟨[v0], [v1], rfl, ⟨v0, rfl, g0⟩, ⟨v1, rfl, g1⟩⟩
theorem k116_openF {W : World} {ok : Nat → Prop} {x : S116} {cs : List Value} (h : Kd.FK k116 W ok x cs) : ∃ A0 c0 A1 c1, cs = [.slice A0 x.f0.length c0, .slice A1 x.f1.length c1] ∧ x.f0.length ≤ c0 ∧ Kd.F k176 W ok A0 x.f0.length x.f0 ∧ x.f1.length ≤ c1 ∧ Kd.F (Kd.int .i64) W ok A1 x.f1.length x.f1 := by
  obtain ⟨A0, c0, A1, c1, rfl, l0, _, l1, _⟩ := k116_open (Kd.FK_now h)
  exact ⟨A0, c0, A1, c1, rfl, l0, (fun W' hW => by obtain ⟨A0_, c0_, A1_, c1_, he, l0_, g0_, l1_, g1_⟩ := k116_open (h W' hW); injection (Option.some.inj (show some (Value.slice A0 x.f0.length c0) = some (Value.slice A0_ x.f0.length c0_) from congrArg (fun l => l[0]?) he)) with ha_ _ _; rw [ha_]; exact g0_), l1, (fun W' hW => by obtain ⟨A0_, c0_, A1_, c1_, he, l0_, g0_, l1_, g1_⟩ := k116_open (h W' hW); injection (Option.some.inj (show some (Value.slice A1 x.f1.length c1) = some (Value.slice A1_ x.f1.length c1_) from congrArg (fun l => l[1]?) he)) with ha_ _ _; rw [ha_]; exact g1_)⟩
theorem k116_mkF (W : World) (ok : Nat → Prop) (x : S116) {A0 : Option Addr} {c0 : Nat} (l0 : x.f0.length ≤ c0) (g0 : Kd.F k176 W ok A0 x.f0.length x.f0) {A1 : Option Addr} {c1 : Nat} (l1 : x.f1.length ≤ c1) (g1 : Kd.F (Kd.int .i64) W ok A1 x.f1.length x.f1) : Kd.FK k116 W ok x [.slice A0 x.f0.length c0, .slice A1 x.f1.length c1] := fun W2 hW => k116_mk W2 x l0 (g0 W2 hW) l1 (g1 W2 hW)
def rd_T116 (xs : List S116) (i : Int) : S116 := xs.getD i.toNat z116
theorem at_T116 {w : World} {A : Option Addr} {n : Nat} {xs : List S116} (h : Kd.C k116 w A n xs) (i : Int) (h0 : 0 ≤ i) (h1 : i < n) : ∃ ad A0 c0 A1 c1, A = some ad ∧ w.cell? (ad.add (i.toNat * 2)) = some (.slice A0 (rd_T116 xs i).f0.length c0) ∧ w.cell? ⟨(ad.add (i.toNat * 2)).block, (ad.add (i.toNat * 2)).off + 1, none⟩ = some (.slice A1 (rd_T116 xs i).f1.length c1) ∧ (rd_T116 xs i).f0.length ≤ c0 ∧ k176.C w A0 (rd_T116 xs i).f0.length (rd_T116 xs i).f0 ∧ (rd_T116 xs i).f1.length ≤ c1 ∧ (Kd.int .i64).C w A1 (rd_T116 xs i).f1.length (rd_T116 xs i).f1 := by
  obtain ⟨ad, c, e, _, hK, hc0⟩ := Kd.C_get h z116 i h0 h1
  have hc : ∀ j u, c[j]? = some u → w.cell? (ad.add (i.toNat * 2 + j)) = some u := hc0
  obtain ⟨A0, c0, A1, c1, rfl, l0, g0, l1, g1⟩ := k116_open hK
  exact ⟨ad, A0, c0, A1, c1, e, hc 0 _ rfl, by rw [← add_field _ _ 1 (by omega)]; exact hc 1 _ rfl, l0, g0, l1, g1⟩
structure S120 where
  f0 : (List Int)
  f1 : (List Int)
def z120 : S120 := ⟨([] : List Int), ([] : List Int)⟩
def k120 : Kd S120 := Kd.iso (Kd.pair (Kd.slice 3 (Kd.int .i64)) (Kd.slice 3 (Kd.int .i64))) (fun x : S120 => (x.f0, x.f1))
theorem k120_open {w : World} {x : S120} {cs : List Value} (h : k120.K w x cs) : ∃ A0 c0 A1 c1, cs = [.slice A0 x.f0.length c0, .slice A1 x.f1.length c1] ∧ x.f0.length ≤ c0 ∧ (Kd.int .i64).C w A0 x.f0.length x.f0 ∧ x.f1.length ≤ c1 ∧ (Kd.int .i64).C w A1 x.f1.length x.f1 := by
  obtain ⟨_, _, rfl, ⟨A0, c0, rfl, l0, g0⟩, ⟨A1, c1, rfl, l1, g1⟩⟩ := h
  exact ⟨A0, c0, A1, c1, rfl, l0, g0, l1, g1⟩
theorem k120_openM {w : World} {base : Nat} {ok : Nat → Prop} {x : S120} {cs : List Value} (h : k120.M w base ok x cs) : ∃ v0 v1, cs = [v0, v1] ∧ (Kd.int .i64).R 3 w base ok v0 x.f0 ∧ (Kd.int .i64).R 3 w base ok v1 x.f1 := by
  obtain ⟨_, _, rfl, ⟨v0, rfl, g0⟩, ⟨v1, rfl, g1⟩⟩ := h
  exact ⟨v0, v1, rfl, g0, g1⟩
theorem k120_mk (w : World) (x : S120) {A0 : Option Addr} {c0 : Nat} (l0 : x.f0.length ≤ c0) (g0 : (Kd.int .i64).C w A0 x.f0.length x.f0) {A1 : Option Addr} {c1 : Nat} (l1 : x.f1.length ≤ c1) (g1 : (Kd.int .i64).C w A1 x.f1.length x.f1) : k120.K w x [.slice A0 x.f0.length c0, .slice A1 x.f1.length c1] := ⟨[.slice A0 x.f0.length c0], [.slice A1 x.f1.length c1], rfl, ⟨A0, c0, rfl, l0, g0⟩, ⟨A1, c1, rfl, l1, g1⟩⟩
theorem k120_mkM (w : World) (base : Nat) (ok : Nat → Prop) (x : S120) {v0 : Value} (g0 : (Kd.int .i64).R 3 w base ok v0 x.f0) {v1 : Value} (g1 : (Kd.int .i64).R 3 w base ok v1 x.f1) : k120.M w base ok x [v0, v1] := ⟨[v0], [v1], rfl, ⟨v0, rfl, g0⟩, ⟨v1, rfl, g1⟩⟩
theorem k120_openF {W : World} {ok : Nat → Prop} {x : S120} {cs : List Value} (h : Kd.FK k120 W ok x cs) : ∃ A0 c0 A1 c1, cs = [.slice A0 x.f0.length c0, .slice A1 x.f1.length c1] ∧ x.f0.length ≤ c0 ∧ Kd.F (Kd.int .i64) W ok A0 x.f0.length x.f0 ∧ x.f1.length ≤ c1 ∧ Kd.F (Kd.int .i64) W ok A1 x.f1.length x.f1 := by
  obtain ⟨A0, c0, A1, c1, rfl, l0, _, l1, _⟩ := k120_open (Kd.FK_now h)
  exact ⟨A0, c0, A1, c1, rfl, l0, (fun W' hW => by obtain ⟨A0_, c0_, A1_, c1_, he, l0_, g0_, l1_, g1_⟩ := k120_open (h W' hW); injection (Option.some.inj (show some (Value.slice A0 x.f0.length c0) = some (Value.slice A0_ x.f0.length c0_) from congrArg (fun l => l[0]?) he)) with ha_ _ _; rw [ha_]; exact g0_), l1, (fun W' hW => by obtain ⟨A0_, c0_, A1_, c1_, he, l0_, g0_, l1_, g1_⟩ := k120_open (h W' hW); injection (Option.some.inj (show some (Value.slice A1 x.f1.length c1) = some (Value.slice A1_ x.f1.length c1_) from congrArg (fun l => l[1]?) he)) with ha_ _ _; rw [ha_]; exact g1_)⟩
theorem k120_mkF (W : World) (ok : Nat → Prop) (x : S120) {A0 : Option Addr} {c0 : Nat} (l0 : x.f0.length ≤ c0) (g0 : Kd.F (Kd.int .i64) W ok A0 x.f0.length x.f0) {A1 : Option Addr} {c1 : Nat} (l1 : x.f1.length ≤ c1) (g1 : Kd.F (Kd.int .i64) W ok A1 x.f1.length x.f1) : Kd.FK k120 W ok x [.slice A0 x.f0.length c0, .slice A1 x.f1.length c1] := fun W2 hW => k120_mk W2 x l0 (g0 W2 hW) l1 (g1 W2 hW)
def rd_T120 (xs : List S120) (i : Int) : S120 := xs.getD i.toNat z120
theorem at_T120 {w : World} {A : Option Addr} {n : Nat} {xs : List S120} (h : Kd.C k120 w A n xs) (i : Int) (h0 : 0 ≤ i) (h1 : i < n) : ∃ ad A0 c0 A1 c1, A = some ad ∧ w.cell? (ad.add (i.toNat * 2)) = some (.slice A0 (rd_T120 xs i).f0.length c0) ∧ w.cell? ⟨(ad.add (i.toNat * 2)).block, (ad.add (i.toNat * 2)).off + 1, none⟩ = some (.slice A1 (rd_T120 xs i).f1.length c1) ∧ (rd_T120 xs i).f0.length ≤ c0 ∧ (Kd.int .i64).C w A0 (rd_T120 xs i).f0.length (rd_T120 xs i).f0 ∧ (rd_T120 xs i).f1.length ≤ c1 ∧ (Kd.int .i64).C w A1 (rd_T120 xs i).f1.length (rd_T120 xs i).f1 := by
  obtain ⟨ad, c, e, _, hK, hc0⟩ := Kd.C_get h z120 i h0 h1
  have hc : ∀ j u, c[j]? = some u → w.cell? (ad.add (i.toNat * 2 + j)) = some u := hc0
  obtain ⟨A0, c0, A1, c1, rfl, l0, g0, l1, g1⟩ := k120_open hK
  exact ⟨ad, A0, c0, A1, c1, e, hc 0 _ rfl, by rw [← add_field _ _ 1 (by omega)]; exact hc 1 _ rfl, l0, g0, l1, g1⟩
structure S123 where
  f0 : S25
def z123 : S123 := ⟨z25⟩
def k123 : Kd S123 := Kd.iso k25 (fun x : S123 => x.f0)
theorem k123_open {w : World} {x : S123} {cs : List Value} (h : k123.K w x cs) : ∃ A0 c0 A1 c1 A3 c3, cs = [.slice A0 x.f0.f0.length c0, .slice A1 x.f0.f1.length c1, .int .i64 x.f0.f2, .slice A3 x.f0.f3.length c3] ∧ x.f0.f0.length ≤ c0 ∧ (Kd.int .i64).C w A0 x.f0.f0.length x.f0.f0 ∧ x.f0.f1.length ≤ c1 ∧ (Kd.int .i64).C w A1 x.f0.f1.length x.f0.f1 ∧ x.f0.f3.length ≤ c3 ∧ k62.C w A3 x.f0.f3.length x.f0.f3 := by
  have s0 := h
  obtain ⟨A0, c0, A1, c1, A3, c3, rfl, l0, g0, l1, g1, l3, g3⟩ := k25_open s0
  exact ⟨A0, c0, A1, c1, A3, c3, rfl, l0, g0, l1, g1, l3, g3⟩
theorem k123_openM {w : World} {base : Nat} {ok : Nat → Prop} {x : S123} {cs : List Value} (h : k123.M w base ok x cs) : ∃ v0 v1 v3, cs = [v0, v1, .int .i64 x.f0.f2, v3] ∧ (Kd.int .i64).R 3 w base ok v0 x.f0.f0 ∧ (Kd.int .i64).R 3 w base ok v1 x.f0.f1 ∧ k62.R 62 w base ok v3 x.f0.f3 := by
  have s0 := h
  obtain ⟨v0, v1, v3, rfl, g0, g1, g3⟩ := k25_openM s0
  exact ⟨v0, v1, v3, rfl, g0, g1, g3⟩
theorem k123_mk (w : World) (x : S123) {A0 : Option Addr} {c0 : Nat} (l0 : x.f0.f0.length ≤ c0) (g0 : (Kd.int .i64).C w A0 x.f0.f0.length x.f0.f0) {A1 : Option Addr} {c1 : Nat} (l1 : x.f0.f1.length ≤ c1) (g1 : (Kd.int .i64).C w A1 x.f0.f1.length x.f0.f1) {A3 : Option Addr} {c3 : Nat} (l3 : x.f0.f3.length ≤ c3) (g3 : k62.C w A3 x.f0.f3.length x.f0.f3) : k123.K w x [.slice A0 x.f0.f0.length c0, .slice A1 x.f0.f1.length c1, .int .i64 x.f0.f2, .slice A3 x.f0.f3.length c3] := (k25_mk w x.f0 l0 g0 l1 g1 l3 g3)
theorem k123_mkM (w : World) (base : Nat) (ok : Nat → Prop) (x : S123) {v0 : Value} (g0 : (Kd.int .i64).R 3 w base ok v0 x.f0.f0) {v1 : Value} (g1 : (Kd.int .i64).R 3 w base ok v1 x.f0.f1) {v3 : Value} (g3 : k62.R 62 w base ok v3 x.f0.f3) : k123.M w base ok x [v0, v1, .int .i64 x.f0.f2, v3] := (k25_mkM w base ok x.f0 g0 g1 g3)
theorem k123_openF {W : World} {ok : Nat → Prop} {x : S123} {cs : List Value} (h : Kd.FK k123 W ok x cs) : ∃ A0 c0 A1 c1 A3 c3, cs = [.slice A0 x.f0.f0.length c0, .slice A1 x.f0.f1.length c1, .int .i64 x.f0.f2, .slice A3 x.f0.f3.length c3] ∧ x.f0.f0.length ≤ c0 ∧ Kd.F (Kd.int .i64) W ok A0 x.f0.f0.length x.f0.f0 ∧ x.f0.f1.length ≤ c1 ∧ Kd.F (Kd.int .i64) W ok A1 x.f0.f1.length x.f0.f1 ∧ x.f0.f3.length ≤ c3 ∧ Kd.F k62 W ok A3 x.f0.f3.length x.f0.f3 := by
  obtain ⟨A0, c0, A1, c1, A3, c3, rfl, l0, _, l1, _, l3, _⟩ := k123_open (Kd.FK_now h)
  exact ⟨A0, c0, A1, c1, A3, c3, rfl, l0, (fun W' hW => by obtain ⟨A0_, c0_, A1_, c1_, A3_, c3_, he, l0_, g0_, l1_, g1_, l3_, g3_⟩ := k123_open (h W' hW); injection (Option.some.inj (show some (Value.slice A0 x.f0.f0.length c0) = some (Value.slice A0_ x.f0.f0.length c0_) from congrArg (fun l => l[0]?) he)) with ha_ _ _; rw [ha_]; exact g0_), l1, (fun W' hW => by obtain ⟨A0_, c0_, A1_, c1_, A3_, c3_, he, l0_, g0_, l1_, g1_, l3_, g3_⟩ := k123_open (h W' hW); injection (Option.some.inj (show some (Value.slice A1 x.f0.f1.length c1) = some (Value.slice A1_ x.f0.f1.length c1_) from congrArg (fun l => l[1]?) he)) with ha_ _ _; rw [ha_]; exact g1_), l3, (fun W' hW => by obtain ⟨A0_, c0_, A1_, c1_, A3_, c3_, he, l0_, g0_, l1_, g1_, l3_, g3_⟩ := k123_open (h W' hW); injection (Option.some.inj (show some (Value.slice A3 x.f0.f3.length c3) = some (Value.slice A3_ x.f0.f3.length c3_) from congrArg (fun l => l[3]?) he)) with ha_ _ _; rw [ha_]; exact g3_)⟩
theorem k123_mkF (W : World) (ok : Nat → Prop) (x : S123) {A0 : Option Addr} {c0 : Nat} (l0 : x.f0.f0.length ≤ c0) (g0 : Kd.F (Kd.int .i64) W ok A0 x.f0.f0.length x.f0.f0) {A1 : Option Addr} {c1 : Nat} (l1 : x.f0.f1.length ≤ c1) (g1 : Kd.F (Kd.int .i64) W ok A1 x.f0.f1.length x.f0.f1) {A3 : Option Addr} {c3 : Nat} (l3 : x.f0.f3.length ≤ c3) (g3 : Kd.F k62 W ok A3 x.f0.f3.length x.f0.f3) : Kd.FK k123 W ok x [.slice A0 x.f0.f0.length c0, .slice A1 x.f0.f1.length c1, .int .i64 x.f0.f2, .slice A3 x.f0.f3.length c3] := fun W2 hW => k123_mk W2 x l0 (g0 W2 hW) l1 (g1 W2 hW) l3 (g3 W2 hW)
def rd_T123 (xs : List S123) (i : Int) : S123 := xs.getD i.toNat z123
theorem at_T123 {w : World} {A : Option Addr} {n : Nat} {xs : List S123} (h : Kd.C k123 w A n xs) (i : Int) (h0 : 0 ≤ i) (h1 : i < n) : ∃ ad A0 c0 A1 c1 A3 c3, A = some ad ∧ w.cell? (ad.add (i.toNat * 4)) = some (.slice A0 (rd_T123 xs i).f0.f0.length c0) ∧ w.cell? ⟨(ad.add (i.toNat * 4)).block, (ad.add (i.toNat * 4)).off + 1, none⟩ = some (.slice A1 (rd_T123 xs i).f0.f1.length c1) ∧ w.cell? ⟨(ad.add (i.toNat * 4)).block, (ad.add (i.toNat * 4)).off + 2, none⟩ = some (.int .i64 (rd_T123 xs i).f0.f2) ∧ w.cell? ⟨(ad.add (i.toNat * 4)).block, (ad.add (i.toNat * 4)).off + 3, none⟩ = some (.slice A3 (rd_T123 xs i).f0.f3.length c3) ∧ (rd_T123 xs i).f0.f0.length ≤ c0 ∧ (Kd.int .i64).C w A0 (rd_T123 xs i).f0.f0.length (rd_T123 xs i).f0.f0 ∧ (rd_T123 xs i).f0.f1.length ≤ c1 ∧ (Kd.int .i64).C w A1 (rd_T123 xs i).f0.f1.length (rd_T123 xs i).f0.f1 ∧ (rd_T123 xs i).f0.f3.length ≤ c3 ∧ k62.C w A3 (rd_T123 xs i).f0.f3.length (rd_T123 xs i).f0.f3 := by
  obtain ⟨ad, c, e, _, hK, hc0⟩ := Kd.C_get h z123 i h0 h1
  have hc : ∀ j u, c[j]? = some u → w.cell? (ad.add (i.toNat * 4 + j)) = some u := hc0
  obtain ⟨A0, c0, A1, c1, A3, c3, rfl, l0, g0, l1, g1, l3, g3⟩ := k123_open hK
  exact ⟨ad, A0, c0, A1, c1, A3, c3, e, hc 0 _ rfl, by rw [← add_field _ _ 1 (by omega)]; exact hc 1 _ rfl, by rw [← add_field _ _ 2 (by omega)]; exact hc 2 _ rfl, by rw [← add_field _ _ 3 (by omega)]; exact hc 3 _ rfl, l0, g0, l1, g1, l3, g3⟩
structure S146 where
  f0 : S104
  f1 : S104
def z146 : S146 := ⟨z104, z104⟩
def k146 : Kd S146 := Kd.iso (Kd.pair k104 k104) (fun x : S146 => (x.f0, x.f1))
theorem k146_open {w : World} {x : S146} {cs : List Value} (h : k146.K w x cs) : ∃ A1 c1 A3 c3, cs = [.int .i64 x.f0.f0, .slice A1 x.f0.f1.length c1, .int .i64 x.f1.f0, .slice A3 x.f1.f1.length c3] ∧ x.f0.f1.length ≤ c1 ∧ (Kd.int .i64).C w A1 x.f0.f1.length x.f0.f1 ∧ x.f1.f1.length ≤ c3 ∧ (Kd.int .i64).C w A3 x.f1.f1.length x.f1.f1 := by
  obtain ⟨_, _, rfl, s0, s2⟩ := h
  obtain ⟨A1, c1, rfl, l1, g1⟩ := k104_open s0
  obtain ⟨A3, c3, rfl, l3, g3⟩ := k104_open s2
  exact ⟨A1, c1, A3, c3, rfl, l1, g1, l3, g3⟩
theorem k146_openM {w : World} {base : Nat} {ok : Nat → Prop} {x : S146} {cs : List Value} (h : k146.M w base ok x cs) : ∃ v1 v3, cs = [.int .i64 x.f0.f0, v1, .int .i64 x.f1.f0, v3] ∧ (Kd.int .i64).R 3 w base ok v1 x.f0.f1 ∧ (Kd.int .i64).R 3 w base ok v3 x.f1.f1 := by
  obtain ⟨_, _, rfl, s0, s2⟩ := h
  obtain ⟨v1, rfl, g1⟩ := k104_openM s0
  obtain ⟨v3, rfl, g3⟩ := k104_openM s2
  exact ⟨v1, v3, rfl, g1, g3⟩
theorem k146_mk (w : World) (x : S146) {A1 : Option Addr} {c1 : Nat} (l1 : x.f0.f1.length ≤ c1) (g1 : (Kd.int .i64).C w A1 x.f0.f1.length x.f0.f1) {A3 : Option Addr} {c3 : Nat} (l3 : x.f1.f1.length ≤ c3) (g3 : (Kd.int .i64).C w A3 x.f1.f1.length x.f1.f1) : k146.K w x [.int .i64 x.f0.f0, .slice A1 x.f0.f1.length c1, .int .i64 x.f1.f0, .slice A3 x.f1.f1.length c3] := ⟨[.int .i64 x.f0.f0, .slice A1 x.f0.f1.length c1], [.int .i64 x.f1.f0, .slice A3 x.f1.f1.length c3], rfl, (k104_mk w x.f0 l1 g1), (k104_mk w x.f1 l3 g3)⟩
theorem k146_mkM (w : World) (base : Nat) (ok : Nat → Prop) (x : S146) {v1 : Value} (g1 : (Kd.int .i64).R 3 w base ok v1 x.f0.f1) {v3 : Value} (g3 : (Kd.int .i64).R 3 w base ok v3 x.f1.f1) : k146.M w base ok x [.int .i64 x.f0.f0, v1, .int .i64 x.f1.f0, v3] := ⟨[.int .i64 x.f0.f0, v1], [.int .i64 x.f1.f0, v3], rfl, (k104_mkM w base ok x.f0 g1), (k104_mkM w base ok x.f1 g3)⟩
theorem k146_openF {W : World} {ok : Nat → Prop} {x : S146} {cs : List Value} (h : Kd.FK k146 W ok x cs) : ∃ A1 c1 A3 c3, cs = [.int .i64 x.f0.f0, .slice A1 x.f0.f1.length c1, .int .i64 x.f1.f0, .slice A3 x.f1.f1.length c3] ∧ x.f0.f1.length ≤ c1 ∧ Kd.F (Kd.int .i64) W ok A1 x.f0.f1.length x.f0.f1 ∧ x.f1.f1.length ≤ c3 ∧ Kd.F (Kd.int .i64) W ok A3 x.f1.f1.length x.f1.f1 := by
  obtain ⟨A1, c1, A3, c3, rfl, l1, _, l3, _⟩ := k146_open (Kd.FK_now h)
  exact ⟨A1, c1, A3, c3, rfl, l1, (fun W' hW => by obtain ⟨A1_, c1_, A3_, c3_, he, l1_, g1_, l3_, g3_⟩ := k146_open (h W' hW); injection (Option.some.inj (show some (Value.slice A1 x.f0.f1.length c1) = some (Value.slice A1_ x.f0.f1.length c1_) from congrArg (fun l => l[1]?) he)) with ha_ _ _; rw [ha_]; exact g1_), l3, (fun W' hW => by obtain ⟨A1_, c1_, A3_, c3_, he, l1_, g1_, l3_, g3_⟩ := k146_open (h W' hW); injection (Option.some.inj (show some (Value.slice A3 x.f1.f1.length c3) = some (Value.slice A3_ x.f1.f1.length c3_) from congrArg (fun l => l[3]?) he)) with ha_ _ _; rw [ha_]; exact g3_)⟩
theorem k146_mkF (W : World) (ok : Nat → Prop) (x : S146) {A1 : Option Addr} {c1 : Nat} (l1 : x.f0.f1.length ≤ c1) (g1 : Kd.F (Kd.int .i64) W ok A1 x.f0.f1.length x.f0.f1) {A3 : Option Addr} {c3 : Nat} (l3 : x.f1.f1.length ≤ c3) (g3 : Kd.F (Kd.int .i64) W ok A3 x.f1.f1.length x.f1.f1) : Kd.FK k146 W ok x [.int .i64 x.f0.f0, .slice A1 x.f0.f1.length c1, .int .i64 x.f1.f0, .slice A3 x.f1.f1.length c3] := fun W2 hW => k146_mk W2 x l1 (g1 W2 hW) l3 (g3 W2 hW)
def rd_T146 (xs : List S146) (i : Int) : S146 := xs.getD i.toNat z146
theorem at_T146 {w : World} {A : Option Addr} {n : Nat} {xs : List S146} (h : Kd.C k146 w A n xs) (i : Int) (h0 : 0 ≤ i) (h1 : i < n) : ∃ ad A1 c1 A3 c3, A = some ad ∧ w.cell? (ad.add (i.toNat * 4)) = some (.int .i64 (rd_T146 xs i).f0.f0) ∧ w.cell? ⟨(ad.add (i.toNat * 4)).block, (ad.add (i.toNat * 4)).off + 1, none⟩ = some (.slice A1 (rd_T146 xs i).f0.f1.length c1) ∧ w.cell? ⟨(ad.add (i.toNat * 4)).block, (ad.add (i.toNat * 4)).off + 2, none⟩ = some (.int .i64 (rd_T146 xs i).f1.f0) ∧ w.cell? ⟨(ad.add (i.toNat * 4)).block, (ad.add (i.toNat * 4)).off + 3, none⟩ = some (.slice A3 (rd_T146 xs i).f1.f1.length c3) ∧ (rd_T146 xs i).f0.f1.length ≤ c1 ∧ (Kd.int .i64).C w A1 (rd_T146 xs i).f0.f1.length (rd_T146 xs i).f0.f1 ∧ (rd_T146 xs i).f1.f1.length ≤ c3 ∧ (Kd.int .i64).C w A3 (rd_T146 xs i).f1.f1.length (rd_T146 xs i).f1.f1 := by
  obtain ⟨ad, c, e, _, hK, hc0⟩ := Kd.C_get h z146 i h0 h1
  have hc : ∀ j u, c[j]? = some u → w.cell? (ad.add (i.toNat * 4 + j)) = some u := hc0
  obtain ⟨A1, c1, A3, c3, rfl, l1, g1, l3, g3⟩ := k146_open hK
  exact ⟨ad, A1, c1, A3, c3, e, hc 0 _ rfl, by rw [← add_field _ _ 1 (by omega)]; exact hc 1 _ rfl, by rw [← add_field _ _ 2 (by omega)]; exact hc 2 _ rfl, by rw [← add_field _ _ 3 (by omega)]; exact hc 3 _ rfl, l1, g1, l3, g3⟩
structure S170 where
  f0 : S116
def z170 : S170 := ⟨z116⟩
def k170 : Kd S170 := Kd.iso k116 (fun x : S170 => x.f0)
theorem k170_open {w : World} {x : S170} {cs : List Value} (h : k170.K w x cs) : ∃ A0 c0 A1 c1, cs = [.slice A0 x.f0.f0.length c0, .slice A1 x.f0.f1.length c1] ∧ x.f0.f0.length ≤ c0 ∧ k176.C w A0 x.f0.f0.length x.f0.f0 ∧ x.f0.f1.length ≤ c1 ∧ (Kd.int .i64).C w A1 x.f0.f1.length x.f0.f1 := by
  have s0 := h
  obtain ⟨A0, c0, A1, c1, rfl, l0, g0, l1, g1⟩ := k116_open s0
  exact ⟨A0, c0, A1, c1, rfl, l0, g0, l1, g1⟩
theorem k170_openM {w : World} {base : Nat} {ok : Nat → Prop} {x : S170} {cs : List Value} (h : k170.M w base ok x cs) : ∃ v0 v1, cs = [v0, v1] ∧ k176.R 176 w base ok v0 x.f0.f0 ∧ (Kd.int .i64).R 3 w base ok v1 x.f0.f1 := by
  have s0 := h
  obtain ⟨v0, v1, rfl, g0, g1⟩ := k116_openM s0
  exact ⟨v0, v1, rfl, g0, g1⟩
theorem k170_mk (w : World) (x : S170) {A0 : Option Addr} {c0 : Nat} (l0 : x.f0.f0.length ≤ c0) (g0 : k176.C w A0 x.f0.f0.length x.f0.f0) {A1 : Option Addr} {c1 : Nat} (l1 : x.f0.f1.length ≤ c1) (g1 : (Kd.int .i64).C w A1 x.f0.f1.length x.f0.f1) : k170.K w x [.slice A0 x.f0.f0.length c0, .slice A1 x.f0.f1.length c1] := (k116_mk w x.f0 l0 g0 l1 g1)
theorem k170_mkM (w : World) (base : Nat) (ok : Nat → Prop) (x : S170) {v0 : Value} (g0 : k176.R 176 w base ok v0 x.f0.f0) {v1 : Value} (g1 : (Kd.int .i64).R 3 w base ok v1 x.f0.f1) : k170.M w base ok x [v0, v1] := (k116_mkM w base ok x.f0 g0 g1)
theorem k170_openF {W : World} {ok : Nat → Prop} {x : S170} {cs : List Value} (h : Kd.FK k170 W ok x cs) : ∃ A0 c0 A1 c1, cs = [.slice A0 x.f0.f0.length c0, .slice A1 x.f0.f1.length c1] ∧ x.f0.f0.length ≤ c0 ∧ Kd.F k176 W ok A0 x.f0.f0.length x.f0.f0 ∧ x.f0.f1.length ≤ c1 ∧ Kd.F (Kd.int .i64) W ok A1 x.f0.f1.length x.f0.f1 := by
  obtain ⟨A0, c0, A1, c1, rfl, l0, _, l1, _⟩ := k170_open (Kd.FK_now h)
  exact ⟨A0, c0, A1, c1, rfl, l0, (fun W' hW => by obtain ⟨A0_, c0_, A1_, c1_, he, l0_, g0_, l1_, g1_⟩ := k170_open (h W' hW); injection (Option.some.inj (show some (Value.slice A0 x.f0.f0.length c0) = some (Value.slice A0_ x.f0.f0.length c0_) from congrArg (fun l => l[0]?) he)) with ha_ _ _; rw [ha_]; exact g0_), l1, (fun W' hW => by obtain ⟨A0_, c0_, A1_, c1_, he, l0_, g0_, l1_, g1_⟩ := k170_open (h W' hW); injection (Option.some.inj (show some (Value.slice A1 x.f0.f1.length c1) = some (Value.slice A1_ x.f0.f1.length c1_) from congrArg (fun l => l[1]?) he)) with ha_ _ _; rw [ha_]; exact g1_)⟩
theorem k170_mkF (W : World) (ok : Nat → Prop) (x : S170) {A0 : Option Addr} {c0 : Nat} (l0 : x.f0.f0.length ≤ c0) (g0 : Kd.F k176 W ok A0 x.f0.f0.length x.f0.f0) {A1 : Option Addr} {c1 : Nat} (l1 : x.f0.f1.length ≤ c1) (g1 : Kd.F (Kd.int .i64) W ok A1 x.f0.f1.length x.f0.f1) : Kd.FK k170 W ok x [.slice A0 x.f0.f0.length c0, .slice A1 x.f0.f1.length c1] := fun W2 hW => k170_mk W2 x l0 (g0 W2 hW) l1 (g1 W2 hW)
def rd_T170 (xs : List S170) (i : Int) : S170 := xs.getD i.toNat z170
theorem at_T170 {w : World} {A : Option Addr} {n : Nat} {xs : List S170} (h : Kd.C k170 w A n xs) (i : Int) (h0 : 0 ≤ i) (h1 : i < n) : ∃ ad A0 c0 A1 c1, A = some ad ∧ w.cell? (ad.add (i.toNat * 2)) = some (.slice A0 (rd_T170 xs i).f0.f0.length c0) ∧ w.cell? ⟨(ad.add (i.toNat * 2)).block, (ad.add (i.toNat * 2)).off + 1, none⟩ = some (.slice A1 (rd_T170 xs i).f0.f1.length c1) ∧ (rd_T170 xs i).f0.f0.length ≤ c0 ∧ k176.C w A0 (rd_T170 xs i).f0.f0.length (rd_T170 xs i).f0.f0 ∧ (rd_T170 xs i).f0.f1.length ≤ c1 ∧ (Kd.int .i64).C w A1 (rd_T170 xs i).f0.f1.length (rd_T170 xs i).f0.f1 := by
  obtain ⟨ad, c, e, _, hK, hc0⟩ := Kd.C_get h z170 i h0 h1
  have hc : ∀ j u, c[j]? = some u → w.cell? (ad.add (i.toNat * 2 + j)) = some u := hc0
  obtain ⟨A0, c0, A1, c1, rfl, l0, g0, l1, g1⟩ := k170_open hK
  exact ⟨ad, A0, c0, A1, c1, e, hc 0 _ rfl, by rw [← add_field _ _ 1 (by omega)]; exact hc 1 _ rfl, l0, g0, l1, g1⟩
def rd_L26 (xs : List (List (List Int))) (i : Int) : (List (List Int)) := xs.getD i.toNat ([] : List (List Int))
theorem at_L26 {w : World} {A : Option Addr} {n : Nat} {xs : List (List (List Int))} (h : Kd.C (Kd.slice 22 (Kd.slice 3 (Kd.int .i64))) w A n xs) (i : Int) (h0 : 0 ≤ i) (h1 : i < n) : ∃ ad A0 c0, A = some ad ∧ w.cell? (ad.add i.toNat) = some (.slice A0 (rd_L26 xs i).length c0) ∧ (rd_L26 xs i).length ≤ c0 ∧ (Kd.slice 3 (Kd.int .i64)).C w A0 (rd_L26 xs i).length (rd_L26 xs i) := by
  obtain ⟨ad, c, e, _, hK, hc0⟩ := Kd.C_get h ([] : List (List Int)) i h0 h1
  have hc : ∀ j u, c[j]? = some u → w.cell? (ad.add (i.toNat * 1 + j)) = some u := hc0
  obtain ⟨A0, c0, rfl, l0, g0⟩ := hK
  exact ⟨ad, A0, c0, e, by have hq := hc 0 _ rfl; rwa [Nat.mul_one, Nat.add_zero] at hq, l0, g0⟩
def rd_L27 (xs : List (List S85)) (i : Int) : (List S85) := xs.getD i.toNat ([] : List S85)
theorem at_L27 {w : World} {A : Option Addr} {n : Nat} {xs : List (List S85)} (h : Kd.C (Kd.slice 85 k85) w A n xs) (i : Int) (h0 : 0 ≤ i) (h1 : i < n) : ∃ ad A0 c0, A = some ad ∧ w.cell? (ad.add i.toNat) = some (.slice A0 (rd_L27 xs i).length c0) ∧ (rd_L27 xs i).length ≤ c0 ∧ k85.C w A0 (rd_L27 xs i).length (rd_L27 xs i) := by
  obtain ⟨ad, c, e, _, hK, hc0⟩ := Kd.C_get h ([] : List S85) i h0 h1
  have hc : ∀ j u, c[j]? = some u → w.cell? (ad.add (i.toNat * 1 + j)) = some u := hc0
  obtain ⟨A0, c0, rfl, l0, g0⟩ := hK
  exact ⟨ad, A0, c0, e, by have hq := hc 0 _ rfl; rwa [Nat.mul_one, Nat.add_zero] at hq, l0, g0⟩
def rd_L28 (xs : List (List S146)) (i : Int) : (List S146) := xs.getD i.toNat ([] : List S146)
theorem at_L28 {w : World} {A : Option Addr} {n : Nat} {xs : List (List S146)} (h : Kd.C (Kd.slice 146 k146) w A n xs) (i : Int) (h0 : 0 ≤ i) (h1 : i < n) : ∃ ad A0 c0, A = some ad ∧ w.cell? (ad.add i.toNat) = some (.slice A0 (rd_L28 xs i).length c0) ∧ (rd_L28 xs i).length ≤ c0 ∧ k146.C w A0 (rd_L28 xs i).length (rd_L28 xs i) := by
  obtain ⟨ad, c, e, _, hK, hc0⟩ := Kd.C_get h ([] : List S146) i h0 h1
  have hc : ∀ j u, c[j]? = some u → w.cell? (ad.add (i.toNat * 1 + j)) = some u := hc0
  obtain ⟨A0, c0, rfl, l0, g0⟩ := hK
  exact ⟨ad, A0, c0, e, by have hq := hc 0 _ rfl; rwa [Nat.mul_one, Nat.add_zero] at hq, l0, g0⟩
theorem eqA27 (d : Nat) (w : World) (x0 y0 : Int) (x1 y1 : Int) (x2 y2 : Int) :
    (Op.equalIn (d + 2) 27 (.agg #[.int .i64 x0, .int .i64 x1, .int .i64 x2]) (.agg #[.int .i64 y0, .int .i64 y1, .int .i64 y2])).run Tryz.prog w = .ok (x0 == y0 && (x1 == y1 && (x2 == y2))) w := by
  refine eqA_of Tryz.underlying27 (by kernel_rfl) ?_
  refine eqf_cons (by rfl) (by go_simp; rfl) (by go_simp; rfl) (by go_simp) ?_
  refine eqf_cons (by rfl) (by go_simp; rfl) (by go_simp; rfl) (by go_simp) ?_
  exact eqf_last (by rfl) (by go_simp; rfl) (by go_simp; rfl) (by go_simp)
theorem eqA42 (d : Nat) (w : World) (x0 y0 : Int) (x1 y1 : Int) (x2 y2 : Int) (x3 y3 : Int) (x4 y4 : Int) :
    (Op.equalIn (d + 2) 42 (.agg #[.int .i64 x0, .int .i64 x1, .int .i64 x2, .int .i64 x3, .int .i64 x4]) (.agg #[.int .i64 y0, .int .i64 y1, .int .i64 y2, .int .i64 y3, .int .i64 y4])).run Tryz.prog w = .ok (x0 == y0 && (x1 == y1 && (x2 == y2 && (x3 == y3 && (x4 == y4))))) w := by
  have hz : Tryz.prog.cellsOf 3 = 1 := by kernel_rfl
  have hs : (Tryz.prog.info? 3).isSome = true := by kernel_rfl
  obtain ⟨i, hi⟩ := Option.isSome_iff_exists.1 hs
  rw [run_equalIn_array w (d + 1) _ _ Tryz.underlying42 hi, hz]
  rw [show List.range 5 = [0, 1, 2, 3, 4] from rfl]
  refine eqi_cons (by go_simp; rfl) (by go_simp; rfl) (by go_simp) ?_
  refine eqi_cons (by go_simp; rfl) (by go_simp; rfl) (by go_simp) ?_
  refine eqi_cons (by go_simp; rfl) (by go_simp; rfl) (by go_simp) ?_
  refine eqi_cons (by go_simp; rfl) (by go_simp; rfl) (by go_simp) ?_
  exact (eqi_cons (r := x4 == y4) (s := true) (by go_simp; rfl) (by go_simp; rfl) (by go_simp) rfl).trans (by rw [Bool.and_true])
theorem eqA44 (d : Nat) (w : World) (x0 y0 : Int) (x1 y1 : Int) (x2 y2 : Int) (x3 y3 : Int) (x4 y4 : Int) (x5 y5 : Int) :
    (Op.equalIn (d + 3) 44 (.agg #[.int .i64 x0, .int .i64 x1, .int .i64 x2, .int .i64 x3, .int .i64 x4, .int .i64 x5]) (.agg #[.int .i64 y0, .int .i64 y1, .int .i64 y2, .int .i64 y3, .int .i64 y4, .int .i64 y5])).run Tryz.prog w = .ok (x0 == y0 && ((x1 == y1 && (x2 == y2 && (x3 == y3 && (x4 == y4 && (x5 == y5))))))) w := by
  refine eqA_of Tryz.underlying44 (by kernel_rfl) ?_
  refine eqf_cons (by rfl) (by go_simp; rfl) (by go_simp; rfl) (by go_simp) ?_
  exact eqf_last (by rfl) (by go_simp) (by go_simp) (eqA42 (d + 0) w _ _ _ _ _ _ _ _ _ _)
def dam_first.l0 : Nat → List Int → Int → Int → Option (Int)
  | 0, _, _, _ => none
  | k + 1, x5, x6, x7 => if x7 < x6 then (if 0 ≤ x7 then (if x7 < (x5.length : Int) then (if (rd x5 x7) = 0 then (dam_first.l0 k x5 x6 (wrap64 (x7 + 1))) else (some (rd x5 x7))) else (none)) else (none)) else (some 0)
def dam_first.f (k : Nat) (l0 : List Int) : Option (Int) := dam_first.l0 k l0 (l0.length : Int) 0
theorem dam_first.mono_l : ∀ k, (∀ y0 y1 y2, LeO (dam_first.l0 k y0 y1 y2) (dam_first.l0 (k + 1) y0 y1 y2))
  | 0 => fun _ _ _ r h => by simp [dam_first.l0] at h
  | k + 1 => by
    have ih0 := dam_first.mono_l k
    · intro y0 y1 y2
      unfold dam_first.l0
      repeat' first
      | (with_reducible exact ih0 _ _ _)
      | (with_reducible exact LeO.refl _)
      | (with_reducible exact LeO.none _)
      | (with_reducible refine LeO.ite ?_ ?_)
      | (with_reducible refine LeO.bind ?_ (fun _ => ?_))
      | exact ih0 _ _ _
      | exact LeO.none _
      | refine LeO.ite ?_ ?_
      | refine LeO.bind ?_ (fun _ => ?_)
theorem dam_first.mono : ∀ a0 k, LeO (dam_first.f k a0) (dam_first.f (k + 1) a0) := by
  intro a0 k
  have ih0 := dam_first.mono_l k
  unfold dam_first.f
  repeat' first
      | (with_reducible exact ih0 _ _ _)
      | (with_reducible exact LeO.refl _)
      | (with_reducible exact LeO.none _)
      | (with_reducible refine LeO.ite ?_ ?_)
      | (with_reducible refine LeO.bind ?_ (fun _ => ?_))
      | exact ih0 _ _ _
      | exact LeO.none _
      | refine LeO.ite ?_ ?_
      | refine LeO.bind ?_ (fun _ => ?_)
set_option maxHeartbeats 8000000 in
set_option maxRecDepth 100000 in
theorem dam_first.calls (k : Nat) (A0 : Option Addr) (c0 : Nat) (l0 : List Int) (r : Int) (w : World) (hr0 : Kd.C (Kd.int .i64) w A0 l0.length l0) (hc0 : l0.length ≤ c0) (h : dam_first.f k l0 = some r) :
    Calls Tryz.prog 60 #[.slice A0 l0.length c0] w fun e w' => e = .returned (.int .i64 r) ∧ Drawn0 w w' := by
  have HR0 := Aside0.mk hr0
  have HC0 := Aside0.mk hc0
  clear hr0 hc0
  have H : (dam_first.l0 k l0 (l0.length : Int) 0) = some r := h
  clear h
  have H' := Aside0.mk H
  clear H
  go_enter Tryz.func60, Tryz.ntmps60
  go_wp2
  go_loopg [7] k (fun kq v7 w' => ∃ (x7_1 : Int), v7 = .int .i64 x7_1 ∧ Aside0 (dam_first.l0 kq l0 (l0.length : Int) x7_1 = some r) ∧ Aside0 (kq ≤ k) ∧ Drawn0 w w')
  case atStart => exact ⟨(0), (by first | rfl | (simp; done) | (simp [*]; done)), H', ⟨Nat.le_refl _⟩, by repeat (first | exact Drawn0.refl _ | apply Drawn0.step)⟩
  case round =>
    clear H'
    obtain ⟨x7_1, rfl, HA, HK1, ⟨m1, rfl⟩⟩ := hrel
    cases gk with
    | zero => exact absurd HA.out (by simp [dam_first.l0])
    | succ k1 =>
      have H := HA.out
      clear HA
      simp only [dam_first.l0] at H
      by_cases c2 : x7_1 < (l0.length : Int)
      · rw [if_pos c2] at H
        have c2b0 : decide (x7_1 < (l0.length : Int)) = true := decide_eq_true c2
        clear c2
        by_cases c3 : 0 ≤ x7_1
        · rw [if_pos c3] at H
          have c3b0 : decide (0 ≤ x7_1) = true := decide_eq_true c3
          clear c3
          by_cases c4 : x7_1 < (l0.length : Int)
          · rw [if_pos c4] at H
            have c4b0 : decide (x7_1 < (l0.length : Int)) = true := decide_eq_true c4
            clear c4
            by_cases c5 : (rd l0 x7_1) = 0
            · rw [if_pos c5] at H
              have c5b0 : ((rd l0 x7_1) == 0) = true := beq_iff_eq.mpr c5
              have c5b1 : ((rd l0 x7_1) != 0) = false := bne_eq_false_iff_eq.mpr c5
              clear c5
              have H' := Aside0.mk H
              clear H
              have p180001 : 0 ≤ (x7_1 : Int) := of_decide_eq_true (by first | (with_reducible assumption) | assumption)
              have q180001 : x7_1 < (l0.length : Int) := of_decide_eq_true (by first | (with_reducible assumption) | assumption)
              obtain ⟨ad180001, e180001, hx180001_0⟩ := Kd.at_int HR0.out x7_1 p180001 q180001
              cases e180001
              replace p180001 := eq_true p180001
              replace q180001 := eq_true q180001
              go_wp2
              go_roundg k1
              case measure => have := HK1.out; omega
              case rel => exact ⟨(wrap64 (x7_1 + 1)), (by first | rfl | (simp; done) | (simp [*]; done)), H', ⟨by have := HK1.out; omega⟩, by repeat (first | exact Drawn0.refl _ | apply Drawn0.step)⟩
            · rw [if_neg c5] at H
              have c5b0 : ((rd l0 x7_1) == 0) = false := beq_eq_false_iff_ne.mpr c5
              have c5b1 : ((rd l0 x7_1) != 0) = true := bne_iff_ne.mpr c5
              obtain rfl := Option.some.inj H
              have p180001 : 0 ≤ (x7_1 : Int) := of_decide_eq_true (by first | (with_reducible assumption) | assumption)
              have q180001 : x7_1 < (l0.length : Int) := of_decide_eq_true (by first | (with_reducible assumption) | assumption)
              obtain ⟨ad180001, e180001, hx180001_0⟩ := Kd.at_int HR0.out x7_1 p180001 q180001
              cases e180001
              replace p180001 := eq_true p180001
              replace q180001 := eq_true q180001
              go_wp2
              go_ret
              exact ⟨by first | rfl | (simp; done) | (simp [*]; done), by repeat (first | exact Drawn0.refl _ | apply Drawn0.step)⟩
          · rw [if_neg c4] at H
            exact absurd H (by simp)
        · rw [if_neg c3] at H
          exact absurd H (by simp)
      · rw [if_neg c2] at H
        have c2b0 : decide (x7_1 < (l0.length : Int)) = false := decide_eq_false c2
        clear c2
        obtain rfl := Option.some.inj H
        go_wp2
        go_ret
        exact ⟨by first | rfl | (simp; done) | (simp [*]; done), by repeat (first | exact Drawn0.refl _ | apply Drawn0.step)⟩
def dam_unless.f (a0 : Bool) (a1 : Int) : Option (Int) := if a0 = true then (some 0) else (some a1)
set_option maxHeartbeats 8000000 in
set_option maxRecDepth 100000 in
theorem dam_unless.calls (a0 : Bool) (a1 : Int) (r : Int) (w : World) (h : dam_unless.f a0 a1 = some r) :
    Calls Tryz.prog 61 #[.bool a0, .int .i64 a1] w fun e w' => e = .returned (.int .i64 r) ∧ Drawn0 w w' := by
  have H : (if a0 = true then (some 0) else (some a1)) = some r := h
  clear h
  by_cases c3 : a0 = true
  · subst c3
    have H1 : (some 0) = some r := by rw [if_pos rfl] at H; exact H
    clear H
    have H := H1
    clear H1
    obtain rfl := Option.some.inj H
    go_enter Tryz.func61, Tryz.ntmps61
    go_wp2
    go_ret
    exact ⟨by first | rfl | (simp; done) | (simp [*]; done), by repeat (first | exact Drawn0.refl _ | apply Drawn0.step)⟩
  · replace c3 := Bool.eq_false_iff.mpr c3
    subst c3
    have H1 : (some a1) = some r := by rw [if_neg (show ¬ (false = true) by decide)] at H; exact H
    clear H
    have H := H1
    clear H1
    obtain rfl := Option.some.inj H
    go_enter Tryz.func61, Tryz.ntmps61
    go_wp2
    go_ret
    exact ⟨by first | rfl | (simp; done) | (simp [*]; done), by repeat (first | exact Drawn0.refl _ | apply Drawn0.step)⟩
def dam_within.f (a0 : Int) (a1 : Int) (a2 : Int) : Option (Bool) := if a1 ≤ a0 then (some (decide (a0 ≤ a2))) else (some false)
set_option maxHeartbeats 8000000 in
set_option maxRecDepth 100000 in
theorem dam_within.calls (a0 : Int) (a1 : Int) (a2 : Int) (r : Bool) (w : World) (h : dam_within.f a0 a1 a2 = some r) :
    Calls Tryz.prog 65 #[.int .i64 a0, .int .i64 a1, .int .i64 a2] w fun e w' => e = .returned (.bool r) ∧ Drawn0 w w' := by
  have H : (if a1 ≤ a0 then (some (decide (a0 ≤ a2))) else (some false)) = some r := h
  clear h
  by_cases c4 : a1 ≤ a0
  · rw [if_pos c4] at H
    have c4b0 : decide (a1 ≤ a0) = true := decide_eq_true c4
    clear c4
    obtain rfl := Option.some.inj H
    go_enter Tryz.func65, Tryz.ntmps65
    go_wp2
    go_ret
    exact ⟨by first | rfl | (simp; done) | (simp [*]; done), by repeat (first | exact Drawn0.refl _ | apply Drawn0.step)⟩
  · rw [if_neg c4] at H
    have c4b0 : decide (a1 ≤ a0) = false := decide_eq_false c4
    clear c4
    obtain rfl := Option.some.inj H
    go_enter Tryz.func65, Tryz.ntmps65
    go_wp2
    go_ret
    exact ⟨by first | rfl | (simp; done) | (simp [*]; done), by repeat (first | exact Drawn0.refl _ | apply Drawn0.step)⟩
def dam_isSized.f (a0 : Int) (a1 : Int) : Option (Bool) := (dam_within.f a0 (wrap64 (-a1)) a1).bind fun t354001 => (some t354001)
set_option maxHeartbeats 8000000 in
set_option maxRecDepth 100000 in
theorem dam_isSized.calls (a0 : Int) (a1 : Int) (r : Bool) (w : World) (h : dam_isSized.f a0 a1 = some r) :
    Calls Tryz.prog 118 #[.int .i64 a0, .int .i64 a1] w fun e w' => e = .returned (.bool r) ∧ Drawn0 w w' := by
  have H : ((dam_within.f a0 (wrap64 (-a1)) a1).bind fun t354001 => (some t354001)) = some r := h
  clear h
  replace H := Option.bind_eq_some_iff.mp H
  obtain ⟨t354001, A30, H⟩ := H
  replace H : (some t354001) = some r := H
  have A3 := Aside0.mk A30
  clear A30
  obtain rfl := Option.some.inj H
  go_enter Tryz.func118, Tryz.ntmps118
  go_wp2_with (first | ((with_reducible refine gate_callee (f := 65) rfl ?_); refine goesL_ (some 9) rfl rfl Tryz.func65 (by kernel_rfl) rfl #[.int .i64 a0, .int .i64 (wrap64 (-a1)), .int .i64 a1] rfl (by (try simp only [List.map_toArray, List.map_cons, List.map_nil]); first | done | rfl | (simp only [List.length_drop, List.length_take]; rfl)) ?_; (with_reducible refine (dam_within.calls a0 (wrap64 (-a1)) a1 t354001 _ A3.out).mono ?_); rintro e w' ⟨rfl, ⟨nd, rfl⟩⟩; refine ⟨_, rfl, ?_⟩))
  go_ret
  exact ⟨by first | rfl | (simp; done) | (simp [*]; done), by repeat (first | exact Drawn0.refl _ | apply Drawn0.step)⟩
def dam_CheckReading.f (a0_0 : Int) (a0_1 : Int) (a0_2 : Int) : Option (Int) := (dam_within.f a0_0 0 36000).bind fun t306002 => (if t306002 = true then ((dam_isSized.f a0_1 50).bind fun t306003 => (if t306003 = true then ((dam_isSized.f a0_2 2000).bind fun t306004 => ((dam_unless.f t306004 2).bind fun t306005 => (some t306005))) else ((dam_unless.f false 2).bind fun t306006 => (some t306006)))) else ((dam_unless.f false 2).bind fun t306007 => (some t306007)))
set_option maxHeartbeats 8000000 in
set_option maxRecDepth 100000 in
theorem dam_CheckReading.calls (a0_0 : Int) (a0_1 : Int) (a0_2 : Int) (r : Int) (w : World) (h : dam_CheckReading.f a0_0 a0_1 a0_2 = some r) :
    Calls Tryz.prog 102 #[.agg #[.int .i64 a0_0, .int .i64 a0_1, .int .i64 a0_2]] w fun e w' => e = .returned (.int .i64 r) ∧ Below w.heap.size w w' := by
  have hu85 := Tryz.underlying85
  have HB := Aside0.mk (Below.refl w.heap.size w)
  have H : ((dam_within.f a0_0 0 36000).bind fun t306002 => (if t306002 = true then ((dam_isSized.f a0_1 50).bind fun t306003 => (if t306003 = true then ((dam_isSized.f a0_2 2000).bind fun t306004 => ((dam_unless.f t306004 2).bind fun t306005 => (some t306005))) else ((dam_unless.f false 2).bind fun t306006 => (some t306006)))) else ((dam_unless.f false 2).bind fun t306007 => (some t306007)))) = some r := h
  clear h
  replace H := Option.bind_eq_some_iff.mp H
  obtain ⟨t306002, A20, H⟩ := H
  replace H : (if t306002 = true then ((dam_isSized.f a0_1 50).bind fun t306003 => (if t306003 = true then ((dam_isSized.f a0_2 2000).bind fun t306004 => ((dam_unless.f t306004 2).bind fun t306005 => (some t306005))) else ((dam_unless.f false 2).bind fun t306006 => (some t306006)))) else ((dam_unless.f false 2).bind fun t306007 => (some t306007))) = some r := H
  have A2 := Aside0.mk A20
  clear A20
  by_cases c3 : t306002 = true
  · subst c3
    have H1 : ((dam_isSized.f a0_1 50).bind fun t306003 => (if t306003 = true then ((dam_isSized.f a0_2 2000).bind fun t306004 => ((dam_unless.f t306004 2).bind fun t306005 => (some t306005))) else ((dam_unless.f false 2).bind fun t306006 => (some t306006)))) = some r := by rw [if_pos rfl] at H; exact H
    clear H
    have H := H1
    clear H1
    replace H := Option.bind_eq_some_iff.mp H
    obtain ⟨t306003, A40, H⟩ := H
    replace H : (if t306003 = true then ((dam_isSized.f a0_2 2000).bind fun t306004 => ((dam_unless.f t306004 2).bind fun t306005 => (some t306005))) else ((dam_unless.f false 2).bind fun t306006 => (some t306006))) = some r := H
    have A4 := Aside0.mk A40
    clear A40
    by_cases c5 : t306003 = true
    · subst c5
      have H1 : ((dam_isSized.f a0_2 2000).bind fun t306004 => ((dam_unless.f t306004 2).bind fun t306005 => (some t306005))) = some r := by rw [if_pos rfl] at H; exact H
      clear H
      have H := H1
      clear H1
      replace H := Option.bind_eq_some_iff.mp H
      obtain ⟨t306004, A60, H⟩ := H
      replace H : ((dam_unless.f t306004 2).bind fun t306005 => (some t306005)) = some r := H
      have A6 := Aside0.mk A60
      clear A60
      replace H := Option.bind_eq_some_iff.mp H
      obtain ⟨t306005, A70, H⟩ := H
      replace H : (some t306005) = some r := H
      have A7 := Aside0.mk A70
      clear A70
      obtain rfl := Option.some.inj H
      go_enter Tryz.func102, Tryz.ntmps102
      go_wp2_with (first | ((with_reducible refine gate_dst (N := 1) rfl ?_); refine box_event ?hg (N := 1) ?hd (cs := #[.int .i64 a0_0, .int .i64 a0_1, .int .i64 a0_2]) (t := 85) ?hr ?_; (case hd => rfl); (case hg => rfl); (case hr => first | (go_simp; done) | (go_simp; rfl)); intro gb306001 hg w8 hbox hb; have n0_ := Aside0.mk (below_step (by repeat (first | (with_reducible first | exact HB.out | apply below_alloc | apply pw_below_drewN | apply below_drew1) | exact HB.out)) hb); have n1_ := Aside0.mk (hbox); have n2_ := Aside0.mk ((by rw [hg]; exact (below_size (by repeat (first | (with_reducible first | exact HB.out | apply below_alloc | apply pw_below_drewN | apply below_drew1) | exact HB.out))) : w.heap.size ≤ gb306001)); have n3_ := Aside0.mk ((by rw [hg]; exact (below_size (by repeat (first | (with_reducible first | exact HB.out | apply below_alloc | apply pw_below_drewN | apply below_drew1) | exact HB.out))) : w.heap.size ≤ gb306001)); clear HB; have HB := n0_; have BK306001 := n1_; have GW306001 := n2_; have GE306001 := n3_; clear n0_ n1_ n2_ n3_; clear hb hbox hg; have hcz9_0 : w8.cell? ⟨gb306001, 0, none⟩ = some (.int .i64 a0_0) := (blk_cell BK306001.out 0).trans rfl; have hcz9_1 : w8.cell? ⟨gb306001, 1, none⟩ = some (.int .i64 a0_1) := (blk_cell BK306001.out 1).trans rfl; have hcz9_2 : w8.cell? ⟨gb306001, 2, none⟩ = some (.int .i64 a0_2) := (blk_cell BK306001.out 2).trans rfl; have hfz9_0 := blk_frozen BK306001.out 0; have hfz9_1 := blk_frozen BK306001.out 1; have hfz9_2 := blk_frozen BK306001.out 2) | ((with_reducible refine gate_callee (f := 65) rfl ?_); refine goesL_ (some 5) rfl rfl Tryz.func65 (by kernel_rfl) rfl #[.int .i64 a0_0, .int .i64 0, .int .i64 36000] rfl (by (try simp only [List.map_toArray, List.map_cons, List.map_nil]); first | done | rfl | (simp only [List.length_drop, List.length_take]; rfl)) ?_; (with_reducible refine (dam_within.calls a0_0 0 36000 true _ A2.out).mono ?_); rintro e w' ⟨rfl, ⟨nd, rfl⟩⟩; refine ⟨_, rfl, ?_⟩) | (go_at_call 118; (with_reducible refine (dam_isSized.calls a0_1 50 true _ A4.out).mono ?_); rintro e w' ⟨rfl, ⟨nd, rfl⟩⟩) | (go_at_call 118; (with_reducible refine (dam_isSized.calls a0_2 2000 t306004 _ A6.out).mono ?_); rintro e w' ⟨rfl, ⟨nd, rfl⟩⟩) | ((with_reducible refine gate_callee (f := 61) rfl ?_); refine goesL_ (some 16) rfl rfl Tryz.func61 (by kernel_rfl) rfl #[.bool t306004, .int .i64 2] rfl (by (try simp only [List.map_toArray, List.map_cons, List.map_nil]); first | done | rfl | (simp only [List.length_drop, List.length_take]; rfl)) ?_; (with_reducible refine (dam_unless.calls t306004 2 t306005 _ A7.out).mono ?_); rintro e w' ⟨rfl, ⟨nd, rfl⟩⟩; refine ⟨_, rfl, ?_⟩))
      go_ret
      exact ⟨by first | rfl | (simp [errW_none, errW_some] <;> rfl) | (simp [*, errW_none, errW_some] <;> rfl), by repeat (first | (with_reducible first | exact HB.out | apply below_alloc | apply pw_below_drewN | apply below_drew1 | refine below_set ?_ GE306001.out) | exact HB.out)⟩
    · replace c5 := Bool.eq_false_iff.mpr c5
      subst c5
      have H1 : ((dam_unless.f false 2).bind fun t306006 => (some t306006)) = some r := by rw [if_neg (show ¬ (false = true) by decide)] at H; exact H
      clear H
      have H := H1
      clear H1
      replace H := Option.bind_eq_some_iff.mp H
      obtain ⟨t306006, A100, H⟩ := H
      replace H : (some t306006) = some r := H
      have A10 := Aside0.mk A100
      clear A100
      obtain rfl := Option.some.inj H
      go_enter Tryz.func102, Tryz.ntmps102
      go_wp2_with (first | ((with_reducible refine gate_dst (N := 1) rfl ?_); refine box_event ?hg (N := 1) ?hd (cs := #[.int .i64 a0_0, .int .i64 a0_1, .int .i64 a0_2]) (t := 85) ?hr ?_; (case hd => rfl); (case hg => rfl); (case hr => first | (go_simp; done) | (go_simp; rfl)); intro gb306001 hg w11 hbox hb; have n0_ := Aside0.mk (below_step (by repeat (first | (with_reducible first | exact HB.out | apply below_alloc | apply pw_below_drewN | apply below_drew1) | exact HB.out)) hb); have n1_ := Aside0.mk (hbox); have n2_ := Aside0.mk ((by rw [hg]; exact (below_size (by repeat (first | (with_reducible first | exact HB.out | apply below_alloc | apply pw_below_drewN | apply below_drew1) | exact HB.out))) : w.heap.size ≤ gb306001)); have n3_ := Aside0.mk ((by rw [hg]; exact (below_size (by repeat (first | (with_reducible first | exact HB.out | apply below_alloc | apply pw_below_drewN | apply below_drew1) | exact HB.out))) : w.heap.size ≤ gb306001)); clear HB; have HB := n0_; have BK306001 := n1_; have GW306001 := n2_; have GE306001 := n3_; clear n0_ n1_ n2_ n3_; clear hb hbox hg; have hcz12_0 : w11.cell? ⟨gb306001, 0, none⟩ = some (.int .i64 a0_0) := (blk_cell BK306001.out 0).trans rfl; have hcz12_1 : w11.cell? ⟨gb306001, 1, none⟩ = some (.int .i64 a0_1) := (blk_cell BK306001.out 1).trans rfl; have hcz12_2 : w11.cell? ⟨gb306001, 2, none⟩ = some (.int .i64 a0_2) := (blk_cell BK306001.out 2).trans rfl; have hfz12_0 := blk_frozen BK306001.out 0; have hfz12_1 := blk_frozen BK306001.out 1; have hfz12_2 := blk_frozen BK306001.out 2) | ((with_reducible refine gate_callee (f := 65) rfl ?_); refine goesL_ (some 5) rfl rfl Tryz.func65 (by kernel_rfl) rfl #[.int .i64 a0_0, .int .i64 0, .int .i64 36000] rfl (by (try simp only [List.map_toArray, List.map_cons, List.map_nil]); first | done | rfl | (simp only [List.length_drop, List.length_take]; rfl)) ?_; (with_reducible refine (dam_within.calls a0_0 0 36000 true _ A2.out).mono ?_); rintro e w' ⟨rfl, ⟨nd, rfl⟩⟩; refine ⟨_, rfl, ?_⟩) | (go_at_call 118; (with_reducible refine (dam_isSized.calls a0_1 50 false _ A4.out).mono ?_); rintro e w' ⟨rfl, ⟨nd, rfl⟩⟩) | ((with_reducible refine gate_callee (f := 61) rfl ?_); refine goesL_ (some 16) rfl rfl Tryz.func61 (by kernel_rfl) rfl #[.bool false, .int .i64 2] rfl (by (try simp only [List.map_toArray, List.map_cons, List.map_nil]); first | done | rfl | (simp only [List.length_drop, List.length_take]; rfl)) ?_; (with_reducible refine (dam_unless.calls false 2 t306006 _ A10.out).mono ?_); rintro e w' ⟨rfl, ⟨nd, rfl⟩⟩; refine ⟨_, rfl, ?_⟩))
      go_ret
      exact ⟨by first | rfl | (simp [errW_none, errW_some] <;> rfl) | (simp [*, errW_none, errW_some] <;> rfl), by repeat (first | (with_reducible first | exact HB.out | apply below_alloc | apply pw_below_drewN | apply below_drew1 | refine below_set ?_ GE306001.out) | exact HB.out)⟩
  · replace c3 := Bool.eq_false_iff.mpr c3
    subst c3
    have H1 : ((dam_unless.f false 2).bind fun t306007 => (some t306007)) = some r := by rw [if_neg (show ¬ (false = true) by decide)] at H; exact H
    clear H
    have H := H1
    clear H1
    replace H := Option.bind_eq_some_iff.mp H
    obtain ⟨t306007, A130, H⟩ := H
    replace H : (some t306007) = some r := H
    have A13 := Aside0.mk A130
    clear A130
    obtain rfl := Option.some.inj H
    go_enter Tryz.func102, Tryz.ntmps102
    go_wp2_with (first | ((with_reducible refine gate_dst (N := 1) rfl ?_); refine box_event ?hg (N := 1) ?hd (cs := #[.int .i64 a0_0, .int .i64 a0_1, .int .i64 a0_2]) (t := 85) ?hr ?_; (case hd => rfl); (case hg => rfl); (case hr => first | (go_simp; done) | (go_simp; rfl)); intro gb306001 hg w14 hbox hb; have n0_ := Aside0.mk (below_step (by repeat (first | (with_reducible first | exact HB.out | apply below_alloc | apply pw_below_drewN | apply below_drew1) | exact HB.out)) hb); have n1_ := Aside0.mk (hbox); have n2_ := Aside0.mk ((by rw [hg]; exact (below_size (by repeat (first | (with_reducible first | exact HB.out | apply below_alloc | apply pw_below_drewN | apply below_drew1) | exact HB.out))) : w.heap.size ≤ gb306001)); have n3_ := Aside0.mk ((by rw [hg]; exact (below_size (by repeat (first | (with_reducible first | exact HB.out | apply below_alloc | apply pw_below_drewN | apply below_drew1) | exact HB.out))) : w.heap.size ≤ gb306001)); clear HB; have HB := n0_; have BK306001 := n1_; have GW306001 := n2_; have GE306001 := n3_; clear n0_ n1_ n2_ n3_; clear hb hbox hg; have hcz15_0 : w14.cell? ⟨gb306001, 0, none⟩ = some (.int .i64 a0_0) := (blk_cell BK306001.out 0).trans rfl; have hcz15_1 : w14.cell? ⟨gb306001, 1, none⟩ = some (.int .i64 a0_1) := (blk_cell BK306001.out 1).trans rfl; have hcz15_2 : w14.cell? ⟨gb306001, 2, none⟩ = some (.int .i64 a0_2) := (blk_cell BK306001.out 2).trans rfl; have hfz15_0 := blk_frozen BK306001.out 0; have hfz15_1 := blk_frozen BK306001.out 1; have hfz15_2 := blk_frozen BK306001.out 2) | ((with_reducible refine gate_callee (f := 65) rfl ?_); refine goesL_ (some 5) rfl rfl Tryz.func65 (by kernel_rfl) rfl #[.int .i64 a0_0, .int .i64 0, .int .i64 36000] rfl (by (try simp only [List.map_toArray, List.map_cons, List.map_nil]); first | done | rfl | (simp only [List.length_drop, List.length_take]; rfl)) ?_; (with_reducible refine (dam_within.calls a0_0 0 36000 false _ A2.out).mono ?_); rintro e w' ⟨rfl, ⟨nd, rfl⟩⟩; refine ⟨_, rfl, ?_⟩) | ((with_reducible refine gate_callee (f := 61) rfl ?_); refine goesL_ (some 16) rfl rfl Tryz.func61 (by kernel_rfl) rfl #[.bool false, .int .i64 2] rfl (by (try simp only [List.map_toArray, List.map_cons, List.map_nil]); first | done | rfl | (simp only [List.length_drop, List.length_take]; rfl)) ?_; (with_reducible refine (dam_unless.calls false 2 t306007 _ A13.out).mono ?_); rintro e w' ⟨rfl, ⟨nd, rfl⟩⟩; refine ⟨_, rfl, ?_⟩))
    go_ret
    exact ⟨by first | rfl | (simp [errW_none, errW_some] <;> rfl) | (simp [*, errW_none, errW_some] <;> rfl), by repeat (first | (with_reducible first | exact HB.out | apply below_alloc | apply pw_below_drewN | apply below_drew1 | refine below_set ?_ GE306001.out) | exact HB.out)⟩
def dam_readingsErr.l0 : Nat → List (S85) → Int → Int → Option (Int)
  | 0, _, _, _ => none
  | k + 1, x0, x3, x4 => if x4 < (x0.length : Int) then (if x3 = 0 then (if 0 ≤ x4 then ((dam_CheckReading.f ((rd_T85 x0 x4).f0) ((rd_T85 x0 x4).f1) ((rd_T85 x0 x4).f2)).bind fun t207008 => (dam_readingsErr.l0 k x0 t207008 (wrap64 (x4 + 1)))) else (none)) else (some x3)) else (some x3)
def dam_readingsErr.f (k : Nat) (l0 : List (S85)) : Option (Int) := (dam_unless.f (decide ((l0.length : Int) > 0)) 10).bind fun t207001 => ((dam_unless.f (decide ((l0.length : Int) ≤ 12)) 8).bind fun t207002 => ((dam_first.f k (([t207001, t207002] : List Int))).bind fun t207006 => (dam_readingsErr.l0 k l0 t207006 0)))
theorem dam_readingsErr.mono_l : ∀ k, (∀ y0 y1 y2, LeO (dam_readingsErr.l0 k y0 y1 y2) (dam_readingsErr.l0 (k + 1) y0 y1 y2))
  | 0 => fun _ _ _ r h => by simp [dam_readingsErr.l0] at h
  | k + 1 => by
    have ih0 := dam_readingsErr.mono_l k
    · intro y0 y1 y2
      unfold dam_readingsErr.l0
      repeat' first
      | (with_reducible exact ih0 _ _ _)
      | (with_reducible exact dam_first.mono _ _)
      | (with_reducible exact LeO.refl _)
      | (with_reducible exact LeO.none _)
      | (with_reducible refine LeO.ite ?_ ?_)
      | (with_reducible refine LeO.bind ?_ (fun _ => ?_))
      | exact ih0 _ _ _
      | exact dam_first.mono _ _
      | exact LeO.none _
      | refine LeO.ite ?_ ?_
      | refine LeO.bind ?_ (fun _ => ?_)
theorem dam_readingsErr.mono : ∀ a0 k, LeO (dam_readingsErr.f k a0) (dam_readingsErr.f (k + 1) a0) := by
  intro a0 k
  have ih0 := dam_readingsErr.mono_l k
  unfold dam_readingsErr.f
  repeat' first
      | (with_reducible exact ih0 _ _ _)
      | (with_reducible exact dam_first.mono _ _)
      | (with_reducible exact LeO.refl _)
      | (with_reducible exact LeO.none _)
      | (with_reducible refine LeO.ite ?_ ?_)
      | (with_reducible refine LeO.bind ?_ (fun _ => ?_))
      | exact ih0 _ _ _
      | exact dam_first.mono _ _
      | exact LeO.none _
      | refine LeO.ite ?_ ?_
      | refine LeO.bind ?_ (fun _ => ?_)
set_option maxHeartbeats 8000000 in
set_option maxRecDepth 100000 in
theorem dam_readingsErr.calls (k : Nat) (A0 : Option Addr) (c0 : Nat) (l0 : List (S85)) (r : Int) (w : World) (hr0 : Kd.C k85 w A0 l0.length l0) (hc0 : l0.length ≤ c0) (h : dam_readingsErr.f k l0 = some r) :
    Calls Tryz.prog 69 #[.slice A0 l0.length c0] w fun e w' => e = .returned (.int .i64 r) ∧ Below w.heap.size w w' := by
  have hu85 := Tryz.underlying85
  have HR0 := Aside0.mk hr0
  have HC0 := Aside0.mk hc0
  clear hr0 hc0
  have HB := Aside0.mk (Below.refl w.heap.size w)
  have H : ((dam_unless.f (decide ((l0.length : Int) > 0)) 10).bind fun t207001 => ((dam_unless.f (decide ((l0.length : Int) ≤ 12)) 8).bind fun t207002 => ((dam_first.f k (([t207001, t207002] : List Int))).bind fun t207006 => (dam_readingsErr.l0 k l0 t207006 0)))) = some r := h
  rw [show decide ((l0.length : Int) > 0) = decide (0 < l0.length) from by (apply decide_eq_decide.mpr; omega)] at H
  clear h
  replace H := Option.bind_eq_some_iff.mp H
  obtain ⟨t207001, A20, H⟩ := H
  replace H : ((dam_unless.f (decide ((l0.length : Int) ≤ 12)) 8).bind fun t207002 => ((dam_first.f k (([t207001, t207002] : List Int))).bind fun t207006 => (dam_readingsErr.l0 k l0 t207006 0))) = some r := H
  have A2 := Aside0.mk A20
  clear A20
  replace H := Option.bind_eq_some_iff.mp H
  obtain ⟨t207002, A30, H⟩ := H
  replace H : ((dam_first.f k (([t207001, t207002] : List Int))).bind fun t207006 => (dam_readingsErr.l0 k l0 t207006 0)) = some r := H
  have A3 := Aside0.mk A30
  clear A30
  obtain ⟨y207003, hy207003⟩ : ∃ y_ : List Int, y_ = (([t207001, t207002] : List Int)) := ⟨_, rfl⟩
  replace H : ((dam_first.f k y207003).bind fun t207006 => (dam_readingsErr.l0 k l0 t207006 0)) = some r := by first | (rw [hy207003]; with_reducible exact H) | (have H2_ := (Option.bind_some _ _).symm.trans H; rw [hy207003]; with_reducible exact H2_) | (have H2_ := (Option.bind_some _ _).symm.trans H; with_reducible exact H2_) | with_reducible exact H | (rw [hy207003]; exact H) | exact H
  have Ny207003 := Aside0.mk hy207003
  clear hy207003
  replace H := Option.bind_eq_some_iff.mp H
  obtain ⟨t207006, A40, H⟩ := H
  replace H : (dam_readingsErr.l0 k l0 t207006 0) = some r := H
  have A4 := Aside0.mk A40
  clear A40
  have H' := Aside0.mk H
  clear H
  go_enter Tryz.func69, Tryz.ntmps69
  go_wp2_with (first | ((with_reducible refine gate_callee (f := 61) rfl ?_); refine goesL_ (some 8) rfl rfl Tryz.func61 (by kernel_rfl) rfl #[.bool (decide (0 < l0.length)), .int .i64 10] rfl (by (try simp only [List.map_toArray, List.map_cons, List.map_nil]); first | done | rfl | (simp only [List.length_drop, List.length_take]; rfl)) ?_; (with_reducible refine (dam_unless.calls (decide (0 < l0.length)) 10 t207001 _ A2.out).mono ?_); rintro e w' ⟨rfl, ⟨nd, rfl⟩⟩; refine ⟨_, rfl, ?_⟩) | ((with_reducible refine gate_callee (f := 61) rfl ?_); refine goesL_ (some 12) rfl rfl Tryz.func61 (by kernel_rfl) rfl #[.bool (decide ((l0.length : Int) ≤ 12)), .int .i64 8] rfl (by (try simp only [List.map_toArray, List.map_cons, List.map_nil]); first | done | rfl | (simp only [List.length_drop, List.length_take]; rfl)) ?_; (with_reducible refine (dam_unless.calls (decide ((l0.length : Int) ≤ 12)) 8 t207002 _ A3.out).mono ?_); rintro e w' ⟨rfl, ⟨nd, rfl⟩⟩; refine ⟨_, rfl, ?_⟩) | ((with_reducible refine gate_dst (N := 13) rfl ?_); refine Kd.R_lit (Kd.int .i64) _ 32 ?hg (N := 13) ?hd (xs := ([t207001, t207002] : List Int)) (inner := [.int .i64 t207001, .int .i64 t207002]) (ok := fun _ => True) (okp := fun _ => True) ?hr ?hp (fun _ hk => hk) trivial (Below.refl _ _) (Nat.le_refl _) (by simp) ?_; (case hd => rfl); (case hg => rfl); (case hr => first | (go_simp; done) | (go_simp; rfl)); (case hp => exact (Reps.one (show Kd.M (Kd.int .i64) _ _ _ t207001 [.int .i64 t207001] from rfl) (Reps.one (show Kd.M (Kd.int .i64) _ _ _ t207002 [.int .i64 t207002] from rfl) (Reps.none _ _)))); intro v207004 w5 ho6 hb hg_ hnew_; clear hg_ hnew_; (first | rw [← Ny207003.out] at ho6 | (simp only [Int.reduceToNat] at ho6; rw [← Ny207003.out] at ho6)); have n0_ := Aside0.mk (Kd.R_lower ho6 (below_size (by repeat (first | (with_reducible first | exact HB.out | apply below_alloc | apply pw_below_drewN | apply below_drew1) | exact HB.out)))); have n1_ := Aside0.mk (below_step (by repeat (first | (with_reducible first | exact HB.out | apply below_alloc | apply pw_below_drewN | apply below_drew1) | exact HB.out)) hb); clear HB; have HO207005 := n0_; have HB := n1_; clear n0_ n1_; clear hb ho6; obtain ⟨Ao7, co7, eo7⟩ := Kd.R_slice HO207005.out; subst eo7) | ((with_reducible refine gate_callee (f := 60) rfl ?_); refine goesL_ (some 14) rfl rfl Tryz.func60 (by kernel_rfl) rfl #[.slice Ao7 y207003.length co7] rfl (by (try simp only [List.map_toArray, List.map_cons, List.map_nil]); first | done | rfl | (simp only [List.length_drop, List.length_take]; rfl)) ?_; (with_reducible refine (dam_first.calls k _ _ y207003 t207006 _ ?side1 ?side2 A4.out).mono ?_); (case side1 => repeat (first | exact (Kd.R_reads' HO207005.out).2.2 | (with_reducible refine Kd.C_alloc ?_ _) | (with_reducible refine Kd.C_drewN ?_ _) | (with_reducible refine Kd.C_drew ?_))); (case side2 => exact (Kd.R_reads' HO207005.out).2.1); rintro e w' ⟨rfl, ⟨nd, rfl⟩⟩; refine ⟨_, rfl, ?_⟩))
  go_loopg [3, 4] k (fun kq v3 v4 w' => ∃ (x3_1 : Int) (x4_1 : Int), v3 = .int .i64 x3_1 ∧ v4 = .int .i64 x4_1 ∧ Aside0 (dam_readingsErr.l0 kq l0 x3_1 x4_1 = some r) ∧ Aside0 (kq ≤ k) ∧ Aside0 (Below w.heap.size w w'))
  case atStart => exact ⟨(t207006), (0), (by first | rfl | (simp; done) | (simp [*]; done)), (by first | rfl | (simp; done) | (simp [*]; done)), H', ⟨Nat.le_refl _⟩, ⟨by repeat (first | (with_reducible first | exact HB.out | apply below_alloc | apply pw_below_drewN | apply below_drew1) | exact HB.out)⟩⟩
  case round =>
    clear H'
    try clear p2
    try clear c6
    obtain ⟨x3_1, x4_1, rfl, rfl, HA, HK1, HB⟩ := hrel
    cases gk with
    | zero => exact absurd HA.out (by simp [dam_readingsErr.l0])
    | succ k1 =>
      have H := HA.out
      clear HA
      simp only [dam_readingsErr.l0] at H
      by_cases c8 : x4_1 < (l0.length : Int)
      · rw [if_pos c8] at H
        have c8b0 : decide (x4_1 < (l0.length : Int)) = true := decide_eq_true c8
        clear c8
        by_cases c9 : x3_1 = 0
        · rw [if_pos c9] at H
          have c9b0 : (x3_1 == 0) = true := beq_iff_eq.mpr c9
          have c9b1 : (x3_1 != 0) = false := bne_eq_false_iff_eq.mpr c9
          clear c9
          by_cases c10 : 0 ≤ x4_1
          · rw [if_pos c10] at H
            have c10b0 : decide (0 ≤ x4_1) = true := decide_eq_true c10
            clear c10
            replace H := Option.bind_eq_some_iff.mp H
            obtain ⟨t207008, A110, H⟩ := H
            replace H : (dam_readingsErr.l0 k1 l0 t207008 (wrap64 (x4_1 + 1))) = some r := H
            have A11 := Aside0.mk A110
            clear A110
            have H' := Aside0.mk H
            clear H
            have p207007 : 0 ≤ (x4_1 : Int) := of_decide_eq_true (by first | (with_reducible assumption) | assumption)
            have q207007 : x4_1 < (l0.length : Int) := of_decide_eq_true (by first | (with_reducible assumption) | assumption)
            obtain ⟨ad207007, e207007, hx207007_0, hx207007_1, hx207007_2⟩ := at_T85 HR0.out x4_1 p207007 q207007
            cases e207007
            replace hx207007_0 := (HB.out.cell (World.block_lt_of_cell? w _ hx207007_0)).trans hx207007_0
            replace hx207007_1 := (HB.out.cell (World.block_lt_of_cell? w _ hx207007_1)).trans hx207007_1
            replace hx207007_2 := (HB.out.cell (World.block_lt_of_cell? w _ hx207007_2)).trans hx207007_2
            replace p207007 := eq_true p207007
            replace q207007 := eq_true q207007
            go_wp2_with (first | ((with_reducible refine gate_callee (f := 102) rfl ?_); refine goesL_ (some 29) rfl rfl Tryz.func102 (by kernel_rfl) rfl #[.agg #[.int .i64 ((rd_T85 l0 x4_1).f0), .int .i64 ((rd_T85 l0 x4_1).f1), .int .i64 ((rd_T85 l0 x4_1).f2)]] rfl (by (try simp only [List.map_toArray, List.map_cons, List.map_nil]); first | done | rfl | (simp only [List.length_drop, List.length_take]; rfl)) ?_; (with_reducible refine (dam_CheckReading.calls ((rd_T85 l0 x4_1).f0) ((rd_T85 l0 x4_1).f1) ((rd_T85 l0 x4_1).f2) t207008 _ A11.out).mono ?_); rintro e w12 ⟨rfl, hb⟩; refine ⟨_, rfl, ?_⟩; have n0_ := Aside0.mk (below_step (by repeat (first | (with_reducible first | exact HB.out | apply below_alloc | apply pw_below_drewN | apply below_drew1) | exact HB.out)) hb); clear HB; have HB := n0_; clear n0_; (try clear hb); (try clear hb2); (try clear hk); (try clear hi)))
            go_roundg k1
            case measure => have := HK1.out; omega
            case rel => exact ⟨(t207008), (wrap64 (x4_1 + 1)), (by first | rfl | (simp; done) | (simp [*]; done)), (by first | rfl | (simp; done) | (simp [*]; done)), H', ⟨by have := HK1.out; omega⟩, ⟨by repeat (first | (with_reducible first | exact HB.out | apply below_alloc | apply pw_below_drewN | apply below_drew1) | exact HB.out)⟩⟩
          · rw [if_neg c10] at H
            exact absurd H (by simp)
        · rw [if_neg c9] at H
          have c9b0 : (x3_1 == 0) = false := beq_eq_false_iff_ne.mpr c9
          have c9b1 : (x3_1 != 0) = true := bne_iff_ne.mpr c9
          obtain rfl := Option.some.inj H
          go_wp2
          go_ret
          exact ⟨by first | rfl | (simp [errW_none, errW_some] <;> rfl) | (simp [*, errW_none, errW_some] <;> rfl), by repeat (first | (with_reducible first | exact HB.out | apply below_alloc | apply pw_below_drewN | apply below_drew1) | exact HB.out)⟩
      · rw [if_neg c8] at H
        have c8b0 : decide (x4_1 < (l0.length : Int)) = false := decide_eq_false c8
        clear c8
        obtain rfl := Option.some.inj H
        go_wp2
        go_ret
        exact ⟨by first | rfl | (simp [errW_none, errW_some] <;> rfl) | (simp [*, errW_none, errW_some] <;> rfl), by repeat (first | (with_reducible first | exact HB.out | apply below_alloc | apply pw_below_drewN | apply below_drew1) | exact HB.out)⟩
def dam_model_err.f (a0 : Int) : Option (Int) := (dam_within.f a0 1 31).bind fun t210001 => ((dam_unless.f t210001 2).bind fun t210002 => (some t210002))
set_option maxHeartbeats 8000000 in
set_option maxRecDepth 100000 in
theorem dam_model_err.calls (a0 : Int) (r : Int) (w : World) (h : dam_model_err.f a0 = some r) :
    Calls Tryz.prog 70 #[.int .i64 a0] w fun e w' => e = .returned (.int .i64 r) ∧ Drawn0 w w' := by
  have H : ((dam_within.f a0 1 31).bind fun t210001 => ((dam_unless.f t210001 2).bind fun t210002 => (some t210002))) = some r := h
  clear h
  replace H := Option.bind_eq_some_iff.mp H
  obtain ⟨t210001, A20, H⟩ := H
  replace H : ((dam_unless.f t210001 2).bind fun t210002 => (some t210002)) = some r := H
  have A2 := Aside0.mk A20
  clear A20
  replace H := Option.bind_eq_some_iff.mp H
  obtain ⟨t210002, A30, H⟩ := H
  replace H : (some t210002) = some r := H
  have A3 := Aside0.mk A30
  clear A30
  obtain rfl := Option.some.inj H
  go_enter Tryz.func70, Tryz.ntmps70
  go_wp2_with (first | ((with_reducible refine gate_callee (f := 65) rfl ?_); refine goesL_ (some 4) rfl rfl Tryz.func65 (by kernel_rfl) rfl #[.int .i64 a0, .int .i64 1, .int .i64 31] rfl (by (try simp only [List.map_toArray, List.map_cons, List.map_nil]); first | done | rfl | (simp only [List.length_drop, List.length_take]; rfl)) ?_; (with_reducible refine (dam_within.calls a0 1 31 t210001 _ A2.out).mono ?_); rintro e w' ⟨rfl, ⟨nd, rfl⟩⟩; refine ⟨_, rfl, ?_⟩) | ((with_reducible refine gate_callee (f := 61) rfl ?_); refine goesL_ (some 5) rfl rfl Tryz.func61 (by kernel_rfl) rfl #[.bool t210001, .int .i64 2] rfl (by (try simp only [List.map_toArray, List.map_cons, List.map_nil]); first | done | rfl | (simp only [List.length_drop, List.length_take]; rfl)) ?_; (with_reducible refine (dam_unless.calls t210001 2 t210002 _ A3.out).mono ?_); rintro e w' ⟨rfl, ⟨nd, rfl⟩⟩; refine ⟨_, rfl, ?_⟩))
  go_ret
  exact ⟨by first | rfl | (simp; done) | (simp [*]; done), by repeat (first | exact Drawn0.refl _ | apply Drawn0.step)⟩
def dam_model_has.f (a0 : Int) (a1 : Int) : Option (Bool) := if 0 ≤ a1 then (some ((Go.bits .and .i64 (shr .i64 a0 a1) 1) == 1)) else (none)
set_option maxHeartbeats 8000000 in
set_option maxRecDepth 100000 in
theorem dam_model_has.calls (a0 : Int) (a1 : Int) (r : Bool) (w : World) (h : dam_model_has.f a0 a1 = some r) :
    Calls Tryz.prog 77 #[.int .i64 a0, .int .i64 a1] w fun e w' => e = .returned (.bool r) ∧ Drawn0 w w' := by
  have H : (if 0 ≤ a1 then (some ((Go.bits .and .i64 (shr .i64 a0 a1) 1) == 1)) else (none)) = some r := h
  clear h
  by_cases c3 : 0 ≤ a1
  · rw [if_pos c3] at H
    have c3b0 := eq_true c3
    have c3b1 : decide (0 ≤ a1) = true := decide_eq_true c3
    clear c3
    obtain ⟨ji4, hji4⟩ : ∃ j_ : Int, (shr .i64 a0 a1) = j_ := ⟨_, rfl⟩
    replace H : (some ((Go.bits .and .i64 (ji4) 1) == 1)) = some r := by first | (rw [hji4] at H; exact H) | (simp only [hji4] at H ⊢; exact H)
    have hji4_ : (a0 / 2 ^ min a1.toNat 64) = ji4 := hji4
    have hji4z : a1 ≤ 64 → (a0 / 2 ^ a1.toNat) = ji4 := shr_small hji4
    obtain rfl := Option.some.inj H
    go_enter Tryz.func77, Tryz.ntmps77
    go_wp2
    go_ret
    exact ⟨by first | rfl | (simp; done) | (simp only [← hji4] <;> (first | rfl | simp)) | (simp [*]; done), by repeat (first | exact Drawn0.refl _ | apply Drawn0.step)⟩
  · rw [if_neg c3] at H
    exact absurd H (by simp)
def dam_model_chosen.l0 : Nat → Int → List Int → Int → Option (List Int)
  | 0, _, _, _ => none
  | k + 1, x0, x3, x5 => if x5 < 5 then ((dam_model_has.f x0 x5).bind fun t213001 => (if t213001 = true then (if x3.length < 17592186044416 then (dam_model_chosen.l0 k x0 (x3 ++ [x5]) (wrap64 (x5 + 1))) else (none)) else (dam_model_chosen.l0 k x0 x3 (wrap64 (x5 + 1))))) else (some x3)
def dam_model_chosen.f (k : Nat) (a0 : Int) : Option (List Int) := dam_model_chosen.l0 k a0 ([] : List Int) 0
theorem dam_model_chosen.mono_l : ∀ k, (∀ y0 y1 y2, LeO (dam_model_chosen.l0 k y0 y1 y2) (dam_model_chosen.l0 (k + 1) y0 y1 y2))
  | 0 => fun _ _ _ r h => by simp [dam_model_chosen.l0] at h
  | k + 1 => by
    have ih0 := dam_model_chosen.mono_l k
    · intro y0 y1 y2
      unfold dam_model_chosen.l0
      repeat' first
      | (with_reducible exact ih0 _ _ _)
      | (with_reducible exact LeO.refl _)
      | (with_reducible exact LeO.none _)
      | (with_reducible refine LeO.ite ?_ ?_)
      | (with_reducible refine LeO.bind ?_ (fun _ => ?_))
      | exact ih0 _ _ _
      | exact LeO.none _
      | refine LeO.ite ?_ ?_
      | refine LeO.bind ?_ (fun _ => ?_)
theorem dam_model_chosen.mono : ∀ a0 k, LeO (dam_model_chosen.f k a0) (dam_model_chosen.f (k + 1) a0) := by
  intro a0 k
  have ih0 := dam_model_chosen.mono_l k
  unfold dam_model_chosen.f
  repeat' first
      | (with_reducible exact ih0 _ _ _)
      | (with_reducible exact LeO.refl _)
      | (with_reducible exact LeO.none _)
      | (with_reducible refine LeO.ite ?_ ?_)
      | (with_reducible refine LeO.bind ?_ (fun _ => ?_))
      | exact ih0 _ _ _
      | exact LeO.none _
      | refine LeO.ite ?_ ?_
      | refine LeO.bind ?_ (fun _ => ?_)
set_option maxHeartbeats 8000000 in
set_option maxRecDepth 100000 in
theorem dam_model_chosen.calls (k : Nat) (a0 : Int) (r : List Int) (w : World) (h : dam_model_chosen.f k a0 = some r) :
    Calls Tryz.prog 71 #[.int .i64 a0] w fun e w' => ∃ v0_ : Value, e = .returned (v0_) ∧ Kd.R (Kd.int .i64) 3 w' w.heap.size (fun _ => True) v0_ r ∧ Below w.heap.size w w' := by
  have HB := Aside0.mk (Below.refl w.heap.size w)
  have H : (dam_model_chosen.l0 k a0 ([] : List Int) 0) = some r := h
  clear h
  have H' := Aside0.mk H
  clear H
  go_enter Tryz.func71, Tryz.ntmps71
  go_wp2
  go_loopg [3, 5] k (fun kq v3 v5 w' => ∃ (x3_1 : List Int) (x5_1 : Int), v5 = .int .i64 x5_1 ∧ Aside0 (dam_model_chosen.l0 kq a0 x3_1 x5_1 = some r) ∧ Aside0 (kq ≤ k) ∧ Aside0 (Kd.R (Kd.int .i64) 3 w' w.heap.size (fun _ => True) v3 x3_1) ∧ Aside0 (Below w.heap.size w w'))
  case atStart => exact ⟨(([] : List Int)), (0), (by first | rfl | (simp; done) | (simp [*]; done)), H', ⟨Nat.le_refl _⟩, ⟨by first | exact Kd.R_nil _ _ _ _ _ | exact Kd.N_nil _ _ _ _ _ | exact Kd.V_nil _ _ _ _ _ | exact Kd.Q_nil _ _ _ _ _ | exact Kd.S_nil _ _ _ _ _⟩, ⟨by repeat (first | (with_reducible first | exact HB.out | apply below_alloc | apply pw_below_drewN | apply below_drew1) | exact HB.out)⟩⟩
  case round =>
    clear H'
    obtain ⟨x3_1, x5_1, rfl, HA, HK1, HO_3, HB⟩ := hrel
    cases gk with
    | zero => exact absurd HA.out (by simp [dam_model_chosen.l0])
    | succ k1 =>
      have H := HA.out
      clear HA
      simp only [dam_model_chosen.l0] at H
      by_cases c2 : x5_1 < 5
      · rw [if_pos c2] at H
        have c2b0 : decide (x5_1 < 5) = true := decide_eq_true c2
        clear c2
        replace H := Option.bind_eq_some_iff.mp H
        obtain ⟨t213001, A30, H⟩ := H
        replace H : (if t213001 = true then (if x3_1.length < 17592186044416 then (dam_model_chosen.l0 k1 a0 (x3_1 ++ [x5_1]) (wrap64 (x5_1 + 1))) else (none)) else (dam_model_chosen.l0 k1 a0 x3_1 (wrap64 (x5_1 + 1)))) = some r := H
        have A3 := Aside0.mk A30
        clear A30
        by_cases c4 : t213001 = true
        · subst c4
          have H1 : (if x3_1.length < 17592186044416 then (dam_model_chosen.l0 k1 a0 (x3_1 ++ [x5_1]) (wrap64 (x5_1 + 1))) else (none)) = some r := by rw [if_pos rfl] at H; exact H
          clear H
          have H := H1
          clear H1
          by_cases c5 : x3_1.length < 17592186044416
          · rw [if_pos c5] at H
            have LMc5 := Aside0.mk c5
            clear c5
            obtain ⟨y213002, hy213002⟩ : ∃ y_ : List Int, y_ = (x3_1 ++ [x5_1]) := ⟨_, rfl⟩
            replace H : (dam_model_chosen.l0 k1 a0 y213002 (wrap64 (x5_1 + 1))) = some r := by first | (rw [hy213002]; with_reducible exact H) | (have H2_ := (Option.bind_some _ _).symm.trans H; rw [hy213002]; with_reducible exact H2_) | (have H2_ := (Option.bind_some _ _).symm.trans H; with_reducible exact H2_) | with_reducible exact H | (rw [hy213002]; exact H) | exact H
            have Ny213002 := Aside0.mk hy213002
            clear hy213002
            have H' := Aside0.mk H
            clear H
            go_wp2_with (first | ((with_reducible refine gate_callee (f := 77) rfl ?_); refine goesL_ (some 10) rfl rfl Tryz.func77 (by kernel_rfl) rfl #[.int .i64 a0, .int .i64 x5_1] rfl (by (try simp only [List.map_toArray, List.map_cons, List.map_nil]); first | done | rfl | (simp only [List.length_drop, List.length_take]; rfl)) ?_; (with_reducible refine (dam_model_has.calls a0 x5_1 true _ A3.out).mono ?_); rintro e w' ⟨rfl, ⟨nd, rfl⟩⟩; refine ⟨_, rfl, ?_⟩) | ((with_reducible refine gate_builtin (b := .append) (xs := #[.tmp 11, .tmp 13]) rfl ?_); at_builtin; refine Kd.R_append (Kd.int .i64) (w0 := w) w.heap.size rfl (.tmp 11) (.tmp 13) 22 3 (.int .i64 0) 8 rfl Tryz.underlying22 info3 rfl (by decide) (by omega) u3 x3_1 x5_1 [.int .i64 x5_1] (fun _ => True) (fun _ => False) rfl rfl ?aP (fun _ hk => hk.elim) ?aF ?aO ?aB ?aS ?aL ?_; (case aP => exact rfl); (case aB => exact (by repeat (first | (with_reducible first | exact HB.out | apply below_alloc | apply pw_below_drewN | apply below_drew1) | exact HB.out))); (case aF => exact (fun _ _ => trivial)); (case aO => exact (by (with_reducible repeat (first | apply Kd.R_alloc | apply Kd.R_drewN | apply Kd.R_drew)); exact HO_3.out)); (case aS => exact (below_size (by repeat (first | (with_reducible first | exact HB.out | apply below_alloc | apply pw_below_drewN | apply below_drew1) | exact HB.out)))); (case aL => have := LMc5.out; omega); intro v213003 w6 ho hb hg hat; rw [← Ny213002.out] at ho; have n0_ := Aside0.mk (hb); have n1_ := Aside0.mk (ho); clear HB; clear HO_3; have HB := n0_; have HO213004 := n1_; clear n0_ n1_; clear ho hb hg hat))
            go_roundg k1
            case measure => have := HK1.out; omega
            case rel => exact ⟨(y213002), (wrap64 (x5_1 + 1)), (by first | rfl | (simp; done) | (simp [*]; done)), H', ⟨by have := HK1.out; omega⟩, ⟨by (with_reducible repeat (first | apply Kd.R_alloc | apply Kd.R_drewN | apply Kd.R_drew)); exact HO213004.out⟩, ⟨by repeat (first | (with_reducible first | exact HB.out | apply below_alloc | apply pw_below_drewN | apply below_drew1) | exact HB.out)⟩⟩
          · rw [if_neg c5] at H
            exact absurd H (by simp)
        · replace c4 := Bool.eq_false_iff.mpr c4
          subst c4
          have H1 : (dam_model_chosen.l0 k1 a0 x3_1 (wrap64 (x5_1 + 1))) = some r := by rw [if_neg (show ¬ (false = true) by decide)] at H; exact H
          clear H
          have H := H1
          clear H1
          have H' := Aside0.mk H
          clear H
          go_wp2_with (first | ((with_reducible refine gate_callee (f := 77) rfl ?_); refine goesL_ (some 10) rfl rfl Tryz.func77 (by kernel_rfl) rfl #[.int .i64 a0, .int .i64 x5_1] rfl (by (try simp only [List.map_toArray, List.map_cons, List.map_nil]); first | done | rfl | (simp only [List.length_drop, List.length_take]; rfl)) ?_; (with_reducible refine (dam_model_has.calls a0 x5_1 false _ A3.out).mono ?_); rintro e w' ⟨rfl, ⟨nd, rfl⟩⟩; refine ⟨_, rfl, ?_⟩))
          go_roundg k1
          case measure => have := HK1.out; omega
          case rel => exact ⟨(x3_1), (wrap64 (x5_1 + 1)), (by first | rfl | (simp; done) | (simp [*]; done)), H', ⟨by have := HK1.out; omega⟩, ⟨by (with_reducible repeat (first | apply Kd.R_alloc | apply Kd.R_drewN | apply Kd.R_drew)); exact HO_3.out⟩, ⟨by repeat (first | (with_reducible first | exact HB.out | apply below_alloc | apply pw_below_drewN | apply below_drew1) | exact HB.out)⟩⟩
      · rw [if_neg c2] at H
        have c2b0 : decide (x5_1 < 5) = false := decide_eq_false c2
        clear c2
        obtain rfl := Option.some.inj H
        go_wp2
        go_ret
        exact ⟨_, by first | rfl | (simp [errW_none, errW_some] <;> rfl) | (simp [*, errW_none, errW_some] <;> rfl), by (with_reducible repeat (first | apply Kd.R_alloc | apply Kd.R_drewN | apply Kd.R_drew)); exact HO_3.out, by repeat (first | (with_reducible first | exact HB.out | apply below_alloc | apply pw_below_drewN | apply below_drew1) | exact HB.out)⟩
def season0 (q : Int) : Int := if q = 0 then 1 else if q = 2 then -1 else 0
def season1 (q : Int) : Int := if q = 1 then 1 else if q = 3 then -1 else 0
def dam_terms.f (a0_0 : Int) (a0_1 : Int) (a0_2 : Int) : Option (Int × Int × Int × Int × Int) := if 0 ≤ a0_0 ∧ a0_0 ≤ 36000 then some (1, a0_1, season0 (a0_0 % 360 * 4 / 360), season1 (a0_0 % 360 * 4 / 360), a0_0 / 360) else none
set_option maxHeartbeats 8000000 in
set_option maxRecDepth 100000 in
theorem dam_terms.calls (a0_0 : Int) (a0_1 : Int) (a0_2 : Int) (r1 : Int) (r2 : Int) (r3 : Int) (r4 : Int) (r5 : Int) (w : World) (h : dam_terms.f a0_0 a0_1 a0_2 = some (r1, r2, r3, r4, r5)) :
    Calls Tryz.prog 72 #[.agg #[.int .i64 a0_0, .int .i64 a0_1, .int .i64 a0_2]] w fun e w' => e = .returned (.agg #[.int .i64 r1, .int .i64 r2, .int .i64 r3, .int .i64 r4, .int .i64 r5]) ∧ Below w.heap.size w w' := by
  have hu := Tryz.underlying85
  have hu2 := Tryz.underlying42
  have hu3 := Tryz.underlying182
  have hu4 := Tryz.underlying183
  unfold dam_terms.f at h
  split at h
  case isFalse => exact absurd h (by simp)
  case isTrue hb =>
    obtain ⟨hb0, hb1⟩ := hb
    simp only [Option.some.injEq, Prod.mk.injEq] at h
    obtain ⟨rfl, rfl, h3, h4, rfl⟩ := h
    have i0 : ∀ w, (Instr.index 183 (.agg #[.int .i64 1, .int .i64 0, .int .i64 0, .int .i64 1, .int .i64 (-1), .int .i64 0, .int .i64 0, .int .i64 (-1)]) (.int .i64 0)).run Tryz.prog w = .ok (.agg #[.int .i64 1, .int .i64 0]) w := fun _ => by kernel_rfl
    have i1 : ∀ w, (Instr.index 183 (.agg #[.int .i64 1, .int .i64 0, .int .i64 0, .int .i64 1, .int .i64 (-1), .int .i64 0, .int .i64 0, .int .i64 (-1)]) (.int .i64 1)).run Tryz.prog w = .ok (.agg #[.int .i64 0, .int .i64 1]) w := fun _ => by kernel_rfl
    have i2 : ∀ w, (Instr.index 183 (.agg #[.int .i64 1, .int .i64 0, .int .i64 0, .int .i64 1, .int .i64 (-1), .int .i64 0, .int .i64 0, .int .i64 (-1)]) (.int .i64 2)).run Tryz.prog w = .ok (.agg #[.int .i64 (-1), .int .i64 0]) w := fun _ => by kernel_rfl
    have i3 : ∀ w, (Instr.index 183 (.agg #[.int .i64 1, .int .i64 0, .int .i64 0, .int .i64 1, .int .i64 (-1), .int .i64 0, .int .i64 0, .int .i64 (-1)]) (.int .i64 3)).run Tryz.prog w = .ok (.agg #[.int .i64 0, .int .i64 (-1)]) w := fun _ => by kernel_rfl
    have hq : a0_0 % 360 * 4 / 360 = 0 ∨ a0_0 % 360 * 4 / 360 = 1 ∨ a0_0 % 360 * 4 / 360 = 2 ∨ a0_0 % 360 * 4 / 360 = 3 := by omega
    rcases hq with hq | hq | hq | hq
    all_goals
      rw [hq] at h3 h4
      have h3' : r3 = _ := h3.symm
      have h4' : r4 = _ := h4.symm
      simp only [season0, season1] at h3' h4'
      subst h3' h4'
      clear h3 h4
      go_enter Tryz.func72, Tryz.ntmps72
      go_wp2
      refine bodyPost_ret (v := .agg #[.int .i64 1, .int .i64 a0_1, .int .i64 _, .int .i64 _, .int .i64 (a0_0 / 360)]) (by simp [results, Tryz.results72, go_sem]) rfl ⟨rfl, ?_⟩
      exact below_alloc (below_alloc (below_alloc (Below.refl _ _) _) _) _
def slices_Clone_int_int.f (l0 : List Int) : Option (List Int) := if l0.length < 17592186044416 then some l0 else none
set_option maxHeartbeats 8000000 in
set_option maxRecDepth 100000 in
theorem slices_Clone_int_int.calls (A0 : Option Addr) (c0 : Nat) (l0 : List Int) (r : List Int) (w : World) (hr0 : Kd.C (Kd.int .i64) w A0 l0.length l0) (hc0 : l0.length ≤ c0) (h : slices_Clone_int_int.f l0 = some r) :
    Calls Tryz.prog 74 #[.slice A0 l0.length c0] w fun e w' => ∃ v0_ : Value, e = .returned (v0_) ∧ Kd.R (Kd.int .i64) 3 w' w.heap.size (fun _ => True) v0_ r ∧ Below w.heap.size w w' := by
  have HR0 := Aside0.mk hr0
  have HC0 := Aside0.mk hc0
  have HB := Aside0.mk (Below.refl w.heap.size w)
  have hh : l0.length < 17592186044416 ∧ l0 = r := by
    unfold slices_Clone_int_int.f at h
    split at h
    · exact ⟨by assumption, Option.some.inj h⟩
    · exact absurd h (by simp)
  clear h
  obtain ⟨hl, rfl⟩ := hh
  have LM := Aside0.mk hl
  clear hl
  have qT : ∀ (w : World) (a : Option Addr) (n c n' c' : Nat), (binOp .eql 22 (.slice a n c) (.slice none n' c')).run Tryz.prog w = .ok (.bool a.isNone) w := fun w a n c n' c' => Lib.run_eql_slice_nil w _ _ a n c n' c' Tryz.underlying22
  cases A0 with
  | none =>
    have hz : l0 = [] := by
      rcases Nat.eq_zero_or_pos l0.length with h0 | h0
      · exact List.eq_nil_of_length_eq_zero h0
      · obtain ⟨ad, he, _⟩ := hr0.2.2 h0
        exact absurd he (by simp)
    subst hz
    clear hr0 hc0
    go_enter Tryz.func74, Tryz.ntmps74
    go_wp2
    go_ret
    exact ⟨_, rfl, Kd.R_nil _ _ _ _ _, HB.out⟩
  | some ad =>
    clear hr0 hc0
    obtain ⟨y1, hy1⟩ : ∃ y_ : List Int, y_ = ([] : List Int) := ⟨_, rfl⟩
    have Ny1 := Aside0.mk hy1
    clear hy1
    obtain ⟨y2, hy2⟩ : ∃ y_ : List Int, y_ = y1 ++ l0 := ⟨_, rfl⟩
    have Ny2 := Aside0.mk hy2
    clear hy2
    go_enter Tryz.func74, Tryz.ntmps74
    go_wp2_with (first | ((with_reducible refine gate_dst (N := 5) rfl ?_); refine Kd.R_lit (Kd.int .i64) _ 3 ?hg (N := 5) ?hd (xs := ([] : List Int)) (inner := []) (ok := fun _ => True) (okp := fun _ => True) ?hr ?hp (fun _ hk => hk) trivial (Below.refl _ _) (Nat.le_refl _) (by simp) ?_; (case hd => rfl); (case hg => rfl); (case hr => first | (go_simp; done) | (go_simp; rfl)); (case hp => exact (Reps.none _ _)); intro v356 w3 ho4 hb hg_ hnew_; clear hg_ hnew_; rw [← Ny1.out] at ho4; have n0_ := Aside0.mk (Kd.R_lower ho4 (below_size HB.out)); have n1_ := Aside0.mk (below_step HB.out hb); clear HB; have HO357 := n0_; have HB := n1_; clear n0_ n1_; clear hb ho4) | ((with_reducible refine gate_builtin (b := .append) (xs := #[.tmp 5, .tmp 6]) rfl ?_); at_builtin; refine Kd.R_append_rows (Kd.int .i64) (w0 := w) w.heap.size rfl (.tmp 5) (.tmp 6) 22 3 (.int .i64 0) 8 rfl Tryz.underlying22 info3 rfl (by decide) (by omega) v356 y1 l0 _ _ _ (fun _ => True) (fun _ => False) rfl rfl ?aO ?aR (fun _ _ h => h) (fun _ h => h.elim) ?aF ?aB ?aS ?aL ?_; (case aR => exact (Kd.C_below HR0.out HB.out)); (case aB => exact HB.out); (case aF => exact (fun _ _ => trivial)); (case aO => exact HO357.out); (case aS => exact (below_size HB.out)); (case aL => have := LM.out; rw [Ny1.out]; simp only [List.length_nil]; omega); intro v374 w5 ho hb hg hat; rw [← Ny2.out] at ho; have n0_ := Aside0.mk (hb); have n1_ := Aside0.mk (ho); clear HB; clear HO357; have HB := n0_; have HO375 := n1_; clear n0_ n1_; clear ho hb hg hat))
    go_ret
    exact ⟨_, rfl, by have := HO375.out; rw [Ny2.out, Ny1.out] at this; simpa using this, HB.out⟩
def slices_Index_int_int.l0 : Nat → List Int → Int → Int → Int → Option (Int)
  | 0, _, _, _, _ => none
  | k + 1, x0, x1, x7, x8 => if x8 < x7 then (if 0 ≤ x8 then (if x8 < (x0.length : Int) then (if x1 = (rd x0 x8) then (some x8) else (slices_Index_int_int.l0 k x0 x1 x7 (wrap64 (x8 + 1)))) else (none)) else (none)) else (some (-1))
def slices_Index_int_int.f (k : Nat) (l0 : List Int) (a1 : Int) : Option (Int) := slices_Index_int_int.l0 k l0 a1 (l0.length : Int) 0
theorem slices_Index_int_int.mono_l : ∀ k, (∀ y0 y1 y2 y3, LeO (slices_Index_int_int.l0 k y0 y1 y2 y3) (slices_Index_int_int.l0 (k + 1) y0 y1 y2 y3))
  | 0 => fun _ _ _ _ r h => by simp [slices_Index_int_int.l0] at h
  | k + 1 => by
    have ih0 := slices_Index_int_int.mono_l k
    · intro y0 y1 y2 y3
      unfold slices_Index_int_int.l0
      repeat' first
      | (with_reducible exact ih0 _ _ _ _)
      | (with_reducible exact LeO.refl _)
      | (with_reducible exact LeO.none _)
      | (with_reducible refine LeO.ite ?_ ?_)
      | (with_reducible refine LeO.bind ?_ (fun _ => ?_))
      | exact ih0 _ _ _ _
      | exact LeO.none _
      | refine LeO.ite ?_ ?_
      | refine LeO.bind ?_ (fun _ => ?_)
theorem slices_Index_int_int.mono : ∀ a0 a1 k, LeO (slices_Index_int_int.f k a0 a1) (slices_Index_int_int.f (k + 1) a0 a1) := by
  intro a0 a1 k
  have ih0 := slices_Index_int_int.mono_l k
  unfold slices_Index_int_int.f
  repeat' first
      | (with_reducible exact ih0 _ _ _ _)
      | (with_reducible exact LeO.refl _)
      | (with_reducible exact LeO.none _)
      | (with_reducible refine LeO.ite ?_ ?_)
      | (with_reducible refine LeO.bind ?_ (fun _ => ?_))
      | exact ih0 _ _ _ _
      | exact LeO.none _
      | refine LeO.ite ?_ ?_
      | refine LeO.bind ?_ (fun _ => ?_)
set_option maxHeartbeats 8000000 in
set_option maxRecDepth 100000 in
theorem slices_Index_int_int.calls (k : Nat) (A0 : Option Addr) (c0 : Nat) (l0 : List Int) (a1 : Int) (r : Int) (w : World) (hr0 : Kd.C (Kd.int .i64) w A0 l0.length l0) (hc0 : l0.length ≤ c0) (h : slices_Index_int_int.f k l0 a1 = some r) :
    Calls Tryz.prog 178 #[.slice A0 l0.length c0, .int .i64 a1] w fun e w' => e = .returned (.int .i64 r) ∧ Drawn0 w w' := by
  have HR0 := Aside0.mk hr0
  have HC0 := Aside0.mk hc0
  clear hr0 hc0
  have H : (slices_Index_int_int.l0 k l0 a1 (l0.length : Int) 0) = some r := h
  clear h
  have H' := Aside0.mk H
  clear H
  go_enter Tryz.func178, Tryz.ntmps178
  go_wp2
  go_loopg [8] k (fun kq v8 w' => ∃ (x8_1 : Int), v8 = .int .i64 x8_1 ∧ Aside0 (slices_Index_int_int.l0 kq l0 a1 (l0.length : Int) x8_1 = some r) ∧ Aside0 (kq ≤ k) ∧ Drawn0 w w')
  case atStart => exact ⟨(0), (by first | rfl | (simp; done) | (simp [*]; done)), H', ⟨Nat.le_refl _⟩, by repeat (first | exact Drawn0.refl _ | apply Drawn0.step)⟩
  case round =>
    clear H'
    try clear c1
    try clear p2
    obtain ⟨x8_1, rfl, HA, HK1, ⟨m1, rfl⟩⟩ := hrel
    cases gk with
    | zero => exact absurd HA.out (by simp [slices_Index_int_int.l0])
    | succ k1 =>
      have H := HA.out
      clear HA
      simp only [slices_Index_int_int.l0] at H
      by_cases c3 : x8_1 < (l0.length : Int)
      · rw [if_pos c3] at H
        have c3b0 : decide (x8_1 < (l0.length : Int)) = true := decide_eq_true c3
        clear c3
        by_cases c4 : 0 ≤ x8_1
        · rw [if_pos c4] at H
          have c4b0 : decide (0 ≤ x8_1) = true := decide_eq_true c4
          clear c4
          by_cases c5 : x8_1 < (l0.length : Int)
          · rw [if_pos c5] at H
            have c5b0 : decide (x8_1 < (l0.length : Int)) = true := decide_eq_true c5
            clear c5
            by_cases c6 : a1 = (rd l0 x8_1)
            · rw [if_pos c6] at H
              have c6b0 : (a1 == (rd l0 x8_1)) = true := beq_iff_eq.mpr c6
              have c6b1 : (a1 != (rd l0 x8_1)) = false := bne_eq_false_iff_eq.mpr c6
              clear c6
              obtain rfl := Option.some.inj H
              have p534001 : 0 ≤ (x8_1 : Int) := of_decide_eq_true (by first | (with_reducible assumption) | assumption)
              have q534001 : x8_1 < (l0.length : Int) := of_decide_eq_true (by first | (with_reducible assumption) | assumption)
              obtain ⟨ad534001, e534001, hx534001_0⟩ := Kd.at_int HR0.out x8_1 p534001 q534001
              cases e534001
              replace p534001 := eq_true p534001
              replace q534001 := eq_true q534001
              go_wp2
              go_ret
              exact ⟨by first | rfl | (simp; done) | (simp [*]; done), by repeat (first | exact Drawn0.refl _ | apply Drawn0.step)⟩
            · rw [if_neg c6] at H
              have c6b0 : (a1 == (rd l0 x8_1)) = false := beq_eq_false_iff_ne.mpr c6
              have c6b1 : (a1 != (rd l0 x8_1)) = true := bne_iff_ne.mpr c6
              have H' := Aside0.mk H
              clear H
              have p534001 : 0 ≤ (x8_1 : Int) := of_decide_eq_true (by first | (with_reducible assumption) | assumption)
              have q534001 : x8_1 < (l0.length : Int) := of_decide_eq_true (by first | (with_reducible assumption) | assumption)
              obtain ⟨ad534001, e534001, hx534001_0⟩ := Kd.at_int HR0.out x8_1 p534001 q534001
              cases e534001
              replace p534001 := eq_true p534001
              replace q534001 := eq_true q534001
              go_wp2
              go_roundg k1
              case measure => have := HK1.out; omega
              case rel => exact ⟨(wrap64 (x8_1 + 1)), (by first | rfl | (simp; done) | (simp [*]; done)), H', ⟨by have := HK1.out; omega⟩, by repeat (first | exact Drawn0.refl _ | apply Drawn0.step)⟩
          · rw [if_neg c5] at H
            exact absurd H (by simp)
        · rw [if_neg c4] at H
          exact absurd H (by simp)
      · rw [if_neg c3] at H
        have c3b0 : decide (x8_1 < (l0.length : Int)) = false := decide_eq_false c3
        clear c3
        obtain rfl := Option.some.inj H
        go_wp2
        go_ret
        exact ⟨by first | rfl | (simp; done) | (simp [*]; done), by repeat (first | exact Drawn0.refl _ | apply Drawn0.step)⟩
def slices_Contains_int_int.f (k : Nat) (l0 : List Int) (a1 : Int) : Option (Bool) := (slices_Index_int_int.f k l0 a1).bind fun t495001 => (some (decide (t495001 ≥ 0)))
theorem slices_Contains_int_int.mono : ∀ a0 a1 k, LeO (slices_Contains_int_int.f k a0 a1) (slices_Contains_int_int.f (k + 1) a0 a1) := by
  intro a0 a1 k
  unfold slices_Contains_int_int.f
  repeat' first
      | (with_reducible exact slices_Index_int_int.mono _ _ _)
      | (with_reducible exact LeO.refl _)
      | (with_reducible exact LeO.none _)
      | (with_reducible refine LeO.ite ?_ ?_)
      | (with_reducible refine LeO.bind ?_ (fun _ => ?_))
      | exact slices_Index_int_int.mono _ _ _
      | exact LeO.none _
      | refine LeO.ite ?_ ?_
      | refine LeO.bind ?_ (fun _ => ?_)
set_option maxHeartbeats 8000000 in
set_option maxRecDepth 100000 in
theorem slices_Contains_int_int.calls (k : Nat) (A0 : Option Addr) (c0 : Nat) (l0 : List Int) (a1 : Int) (r : Bool) (w : World) (hr0 : Kd.C (Kd.int .i64) w A0 l0.length l0) (hc0 : l0.length ≤ c0) (h : slices_Contains_int_int.f k l0 a1 = some r) :
    Calls Tryz.prog 165 #[.slice A0 l0.length c0, .int .i64 a1] w fun e w' => e = .returned (.bool r) ∧ Drawn0 w w' := by
  have HR0 := Aside0.mk hr0
  have HC0 := Aside0.mk hc0
  clear hr0 hc0
  have H : ((slices_Index_int_int.f k l0 a1).bind fun t495001 => (some (decide (t495001 ≥ 0)))) = some r := h
  clear h
  replace H := Option.bind_eq_some_iff.mp H
  obtain ⟨t495001, A30, H⟩ := H
  replace H : (some (decide (t495001 ≥ 0))) = some r := H
  have A3 := Aside0.mk A30
  clear A30
  obtain rfl := Option.some.inj H
  go_enter Tryz.func165, Tryz.ntmps165
  go_wp2_with (first | ((with_reducible refine gate_callee (f := 178) rfl ?_); refine goesL_ (some 7) rfl rfl Tryz.func178 (by kernel_rfl) rfl #[.slice A0 l0.length c0, .int .i64 a1] rfl (by (try simp only [List.map_toArray, List.map_cons, List.map_nil]); first | done | rfl | (simp only [List.length_drop, List.length_take]; rfl)) ?_; (with_reducible refine (slices_Index_int_int.calls k _ _ l0 a1 t495001 _ ?side1 ?side2 A3.out).mono ?_); (case side1 => repeat (first | exact HR0.out | (with_reducible refine Kd.C_alloc ?_ _) | (with_reducible refine Kd.C_drewN ?_ _) | (with_reducible refine Kd.C_drew ?_))); (case side2 => exact HC0.out); rintro e w' ⟨rfl, ⟨nd, rfl⟩⟩; refine ⟨_, rfl, ?_⟩))
  go_ret
  exact ⟨by first | rfl | (simp; done) | (simp [*]; done), by repeat (first | exact Drawn0.refl _ | apply Drawn0.step)⟩
end Go.Proofs.YteopooljohdoiaaGreat.Px
namespace Go.Proofs.YteopooljohdoiaaGreat.Px
open Go.RowKit Go.Proofs.YteopooljohdoiaaGreatW.PrintWords Go.Proofs.YteopooljohdoiaaGreatW.PrintLast Go.Proofs.YteopooljohdoiaaGreatW.PrintMore
attribute [local go_sem] max2_int min2_int max_two min_two max_three min_three max_four min_four
theorem index_says (l0 : List Int) (a1 : Int) (hlen : l0.length < 4611686018427387904) (d : Nat) : ∀ (i k : Nat), i + d = l0.length → d < k → (∀ j, j < i → l0.getD j 0 ≠ a1) →
    ∃ r, slices_Index_int_int.l0 k l0 a1 (l0.length : Int) (i : Int) = some r ∧ decide (r ≥ 0) = l0.contains a1 := by
  induction d with
  | zero =>
    intro i k hi hk hno
    obtain ⟨k, rfl⟩ : ∃ m, k = m + 1 := ⟨k - 1, by omega⟩
    refine ⟨-1, by simp only [slices_Index_int_int.l0]; rw [if_neg (by omega)], ?_⟩
    have : l0.contains a1 = false := by
      rw [Bool.eq_false_iff]
      intro h
      rw [List.contains_iff_mem] at h
      obtain ⟨j, hj, e⟩ := List.getElem_of_mem h
      refine hno j (by omega) ?_
      rw [List.getD_eq_getElem?_getD, List.getElem?_eq_getElem hj]
      exact e
    rw [this]
    rfl
  | succ d ih =>
    intro i k hi hk hno
    obtain ⟨k, rfl⟩ : ∃ m, k = m + 1 := ⟨k - 1, by omega⟩
    by_cases e : a1 = rd l0 (i : Int)
    · refine ⟨(i : Int), by simp only [slices_Index_int_int.l0]; rw [if_pos (by omega), if_pos (by omega), if_pos (by omega), if_pos e], ?_⟩
      have hj : i < l0.length := by omega
      have : l0.contains a1 = true := by
        rw [List.contains_iff_mem, e]
        show l0.getD (i : Int).toNat 0 ∈ l0
        rw [Int.toNat_natCast, List.getD_eq_getElem?_getD, List.getElem?_eq_getElem hj]
        exact List.getElem_mem hj
      rw [this]
      simp
    · obtain ⟨r, hr, h2⟩ := ih (i + 1) k (by omega) (by omega) (fun j hj => by
        by_cases ej : j = i
        · subst ej
          exact fun h => e h.symm
        · exact hno j (by omega))
      refine ⟨r, ?_, h2⟩
      simp only [slices_Index_int_int.l0]
      rw [if_pos (by omega), if_pos (by omega), if_pos (by omega), if_neg e, show wrap64 ((i : Int) + 1) = ((i + 1 : Nat) : Int) from by unfold wrap64; omega]
      exact hr
theorem contains_says (l0 : List Int) (a1 : Int) (hlen : l0.length < 4611686018427387904) : slices_Contains_int_int.f (l0.length + 1) l0 a1 = some (l0.contains a1) := by
  obtain ⟨r, hr, h⟩ := index_says l0 a1 hlen l0.length 0 (l0.length + 1) (by omega) (by omega) (fun j hj => absurd hj (Nat.not_lt_zero _))
  have hr' : slices_Index_int_int.l0 (l0.length + 1) l0 a1 (l0.length : Int) 0 = some r := hr
  unfold slices_Contains_int_int.f slices_Index_int_int.f
  rw [hr']
  simp only [Option.bind_some, h]
section
open Go.Shelf
attribute [local go_sem] Oper.semAt_some
theorem ord_room (k : Nat) : Fence.wide.room k := fun d h => by cases h
theorem YieldAt.anyD {m : Nat} (m' : Nat) {P : Program} {l : Nat} {args : Array Value} {W : World} {R : Ending → World → Prop} (h : YieldAt Fence.wide m P l args W R) : YieldAt Fence.wide m' P l args W R := by
  obtain ⟨fn, tmps, assign, body, hy, hR⟩ := h
  exact ⟨fn, tmps, assign, body, hy, hR.1, fun c cs _ => hR.2 c cs (ord_room _)⟩
def OrdRound (count l s : Nat) (J : List (List Int × Int) → World → Prop) : Prop :=
  ∀ m pre (A : Option Addr) (c : Nat) (o : List Int) (sg : Int) (W1 : World), J pre W1 → o.length = count → (∀ x ∈ o, 0 ≤ x ∧ x < count) → Kd.C (Kd.int .i64) W1 A o.length o → o.length ≤ c →
    YieldAt Fence.wide m Tryz.prog l #[.slice A o.length c, .int .i64 sg] W1 fun e W' => e = .returned (.bool true) ∧ J (pre ++ [(o, sg)]) W' ∧ KeepSL s l W1 W'
def OrdKept (l s : Nat) (J : List (List Int × Int) → World → Prop) : Prop :=
  ∀ pre W, J pre W → l < W.heap.size ∧ s < W.heap.size ∧ ∀ W', Below W.heap.size W W' → J pre W'
theorem C_keepSL {s l : Nat} {W W' : World} {A : Option Addr} {xs : List Int} (h : Kd.C (Kd.int .i64) W A xs.length xs) (hk : KeepSL s l W W') (hA : ∀ ad, A = some ad → 0 < xs.length → ad.block ≠ s ∧ ad.block ≠ l) : Kd.C (Kd.int .i64) W' A xs.length xs := by
  refine Kd.C_of_reads (d := (0 : Int)) (h1 := fun _ => rfl) ⟨rfl, h.2.1, fun hn => ?_⟩
  obtain ⟨ad, e, _⟩ := h.2.2 hn
  subst e
  obtain ⟨h1, h2⟩ := hA ad rfl hn
  refine ⟨ad, rfl, fun j hj => ?_⟩
  obtain ⟨ad', e', hc⟩ := Kd.at_int h (j : Int) (by omega) (by omega)
  cases e'
  rw [Int.toNat_natCast] at hc
  have hb : (ad.add j).block = ad.block := by unfold Addr.add; split <;> rfl
  have hlt := World.block_lt_of_cell? W _ hc
  unfold World.cell? at hc ⊢
  rw [hk.2 _ hlt (by rw [hb]; exact h1) (by rw [hb]; exact h2)]
  exact hc
theorem ord_next {count l s d : Nat} {J : List (List Int × Int) → World → Prop}
    (ih : ∀ (n : Nat) (A : Option Addr) (c : Nat) (b : List Int) (sg : Int) (pre : List (List Int × Int)) (W : World), b.length + d = count → (∀ x ∈ b, 0 ≤ x ∧ x < count) → (sg = 1 ∨ sg = -1) → Kd.C (Kd.int .i64) W A b.length b → b.length ≤ c →
      (∀ ad, A = some ad → 0 < b.length → ad.block ≠ s ∧ ad.block ≠ l) → J pre W →
      CallsIn Fence.wide n Tryz.prog 145 #[.slice A b.length c, .int .i64 count, .int .i64 sg, .func (.yield l) #[] #[]] W fun e W' =>
        e = .returned (.bool true) ∧ J (pre ++ permsOf count d b sg) W' ∧ KeepSL s l W W') (hK : OrdKept l s J) (n : Nat)
    {b : List Int} (hb : ∀ x ∈ b, 0 ≤ x ∧ x < count) (hd : b.length + (d + 1) = count) {sg : Int} (hsg : sg = 1 ∨ sg = -1) {k : Nat} (hk : k < count) {pre : List (List Int × Int)} {wr w1 w2 w3 : World} {v1 v3 : Value}
    (hJ : J pre wr) (h1 : Below wr.heap.size wr w1) (hR1 : Kd.R (Kd.int .i64) 3 w2 w1.heap.size (fun _ => True) v1 b) (h2 : Below w1.heap.size w1 w2)
    (hown : w3.ownsRow w1.heap.size 3 1 v3 (b.length + 1) (encs (Value.int .i64) b ++ [.int .i64 (k : Int)])) (hgr : (w2.alloc (.cells #[.int .i64 (k : Int)] 3)).grownBy w3 v1.ownBlock) :
    ∃ A3 c3, v3 = .slice A3 (b.length + 1) c3 ∧ CallsIn Fence.wide n Tryz.prog 145 #[.slice A3 (b.length + 1) c3, .int .i64 count, .int .i64 sg, .func (.yield l) #[] #[]] w3 fun e W' =>
        e = .returned (.bool true) ∧ J (pre ++ permsOf count d (b ++ [(k : Int)]) sg) W' ∧ KeepSL s l wr W' := by
  have hl : (b ++ [(k : Int)]).length = b.length + 1 := by simp
  have ho : w3.ownsRow w1.heap.size 3 1 v3 (b ++ [(k : Int)]).length (encs (Value.int .i64) (b ++ [(k : Int)])) := by
    rw [hl]
    simpa [encs] using hown
  have hR3 : Kd.R (Kd.int .i64) 3 w3 w1.heap.size (fun _ => True) v3 (b ++ [(k : Int)]) := Kd.R_of_own ho (fun _ _ => trivial)
  obtain ⟨A3, c3, e3, hle, hC3⟩ := Kd.R_reads hR3
  obtain ⟨hl1, hs1, hJb⟩ := hK _ _ hJ
  have hb13 : Below w1.heap.size w1 w3 := by
    refine (h2.alloc h2.size _).grown hgr (by have := h2.size; simp; omega) ?_
    exact fun q hq => Kd.R_base hR1 q hq
  have hb3 : Below wr.heap.size wr w3 := below_step h1 hb13
  have h := ih n A3 c3 (b ++ [(k : Int)]) sg pre w3 (by rw [hl]; omega) (fun x hx => by
    rcases List.mem_append.1 hx with h | h
    · exact hb x h
    · rw [List.mem_singleton.1 h]
      omega) hsg hC3 hle (fun ad e hpos => by
    obtain ⟨g, cap, ef, hg, _⟩ := Kd.R_form hR3 hpos
    rw [e3, e] at ef
    injection ef with ef
    injection ef with ef
    have := h1.size
    rw [ef]
    exact ⟨by show g ≠ s; omega, by show g ≠ l; omega⟩) (hJb _ hb3)
  rw [hl] at h e3
  exact ⟨A3, c3, e3, h.mono fun e W' ⟨he, hj, hk'⟩ => ⟨he, hj, (KeepSL.of_below hb3).trans hk'⟩⟩
set_option maxHeartbeats 4000000 in
set_option maxRecDepth 100000 in
theorem ordered_in (count l s : Nat) (hcount : count ≤ 1000) (J : List (List Int × Int) → World → Prop) (hY : OrdRound count l s J) (hK : OrdKept l s J) (d : Nat) :
    ∀ (n : Nat) (A : Option Addr) (c : Nat) (b : List Int) (sg : Int) (pre : List (List Int × Int)) (W : World), b.length + d = count → (∀ x ∈ b, 0 ≤ x ∧ x < count) → (sg = 1 ∨ sg = -1) → Kd.C (Kd.int .i64) W A b.length b → b.length ≤ c →
      (∀ ad, A = some ad → 0 < b.length → ad.block ≠ s ∧ ad.block ≠ l) → J pre W →
      CallsIn Fence.wide n Tryz.prog 145 #[.slice A b.length c, .int .i64 count, .int .i64 sg, .func (.yield l) #[] #[]] W fun e W' =>
        e = .returned (.bool true) ∧ J (pre ++ permsOf count d b sg) W' ∧ KeepSL s l W W' := by
  induction d with
  | zero =>
    intro n A c b sg pre W hd hb hsg hC hc hA hJ
    have hlen : b.length = count := by omega
    have hR := hY (n - 1) pre A c b sg W hJ hlen hb hC hc
    obtain ⟨fn, tmps, assign, body, hy, hR⟩ := hR
    have HR := Aside0.mk hR
    have HL := Aside0.mk hlen
    clear hR hJ hC hA hb hsg hd hY hK hlen hc
    have hbq : ((b.length : Int) == (count : Int)) = true := by rw [HL.out]; simp
    refine callsIn_of_wp Tryz.func145 rfl trivial ?_ rfl
    simp only [Tryz.ntmps145, List.size_toArray, List.length_cons, List.length_nil, Nat.reduceAdd, Nat.reduceSub, Array.replicate_succ, Array.replicate_zero, List.push_toArray, List.append_toArray, List.nil_append, List.cons_append]
    gi_wp2_with ((try refine ⟨fun h => (by cases h), ?_⟩); refine HR.out.mono ?_; rintro e W' ⟨rfl, hJ', hk⟩; have HJ := Aside0.mk hJ'; have HKK := Aside0.mk hk; clear hJ' hk)
    go_ret
    exact ⟨rfl, by simpa [permsOf] using HJ.out, HKK.out⟩
  | succ d ih =>
    intro n A c b sg pre W hd hb hsg hC hc hA hJ
    have HIH := Aside0.mk ih
    have HHK := Aside0.mk hK
    have HC := Aside0.mk hC
    have HAA := Aside0.mk hA
    have HB := Aside0.mk hb
    have HD := Aside0.mk hd
    have hbq : ((b.length : Int) == (count : Int)) = false := by have := HD.out; rw [beq_eq_false_iff_ne]; omega
    have HSG := Aside0.mk hsg
    have HJ0 := Aside0.mk hJ
    have HCAP := Aside0.mk hc
    have HCO := Aside0.mk (contains_says b)
    have hblt : b.length < 1000 := by omega
    clear hY hK ih hd hb hsg hC hc hA hJ
    refine callsIn_of_wp Tryz.func145 rfl trivial ?_ rfl
    simp only [Tryz.ntmps145, List.size_toArray, List.length_cons, List.length_nil, Nat.reduceAdd, Nat.reduceSub, Array.replicate_succ, Array.replicate_zero, List.push_toArray, List.append_toArray, List.nil_append, List.cons_append]
    gi_wp2_with fail
    gi_loopw [2, 9, 19] (fun s2 s9 s19 wr => ∃ (k : Nat) (sg2 : Int) (dn : List (List Int × Int)), k ≤ count ∧ s19 = .int .i64 k ∧ s2 = .int .i64 sg2 ∧ Aside0 ((sg2 = 1 ∨ sg2 = -1) ∧ permLoop (permsOf count d) b (List.range count) sg = dn ++ permLoop (permsOf count d) b ((List.range count).drop k) sg2 ∧ J (pre ++ dn) wr ∧ KeepSL s l W wr)) (fun _ _ s19 _ => count - (intOf s19).toNat)
    case atStart => exact ⟨0, sg, [], Nat.zero_le _, rfl, rfl, ⟨HSG.out, by simp, by simpa using HJ0.out, KeepSL.refl _ _ _⟩⟩
    case round =>
      obtain ⟨k, sg2, dn, hk, rfl, rfl, HR⟩ := hrel
      by_cases hlt : k < count
      · have hltz : (k : Int) < (count : Int) := by omega
        obtain ⟨hs2, hpl, hJr, hkr⟩ := HR.out
        have HCr := Aside0.mk (C_keepSL HC.out hkr HAA.out)
        have hstep := hpl
        rw [range_drop count k hlt] at hstep
        simp only [permLoop] at hstep
        have hco := HCO.out (k : Int) (by omega)
        cases hcb : b.contains (k : Int) with
        | true =>
          rw [hcb] at hco hstep
          rw [if_pos rfl] at hstep
          have HCC := Aside0.mk (slices_Contains_int_int.calls (b.length + 1) A c b (k : Int) true wr HCr.out HCAP.out hco)
          have HST := Aside0.mk hstep
          have HS2 := Aside0.mk hs2
          have HJR := Aside0.mk hJr
          have HKR := Aside0.mk hkr
          clear hs2 hpl hJr hkr hstep hco hcb HR
          gi_wp2_with (refine ⟨trivial, ⟨fun h => (by cases h), ?_⟩⟩; gi_at_call 165; refine (callsIn_wide.2 HCC.out).mono ?_; rintro e w' ⟨rfl, hd⟩; have HD2 := Aside0.mk hd.below; clear hd)
          go_roundw
          case rel => exact ⟨k + 1, sg2, dn, by omega, by go_num, rfl, ⟨HS2.out, HST.out, (HHK.out _ _ HJR.out).2.2 _ HD2.out, HKR.out.trans (KeepSL.of_below HD2.out)⟩⟩
          case measure => simp [intOf]; omega
        | false =>
          rw [hcb] at hco hstep
          rw [if_neg (by decide)] at hstep
          have HCC := Aside0.mk (slices_Contains_int_int.calls (b.length + 1) A c b (k : Int) false wr HCr.out HCAP.out hco)
          have HST := Aside0.mk hstep
          have HS2 := Aside0.mk hs2
          have HJR := Aside0.mk hJr
          have HKR := Aside0.mk hkr
          clear hs2 hpl hJr hkr hstep hco hcb HR
          have hcl : slices_Clone_int_int.f b = some b := by unfold slices_Clone_int_int.f; rw [if_pos (by omega)]
          have HCL := Aside0.mk hcl
          clear hcl
          obtain ⟨i0, hi, hz0, hz1, hz2⟩ := info_parts info3
          gi_wp2_with (first
            | (refine ⟨trivial, ⟨fun h => (by cases h), ?_⟩⟩; gi_at_call 165; refine (callsIn_wide.2 HCC.out).mono ?_; rintro e w1 ⟨rfl, hd⟩; have HD2 := Aside0.mk hd.below; clear hd)
            | (refine ⟨trivial, ⟨fun h => (by cases h), ?_⟩⟩; gi_at_call 74; refine (callsIn_wide.2 (slices_Clone_int_int.calls A c b b w1 (Kd.C_below HCr.out HD2.out) HCAP.out HCL.out)).mono ?_; rintro e w2 ⟨v1, rfl, hR1, hb1⟩; have HR1 := Aside0.mk hR1; have HB1 := Aside0.mk hb1; clear hR1 hb1)
            | (gi_at_builtin; refine wpListIn_append_own _ rfl (.tmp 26) (.tmp 28) 22 rfl w1.heap.size 3 i0 (.int .i64 0) 1 8 Tryz.underlying22 hi hz0 hz1 hz2 rfl (by decide) v1 b.length (encs (Value.int .i64) b) rfl ((Kd.own_of_R HR1.out).alloc _) ⟨w2.heap.size, 0, none⟩ 1 1 [.int .i64 (k : Int)] rfl rfl (Go.cell_one_new _ _ _) (by simp [Value.oneCell']) (by simp only [maxLen]; omega) (by omega) (by have := HB1.out.size; simp; omega) ?_; intro v3 w3 hown hgr _; obtain ⟨A3, c3, e3, hih⟩ := ord_next HIH.out HHK.out (n - 1) HB.out HD.out HS2.out hlt (k := k) HJR.out HD2.out HR1.out HB1.out hown hgr; subst e3; have HIH2 := Aside0.mk hih; clear hown hgr hih)
            | (refine ⟨trivial, ⟨fun h => (by cases h), ?_⟩⟩; gi_at_call 145; refine HIH2.out.mono ?_; rintro e w4 ⟨rfl, hJ4, hk4⟩; have HJ4 := Aside0.mk hJ4; have HK4 := Aside0.mk hk4; clear hJ4 hk4))
          go_roundw
          case rel => exact ⟨k + 1, -sg2, dn ++ permsOf count d (b ++ [(k : Int)]) sg2, by omega, by go_num, by rcases HS2.out with h | h <;> subst h <;> simp [wrap64], ⟨by rcases HS2.out with h | h <;> subst h <;> simp, by rw [HST.out, List.append_assoc], by have := HJ4.out; rwa [List.append_assoc] at this, HKR.out.trans HK4.out⟩⟩
          case measure => simp [intOf]; omega
      · obtain rfl : k = count := by omega
        obtain ⟨hs2, hpl, hJr, hkr⟩ := HR.out
        rw [range_drop_all] at hpl
        have HPL := Aside0.mk hpl
        have HJR := Aside0.mk hJr
        have HKR := Aside0.mk hkr
        clear hs2 hpl hJr hkr HR
        gi_wp2
        go_ret
        refine ⟨rfl, ?_, HKR.out⟩
        have e1 := HPL.out
        simp only [permLoop, List.append_nil] at e1
        show J (pre ++ permLoop (permsOf k d) b (List.range k) sg) _
        rw [e1]
        exact HJR.out
end
end Go.Proofs.YteopooljohdoiaaGreat.Px
namespace Go.Proofs.YteopooljohdoiaaGreat.Px
open Go.RowKit Go.Proofs.YteopooljohdoiaaGreatW.PrintWords Go.Proofs.YteopooljohdoiaaGreatW.PrintLast Go.Proofs.YteopooljohdoiaaGreatW.PrintMore
attribute [local go_sem] max2_int min2_int max_two min_two max_three min_three max_four min_four
section
open Go.Shelf
attribute [local go_sem] Oper.semAt_some
set_option maxHeartbeats 4000000 in
set_option maxRecDepth 100000 in
theorem orders1_in (count l s : Nat) (hcount : count ≤ 1000) (J : List (List Int × Int) → World → Prop) (hY : OrdRound count l s J) (hK : OrdKept l s J) (n B : Nat) (W : World) (hB : W.cell? ⟨B, 0, none⟩ = some (.int .i64 (count : Int))) (hJ : J [] W) :
    CallsIn Fence.wide n Tryz.prog 144 #[.func (.yield l) #[] #[], .pointer (some ⟨B, 0, none⟩)] W fun e W' => e = .returned (.tuple #[]) ∧ J (permsOf count count [] 1) W' := by
  have hO := ordered_in count l s hcount J hY hK count (n - 1) none 0 [] 1 [] W (by simp) (by simp) (.inl rfl) (Kd.C_nil _ _) (Nat.le_refl _) (fun ad e => by cases e) hJ
  have HO := Aside0.mk hO
  clear hO hY hK hJ
  refine callsIn_of_wp Tryz.func144 rfl trivial ?_ rfl
  simp only [Tryz.ntmps144, List.size_toArray, List.length_cons, List.length_nil, Nat.reduceAdd, Nat.reduceSub, Array.replicate_succ, Array.replicate_zero, List.push_toArray, List.append_toArray, List.nil_append, List.cons_append]
  gi_wp2_with (refine ⟨trivial, ⟨fun h => (by cases h), ?_⟩⟩; gi_at_call 145; refine HO.out.mono ?_; rintro e w1 ⟨rfl, hj, _⟩; have HJ1 := Aside0.mk hj; clear hj)
  first | go_end0 | (refine bodyPost_ret (results_none rfl _ _ _) rfl ?_)
  exact ⟨rfl, by simpa using HJ1.out⟩
set_option maxHeartbeats 4000000 in
set_option maxRecDepth 100000 in
theorem orders_calls (c : Int) (w : World) : Calls Tryz.prog 116 #[.int .i64 c] w fun e w' => e = .returned (.func (.func 144) #[] #[.pointer (some ⟨w.heap.size, 0, none⟩)]) ∧ w' = w.alloc (.cells #[.int .i64 c] 3) := by
  go_enter Tryz.func116, Tryz.ntmps116
  go_wp2
  go_ret
  exact ⟨rfl, rfl⟩
end
end Go.Proofs.YteopooljohdoiaaGreat.Px
namespace Go.Proofs.YteopooljohdoiaaGreat.Px
open Go.RowKit Go.Proofs.YteopooljohdoiaaGreatW.PrintWords Go.Proofs.YteopooljohdoiaaGreatW.PrintLast Go.Proofs.YteopooljohdoiaaGreatW.PrintMore
attribute [local go_sem] max2_int min2_int max_two min_two max_three min_three max_four min_four
def dam_determinant.f (l0 : List (List Int)) : Option Int := if l0.length ≤ 1000 ∧ (∀ x ∈ l0, x.length = l0.length) then some (detSum l0 (permsOf l0.length l0.length [] 1)) else none
section
open Go.Shelf
attribute [local go_sem] Oper.semAt_some
theorem C_putLoop {W : World} {L : Nat} {r : Loop} {o' : Obj} {A : Option Addr} {xs : List Int} (h : Kd.C (Kd.int .i64) W A xs.length xs) (hL : W.heap[L]? = some (.loop r)) : Kd.C (Kd.int .i64) (W.putObj L o') A xs.length xs := by
  refine Kd.C_of_reads (d := (0 : Int)) (h1 := fun _ => rfl) ⟨rfl, h.2.1, fun hn => ?_⟩
  obtain ⟨ad, e, _⟩ := h.2.2 hn
  subst e
  refine ⟨ad, rfl, fun j hj => ?_⟩
  obtain ⟨ad', e', hc⟩ := Kd.at_int h (j : Int) (by omega) (by omega)
  cases e'
  rw [Int.toNat_natCast] at hc
  unfold World.cell? at hc ⊢
  by_cases hb : (ad.add j).block = L
  · rw [hb, hL] at hc
    cases hc
  · rw [World.putObj_heap_other hb]
    exact hc
def KeepS (s : Nat) (W W' : World) : Prop := W.heap.size ≤ W'.heap.size ∧ ∀ i, i < W.heap.size → i ≠ s → W'.heap[i]? = W.heap[i]?
theorem wpIn_range_ord {gf B count s : Nat} {g : Operand} {ps : Array Tmp} {assign body : Code} {Q : Exit → Act → World → Prop} {a : Act} {W0 : World} {n : Nat} {xs : List (List Int × Int)}
    (hg : a.eval g = .func (.func gf) #[] #[.pointer (some ⟨B, 0, none⟩)]) (eg : ∀ args w, (callFunc gf args).run Tryz.prog w = .ok (.enter gf args) w) (hps : ps.size = 2) (hs : s < W0.heap.size)
    (I : List (List Int × Int) → World → Prop) (hIput : ∀ pre W l o o', I pre W → W0.heap.size ≤ l → W.heap[l]? = some o → o.isCells = false → I pre (W.putObj l o')) (hIal : ∀ pre W W', I pre W → Below W.heap.size W W' → I pre W') (h0 : I [] W0)
    (hiter : ∀ (l m : Nat) (J : List (List Int × Int) → World → Prop) (W : World), OrdRound count l s J → OrdKept l s J → Below W0.heap.size W0 W → J [] W →
      CallsIn Fence.wide m Tryz.prog gf #[.func (.yield l) #[] #[], .pointer (some ⟨B, 0, none⟩)] W fun e W' => e = .returned (.tuple #[]) ∧ J xs W')
    (a₁ : Option Addr → Nat → List Int → Int → Act)
    (hassign : ∀ (l m : Nat) (A : Option Addr) (c : Nat) (o : List Int) (sg : Int) (W : World) (K : Act → World → Prop), K (a₁ A c o sg) W →
      assign.wpIn (Fence.wide.inRound l) m Tryz.prog (Exit.then K (fun _ _ _ => False)) { tmps := (ps.zip #[.slice A o.length c, .int .i64 sg]).foldl (fun t (p, v) => t.setIfInBounds p v) a.tmps, defers := [] } W)
    (hbody : ∀ (l m : Nat) pre (A : Option Addr) (c : Nat) (o : List Int) (sg : Int) (W : World), I pre W → o.length = count → (∀ x ∈ o, 0 ≤ x ∧ x < count) → Kd.C (Kd.int .i64) W A o.length o → o.length ≤ c →
      body.wpIn (Fence.wide.inRound l) m Tryz.prog (fun e _ W' => e = .normal ∧ I (pre ++ [(o, sg)]) W' ∧ KeepS s W W') (a₁ A c o sg) W)
    (hdone : ∀ (D : Nat) (W : World), I xs W → W.heap[D]? = some (.deferred (some [])) → W0.heap.size ≤ D → Q .normal { a with defers := { target := .collected D, args := #[] } :: a.defers } W) :
    (Code.rangeFunc g ps assign body).wpIn Fence.wide (n + 1) Tryz.prog Q a W0 := by
  refine wpIn_rangeFunc ?_
  intro fn hfn
  obtain ⟨rec, hrec⟩ : ∃ rec : LoopState → Option Code → Loop, rec = fun st pe => { state := st, pending := pe, fn, tmps := a.tmps, params := ps, assign, body, defers := W0.heap.size } := ⟨_, rfl⟩
  obtain ⟨W1, hW1⟩ : ∃ W1, (W0.alloc (.deferred (some []))).alloc (.loop (rec .ready none)) = W1 := ⟨_, rfl⟩
  have hL1 : W1.heap[W0.heap.size + 1]? = some (.loop (rec .ready none)) := by
    rw [← hW1]; have := World.alloc_heap_new (W0.alloc (.deferred (some []))) (.loop (rec .ready none)); rwa [World.size_alloc] at this
  have hK1 : W1.heap[W0.heap.size]? = some (.deferred (some [])) := by
    rw [← hW1]; exact (Below.heap_alloc _ _ _ (by simp)).trans (World.alloc_heap_new W0 _)
  have hb1 : Below W0.heap.size W0 W1 := by rw [← hW1]; exact below_alloc (below_alloc (Below.refl _ _) _) _
  have hI1 : I [] W1 := hIal _ _ _ h0 hb1
  refine ⟨W0.heap.size + 1, [{ target := .collected W0.heap.size, args := #[] }], W1, { target := .fn (.func gf) #[.pointer (some ⟨B, 0, none⟩)], args := #[.func (.yield (W0.heap.size + 1)) #[] #[]] }, W1, gf,
    #[.func (.yield (W0.heap.size + 1)) #[] #[], .pointer (some ⟨B, 0, none⟩)], W1, ?_, ?_, ?_, ?_, fun _ => by omega, ?_⟩
  · rw [← hW1, hrec]; exact run_enterLoop_outer _ _ _ _ _
  · simp only [resolve, hg]
    simp [go_sem]
  · intro f' hf'; simp [Target.leads] at hf'; trivial
  · simp [invoke, go_sem, eg]
  · refine (hiter (W0.heap.size + 1) (n + 1 - 1)
      (fun pre W => I pre W ∧ W.heap[W0.heap.size + 1]? = some (.loop (rec .ready none)) ∧ W.heap[W0.heap.size]? = some (.deferred (some [])) ∧ W0.heap.size + 1 < W.heap.size) W1 ?_ ?_ hb1 ⟨hI1, hL1, hK1, (Array.getElem?_eq_some_iff.1 hL1).1⟩).mono ?_
    · -- one round
      rintro m pre A c o sg W ⟨hi, hl, hk, hsz⟩ hol hor hC hcap
      have hy := run_yield (P := Tryz.prog) (args := #[.slice A o.length c, .int .i64 sg]) hl (by rw [hrec]; exact hps.symm)
      rw [hrec] at hy
      refine ⟨fn, _, assign, body, hy, roundIn_of_wpIn hfn (hassign _ _ A c o sg W _ ⟨_, run_beginRound hl (by rw [hrec]), ?_⟩)⟩
      have hl2 : (W.putObj (W0.heap.size + 1) (.loop { rec .ready none with state := .busy })).heap[W0.heap.size + 1]? = some (.loop { rec .ready none with state := .busy }) := World.putObj_heap_same hsz
      have hk2 : (W.putObj (W0.heap.size + 1) (.loop { rec .ready none with state := .busy })).heap[W0.heap.size]? = some (.deferred (some [])) := (World.putObj_heap_other (by omega)).trans hk
      refine wpIn_mono (hbody _ _ pre A c o sg _ (hIput _ _ _ _ _ hi (by omega) hl rfl) hol hor (C_putLoop hC hl) hcap) ?_
      rintro e a3 W3 ⟨rfl, hi3, hk3⟩
      have hsz2 : (W.putObj (W0.heap.size + 1) (.loop { rec .ready none with state := .busy })).heap.size = W.heap.size := by simp [World.putObj]
      have hl3 : W3.heap[W0.heap.size + 1]? = some (.loop { rec .ready none with state := .busy }) := (hk3.2 _ (by rw [hsz2]; exact hsz) (by omega)).trans hl2
      have hd3 : W3.heap[W0.heap.size]? = some (.deferred (some [])) := (hk3.2 _ (by rw [hsz2]; omega) (by omega)).trans hk2
      have hr := run_endRound (P := Tryz.prog) none hl3
      have hlt3 := (Array.getElem?_eq_some_iff.1 hl3).1
      have hsz4 : (W3.putObj (W0.heap.size + 1) (.loop (rec .ready none))).heap.size = W3.heap.size := by simp [World.putObj]
      refine ⟨_, _, hr, rfl, ⟨hIput _ _ _ _ _ hi3 (by omega) hl3 rfl, ?_, ?_, ?_⟩, ?_⟩
      · rw [hrec]; exact World.putObj_heap_same hlt3
      · exact (World.putObj_heap_other (by omega)).trans hd3
      · simp [World.putObj]; omega
      · refine ⟨by have := hk3.1; rw [hsz2] at this; simp [World.putObj]; omega, fun i hi h1 h2 => ?_⟩
        exact (World.putObj_heap_other h2).trans ((hk3.2 i (by rw [hsz2]; exact hi) h1).trans (World.putObj_heap_other h2))
    · -- what the iterator's own steps keep
      rintro pre W ⟨hi, hl, hk, hsz⟩
      exact ⟨hsz, by omega, fun W' hb => ⟨hIal _ _ _ hi hb, (hb.block _ hsz).trans hl, (hb.block _ (by omega)).trans hk, Nat.lt_of_lt_of_le hsz hb.size⟩⟩
    · rintro e W2 ⟨rfl, hi, hl, hk, hsz⟩
      exact ⟨none, _, by have := run_endLoop (P := Tryz.prog) hl (by rw [hrec]; simp); rw [hrec] at this; exact this, hdone _ _ (hIput _ _ _ _ _ hi (by omega) hl rfl) ((World.putObj_heap_other (by omega)).trans hk) (Nat.le_refl _)⟩
set_option maxHeartbeats 4000000 in
set_option maxRecDepth 100000 in
theorem dam_determinant.calls (A0 : Option Addr) (c0 : Nat) (l0 : List (List Int)) (r : Int) (w : World) (hr0 : Kd.C (Kd.slice 3 (Kd.int .i64)) w A0 l0.length l0) (hc0 : l0.length ≤ c0) (h : dam_determinant.f l0 = some r) :
    Calls Tryz.prog 73 #[.slice A0 l0.length c0] w fun e w' => e = .returned (.int .i64 r) ∧ Below w.heap.size w w' := by
  unfold dam_determinant.f at h
  split at h
  case isFalse => exact absurd h (by simp)
  case isTrue hb =>
    obtain ⟨hlen, hrows⟩ := hb
    have hr : r = _ := (Option.some.inj h).symm
    have HR := Aside0.mk hr
    have HROWS := Aside0.mk hrows
    have HC := Aside0.mk hr0
    clear h hr hrows hr0
    refine (callsIn_wide (n := 100)).1 ?_
    refine callsIn_of_wp_marks Tryz.func73 rfl trivial ?_ rfl
    simp only [Tryz.ntmps73, List.size_toArray, List.length_cons, List.length_nil, Nat.reduceAdd, Nat.reduceSub, Array.replicate_succ, Array.replicate_zero, List.push_toArray, List.append_toArray, List.nil_append, List.cons_append]
    gi_wp2_with fail
    refine ⟨trivial, ?_⟩
    refine (callsIn_wide.2 (orders_calls _ _)).mono ?_
    rintro e w' ⟨rfl, rfl⟩
    gi_wp2_with fail
    obtain ⟨W0, hW0⟩ : ∃ W0, ((w.alloc (Obj.cells #[Value.slice A0 l0.length c0] 137)).alloc (Obj.cells #[Value.int IntKind.i64 0] 3)).alloc (Obj.cells #[Value.int IntKind.i64 (l0.length : Int)] 3) = W0 := ⟨_, rfl⟩
    have hsz : W0.heap.size = w.heap.size + 3 := by rw [← hW0]; simp
    have hb1 : W0.heap[w.heap.size]? = some (.cells #[Value.slice A0 l0.length c0] 137 (0, 0)) := by rw [← hW0]; exact blk_alloc (blk_alloc (blk_new _ _) _) _
    have hbs : W0.heap[w.heap.size + 1]? = some (.cells #[Value.int IntKind.i64 0] 3 (0, 0)) := by
      rw [← hW0]
      refine blk_alloc ?_ _
      have := blk_new (w.alloc (Obj.cells #[Value.slice A0 l0.length c0] 137)) (Obj.cells #[Value.int IntKind.i64 0] 3)
      rwa [World.size_alloc] at this
    have hbB : W0.heap[w.heap.size + 2]? = some (.cells #[Value.int IntKind.i64 (l0.length : Int)] 3 (0, 0)) := by
      rw [← hW0]
      have := blk_new ((w.alloc (Obj.cells #[Value.slice A0 l0.length c0] 137)).alloc (Obj.cells #[Value.int IntKind.i64 0] 3)) (Obj.cells #[Value.int IntKind.i64 (l0.length : Int)] 3)
      rwa [World.size_alloc, World.size_alloc] at this
    have hbel : Below w.heap.size w W0 := by rw [← hW0]; exact below_alloc (below_alloc (below_alloc (Below.refl _ _) _) _) _
    rw [hW0]
    clear hW0
    have HW0 := Aside0.mk (show W0.heap.size = w.heap.size + 3 from hsz)
    clear hsz
    refine wpIn_range_ord (n := 99) (count := l0.length) (s := w.heap.size + 1) (gf := 144) (B := w.heap.size + 1 + 1) (xs := permsOf l0.length l0.length [] 1) rfl (fun args w => by rfl) rfl (by have := HW0.out; omega)
      (fun pre W => W.heap[w.heap.size + 1]? = some (.cells #[.int .i64 (detSum l0 pre)] 3 (0, 0)) ∧ W.heap[w.heap.size]? = some (.cells #[.slice A0 l0.length c0] 137 (0, 0)) ∧ Below w.heap.size w W)
      ?put ?al ⟨hbs, hb1, hbel⟩ ?iter
      (fun A c o sg => { tmps := #[.slice A0 l0.length c0, .pointer (some ⟨w.heap.size, 0, none⟩), .int .i64 0, .pointer (some ⟨w.heap.size + 1, 0, none⟩), .slice A o.length c, .int .i64 sg, undef, undef, undef, .slice A0 l0.length c0, .int .i64 (l0.length : Int), .func (.func 144) #[] #[.pointer (some ⟨w.heap.size + 1 + 1, 0, none⟩)], .slice A o.length c, .int .i64 sg, undef, undef, undef, undef, undef, undef, undef, undef, undef, undef, undef, undef, undef, undef, undef, undef, undef, undef, undef, undef, undef, undef], defers := [] })
      ?assign ?body ?done
    case put =>
      rintro pre W l o o' ⟨h1, h2, h3⟩ hl ho hcell
      have := HW0.out
      exact ⟨(World.putObj_heap_other (by omega)).trans h1, (World.putObj_heap_other (by omega)).trans h2, h3.trans ((Below.refl _ W).grown (grownBy_putObj' W l o') h3.size (fun k e => by cases e; omega))⟩
    case al =>
      rintro pre W W' ⟨h1, h2, h3⟩ hb
      exact ⟨blk_below h1 hb, blk_below h2 hb, below_step h3 hb⟩
    case iter =>
      intro l m J W hY hK hb hJ
      exact orders1_in l0.length l _ hlen J hY hK m _ W ((blk_cell (blk_below hbB hb) 0).trans rfl) hJ
    case assign =>
      intro l m A c o sg W K hK
      gi_wp2
      exact hK
    case body =>
      rintro l m pre A c o sg W ⟨h1, h2, h3⟩ hol hor hC hcap
      have hc1 := (blk_cell h1 0).trans rfl
      have hf1 := blk_frozen h1 0
      have hc2 := (blk_cell h2 0).trans rfl
      have H1 := Aside0.mk h1
      have H2 := Aside0.mk h2
      have H3 := Aside0.mk h3
      have HOL := Aside0.mk hol
      have HOR := Aside0.mk hor
      have HCO := Aside0.mk hC
      clear h1 h2 h3 hor hC hb1 hbs hbB hbel
      have holt : o.length ≤ 1000 := by omega
      clear hol
      gi_wp2
      gi_loopw [6, 7, 8, 17] (fun s6 _ _ s17 wr => ∃ k : Nat, k ≤ o.length ∧ s17 = .int .i64 k ∧ s6 = .int .i64 (prodTo l0 o sg k) ∧ wr = W) (fun _ _ _ s17 _ => o.length - (intOf s17).toNat)
      case atStart => exact ⟨0, Nat.zero_le _, rfl, rfl, rfl⟩
      case round =>
        obtain ⟨k, hk, rfl, rfl, rfl⟩ := hrel
        by_cases hlt : k < o.length
        · have hltz : (k : Int) < (o.length : Int) := by omega
          have hkl : k < l0.length := by have := HOL.out; omega
          obtain ⟨ad, e1, hx1⟩ := Kd.at_int HCO.out (k : Int) (by omega) (by omega)
          cases e1
          rw [Int.toNat_natCast] at hx1
          obtain ⟨ad2, cs2, e2, _, ⟨A3, c3, rfl, hle3, hC3⟩, hcell2⟩ := Kd.C_get (Kd.C_below HC.out H3.out) ([] : List Int) (k : Int) (by omega) (by omega)
          cases e2
          have hx2 := hcell2 0 _ rfl
          rw [Int.toNat_natCast] at hx2 hC3 hle3
          simp only [show (Kd.slice 3 (Kd.int .i64)).sz = 1 from rfl, Nat.mul_one, Nat.add_zero] at hx2
          have hrl : (l0.getD k []).length = l0.length := by
            refine HROWS.out _ ?_
            rw [List.getD_eq_getElem?_getD, List.getElem?_eq_getElem hkl]
            exact List.getElem_mem hkl
          obtain ⟨q, hq⟩ : ∃ q, q = rd o (k : Int) := ⟨_, rfl⟩
          have hqr : 0 ≤ q ∧ q < (l0.length : Int) := by
            have := HOR.out q (by
              rw [hq]
              show o.getD (k : Int).toNat 0 ∈ o
              rw [Int.toNat_natCast, List.getD_eq_getElem?_getD, List.getElem?_eq_getElem hlt]
              exact List.getElem_mem hlt)
            exact this
          obtain ⟨ad3, e3, hx3⟩ := Kd.at_int hC3 q hqr.1 (by rw [hrl]; exact hqr.2)
          cases e3
          rw [← hq] at hx1
          have hstep : prodTo l0 o sg (k + 1) = wrap64 (prodTo l0 o sg k * rd (l0.getD k []) q) := by
            simp only [prodTo]
            rw [hq]
            rfl
          obtain ⟨z, hz⟩ : ∃ z, z = rd (l0.getD k []) q := ⟨_, rfl⟩
          rw [← hz] at hx3 hstep
          have HST := Aside0.mk hstep
          have hq0 := hqr.1
          have hq1 : q < ((l0.getD k []).length : Int) := by rw [hrl]; exact hqr.2
          obtain ⟨nn, hnn⟩ : ∃ nn, nn = (l0.getD k []).length := ⟨_, rfl⟩
          rw [← hnn] at hq1 hx2
          have hkz : (k : Int) < (l0.length : Int) := by omega
          clear hq hqr hz hstep hrl hcell2 hC3 hle3 hnn
          gi_wp2
          go_roundw
          case rel => exact ⟨k + 1, by omega, by go_num, by rw [HST.out], by first | trivial | rfl⟩
          case measure => simp [intOf]; omega
        · obtain rfl : k = o.length := by omega
          have hd : detSum l0 (pre ++ [(o, sg)]) = wrap64 (detSum l0 pre + prodTo l0 o sg o.length) := by rw [detSum_snoc, HOL.out]
          have HD := Aside0.mk hd
          clear hd
          gi_wp2
          refine ⟨⟨?_, blk_far H2.out (by simp) _, below_set H3.out (by omega)⟩, ?_, fun i hi hne => Below.heap_setCell _ _ _ _ hne⟩
          · rw [HD.out]
            exact blk_put H1.out 0 _ rfl
          · simp [World.setCell]
    case done =>
      rintro D W ⟨h1, h2, h3⟩ hD hle
      have hc1 := (blk_cell h1 0).trans rfl
      have H3 := Aside0.mk h3
      have HR2 := Aside0.mk (show r = detSum l0 (permsOf l0.length l0.length [] 1) from HR.out)
      have HLE := Aside0.mk (show w.heap.size ≤ D from by have := HW0.out; omega)
      gi_wp2
      refine ⟨by simp, .inl ⟨_, _, rfl, run_takeDeferred hD, ?_⟩⟩
      refine ⟨_, results_tmp rfl _ _ _, ?_, ?_⟩
      · rw [HR2.out]; rfl
      · exact H3.out.trans ((Below.refl _ W).grown (grownBy_putObj' W D _) H3.out.size (fun k e => by cases e; exact HLE.out))
end
end Go.Proofs.YteopooljohdoiaaGreat.Px
namespace Go.Proofs.YteopooljohdoiaaGreat.Px
open Go.RowKit Go.Proofs.YteopooljohdoiaaGreatW.PrintWords Go.Proofs.YteopooljohdoiaaGreatW.PrintLast Go.Proofs.YteopooljohdoiaaGreatW.PrintMore
attribute [local go_sem] max2_int min2_int max_two min_two max_three min_three max_four min_four
def dam_size.f (a0 : Int) : Option (Int) := some (mx a0 (wrap64 (-a0)))
set_option maxHeartbeats 8000000 in
set_option maxRecDepth 100000 in
theorem dam_size.calls (a0 : Int) (r : Int) (w : World) (h : dam_size.f a0 = some r) :
    Calls Tryz.prog 101 #[.int .i64 a0] w fun e w' => e = .returned (.int .i64 r) ∧ Below w.heap.size w w' := by
  have HB := Aside0.mk (Below.refl w.heap.size w)
  have H : (some (mx a0 (wrap64 (-a0)))) = some r := h
  clear h
  obtain ⟨ji2, hji2⟩ : ∃ j_ : Int, (mx a0 (wrap64 (-a0))) = j_ := ⟨_, rfl⟩
  replace H : (some ji2) = some r := by first | (rw [hji2] at H; exact H) | (simp only [hji2] at H ⊢; exact H)
  have hji2_ : (if a0 < (wrap64 (-a0)) then (wrap64 (-a0)) else a0) = ji2 := hji2
  obtain rfl := Option.some.inj H
  go_enter Tryz.func101, Tryz.ntmps101
  go_wp2
  go_ret
  exact ⟨by first | rfl | (simp [errW_none, errW_some] <;> rfl) | (simp only [← hji2]; first | rfl | (simp [errW_none, errW_some] <;> rfl)) | (simp [*, errW_none, errW_some] <;> rfl), by repeat (first | (with_reducible first | exact HB.out | apply below_alloc | apply pw_below_drewN | apply below_drew1) | exact HB.out)⟩
def isSmall (n : Int) : Prop := -4611686018427387904 ≤ n ∧ n ≤ 4611686018427387904
instance (n : Int) : Decidable (isSmall n) := inferInstanceAs (Decidable (_ ∧ _))
def gcdOf (a : Int) (l : List Int) : Nat := l.foldl (fun g b => Nat.gcd g b.natAbs) a.natAbs
theorem gcd_step (a b : Int) (g : Nat) (h : Nat.gcd a.natAbs b.natAbs = g) : Nat.gcd b.natAbs (Int.tmod a b).natAbs = g := by
  rw [← h, Int.natAbs_tmod, Nat.gcd_comm a.natAbs, Nat.gcd_rec b.natAbs a.natAbs, Nat.gcd_comm]
theorem tmod_less (a b : Int) (h : ¬ b = 0) : (Int.tmod a b).natAbs < b.natAbs := by
  rw [Int.natAbs_tmod]
  exact Nat.mod_lt _ (by omega)
def dam_divisor.f (a0_0 : Int) (a0_1 : Int) (a0_2 : Int) (a0_3 : Int) (a0_4 : Int) (a0_5 : Int) : Option Int := if isSmall a0_0 ∧ isSmall a0_1 ∧ isSmall a0_2 ∧ isSmall a0_3 ∧ isSmall a0_4 ∧ isSmall a0_5 then some (gcdOf a0_0 [a0_1, a0_2, a0_3, a0_4, a0_5] : Nat) else none
set_option maxHeartbeats 8000000 in
set_option maxRecDepth 100000 in
theorem dam_divisor.calls (a0_0 : Int) (a0_1 : Int) (a0_2 : Int) (a0_3 : Int) (a0_4 : Int) (a0_5 : Int) (r : Int) (w : World) (h : dam_divisor.f a0_0 a0_1 a0_2 a0_3 a0_4 a0_5 = some r) :
    Calls Tryz.prog 75 #[.agg #[.int .i64 a0_0, .int .i64 a0_1, .int .i64 a0_2, .int .i64 a0_3, .int .i64 a0_4, .int .i64 a0_5]] w fun e w' => e = .returned (.int .i64 r) ∧ Below w.heap.size w w' := by
  have hu := Tryz.underlying44
  have hu2 := Tryz.underlying42
  unfold dam_divisor.f at h
  split at h
  case isFalse => exact absurd h (by simp)
  case isTrue hb =>
    have hr : r = _ := (Option.some.inj h).symm
    clear h
    have HR := Aside0.mk hr
    clear hr
    have HBD := Aside0.mk hb
    clear hb
    obtain ⟨xs, hxs⟩ : ∃ xs, xs = [a0_1, a0_2, a0_3, a0_4, a0_5] := ⟨_, rfl⟩
    have HXS := Aside0.mk hxs
    rw [← hxs] at HR
    have hidx0 : ∀ (k : Nat) (w : World), k < 5 → (Instr.index 42 (.agg #[.int .i64 a0_1, .int .i64 a0_2, .int .i64 a0_3, .int .i64 a0_4, .int .i64 a0_5]) (.int .i64 (k : Int))).run Tryz.prog w = .ok (.int .i64 (xs.getD k 0)) w := by
      intro k w hk
      subst hxs
      rcases (show k = 0 ∨ k = 1 ∨ k = 2 ∨ k = 3 ∨ k = 4 by omega) with rfl | rfl | rfl | rfl | rfl <;> kernel_rfl
    have HIDX := Aside0.mk hidx0
    clear hidx0 hxs
    go_enter Tryz.func75, Tryz.ntmps75
    go_wp2
    go_loopg [3, 5, 10] 5 (fun gg s3 _ s10 wr => ∃ (kk : Nat) (a : Int), kk ≤ 5 ∧ 5 - kk ≤ gg ∧ s10 = .int .i64 kk ∧ s3 = .int .i64 a ∧ Aside0 (isSmall a ∧ a.natAbs = gcdOf a0_0 (xs.take kk)) ∧ Aside0 (Below w.heap.size w wr))
    case atStart => exact ⟨0, a0_0, by omega, by omega, rfl, rfl, ⟨HBD.out.1, by simp [gcdOf]⟩, ⟨below_alloc (Below.refl _ _) _⟩⟩
    case round =>
      obtain ⟨kk, a, hkk, hg, rfl, rfl, HA, HB⟩ := hrel
      by_cases hlt : kk < 5
      · have hltz : (kk : Int) < 5 := by omega
        have hidx : ∀ w, (Instr.index 42 (.agg #[.int .i64 a0_1, .int .i64 a0_2, .int .i64 a0_3, .int .i64 a0_4, .int .i64 a0_5]) (.int .i64 (kk : Int))).run Tryz.prog w = .ok (.int .i64 (xs.getD kk 0)) w := fun w => HIDX.out kk w hlt
        have hsm : isSmall (xs.getD kk 0) := by
          have h1 := HBD.out
          rw [HXS.out]
          match kk, hlt with
          | 0, _ => exact h1.2.1
          | 1, _ => exact h1.2.2.1
          | 2, _ => exact h1.2.2.2.1
          | 3, _ => exact h1.2.2.2.2.1
          | 4, _ => exact h1.2.2.2.2.2
        have hstep : gcdOf a0_0 (xs.take (kk + 1)) = Nat.gcd (gcdOf a0_0 (xs.take kk)) (xs.getD kk 0).natAbs := by
          have hl : kk < xs.length := by rw [HXS.out]; exact hlt
          rw [List.take_succ_eq_append_getElem hl, show xs.getD kk 0 = xs[kk] from by rw [List.getD_eq_getElem?_getD, List.getElem?_eq_getElem hl]; rfl]
          simp only [gcdOf, List.foldl_append, List.foldl_cons, List.foldl_nil]
        generalize xs.getD kk 0 = b0 at hidx hsm hstep
        have HSM := Aside0.mk hsm
        have HST := Aside0.mk hstep
        clear hsm hstep
        obtain ⟨wo, rfl⟩ : ∃ wo : World, wo = wr := ⟨_, rfl⟩
        go_wp2
        go_loopg [3, 5] b0.natAbs (fun gg s3 s5 wr => ∃ (a2 b2 : Int), s3 = .int .i64 a2 ∧ s5 = .int .i64 b2 ∧ b2.natAbs ≤ gg ∧ Aside0 (isSmall a2 ∧ isSmall b2 ∧ Nat.gcd a2.natAbs b2.natAbs = Nat.gcd a.natAbs b0.natAbs) ∧ Aside0 (Below w.heap.size w wr))
        case atStart => exact ⟨a, b0, rfl, rfl, Nat.le_refl _, ⟨HA.out.1, HSM.out, rfl⟩, HB⟩
        case round =>
          obtain ⟨a2, b2, rfl, rfl, hg2, HA2, HB2⟩ := hrel
          by_cases hz : b2 = 0
          · subst hz
            go_wp2
            go_roundg (5 - (kk + 1))
            case measure => omega
            case rel =>
              refine ⟨kk + 1, a2, by omega, by omega, by go_num, rfl, ⟨HA2.out.1, ?_⟩, HB2⟩
              have := HA2.out.2.2
              rw [HST.out, ← HA.out.2, ← this]
              simp
          · have hz1 : (b2 != 0) = true := bne_iff_ne.2 hz
            have hz2 : (b2 == 0) = false := beq_eq_false_iff_ne.2 hz
            have hm := tmod_less a2 b2 hz
            go_wp2
            go_quiet (fail)
            go_wp2
            go_roundg (Int.tmod a2 b2).natAbs
            case measure => omega
            case rel =>
              refine ⟨b2, Int.tmod a2 b2, rfl, rfl, Nat.le_refl _, ⟨HA2.out.2.1, ?_, gcd_step a2 b2 _ HA2.out.2.2⟩, ⟨pw_below_drewN HB2.out _⟩⟩
              have h3 := HA2.out.2.1
              unfold isSmall at *
              omega
      · have hltz : ¬ (kk : Int) < 5 := by omega
        obtain rfl : kk = 5 := by omega
        have hs : dam_size.f a = some r := by
          have h1 := HA.out.1
          have h2 := HA.out.2
          have h3 : xs.take 5 = xs := by rw [HXS.out]; rfl
          rw [h3] at h2
          rw [HR.out, ← h2]
          unfold dam_size.f mx
          unfold isSmall at h1
          rw [show wrap64 (-a) = -a from by unfold wrap64; omega]
          congr 1
          omega
        have HS := Aside0.mk hs
        clear hs
        go_wp2_with (go_at_call 101; refine (dam_size.calls _ _ _ HS.out).mono ?_; rintro e w' ⟨rfl, hb⟩; have HB3 := Aside0.mk hb; clear hb)
        go_ret
        exact ⟨rfl, below_step HB.out HB3.out⟩
set_option maxHeartbeats 8000000 in
set_option maxRecDepth 100000 in
theorem hIndexInt (g : Nat) (lb : Array Value) (p : Int → Bool) (eg : ∀ args w, (callFunc g args).run Tryz.prog w = .ok (.enter g args) w) (A0 : Option Addr) (c0 : Nat) (l0 : List Int) (w : World) (hr0 : Kd.C (Kd.int .i64) w A0 l0.length l0) (hp : PredB Tryz.prog g lb (Value.int .i64) p l0 w) :
    Calls Tryz.prog 129 #[.slice A0 l0.length c0, .func (.func g) #[] lb] w fun e w' => e = .returned (.int .i64 (idxF p l0)) ∧ Below w.heap.size w w' := by
  have hlen : l0.length ≤ 9223372036854775807 := hr0.2.1
  have HR0 := Aside0.mk hr0
  have HP := Aside0.mk hp
  clear hr0 hp
  go_enter Tryz.func129, Tryz.ntmps129
  go_wp2
  go_loopg [5, 8] l0.length (fun gg _ s8 wr => ∃ kk : Nat, kk ≤ l0.length ∧ l0.length - kk ≤ gg ∧ s8 = .int .i64 kk ∧ Aside0 (Below w.heap.size w wr) ∧ Aside0 (∀ j, j < kk → p (l0.getD j 0) = false))
  case atStart => exact ⟨0, Nat.zero_le _, by omega, rfl, ⟨Below.refl _ _⟩, ⟨fun j hj => absurd hj (Nat.not_lt_zero _)⟩⟩
  case round =>
    obtain ⟨kk, hkk, hg, rfl, HB, A⟩ := hrel
    by_cases hlt : kk < l0.length
    · have hltz : (kk : Int) < (l0.length : Int) := by omega
      obtain ⟨ad, e1, hx1⟩ := Kd.at_int (Kd.C_below HR0.out HB.out) (kk : Int) (by omega) (by omega)
      cases e1
      have hmem : l0.getD kk 0 ∈ l0 := by rw [List.getD_eq_getElem?_getD, List.getElem?_eq_getElem hlt]; exact List.getElem_mem hlt
      have hrd : rd l0 (kk : Int) = l0.getD kk 0 := rfl
      rw [hrd, Int.toNat_natCast] at hx1
      clear hrd
      generalize hy : l0.getD kk 0 = y at hx1 hmem
      have B := Aside0.mk hy
      clear hy
      have hcall := HP.out wr y hmem HB.out
      cases hq : p y with
      | true =>
        rw [hq] at hcall
        have HC := Aside0.mk hcall
        have HQ := Aside0.mk hq
        clear hcall hq
        go_wp2_with (go_at_fn g; refine HC.out.mono ?_; rintro e w' ⟨rfl, hb⟩)
        go_ret
        refine ⟨?_, ?_⟩
        · rw [idxF_hit hlt A.out (by rw [B.out]; exact HQ.out)]; rfl
        · exact below_step HB.out (by assumption)
      | false =>
        rw [hq] at hcall
        have HC := Aside0.mk hcall
        have HQ := Aside0.mk hq
        clear hcall hq
        go_wp2_with (go_at_fn g; refine HC.out.mono ?_; rintro e w' ⟨rfl, hb⟩; have HB2 := Aside0.mk (below_step HB.out hb); clear hb)
        go_roundg (l0.length - (kk + 1))
        case measure => omega
        case rel =>
          refine ⟨kk + 1, by omega, by omega, by go_num, by assumption, ⟨fun j hj => ?_⟩⟩
          by_cases e : j = kk
          · subst e
            rw [B.out]; exact HQ.out
          · exact A.out j (by omega)
    · have hltz : ¬ (kk : Int) < (l0.length : Int) := by omega
      obtain rfl : kk = l0.length := by omega
      go_wp2
      go_ret
      refine ⟨?_, HB.out⟩
      rw [idxF_miss A.out]; rfl
set_option maxHeartbeats 8000000 in
set_option maxRecDepth 100000 in
theorem hContainsInt (g : Nat) (lb : Array Value) (p : Int → Bool) (eg : ∀ args w, (callFunc g args).run Tryz.prog w = .ok (.enter g args) w) (A0 : Option Addr) (c0 : Nat) (l0 : List Int) (w : World) (hr0 : Kd.C (Kd.int .i64) w A0 l0.length l0) (hp : PredB Tryz.prog g lb (Value.int .i64) p l0 w) :
    Calls Tryz.prog 94 #[.slice A0 l0.length c0, .func (.func g) #[] lb] w fun e w' => e = .returned (.bool (l0.any p)) ∧ Below w.heap.size w w' := by
  have HI := Aside0.mk (hIndexInt g lb p eg A0 c0 l0 w hr0 hp)
  clear hr0 hp
  obtain ⟨x, hx⟩ : ∃ x, x = idxF p l0 := ⟨_, rfl⟩
  rw [← hx] at HI
  have HX := Aside0.mk hx
  clear hx
  go_enter Tryz.func94, Tryz.ntmps94
  go_wp2_with (go_at_call 129; refine HI.out.mono ?_; rintro e w' ⟨rfl, hb⟩)
  go_ret
  refine ⟨?_, by assumption⟩
  rw [← idxF_any p l0, ← HX.out]; rfl
def okPart (n : Int) : Bool := decide (-1000000000000 ≤ n) && decide (n ≤ 1000000000000)
def dam_fitErr.f (a0_0 : Int) (a0_1 : Int) (a0_2 : Int) (a0_3 : Int) (a0_4 : Int) (a0_5 : Int) : Option Int := some (if (decide (1 ≤ a0_0) && decide (a0_0 ≤ 1000000000000)) && !([a0_1, a0_2, a0_3, a0_4, a0_5].any fun n => !okPart n) then 0 else 2)
set_option maxHeartbeats 8000000 in
set_option maxRecDepth 100000 in
theorem fitErr_part (n : Int) (w : World) : Calls Tryz.prog 117 #[.int .i64 n] w fun e w' => e = .returned (.bool (!okPart n)) ∧ Below w.heap.size w w' := by
  have h1 : dam_isSized.f n 1000000000000 = some (okPart n) := by
    unfold dam_isSized.f dam_within.f okPart
    rw [show wrap64 (-1000000000000) = -1000000000000 from by decide +kernel]
    by_cases h : -1000000000000 ≤ n <;> simp [h]
  have H := Aside0.mk h1
  clear h1
  obtain ⟨b, hb⟩ : ∃ b, b = okPart n := ⟨_, rfl⟩
  rw [← hb] at H
  rw [← hb]
  clear hb
  go_enter Tryz.func117, Tryz.ntmps117
  go_wp2_with (go_at_call 118; refine (dam_isSized.calls _ _ _ _ H.out).mono ?_; rintro e w' ⟨rfl, ⟨nd, rfl⟩⟩)
  go_ret
  exact ⟨rfl, ((Drawn0.refl w).step nd).below⟩
set_option maxHeartbeats 8000000 in
set_option maxRecDepth 100000 in
theorem dam_fitErr.calls (a0_0 : Int) (a0_1 : Int) (a0_2 : Int) (a0_3 : Int) (a0_4 : Int) (a0_5 : Int) (r : Int) (w : World) (h : dam_fitErr.f a0_0 a0_1 a0_2 a0_3 a0_4 a0_5 = some r) :
    Calls Tryz.prog 76 #[.agg #[.int .i64 a0_0, .int .i64 a0_1, .int .i64 a0_2, .int .i64 a0_3, .int .i64 a0_4, .int .i64 a0_5]] w fun e w' => e = .returned (.int .i64 r) ∧ Below w.heap.size w w' := by
  have hu := Tryz.underlying44
  have hu2 := Tryz.underlying42
  have hr : r = if (decide (1 ≤ a0_0) && decide (a0_0 ≤ 1000000000000)) && !([a0_1, a0_2, a0_3, a0_4, a0_5].any fun n => !okPart n) then 0 else 2 := (Option.some.inj h).symm
  clear h
  have HR := Aside0.mk hr
  clear hr
  have hC : Kd.C (Kd.int .i64) (w.alloc (.cells #[.int .i64 a0_0, .int .i64 a0_1, .int .i64 a0_2, .int .i64 a0_3, .int .i64 a0_4, .int .i64 a0_5] 44)) (some ⟨w.heap.size, 1, none⟩) [a0_1, a0_2, a0_3, a0_4, a0_5].length [a0_1, a0_2, a0_3, a0_4, a0_5] := by
    refine Kd.C_of_reads (d := (0 : Int)) (h1 := fun _ => rfl) ⟨rfl, by simp, fun _ => ⟨_, rfl, fun j hj => ?_⟩⟩
    have hb := blk_new w (.cells #[.int .i64 a0_0, .int .i64 a0_1, .int .i64 a0_2, .int .i64 a0_3, .int .i64 a0_4, .int .i64 a0_5] 44)
    have hj : j < 5 := hj
    match j, hj with
    | 0, _ => exact (blk_cell hb 1).trans rfl
    | 1, _ => exact (blk_cell hb 2).trans rfl
    | 2, _ => exact (blk_cell hb 3).trans rfl
    | 3, _ => exact (blk_cell hb 4).trans rfl
    | 4, _ => exact (blk_cell hb 5).trans rfl
  have HI := Aside0.mk (hContainsInt 117 #[] (fun n => !okPart n) (fun args w => by rfl) (some ⟨w.heap.size, 1, none⟩) 5 [a0_1, a0_2, a0_3, a0_4, a0_5] _ hC (fun W x _ _ => fitErr_part x W))
  clear hC
  obtain ⟨q, hq⟩ : ∃ q, q = [a0_1, a0_2, a0_3, a0_4, a0_5].any (fun n => !okPart n) := ⟨_, rfl⟩
  rw [← hq] at HI HR
  clear hq
  have hw : dam_within.f a0_0 1 1000000000000 = some (decide (1 ≤ a0_0) && decide (a0_0 ≤ 1000000000000)) := by
    unfold dam_within.f
    by_cases h : 1 ≤ a0_0 <;> simp [h]
  obtain ⟨q1, hq1⟩ : ∃ q1, q1 = (decide (1 ≤ a0_0) && decide (a0_0 ≤ 1000000000000)) := ⟨_, rfl⟩
  rw [← hq1] at hw HR
  clear hq1
  have HW := Aside0.mk hw
  clear hw
  have hun : dam_unless.f (q1 && !q) 2 = some r := by
    rw [HR.out]
    unfold dam_unless.f
    cases q1 <;> cases q <;> rfl
  have HU := Aside0.mk hun
  clear hun
  cases q1 <;> cases q
  all_goals
    go_enter Tryz.func76, Tryz.ntmps76
    go_wp2_with (first | (go_at_call 94; refine HI.out.mono ?_; rintro e w1 ⟨rfl, hb1⟩; have hcl := (blk_cell (blk_below (blk_new w _) hb1) 0).trans rfl; have HB1 := Aside0.mk hb1; clear hb1) | (go_at_call 65; refine (dam_within.calls _ _ _ _ _ HW.out).mono ?_; rintro e w2 ⟨rfl, hb2⟩; have HB2 := Aside0.mk hb2.below; clear hb2) | (go_at_call 61; refine (dam_unless.calls _ _ _ _ HU.out).mono ?_; rintro e w3 ⟨rfl, hb3⟩; have HB3 := Aside0.mk hb3.below; clear hb3))
    go_ret
    exact ⟨rfl, below_step (below_step (below_step (below_alloc (Below.refl _ _) _) HB1.out) HB2.out) HB3.out⟩
end Go.Proofs.YteopooljohdoiaaGreat.Px
