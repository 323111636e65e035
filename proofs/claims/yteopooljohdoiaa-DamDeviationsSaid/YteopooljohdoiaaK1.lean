/- Contracts of the program's functions and plain words (part 1): each says what a call answers and that what lay in memory lies; no condition but what stands in each theorem -/
import Derived.WalkKit
import Derived.Lib.SliceRun
import Derived.Deep.LoopGhost
import Derived.Shelf.Abstract
import Derived.RangeFuncKeeps
import Derived.RangeFuncBound
import Derived.RangeFuncCalls
import Derived.RangeFuncLeaves
import Derived.Shelf.RegionOpen
import Derived.OwnWalkIn
import Derived.TacticsInMore
import Derived.LoopNIn
import Derived.LoopIn
import Derived.Test.YteopooljohdoiaaWWords
import Derived.Test.YteopooljohdoiaaWLast
import Derived.StillTailTactics
import Derived.Deep.RegionHeld3
import Derived.ChangeKeysEq
import Derived.Test.YteopooljohdoiaaWMore
import Derived.Test.YteopooljohdoiaaProg
import Derived.Below
import Derived.Deep.Draws
import Derived.Deep.AppendLies
import Derived.Maps.AppendAt
import Derived.OwnWalk
import Derived.Laws.BytesArg
import Derived.Laws.MakeOwn
import Derived.Laws.OwnMore
import Derived.Deep.OwnRows
import Derived.Tactics
import Derived.Lib.ConvBytes
import Derived.Laws.Slices
import Derived.KernelRfl
import Derived.RowKit3
import Derived.Deep.QuietTactic
import Derived.BigQuiet
import Derived.WideLaws
import Derived.Deep.DeepCutAuto
import Derived.Deep.CutBlock
import Derived.Laws.Rows
import Derived.Lib.AppendStr
import Derived.ArgAppend
import Derived.Laws.IdiomCopy
import Derived.OrdersHeld
import Derived.Laws.BitsLemmas
import Derived.RowKit
import Derived.Test.YteopooljohdoiaaWTab
import Derived.Test.YteopooljohdoiaaWFour
import Derived.Test.YteopooljohdoiaaWQPut
import Derived.Test.YteopooljohdoiaaWApart
import Derived.Test.YteopooljohdoiaaWArr
import Derived.Test.YteopooljohdoiaaWZeros
import Derived.Test.YteopooljohdoiaaWFoot
import Derived.Test.YteopooljohdoiaaWKept
import Derived.Test.YteopooljohdoiaaWShare
import Derived.Test.YteopooljohdoiaaWN
import Derived.Test.YteopooljohdoiaaWFootNe
import Derived.Test.YteopooljohdoiaaWAt
import Derived.Test.YteopooljohdoiaaWEqStruct
import Derived.Test.YteopooljohdoiaaWRepsOne
import Derived.Test.YteopooljohdoiaaWInv
import Derived.Test.YteopooljohdoiaaWInvWords
import Derived.Test.YteopooljohdoiaaWGuard
import Derived.Test.YteopooljohdoiaaWNEv
set_option linter.unusedVariables false
set_option linter.unusedSimpArgs false
namespace Go.Proofs.Yteopooljohdoiaa.Px
open Go.RowKit
def idxF {α : Type} (p : α → Bool) (l : List α) : Int := match l.findIdx? p with | some i => (i : Int) | none => -1
theorem idxF_hit {α : Type} {p : α → Bool} {l : List α} {d : α} {k : Nat} (hk : k < l.length) (h0 : ∀ j, j < k → p (l.getD j d) = false) (h1 : p (l.getD k d) = true) : idxF p l = k := by
  have : l.findIdx? p = some k := by
    rw [List.findIdx?_eq_some_iff_getElem]
    refine ⟨hk, ?_, ?_⟩
    · simpa [List.getD_eq_getElem?_getD, List.getElem?_eq_getElem hk] using h1
    · intro j hj
      have := h0 j hj
      have hj' : j < l.length := by omega
      simpa [List.getD_eq_getElem?_getD, List.getElem?_eq_getElem hj'] using this
  simp [idxF, this]
theorem idxF_miss {α : Type} {p : α → Bool} {l : List α} {d : α} (h0 : ∀ j, j < l.length → p (l.getD j d) = false) : idxF p l = -1 := by
  have : l.findIdx? p = none := by
    rw [List.findIdx?_eq_none_iff]
    intro x hx
    obtain ⟨j, hj, rfl⟩ := List.getElem_of_mem hx
    have := h0 j hj
    simpa [List.getD_eq_getElem?_getD, List.getElem?_eq_getElem hj] using this
  simp [idxF, this]
theorem idxF_any {α : Type} (p : α → Bool) (l : List α) : decide (0 ≤ idxF p l) = l.any p := by
  unfold idxF
  cases h : l.findIdx? p with
  | none =>
    rw [List.findIdx?_eq_none_iff] at h
    have : l.any p = false := by rw [List.any_eq_false]; intro x hx; simp [h x hx]
    simp [this]
  | some i =>
    rw [List.findIdx?_eq_some_iff_getElem] at h
    obtain ⟨hi, h1, _⟩ := h
    have : l.any p = true := by rw [List.any_eq_true]; exact ⟨l[i], List.getElem_mem hi, h1⟩
    simp [this]
def PredB {α : Type} (P : Program) (g : Nat) (lb : Array Value) (enc : α → Value) (p : α → Bool) (l : List α) (w : World) : Prop :=
  ∀ (W : World) (x : α), x ∈ l → Below w.heap.size w W → Calls P g (#[enc x] ++ lb) W fun e w' => e = .returned (.bool (p x)) ∧ Below W.heap.size W w'
def KeepSL (s l : Nat) (W W' : World) : Prop := W.heap.size ≤ W'.heap.size ∧ ∀ i, i < W.heap.size → i ≠ s → i ≠ l → W'.heap[i]? = W.heap[i]?
theorem KeepSL.refl (s l : Nat) (W : World) : KeepSL s l W W := ⟨Nat.le_refl _, fun _ _ _ _ => rfl⟩
theorem KeepSL.trans {s l : Nat} {A B C : World} (h : KeepSL s l A B) (k : KeepSL s l B C) : KeepSL s l A C :=
  ⟨Nat.le_trans h.1 k.1, fun i hi h1 h2 => (k.2 i (Nat.lt_of_lt_of_le hi h.1) h1 h2).trans (h.2 i hi h1 h2)⟩
theorem KeepSL.of_below {s l : Nat} {A B : World} (h : Below A.heap.size A B) : KeepSL s l A B := ⟨h.size, fun i hi _ _ => h.block i hi⟩
def permLoop (rec : List Int → Int → List (List Int × Int)) (b : List Int) : List Nat → Int → List (List Int × Int)
  | [], _ => []
  | n :: ns, s => if b.contains (n : Int) then permLoop rec b ns s else rec (b ++ [(n : Int)]) s ++ permLoop rec b ns (-s)
def permsOf (count : Nat) : Nat → List Int → Int → List (List Int × Int)
  | 0, b, s => [(b, s)]
  | d + 1, b, s => permLoop (permsOf count d) b (List.range count) s
theorem range_drop (count k : Nat) (h : k < count) : (List.range count).drop k = k :: (List.range count).drop (k + 1) := by
  rw [List.drop_eq_getElem_cons (by simpa using h)]
  simp
theorem range_drop_all (count : Nat) : (List.range count).drop count = [] := by simp
def prodTo (m : List (List Int)) (o : List Int) (sg : Int) : Nat → Int
  | 0 => sg
  | k + 1 => wrap64 (prodTo m o sg k * (m.getD k []).getD (o.getD k 0).toNat 0)
def detSum (m : List (List Int)) (l : List (List Int × Int)) : Int := l.foldl (fun s x => wrap64 (s + prodTo m x.1 x.2 m.length)) 0
theorem detSum_snoc (m : List (List Int)) (l : List (List Int × Int)) (o : List Int) (sg : Int) : detSum m (l ++ [(o, sg)]) = wrap64 (detSum m l + prodTo m o sg m.length) := by
  simp [detSum, List.foldl_append]
end Go.Proofs.Yteopooljohdoiaa.Px
namespace Go.Proofs.Yteopooljohdoiaa.Px
open Go.RowKit Go.Proofs.YteopooljohdoiaaW.PrintWords Go.Proofs.YteopooljohdoiaaW.PrintLast
def hdr (n g : Nat) : Value := .slice (some ⟨g, 0, none⟩) n n
def IntBlk (W : World) (g : Nat) (xs : List Int) : Prop := W.heap[g]? = some (.cells (nums .i64 xs).toArray 3 (0, 0))
theorem IntBlk.lt {W : World} {g : Nat} {xs : List Int} (h : IntBlk W g xs) : g < W.heap.size := blk_lt h
theorem IntBlk.cell {W : World} {g : Nat} {xs : List Int} (h : IntBlk W g xs) {i : Nat} (hi : i < xs.length) : W.cell? ⟨g, i, none⟩ = some (.int .i64 (xs.getD i 0)) := by
  refine (blk_cell h i).trans ?_
  simp [nums, List.getD_eq_getElem?_getD, List.getElem?_eq_getElem hi]
theorem IntBlk.frozen {W : World} {g : Nat} {xs : List Int} (h : IntBlk W g xs) (i : Nat) : W.frozen? ⟨g, i, none⟩ = false := blk_frozen h i
theorem IntBlk.set {W : World} {g : Nat} {xs : List Int} (h : IntBlk W g xs) (i : Nat) (v : Int) : IntBlk (W.setCell ⟨g, i, none⟩ (.int .i64 v)) g (xs.set i v) := by
  refine blk_put h i _ ?_
  simp [nums, List.map_set]
theorem IntBlk.far {W : World} {g g2 : Nat} {xs : List Int} (h : IntBlk W g xs) (hne : g ≠ g2) (i : Nat) (v : Value) : IntBlk (W.setCell ⟨g2, i, none⟩ v) g xs := blk_far (p := ⟨g2, i, none⟩) h hne v
theorem IntBlk.below {W W' : World} {g : Nat} {xs : List Int} (h : IntBlk W g xs) (hb : Below W.heap.size W W') : IntBlk W' g xs := blk_below h hb
theorem IntBlk.C {W : World} {g : Nat} {xs : List Int} (h : IntBlk W g xs) (hm : xs.length ≤ 9223372036854775807) : Kd.C (Kd.int .i64) W (some ⟨g, 0, none⟩) xs.length xs := by
  refine Kd.C_of_reads (d := (0 : Int)) (h1 := fun _ => rfl) ⟨rfl, hm, fun _ => ⟨_, rfl, fun j hj => ?_⟩⟩
  rw [add_plain]
  exact h.cell hj
theorem made_nums (n : Nat) : madeCells #[Value.int .i64 0] n = (nums .i64 (List.replicate n 0)).toArray := by
  apply Array.toList_inj.1
  apply List.ext_getElem
  · simp [nums, madeCells]
  · intro i h1 h2
    simp [nums, madeCells, Nat.mod_one]
theorem IntBlk.made (W : World) (n : Nat) : IntBlk (W.alloc (.cells (madeCells #[.int .i64 0] n) 3)) W.heap.size (List.replicate n 0) := by
  rw [made_nums]
  exact blk_new _ _
def HdrBlk (W : World) (Gm n : Nat) (gs : List Nat) : Prop := W.heap[Gm]? = some (.cells (gs.map (hdr n) ++ List.replicate (n - gs.length) (Value.slice none 0 0)).toArray 22 (0, 0))
theorem HdrBlk.cell {W : World} {Gm n : Nat} {gs : List Nat} (h : HdrBlk W Gm n gs) {i : Nat} (hi : i < gs.length) : W.cell? ⟨Gm, i, none⟩ = some (.slice (some ⟨gs.getD i 0, 0, none⟩) n n) := by
  refine (blk_cell h i).trans ?_
  simp [List.getD_eq_getElem?_getD, List.getElem?_eq_getElem hi, List.getElem?_append_left (show i < (gs.map (hdr n)).length by simpa using hi), hdr]
theorem HdrBlk.made (W : World) (n : Nat) : HdrBlk (W.alloc (.cells (madeCells #[.slice none 0 0] n) 22)) W.heap.size n [] := by
  have : madeCells #[Value.slice none 0 0] n = (([] : List Nat).map (hdr n) ++ List.replicate (n - 0) (Value.slice none 0 0)).toArray := by
    apply Array.toList_inj.1
    apply List.ext_getElem
    · simp [madeCells]
    · intro i h1 h2
      simp [madeCells, Nat.mod_one]
  rw [this]
  exact blk_new _ _
theorem HdrBlk.put {W : World} {Gm n : Nat} {gs : List Nat} (h : HdrBlk W Gm n gs) (hlt : gs.length < n) (g : Nat) : HdrBlk (W.setCell ⟨Gm, gs.length, none⟩ (.slice (some ⟨g, 0, none⟩) n n)) Gm n (gs ++ [g]) := by
  refine blk_put h _ _ ?_
  apply Array.toList_inj.1
  have e : n - gs.length = (n - (gs.length + 1)) + 1 := by omega
  simp only [List.setIfInBounds_toArray, List.length_append, List.length_singleton, List.map_append, List.map_cons, List.map_nil]
  rw [e, List.replicate_succ, List.set_append_right _ _ (by simp)]
  simp [hdr]
structure MatSt (W : World) (B Gm Gr n : Nat) (gs : List Nat) (rows : List (List Int)) (right : List Int) : Prop where
  len : gs.length = rows.length
  hd : HdrBlk W Gm n gs
  rt : IntBlk W Gr right
  row : ∀ i, i < gs.length → IntBlk W (gs.getD i 0) (rows.getD i []) ∧ (rows.getD i []).length = n ∧ B ≤ gs.getD i 0 ∧ gs.getD i 0 ≠ Gm ∧ gs.getD i 0 ≠ Gr
  nodup : ∀ i j, i < gs.length → j < gs.length → gs.getD i 0 = gs.getD j 0 → i = j
  rtlen : right.length = n
  bm : B ≤ Gm
  br : B ≤ Gr
  ne : Gm ≠ Gr
theorem MatSt.below {W W' : World} {B Gm Gr n : Nat} {gs : List Nat} {rows : List (List Int)} {right : List Int} (h : MatSt W B Gm Gr n gs rows right) (hb : Below W.heap.size W W') : MatSt W' B Gm Gr n gs rows right :=
  { h with hd := blk_below h.hd hb, rt := h.rt.below hb, row := fun i hi => ⟨(h.row i hi).1.below hb, (h.row i hi).2⟩ }
theorem MatSt.setRight {W : World} {B Gm Gr n : Nat} {gs : List Nat} {rows : List (List Int)} {right : List Int} (h : MatSt W B Gm Gr n gs rows right) (i : Nat) (v : Int) : MatSt (W.setCell ⟨Gr, i, none⟩ (.int .i64 v)) B Gm Gr n gs rows (right.set i v) :=
  { h with hd := blk_far (p := ⟨Gr, i, none⟩) h.hd h.ne _, rt := h.rt.set i v, row := fun j hj => ⟨(h.row j hj).1.far (h.row j hj).2.2.2.2 _ _, (h.row j hj).2⟩, rtlen := by simpa using h.rtlen }
theorem getD_set_same {α : Type} (l : List α) (i : Nat) (x d : α) (h : i < l.length) : (l.set i x).getD i d = x := by
  simp [List.getD_eq_getElem?_getD, List.getElem?_set, h]
theorem getD_set_other {α : Type} (l : List α) (i j : Nat) (x d : α) (h : i ≠ j) : (l.set i x).getD j d = l.getD j d := by
  simp [List.getD_eq_getElem?_getD, List.getElem?_set, h]
theorem MatSt.setEntry {W : World} {B Gm Gr n : Nat} {gs : List Nat} {rows : List (List Int)} {right : List Int} (h : MatSt W B Gm Gr n gs rows right) {i : Nat} (hi : i < gs.length) (k : Nat) (v : Int) :
    MatSt (W.setCell ⟨gs.getD i 0, k, none⟩ (.int .i64 v)) B Gm Gr n gs (rows.set i ((rows.getD i []).set k v)) right :=
  { h with
    len := by simpa using h.len
    hd := blk_far (p := ⟨gs.getD i 0, k, none⟩) h.hd (Ne.symm (h.row i hi).2.2.2.1) _
    rt := h.rt.far (Ne.symm (h.row i hi).2.2.2.2) _ _
    row := fun j hj => by
      by_cases e : i = j
      · subst e
        rw [getD_set_same _ _ _ _ (by rw [← h.len]; exact hi)]
        exact ⟨(h.row i hi).1.set k v, by simpa using (h.row i hi).2.1, (h.row i hi).2.2⟩
      · rw [getD_set_other _ _ _ _ _ e]
        exact ⟨(h.row j hj).1.far (fun e2 => e (h.nodup i j hi hj e2.symm)) _ _, (h.row j hj).2⟩ }
theorem MatSt.newRow {W : World} {B Gm Gr n : Nat} {gs : List Nat} {rows : List (List Int)} {right : List Int} (h : MatSt W B Gm Gr n gs rows right) (hlt : gs.length < n) {W2 : World} {g : Nat} {row : List Int} (hb : Below W.heap.size W W2) (hg : IntBlk W2 g row) (hgs : W.heap.size ≤ g) (hrl : row.length = n) :
    MatSt (W2.setCell ⟨Gm, gs.length, none⟩ (.slice (some ⟨g, 0, none⟩) n n)) B Gm Gr n (gs ++ [g]) (rows ++ [row]) right := by
  have h2 := h.below hb
  have hmlt : Gm < W.heap.size := blk_lt h.hd
  have hrlt : Gr < W.heap.size := h.rt.lt
  have hB : B ≤ g := by have := h.bm; omega
  refine { len := by simp [h.len], hd := HdrBlk.put h2.hd hlt g, rt := h2.rt.far (Ne.symm h.ne) _ _, row := fun i hi => ?_, nodup := fun i j hi hj e => ?_, rtlen := h.rtlen, bm := h.bm, br := h.br, ne := h.ne }
  · rcases Nat.lt_or_ge i gs.length with hi' | hi'
    · have e1 : (gs ++ [g]).getD i 0 = gs.getD i 0 := by simp [List.getD_eq_getElem?_getD, List.getElem?_append_left hi']
      have e2 : (rows ++ [row]).getD i [] = rows.getD i [] := by simp [List.getD_eq_getElem?_getD, List.getElem?_append_left (show i < rows.length by rw [← h.len]; exact hi')]
      rw [e1, e2]
      exact ⟨(h2.row i hi').1.far (h2.row i hi').2.2.2.1 _ _, (h2.row i hi').2⟩
    · have : i = gs.length := by simp at hi; omega
      subst this
      have e1 : (gs ++ [g]).getD gs.length 0 = g := by simp [List.getD_eq_getElem?_getD]
      have e2 : (rows ++ [row]).getD gs.length [] = row := by rw [h.len]; simp [List.getD_eq_getElem?_getD]
      rw [e1, e2]
      exact ⟨hg.far (by omega) _ _, hrl, hB, by omega, by omega⟩
  · have key : ∀ i, i < gs.length → gs.getD i 0 < W.heap.size := fun i hi => (h.row i hi).1.lt
    have e1 : ∀ i, i < gs.length → (gs ++ [g]).getD i 0 = gs.getD i 0 := fun i hi => by simp [List.getD_eq_getElem?_getD, List.getElem?_append_left hi]
    have e2 : (gs ++ [g]).getD gs.length 0 = g := by simp [List.getD_eq_getElem?_getD]
    simp only [List.length_append, List.length_singleton] at hi hj
    rcases Nat.lt_or_ge i gs.length with hi' | hi' <;> rcases Nat.lt_or_ge j gs.length with hj' | hj'
    · rw [e1 i hi', e1 j hj'] at e
      exact h.nodup i j hi' hj' e
    · have : j = gs.length := by omega
      subst this
      rw [e1 i hi', e2] at e
      have := key i hi'
      omega
    · have : i = gs.length := by omega
      subst this
      rw [e1 j hj', e2] at e
      have := key j hj'
      omega
    · omega
theorem litC (w : World) (t : TypeId) (xs : List Int) (hm : xs.length ≤ 9223372036854775807 := by decide) : Kd.C (Kd.int .i64) (w.alloc (.cells (nums .i64 xs).toArray t)) (some ⟨w.heap.size, 0, none⟩) xs.length xs := by
  refine Kd.C_of_reads (d := (0 : Int)) (h1 := fun _ => rfl) ⟨rfl, hm, fun _ => ⟨_, rfl, fun j hj => ?_⟩⟩
  rw [add_plain]
  refine (blk_cell (blk_new w _) j).trans ?_
  simp [nums, List.getD_eq_getElem?_getD, List.getElem?_eq_getElem hj]
theorem w64 {n : Int} (h0 : -9223372036854775808 ≤ n) (h1 : n ≤ 9223372036854775807) : wrap64 n = n := by unfold wrap64; omega
theorem keep2 {wr W : World} {a b : Addr} {u v : Value} (ha : wr.cell? a = some u) (hb : wr.cell? b = some v) (h : Below wr.heap.size wr W) : W.cell? a = some u ∧ W.cell? b = some v ∧ Below wr.heap.size wr W :=
  ⟨(h.cell (World.block_lt_of_cell? wr _ ha)).trans ha, (h.cell (World.block_lt_of_cell? wr _ hb)).trans hb, h⟩
def swap2 (xs : List Int) (j : Nat) : List Int := (xs.set (j + 1) (xs.getD j 0)).set j (xs.getD (j + 1) 0)
def sink (lt : Int → Int → Bool) : Nat → List Int → List Int
  | 0, xs => xs
  | j + 1, xs => if lt (xs.getD (j + 1) 0) (xs.getD j 0) then sink lt j (swap2 xs j) else xs
def insTo (lt : Int → Int → Bool) : Nat → List Int → List Int
  | 0, xs => xs
  | i + 1, xs => sink lt i (insTo lt i xs)
theorem swap2_len (xs : List Int) (j : Nat) : (swap2 xs j).length = xs.length := by simp [swap2]
theorem sink_len (lt : Int → Int → Bool) : ∀ (j : Nat) (xs : List Int), (sink lt j xs).length = xs.length
  | 0, _ => rfl
  | j + 1, xs => by
    unfold sink
    split
    · rw [sink_len lt j, swap2_len]
    · rfl
theorem insTo_len (lt : Int → Int → Bool) : ∀ (i : Nat) (xs : List Int), (insTo lt i xs).length = xs.length
  | 0, _ => rfl
  | i + 1, xs => by
    unfold insTo
    rw [sink_len, insTo_len lt i]
theorem swap2_all {p : Int → Prop} {xs : List Int} {j : Nat} (hj : j + 1 < xs.length) (h : ∀ x ∈ xs, p x) : ∀ x ∈ swap2 xs j, p x := by
  have g : ∀ k, k < xs.length → p (xs.getD k 0) := fun k hk => h _ (by rw [List.getD_eq_getElem?_getD, List.getElem?_eq_getElem hk]; exact List.getElem_mem hk)
  intro x hx
  unfold swap2 at hx
  rcases List.mem_or_eq_of_mem_set hx with hx | rfl
  · rcases List.mem_or_eq_of_mem_set hx with hx | rfl
    · exact h x hx
    · exact g j (by omega)
  · exact g (j + 1) hj
theorem sink_all {p : Int → Prop} (lt : Int → Int → Bool) : ∀ (j : Nat) (xs : List Int), j < xs.length → (∀ x ∈ xs, p x) → ∀ x ∈ sink lt j xs, p x
  | 0, _, _, h => h
  | j + 1, xs, hj, h => by
    unfold sink
    split
    · exact sink_all lt j _ (by rw [swap2_len]; omega) (swap2_all hj h)
    · exact h
theorem insTo_all {p : Int → Prop} (lt : Int → Int → Bool) : ∀ (i : Nat) (xs : List Int), i ≤ xs.length → (∀ x ∈ xs, p x) → ∀ x ∈ insTo lt i xs, p x
  | 0, _, _, h => h
  | i + 1, xs, hi, h => by
    unfold insTo
    exact sink_all lt i _ (by rw [insTo_len]; omega) (insTo_all lt i xs (by omega) h)
def ButG (w W : World) (g : Nat) : Prop := W.os = w.os ∧ W.tape = w.tape ∧ W.output = w.output ∧ w.heap.size ≤ W.heap.size ∧ ∀ k, k < w.heap.size → k ≠ g → W.heap[k]? = w.heap[k]?
theorem ButG.refl (w : World) (g : Nat) : ButG w w g := ⟨rfl, rfl, rfl, Nat.le_refl _, fun _ _ _ => rfl⟩
theorem ButG.below {w W W2 : World} {g : Nat} (h : ButG w W g) (hb : Below W.heap.size W W2) : ButG w W2 g :=
  ⟨hb.os.trans h.1, hb.tape.trans h.2.1, hb.output.trans h.2.2.1, Nat.le_trans h.2.2.2.1 hb.size, fun k hk hg => (hb.block k (Nat.lt_of_lt_of_le hk h.2.2.2.1)).trans (h.2.2.2.2 k hk hg)⟩
theorem ButG.set {w W : World} {g : Nat} (h : ButG w W g) (i : Nat) (v : Value) : ButG w (W.setCell ⟨g, i, none⟩ v) g :=
  ⟨h.1, h.2.1, h.2.2.1, by simpa [World.setCell] using h.2.2.2.1, fun k hk hg => (Below.heap_setCell W ⟨g, i, none⟩ v k hg).trans (h.2.2.2.2 k hk hg)⟩
theorem ButG.toBelow {w0 w W : World} {g : Nat} (h : ButG w W g) (h0 : Below w0.heap.size w0 w) (hg : w0.heap.size ≤ g) : Below w0.heap.size w0 W :=
  ⟨h.1.trans h0.os, h.2.1.trans h0.tape, h.2.2.1.trans h0.output, Nat.le_trans h0.size h.2.2.2.1, fun k hk => (h.2.2.2.2 k (Nat.lt_of_lt_of_le hk h0.size) (by omega)).trans (h0.block k hk)⟩
def CmpB (P : Program) (gf : Nat) (lb : Array Value) (lt : Int → Int → Bool) (p : Int → Prop) (g : Nat) (w : World) : Prop :=
  ∀ (W : World) (x y : Int), p x → p y → ButG w W g → Calls P gf (#[.int .i64 x, .int .i64 y] ++ lb) W fun e w' => ∃ c : Int, e = .returned (.int .i64 c) ∧ decide (c < 0) = lt x y ∧ Below W.heap.size W w'
theorem Kd.R_twoS {w : World} {B : Nat} {ok : Nat → Prop} {v : Value} {xs : List Int} (h : Kd.R (Kd.int .i64) 3 w B ok v xs) : (v = .slice none 0 0 ∧ xs = []) ∨ ∃ g cap, v = .slice (some ⟨g, 0, none⟩) xs.length cap ∧ B ≤ g := by
  obtain ⟨inner, ho⟩ := Kd.R_own h
  rcases ho.2 with ⟨rfl, h0⟩ | ⟨g, cap, cur, rfl, hg, _⟩
  · exact .inl ⟨rfl, List.eq_nil_of_length_eq_zero h0⟩
  · exact .inr ⟨g, cap, rfl, hg⟩
theorem ButG.after {w W W2 : World} {g : Nat} (hb : Below w.heap.size w W) (h : ButG W W2 g) : ButG w W2 g :=
  ⟨h.1.trans hb.os, h.2.1.trans hb.tape, h.2.2.1.trans hb.output, Nat.le_trans hb.size h.2.2.2.1, fun k hk hg => (h.2.2.2.2 k (Nat.lt_of_lt_of_le hk hb.size) hg).trans (hb.block k hk)⟩
theorem eqi_cons {P : Program} {d : Nat} {e : TypeId} {n : Nat} {xs ys : Array Value} {j : Nat} {js : List Nat} {a b : Value} {r s : Bool} {w : World} (ha : (part e xs (j * n)).run P w = .ok a w) (hb : (part e ys (j * n)).run P w = .ok b w) (he : (Op.equalIn d e a b).run P w = .ok r w) (hr : (Op.eqItems d e n xs ys js).run P w = .ok s w) :
    (Op.eqItems d e n xs ys (j :: js)).run P w = .ok (r && s) w := by
  simp only [Op.eqItems, Sem.run_bind, ha, hb, he, Result.andThen_ok]
  cases r
  · simp
  · simpa using hr
end Go.Proofs.Yteopooljohdoiaa.Px
namespace Go.Proofs.Yteopooljohdoiaa.Px
open Go.RowKit Go.Proofs.YteopooljohdoiaaW.PrintWords Go.Proofs.YteopooljohdoiaaW.PrintLast Go.Proofs.YteopooljohdoiaaW.PrintMore
attribute [local go_sem] max2_int min2_int max_two min_two max_three min_three max_four min_four
def errW : Option Int → Value
  | none => .nilIface
  | some c => .iface 0 (.int .i64 c)
theorem errW_none : errW none = .nilIface := rfl
theorem errW_some (c : Int) : errW (some c) = .iface 0 (.int .i64 c) := rfl
theorem info3 : (Try.prog.info? 3).map (fun i => (i.zero, i.size, i.bytes)) = some (some (.int .i64 0), 1, 8) := by kernel_rfl
theorem info26 : (Try.prog.info? 26).map (fun i => (i.zero, i.size, i.bytes)) = some (some (.int .i64 0), 1, 8) := by kernel_rfl
theorem info53 : (Try.prog.info? 53).map (fun i => (i.zero, i.size, i.bytes)) = some (some (.agg #[(.int .i64 0), (.int .i64 0), (.int .i64 0)]), 3, 24) := by kernel_rfl
theorem info78 : (Try.prog.info? 78).map (fun i => (i.zero, i.size, i.bytes)) = some (some (.agg #[(.int .i64 0), (.int .i64 0)]), 2, 16) := by kernel_rfl
theorem info112 : (Try.prog.info? 112).map (fun i => (i.zero, i.size, i.bytes)) = some (some (.agg #[(.int .i64 0), (.int .i64 0)]), 2, 16) := by kernel_rfl
theorem info135 : (Try.prog.info? 135).map (fun i => (i.zero, i.size, i.bytes)) = some (some (.agg #[(.string ⟨#[]⟩), (.int .i64 0)]), 2, 24) := by kernel_rfl
structure S112 where
  f0 : Int
  f1 : Int
def z112 : S112 := ⟨(0 : Int), (0 : Int)⟩
def k112 : Kd S112 := Kd.iso (Kd.pair (Kd.int .i64) (Kd.int .i64)) (fun x : S112 => (x.f0, x.f1))
theorem k112_open {w : World} {x : S112} {cs : List Value} (h : k112.K w x cs) : cs = [.int .i64 x.f0, .int .i64 x.f1] := by
  obtain ⟨_, _, rfl, rfl, rfl⟩ := h
  exact rfl
theorem k112_openM {w : World} {base : Nat} {ok : Nat → Prop} {x : S112} {cs : List Value} (h : k112.M w base ok x cs) : cs = [.int .i64 x.f0, .int .i64 x.f1] := by
  obtain ⟨_, _, rfl, rfl, rfl⟩ := h
  exact rfl
theorem k112_mk (w : World) (x : S112)  : k112.K w x [.int .i64 x.f0, .int .i64 x.f1] := ⟨[.int .i64 x.f0], [.int .i64 x.f1], rfl, rfl, rfl⟩
theorem k112_mkM (w : World) (base : Nat) (ok : Nat → Prop) (x : S112)  : k112.M w base ok x [.int .i64 x.f0, .int .i64 x.f1] := ⟨[.int .i64 x.f0], [.int .i64 x.f1], rfl, rfl, rfl⟩
def rd_T112 (xs : List S112) (i : Int) : S112 := xs.getD i.toNat z112
theorem at_T112 {w : World} {A : Option Addr} {n : Nat} {xs : List S112} (h : Kd.C k112 w A n xs) (i : Int) (h0 : 0 ≤ i) (h1 : i < n) : ∃ ad , A = some ad ∧ w.cell? (ad.add (i.toNat * 2)) = some (.int .i64 (rd_T112 xs i).f0) ∧ w.cell? ⟨(ad.add (i.toNat * 2)).block, (ad.add (i.toNat * 2)).off + 1, none⟩ = some (.int .i64 (rd_T112 xs i).f1) := by
  obtain ⟨ad, c, e, _, hK, hc0⟩ := Kd.C_get h z112 i h0 h1
  have hc : ∀ j u, c[j]? = some u → w.cell? (ad.add (i.toNat * 2 + j)) = some u := hc0
  obtain rfl := k112_open hK
  exact ⟨ad, e, hc 0 _ rfl, by rw [← add_field _ _ 1 (by omega)]; exact hc 1 _ rfl⟩
def rd_L2 (xs : List (List S112)) (i : Int) : (List S112) := xs.getD i.toNat ([] : List S112)
theorem at_L2 {w : World} {A : Option Addr} {n : Nat} {xs : List (List S112)} (h : Kd.C (Kd.slice 112 k112) w A n xs) (i : Int) (h0 : 0 ≤ i) (h1 : i < n) : ∃ ad A0 c0, A = some ad ∧ w.cell? (ad.add i.toNat) = some (.slice A0 (rd_L2 xs i).length c0) ∧ (rd_L2 xs i).length ≤ c0 ∧ k112.C w A0 (rd_L2 xs i).length (rd_L2 xs i) := by
  obtain ⟨ad, c, e, _, hK, hc0⟩ := Kd.C_get h ([] : List S112) i h0 h1
  have hc : ∀ j u, c[j]? = some u → w.cell? (ad.add (i.toNat * 1 + j)) = some u := hc0
  obtain ⟨A0, c0, rfl, l0, g0⟩ := hK
  exact ⟨ad, A0, c0, e, by have hq := hc 0 _ rfl; rwa [Nat.mul_one, Nat.add_zero] at hq, l0, g0⟩
def rd_L3 (xs : List (List Int)) (i : Int) : (List Int) := xs.getD i.toNat ([] : List Int)
theorem at_L3 {w : World} {A : Option Addr} {n : Nat} {xs : List (List Int)} (h : Kd.C (Kd.slice 3 (Kd.int .i64)) w A n xs) (i : Int) (h0 : 0 ≤ i) (h1 : i < n) : ∃ ad A0 c0, A = some ad ∧ w.cell? (ad.add i.toNat) = some (.slice A0 (rd_L3 xs i).length c0) ∧ (rd_L3 xs i).length ≤ c0 ∧ (Kd.int .i64).C w A0 (rd_L3 xs i).length (rd_L3 xs i) := by
  obtain ⟨ad, c, e, _, hK, hc0⟩ := Kd.C_get h ([] : List Int) i h0 h1
  have hc : ∀ j u, c[j]? = some u → w.cell? (ad.add (i.toNat * 1 + j)) = some u := hc0
  obtain ⟨A0, c0, rfl, l0, g0⟩ := hK
  exact ⟨ad, A0, c0, e, by have hq := hc 0 _ rfl; rwa [Nat.mul_one, Nat.add_zero] at hq, l0, g0⟩
structure S39 where
  f0 : (List S112)
  f1 : (List Int)
def z39 : S39 := ⟨([] : List S112), ([] : List Int)⟩
def k39 : Kd S39 := Kd.iso (Kd.pair (Kd.slice 112 k112) (Kd.slice 3 (Kd.int .i64))) (fun x : S39 => (x.f0, x.f1))
theorem k39_open {w : World} {x : S39} {cs : List Value} (h : k39.K w x cs) : ∃ A0 c0 A1 c1, cs = [.slice A0 x.f0.length c0, .slice A1 x.f1.length c1] ∧ x.f0.length ≤ c0 ∧ k112.C w A0 x.f0.length x.f0 ∧ x.f1.length ≤ c1 ∧ (Kd.int .i64).C w A1 x.f1.length x.f1 := by
  obtain ⟨_, _, rfl, ⟨A0, c0, rfl, l0, g0⟩, ⟨A1, c1, rfl, l1, g1⟩⟩ := h
  exact ⟨A0, c0, A1, c1, rfl, l0, g0, l1, g1⟩
theorem k39_openM {w : World} {base : Nat} {ok : Nat → Prop} {x : S39} {cs : List Value} (h : k39.M w base ok x cs) : ∃ v0 v1, cs = [v0, v1] ∧ k112.R 112 w base ok v0 x.f0 ∧ (Kd.int .i64).R 3 w base ok v1 x.f1 := by
  obtain ⟨_, _, rfl, ⟨v0, rfl, g0⟩, ⟨v1, rfl, g1⟩⟩ := h
  exact ⟨v0, v1, rfl, g0, g1⟩
theorem k39_mk (w : World) (x : S39) {A0 : Option Addr} {c0 : Nat} (l0 : x.f0.length ≤ c0) (g0 : k112.C w A0 x.f0.length x.f0) {A1 : Option Addr} {c1 : Nat} (l1 : x.f1.length ≤ c1) (g1 : (Kd.int .i64).C w A1 x.f1.length x.f1) : k39.K w x [.slice A0 x.f0.length c0, .slice A1 x.f1.length c1] := ⟨[.slice A0 x.f0.length c0], [.slice A1 x.f1.length c1], rfl, ⟨A0, c0, rfl, l0, g0⟩, ⟨A1, c1, rfl, l1, g1⟩⟩
theorem k39_mkM (w : World) (base : Nat) (ok : Nat → Prop) (x : S39) {v0 : Value} (g0 : k112.R 112 w base ok v0 x.f0) {v1 : Value} (g1 : (Kd.int .i64).R 3 w base ok v1 x.f1) : k39.M w base ok x [v0, v1] := ⟨[v0], [v1], rfl, ⟨v0, rfl, g0⟩, ⟨v1, rfl, g1⟩⟩
def rd_T39 (xs : List S39) (i : Int) : S39 := xs.getD i.toNat z39
theorem at_T39 {w : World} {A : Option Addr} {n : Nat} {xs : List S39} (h : Kd.C k39 w A n xs) (i : Int) (h0 : 0 ≤ i) (h1 : i < n) : ∃ ad A0 c0 A1 c1, A = some ad ∧ w.cell? (ad.add (i.toNat * 2)) = some (.slice A0 (rd_T39 xs i).f0.length c0) ∧ w.cell? ⟨(ad.add (i.toNat * 2)).block, (ad.add (i.toNat * 2)).off + 1, none⟩ = some (.slice A1 (rd_T39 xs i).f1.length c1) ∧ (rd_T39 xs i).f0.length ≤ c0 ∧ k112.C w A0 (rd_T39 xs i).f0.length (rd_T39 xs i).f0 ∧ (rd_T39 xs i).f1.length ≤ c1 ∧ (Kd.int .i64).C w A1 (rd_T39 xs i).f1.length (rd_T39 xs i).f1 := by
  obtain ⟨ad, c, e, _, hK, hc0⟩ := Kd.C_get h z39 i h0 h1
  have hc : ∀ j u, c[j]? = some u → w.cell? (ad.add (i.toNat * 2 + j)) = some u := hc0
  obtain ⟨A0, c0, A1, c1, rfl, l0, g0, l1, g1⟩ := k39_open hK
  exact ⟨ad, A0, c0, A1, c1, e, hc 0 _ rfl, by rw [← add_field _ _ 1 (by omega)]; exact hc 1 _ rfl, l0, g0, l1, g1⟩
structure S116 where
  f0 : S39
def z116 : S116 := ⟨z39⟩
def k116 : Kd S116 := Kd.iso k39 (fun x : S116 => x.f0)
theorem k116_open {w : World} {x : S116} {cs : List Value} (h : k116.K w x cs) : ∃ A0 c0 A1 c1, cs = [.slice A0 x.f0.f0.length c0, .slice A1 x.f0.f1.length c1] ∧ x.f0.f0.length ≤ c0 ∧ k112.C w A0 x.f0.f0.length x.f0.f0 ∧ x.f0.f1.length ≤ c1 ∧ (Kd.int .i64).C w A1 x.f0.f1.length x.f0.f1 := by
  have s0 := h
  obtain ⟨A0, c0, A1, c1, rfl, l0, g0, l1, g1⟩ := k39_open s0
  exact ⟨A0, c0, A1, c1, rfl, l0, g0, l1, g1⟩
theorem k116_openM {w : World} {base : Nat} {ok : Nat → Prop} {x : S116} {cs : List Value} (h : k116.M w base ok x cs) : ∃ v0 v1, cs = [v0, v1] ∧ k112.R 112 w base ok v0 x.f0.f0 ∧ (Kd.int .i64).R 3 w base ok v1 x.f0.f1 := by
  have s0 := h
  obtain ⟨v0, v1, rfl, g0, g1⟩ := k39_openM s0
  exact ⟨v0, v1, rfl, g0, g1⟩
theorem k116_mk (w : World) (x : S116) {A0 : Option Addr} {c0 : Nat} (l0 : x.f0.f0.length ≤ c0) (g0 : k112.C w A0 x.f0.f0.length x.f0.f0) {A1 : Option Addr} {c1 : Nat} (l1 : x.f0.f1.length ≤ c1) (g1 : (Kd.int .i64).C w A1 x.f0.f1.length x.f0.f1) : k116.K w x [.slice A0 x.f0.f0.length c0, .slice A1 x.f0.f1.length c1] := (k39_mk w x.f0 l0 g0 l1 g1)
theorem k116_mkM (w : World) (base : Nat) (ok : Nat → Prop) (x : S116) {v0 : Value} (g0 : k112.R 112 w base ok v0 x.f0.f0) {v1 : Value} (g1 : (Kd.int .i64).R 3 w base ok v1 x.f0.f1) : k116.M w base ok x [v0, v1] := (k39_mkM w base ok x.f0 g0 g1)
def rd_T116 (xs : List S116) (i : Int) : S116 := xs.getD i.toNat z116
theorem at_T116 {w : World} {A : Option Addr} {n : Nat} {xs : List S116} (h : Kd.C k116 w A n xs) (i : Int) (h0 : 0 ≤ i) (h1 : i < n) : ∃ ad A0 c0 A1 c1, A = some ad ∧ w.cell? (ad.add (i.toNat * 2)) = some (.slice A0 (rd_T116 xs i).f0.f0.length c0) ∧ w.cell? ⟨(ad.add (i.toNat * 2)).block, (ad.add (i.toNat * 2)).off + 1, none⟩ = some (.slice A1 (rd_T116 xs i).f0.f1.length c1) ∧ (rd_T116 xs i).f0.f0.length ≤ c0 ∧ k112.C w A0 (rd_T116 xs i).f0.f0.length (rd_T116 xs i).f0.f0 ∧ (rd_T116 xs i).f0.f1.length ≤ c1 ∧ (Kd.int .i64).C w A1 (rd_T116 xs i).f0.f1.length (rd_T116 xs i).f0.f1 := by
  obtain ⟨ad, c, e, _, hK, hc0⟩ := Kd.C_get h z116 i h0 h1
  have hc : ∀ j u, c[j]? = some u → w.cell? (ad.add (i.toNat * 2 + j)) = some u := hc0
  obtain ⟨A0, c0, A1, c1, rfl, l0, g0, l1, g1⟩ := k116_open hK
  exact ⟨ad, A0, c0, A1, c1, e, hc 0 _ rfl, by rw [← add_field _ _ 1 (by omega)]; exact hc 1 _ rfl, l0, g0, l1, g1⟩
structure S53 where
  f0 : Int
  f1 : Int
  f2 : Int
def z53 : S53 := ⟨(0 : Int), (0 : Int), (0 : Int)⟩
def k53 : Kd S53 := Kd.iso (Kd.pair (Kd.int .i64) (Kd.pair (Kd.int .i64) (Kd.int .i64))) (fun x : S53 => (x.f0, x.f1, x.f2))
theorem k53_open {w : World} {x : S53} {cs : List Value} (h : k53.K w x cs) : cs = [.int .i64 x.f0, .int .i64 x.f1, .int .i64 x.f2] := by
  obtain ⟨_, _, rfl, rfl, ⟨_, _, rfl, rfl, rfl⟩⟩ := h
  exact rfl
theorem k53_openM {w : World} {base : Nat} {ok : Nat → Prop} {x : S53} {cs : List Value} (h : k53.M w base ok x cs) : cs = [.int .i64 x.f0, .int .i64 x.f1, .int .i64 x.f2] := by
  obtain ⟨_, _, rfl, rfl, ⟨_, _, rfl, rfl, rfl⟩⟩ := h
  exact rfl
theorem k53_mk (w : World) (x : S53)  : k53.K w x [.int .i64 x.f0, .int .i64 x.f1, .int .i64 x.f2] := ⟨[.int .i64 x.f0], [.int .i64 x.f1, .int .i64 x.f2], rfl, rfl, ⟨[.int .i64 x.f1], [.int .i64 x.f2], rfl, rfl, rfl⟩⟩
theorem k53_mkM (w : World) (base : Nat) (ok : Nat → Prop) (x : S53)  : k53.M w base ok x [.int .i64 x.f0, .int .i64 x.f1, .int .i64 x.f2] := ⟨[.int .i64 x.f0], [.int .i64 x.f1, .int .i64 x.f2], rfl, rfl, ⟨[.int .i64 x.f1], [.int .i64 x.f2], rfl, rfl, rfl⟩⟩
def rd_T53 (xs : List S53) (i : Int) : S53 := xs.getD i.toNat z53
theorem at_T53 {w : World} {A : Option Addr} {n : Nat} {xs : List S53} (h : Kd.C k53 w A n xs) (i : Int) (h0 : 0 ≤ i) (h1 : i < n) : ∃ ad , A = some ad ∧ w.cell? (ad.add (i.toNat * 3)) = some (.int .i64 (rd_T53 xs i).f0) ∧ w.cell? ⟨(ad.add (i.toNat * 3)).block, (ad.add (i.toNat * 3)).off + 1, none⟩ = some (.int .i64 (rd_T53 xs i).f1) ∧ w.cell? ⟨(ad.add (i.toNat * 3)).block, (ad.add (i.toNat * 3)).off + 2, none⟩ = some (.int .i64 (rd_T53 xs i).f2) := by
  obtain ⟨ad, c, e, _, hK, hc0⟩ := Kd.C_get h z53 i h0 h1
  have hc : ∀ j u, c[j]? = some u → w.cell? (ad.add (i.toNat * 3 + j)) = some u := hc0
  obtain rfl := k53_open hK
  exact ⟨ad, e, hc 0 _ rfl, by rw [← add_field _ _ 1 (by omega)]; exact hc 1 _ rfl, by rw [← add_field _ _ 2 (by omega)]; exact hc 2 _ rfl⟩
structure S54 where
  f0 : Int
  f1 : Int
  f2 : Int
  f3 : Int
  f4 : Int
def z54 : S54 := ⟨(0 : Int), (0 : Int), (0 : Int), (0 : Int), (0 : Int)⟩
def k54 : Kd S54 := Kd.iso (Kd.pair (Kd.int .i64) (Kd.pair (Kd.int .i64) (Kd.pair (Kd.int .i64) (Kd.pair (Kd.int .i64) (Kd.int .i64))))) (fun x : S54 => (x.f0, x.f1, x.f2, x.f3, x.f4))
theorem k54_open {w : World} {x : S54} {cs : List Value} (h : k54.K w x cs) : cs = [.int .i64 x.f0, .int .i64 x.f1, .int .i64 x.f2, .int .i64 x.f3, .int .i64 x.f4] := by
  obtain ⟨_, _, rfl, rfl, ⟨_, _, rfl, rfl, ⟨_, _, rfl, rfl, ⟨_, _, rfl, rfl, rfl⟩⟩⟩⟩ := h
  exact rfl
theorem k54_openM {w : World} {base : Nat} {ok : Nat → Prop} {x : S54} {cs : List Value} (h : k54.M w base ok x cs) : cs = [.int .i64 x.f0, .int .i64 x.f1, .int .i64 x.f2, .int .i64 x.f3, .int .i64 x.f4] := by
  obtain ⟨_, _, rfl, rfl, ⟨_, _, rfl, rfl, ⟨_, _, rfl, rfl, ⟨_, _, rfl, rfl, rfl⟩⟩⟩⟩ := h
  exact rfl
theorem k54_mk (w : World) (x : S54)  : k54.K w x [.int .i64 x.f0, .int .i64 x.f1, .int .i64 x.f2, .int .i64 x.f3, .int .i64 x.f4] := ⟨[.int .i64 x.f0], [.int .i64 x.f1, .int .i64 x.f2, .int .i64 x.f3, .int .i64 x.f4], rfl, rfl, ⟨[.int .i64 x.f1], [.int .i64 x.f2, .int .i64 x.f3, .int .i64 x.f4], rfl, rfl, ⟨[.int .i64 x.f2], [.int .i64 x.f3, .int .i64 x.f4], rfl, rfl, ⟨[.int .i64 x.f3], [.int .i64 x.f4], rfl, rfl, rfl⟩⟩⟩⟩
theorem k54_mkM (w : World) (base : Nat) (ok : Nat → Prop) (x : S54)  : k54.M w base ok x [.int .i64 x.f0, .int .i64 x.f1, .int .i64 x.f2, .int .i64 x.f3, .int .i64 x.f4] := ⟨[.int .i64 x.f0], [.int .i64 x.f1, .int .i64 x.f2, .int .i64 x.f3, .int .i64 x.f4], rfl, rfl, ⟨[.int .i64 x.f1], [.int .i64 x.f2, .int .i64 x.f3, .int .i64 x.f4], rfl, rfl, ⟨[.int .i64 x.f2], [.int .i64 x.f3, .int .i64 x.f4], rfl, rfl, ⟨[.int .i64 x.f3], [.int .i64 x.f4], rfl, rfl, rfl⟩⟩⟩⟩
def rd_T54 (xs : List S54) (i : Int) : S54 := xs.getD i.toNat z54
theorem at_T54 {w : World} {A : Option Addr} {n : Nat} {xs : List S54} (h : Kd.C k54 w A n xs) (i : Int) (h0 : 0 ≤ i) (h1 : i < n) : ∃ ad , A = some ad ∧ w.cell? (ad.add (i.toNat * 5)) = some (.int .i64 (rd_T54 xs i).f0) ∧ w.cell? ⟨(ad.add (i.toNat * 5)).block, (ad.add (i.toNat * 5)).off + 1, none⟩ = some (.int .i64 (rd_T54 xs i).f1) ∧ w.cell? ⟨(ad.add (i.toNat * 5)).block, (ad.add (i.toNat * 5)).off + 2, none⟩ = some (.int .i64 (rd_T54 xs i).f2) ∧ w.cell? ⟨(ad.add (i.toNat * 5)).block, (ad.add (i.toNat * 5)).off + 3, none⟩ = some (.int .i64 (rd_T54 xs i).f3) ∧ w.cell? ⟨(ad.add (i.toNat * 5)).block, (ad.add (i.toNat * 5)).off + 4, none⟩ = some (.int .i64 (rd_T54 xs i).f4) := by
  obtain ⟨ad, c, e, _, hK, hc0⟩ := Kd.C_get h z54 i h0 h1
  have hc : ∀ j u, c[j]? = some u → w.cell? (ad.add (i.toNat * 5 + j)) = some u := hc0
  obtain rfl := k54_open hK
  exact ⟨ad, e, hc 0 _ rfl, by rw [← add_field _ _ 1 (by omega)]; exact hc 1 _ rfl, by rw [← add_field _ _ 2 (by omega)]; exact hc 2 _ rfl, by rw [← add_field _ _ 3 (by omega)]; exact hc 3 _ rfl, by rw [← add_field _ _ 4 (by omega)]; exact hc 4 _ rfl⟩
def rd_L9 (xs : List (List (List Int))) (i : Int) : (List (List Int)) := xs.getD i.toNat ([] : List (List Int))
theorem at_L9 {w : World} {A : Option Addr} {n : Nat} {xs : List (List (List Int))} (h : Kd.C (Kd.slice 22 (Kd.slice 3 (Kd.int .i64))) w A n xs) (i : Int) (h0 : 0 ≤ i) (h1 : i < n) : ∃ ad A0 c0, A = some ad ∧ w.cell? (ad.add i.toNat) = some (.slice A0 (rd_L9 xs i).length c0) ∧ (rd_L9 xs i).length ≤ c0 ∧ (Kd.slice 3 (Kd.int .i64)).C w A0 (rd_L9 xs i).length (rd_L9 xs i) := by
  obtain ⟨ad, c, e, _, hK, hc0⟩ := Kd.C_get h ([] : List (List Int)) i h0 h1
  have hc : ∀ j u, c[j]? = some u → w.cell? (ad.add (i.toNat * 1 + j)) = some u := hc0
  obtain ⟨A0, c0, rfl, l0, g0⟩ := hK
  exact ⟨ad, A0, c0, e, by have hq := hc 0 _ rfl; rwa [Nat.mul_one, Nat.add_zero] at hq, l0, g0⟩
structure S69 where
  f0 : Int
  f1 : S54
def z69 : S69 := ⟨(0 : Int), z54⟩
def k69 : Kd S69 := Kd.iso (Kd.pair (Kd.int .i64) k54) (fun x : S69 => (x.f0, x.f1))
theorem k69_open {w : World} {x : S69} {cs : List Value} (h : k69.K w x cs) : cs = [.int .i64 x.f0, .int .i64 x.f1.f0, .int .i64 x.f1.f1, .int .i64 x.f1.f2, .int .i64 x.f1.f3, .int .i64 x.f1.f4] := by
  obtain ⟨_, _, rfl, rfl, s1⟩ := h
  obtain rfl := k54_open s1
  exact rfl
theorem k69_openM {w : World} {base : Nat} {ok : Nat → Prop} {x : S69} {cs : List Value} (h : k69.M w base ok x cs) : cs = [.int .i64 x.f0, .int .i64 x.f1.f0, .int .i64 x.f1.f1, .int .i64 x.f1.f2, .int .i64 x.f1.f3, .int .i64 x.f1.f4] := by
  obtain ⟨_, _, rfl, rfl, s1⟩ := h
  obtain rfl := k54_openM s1
  exact rfl
theorem k69_mk (w : World) (x : S69)  : k69.K w x [.int .i64 x.f0, .int .i64 x.f1.f0, .int .i64 x.f1.f1, .int .i64 x.f1.f2, .int .i64 x.f1.f3, .int .i64 x.f1.f4] := ⟨[.int .i64 x.f0], [.int .i64 x.f1.f0, .int .i64 x.f1.f1, .int .i64 x.f1.f2, .int .i64 x.f1.f3, .int .i64 x.f1.f4], rfl, rfl, (k54_mk w x.f1 )⟩
theorem k69_mkM (w : World) (base : Nat) (ok : Nat → Prop) (x : S69)  : k69.M w base ok x [.int .i64 x.f0, .int .i64 x.f1.f0, .int .i64 x.f1.f1, .int .i64 x.f1.f2, .int .i64 x.f1.f3, .int .i64 x.f1.f4] := ⟨[.int .i64 x.f0], [.int .i64 x.f1.f0, .int .i64 x.f1.f1, .int .i64 x.f1.f2, .int .i64 x.f1.f3, .int .i64 x.f1.f4], rfl, rfl, (k54_mkM w base ok x.f1 )⟩
def rd_T69 (xs : List S69) (i : Int) : S69 := xs.getD i.toNat z69
theorem at_T69 {w : World} {A : Option Addr} {n : Nat} {xs : List S69} (h : Kd.C k69 w A n xs) (i : Int) (h0 : 0 ≤ i) (h1 : i < n) : ∃ ad , A = some ad ∧ w.cell? (ad.add (i.toNat * 6)) = some (.int .i64 (rd_T69 xs i).f0) ∧ w.cell? ⟨(ad.add (i.toNat * 6)).block, (ad.add (i.toNat * 6)).off + 1, none⟩ = some (.int .i64 (rd_T69 xs i).f1.f0) ∧ w.cell? ⟨(ad.add (i.toNat * 6)).block, (ad.add (i.toNat * 6)).off + 2, none⟩ = some (.int .i64 (rd_T69 xs i).f1.f1) ∧ w.cell? ⟨(ad.add (i.toNat * 6)).block, (ad.add (i.toNat * 6)).off + 3, none⟩ = some (.int .i64 (rd_T69 xs i).f1.f2) ∧ w.cell? ⟨(ad.add (i.toNat * 6)).block, (ad.add (i.toNat * 6)).off + 4, none⟩ = some (.int .i64 (rd_T69 xs i).f1.f3) ∧ w.cell? ⟨(ad.add (i.toNat * 6)).block, (ad.add (i.toNat * 6)).off + 5, none⟩ = some (.int .i64 (rd_T69 xs i).f1.f4) := by
  obtain ⟨ad, c, e, _, hK, hc0⟩ := Kd.C_get h z69 i h0 h1
  have hc : ∀ j u, c[j]? = some u → w.cell? (ad.add (i.toNat * 6 + j)) = some u := hc0
  obtain rfl := k69_open hK
  exact ⟨ad, e, hc 0 _ rfl, by rw [← add_field _ _ 1 (by omega)]; exact hc 1 _ rfl, by rw [← add_field _ _ 2 (by omega)]; exact hc 2 _ rfl, by rw [← add_field _ _ 3 (by omega)]; exact hc 3 _ rfl, by rw [← add_field _ _ 4 (by omega)]; exact hc 4 _ rfl, by rw [← add_field _ _ 5 (by omega)]; exact hc 5 _ rfl⟩
def rd_L11 (xs : List (List S53)) (i : Int) : (List S53) := xs.getD i.toNat ([] : List S53)
theorem at_L11 {w : World} {A : Option Addr} {n : Nat} {xs : List (List S53)} (h : Kd.C (Kd.slice 53 k53) w A n xs) (i : Int) (h0 : 0 ≤ i) (h1 : i < n) : ∃ ad A0 c0, A = some ad ∧ w.cell? (ad.add i.toNat) = some (.slice A0 (rd_L11 xs i).length c0) ∧ (rd_L11 xs i).length ≤ c0 ∧ k53.C w A0 (rd_L11 xs i).length (rd_L11 xs i) := by
  obtain ⟨ad, c, e, _, hK, hc0⟩ := Kd.C_get h ([] : List S53) i h0 h1
  have hc : ∀ j u, c[j]? = some u → w.cell? (ad.add (i.toNat * 1 + j)) = some u := hc0
  obtain ⟨A0, c0, rfl, l0, g0⟩ := hK
  exact ⟨ad, A0, c0, e, by have hq := hc 0 _ rfl; rwa [Nat.mul_one, Nat.add_zero] at hq, l0, g0⟩
structure S135 where
  f0 : ByteArray
  f1 : Int
def z135 : S135 := ⟨(⟨#[]⟩ : ByteArray), (0 : Int)⟩
def k135 : Kd S135 := Kd.iso (Kd.pair Kd.string (Kd.int .i64)) (fun x : S135 => (x.f0, x.f1))
theorem k135_open {w : World} {x : S135} {cs : List Value} (h : k135.K w x cs) : cs = [.string x.f0, .int .i64 x.f1] := by
  obtain ⟨_, _, rfl, rfl, rfl⟩ := h
  exact rfl
theorem k135_openM {w : World} {base : Nat} {ok : Nat → Prop} {x : S135} {cs : List Value} (h : k135.M w base ok x cs) : cs = [.string x.f0, .int .i64 x.f1] := by
  obtain ⟨_, _, rfl, rfl, rfl⟩ := h
  exact rfl
theorem k135_mk (w : World) (x : S135)  : k135.K w x [.string x.f0, .int .i64 x.f1] := ⟨[.string x.f0], [.int .i64 x.f1], rfl, rfl, rfl⟩
theorem k135_mkM (w : World) (base : Nat) (ok : Nat → Prop) (x : S135)  : k135.M w base ok x [.string x.f0, .int .i64 x.f1] := ⟨[.string x.f0], [.int .i64 x.f1], rfl, rfl, rfl⟩
def rd_T135 (xs : List S135) (i : Int) : S135 := xs.getD i.toNat z135
theorem at_T135 {w : World} {A : Option Addr} {n : Nat} {xs : List S135} (h : Kd.C k135 w A n xs) (i : Int) (h0 : 0 ≤ i) (h1 : i < n) : ∃ ad , A = some ad ∧ w.cell? (ad.add (i.toNat * 2)) = some (.string (rd_T135 xs i).f0) ∧ w.cell? ⟨(ad.add (i.toNat * 2)).block, (ad.add (i.toNat * 2)).off + 1, none⟩ = some (.int .i64 (rd_T135 xs i).f1) := by
  obtain ⟨ad, c, e, _, hK, hc0⟩ := Kd.C_get h z135 i h0 h1
  have hc : ∀ j u, c[j]? = some u → w.cell? (ad.add (i.toNat * 2 + j)) = some u := hc0
  obtain rfl := k135_open hK
  exact ⟨ad, e, hc 0 _ rfl, by rw [← add_field _ _ 1 (by omega)]; exact hc 1 _ rfl⟩
def rd_L14 (xs : List (List S135)) (i : Int) : (List S135) := xs.getD i.toNat ([] : List S135)
theorem at_L14 {w : World} {A : Option Addr} {n : Nat} {xs : List (List S135)} (h : Kd.C (Kd.slice 135 k135) w A n xs) (i : Int) (h0 : 0 ≤ i) (h1 : i < n) : ∃ ad A0 c0, A = some ad ∧ w.cell? (ad.add i.toNat) = some (.slice A0 (rd_L14 xs i).length c0) ∧ (rd_L14 xs i).length ≤ c0 ∧ k135.C w A0 (rd_L14 xs i).length (rd_L14 xs i) := by
  obtain ⟨ad, c, e, _, hK, hc0⟩ := Kd.C_get h ([] : List S135) i h0 h1
  have hc : ∀ j u, c[j]? = some u → w.cell? (ad.add (i.toNat * 1 + j)) = some u := hc0
  obtain ⟨A0, c0, rfl, l0, g0⟩ := hK
  exact ⟨ad, A0, c0, e, by have hq := hc 0 _ rfl; rwa [Nat.mul_one, Nat.add_zero] at hq, l0, g0⟩
structure S85 where
  f0 : (List Int)
  f1 : (List Int)
  f2 : Int
  f3 : (List S135)
def z85 : S85 := ⟨([] : List Int), ([] : List Int), (0 : Int), ([] : List S135)⟩
def k85 : Kd S85 := Kd.iso (Kd.pair (Kd.slice 3 (Kd.int .i64)) (Kd.pair (Kd.slice 3 (Kd.int .i64)) (Kd.pair (Kd.int .i64) (Kd.slice 135 k135)))) (fun x : S85 => (x.f0, x.f1, x.f2, x.f3))
theorem k85_open {w : World} {x : S85} {cs : List Value} (h : k85.K w x cs) : ∃ A0 c0 A1 c1 A3 c3, cs = [.slice A0 x.f0.length c0, .slice A1 x.f1.length c1, .int .i64 x.f2, .slice A3 x.f3.length c3] ∧ x.f0.length ≤ c0 ∧ (Kd.int .i64).C w A0 x.f0.length x.f0 ∧ x.f1.length ≤ c1 ∧ (Kd.int .i64).C w A1 x.f1.length x.f1 ∧ x.f3.length ≤ c3 ∧ k135.C w A3 x.f3.length x.f3 := by
  obtain ⟨_, _, rfl, ⟨A0, c0, rfl, l0, g0⟩, ⟨_, _, rfl, ⟨A1, c1, rfl, l1, g1⟩, ⟨_, _, rfl, rfl, ⟨A3, c3, rfl, l3, g3⟩⟩⟩⟩ := h
  exact ⟨A0, c0, A1, c1, A3, c3, rfl, l0, g0, l1, g1, l3, g3⟩
theorem k85_openM {w : World} {base : Nat} {ok : Nat → Prop} {x : S85} {cs : List Value} (h : k85.M w base ok x cs) : ∃ v0 v1 v3, cs = [v0, v1, .int .i64 x.f2, v3] ∧ (Kd.int .i64).R 3 w base ok v0 x.f0 ∧ (Kd.int .i64).R 3 w base ok v1 x.f1 ∧ k135.R 135 w base ok v3 x.f3 := by
  obtain ⟨_, _, rfl, ⟨v0, rfl, g0⟩, ⟨_, _, rfl, ⟨v1, rfl, g1⟩, ⟨_, _, rfl, rfl, ⟨v3, rfl, g3⟩⟩⟩⟩ := h
  exact ⟨v0, v1, v3, rfl, g0, g1, g3⟩
theorem k85_mk (w : World) (x : S85) {A0 : Option Addr} {c0 : Nat} (l0 : x.f0.length ≤ c0) (g0 : (Kd.int .i64).C w A0 x.f0.length x.f0) {A1 : Option Addr} {c1 : Nat} (l1 : x.f1.length ≤ c1) (g1 : (Kd.int .i64).C w A1 x.f1.length x.f1) {A3 : Option Addr} {c3 : Nat} (l3 : x.f3.length ≤ c3) (g3 : k135.C w A3 x.f3.length x.f3) : k85.K w x [.slice A0 x.f0.length c0, .slice A1 x.f1.length c1, .int .i64 x.f2, .slice A3 x.f3.length c3] := ⟨[.slice A0 x.f0.length c0], [.slice A1 x.f1.length c1, .int .i64 x.f2, .slice A3 x.f3.length c3], rfl, ⟨A0, c0, rfl, l0, g0⟩, ⟨[.slice A1 x.f1.length c1], [.int .i64 x.f2, .slice A3 x.f3.length c3], rfl, ⟨A1, c1, rfl, l1, g1⟩, ⟨[.int .i64 x.f2], [.slice A3 x.f3.length c3], rfl, rfl, ⟨A3, c3, rfl, l3, g3⟩⟩⟩⟩
theorem k85_mkM (w : World) (base : Nat) (ok : Nat → Prop) (x : S85) {v0 : Value} (g0 : (Kd.int .i64).R 3 w base ok v0 x.f0) {v1 : Value} (g1 : (Kd.int .i64).R 3 w base ok v1 x.f1) {v3 : Value} (g3 : k135.R 135 w base ok v3 x.f3) : k85.M w base ok x [v0, v1, .int .i64 x.f2, v3] := ⟨[v0], [v1, .int .i64 x.f2, v3], rfl, ⟨v0, rfl, g0⟩, ⟨[v1], [.int .i64 x.f2, v3], rfl, ⟨v1, rfl, g1⟩, ⟨[.int .i64 x.f2], [v3], rfl, rfl, ⟨v3, rfl, g3⟩⟩⟩⟩
def rd_T85 (xs : List S85) (i : Int) : S85 := xs.getD i.toNat z85
theorem at_T85 {w : World} {A : Option Addr} {n : Nat} {xs : List S85} (h : Kd.C k85 w A n xs) (i : Int) (h0 : 0 ≤ i) (h1 : i < n) : ∃ ad A0 c0 A1 c1 A3 c3, A = some ad ∧ w.cell? (ad.add (i.toNat * 4)) = some (.slice A0 (rd_T85 xs i).f0.length c0) ∧ w.cell? ⟨(ad.add (i.toNat * 4)).block, (ad.add (i.toNat * 4)).off + 1, none⟩ = some (.slice A1 (rd_T85 xs i).f1.length c1) ∧ w.cell? ⟨(ad.add (i.toNat * 4)).block, (ad.add (i.toNat * 4)).off + 2, none⟩ = some (.int .i64 (rd_T85 xs i).f2) ∧ w.cell? ⟨(ad.add (i.toNat * 4)).block, (ad.add (i.toNat * 4)).off + 3, none⟩ = some (.slice A3 (rd_T85 xs i).f3.length c3) ∧ (rd_T85 xs i).f0.length ≤ c0 ∧ (Kd.int .i64).C w A0 (rd_T85 xs i).f0.length (rd_T85 xs i).f0 ∧ (rd_T85 xs i).f1.length ≤ c1 ∧ (Kd.int .i64).C w A1 (rd_T85 xs i).f1.length (rd_T85 xs i).f1 ∧ (rd_T85 xs i).f3.length ≤ c3 ∧ k135.C w A3 (rd_T85 xs i).f3.length (rd_T85 xs i).f3 := by
  obtain ⟨ad, c, e, _, hK, hc0⟩ := Kd.C_get h z85 i h0 h1
  have hc : ∀ j u, c[j]? = some u → w.cell? (ad.add (i.toNat * 4 + j)) = some u := hc0
  obtain ⟨A0, c0, A1, c1, A3, c3, rfl, l0, g0, l1, g1, l3, g3⟩ := k85_open hK
  exact ⟨ad, A0, c0, A1, c1, A3, c3, e, hc 0 _ rfl, by rw [← add_field _ _ 1 (by omega)]; exact hc 1 _ rfl, by rw [← add_field _ _ 2 (by omega)]; exact hc 2 _ rfl, by rw [← add_field _ _ 3 (by omega)]; exact hc 3 _ rfl, l0, g0, l1, g1, l3, g3⟩
structure S88 where
  f0 : Int
  f1 : Int
  f2 : Int
def z88 : S88 := ⟨(0 : Int), (0 : Int), (0 : Int)⟩
def k88 : Kd S88 := Kd.iso (Kd.pair (Kd.int .i64) (Kd.pair (Kd.int .i64) (Kd.int .i64))) (fun x : S88 => (x.f0, x.f1, x.f2))
theorem k88_open {w : World} {x : S88} {cs : List Value} (h : k88.K w x cs) : cs = [.int .i64 x.f0, .int .i64 x.f1, .int .i64 x.f2] := by
  obtain ⟨_, _, rfl, rfl, ⟨_, _, rfl, rfl, rfl⟩⟩ := h
  exact rfl
theorem k88_openM {w : World} {base : Nat} {ok : Nat → Prop} {x : S88} {cs : List Value} (h : k88.M w base ok x cs) : cs = [.int .i64 x.f0, .int .i64 x.f1, .int .i64 x.f2] := by
  obtain ⟨_, _, rfl, rfl, ⟨_, _, rfl, rfl, rfl⟩⟩ := h
  exact rfl
theorem k88_mk (w : World) (x : S88)  : k88.K w x [.int .i64 x.f0, .int .i64 x.f1, .int .i64 x.f2] := ⟨[.int .i64 x.f0], [.int .i64 x.f1, .int .i64 x.f2], rfl, rfl, ⟨[.int .i64 x.f1], [.int .i64 x.f2], rfl, rfl, rfl⟩⟩
theorem k88_mkM (w : World) (base : Nat) (ok : Nat → Prop) (x : S88)  : k88.M w base ok x [.int .i64 x.f0, .int .i64 x.f1, .int .i64 x.f2] := ⟨[.int .i64 x.f0], [.int .i64 x.f1, .int .i64 x.f2], rfl, rfl, ⟨[.int .i64 x.f1], [.int .i64 x.f2], rfl, rfl, rfl⟩⟩
def rd_T88 (xs : List S88) (i : Int) : S88 := xs.getD i.toNat z88
theorem at_T88 {w : World} {A : Option Addr} {n : Nat} {xs : List S88} (h : Kd.C k88 w A n xs) (i : Int) (h0 : 0 ≤ i) (h1 : i < n) : ∃ ad , A = some ad ∧ w.cell? (ad.add (i.toNat * 3)) = some (.int .i64 (rd_T88 xs i).f0) ∧ w.cell? ⟨(ad.add (i.toNat * 3)).block, (ad.add (i.toNat * 3)).off + 1, none⟩ = some (.int .i64 (rd_T88 xs i).f1) ∧ w.cell? ⟨(ad.add (i.toNat * 3)).block, (ad.add (i.toNat * 3)).off + 2, none⟩ = some (.int .i64 (rd_T88 xs i).f2) := by
  obtain ⟨ad, c, e, _, hK, hc0⟩ := Kd.C_get h z88 i h0 h1
  have hc : ∀ j u, c[j]? = some u → w.cell? (ad.add (i.toNat * 3 + j)) = some u := hc0
  obtain rfl := k88_open hK
  exact ⟨ad, e, hc 0 _ rfl, by rw [← add_field _ _ 1 (by omega)]; exact hc 1 _ rfl, by rw [← add_field _ _ 2 (by omega)]; exact hc 2 _ rfl⟩
structure S78 where
  f0 : Int
  f1 : Int
def z78 : S78 := ⟨(0 : Int), (0 : Int)⟩
def k78 : Kd S78 := Kd.iso (Kd.pair (Kd.int .i64) (Kd.int .i64)) (fun x : S78 => (x.f0, x.f1))
theorem k78_open {w : World} {x : S78} {cs : List Value} (h : k78.K w x cs) : cs = [.int .i64 x.f0, .int .i64 x.f1] := by
  obtain ⟨_, _, rfl, rfl, rfl⟩ := h
  exact rfl
theorem k78_openM {w : World} {base : Nat} {ok : Nat → Prop} {x : S78} {cs : List Value} (h : k78.M w base ok x cs) : cs = [.int .i64 x.f0, .int .i64 x.f1] := by
  obtain ⟨_, _, rfl, rfl, rfl⟩ := h
  exact rfl
theorem k78_mk (w : World) (x : S78)  : k78.K w x [.int .i64 x.f0, .int .i64 x.f1] := ⟨[.int .i64 x.f0], [.int .i64 x.f1], rfl, rfl, rfl⟩
theorem k78_mkM (w : World) (base : Nat) (ok : Nat → Prop) (x : S78)  : k78.M w base ok x [.int .i64 x.f0, .int .i64 x.f1] := ⟨[.int .i64 x.f0], [.int .i64 x.f1], rfl, rfl, rfl⟩
def rd_T78 (xs : List S78) (i : Int) : S78 := xs.getD i.toNat z78
theorem at_T78 {w : World} {A : Option Addr} {n : Nat} {xs : List S78} (h : Kd.C k78 w A n xs) (i : Int) (h0 : 0 ≤ i) (h1 : i < n) : ∃ ad , A = some ad ∧ w.cell? (ad.add (i.toNat * 2)) = some (.int .i64 (rd_T78 xs i).f0) ∧ w.cell? ⟨(ad.add (i.toNat * 2)).block, (ad.add (i.toNat * 2)).off + 1, none⟩ = some (.int .i64 (rd_T78 xs i).f1) := by
  obtain ⟨ad, c, e, _, hK, hc0⟩ := Kd.C_get h z78 i h0 h1
  have hc : ∀ j u, c[j]? = some u → w.cell? (ad.add (i.toNat * 2 + j)) = some u := hc0
  obtain rfl := k78_open hK
  exact ⟨ad, e, hc 0 _ rfl, by rw [← add_field _ _ 1 (by omega)]; exact hc 1 _ rfl⟩
structure S137 where
  f0 : S85
def z137 : S137 := ⟨z85⟩
def k137 : Kd S137 := Kd.iso k85 (fun x : S137 => x.f0)
theorem k137_open {w : World} {x : S137} {cs : List Value} (h : k137.K w x cs) : ∃ A0 c0 A1 c1 A3 c3, cs = [.slice A0 x.f0.f0.length c0, .slice A1 x.f0.f1.length c1, .int .i64 x.f0.f2, .slice A3 x.f0.f3.length c3] ∧ x.f0.f0.length ≤ c0 ∧ (Kd.int .i64).C w A0 x.f0.f0.length x.f0.f0 ∧ x.f0.f1.length ≤ c1 ∧ (Kd.int .i64).C w A1 x.f0.f1.length x.f0.f1 ∧ x.f0.f3.length ≤ c3 ∧ k135.C w A3 x.f0.f3.length x.f0.f3 := by
  have s0 := h
  obtain ⟨A0, c0, A1, c1, A3, c3, rfl, l0, g0, l1, g1, l3, g3⟩ := k85_open s0
  exact ⟨A0, c0, A1, c1, A3, c3, rfl, l0, g0, l1, g1, l3, g3⟩
theorem k137_openM {w : World} {base : Nat} {ok : Nat → Prop} {x : S137} {cs : List Value} (h : k137.M w base ok x cs) : ∃ v0 v1 v3, cs = [v0, v1, .int .i64 x.f0.f2, v3] ∧ (Kd.int .i64).R 3 w base ok v0 x.f0.f0 ∧ (Kd.int .i64).R 3 w base ok v1 x.f0.f1 ∧ k135.R 135 w base ok v3 x.f0.f3 := by
  have s0 := h
  obtain ⟨v0, v1, v3, rfl, g0, g1, g3⟩ := k85_openM s0
  exact ⟨v0, v1, v3, rfl, g0, g1, g3⟩
theorem k137_mk (w : World) (x : S137) {A0 : Option Addr} {c0 : Nat} (l0 : x.f0.f0.length ≤ c0) (g0 : (Kd.int .i64).C w A0 x.f0.f0.length x.f0.f0) {A1 : Option Addr} {c1 : Nat} (l1 : x.f0.f1.length ≤ c1) (g1 : (Kd.int .i64).C w A1 x.f0.f1.length x.f0.f1) {A3 : Option Addr} {c3 : Nat} (l3 : x.f0.f3.length ≤ c3) (g3 : k135.C w A3 x.f0.f3.length x.f0.f3) : k137.K w x [.slice A0 x.f0.f0.length c0, .slice A1 x.f0.f1.length c1, .int .i64 x.f0.f2, .slice A3 x.f0.f3.length c3] := (k85_mk w x.f0 l0 g0 l1 g1 l3 g3)
theorem k137_mkM (w : World) (base : Nat) (ok : Nat → Prop) (x : S137) {v0 : Value} (g0 : (Kd.int .i64).R 3 w base ok v0 x.f0.f0) {v1 : Value} (g1 : (Kd.int .i64).R 3 w base ok v1 x.f0.f1) {v3 : Value} (g3 : k135.R 135 w base ok v3 x.f0.f3) : k137.M w base ok x [v0, v1, .int .i64 x.f0.f2, v3] := (k85_mkM w base ok x.f0 g0 g1 g3)
def rd_T137 (xs : List S137) (i : Int) : S137 := xs.getD i.toNat z137
theorem at_T137 {w : World} {A : Option Addr} {n : Nat} {xs : List S137} (h : Kd.C k137 w A n xs) (i : Int) (h0 : 0 ≤ i) (h1 : i < n) : ∃ ad A0 c0 A1 c1 A3 c3, A = some ad ∧ w.cell? (ad.add (i.toNat * 4)) = some (.slice A0 (rd_T137 xs i).f0.f0.length c0) ∧ w.cell? ⟨(ad.add (i.toNat * 4)).block, (ad.add (i.toNat * 4)).off + 1, none⟩ = some (.slice A1 (rd_T137 xs i).f0.f1.length c1) ∧ w.cell? ⟨(ad.add (i.toNat * 4)).block, (ad.add (i.toNat * 4)).off + 2, none⟩ = some (.int .i64 (rd_T137 xs i).f0.f2) ∧ w.cell? ⟨(ad.add (i.toNat * 4)).block, (ad.add (i.toNat * 4)).off + 3, none⟩ = some (.slice A3 (rd_T137 xs i).f0.f3.length c3) ∧ (rd_T137 xs i).f0.f0.length ≤ c0 ∧ (Kd.int .i64).C w A0 (rd_T137 xs i).f0.f0.length (rd_T137 xs i).f0.f0 ∧ (rd_T137 xs i).f0.f1.length ≤ c1 ∧ (Kd.int .i64).C w A1 (rd_T137 xs i).f0.f1.length (rd_T137 xs i).f0.f1 ∧ (rd_T137 xs i).f0.f3.length ≤ c3 ∧ k135.C w A3 (rd_T137 xs i).f0.f3.length (rd_T137 xs i).f0.f3 := by
  obtain ⟨ad, c, e, _, hK, hc0⟩ := Kd.C_get h z137 i h0 h1
  have hc : ∀ j u, c[j]? = some u → w.cell? (ad.add (i.toNat * 4 + j)) = some u := hc0
  obtain ⟨A0, c0, A1, c1, A3, c3, rfl, l0, g0, l1, g1, l3, g3⟩ := k137_open hK
  exact ⟨ad, A0, c0, A1, c1, A3, c3, e, hc 0 _ rfl, by rw [← add_field _ _ 1 (by omega)]; exact hc 1 _ rfl, by rw [← add_field _ _ 2 (by omega)]; exact hc 2 _ rfl, by rw [← add_field _ _ 3 (by omega)]; exact hc 3 _ rfl, l0, g0, l1, g1, l3, g3⟩
structure S8 where
  f0 : Int
  f1 : Int
  f2 : Bool
  f3 : Int
def z8 : S8 := ⟨(0 : Int), (0 : Int), false, (0 : Int)⟩
def k8 : Kd S8 := Kd.iso (Kd.pair (Kd.int .i64) (Kd.pair (Kd.int .i64) (Kd.pair Kd.bool (Kd.int .u8)))) (fun x : S8 => (x.f0, x.f1, x.f2, x.f3))
theorem k8_open {w : World} {x : S8} {cs : List Value} (h : k8.K w x cs) : cs = [.int .i64 x.f0, .int .i64 x.f1, .bool x.f2, .int .u8 x.f3] := by
  obtain ⟨_, _, rfl, rfl, ⟨_, _, rfl, rfl, ⟨_, _, rfl, rfl, rfl⟩⟩⟩ := h
  exact rfl
theorem k8_openM {w : World} {base : Nat} {ok : Nat → Prop} {x : S8} {cs : List Value} (h : k8.M w base ok x cs) : cs = [.int .i64 x.f0, .int .i64 x.f1, .bool x.f2, .int .u8 x.f3] := by
  obtain ⟨_, _, rfl, rfl, ⟨_, _, rfl, rfl, ⟨_, _, rfl, rfl, rfl⟩⟩⟩ := h
  exact rfl
theorem k8_mk (w : World) (x : S8)  : k8.K w x [.int .i64 x.f0, .int .i64 x.f1, .bool x.f2, .int .u8 x.f3] := ⟨[.int .i64 x.f0], [.int .i64 x.f1, .bool x.f2, .int .u8 x.f3], rfl, rfl, ⟨[.int .i64 x.f1], [.bool x.f2, .int .u8 x.f3], rfl, rfl, ⟨[.bool x.f2], [.int .u8 x.f3], rfl, rfl, rfl⟩⟩⟩
theorem k8_mkM (w : World) (base : Nat) (ok : Nat → Prop) (x : S8)  : k8.M w base ok x [.int .i64 x.f0, .int .i64 x.f1, .bool x.f2, .int .u8 x.f3] := ⟨[.int .i64 x.f0], [.int .i64 x.f1, .bool x.f2, .int .u8 x.f3], rfl, rfl, ⟨[.int .i64 x.f1], [.bool x.f2, .int .u8 x.f3], rfl, rfl, ⟨[.bool x.f2], [.int .u8 x.f3], rfl, rfl, rfl⟩⟩⟩
def rd_T8 (xs : List S8) (i : Int) : S8 := xs.getD i.toNat z8
theorem at_T8 {w : World} {A : Option Addr} {n : Nat} {xs : List S8} (h : Kd.C k8 w A n xs) (i : Int) (h0 : 0 ≤ i) (h1 : i < n) : ∃ ad , A = some ad ∧ w.cell? (ad.add (i.toNat * 4)) = some (.int .i64 (rd_T8 xs i).f0) ∧ w.cell? ⟨(ad.add (i.toNat * 4)).block, (ad.add (i.toNat * 4)).off + 1, none⟩ = some (.int .i64 (rd_T8 xs i).f1) ∧ w.cell? ⟨(ad.add (i.toNat * 4)).block, (ad.add (i.toNat * 4)).off + 2, none⟩ = some (.bool (rd_T8 xs i).f2) ∧ w.cell? ⟨(ad.add (i.toNat * 4)).block, (ad.add (i.toNat * 4)).off + 3, none⟩ = some (.int .u8 (rd_T8 xs i).f3) := by
  obtain ⟨ad, c, e, _, hK, hc0⟩ := Kd.C_get h z8 i h0 h1
  have hc : ∀ j u, c[j]? = some u → w.cell? (ad.add (i.toNat * 4 + j)) = some u := hc0
  obtain rfl := k8_open hK
  exact ⟨ad, e, hc 0 _ rfl, by rw [← add_field _ _ 1 (by omega)]; exact hc 1 _ rfl, by rw [← add_field _ _ 2 (by omega)]; exact hc 2 _ rfl, by rw [← add_field _ _ 3 (by omega)]; exact hc 3 _ rfl⟩
structure S14 where
  f0 : ByteArray
  f1 : Int
def z14 : S14 := ⟨(⟨#[]⟩ : ByteArray), (0 : Int)⟩
def k14 : Kd S14 := Kd.iso (Kd.pair Kd.string (Kd.int .u64)) (fun x : S14 => (x.f0, x.f1))
theorem k14_open {w : World} {x : S14} {cs : List Value} (h : k14.K w x cs) : cs = [.string x.f0, .int .u64 x.f1] := by
  obtain ⟨_, _, rfl, rfl, rfl⟩ := h
  exact rfl
theorem k14_openM {w : World} {base : Nat} {ok : Nat → Prop} {x : S14} {cs : List Value} (h : k14.M w base ok x cs) : cs = [.string x.f0, .int .u64 x.f1] := by
  obtain ⟨_, _, rfl, rfl, rfl⟩ := h
  exact rfl
theorem k14_mk (w : World) (x : S14)  : k14.K w x [.string x.f0, .int .u64 x.f1] := ⟨[.string x.f0], [.int .u64 x.f1], rfl, rfl, rfl⟩
theorem k14_mkM (w : World) (base : Nat) (ok : Nat → Prop) (x : S14)  : k14.M w base ok x [.string x.f0, .int .u64 x.f1] := ⟨[.string x.f0], [.int .u64 x.f1], rfl, rfl, rfl⟩
def rd_T14 (xs : List S14) (i : Int) : S14 := xs.getD i.toNat z14
theorem at_T14 {w : World} {A : Option Addr} {n : Nat} {xs : List S14} (h : Kd.C k14 w A n xs) (i : Int) (h0 : 0 ≤ i) (h1 : i < n) : ∃ ad , A = some ad ∧ w.cell? (ad.add (i.toNat * 2)) = some (.string (rd_T14 xs i).f0) ∧ w.cell? ⟨(ad.add (i.toNat * 2)).block, (ad.add (i.toNat * 2)).off + 1, none⟩ = some (.int .u64 (rd_T14 xs i).f1) := by
  obtain ⟨ad, c, e, _, hK, hc0⟩ := Kd.C_get h z14 i h0 h1
  have hc : ∀ j u, c[j]? = some u → w.cell? (ad.add (i.toNat * 2 + j)) = some u := hc0
  obtain rfl := k14_open hK
  exact ⟨ad, e, hc 0 _ rfl, by rw [← add_field _ _ 1 (by omega)]; exact hc 1 _ rfl⟩
structure S24 where
  f0 : (List Int)
  f1 : (List Int)
def z24 : S24 := ⟨([] : List Int), ([] : List Int)⟩
def k24 : Kd S24 := Kd.iso (Kd.pair (Kd.slice 3 (Kd.int .i64)) (Kd.slice 3 (Kd.int .i64))) (fun x : S24 => (x.f0, x.f1))
theorem k24_open {w : World} {x : S24} {cs : List Value} (h : k24.K w x cs) : ∃ A0 c0 A1 c1, cs = [.slice A0 x.f0.length c0, .slice A1 x.f1.length c1] ∧ x.f0.length ≤ c0 ∧ (Kd.int .i64).C w A0 x.f0.length x.f0 ∧ x.f1.length ≤ c1 ∧ (Kd.int .i64).C w A1 x.f1.length x.f1 := by
  obtain ⟨_, _, rfl, ⟨A0, c0, rfl, l0, g0⟩, ⟨A1, c1, rfl, l1, g1⟩⟩ := h
  exact ⟨A0, c0, A1, c1, rfl, l0, g0, l1, g1⟩
theorem k24_openM {w : World} {base : Nat} {ok : Nat → Prop} {x : S24} {cs : List Value} (h : k24.M w base ok x cs) : ∃ v0 v1, cs = [v0, v1] ∧ (Kd.int .i64).R 3 w base ok v0 x.f0 ∧ (Kd.int .i64).R 3 w base ok v1 x.f1 := by
  obtain ⟨_, _, rfl, ⟨v0, rfl, g0⟩, ⟨v1, rfl, g1⟩⟩ := h
  exact ⟨v0, v1, rfl, g0, g1⟩
theorem k24_mk (w : World) (x : S24) {A0 : Option Addr} {c0 : Nat} (l0 : x.f0.length ≤ c0) (g0 : (Kd.int .i64).C w A0 x.f0.length x.f0) {A1 : Option Addr} {c1 : Nat} (l1 : x.f1.length ≤ c1) (g1 : (Kd.int .i64).C w A1 x.f1.length x.f1) : k24.K w x [.slice A0 x.f0.length c0, .slice A1 x.f1.length c1] := ⟨[.slice A0 x.f0.length c0], [.slice A1 x.f1.length c1], rfl, ⟨A0, c0, rfl, l0, g0⟩, ⟨A1, c1, rfl, l1, g1⟩⟩
theorem k24_mkM (w : World) (base : Nat) (ok : Nat → Prop) (x : S24) {v0 : Value} (g0 : (Kd.int .i64).R 3 w base ok v0 x.f0) {v1 : Value} (g1 : (Kd.int .i64).R 3 w base ok v1 x.f1) : k24.M w base ok x [v0, v1] := ⟨[v0], [v1], rfl, ⟨v0, rfl, g0⟩, ⟨v1, rfl, g1⟩⟩
def rd_T24 (xs : List S24) (i : Int) : S24 := xs.getD i.toNat z24
theorem at_T24 {w : World} {A : Option Addr} {n : Nat} {xs : List S24} (h : Kd.C k24 w A n xs) (i : Int) (h0 : 0 ≤ i) (h1 : i < n) : ∃ ad A0 c0 A1 c1, A = some ad ∧ w.cell? (ad.add (i.toNat * 2)) = some (.slice A0 (rd_T24 xs i).f0.length c0) ∧ w.cell? ⟨(ad.add (i.toNat * 2)).block, (ad.add (i.toNat * 2)).off + 1, none⟩ = some (.slice A1 (rd_T24 xs i).f1.length c1) ∧ (rd_T24 xs i).f0.length ≤ c0 ∧ (Kd.int .i64).C w A0 (rd_T24 xs i).f0.length (rd_T24 xs i).f0 ∧ (rd_T24 xs i).f1.length ≤ c1 ∧ (Kd.int .i64).C w A1 (rd_T24 xs i).f1.length (rd_T24 xs i).f1 := by
  obtain ⟨ad, c, e, _, hK, hc0⟩ := Kd.C_get h z24 i h0 h1
  have hc : ∀ j u, c[j]? = some u → w.cell? (ad.add (i.toNat * 2 + j)) = some u := hc0
  obtain ⟨A0, c0, A1, c1, rfl, l0, g0, l1, g1⟩ := k24_open hK
  exact ⟨ad, A0, c0, A1, c1, e, hc 0 _ rfl, by rw [← add_field _ _ 1 (by omega)]; exact hc 1 _ rfl, l0, g0, l1, g1⟩
structure S63 where
  f0 : Int
  f1 : S54
def z63 : S63 := ⟨(0 : Int), z54⟩
def k63 : Kd S63 := Kd.iso (Kd.pair (Kd.int .i64) k54) (fun x : S63 => (x.f0, x.f1))
theorem k63_open {w : World} {x : S63} {cs : List Value} (h : k63.K w x cs) : cs = [.int .i64 x.f0, .int .i64 x.f1.f0, .int .i64 x.f1.f1, .int .i64 x.f1.f2, .int .i64 x.f1.f3, .int .i64 x.f1.f4] := by
  obtain ⟨_, _, rfl, rfl, s1⟩ := h
  obtain rfl := k54_open s1
  exact rfl
theorem k63_openM {w : World} {base : Nat} {ok : Nat → Prop} {x : S63} {cs : List Value} (h : k63.M w base ok x cs) : cs = [.int .i64 x.f0, .int .i64 x.f1.f0, .int .i64 x.f1.f1, .int .i64 x.f1.f2, .int .i64 x.f1.f3, .int .i64 x.f1.f4] := by
  obtain ⟨_, _, rfl, rfl, s1⟩ := h
  obtain rfl := k54_openM s1
  exact rfl
theorem k63_mk (w : World) (x : S63)  : k63.K w x [.int .i64 x.f0, .int .i64 x.f1.f0, .int .i64 x.f1.f1, .int .i64 x.f1.f2, .int .i64 x.f1.f3, .int .i64 x.f1.f4] := ⟨[.int .i64 x.f0], [.int .i64 x.f1.f0, .int .i64 x.f1.f1, .int .i64 x.f1.f2, .int .i64 x.f1.f3, .int .i64 x.f1.f4], rfl, rfl, (k54_mk w x.f1 )⟩
theorem k63_mkM (w : World) (base : Nat) (ok : Nat → Prop) (x : S63)  : k63.M w base ok x [.int .i64 x.f0, .int .i64 x.f1.f0, .int .i64 x.f1.f1, .int .i64 x.f1.f2, .int .i64 x.f1.f3, .int .i64 x.f1.f4] := ⟨[.int .i64 x.f0], [.int .i64 x.f1.f0, .int .i64 x.f1.f1, .int .i64 x.f1.f2, .int .i64 x.f1.f3, .int .i64 x.f1.f4], rfl, rfl, (k54_mkM w base ok x.f1 )⟩
def rd_T63 (xs : List S63) (i : Int) : S63 := xs.getD i.toNat z63
theorem at_T63 {w : World} {A : Option Addr} {n : Nat} {xs : List S63} (h : Kd.C k63 w A n xs) (i : Int) (h0 : 0 ≤ i) (h1 : i < n) : ∃ ad , A = some ad ∧ w.cell? (ad.add (i.toNat * 6)) = some (.int .i64 (rd_T63 xs i).f0) ∧ w.cell? ⟨(ad.add (i.toNat * 6)).block, (ad.add (i.toNat * 6)).off + 1, none⟩ = some (.int .i64 (rd_T63 xs i).f1.f0) ∧ w.cell? ⟨(ad.add (i.toNat * 6)).block, (ad.add (i.toNat * 6)).off + 2, none⟩ = some (.int .i64 (rd_T63 xs i).f1.f1) ∧ w.cell? ⟨(ad.add (i.toNat * 6)).block, (ad.add (i.toNat * 6)).off + 3, none⟩ = some (.int .i64 (rd_T63 xs i).f1.f2) ∧ w.cell? ⟨(ad.add (i.toNat * 6)).block, (ad.add (i.toNat * 6)).off + 4, none⟩ = some (.int .i64 (rd_T63 xs i).f1.f3) ∧ w.cell? ⟨(ad.add (i.toNat * 6)).block, (ad.add (i.toNat * 6)).off + 5, none⟩ = some (.int .i64 (rd_T63 xs i).f1.f4) := by
  obtain ⟨ad, c, e, _, hK, hc0⟩ := Kd.C_get h z63 i h0 h1
  have hc : ∀ j u, c[j]? = some u → w.cell? (ad.add (i.toNat * 6 + j)) = some u := hc0
  obtain rfl := k63_open hK
  exact ⟨ad, e, hc 0 _ rfl, by rw [← add_field _ _ 1 (by omega)]; exact hc 1 _ rfl, by rw [← add_field _ _ 2 (by omega)]; exact hc 2 _ rfl, by rw [← add_field _ _ 3 (by omega)]; exact hc 3 _ rfl, by rw [← add_field _ _ 4 (by omega)]; exact hc 4 _ rfl, by rw [← add_field _ _ 5 (by omega)]; exact hc 5 _ rfl⟩
theorem eqA54 (d : Nat) (w : World) (x0 y0 : Int) (x1 y1 : Int) (x2 y2 : Int) (x3 y3 : Int) (x4 y4 : Int) :
    (Op.equalIn (d + 2) 54 (.agg #[.int .i64 x0, .int .i64 x1, .int .i64 x2, .int .i64 x3, .int .i64 x4]) (.agg #[.int .i64 y0, .int .i64 y1, .int .i64 y2, .int .i64 y3, .int .i64 y4])).run Try.prog w = .ok (x0 == y0 && (x1 == y1 && (x2 == y2 && (x3 == y3 && (x4 == y4))))) w := by
  have hz : Try.prog.cellsOf 3 = 1 := by kernel_rfl
  have hs : (Try.prog.info? 3).isSome = true := by kernel_rfl
  obtain ⟨i, hi⟩ := Option.isSome_iff_exists.1 hs
  rw [run_equalIn_array w (d + 1) _ _ Try.underlying54 hi, hz]
  rw [show List.range 5 = [0, 1, 2, 3, 4] from rfl]
  refine eqi_cons (by go_simp; rfl) (by go_simp; rfl) (by go_simp) ?_
  refine eqi_cons (by go_simp; rfl) (by go_simp; rfl) (by go_simp) ?_
  refine eqi_cons (by go_simp; rfl) (by go_simp; rfl) (by go_simp) ?_
  refine eqi_cons (by go_simp; rfl) (by go_simp; rfl) (by go_simp) ?_
  exact (eqi_cons (r := x4 == y4) (s := true) (by go_simp; rfl) (by go_simp; rfl) (by go_simp) rfl).trans (by rw [Bool.and_true])
theorem eqA69 (d : Nat) (w : World) (x0 y0 : Int) (x1 y1 : Int) (x2 y2 : Int) (x3 y3 : Int) (x4 y4 : Int) (x5 y5 : Int) :
    (Op.equalIn (d + 3) 69 (.agg #[.int .i64 x0, .int .i64 x1, .int .i64 x2, .int .i64 x3, .int .i64 x4, .int .i64 x5]) (.agg #[.int .i64 y0, .int .i64 y1, .int .i64 y2, .int .i64 y3, .int .i64 y4, .int .i64 y5])).run Try.prog w = .ok (x0 == y0 && ((x1 == y1 && (x2 == y2 && (x3 == y3 && (x4 == y4 && (x5 == y5))))))) w := by
  refine eqA_of Try.underlying69 (by kernel_rfl) ?_
  refine eqf_cons (by rfl) (by go_simp; rfl) (by go_simp; rfl) (by go_simp) ?_
  exact eqf_last (by rfl) (by go_simp) (by go_simp) (eqA54 (d + 0) w _ _ _ _ _ _ _ _ _ _)
theorem eqA88 (d : Nat) (w : World) (x0 y0 : Int) (x1 y1 : Int) (x2 y2 : Int) :
    (Op.equalIn (d + 2) 88 (.agg #[.int .i64 x0, .int .i64 x1, .int .i64 x2]) (.agg #[.int .i64 y0, .int .i64 y1, .int .i64 y2])).run Try.prog w = .ok (x0 == y0 && (x1 == y1 && (x2 == y2))) w := by
  refine eqA_of Try.underlying88 (by kernel_rfl) ?_
  refine eqf_cons (by rfl) (by go_simp; rfl) (by go_simp; rfl) (by go_simp) ?_
  refine eqf_cons (by rfl) (by go_simp; rfl) (by go_simp; rfl) (by go_simp) ?_
  exact eqf_last (by rfl) (by go_simp; rfl) (by go_simp; rfl) (by go_simp)
def dam_first.l0 : Nat → List Int → Int → Int → Option (Int)
  | 0, _, _, _ => none
  | k + 1, x5, x6, x7 => if x7 < x6 then (if 0 ≤ x7 then (if x7 < (x5.length : Int) then (if (rd x5 x7) = 0 then (dam_first.l0 k x5 x6 (wrap64 (x7 + 1))) else (some (rd x5 x7))) else (none)) else (none)) else (some 0)
def dam_first.f (k : Nat) (l0 : List Int) : Option (Int) := dam_first.l0 k l0 (l0.length : Int) 0
theorem dam_first.mono_l : ∀ k, (∀ y0 y1 y2, LeO (dam_first.l0 k y0 y1 y2) (dam_first.l0 (k + 1) y0 y1 y2))
  | 0 => fun _ _ _ r h => by simp [dam_first.l0] at h
  | k + 1 => by
    have ih0 := dam_first.mono_l k
    · intro y0 y1 y2
      unfold dam_first.l0
      repeat' first
      | (with_reducible exact ih0 _ _ _)
      | (with_reducible exact LeO.refl _)
      | (with_reducible exact LeO.none _)
      | (with_reducible refine LeO.ite ?_ ?_)
      | (with_reducible refine LeO.bind ?_ (fun _ => ?_))
      | exact ih0 _ _ _
      | exact LeO.none _
      | refine LeO.ite ?_ ?_
      | refine LeO.bind ?_ (fun _ => ?_)
theorem dam_first.mono : ∀ a0 k, LeO (dam_first.f k a0) (dam_first.f (k + 1) a0) := by
  intro a0 k
  have ih0 := dam_first.mono_l k
  unfold dam_first.f
  repeat' first
      | (with_reducible exact ih0 _ _ _)
      | (with_reducible exact LeO.refl _)
      | (with_reducible exact LeO.none _)
      | (with_reducible refine LeO.ite ?_ ?_)
      | (with_reducible refine LeO.bind ?_ (fun _ => ?_))
      | exact ih0 _ _ _
      | exact LeO.none _
      | refine LeO.ite ?_ ?_
      | refine LeO.bind ?_ (fun _ => ?_)
set_option maxHeartbeats 8000000 in
set_option maxRecDepth 100000 in
theorem dam_first.calls (k : Nat) (A0 : Option Addr) (c0 : Nat) (l0 : List Int) (r : Int) (w : World) (hr0 : Kd.C (Kd.int .i64) w A0 l0.length l0) (hc0 : l0.length ≤ c0) (h : dam_first.f k l0 = some r) :
    Calls Try.prog 63 #[.slice A0 l0.length c0] w fun e w' => e = .returned (.int .i64 r) ∧ Drawn0 w w' := by
  have HR0 := Aside0.mk hr0
  have HC0 := Aside0.mk hc0
  clear hr0 hc0
  have H : (dam_first.l0 k l0 (l0.length : Int) 0) = some r := h
  clear h
  have H' := Aside0.mk H
  clear H
  go_enter Try.func63, Try.ntmps63
  go_wp2
  go_loopg [7] k (fun kq v7 w' => ∃ (x7_1 : Int), v7 = .int .i64 x7_1 ∧ Aside0 (dam_first.l0 kq l0 (l0.length : Int) x7_1 = some r) ∧ Aside0 (kq ≤ k) ∧ Drawn0 w w')
  case atStart => exact ⟨(0), (by first | rfl | (simp; done) | (simp [*]; done)), H', ⟨Nat.le_refl _⟩, by repeat (first | exact Drawn0.refl _ | apply Drawn0.step)⟩
  case round =>
    clear H'
    obtain ⟨x7_1, rfl, HA, HK1, ⟨m1, rfl⟩⟩ := hrel
    cases gk with
    | zero => exact absurd HA.out (by simp [dam_first.l0])
    | succ k1 =>
      have H := HA.out
      clear HA
      simp only [dam_first.l0] at H
      by_cases c2 : x7_1 < (l0.length : Int)
      · rw [if_pos c2] at H
        have c2b0 : decide (x7_1 < (l0.length : Int)) = true := decide_eq_true c2
        clear c2
        by_cases c3 : 0 ≤ x7_1
        · rw [if_pos c3] at H
          have c3b0 : decide (0 ≤ x7_1) = true := decide_eq_true c3
          clear c3
          by_cases c4 : x7_1 < (l0.length : Int)
          · rw [if_pos c4] at H
            have c4b0 : decide (x7_1 < (l0.length : Int)) = true := decide_eq_true c4
            clear c4
            by_cases c5 : (rd l0 x7_1) = 0
            · rw [if_pos c5] at H
              have c5b0 : ((rd l0 x7_1) == 0) = true := beq_iff_eq.mpr c5
              have c5b1 : ((rd l0 x7_1) != 0) = false := bne_eq_false_iff_eq.mpr c5
              clear c5
              have H' := Aside0.mk H
              clear H
              have p189001 : 0 ≤ (x7_1 : Int) := of_decide_eq_true (by first | (with_reducible assumption) | assumption)
              have q189001 : x7_1 < (l0.length : Int) := of_decide_eq_true (by first | (with_reducible assumption) | assumption)
              obtain ⟨ad189001, e189001, hx189001_0⟩ := Kd.at_int HR0.out x7_1 p189001 q189001
              cases e189001
              replace p189001 := eq_true p189001
              replace q189001 := eq_true q189001
              go_wp2
              go_roundg k1
              case measure => have := HK1.out; omega
              case rel => exact ⟨(wrap64 (x7_1 + 1)), (by first | rfl | (simp; done) | (simp [*]; done)), H', ⟨by have := HK1.out; omega⟩, by repeat (first | exact Drawn0.refl _ | apply Drawn0.step)⟩
            · rw [if_neg c5] at H
              have c5b0 : ((rd l0 x7_1) == 0) = false := beq_eq_false_iff_ne.mpr c5
              have c5b1 : ((rd l0 x7_1) != 0) = true := bne_iff_ne.mpr c5
              obtain rfl := Option.some.inj H
              have p189001 : 0 ≤ (x7_1 : Int) := of_decide_eq_true (by first | (with_reducible assumption) | assumption)
              have q189001 : x7_1 < (l0.length : Int) := of_decide_eq_true (by first | (with_reducible assumption) | assumption)
              obtain ⟨ad189001, e189001, hx189001_0⟩ := Kd.at_int HR0.out x7_1 p189001 q189001
              cases e189001
              replace p189001 := eq_true p189001
              replace q189001 := eq_true q189001
              go_wp2
              go_ret
              exact ⟨by first | rfl | (simp; done) | (simp [*]; done), by repeat (first | exact Drawn0.refl _ | apply Drawn0.step)⟩
          · rw [if_neg c4] at H
            exact absurd H (by simp)
        · rw [if_neg c3] at H
          exact absurd H (by simp)
      · rw [if_neg c2] at H
        have c2b0 : decide (x7_1 < (l0.length : Int)) = false := decide_eq_false c2
        clear c2
        obtain rfl := Option.some.inj H
        go_wp2
        go_ret
        exact ⟨by first | rfl | (simp; done) | (simp [*]; done), by repeat (first | exact Drawn0.refl _ | apply Drawn0.step)⟩
def dam_unless.f (a0 : Bool) (a1 : Int) : Option (Int) := if a0 = true then (some 0) else (some a1)
set_option maxHeartbeats 8000000 in
set_option maxRecDepth 100000 in
theorem dam_unless.calls (a0 : Bool) (a1 : Int) (r : Int) (w : World) (h : dam_unless.f a0 a1 = some r) :
    Calls Try.prog 64 #[.bool a0, .int .i64 a1] w fun e w' => e = .returned (.int .i64 r) ∧ Drawn0 w w' := by
  have H : (if a0 = true then (some 0) else (some a1)) = some r := h
  clear h
  by_cases c3 : a0 = true
  · subst c3
    have H1 : (some 0) = some r := by rw [if_pos rfl] at H; exact H
    clear H
    have H := H1
    clear H1
    obtain rfl := Option.some.inj H
    go_enter Try.func64, Try.ntmps64
    go_wp2
    go_ret
    exact ⟨by first | rfl | (simp; done) | (simp [*]; done), by repeat (first | exact Drawn0.refl _ | apply Drawn0.step)⟩
  · replace c3 := Bool.eq_false_iff.mpr c3
    subst c3
    have H1 : (some a1) = some r := by rw [if_neg (show ¬ (false = true) by decide)] at H; exact H
    clear H
    have H := H1
    clear H1
    obtain rfl := Option.some.inj H
    go_enter Try.func64, Try.ntmps64
    go_wp2
    go_ret
    exact ⟨by first | rfl | (simp; done) | (simp [*]; done), by repeat (first | exact Drawn0.refl _ | apply Drawn0.step)⟩
def dam_within.f (a0 : Int) (a1 : Int) (a2 : Int) : Option (Bool) := if a1 ≤ a0 then (some (decide (a0 ≤ a2))) else (some false)
set_option maxHeartbeats 8000000 in
set_option maxRecDepth 100000 in
theorem dam_within.calls (a0 : Int) (a1 : Int) (a2 : Int) (r : Bool) (w : World) (h : dam_within.f a0 a1 a2 = some r) :
    Calls Try.prog 65 #[.int .i64 a0, .int .i64 a1, .int .i64 a2] w fun e w' => e = .returned (.bool r) ∧ Drawn0 w w' := by
  have H : (if a1 ≤ a0 then (some (decide (a0 ≤ a2))) else (some false)) = some r := h
  clear h
  by_cases c4 : a1 ≤ a0
  · rw [if_pos c4] at H
    have c4b0 : decide (a1 ≤ a0) = true := decide_eq_true c4
    clear c4
    obtain rfl := Option.some.inj H
    go_enter Try.func65, Try.ntmps65
    go_wp2
    go_ret
    exact ⟨by first | rfl | (simp; done) | (simp [*]; done), by repeat (first | exact Drawn0.refl _ | apply Drawn0.step)⟩
  · rw [if_neg c4] at H
    have c4b0 : decide (a1 ≤ a0) = false := decide_eq_false c4
    clear c4
    obtain rfl := Option.some.inj H
    go_enter Try.func65, Try.ntmps65
    go_wp2
    go_ret
    exact ⟨by first | rfl | (simp; done) | (simp [*]; done), by repeat (first | exact Drawn0.refl _ | apply Drawn0.step)⟩
end Go.Proofs.Yteopooljohdoiaa.Px
namespace Go.Proofs.Yteopooljohdoiaa.Px
open Go.RowKit Go.Proofs.YteopooljohdoiaaW.PrintWords Go.Proofs.YteopooljohdoiaaW.PrintLast Go.Proofs.YteopooljohdoiaaW.PrintMore
attribute [local go_sem] max2_int min2_int max_two min_two max_three min_three max_four min_four
mutual
def dam_CheckBasin.j0 : Nat → Int → List Int → List Int → Option (Int × Int)
  | 0, _, _, _ => none
  | k + 1, x5, x33002000, x33002001 => if x5 = 0 then (dam_CheckBasin.l0 k x33002000 (x33002000.length : Int) 0 x33002000 x33002001) else (some (0, x5))
def dam_CheckBasin.l0 : Nat → List Int → Int → Int → List Int → List Int → Option (Int × Int)
  | 0, _, _, _, _, _ => none
  | k + 1, x30, x31, x32, x33002000, x33002001 => if x32 < x31 then (if 0 ≤ x32 then (if x32 < (x30.length : Int) then ((dam_within.f (rd x30 x32) 0 1000000000).bind fun t33015 => (if t33015 = true then (if x32 < (x33002001.length : Int) then ((dam_within.f (rd x33002001 x32) 1 1000000000).bind fun t33017 => (if t33017 = true then (dam_CheckBasin.l0 k x30 x31 (wrap64 (x32 + 1)) x33002000 x33002001) else (some (x32, 2)))) else (none)) else (some (x32, 2)))) else (none)) else (none)) else (some (0, 0))
end
def dam_CheckBasin.f (k : Nat) (l0_0 : List Int) (l0_1 : List Int) : Option (Int × Int) := if (l0_0.length : Int) > 0 then ((dam_unless.f ((l0_1.length : Int) == (l0_0.length : Int)) 10).bind fun t33002 => ((dam_unless.f (decide ((l0_0.length : Int) ≤ 20)) 8).bind fun t33003 => ((dam_first.f k (([t33002, t33003] : List Int))).bind fun t33007 => (dam_CheckBasin.j0 k t33007 l0_0 l0_1)))) else ((dam_unless.f false 10).bind fun t33008 => ((dam_unless.f (decide ((l0_0.length : Int) ≤ 20)) 8).bind fun t33009 => ((dam_first.f k (([t33008, t33009] : List Int))).bind fun t33013 => (dam_CheckBasin.j0 k t33013 l0_0 l0_1))))
theorem dam_CheckBasin.mono_l : ∀ k, (∀ y0 y1 y2, LeO (dam_CheckBasin.j0 k y0 y1 y2) (dam_CheckBasin.j0 (k + 1) y0 y1 y2)) ∧ (∀ y0 y1 y2 y3 y4, LeO (dam_CheckBasin.l0 k y0 y1 y2 y3 y4) (dam_CheckBasin.l0 (k + 1) y0 y1 y2 y3 y4))
  | 0 => ⟨fun _ _ _ r h => by simp [dam_CheckBasin.j0] at h, fun _ _ _ _ _ r h => by simp [dam_CheckBasin.l0] at h⟩
  | k + 1 => by
    obtain ⟨ih0, ih1⟩ := dam_CheckBasin.mono_l k
    refine ⟨?_, ?_⟩
    · intro y0 y1 y2
      unfold dam_CheckBasin.j0
      repeat' first
      | (with_reducible exact ih0 _ _ _)
      | (with_reducible exact ih1 _ _ _ _ _)
      | (with_reducible exact dam_first.mono _ _)
      | (with_reducible exact LeO.refl _)
      | (with_reducible exact LeO.none _)
      | (with_reducible refine LeO.ite ?_ ?_)
      | (with_reducible refine LeO.bind ?_ (fun _ => ?_))
      | exact ih0 _ _ _
      | exact ih1 _ _ _ _ _
      | exact dam_first.mono _ _
      | exact LeO.none _
      | refine LeO.ite ?_ ?_
      | refine LeO.bind ?_ (fun _ => ?_)
    · intro y0 y1 y2 y3 y4
      unfold dam_CheckBasin.l0
      repeat' first
      | (with_reducible exact ih0 _ _ _)
      | (with_reducible exact ih1 _ _ _ _ _)
      | (with_reducible exact dam_first.mono _ _)
      | (with_reducible exact LeO.refl _)
      | (with_reducible exact LeO.none _)
      | (with_reducible refine LeO.ite ?_ ?_)
      | (with_reducible refine LeO.bind ?_ (fun _ => ?_))
      | exact ih0 _ _ _
      | exact ih1 _ _ _ _ _
      | exact dam_first.mono _ _
      | exact LeO.none _
      | refine LeO.ite ?_ ?_
      | refine LeO.bind ?_ (fun _ => ?_)
theorem dam_CheckBasin.mono : ∀ a0 a1 k, LeO (dam_CheckBasin.f k a0 a1) (dam_CheckBasin.f (k + 1) a0 a1) := by
  intro a0 a1 k
  obtain ⟨ih0, ih1⟩ := dam_CheckBasin.mono_l k
  unfold dam_CheckBasin.f
  repeat' first
      | (with_reducible exact ih0 _ _ _)
      | (with_reducible exact ih1 _ _ _ _ _)
      | (with_reducible exact dam_first.mono _ _)
      | (with_reducible exact LeO.refl _)
      | (with_reducible exact LeO.none _)
      | (with_reducible refine LeO.ite ?_ ?_)
      | (with_reducible refine LeO.bind ?_ (fun _ => ?_))
      | exact ih0 _ _ _
      | exact ih1 _ _ _ _ _
      | exact dam_first.mono _ _
      | exact LeO.none _
      | refine LeO.ite ?_ ?_
      | refine LeO.bind ?_ (fun _ => ?_)
set_option maxHeartbeats 8000000 in
set_option maxRecDepth 100000 in
theorem dam_CheckBasin.calls (k : Nat) (A0_0 : Option Addr) (c0_0 : Nat) (l0_0 : List Int) (A0_1 : Option Addr) (c0_1 : Nat) (l0_1 : List Int) (r1 : Int) (r2 : Int) (w : World) (hr0_0 : Kd.C (Kd.int .i64) w A0_0 l0_0.length l0_0) (hc0_0 : l0_0.length ≤ c0_0) (hr0_1 : Kd.C (Kd.int .i64) w A0_1 l0_1.length l0_1) (hc0_1 : l0_1.length ≤ c0_1) (h : dam_CheckBasin.f k l0_0 l0_1 = some (r1, r2)) :
    Calls Try.prog 11 #[.agg #[.slice A0_0 l0_0.length c0_0, .slice A0_1 l0_1.length c0_1]] w fun e w' => e = .returned (.tuple #[.int .i64 r1, .int .i64 r2]) ∧ Below w.heap.size w w' := by
  have hu24 := Try.underlying24
  have HR0_0 := Aside0.mk hr0_0
  have HC0_0 := Aside0.mk hc0_0
  clear hr0_0 hc0_0
  have HR0_1 := Aside0.mk hr0_1
  have HC0_1 := Aside0.mk hc0_1
  clear hr0_1 hc0_1
  have HB := Aside0.mk (Below.refl w.heap.size w)
  have H : (if (l0_0.length : Int) > 0 then ((dam_unless.f ((l0_1.length : Int) == (l0_0.length : Int)) 10).bind fun t33002 => ((dam_unless.f (decide ((l0_0.length : Int) ≤ 20)) 8).bind fun t33003 => ((dam_first.f k (([t33002, t33003] : List Int))).bind fun t33007 => (dam_CheckBasin.j0 k t33007 l0_0 l0_1)))) else ((dam_unless.f false 10).bind fun t33008 => ((dam_unless.f (decide ((l0_0.length : Int) ≤ 20)) 8).bind fun t33009 => ((dam_first.f k (([t33008, t33009] : List Int))).bind fun t33013 => (dam_CheckBasin.j0 k t33013 l0_0 l0_1))))) = some (r1, r2) := h
  clear h
  have HC2 := Aside0.mk H
  clear H
  go_enter Try.func11, Try.ntmps11
  go_upto_region 2 with (first | ((with_reducible refine gate_dst (N := 1) rfl ?_); (try (refine gate_guard (by rfl) ?_; dsimp only)); refine box_event ?hg (N := 1) ?hd (cs := #[.slice A0_0 l0_0.length c0_0, .slice A0_1 l0_1.length c0_1]) (t := 24) ?hr ?_; (case hd => rfl); (case hg => rfl); (case hr => first | (go_simp; done) | (go_simp; rfl)); intro gb33001 hg w3 hbox hb; have n0_ := Aside0.mk (below_step (by repeat (first | (with_reducible first | exact HB.out | apply below_alloc | apply pw_below_drewN | apply below_drew1) | exact HB.out)) hb); have n1_ := Aside0.mk (hbox); have n2_ := Aside0.mk ((by rw [hg]; exact (below_size (by repeat (first | (with_reducible first | exact HB.out | apply below_alloc | apply pw_below_drewN | apply below_drew1) | exact HB.out))) : w.heap.size ≤ gb33001)); have n3_ := Aside0.mk ((by rw [hg]; exact (below_size (by repeat (first | (with_reducible first | exact HB.out | apply below_alloc | apply pw_below_drewN | apply below_drew1) | exact HB.out))) : w.heap.size ≤ gb33001)); clear HB; have HB := n0_; have BK33001 := n1_; have GW33001 := n2_; have GE33001 := n3_; clear n0_ n1_ n2_ n3_; clear hb hbox hg; have hcz4_0 : w3.cell? ⟨gb33001, 0, none⟩ = some (.slice A0_0 l0_0.length c0_0) := (blk_cell BK33001.out 0).trans rfl; have hcz4_1 : w3.cell? ⟨gb33001, 1, none⟩ = some (.slice A0_1 l0_1.length c0_1) := (blk_cell BK33001.out 1).trans rfl; have hfz4_0 := blk_frozen BK33001.out 0; have hfz4_1 := blk_frozen BK33001.out 1))
  (try simp only [Act.put, List.setIfInBounds_toArray, List.set_cons_zero, List.set_cons_succ])
  go_cut [5] (fun v5 wc => ∃ (kq : Nat) (x5_1 : Int), v5 = .int .i64 x5_1 ∧ Aside0 (dam_CheckBasin.j0 kq x5_1 l0_0 l0_1 = some (r1, r2)) ∧ Aside0 (kq ≤ k) ∧ Aside0 (wc.heap[gb33001]? = some (.cells #[(.slice A0_0 l0_0.length c0_0), (.slice A0_1 l0_1.length c0_1)] 24 (0, 0))) ∧ Aside0 (Below w.heap.size w wc))
  case first =>
    have H := HC2.out
    clear HC2
    by_cases c5 : (l0_0.length : Int) > 0
    · rw [if_pos c5] at H
      have c5b0 : decide (0 < (l0_0.length : Int)) = true := decide_eq_true c5
      have c5b1 : decide (0 < l0_0.length) = true := decide_eq_true (by omega)
      clear c5
      (first | rw [c5b0] | (simp only [i64_w, i32_w]; rw [c5b0]) | skip)
      replace H := Option.bind_eq_some_iff.mp H
      obtain ⟨t33002, A60, H⟩ := H
      replace H : ((dam_unless.f (decide ((l0_0.length : Int) ≤ 20)) 8).bind fun t33003 => ((dam_first.f k (([t33002, t33003] : List Int))).bind fun t33007 => (dam_CheckBasin.j0 k t33007 l0_0 l0_1))) = some (r1, r2) := H
      have A6 := Aside0.mk A60
      clear A60
      replace H := Option.bind_eq_some_iff.mp H
      obtain ⟨t33003, A70, H⟩ := H
      replace H : ((dam_first.f k (([t33002, t33003] : List Int))).bind fun t33007 => (dam_CheckBasin.j0 k t33007 l0_0 l0_1)) = some (r1, r2) := H
      have A7 := Aside0.mk A70
      clear A70
      obtain ⟨y33004, hy33004⟩ : ∃ y_ : List Int, y_ = (([t33002, t33003] : List Int)) := ⟨_, rfl⟩
      replace H : ((dam_first.f k y33004).bind fun t33007 => (dam_CheckBasin.j0 k t33007 l0_0 l0_1)) = some (r1, r2) := by first | (rw [hy33004]; with_reducible exact H) | (have H2_ := (Option.bind_some _ _).symm.trans H; rw [hy33004]; with_reducible exact H2_) | (have H2_ := (Option.bind_some _ _).symm.trans H; with_reducible exact H2_) | with_reducible exact H | (rw [hy33004]; exact H) | exact H
      have Ny33004 := Aside0.mk hy33004
      clear hy33004
      replace H := Option.bind_eq_some_iff.mp H
      obtain ⟨t33007, A80, H⟩ := H
      replace H : (dam_CheckBasin.j0 k t33007 l0_0 l0_1) = some (r1, r2) := H
      have A8 := Aside0.mk A80
      clear A80
      have H' := Aside0.mk H
      clear H
      have hcz9_0 : w3.cell? ⟨gb33001, 0, none⟩ = some (.slice A0_0 l0_0.length c0_0) := (blk_cell BK33001.out 0).trans rfl
      have hcz9_1 : w3.cell? ⟨gb33001, 1, none⟩ = some (.slice A0_1 l0_1.length c0_1) := (blk_cell BK33001.out 1).trans rfl
      have hfz9_0 := blk_frozen BK33001.out 0
      have hfz9_1 := blk_frozen BK33001.out 1
      go_wp2_with (first | ((with_reducible refine gate_callee (f := 64) rfl ?_); refine goesL_ (some 20) rfl rfl Try.func64 (by kernel_rfl) rfl #[.bool ((l0_1.length : Int) == (l0_0.length : Int)), .int .i64 10] rfl (by (try simp only [List.map_toArray, List.map_cons, List.map_nil]); first | done | rfl | (simp only [List.length_drop, List.length_take]; rfl)) ?_; (with_reducible refine (dam_unless.calls ((l0_1.length : Int) == (l0_0.length : Int)) 10 t33002 _ A6.out).mono ?_); rintro e w' ⟨rfl, ⟨nd, rfl⟩⟩; refine ⟨_, rfl, ?_⟩) | ((with_reducible refine gate_callee (f := 64) rfl ?_); refine goesL_ (some 23) rfl rfl Try.func64 (by kernel_rfl) rfl #[.bool (decide ((l0_0.length : Int) ≤ 20)), .int .i64 8] rfl (by (try simp only [List.map_toArray, List.map_cons, List.map_nil]); first | done | rfl | (simp only [List.length_drop, List.length_take]; rfl)) ?_; (with_reducible refine (dam_unless.calls (decide ((l0_0.length : Int) ≤ 20)) 8 t33003 _ A7.out).mono ?_); rintro e w' ⟨rfl, ⟨nd, rfl⟩⟩; refine ⟨_, rfl, ?_⟩) | ((with_reducible refine gate_dst (N := 24) rfl ?_); (try (refine gate_guard (by rfl) ?_; dsimp only)); refine Kd.R_lit (Kd.int .i64) _ 26 ?hg (N := 24) ?hd (xs := ([t33002, t33003] : List Int)) (inner := [.int .i64 t33002, .int .i64 t33003]) (ok := fun _ => True) (okp := fun _ => True) ?hr ?hp (fun _ hk => hk) trivial (Below.refl _ _) (Nat.le_refl _) (by simp) ?_; (case hd => rfl); (case hg => rfl); (case hr => first | (go_simp; done) | (go_simp; rfl)); (case hp => exact (Reps.one (show Kd.M (Kd.int .i64) _ _ _ t33002 [.int .i64 t33002] from rfl) (Reps.one (show Kd.M (Kd.int .i64) _ _ _ t33003 [.int .i64 t33003] from rfl) (Reps.none _ _)))); intro v33005 w10 ho11 hb hg_ hnew_; clear hg_ hnew_; (first | rw [← Ny33004.out] at ho11 | (simp only [Int.reduceToNat] at ho11; rw [← Ny33004.out] at ho11)); have n0_ := Aside0.mk (Kd.R_lower ho11 (below_size (by repeat (first | (with_reducible first | exact HB.out | apply below_alloc | apply pw_below_drewN | apply below_drew1 | refine below_set ?_ GE33001.out) | exact HB.out)))); have n1_ := Aside0.mk (blk_below (g := gb33001) (o := .cells #[.slice A0_0 l0_0.length c0_0, .slice A0_1 l0_1.length c0_1] 24 (0, 0)) (by (with_reducible repeat (first | refine blk_drewN ?_ _ | refine blk_drew ?_ | refine blk_alloc ?_ _)); exact BK33001.out) hb); have n2_ := Aside0.mk (below_step (by repeat (first | (with_reducible first | exact HB.out | apply below_alloc | apply pw_below_drewN | apply below_drew1 | refine below_set ?_ GE33001.out) | exact HB.out)) hb); clear BK33001; clear HB; have HO33006 := n0_; have BK33001 := n1_; have HB := n2_; clear n0_ n1_ n2_; clear hb ho11; obtain ⟨Ao12, co12, eo12⟩ := Kd.R_slice HO33006.out; subst eo12) | ((with_reducible refine gate_callee (f := 63) rfl ?_); refine goesL_ (some 25) rfl rfl Try.func63 (by kernel_rfl) rfl #[.slice Ao12 y33004.length co12] rfl (by (try simp only [List.map_toArray, List.map_cons, List.map_nil]); first | done | rfl | (simp only [List.length_drop, List.length_take]; rfl)) ?_; (with_reducible refine (dam_first.calls k _ _ y33004 t33007 _ ?side1 ?side2 A8.out).mono ?_); (case side1 => repeat (first | exact (Kd.R_reads' HO33006.out).2.2 | (with_reducible refine Kd.C_alloc ?_ _) | (with_reducible refine Kd.C_drewN ?_ _) | (with_reducible refine Kd.C_drew ?_))); (case side2 => exact (Kd.R_reads' HO33006.out).2.1); rintro e w' ⟨rfl, ⟨nd, rfl⟩⟩; refine ⟨_, rfl, ?_⟩))
      go_meet
      case rel => exact ⟨_, (t33007), (by first | rfl | (simp; done) | (simp [*]; done)), H', ⟨by first | omega | exact Nat.le_refl _⟩, ⟨by (with_reducible repeat (first | refine blk_drewN ?_ _ | refine blk_drew ?_ | refine blk_alloc ?_ _)); exact BK33001.out⟩, ⟨by repeat (first | (with_reducible first | exact HB.out | apply below_alloc | apply pw_below_drewN | apply below_drew1 | refine below_set ?_ GE33001.out) | exact HB.out)⟩⟩
    · rw [if_neg c5] at H
      have c5b0 : decide (0 < (l0_0.length : Int)) = false := decide_eq_false c5
      have c5b1 : decide (0 < l0_0.length) = false := decide_eq_false (by omega)
      clear c5
      (first | rw [c5b0] | (simp only [i64_w, i32_w]; rw [c5b0]) | skip)
      replace H := Option.bind_eq_some_iff.mp H
      obtain ⟨t33008, A130, H⟩ := H
      replace H : ((dam_unless.f (decide ((l0_0.length : Int) ≤ 20)) 8).bind fun t33009 => ((dam_first.f k (([t33008, t33009] : List Int))).bind fun t33013 => (dam_CheckBasin.j0 k t33013 l0_0 l0_1))) = some (r1, r2) := H
      have A13 := Aside0.mk A130
      clear A130
      replace H := Option.bind_eq_some_iff.mp H
      obtain ⟨t33009, A140, H⟩ := H
      replace H : ((dam_first.f k (([t33008, t33009] : List Int))).bind fun t33013 => (dam_CheckBasin.j0 k t33013 l0_0 l0_1)) = some (r1, r2) := H
      have A14 := Aside0.mk A140
      clear A140
      obtain ⟨y33010, hy33010⟩ : ∃ y_ : List Int, y_ = (([t33008, t33009] : List Int)) := ⟨_, rfl⟩
      replace H : ((dam_first.f k y33010).bind fun t33013 => (dam_CheckBasin.j0 k t33013 l0_0 l0_1)) = some (r1, r2) := by first | (rw [hy33010]; with_reducible exact H) | (have H2_ := (Option.bind_some _ _).symm.trans H; rw [hy33010]; with_reducible exact H2_) | (have H2_ := (Option.bind_some _ _).symm.trans H; with_reducible exact H2_) | with_reducible exact H | (rw [hy33010]; exact H) | exact H
      have Ny33010 := Aside0.mk hy33010
      clear hy33010
      replace H := Option.bind_eq_some_iff.mp H
      obtain ⟨t33013, A150, H⟩ := H
      replace H : (dam_CheckBasin.j0 k t33013 l0_0 l0_1) = some (r1, r2) := H
      have A15 := Aside0.mk A150
      clear A150
      have H' := Aside0.mk H
      clear H
      go_wp2_with (first | ((with_reducible refine gate_callee (f := 64) rfl ?_); refine goesL_ (some 20) rfl rfl Try.func64 (by kernel_rfl) rfl #[.bool false, .int .i64 10] rfl (by (try simp only [List.map_toArray, List.map_cons, List.map_nil]); first | done | rfl | (simp only [List.length_drop, List.length_take]; rfl)) ?_; (with_reducible refine (dam_unless.calls false 10 t33008 _ A13.out).mono ?_); rintro e w' ⟨rfl, ⟨nd, rfl⟩⟩; refine ⟨_, rfl, ?_⟩) | ((with_reducible refine gate_callee (f := 64) rfl ?_); refine goesL_ (some 23) rfl rfl Try.func64 (by kernel_rfl) rfl #[.bool (decide ((l0_0.length : Int) ≤ 20)), .int .i64 8] rfl (by (try simp only [List.map_toArray, List.map_cons, List.map_nil]); first | done | rfl | (simp only [List.length_drop, List.length_take]; rfl)) ?_; (with_reducible refine (dam_unless.calls (decide ((l0_0.length : Int) ≤ 20)) 8 t33009 _ A14.out).mono ?_); rintro e w' ⟨rfl, ⟨nd, rfl⟩⟩; refine ⟨_, rfl, ?_⟩) | ((with_reducible refine gate_dst (N := 24) rfl ?_); (try (refine gate_guard (by rfl) ?_; dsimp only)); refine Kd.R_lit (Kd.int .i64) _ 26 ?hg (N := 24) ?hd (xs := ([t33008, t33009] : List Int)) (inner := [.int .i64 t33008, .int .i64 t33009]) (ok := fun _ => True) (okp := fun _ => True) ?hr ?hp (fun _ hk => hk) trivial (Below.refl _ _) (Nat.le_refl _) (by simp) ?_; (case hd => rfl); (case hg => rfl); (case hr => first | (go_simp; done) | (go_simp; rfl)); (case hp => exact (Reps.one (show Kd.M (Kd.int .i64) _ _ _ t33008 [.int .i64 t33008] from rfl) (Reps.one (show Kd.M (Kd.int .i64) _ _ _ t33009 [.int .i64 t33009] from rfl) (Reps.none _ _)))); intro v33011 w16 ho17 hb hg_ hnew_; clear hg_ hnew_; (first | rw [← Ny33010.out] at ho17 | (simp only [Int.reduceToNat] at ho17; rw [← Ny33010.out] at ho17)); have n0_ := Aside0.mk (Kd.R_lower ho17 (below_size (by repeat (first | (with_reducible first | exact HB.out | apply below_alloc | apply pw_below_drewN | apply below_drew1 | refine below_set ?_ GE33001.out) | exact HB.out)))); have n1_ := Aside0.mk (blk_below (g := gb33001) (o := .cells #[.slice A0_0 l0_0.length c0_0, .slice A0_1 l0_1.length c0_1] 24 (0, 0)) (by (with_reducible repeat (first | refine blk_drewN ?_ _ | refine blk_drew ?_ | refine blk_alloc ?_ _)); exact BK33001.out) hb); have n2_ := Aside0.mk (below_step (by repeat (first | (with_reducible first | exact HB.out | apply below_alloc | apply pw_below_drewN | apply below_drew1 | refine below_set ?_ GE33001.out) | exact HB.out)) hb); clear BK33001; clear HB; have HO33012 := n0_; have BK33001 := n1_; have HB := n2_; clear n0_ n1_ n2_; clear hb ho17; obtain ⟨Ao18, co18, eo18⟩ := Kd.R_slice HO33012.out; subst eo18) | ((with_reducible refine gate_callee (f := 63) rfl ?_); refine goesL_ (some 25) rfl rfl Try.func63 (by kernel_rfl) rfl #[.slice Ao18 y33010.length co18] rfl (by (try simp only [List.map_toArray, List.map_cons, List.map_nil]); first | done | rfl | (simp only [List.length_drop, List.length_take]; rfl)) ?_; (with_reducible refine (dam_first.calls k _ _ y33010 t33013 _ ?side1 ?side2 A15.out).mono ?_); (case side1 => repeat (first | exact (Kd.R_reads' HO33012.out).2.2 | (with_reducible refine Kd.C_alloc ?_ _) | (with_reducible refine Kd.C_drewN ?_ _) | (with_reducible refine Kd.C_drew ?_))); (case side2 => exact (Kd.R_reads' HO33012.out).2.1); rintro e w' ⟨rfl, ⟨nd, rfl⟩⟩; refine ⟨_, rfl, ?_⟩))
      go_meet
      case rel => exact ⟨_, (t33013), (by first | rfl | (simp; done) | (simp [*]; done)), H', ⟨by first | omega | exact Nat.le_refl _⟩, ⟨by (with_reducible repeat (first | refine blk_drewN ?_ _ | refine blk_drew ?_ | refine blk_alloc ?_ _)); exact BK33001.out⟩, ⟨by repeat (first | (with_reducible first | exact HB.out | apply below_alloc | apply pw_below_drewN | apply below_drew1 | refine below_set ?_ GE33001.out) | exact HB.out)⟩⟩
  case rest =>
    clear HC2
    try clear c1
    try clear p2
    try clear c5
    try clear c5b0
    try clear c5b1
    try clear c6
    try clear c11
    try clear hcz4_0
    try clear hcz4_1
    try clear hcz9_0
    try clear hcz9_1
    try clear hfz4_0
    try clear hfz4_1
    try clear hfz9_0
    try clear hfz9_1
    obtain ⟨kq, x5_1, rfl, HA, HJ1, BK33001, HB⟩ := hcut
    cases kq with
    | zero => exact absurd HA.out (by simp [dam_CheckBasin.j0])
    | succ kj1 =>
      have H := HA.out
      clear HA
      simp only [dam_CheckBasin.j0] at H
      by_cases c19 : x5_1 = 0
      · rw [if_pos c19] at H
        have c19b0 : (x5_1 == 0) = true := beq_iff_eq.mpr c19
        have c19b1 : (x5_1 != 0) = false := bne_eq_false_iff_eq.mpr c19
        clear c19
        have H' := Aside0.mk H
        clear H
        have hcz20_0 : wc.cell? ⟨gb33001, 0, none⟩ = some (.slice A0_0 l0_0.length c0_0) := (blk_cell BK33001.out 0).trans rfl
        have hcz20_1 : wc.cell? ⟨gb33001, 1, none⟩ = some (.slice A0_1 l0_1.length c0_1) := (blk_cell BK33001.out 1).trans rfl
        have hfz20_0 := blk_frozen BK33001.out 0
        have hfz20_1 := blk_frozen BK33001.out 1
        go_wp2
        go_loopg [32] kj1 (fun kq v32 w' => ∃ (x32_2 : Int), v32 = .int .i64 x32_2 ∧ Aside0 (dam_CheckBasin.l0 kq l0_0 (l0_0.length : Int) x32_2 l0_0 l0_1 = some (r1, r2)) ∧ Aside0 (kq ≤ kj1) ∧ Aside0 (w'.heap[gb33001]? = some (.cells #[(.slice A0_0 l0_0.length c0_0), (.slice A0_1 l0_1.length c0_1)] 24 (0, 0))) ∧ Aside0 (Below w.heap.size w w'))
        case atStart => exact ⟨(0), (by first | rfl | (simp; done) | (simp [*]; done)), H', ⟨Nat.le_refl _⟩, ⟨by (with_reducible repeat (first | refine blk_drewN ?_ _ | refine blk_drew ?_ | refine blk_alloc ?_ _)); exact BK33001.out⟩, ⟨by repeat (first | (with_reducible first | exact HB.out | apply below_alloc | apply pw_below_drewN | apply below_drew1 | refine below_set ?_ GE33001.out) | exact HB.out)⟩⟩
        case round =>
          clear H'
          try clear c1
          try clear p2
          try clear c5
          try clear c5b0
          try clear c5b1
          try clear c6
          try clear c11
          try clear c19
          try clear c19b0
          try clear c19b1
          try clear hcz20_0
          try clear hcz20_1
          try clear hcz4_0
          try clear hcz4_1
          try clear hcz9_0
          try clear hcz9_1
          try clear hfz20_0
          try clear hfz20_1
          try clear hfz4_0
          try clear hfz4_1
          try clear hfz9_0
          try clear hfz9_1
          try clear p2
          obtain ⟨x32_2, rfl, HA, HK2, BK33001, HB⟩ := hrel
          cases gk with
          | zero => exact absurd HA.out (by simp [dam_CheckBasin.l0])
          | succ k2 =>
            have H := HA.out
            clear HA
            simp only [dam_CheckBasin.l0] at H
            by_cases c21 : x32_2 < (l0_0.length : Int)
            · rw [if_pos c21] at H
              have c21b0 : decide (x32_2 < (l0_0.length : Int)) = true := decide_eq_true c21
              clear c21
              by_cases c22 : 0 ≤ x32_2
              · rw [if_pos c22] at H
                have c22b0 : decide (0 ≤ x32_2) = true := decide_eq_true c22
                clear c22
                by_cases c23 : x32_2 < (l0_0.length : Int)
                · rw [if_pos c23] at H
                  have c23b0 : decide (x32_2 < (l0_0.length : Int)) = true := decide_eq_true c23
                  clear c23
                  replace H := Option.bind_eq_some_iff.mp H
                  obtain ⟨t33015, A240, H⟩ := H
                  replace H : (if t33015 = true then (if x32_2 < (l0_1.length : Int) then ((dam_within.f (rd l0_1 x32_2) 1 1000000000).bind fun t33017 => (if t33017 = true then (dam_CheckBasin.l0 k2 l0_0 (l0_0.length : Int) (wrap64 (x32_2 + 1)) l0_0 l0_1) else (some (x32_2, 2)))) else (none)) else (some (x32_2, 2))) = some (r1, r2) := H
                  have A24 := Aside0.mk A240
                  clear A240
                  by_cases c25 : t33015 = true
                  · subst c25
                    have H1 : (if x32_2 < (l0_1.length : Int) then ((dam_within.f (rd l0_1 x32_2) 1 1000000000).bind fun t33017 => (if t33017 = true then (dam_CheckBasin.l0 k2 l0_0 (l0_0.length : Int) (wrap64 (x32_2 + 1)) l0_0 l0_1) else (some (x32_2, 2)))) else (none)) = some (r1, r2) := by rw [if_pos rfl] at H; exact H
                    clear H
                    have H := H1
                    clear H1
                    by_cases c26 : x32_2 < (l0_1.length : Int)
                    · rw [if_pos c26] at H
                      have c26b0 : decide (x32_2 < (l0_1.length : Int)) = true := decide_eq_true c26
                      clear c26
                      replace H := Option.bind_eq_some_iff.mp H
                      obtain ⟨t33017, A270, H⟩ := H
                      replace H : (if t33017 = true then (dam_CheckBasin.l0 k2 l0_0 (l0_0.length : Int) (wrap64 (x32_2 + 1)) l0_0 l0_1) else (some (x32_2, 2))) = some (r1, r2) := H
                      have A27 := Aside0.mk A270
                      clear A270
                      by_cases c28 : t33017 = true
                      · subst c28
                        have H1 : (dam_CheckBasin.l0 k2 l0_0 (l0_0.length : Int) (wrap64 (x32_2 + 1)) l0_0 l0_1) = some (r1, r2) := by rw [if_pos rfl] at H; exact H
                        clear H
                        have H := H1
                        clear H1
                        have H' := Aside0.mk H
                        clear H
                        have p33014 : 0 ≤ (x32_2 : Int) := of_decide_eq_true (by first | (with_reducible assumption) | assumption)
                        have q33014 : x32_2 < (l0_0.length : Int) := of_decide_eq_true (by first | (with_reducible assumption) | assumption)
                        obtain ⟨ad33014, e33014, hx33014_0⟩ := Kd.at_int HR0_0.out x32_2 p33014 q33014
                        cases e33014
                        replace hx33014_0 := (HB.out.cell (World.block_lt_of_cell? w _ hx33014_0)).trans hx33014_0
                        replace p33014 := eq_true p33014
                        replace q33014 := eq_true q33014
                        go_wp2_with (first | ((with_reducible refine gate_callee (f := 65) rfl ?_); refine goesL_ (some 38) rfl rfl Try.func65 (by kernel_rfl) rfl #[.int .i64 (rd l0_0 x32_2), .int .i64 0, .int .i64 1000000000] rfl (by (try simp only [List.map_toArray, List.map_cons, List.map_nil]); first | done | rfl | (simp only [List.length_drop, List.length_take]; rfl)) ?_; (with_reducible refine (dam_within.calls (rd l0_0 x32_2) 0 1000000000 true _ A24.out).mono ?_); rintro e w' ⟨rfl, ⟨nd, rfl⟩⟩; refine ⟨_, rfl, ?_⟩; have hcz29_0 : wr.cell? ⟨gb33001, 0, none⟩ = some (.slice (some ad33014) l0_0.length c0_0) := (blk_cell BK33001.out 0).trans rfl; have hcz29_1 : wr.cell? ⟨gb33001, 1, none⟩ = some (.slice A0_1 l0_1.length c0_1) := (blk_cell BK33001.out 1).trans rfl; have hfz29_0 := blk_frozen BK33001.out 0; have hfz29_1 := blk_frozen BK33001.out 1; have p33016 : 0 ≤ (x32_2 : Int) := of_decide_eq_true (by first | (with_reducible assumption) | assumption); have q33016 : x32_2 < (l0_1.length : Int) := of_decide_eq_true (by first | (with_reducible assumption) | assumption); obtain ⟨ad33016, e33016, hx33016_0⟩ := Kd.at_int HR0_1.out x32_2 p33016 q33016; cases e33016; replace hx33016_0 := (HB.out.cell (World.block_lt_of_cell? w _ hx33016_0)).trans hx33016_0; replace p33016 := eq_true p33016; replace q33016 := eq_true q33016) | (go_at_call 65; (with_reducible refine (dam_within.calls (rd l0_1 x32_2) 1 1000000000 true _ A27.out).mono ?_); rintro e w' ⟨rfl, ⟨nd, rfl⟩⟩))
                        go_roundg k2
                        case measure => have := HJ1.out; have := HK2.out; omega
                        case rel => exact ⟨(wrap64 (x32_2 + 1)), (by first | rfl | (simp; done) | (simp [*]; done)), H', ⟨by have := HJ1.out; have := HK2.out; omega⟩, ⟨by (with_reducible repeat (first | refine blk_drewN ?_ _ | refine blk_drew ?_ | refine blk_alloc ?_ _)); exact BK33001.out⟩, ⟨by repeat (first | (with_reducible first | exact HB.out | apply below_alloc | apply pw_below_drewN | apply below_drew1 | refine below_set ?_ GE33001.out) | exact HB.out)⟩⟩
                      · replace c28 := Bool.eq_false_iff.mpr c28
                        subst c28
                        have H1 : (some (x32_2, 2)) = some (r1, r2) := by rw [if_neg (show ¬ (false = true) by decide)] at H; exact H
                        clear H
                        have H := H1
                        clear H1
                        simp only [Option.some.injEq, Prod.mk.injEq] at H
                        obtain ⟨rfl, rfl⟩ := H
                        have p33014 : 0 ≤ (x32_2 : Int) := of_decide_eq_true (by first | (with_reducible assumption) | assumption)
                        have q33014 : x32_2 < (l0_0.length : Int) := of_decide_eq_true (by first | (with_reducible assumption) | assumption)
                        obtain ⟨ad33014, e33014, hx33014_0⟩ := Kd.at_int HR0_0.out x32_2 p33014 q33014
                        cases e33014
                        replace hx33014_0 := (HB.out.cell (World.block_lt_of_cell? w _ hx33014_0)).trans hx33014_0
                        replace p33014 := eq_true p33014
                        replace q33014 := eq_true q33014
                        go_wp2_with (first | ((with_reducible refine gate_callee (f := 65) rfl ?_); refine goesL_ (some 38) rfl rfl Try.func65 (by kernel_rfl) rfl #[.int .i64 (rd l0_0 x32_2), .int .i64 0, .int .i64 1000000000] rfl (by (try simp only [List.map_toArray, List.map_cons, List.map_nil]); first | done | rfl | (simp only [List.length_drop, List.length_take]; rfl)) ?_; (with_reducible refine (dam_within.calls (rd l0_0 x32_2) 0 1000000000 true _ A24.out).mono ?_); rintro e w' ⟨rfl, ⟨nd, rfl⟩⟩; refine ⟨_, rfl, ?_⟩; have hcz30_0 : wr.cell? ⟨gb33001, 0, none⟩ = some (.slice (some ad33014) l0_0.length c0_0) := (blk_cell BK33001.out 0).trans rfl; have hcz30_1 : wr.cell? ⟨gb33001, 1, none⟩ = some (.slice A0_1 l0_1.length c0_1) := (blk_cell BK33001.out 1).trans rfl; have hfz30_0 := blk_frozen BK33001.out 0; have hfz30_1 := blk_frozen BK33001.out 1; have p33016 : 0 ≤ (x32_2 : Int) := of_decide_eq_true (by first | (with_reducible assumption) | assumption); have q33016 : x32_2 < (l0_1.length : Int) := of_decide_eq_true (by first | (with_reducible assumption) | assumption); obtain ⟨ad33016, e33016, hx33016_0⟩ := Kd.at_int HR0_1.out x32_2 p33016 q33016; cases e33016; replace hx33016_0 := (HB.out.cell (World.block_lt_of_cell? w _ hx33016_0)).trans hx33016_0; replace p33016 := eq_true p33016; replace q33016 := eq_true q33016) | (go_at_call 65; (with_reducible refine (dam_within.calls (rd l0_1 x32_2) 1 1000000000 false _ A27.out).mono ?_); rintro e w' ⟨rfl, ⟨nd, rfl⟩⟩))
                        go_ret2
                        exact ⟨by first | rfl | (simp [errW_none, errW_some] <;> rfl) | (simp [*, errW_none, errW_some] <;> rfl), by repeat (first | (with_reducible first | exact HB.out | apply below_alloc | apply pw_below_drewN | apply below_drew1 | refine below_set ?_ GE33001.out) | exact HB.out)⟩
                    · rw [if_neg c26] at H
                      exact absurd H (by simp)
                  · replace c25 := Bool.eq_false_iff.mpr c25
                    subst c25
                    have H1 : (some (x32_2, 2)) = some (r1, r2) := by rw [if_neg (show ¬ (false = true) by decide)] at H; exact H
                    clear H
                    have H := H1
                    clear H1
                    simp only [Option.some.injEq, Prod.mk.injEq] at H
                    obtain ⟨rfl, rfl⟩ := H
                    have p33014 : 0 ≤ (x32_2 : Int) := of_decide_eq_true (by first | (with_reducible assumption) | assumption)
                    have q33014 : x32_2 < (l0_0.length : Int) := of_decide_eq_true (by first | (with_reducible assumption) | assumption)
                    obtain ⟨ad33014, e33014, hx33014_0⟩ := Kd.at_int HR0_0.out x32_2 p33014 q33014
                    cases e33014
                    replace hx33014_0 := (HB.out.cell (World.block_lt_of_cell? w _ hx33014_0)).trans hx33014_0
                    replace p33014 := eq_true p33014
                    replace q33014 := eq_true q33014
                    go_wp2_with (first | ((with_reducible refine gate_callee (f := 65) rfl ?_); refine goesL_ (some 38) rfl rfl Try.func65 (by kernel_rfl) rfl #[.int .i64 (rd l0_0 x32_2), .int .i64 0, .int .i64 1000000000] rfl (by (try simp only [List.map_toArray, List.map_cons, List.map_nil]); first | done | rfl | (simp only [List.length_drop, List.length_take]; rfl)) ?_; (with_reducible refine (dam_within.calls (rd l0_0 x32_2) 0 1000000000 false _ A24.out).mono ?_); rintro e w' ⟨rfl, ⟨nd, rfl⟩⟩; refine ⟨_, rfl, ?_⟩))
                    go_ret2
                    exact ⟨by first | rfl | (simp [errW_none, errW_some] <;> rfl) | (simp [*, errW_none, errW_some] <;> rfl), by repeat (first | (with_reducible first | exact HB.out | apply below_alloc | apply pw_below_drewN | apply below_drew1 | refine below_set ?_ GE33001.out) | exact HB.out)⟩
                · rw [if_neg c23] at H
                  exact absurd H (by simp)
              · rw [if_neg c22] at H
                exact absurd H (by simp)
            · rw [if_neg c21] at H
              have c21b0 : decide (x32_2 < (l0_0.length : Int)) = false := decide_eq_false c21
              clear c21
              simp only [Option.some.injEq, Prod.mk.injEq] at H
              obtain ⟨rfl, rfl⟩ := H
              go_wp2
              go_ret2
              exact ⟨by first | rfl | (simp [errW_none, errW_some] <;> rfl) | (simp [*, errW_none, errW_some] <;> rfl), by repeat (first | (with_reducible first | exact HB.out | apply below_alloc | apply pw_below_drewN | apply below_drew1 | refine below_set ?_ GE33001.out) | exact HB.out)⟩
      · rw [if_neg c19] at H
        have c19b0 : (x5_1 == 0) = false := beq_eq_false_iff_ne.mpr c19
        have c19b1 : (x5_1 != 0) = true := bne_iff_ne.mpr c19
        simp only [Option.some.injEq, Prod.mk.injEq] at H
        obtain ⟨rfl, rfl⟩ := H
        go_wp2
        go_ret2
        exact ⟨by first | rfl | (simp [errW_none, errW_some] <;> rfl) | (simp [*, errW_none, errW_some] <;> rfl), by repeat (first | (with_reducible first | exact HB.out | apply below_alloc | apply pw_below_drewN | apply below_drew1 | refine below_set ?_ GE33001.out) | exact HB.out)⟩
end Go.Proofs.Yteopooljohdoiaa.Px
namespace Go.Proofs.Yteopooljohdoiaa.Px
open Go.RowKit Go.Proofs.YteopooljohdoiaaW.PrintWords Go.Proofs.YteopooljohdoiaaW.PrintLast Go.Proofs.YteopooljohdoiaaW.PrintMore
attribute [local go_sem] max2_int min2_int max_two min_two max_three min_three max_four min_four
def dam_EmptyingOf.l0 : Nat → Int → List Int → Int → Int → List Int → List Int → Option (Int × Int)
  | 0, _, _, _, _, _, _ => none
  | k + 1, x8, x31, x32, x33, x39002000, x39002001 => if x33 < x32 then (if 0 ≤ x33 then (if x33 < (x31.length : Int) then (if x33 < (x39002001.length : Int) then (if (rd x39002001 x33) = 0 then (none) else (dam_EmptyingOf.l0 k (wrap64 (x8 + (wrap64 (Int.tdiv (wrap64 ((wrap64 ((rd x31 x33) + (rd x39002001 x33))) - 1)) (rd x39002001 x33))))) x31 x32 (wrap64 (x33 + 1)) x39002000 x39002001)) else (none)) else (none)) else (none)) else (some (x8, 0))
def dam_EmptyingOf.f (k : Nat) (l0_0 : List Int) (l0_1 : List Int) (a1 : Int) : Option (Int × Int) := (dam_CheckBasin.f k l0_0 l0_1).bind fun bt39002 => ((dam_within.f a1 0 (l0_0.length : Int)).bind fun t39004 => ((dam_unless.f t39004 2).bind fun t39005 => ((dam_first.f k (([bt39002.2, t39005] : List Int))).bind fun t39009 => (if t39009 = 0 then (if 0 ≤ a1 then (if a1 ≤ (l0_0.length : Int) then (dam_EmptyingOf.l0 k 0 (l0_0.take (a1 : Int).toNat) ((l0_0.take (a1 : Int).toNat).length : Int) 0 l0_0 l0_1) else (none)) else (none)) else (some (0, t39009))))))
theorem dam_EmptyingOf.mono_l : ∀ k, (∀ y0 y1 y2 y3 y4 y5, LeO (dam_EmptyingOf.l0 k y0 y1 y2 y3 y4 y5) (dam_EmptyingOf.l0 (k + 1) y0 y1 y2 y3 y4 y5))
  | 0 => fun _ _ _ _ _ _ r h => by simp [dam_EmptyingOf.l0] at h
  | k + 1 => by
    have ih0 := dam_EmptyingOf.mono_l k
    · intro y0 y1 y2 y3 y4 y5
      unfold dam_EmptyingOf.l0
      repeat' first
      | (with_reducible exact ih0 _ _ _ _ _ _)
      | (with_reducible exact dam_CheckBasin.mono _ _ _)
      | (with_reducible exact dam_first.mono _ _)
      | (with_reducible exact LeO.refl _)
      | (with_reducible exact LeO.none _)
      | (with_reducible refine LeO.ite ?_ ?_)
      | (with_reducible refine LeO.bind ?_ (fun _ => ?_))
      | exact ih0 _ _ _ _ _ _
      | exact dam_CheckBasin.mono _ _ _
      | exact dam_first.mono _ _
      | exact LeO.none _
      | refine LeO.ite ?_ ?_
      | refine LeO.bind ?_ (fun _ => ?_)
theorem dam_EmptyingOf.mono : ∀ a0 a1 a2 k, LeO (dam_EmptyingOf.f k a0 a1 a2) (dam_EmptyingOf.f (k + 1) a0 a1 a2) := by
  intro a0 a1 a2 k
  have ih0 := dam_EmptyingOf.mono_l k
  unfold dam_EmptyingOf.f
  repeat' first
      | (with_reducible exact ih0 _ _ _ _ _ _)
      | (with_reducible exact dam_CheckBasin.mono _ _ _)
      | (with_reducible exact dam_first.mono _ _)
      | (with_reducible exact LeO.refl _)
      | (with_reducible exact LeO.none _)
      | (with_reducible refine LeO.ite ?_ ?_)
      | (with_reducible refine LeO.bind ?_ (fun _ => ?_))
      | exact ih0 _ _ _ _ _ _
      | exact dam_CheckBasin.mono _ _ _
      | exact dam_first.mono _ _
      | exact LeO.none _
      | refine LeO.ite ?_ ?_
      | refine LeO.bind ?_ (fun _ => ?_)
set_option maxHeartbeats 8000000 in
set_option maxRecDepth 100000 in
theorem dam_EmptyingOf.calls (k : Nat) (A0_0 : Option Addr) (c0_0 : Nat) (l0_0 : List Int) (A0_1 : Option Addr) (c0_1 : Nat) (l0_1 : List Int) (a1 : Int) (r1 : Int) (r2 : Int) (w : World) (hr0_0 : Kd.C (Kd.int .i64) w A0_0 l0_0.length l0_0) (hc0_0 : l0_0.length ≤ c0_0) (hr0_1 : Kd.C (Kd.int .i64) w A0_1 l0_1.length l0_1) (hc0_1 : l0_1.length ≤ c0_1) (h : dam_EmptyingOf.f k l0_0 l0_1 a1 = some (r1, r2)) :
    Calls Try.prog 13 #[.agg #[.slice A0_0 l0_0.length c0_0, .slice A0_1 l0_1.length c0_1], .int .i64 a1] w fun e w' => e = .returned (.tuple #[.int .i64 r1, .int .i64 r2]) ∧ Below w.heap.size w w' := by
  have hu24 := Try.underlying24
  have HR0_0 := Aside0.mk hr0_0
  have HC0_0 := Aside0.mk hc0_0
  clear hr0_0 hc0_0
  have HR0_1 := Aside0.mk hr0_1
  have HC0_1 := Aside0.mk hc0_1
  clear hr0_1 hc0_1
  have HB := Aside0.mk (Below.refl w.heap.size w)
  have H : ((dam_CheckBasin.f k l0_0 l0_1).bind fun bt39002 => ((dam_within.f a1 0 (l0_0.length : Int)).bind fun t39004 => ((dam_unless.f t39004 2).bind fun t39005 => ((dam_first.f k (([bt39002.2, t39005] : List Int))).bind fun t39009 => (if t39009 = 0 then (if 0 ≤ a1 then (if a1 ≤ (l0_0.length : Int) then (dam_EmptyingOf.l0 k 0 (l0_0.take (a1 : Int).toNat) ((l0_0.take (a1 : Int).toNat).length : Int) 0 l0_0 l0_1) else (none)) else (none)) else (some (0, t39009))))))) = some (r1, r2) := h
  clear h
  replace H := Option.bind_eq_some_iff.mp H
  obtain ⟨⟨t39002, t39003⟩, A30, H⟩ := H
  replace H : ((dam_within.f a1 0 (l0_0.length : Int)).bind fun t39004 => ((dam_unless.f t39004 2).bind fun t39005 => ((dam_first.f k (([t39003, t39005] : List Int))).bind fun t39009 => (if t39009 = 0 then (if 0 ≤ a1 then (if a1 ≤ (l0_0.length : Int) then (dam_EmptyingOf.l0 k 0 (l0_0.take (a1 : Int).toNat) ((l0_0.take (a1 : Int).toNat).length : Int) 0 l0_0 l0_1) else (none)) else (none)) else (some (0, t39009)))))) = some (r1, r2) := H
  have A3 := Aside0.mk A30
  clear A30
  replace H := Option.bind_eq_some_iff.mp H
  obtain ⟨t39004, A40, H⟩ := H
  replace H : ((dam_unless.f t39004 2).bind fun t39005 => ((dam_first.f k (([t39003, t39005] : List Int))).bind fun t39009 => (if t39009 = 0 then (if 0 ≤ a1 then (if a1 ≤ (l0_0.length : Int) then (dam_EmptyingOf.l0 k 0 (l0_0.take (a1 : Int).toNat) ((l0_0.take (a1 : Int).toNat).length : Int) 0 l0_0 l0_1) else (none)) else (none)) else (some (0, t39009))))) = some (r1, r2) := H
  have A4 := Aside0.mk A40
  clear A40
  replace H := Option.bind_eq_some_iff.mp H
  obtain ⟨t39005, A50, H⟩ := H
  replace H : ((dam_first.f k (([t39003, t39005] : List Int))).bind fun t39009 => (if t39009 = 0 then (if 0 ≤ a1 then (if a1 ≤ (l0_0.length : Int) then (dam_EmptyingOf.l0 k 0 (l0_0.take (a1 : Int).toNat) ((l0_0.take (a1 : Int).toNat).length : Int) 0 l0_0 l0_1) else (none)) else (none)) else (some (0, t39009)))) = some (r1, r2) := H
  have A5 := Aside0.mk A50
  clear A50
  obtain ⟨y39006, hy39006⟩ : ∃ y_ : List Int, y_ = (([t39003, t39005] : List Int)) := ⟨_, rfl⟩
  replace H : ((dam_first.f k y39006).bind fun t39009 => (if t39009 = 0 then (if 0 ≤ a1 then (if a1 ≤ (l0_0.length : Int) then (dam_EmptyingOf.l0 k 0 (l0_0.take (a1 : Int).toNat) ((l0_0.take (a1 : Int).toNat).length : Int) 0 l0_0 l0_1) else (none)) else (none)) else (some (0, t39009)))) = some (r1, r2) := by first | (rw [hy39006]; with_reducible exact H) | (have H2_ := (Option.bind_some _ _).symm.trans H; rw [hy39006]; with_reducible exact H2_) | (have H2_ := (Option.bind_some _ _).symm.trans H; with_reducible exact H2_) | with_reducible exact H | (rw [hy39006]; exact H) | exact H
  have Ny39006 := Aside0.mk hy39006
  clear hy39006
  replace H := Option.bind_eq_some_iff.mp H
  obtain ⟨t39009, A60, H⟩ := H
  replace H : (if t39009 = 0 then (if 0 ≤ a1 then (if a1 ≤ (l0_0.length : Int) then (dam_EmptyingOf.l0 k 0 (l0_0.take (a1 : Int).toNat) ((l0_0.take (a1 : Int).toNat).length : Int) 0 l0_0 l0_1) else (none)) else (none)) else (some (0, t39009))) = some (r1, r2) := H
  have A6 := Aside0.mk A60
  clear A60
  by_cases c7 : t39009 = 0
  · rw [if_pos c7] at H
    have c7b0 : (t39009 == 0) = true := beq_iff_eq.mpr c7
    have c7b1 : (t39009 != 0) = false := bne_eq_false_iff_eq.mpr c7
    clear c7
    by_cases c8 : 0 ≤ a1
    · rw [if_pos c8] at H
      have c8b0 := eq_true c8
      have c8b1 : decide (0 ≤ a1) = true := decide_eq_true c8
      clear c8
      by_cases c9 : a1 ≤ (l0_0.length : Int)
      · rw [if_pos c9] at H
        have c9b0 := eq_true c9
        have c9b1 : decide (a1 ≤ (l0_0.length : Int)) = true := decide_eq_true c9
        clear c9
        have H' := Aside0.mk H
        clear H
        go_enter Try.func13, Try.ntmps13
        go_wp2_with (first | ((with_reducible refine gate_dst (N := 2) rfl ?_); refine box_event ?hg (N := 2) ?hd (cs := #[.slice A0_0 l0_0.length c0_0, .slice A0_1 l0_1.length c0_1]) (t := 24) ?hr ?_; (case hd => rfl); (case hg => rfl); (case hr => first | (go_simp; done) | (go_simp; rfl)); intro gb39001 hg w10 hbox hb; have n0_ := Aside0.mk (below_step (by repeat (first | (with_reducible first | exact HB.out | apply below_alloc | apply pw_below_drewN | apply below_drew1) | exact HB.out)) hb); have n1_ := Aside0.mk (hbox); have n2_ := Aside0.mk ((by rw [hg]; exact (below_size (by repeat (first | (with_reducible first | exact HB.out | apply below_alloc | apply pw_below_drewN | apply below_drew1) | exact HB.out))) : w.heap.size ≤ gb39001)); have n3_ := Aside0.mk ((by rw [hg]; exact (below_size (by repeat (first | (with_reducible first | exact HB.out | apply below_alloc | apply pw_below_drewN | apply below_drew1) | exact HB.out))) : w.heap.size ≤ gb39001)); clear HB; have HB := n0_; have BK39001 := n1_; have GW39001 := n2_; have GE39001 := n3_; clear n0_ n1_ n2_ n3_; clear hb hbox hg; have hcz11_0 : w10.cell? ⟨gb39001, 0, none⟩ = some (.slice A0_0 l0_0.length c0_0) := (blk_cell BK39001.out 0).trans rfl; have hcz11_1 : w10.cell? ⟨gb39001, 1, none⟩ = some (.slice A0_1 l0_1.length c0_1) := (blk_cell BK39001.out 1).trans rfl; have hfz11_0 := blk_frozen BK39001.out 0; have hfz11_1 := blk_frozen BK39001.out 1) | (go_at_call 11; (with_reducible refine (dam_CheckBasin.calls k _ _ l0_0 _ _ l0_1 t39002 t39003 _ ?side1 ?side2 ?side3 ?side4 A3.out).mono ?_); (case side1 => repeat (first | exact (Kd.C_below HR0_0.out HB.out) | (with_reducible refine Kd.C_alloc ?_ _) | (with_reducible refine Kd.C_drewN ?_ _) | (with_reducible refine Kd.C_drew ?_))); (case side2 => exact HC0_0.out); (case side3 => repeat (first | exact (Kd.C_below HR0_1.out HB.out) | (with_reducible refine Kd.C_alloc ?_ _) | (with_reducible refine Kd.C_drewN ?_ _) | (with_reducible refine Kd.C_drew ?_))); (case side4 => exact HC0_1.out); rintro e w12 ⟨rfl, hb⟩; have n0_ := Aside0.mk (blk_below (g := gb39001) (o := .cells #[.slice A0_0 l0_0.length c0_0, .slice A0_1 l0_1.length c0_1] 24 (0, 0)) (by (with_reducible repeat (first | refine blk_drewN ?_ _ | refine blk_drew ?_ | refine blk_alloc ?_ _)); exact BK39001.out) hb); have n1_ := Aside0.mk (below_step (by repeat (first | (with_reducible first | exact HB.out | apply below_alloc | apply pw_below_drewN | apply below_drew1 | refine below_set ?_ GE39001.out) | exact HB.out)) hb); clear BK39001; clear HB; have BK39001 := n0_; have HB := n1_; clear n0_ n1_; (try clear hb); (try clear hb2); (try clear hk); (try clear hi); have hcz13_0 : w12.cell? ⟨gb39001, 0, none⟩ = some (.slice A0_0 l0_0.length c0_0) := (blk_cell BK39001.out 0).trans rfl; have hcz13_1 : w12.cell? ⟨gb39001, 1, none⟩ = some (.slice A0_1 l0_1.length c0_1) := (blk_cell BK39001.out 1).trans rfl; have hfz13_0 := blk_frozen BK39001.out 0; have hfz13_1 := blk_frozen BK39001.out 1) | (go_at_call 65; (with_reducible refine (dam_within.calls a1 0 (l0_0.length : Int) t39004 _ A4.out).mono ?_); rintro e w' ⟨rfl, ⟨nd, rfl⟩⟩; (try first | exact ⟨rfl, _, World.drewN_drewN _ _ _⟩ | exact ⟨rfl, _, Eq.trans (World.drewN_drewN _ _ _) (congrArg (World.drewN _) (Nat.add_assoc _ _ _))⟩)) | (go_at_call 64; (with_reducible refine (dam_unless.calls t39004 2 t39005 _ A5.out).mono ?_); rintro e w' ⟨rfl, ⟨nd, rfl⟩⟩; (try first | exact ⟨rfl, _, World.drewN_drewN _ _ _⟩ | exact ⟨rfl, _, Eq.trans (World.drewN_drewN _ _ _) (congrArg (World.drewN _) (Nat.add_assoc _ _ _))⟩)) | ((with_reducible refine gate_dst (N := 23) rfl ?_); refine Kd.R_lit (Kd.int .i64) _ 26 ?hg (N := 23) ?hd (xs := ([t39003, t39005] : List Int)) (inner := [.int .i64 t39003, .int .i64 t39005]) (ok := fun _ => True) (okp := fun _ => True) ?hr ?hp (fun _ hk => hk) trivial (Below.refl _ _) (Nat.le_refl _) (by simp) ?_; (case hd => rfl); (case hg => rfl); (case hr => first | (go_simp; done) | (go_simp; rfl)); (case hp => exact (Reps.one (show Kd.M (Kd.int .i64) _ _ _ t39003 [.int .i64 t39003] from rfl) (Reps.one (show Kd.M (Kd.int .i64) _ _ _ t39005 [.int .i64 t39005] from rfl) (Reps.none _ _)))); intro v39007 w14 ho15 hb hg_ hnew_; clear hg_ hnew_; (first | rw [← Ny39006.out] at ho15 | (simp only [Int.reduceToNat] at ho15; rw [← Ny39006.out] at ho15)); have n0_ := Aside0.mk (Kd.R_lower ho15 (below_size (by repeat (first | (with_reducible first | exact HB.out | apply below_alloc | apply pw_below_drewN | apply below_drew1 | refine below_set ?_ GE39001.out) | exact HB.out)))); have n1_ := Aside0.mk (blk_below (g := gb39001) (o := .cells #[.slice A0_0 l0_0.length c0_0, .slice A0_1 l0_1.length c0_1] 24 (0, 0)) (by (with_reducible repeat (first | refine blk_drewN ?_ _ | refine blk_drew ?_ | refine blk_alloc ?_ _)); exact BK39001.out) hb); have n2_ := Aside0.mk (below_step (by repeat (first | (with_reducible first | exact HB.out | apply below_alloc | apply pw_below_drewN | apply below_drew1 | refine below_set ?_ GE39001.out) | exact HB.out)) hb); clear BK39001; clear HB; have HO39008 := n0_; have BK39001 := n1_; have HB := n2_; clear n0_ n1_ n2_; clear hb ho15; obtain ⟨Ao16, co16, eo16⟩ := Kd.R_slice HO39008.out; subst eo16) | (go_at_call 63; (with_reducible refine (dam_first.calls k _ _ y39006 t39009 _ ?side1 ?side2 A6.out).mono ?_); (case side1 => repeat (first | exact (Kd.R_reads' HO39008.out).2.2 | (with_reducible refine Kd.C_alloc ?_ _) | (with_reducible refine Kd.C_drewN ?_ _) | (with_reducible refine Kd.C_drew ?_))); (case side2 => exact (Kd.R_reads' HO39008.out).2.1); rintro e w' ⟨rfl, ⟨nd, rfl⟩⟩; (try first | exact ⟨rfl, _, World.drewN_drewN _ _ _⟩ | exact ⟨rfl, _, Eq.trans (World.drewN_drewN _ _ _) (congrArg (World.drewN _) (Nat.add_assoc _ _ _))⟩); have hcz17_0 : w14.cell? ⟨gb39001, 0, none⟩ = some (.slice A0_0 l0_0.length c0_0) := (blk_cell BK39001.out 0).trans rfl; have hcz17_1 : w14.cell? ⟨gb39001, 1, none⟩ = some (.slice A0_1 l0_1.length c0_1) := (blk_cell BK39001.out 1).trans rfl; have hfz17_0 := blk_frozen BK39001.out 0; have hfz17_1 := blk_frozen BK39001.out 1; obtain ⟨i018, hi018, _, hsz18, _⟩ := info_parts info3; obtain ⟨hcut18, hA18, hC18⟩ := print_take_of (P := Try.prog) (Value.int .i64) 0 22 3 .i64 Try.underlying22 hi018 hsz18 A0_0 c0_0 l0_0 a1 (of_decide_eq_true (by first | (with_reducible assumption) | assumption)) (of_decide_eq_true (by first | (with_reducible assumption) | assumption)) HC0_0.out; have HR39010 := Aside0.mk (Kd.C_of_reads (h1 := fun _ => rfl) (hA18 _ (Kd.reads_of_C HR0_0.out))); have HC39010 := Aside0.mk hC18; clear hA18 hC18 hi018 hsz18))
        repeat (go_quiet (first | ((with_reducible refine gate_dst (N := 2) rfl ?_); refine box_event ?hg (N := 2) ?hd (cs := #[.slice A0_0 l0_0.length c0_0, .slice A0_1 l0_1.length c0_1]) (t := 24) ?hr ?_; (case hd => rfl); (case hg => rfl); (case hr => first | (go_simp; done) | (go_simp; rfl)); intro gb39001 hg w10 hbox hb; have n0_ := Aside0.mk (below_step (by repeat (first | (with_reducible first | exact HB.out | apply below_alloc | apply pw_below_drewN | apply below_drew1) | exact HB.out)) hb); have n1_ := Aside0.mk (hbox); have n2_ := Aside0.mk ((by rw [hg]; exact (below_size (by repeat (first | (with_reducible first | exact HB.out | apply below_alloc | apply pw_below_drewN | apply below_drew1) | exact HB.out))) : w.heap.size ≤ gb39001)); have n3_ := Aside0.mk ((by rw [hg]; exact (below_size (by repeat (first | (with_reducible first | exact HB.out | apply below_alloc | apply pw_below_drewN | apply below_drew1) | exact HB.out))) : w.heap.size ≤ gb39001)); clear HB; have HB := n0_; have BK39001 := n1_; have GW39001 := n2_; have GE39001 := n3_; clear n0_ n1_ n2_ n3_; clear hb hbox hg; have hcz11_0 : w10.cell? ⟨gb39001, 0, none⟩ = some (.slice A0_0 l0_0.length c0_0) := (blk_cell BK39001.out 0).trans rfl; have hcz11_1 : w10.cell? ⟨gb39001, 1, none⟩ = some (.slice A0_1 l0_1.length c0_1) := (blk_cell BK39001.out 1).trans rfl; have hfz11_0 := blk_frozen BK39001.out 0; have hfz11_1 := blk_frozen BK39001.out 1) | (go_at_call 11; (with_reducible refine (dam_CheckBasin.calls k _ _ l0_0 _ _ l0_1 t39002 t39003 _ ?side1 ?side2 ?side3 ?side4 A3.out).mono ?_); (case side1 => repeat (first | exact (Kd.C_below HR0_0.out HB.out) | (with_reducible refine Kd.C_alloc ?_ _) | (with_reducible refine Kd.C_drewN ?_ _) | (with_reducible refine Kd.C_drew ?_))); (case side2 => exact HC0_0.out); (case side3 => repeat (first | exact (Kd.C_below HR0_1.out HB.out) | (with_reducible refine Kd.C_alloc ?_ _) | (with_reducible refine Kd.C_drewN ?_ _) | (with_reducible refine Kd.C_drew ?_))); (case side4 => exact HC0_1.out); rintro e w12 ⟨rfl, hb⟩; have n0_ := Aside0.mk (blk_below (g := gb39001) (o := .cells #[.slice A0_0 l0_0.length c0_0, .slice A0_1 l0_1.length c0_1] 24 (0, 0)) (by (with_reducible repeat (first | refine blk_drewN ?_ _ | refine blk_drew ?_ | refine blk_alloc ?_ _)); exact BK39001.out) hb); have n1_ := Aside0.mk (below_step (by repeat (first | (with_reducible first | exact HB.out | apply below_alloc | apply pw_below_drewN | apply below_drew1 | refine below_set ?_ GE39001.out) | exact HB.out)) hb); clear BK39001; clear HB; have BK39001 := n0_; have HB := n1_; clear n0_ n1_; (try clear hb); (try clear hb2); (try clear hk); (try clear hi); have hcz13_0 : w12.cell? ⟨gb39001, 0, none⟩ = some (.slice A0_0 l0_0.length c0_0) := (blk_cell BK39001.out 0).trans rfl; have hcz13_1 : w12.cell? ⟨gb39001, 1, none⟩ = some (.slice A0_1 l0_1.length c0_1) := (blk_cell BK39001.out 1).trans rfl; have hfz13_0 := blk_frozen BK39001.out 0; have hfz13_1 := blk_frozen BK39001.out 1) | (go_at_call 65; (with_reducible refine (dam_within.calls a1 0 (l0_0.length : Int) t39004 _ A4.out).mono ?_); rintro e w' ⟨rfl, ⟨nd, rfl⟩⟩; (try first | exact ⟨rfl, _, World.drewN_drewN _ _ _⟩ | exact ⟨rfl, _, Eq.trans (World.drewN_drewN _ _ _) (congrArg (World.drewN _) (Nat.add_assoc _ _ _))⟩)) | (go_at_call 64; (with_reducible refine (dam_unless.calls t39004 2 t39005 _ A5.out).mono ?_); rintro e w' ⟨rfl, ⟨nd, rfl⟩⟩; (try first | exact ⟨rfl, _, World.drewN_drewN _ _ _⟩ | exact ⟨rfl, _, Eq.trans (World.drewN_drewN _ _ _) (congrArg (World.drewN _) (Nat.add_assoc _ _ _))⟩)) | ((with_reducible refine gate_dst (N := 23) rfl ?_); refine Kd.R_lit (Kd.int .i64) _ 26 ?hg (N := 23) ?hd (xs := ([t39003, t39005] : List Int)) (inner := [.int .i64 t39003, .int .i64 t39005]) (ok := fun _ => True) (okp := fun _ => True) ?hr ?hp (fun _ hk => hk) trivial (Below.refl _ _) (Nat.le_refl _) (by simp) ?_; (case hd => rfl); (case hg => rfl); (case hr => first | (go_simp; done) | (go_simp; rfl)); (case hp => exact (Reps.one (show Kd.M (Kd.int .i64) _ _ _ t39003 [.int .i64 t39003] from rfl) (Reps.one (show Kd.M (Kd.int .i64) _ _ _ t39005 [.int .i64 t39005] from rfl) (Reps.none _ _)))); intro v39007 w14 ho15 hb hg_ hnew_; clear hg_ hnew_; (first | rw [← Ny39006.out] at ho15 | (simp only [Int.reduceToNat] at ho15; rw [← Ny39006.out] at ho15)); have n0_ := Aside0.mk (Kd.R_lower ho15 (below_size (by repeat (first | (with_reducible first | exact HB.out | apply below_alloc | apply pw_below_drewN | apply below_drew1 | refine below_set ?_ GE39001.out) | exact HB.out)))); have n1_ := Aside0.mk (blk_below (g := gb39001) (o := .cells #[.slice A0_0 l0_0.length c0_0, .slice A0_1 l0_1.length c0_1] 24 (0, 0)) (by (with_reducible repeat (first | refine blk_drewN ?_ _ | refine blk_drew ?_ | refine blk_alloc ?_ _)); exact BK39001.out) hb); have n2_ := Aside0.mk (below_step (by repeat (first | (with_reducible first | exact HB.out | apply below_alloc | apply pw_below_drewN | apply below_drew1 | refine below_set ?_ GE39001.out) | exact HB.out)) hb); clear BK39001; clear HB; have HO39008 := n0_; have BK39001 := n1_; have HB := n2_; clear n0_ n1_ n2_; clear hb ho15; obtain ⟨Ao16, co16, eo16⟩ := Kd.R_slice HO39008.out; subst eo16) | (go_at_call 63; (with_reducible refine (dam_first.calls k _ _ y39006 t39009 _ ?side1 ?side2 A6.out).mono ?_); (case side1 => repeat (first | exact (Kd.R_reads' HO39008.out).2.2 | (with_reducible refine Kd.C_alloc ?_ _) | (with_reducible refine Kd.C_drewN ?_ _) | (with_reducible refine Kd.C_drew ?_))); (case side2 => exact (Kd.R_reads' HO39008.out).2.1); rintro e w' ⟨rfl, ⟨nd, rfl⟩⟩; (try first | exact ⟨rfl, _, World.drewN_drewN _ _ _⟩ | exact ⟨rfl, _, Eq.trans (World.drewN_drewN _ _ _) (congrArg (World.drewN _) (Nat.add_assoc _ _ _))⟩); have hcz17_0 : w14.cell? ⟨gb39001, 0, none⟩ = some (.slice A0_0 l0_0.length c0_0) := (blk_cell BK39001.out 0).trans rfl; have hcz17_1 : w14.cell? ⟨gb39001, 1, none⟩ = some (.slice A0_1 l0_1.length c0_1) := (blk_cell BK39001.out 1).trans rfl; have hfz17_0 := blk_frozen BK39001.out 0; have hfz17_1 := blk_frozen BK39001.out 1; obtain ⟨i018, hi018, _, hsz18, _⟩ := info_parts info3; obtain ⟨hcut18, hA18, hC18⟩ := print_take_of (P := Try.prog) (Value.int .i64) 0 22 3 .i64 Try.underlying22 hi018 hsz18 A0_0 c0_0 l0_0 a1 (of_decide_eq_true (by first | (with_reducible assumption) | assumption)) (of_decide_eq_true (by first | (with_reducible assumption) | assumption)) HC0_0.out; have HR39010 := Aside0.mk (Kd.C_of_reads (h1 := fun _ => rfl) (hA18 _ (Kd.reads_of_C HR0_0.out))); have HC39010 := Aside0.mk hC18; clear hA18 hC18 hi018 hsz18)); try go_wp2_with (first | ((with_reducible refine gate_dst (N := 2) rfl ?_); refine box_event ?hg (N := 2) ?hd (cs := #[.slice A0_0 l0_0.length c0_0, .slice A0_1 l0_1.length c0_1]) (t := 24) ?hr ?_; (case hd => rfl); (case hg => rfl); (case hr => first | (go_simp; done) | (go_simp; rfl)); intro gb39001 hg w10 hbox hb; have n0_ := Aside0.mk (below_step (by repeat (first | (with_reducible first | exact HB.out | apply below_alloc | apply pw_below_drewN | apply below_drew1) | exact HB.out)) hb); have n1_ := Aside0.mk (hbox); have n2_ := Aside0.mk ((by rw [hg]; exact (below_size (by repeat (first | (with_reducible first | exact HB.out | apply below_alloc | apply pw_below_drewN | apply below_drew1) | exact HB.out))) : w.heap.size ≤ gb39001)); have n3_ := Aside0.mk ((by rw [hg]; exact (below_size (by repeat (first | (with_reducible first | exact HB.out | apply below_alloc | apply pw_below_drewN | apply below_drew1) | exact HB.out))) : w.heap.size ≤ gb39001)); clear HB; have HB := n0_; have BK39001 := n1_; have GW39001 := n2_; have GE39001 := n3_; clear n0_ n1_ n2_ n3_; clear hb hbox hg; have hcz11_0 : w10.cell? ⟨gb39001, 0, none⟩ = some (.slice A0_0 l0_0.length c0_0) := (blk_cell BK39001.out 0).trans rfl; have hcz11_1 : w10.cell? ⟨gb39001, 1, none⟩ = some (.slice A0_1 l0_1.length c0_1) := (blk_cell BK39001.out 1).trans rfl; have hfz11_0 := blk_frozen BK39001.out 0; have hfz11_1 := blk_frozen BK39001.out 1) | (go_at_call 11; (with_reducible refine (dam_CheckBasin.calls k _ _ l0_0 _ _ l0_1 t39002 t39003 _ ?side1 ?side2 ?side3 ?side4 A3.out).mono ?_); (case side1 => repeat (first | exact (Kd.C_below HR0_0.out HB.out) | (with_reducible refine Kd.C_alloc ?_ _) | (with_reducible refine Kd.C_drewN ?_ _) | (with_reducible refine Kd.C_drew ?_))); (case side2 => exact HC0_0.out); (case side3 => repeat (first | exact (Kd.C_below HR0_1.out HB.out) | (with_reducible refine Kd.C_alloc ?_ _) | (with_reducible refine Kd.C_drewN ?_ _) | (with_reducible refine Kd.C_drew ?_))); (case side4 => exact HC0_1.out); rintro e w12 ⟨rfl, hb⟩; have n0_ := Aside0.mk (blk_below (g := gb39001) (o := .cells #[.slice A0_0 l0_0.length c0_0, .slice A0_1 l0_1.length c0_1] 24 (0, 0)) (by (with_reducible repeat (first | refine blk_drewN ?_ _ | refine blk_drew ?_ | refine blk_alloc ?_ _)); exact BK39001.out) hb); have n1_ := Aside0.mk (below_step (by repeat (first | (with_reducible first | exact HB.out | apply below_alloc | apply pw_below_drewN | apply below_drew1 | refine below_set ?_ GE39001.out) | exact HB.out)) hb); clear BK39001; clear HB; have BK39001 := n0_; have HB := n1_; clear n0_ n1_; (try clear hb); (try clear hb2); (try clear hk); (try clear hi); have hcz13_0 : w12.cell? ⟨gb39001, 0, none⟩ = some (.slice A0_0 l0_0.length c0_0) := (blk_cell BK39001.out 0).trans rfl; have hcz13_1 : w12.cell? ⟨gb39001, 1, none⟩ = some (.slice A0_1 l0_1.length c0_1) := (blk_cell BK39001.out 1).trans rfl; have hfz13_0 := blk_frozen BK39001.out 0; have hfz13_1 := blk_frozen BK39001.out 1) | (go_at_call 65; (with_reducible refine (dam_within.calls a1 0 (l0_0.length : Int) t39004 _ A4.out).mono ?_); rintro e w' ⟨rfl, ⟨nd, rfl⟩⟩; (try first | exact ⟨rfl, _, World.drewN_drewN _ _ _⟩ | exact ⟨rfl, _, Eq.trans (World.drewN_drewN _ _ _) (congrArg (World.drewN _) (Nat.add_assoc _ _ _))⟩)) | (go_at_call 64; (with_reducible refine (dam_unless.calls t39004 2 t39005 _ A5.out).mono ?_); rintro e w' ⟨rfl, ⟨nd, rfl⟩⟩; (try first | exact ⟨rfl, _, World.drewN_drewN _ _ _⟩ | exact ⟨rfl, _, Eq.trans (World.drewN_drewN _ _ _) (congrArg (World.drewN _) (Nat.add_assoc _ _ _))⟩)) | ((with_reducible refine gate_dst (N := 23) rfl ?_); refine Kd.R_lit (Kd.int .i64) _ 26 ?hg (N := 23) ?hd (xs := ([t39003, t39005] : List Int)) (inner := [.int .i64 t39003, .int .i64 t39005]) (ok := fun _ => True) (okp := fun _ => True) ?hr ?hp (fun _ hk => hk) trivial (Below.refl _ _) (Nat.le_refl _) (by simp) ?_; (case hd => rfl); (case hg => rfl); (case hr => first | (go_simp; done) | (go_simp; rfl)); (case hp => exact (Reps.one (show Kd.M (Kd.int .i64) _ _ _ t39003 [.int .i64 t39003] from rfl) (Reps.one (show Kd.M (Kd.int .i64) _ _ _ t39005 [.int .i64 t39005] from rfl) (Reps.none _ _)))); intro v39007 w14 ho15 hb hg_ hnew_; clear hg_ hnew_; (first | rw [← Ny39006.out] at ho15 | (simp only [Int.reduceToNat] at ho15; rw [← Ny39006.out] at ho15)); have n0_ := Aside0.mk (Kd.R_lower ho15 (below_size (by repeat (first | (with_reducible first | exact HB.out | apply below_alloc | apply pw_below_drewN | apply below_drew1 | refine below_set ?_ GE39001.out) | exact HB.out)))); have n1_ := Aside0.mk (blk_below (g := gb39001) (o := .cells #[.slice A0_0 l0_0.length c0_0, .slice A0_1 l0_1.length c0_1] 24 (0, 0)) (by (with_reducible repeat (first | refine blk_drewN ?_ _ | refine blk_drew ?_ | refine blk_alloc ?_ _)); exact BK39001.out) hb); have n2_ := Aside0.mk (below_step (by repeat (first | (with_reducible first | exact HB.out | apply below_alloc | apply pw_below_drewN | apply below_drew1 | refine below_set ?_ GE39001.out) | exact HB.out)) hb); clear BK39001; clear HB; have HO39008 := n0_; have BK39001 := n1_; have HB := n2_; clear n0_ n1_ n2_; clear hb ho15; obtain ⟨Ao16, co16, eo16⟩ := Kd.R_slice HO39008.out; subst eo16) | (go_at_call 63; (with_reducible refine (dam_first.calls k _ _ y39006 t39009 _ ?side1 ?side2 A6.out).mono ?_); (case side1 => repeat (first | exact (Kd.R_reads' HO39008.out).2.2 | (with_reducible refine Kd.C_alloc ?_ _) | (with_reducible refine Kd.C_drewN ?_ _) | (with_reducible refine Kd.C_drew ?_))); (case side2 => exact (Kd.R_reads' HO39008.out).2.1); rintro e w' ⟨rfl, ⟨nd, rfl⟩⟩; (try first | exact ⟨rfl, _, World.drewN_drewN _ _ _⟩ | exact ⟨rfl, _, Eq.trans (World.drewN_drewN _ _ _) (congrArg (World.drewN _) (Nat.add_assoc _ _ _))⟩); have hcz17_0 : w14.cell? ⟨gb39001, 0, none⟩ = some (.slice A0_0 l0_0.length c0_0) := (blk_cell BK39001.out 0).trans rfl; have hcz17_1 : w14.cell? ⟨gb39001, 1, none⟩ = some (.slice A0_1 l0_1.length c0_1) := (blk_cell BK39001.out 1).trans rfl; have hfz17_0 := blk_frozen BK39001.out 0; have hfz17_1 := blk_frozen BK39001.out 1; obtain ⟨i018, hi018, _, hsz18, _⟩ := info_parts info3; obtain ⟨hcut18, hA18, hC18⟩ := print_take_of (P := Try.prog) (Value.int .i64) 0 22 3 .i64 Try.underlying22 hi018 hsz18 A0_0 c0_0 l0_0 a1 (of_decide_eq_true (by first | (with_reducible assumption) | assumption)) (of_decide_eq_true (by first | (with_reducible assumption) | assumption)) HC0_0.out; have HR39010 := Aside0.mk (Kd.C_of_reads (h1 := fun _ => rfl) (hA18 _ (Kd.reads_of_C HR0_0.out))); have HC39010 := Aside0.mk hC18; clear hA18 hC18 hi018 hsz18)))
        go_loopg [8, 33] k (fun kq v8 v33 w' => ∃ (x8_1 : Int) (x33_1 : Int), v8 = .int .i64 x8_1 ∧ v33 = .int .i64 x33_1 ∧ Aside0 (dam_EmptyingOf.l0 kq x8_1 (l0_0.take (a1 : Int).toNat) ((l0_0.take (a1 : Int).toNat).length : Int) x33_1 l0_0 l0_1 = some (r1, r2)) ∧ Aside0 (kq ≤ k) ∧ Aside0 (w'.heap[gb39001]? = some (.cells #[(.slice A0_0 l0_0.length c0_0), (.slice A0_1 l0_1.length c0_1)] 24 (0, 0))) ∧ Aside0 (Below w.heap.size w w'))
        case atStart => exact ⟨(0), (0), (by first | rfl | (simp; done) | (simp [*]; done)), (by first | rfl | (simp; done) | (simp [*]; done)), H', ⟨Nat.le_refl _⟩, ⟨by (with_reducible repeat (first | refine blk_drewN ?_ _ | refine blk_drew ?_ | refine blk_alloc ?_ _)); exact BK39001.out⟩, ⟨by repeat (first | (with_reducible first | exact HB.out | apply below_alloc | apply pw_below_drewN | apply below_drew1 | refine below_set ?_ GE39001.out) | exact HB.out)⟩⟩
        case round =>
          clear H'
          try clear c1
          try clear p2
          try clear c7
          try clear c7b0
          try clear c7b1
          try clear c13
          try clear hcz11_0
          try clear hcz11_1
          try clear hcz13_0
          try clear hcz13_1
          try clear hcz17_0
          try clear hcz17_1
          try clear hfz11_0
          try clear hfz11_1
          try clear hfz13_0
          try clear hfz13_1
          try clear hfz17_0
          try clear hfz17_1
          obtain ⟨x8_1, x33_1, rfl, rfl, HA, HK1, BK39001, HB⟩ := hrel
          cases gk with
          | zero => exact absurd HA.out (by simp [dam_EmptyingOf.l0])
          | succ k1 =>
            have H := HA.out
            clear HA
            simp only [dam_EmptyingOf.l0] at H
            by_cases c19 : x33_1 < ((l0_0.take (a1 : Int).toNat).length : Int)
            · rw [if_pos c19] at H
              have c19b0 : decide (x33_1 < ((l0_0.take (a1 : Int).toNat).length : Int)) = true := decide_eq_true c19
              have c19b9 : decide (x33_1 < max a1 0) = true := by (have h8_ := of_eq_true c8b0; have h9_ := of_eq_true c9b0; have hl_ := c19; simp only [List.length_take] at hl_; exact decide_eq_true (by omega))
              have c19b8 : (x33_1 < max a1 0) = True := eq_true (of_decide_eq_true c19b9)
              clear c19
              by_cases c20 : 0 ≤ x33_1
              · rw [if_pos c20] at H
                have c20b0 : decide (0 ≤ x33_1) = true := decide_eq_true c20
                clear c20
                by_cases c21 : x33_1 < ((l0_0.take (a1 : Int).toNat).length : Int)
                · rw [if_pos c21] at H
                  have c21b0 : decide (x33_1 < ((l0_0.take (a1 : Int).toNat).length : Int)) = true := decide_eq_true c21
                  have c21b9 : decide (x33_1 < max a1 0) = true := by (have h8_ := of_eq_true c8b0; have h9_ := of_eq_true c9b0; have hl_ := c21; simp only [List.length_take] at hl_; exact decide_eq_true (by omega))
                  have c21b8 : (x33_1 < max a1 0) = True := eq_true (of_decide_eq_true c21b9)
                  clear c21
                  by_cases c22 : x33_1 < (l0_1.length : Int)
                  · rw [if_pos c22] at H
                    have c22b0 : decide (x33_1 < (l0_1.length : Int)) = true := decide_eq_true c22
                    clear c22
                    by_cases c23 : (rd l0_1 x33_1) = 0
                    · rw [if_pos c23] at H
                      exact absurd H (by simp)
                    · rw [if_neg c23] at H
                      have c23b0 : ((rd l0_1 x33_1) == 0) = false := beq_eq_false_iff_ne.mpr c23
                      have c23b1 : ((rd l0_1 x33_1) != 0) = true := bne_iff_ne.mpr c23
                      have H' := Aside0.mk H
                      clear H
                      have p39011 : 0 ≤ (x33_1 : Int) := of_decide_eq_true (by first | (with_reducible assumption) | assumption)
                      have q39011 : x33_1 < ((l0_0.take (a1 : Int).toNat).length : Int) := of_decide_eq_true (by first | (with_reducible assumption) | assumption)
                      obtain ⟨ad39011, e39011, hx39011_0⟩ := Kd.at_int HR39010.out x33_1 p39011 q39011
                      cases e39011
                      replace hx39011_0 := (HB.out.cell (World.block_lt_of_cell? w _ hx39011_0)).trans hx39011_0
                      replace p39011 := eq_true p39011
                      replace q39011 := eq_true q39011
                      have hcz24_0 : wr.cell? ⟨gb39001, 0, none⟩ = some (.slice (some ad39011) l0_0.length c0_0) := (blk_cell BK39001.out 0).trans rfl
                      have hcz24_1 : wr.cell? ⟨gb39001, 1, none⟩ = some (.slice A0_1 l0_1.length c0_1) := (blk_cell BK39001.out 1).trans rfl
                      have hfz24_0 := blk_frozen BK39001.out 0
                      have hfz24_1 := blk_frozen BK39001.out 1
                      have p39012 : 0 ≤ (x33_1 : Int) := of_decide_eq_true (by first | (with_reducible assumption) | assumption)
                      have q39012 : x33_1 < (l0_1.length : Int) := of_decide_eq_true (by first | (with_reducible assumption) | assumption)
                      obtain ⟨ad39012, e39012, hx39012_0⟩ := Kd.at_int HR0_1.out x33_1 p39012 q39012
                      cases e39012
                      replace hx39012_0 := (HB.out.cell (World.block_lt_of_cell? w _ hx39012_0)).trans hx39012_0
                      replace p39012 := eq_true p39012
                      replace q39012 := eq_true q39012
                      have p39013 : 0 ≤ (x33_1 : Int) := of_decide_eq_true (by first | (with_reducible assumption) | assumption)
                      have q39013 : x33_1 < (l0_1.length : Int) := of_decide_eq_true (by first | (with_reducible assumption) | assumption)
                      obtain ⟨ad39013, e39013, hx39013_0⟩ := Kd.at_int HR0_1.out x33_1 p39013 q39013
                      obtain rfl : ad39012 = ad39013 := (by injection e39013)
                      replace hx39013_0 := (HB.out.cell (World.block_lt_of_cell? w _ hx39013_0)).trans hx39013_0
                      replace p39013 := eq_true p39013
                      replace q39013 := eq_true q39013
                      go_wp2
                      repeat (go_quiet (fail); try go_wp2)
                      go_roundg k1
                      case measure => have := HK1.out; omega
                      case rel => exact ⟨(wrap64 (x8_1 + (wrap64 (Int.tdiv (wrap64 ((wrap64 ((rd (l0_0.take (a1 : Int).toNat) x33_1) + (rd l0_1 x33_1))) - 1)) (rd l0_1 x33_1))))), (wrap64 (x33_1 + 1)), (by first | rfl | (simp; done) | (simp [*]; done)), (by first | rfl | (simp; done) | (simp [*]; done)), H', ⟨by have := HK1.out; omega⟩, ⟨by (with_reducible repeat (first | refine blk_drewN ?_ _ | refine blk_drew ?_ | refine blk_alloc ?_ _)); exact BK39001.out⟩, ⟨by repeat (first | (with_reducible first | exact HB.out | apply below_alloc | apply pw_below_drewN | apply below_drew1 | refine below_set ?_ GE39001.out) | exact HB.out)⟩⟩
                  · rw [if_neg c22] at H
                    exact absurd H (by simp)
                · rw [if_neg c21] at H
                  exact absurd H (by simp)
              · rw [if_neg c20] at H
                exact absurd H (by simp)
            · rw [if_neg c19] at H
              have c19b0 : decide (x33_1 < ((l0_0.take (a1 : Int).toNat).length : Int)) = false := decide_eq_false c19
              have c19b9 : decide (x33_1 < max a1 0) = false := by (have h8_ := of_eq_true c8b0; have h9_ := of_eq_true c9b0; have hl_ := c19; simp only [List.length_take] at hl_; exact decide_eq_false (by omega))
              clear c19
              simp only [Option.some.injEq, Prod.mk.injEq] at H
              obtain ⟨rfl, rfl⟩ := H
              go_wp2
              repeat (go_quiet (fail); try go_wp2)
              go_ret2
              exact ⟨by first | rfl | (simp [errW_none, errW_some] <;> rfl) | (simp [*, errW_none, errW_some] <;> rfl), by repeat (first | (with_reducible first | exact HB.out | apply below_alloc | apply pw_below_drewN | apply below_drew1 | refine below_set ?_ GE39001.out) | exact HB.out)⟩
      · rw [if_neg c9] at H
        exact absurd H (by simp)
    · rw [if_neg c8] at H
      exact absurd H (by simp)
  · rw [if_neg c7] at H
    have c7b0 : (t39009 == 0) = false := beq_eq_false_iff_ne.mpr c7
    have c7b1 : (t39009 != 0) = true := bne_iff_ne.mpr c7
    simp only [Option.some.injEq, Prod.mk.injEq] at H
    obtain ⟨rfl, rfl⟩ := H
    go_enter Try.func13, Try.ntmps13
    go_wp2_with (first | ((with_reducible refine gate_dst (N := 2) rfl ?_); refine box_event ?hg (N := 2) ?hd (cs := #[.slice A0_0 l0_0.length c0_0, .slice A0_1 l0_1.length c0_1]) (t := 24) ?hr ?_; (case hd => rfl); (case hg => rfl); (case hr => first | (go_simp; done) | (go_simp; rfl)); intro gb39001 hg w25 hbox hb; have n0_ := Aside0.mk (below_step (by repeat (first | (with_reducible first | exact HB.out | apply below_alloc | apply pw_below_drewN | apply below_drew1) | exact HB.out)) hb); have n1_ := Aside0.mk (hbox); have n2_ := Aside0.mk ((by rw [hg]; exact (below_size (by repeat (first | (with_reducible first | exact HB.out | apply below_alloc | apply pw_below_drewN | apply below_drew1) | exact HB.out))) : w.heap.size ≤ gb39001)); have n3_ := Aside0.mk ((by rw [hg]; exact (below_size (by repeat (first | (with_reducible first | exact HB.out | apply below_alloc | apply pw_below_drewN | apply below_drew1) | exact HB.out))) : w.heap.size ≤ gb39001)); clear HB; have HB := n0_; have BK39001 := n1_; have GW39001 := n2_; have GE39001 := n3_; clear n0_ n1_ n2_ n3_; clear hb hbox hg; have hcz26_0 : w25.cell? ⟨gb39001, 0, none⟩ = some (.slice A0_0 l0_0.length c0_0) := (blk_cell BK39001.out 0).trans rfl; have hcz26_1 : w25.cell? ⟨gb39001, 1, none⟩ = some (.slice A0_1 l0_1.length c0_1) := (blk_cell BK39001.out 1).trans rfl; have hfz26_0 := blk_frozen BK39001.out 0; have hfz26_1 := blk_frozen BK39001.out 1) | (go_at_call 11; (with_reducible refine (dam_CheckBasin.calls k _ _ l0_0 _ _ l0_1 t39002 t39003 _ ?side1 ?side2 ?side3 ?side4 A3.out).mono ?_); (case side1 => repeat (first | exact (Kd.C_below HR0_0.out HB.out) | (with_reducible refine Kd.C_alloc ?_ _) | (with_reducible refine Kd.C_drewN ?_ _) | (with_reducible refine Kd.C_drew ?_))); (case side2 => exact HC0_0.out); (case side3 => repeat (first | exact (Kd.C_below HR0_1.out HB.out) | (with_reducible refine Kd.C_alloc ?_ _) | (with_reducible refine Kd.C_drewN ?_ _) | (with_reducible refine Kd.C_drew ?_))); (case side4 => exact HC0_1.out); rintro e w27 ⟨rfl, hb⟩; have n0_ := Aside0.mk (blk_below (g := gb39001) (o := .cells #[.slice A0_0 l0_0.length c0_0, .slice A0_1 l0_1.length c0_1] 24 (0, 0)) (by (with_reducible repeat (first | refine blk_drewN ?_ _ | refine blk_drew ?_ | refine blk_alloc ?_ _)); exact BK39001.out) hb); have n1_ := Aside0.mk (below_step (by repeat (first | (with_reducible first | exact HB.out | apply below_alloc | apply pw_below_drewN | apply below_drew1 | refine below_set ?_ GE39001.out) | exact HB.out)) hb); clear BK39001; clear HB; have BK39001 := n0_; have HB := n1_; clear n0_ n1_; (try clear hb); (try clear hb2); (try clear hk); (try clear hi); have hcz28_0 : w27.cell? ⟨gb39001, 0, none⟩ = some (.slice A0_0 l0_0.length c0_0) := (blk_cell BK39001.out 0).trans rfl; have hcz28_1 : w27.cell? ⟨gb39001, 1, none⟩ = some (.slice A0_1 l0_1.length c0_1) := (blk_cell BK39001.out 1).trans rfl; have hfz28_0 := blk_frozen BK39001.out 0; have hfz28_1 := blk_frozen BK39001.out 1) | (go_at_call 65; (with_reducible refine (dam_within.calls a1 0 (l0_0.length : Int) t39004 _ A4.out).mono ?_); rintro e w' ⟨rfl, ⟨nd, rfl⟩⟩; (try first | exact ⟨rfl, _, World.drewN_drewN _ _ _⟩ | exact ⟨rfl, _, Eq.trans (World.drewN_drewN _ _ _) (congrArg (World.drewN _) (Nat.add_assoc _ _ _))⟩)) | (go_at_call 64; (with_reducible refine (dam_unless.calls t39004 2 t39005 _ A5.out).mono ?_); rintro e w' ⟨rfl, ⟨nd, rfl⟩⟩; (try first | exact ⟨rfl, _, World.drewN_drewN _ _ _⟩ | exact ⟨rfl, _, Eq.trans (World.drewN_drewN _ _ _) (congrArg (World.drewN _) (Nat.add_assoc _ _ _))⟩)) | ((with_reducible refine gate_dst (N := 23) rfl ?_); refine Kd.R_lit (Kd.int .i64) _ 26 ?hg (N := 23) ?hd (xs := ([t39003, t39005] : List Int)) (inner := [.int .i64 t39003, .int .i64 t39005]) (ok := fun _ => True) (okp := fun _ => True) ?hr ?hp (fun _ hk => hk) trivial (Below.refl _ _) (Nat.le_refl _) (by simp) ?_; (case hd => rfl); (case hg => rfl); (case hr => first | (go_simp; done) | (go_simp; rfl)); (case hp => exact (Reps.one (show Kd.M (Kd.int .i64) _ _ _ t39003 [.int .i64 t39003] from rfl) (Reps.one (show Kd.M (Kd.int .i64) _ _ _ t39005 [.int .i64 t39005] from rfl) (Reps.none _ _)))); intro v39007 w29 ho30 hb hg_ hnew_; clear hg_ hnew_; (first | rw [← Ny39006.out] at ho30 | (simp only [Int.reduceToNat] at ho30; rw [← Ny39006.out] at ho30)); have n0_ := Aside0.mk (Kd.R_lower ho30 (below_size (by repeat (first | (with_reducible first | exact HB.out | apply below_alloc | apply pw_below_drewN | apply below_drew1 | refine below_set ?_ GE39001.out) | exact HB.out)))); have n1_ := Aside0.mk (blk_below (g := gb39001) (o := .cells #[.slice A0_0 l0_0.length c0_0, .slice A0_1 l0_1.length c0_1] 24 (0, 0)) (by (with_reducible repeat (first | refine blk_drewN ?_ _ | refine blk_drew ?_ | refine blk_alloc ?_ _)); exact BK39001.out) hb); have n2_ := Aside0.mk (below_step (by repeat (first | (with_reducible first | exact HB.out | apply below_alloc | apply pw_below_drewN | apply below_drew1 | refine below_set ?_ GE39001.out) | exact HB.out)) hb); clear BK39001; clear HB; have HO39008 := n0_; have BK39001 := n1_; have HB := n2_; clear n0_ n1_ n2_; clear hb ho30; obtain ⟨Ao31, co31, eo31⟩ := Kd.R_slice HO39008.out; subst eo31) | (go_at_call 63; (with_reducible refine (dam_first.calls k _ _ y39006 t39009 _ ?side1 ?side2 A6.out).mono ?_); (case side1 => repeat (first | exact (Kd.R_reads' HO39008.out).2.2 | (with_reducible refine Kd.C_alloc ?_ _) | (with_reducible refine Kd.C_drewN ?_ _) | (with_reducible refine Kd.C_drew ?_))); (case side2 => exact (Kd.R_reads' HO39008.out).2.1); rintro e w' ⟨rfl, ⟨nd, rfl⟩⟩; (try first | exact ⟨rfl, _, World.drewN_drewN _ _ _⟩ | exact ⟨rfl, _, Eq.trans (World.drewN_drewN _ _ _) (congrArg (World.drewN _) (Nat.add_assoc _ _ _))⟩)))
    repeat (go_quiet (first | ((with_reducible refine gate_dst (N := 2) rfl ?_); refine box_event ?hg (N := 2) ?hd (cs := #[.slice A0_0 l0_0.length c0_0, .slice A0_1 l0_1.length c0_1]) (t := 24) ?hr ?_; (case hd => rfl); (case hg => rfl); (case hr => first | (go_simp; done) | (go_simp; rfl)); intro gb39001 hg w25 hbox hb; have n0_ := Aside0.mk (below_step (by repeat (first | (with_reducible first | exact HB.out | apply below_alloc | apply pw_below_drewN | apply below_drew1) | exact HB.out)) hb); have n1_ := Aside0.mk (hbox); have n2_ := Aside0.mk ((by rw [hg]; exact (below_size (by repeat (first | (with_reducible first | exact HB.out | apply below_alloc | apply pw_below_drewN | apply below_drew1) | exact HB.out))) : w.heap.size ≤ gb39001)); have n3_ := Aside0.mk ((by rw [hg]; exact (below_size (by repeat (first | (with_reducible first | exact HB.out | apply below_alloc | apply pw_below_drewN | apply below_drew1) | exact HB.out))) : w.heap.size ≤ gb39001)); clear HB; have HB := n0_; have BK39001 := n1_; have GW39001 := n2_; have GE39001 := n3_; clear n0_ n1_ n2_ n3_; clear hb hbox hg; have hcz26_0 : w25.cell? ⟨gb39001, 0, none⟩ = some (.slice A0_0 l0_0.length c0_0) := (blk_cell BK39001.out 0).trans rfl; have hcz26_1 : w25.cell? ⟨gb39001, 1, none⟩ = some (.slice A0_1 l0_1.length c0_1) := (blk_cell BK39001.out 1).trans rfl; have hfz26_0 := blk_frozen BK39001.out 0; have hfz26_1 := blk_frozen BK39001.out 1) | (go_at_call 11; (with_reducible refine (dam_CheckBasin.calls k _ _ l0_0 _ _ l0_1 t39002 t39003 _ ?side1 ?side2 ?side3 ?side4 A3.out).mono ?_); (case side1 => repeat (first | exact (Kd.C_below HR0_0.out HB.out) | (with_reducible refine Kd.C_alloc ?_ _) | (with_reducible refine Kd.C_drewN ?_ _) | (with_reducible refine Kd.C_drew ?_))); (case side2 => exact HC0_0.out); (case side3 => repeat (first | exact (Kd.C_below HR0_1.out HB.out) | (with_reducible refine Kd.C_alloc ?_ _) | (with_reducible refine Kd.C_drewN ?_ _) | (with_reducible refine Kd.C_drew ?_))); (case side4 => exact HC0_1.out); rintro e w27 ⟨rfl, hb⟩; have n0_ := Aside0.mk (blk_below (g := gb39001) (o := .cells #[.slice A0_0 l0_0.length c0_0, .slice A0_1 l0_1.length c0_1] 24 (0, 0)) (by (with_reducible repeat (first | refine blk_drewN ?_ _ | refine blk_drew ?_ | refine blk_alloc ?_ _)); exact BK39001.out) hb); have n1_ := Aside0.mk (below_step (by repeat (first | (with_reducible first | exact HB.out | apply below_alloc | apply pw_below_drewN | apply below_drew1 | refine below_set ?_ GE39001.out) | exact HB.out)) hb); clear BK39001; clear HB; have BK39001 := n0_; have HB := n1_; clear n0_ n1_; (try clear hb); (try clear hb2); (try clear hk); (try clear hi); have hcz28_0 : w27.cell? ⟨gb39001, 0, none⟩ = some (.slice A0_0 l0_0.length c0_0) := (blk_cell BK39001.out 0).trans rfl; have hcz28_1 : w27.cell? ⟨gb39001, 1, none⟩ = some (.slice A0_1 l0_1.length c0_1) := (blk_cell BK39001.out 1).trans rfl; have hfz28_0 := blk_frozen BK39001.out 0; have hfz28_1 := blk_frozen BK39001.out 1) | (go_at_call 65; (with_reducible refine (dam_within.calls a1 0 (l0_0.length : Int) t39004 _ A4.out).mono ?_); rintro e w' ⟨rfl, ⟨nd, rfl⟩⟩; (try first | exact ⟨rfl, _, World.drewN_drewN _ _ _⟩ | exact ⟨rfl, _, Eq.trans (World.drewN_drewN _ _ _) (congrArg (World.drewN _) (Nat.add_assoc _ _ _))⟩)) | (go_at_call 64; (with_reducible refine (dam_unless.calls t39004 2 t39005 _ A5.out).mono ?_); rintro e w' ⟨rfl, ⟨nd, rfl⟩⟩; (try first | exact ⟨rfl, _, World.drewN_drewN _ _ _⟩ | exact ⟨rfl, _, Eq.trans (World.drewN_drewN _ _ _) (congrArg (World.drewN _) (Nat.add_assoc _ _ _))⟩)) | ((with_reducible refine gate_dst (N := 23) rfl ?_); refine Kd.R_lit (Kd.int .i64) _ 26 ?hg (N := 23) ?hd (xs := ([t39003, t39005] : List Int)) (inner := [.int .i64 t39003, .int .i64 t39005]) (ok := fun _ => True) (okp := fun _ => True) ?hr ?hp (fun _ hk => hk) trivial (Below.refl _ _) (Nat.le_refl _) (by simp) ?_; (case hd => rfl); (case hg => rfl); (case hr => first | (go_simp; done) | (go_simp; rfl)); (case hp => exact (Reps.one (show Kd.M (Kd.int .i64) _ _ _ t39003 [.int .i64 t39003] from rfl) (Reps.one (show Kd.M (Kd.int .i64) _ _ _ t39005 [.int .i64 t39005] from rfl) (Reps.none _ _)))); intro v39007 w29 ho30 hb hg_ hnew_; clear hg_ hnew_; (first | rw [← Ny39006.out] at ho30 | (simp only [Int.reduceToNat] at ho30; rw [← Ny39006.out] at ho30)); have n0_ := Aside0.mk (Kd.R_lower ho30 (below_size (by repeat (first | (with_reducible first | exact HB.out | apply below_alloc | apply pw_below_drewN | apply below_drew1 | refine below_set ?_ GE39001.out) | exact HB.out)))); have n1_ := Aside0.mk (blk_below (g := gb39001) (o := .cells #[.slice A0_0 l0_0.length c0_0, .slice A0_1 l0_1.length c0_1] 24 (0, 0)) (by (with_reducible repeat (first | refine blk_drewN ?_ _ | refine blk_drew ?_ | refine blk_alloc ?_ _)); exact BK39001.out) hb); have n2_ := Aside0.mk (below_step (by repeat (first | (with_reducible first | exact HB.out | apply below_alloc | apply pw_below_drewN | apply below_drew1 | refine below_set ?_ GE39001.out) | exact HB.out)) hb); clear BK39001; clear HB; have HO39008 := n0_; have BK39001 := n1_; have HB := n2_; clear n0_ n1_ n2_; clear hb ho30; obtain ⟨Ao31, co31, eo31⟩ := Kd.R_slice HO39008.out; subst eo31) | (go_at_call 63; (with_reducible refine (dam_first.calls k _ _ y39006 t39009 _ ?side1 ?side2 A6.out).mono ?_); (case side1 => repeat (first | exact (Kd.R_reads' HO39008.out).2.2 | (with_reducible refine Kd.C_alloc ?_ _) | (with_reducible refine Kd.C_drewN ?_ _) | (with_reducible refine Kd.C_drew ?_))); (case side2 => exact (Kd.R_reads' HO39008.out).2.1); rintro e w' ⟨rfl, ⟨nd, rfl⟩⟩; (try first | exact ⟨rfl, _, World.drewN_drewN _ _ _⟩ | exact ⟨rfl, _, Eq.trans (World.drewN_drewN _ _ _) (congrArg (World.drewN _) (Nat.add_assoc _ _ _))⟩))); try go_wp2_with (first | ((with_reducible refine gate_dst (N := 2) rfl ?_); refine box_event ?hg (N := 2) ?hd (cs := #[.slice A0_0 l0_0.length c0_0, .slice A0_1 l0_1.length c0_1]) (t := 24) ?hr ?_; (case hd => rfl); (case hg => rfl); (case hr => first | (go_simp; done) | (go_simp; rfl)); intro gb39001 hg w25 hbox hb; have n0_ := Aside0.mk (below_step (by repeat (first | (with_reducible first | exact HB.out | apply below_alloc | apply pw_below_drewN | apply below_drew1) | exact HB.out)) hb); have n1_ := Aside0.mk (hbox); have n2_ := Aside0.mk ((by rw [hg]; exact (below_size (by repeat (first | (with_reducible first | exact HB.out | apply below_alloc | apply pw_below_drewN | apply below_drew1) | exact HB.out))) : w.heap.size ≤ gb39001)); have n3_ := Aside0.mk ((by rw [hg]; exact (below_size (by repeat (first | (with_reducible first | exact HB.out | apply below_alloc | apply pw_below_drewN | apply below_drew1) | exact HB.out))) : w.heap.size ≤ gb39001)); clear HB; have HB := n0_; have BK39001 := n1_; have GW39001 := n2_; have GE39001 := n3_; clear n0_ n1_ n2_ n3_; clear hb hbox hg; have hcz26_0 : w25.cell? ⟨gb39001, 0, none⟩ = some (.slice A0_0 l0_0.length c0_0) := (blk_cell BK39001.out 0).trans rfl; have hcz26_1 : w25.cell? ⟨gb39001, 1, none⟩ = some (.slice A0_1 l0_1.length c0_1) := (blk_cell BK39001.out 1).trans rfl; have hfz26_0 := blk_frozen BK39001.out 0; have hfz26_1 := blk_frozen BK39001.out 1) | (go_at_call 11; (with_reducible refine (dam_CheckBasin.calls k _ _ l0_0 _ _ l0_1 t39002 t39003 _ ?side1 ?side2 ?side3 ?side4 A3.out).mono ?_); (case side1 => repeat (first | exact (Kd.C_below HR0_0.out HB.out) | (with_reducible refine Kd.C_alloc ?_ _) | (with_reducible refine Kd.C_drewN ?_ _) | (with_reducible refine Kd.C_drew ?_))); (case side2 => exact HC0_0.out); (case side3 => repeat (first | exact (Kd.C_below HR0_1.out HB.out) | (with_reducible refine Kd.C_alloc ?_ _) | (with_reducible refine Kd.C_drewN ?_ _) | (with_reducible refine Kd.C_drew ?_))); (case side4 => exact HC0_1.out); rintro e w27 ⟨rfl, hb⟩; have n0_ := Aside0.mk (blk_below (g := gb39001) (o := .cells #[.slice A0_0 l0_0.length c0_0, .slice A0_1 l0_1.length c0_1] 24 (0, 0)) (by (with_reducible repeat (first | refine blk_drewN ?_ _ | refine blk_drew ?_ | refine blk_alloc ?_ _)); exact BK39001.out) hb); have n1_ := Aside0.mk (below_step (by repeat (first | (with_reducible first | exact HB.out | apply below_alloc | apply pw_below_drewN | apply below_drew1 | refine below_set ?_ GE39001.out) | exact HB.out)) hb); clear BK39001; clear HB; have BK39001 := n0_; have HB := n1_; clear n0_ n1_; (try clear hb); (try clear hb2); (try clear hk); (try clear hi); have hcz28_0 : w27.cell? ⟨gb39001, 0, none⟩ = some (.slice A0_0 l0_0.length c0_0) := (blk_cell BK39001.out 0).trans rfl; have hcz28_1 : w27.cell? ⟨gb39001, 1, none⟩ = some (.slice A0_1 l0_1.length c0_1) := (blk_cell BK39001.out 1).trans rfl; have hfz28_0 := blk_frozen BK39001.out 0; have hfz28_1 := blk_frozen BK39001.out 1) | (go_at_call 65; (with_reducible refine (dam_within.calls a1 0 (l0_0.length : Int) t39004 _ A4.out).mono ?_); rintro e w' ⟨rfl, ⟨nd, rfl⟩⟩; (try first | exact ⟨rfl, _, World.drewN_drewN _ _ _⟩ | exact ⟨rfl, _, Eq.trans (World.drewN_drewN _ _ _) (congrArg (World.drewN _) (Nat.add_assoc _ _ _))⟩)) | (go_at_call 64; (with_reducible refine (dam_unless.calls t39004 2 t39005 _ A5.out).mono ?_); rintro e w' ⟨rfl, ⟨nd, rfl⟩⟩; (try first | exact ⟨rfl, _, World.drewN_drewN _ _ _⟩ | exact ⟨rfl, _, Eq.trans (World.drewN_drewN _ _ _) (congrArg (World.drewN _) (Nat.add_assoc _ _ _))⟩)) | ((with_reducible refine gate_dst (N := 23) rfl ?_); refine Kd.R_lit (Kd.int .i64) _ 26 ?hg (N := 23) ?hd (xs := ([t39003, t39005] : List Int)) (inner := [.int .i64 t39003, .int .i64 t39005]) (ok := fun _ => True) (okp := fun _ => True) ?hr ?hp (fun _ hk => hk) trivial (Below.refl _ _) (Nat.le_refl _) (by simp) ?_; (case hd => rfl); (case hg => rfl); (case hr => first | (go_simp; done) | (go_simp; rfl)); (case hp => exact (Reps.one (show Kd.M (Kd.int .i64) _ _ _ t39003 [.int .i64 t39003] from rfl) (Reps.one (show Kd.M (Kd.int .i64) _ _ _ t39005 [.int .i64 t39005] from rfl) (Reps.none _ _)))); intro v39007 w29 ho30 hb hg_ hnew_; clear hg_ hnew_; (first | rw [← Ny39006.out] at ho30 | (simp only [Int.reduceToNat] at ho30; rw [← Ny39006.out] at ho30)); have n0_ := Aside0.mk (Kd.R_lower ho30 (below_size (by repeat (first | (with_reducible first | exact HB.out | apply below_alloc | apply pw_below_drewN | apply below_drew1 | refine below_set ?_ GE39001.out) | exact HB.out)))); have n1_ := Aside0.mk (blk_below (g := gb39001) (o := .cells #[.slice A0_0 l0_0.length c0_0, .slice A0_1 l0_1.length c0_1] 24 (0, 0)) (by (with_reducible repeat (first | refine blk_drewN ?_ _ | refine blk_drew ?_ | refine blk_alloc ?_ _)); exact BK39001.out) hb); have n2_ := Aside0.mk (below_step (by repeat (first | (with_reducible first | exact HB.out | apply below_alloc | apply pw_below_drewN | apply below_drew1 | refine below_set ?_ GE39001.out) | exact HB.out)) hb); clear BK39001; clear HB; have HO39008 := n0_; have BK39001 := n1_; have HB := n2_; clear n0_ n1_ n2_; clear hb ho30; obtain ⟨Ao31, co31, eo31⟩ := Kd.R_slice HO39008.out; subst eo31) | (go_at_call 63; (with_reducible refine (dam_first.calls k _ _ y39006 t39009 _ ?side1 ?side2 A6.out).mono ?_); (case side1 => repeat (first | exact (Kd.R_reads' HO39008.out).2.2 | (with_reducible refine Kd.C_alloc ?_ _) | (with_reducible refine Kd.C_drewN ?_ _) | (with_reducible refine Kd.C_drew ?_))); (case side2 => exact (Kd.R_reads' HO39008.out).2.1); rintro e w' ⟨rfl, ⟨nd, rfl⟩⟩; (try first | exact ⟨rfl, _, World.drewN_drewN _ _ _⟩ | exact ⟨rfl, _, Eq.trans (World.drewN_drewN _ _ _) (congrArg (World.drewN _) (Nat.add_assoc _ _ _))⟩))))
    go_ret2
    exact ⟨by first | rfl | (simp [errW_none, errW_some] <;> rfl) | (simp [*, errW_none, errW_some] <;> rfl), by repeat (first | (with_reducible first | exact HB.out | apply below_alloc | apply pw_below_drewN | apply below_drew1 | refine below_set ?_ GE39001.out) | exact HB.out)⟩
set_option maxHeartbeats 8000000 in
set_option maxRecDepth 100000 in
theorem hIndexInt (g : Nat) (lb : Array Value) (p : Int → Bool) (eg : ∀ args w, (callFunc g args).run Try.prog w = .ok (.enter g args) w) (A0 : Option Addr) (c0 : Nat) (l0 : List Int) (w : World) (hr0 : Kd.C (Kd.int .i64) w A0 l0.length l0) (hp : PredB Try.prog g lb (Value.int .i64) p l0 w) :
    Calls Try.prog 70 #[.slice A0 l0.length c0, .func (.func g) #[] lb] w fun e w' => e = .returned (.int .i64 (idxF p l0)) ∧ Below w.heap.size w w' := by
  have hlen : l0.length ≤ 9223372036854775807 := hr0.2.1
  have HR0 := Aside0.mk hr0
  have HP := Aside0.mk hp
  clear hr0 hp
  go_enter Try.func70, Try.ntmps70
  go_wp2
  go_loopg [5, 8] l0.length (fun gg _ s8 wr => ∃ kk : Nat, kk ≤ l0.length ∧ l0.length - kk ≤ gg ∧ s8 = .int .i64 kk ∧ Aside0 (Below w.heap.size w wr) ∧ Aside0 (∀ j, j < kk → p (l0.getD j 0) = false))
  case atStart => exact ⟨0, Nat.zero_le _, by omega, rfl, ⟨Below.refl _ _⟩, ⟨fun j hj => absurd hj (Nat.not_lt_zero _)⟩⟩
  case round =>
    obtain ⟨kk, hkk, hg, rfl, HB, A⟩ := hrel
    by_cases hlt : kk < l0.length
    · have hltz : (kk : Int) < (l0.length : Int) := by omega
      obtain ⟨ad, e1, hx1⟩ := Kd.at_int (Kd.C_below HR0.out HB.out) (kk : Int) (by omega) (by omega)
      cases e1
      have hmem : l0.getD kk 0 ∈ l0 := by rw [List.getD_eq_getElem?_getD, List.getElem?_eq_getElem hlt]; exact List.getElem_mem hlt
      have hrd : rd l0 (kk : Int) = l0.getD kk 0 := rfl
      rw [hrd, Int.toNat_natCast] at hx1
      clear hrd
      generalize hy : l0.getD kk 0 = y at hx1 hmem
      have B := Aside0.mk hy
      clear hy
      have hcall := HP.out wr y hmem HB.out
      cases hq : p y with
      | true =>
        rw [hq] at hcall
        have HC := Aside0.mk hcall
        have HQ := Aside0.mk hq
        clear hcall hq
        go_wp2_with (go_at_fn g; refine HC.out.mono ?_; rintro e w' ⟨rfl, hb⟩)
        go_ret
        refine ⟨?_, ?_⟩
        · rw [idxF_hit hlt A.out (by rw [B.out]; exact HQ.out)]; rfl
        · exact below_step HB.out (by assumption)
      | false =>
        rw [hq] at hcall
        have HC := Aside0.mk hcall
        have HQ := Aside0.mk hq
        clear hcall hq
        go_wp2_with (go_at_fn g; refine HC.out.mono ?_; rintro e w' ⟨rfl, hb⟩; have HB2 := Aside0.mk (below_step HB.out hb); clear hb)
        go_roundg (l0.length - (kk + 1))
        case measure => omega
        case rel =>
          refine ⟨kk + 1, by omega, by omega, by go_num, by assumption, ⟨fun j hj => ?_⟩⟩
          by_cases e : j = kk
          · subst e
            rw [B.out]; exact HQ.out
          · exact A.out j (by omega)
    · have hltz : ¬ (kk : Int) < (l0.length : Int) := by omega
      obtain rfl : kk = l0.length := by omega
      go_wp2
      go_ret
      refine ⟨?_, HB.out⟩
      rw [idxF_miss A.out]; rfl
set_option maxHeartbeats 8000000 in
set_option maxRecDepth 100000 in
theorem hContainsInt (g : Nat) (lb : Array Value) (p : Int → Bool) (eg : ∀ args w, (callFunc g args).run Try.prog w = .ok (.enter g args) w) (A0 : Option Addr) (c0 : Nat) (l0 : List Int) (w : World) (hr0 : Kd.C (Kd.int .i64) w A0 l0.length l0) (hp : PredB Try.prog g lb (Value.int .i64) p l0 w) :
    Calls Try.prog 91 #[.slice A0 l0.length c0, .func (.func g) #[] lb] w fun e w' => e = .returned (.bool (l0.any p)) ∧ Below w.heap.size w w' := by
  have HI := Aside0.mk (hIndexInt g lb p eg A0 c0 l0 w hr0 hp)
  clear hr0 hp
  obtain ⟨x, hx⟩ : ∃ x, x = idxF p l0 := ⟨_, rfl⟩
  rw [← hx] at HI
  have HX := Aside0.mk hx
  clear hx
  go_enter Try.func91, Try.ntmps91
  go_wp2_with (go_at_call 70; refine HI.out.mono ?_; rintro e w' ⟨rfl, hb⟩)
  go_ret
  refine ⟨?_, by assumption⟩
  rw [← idxF_any p l0, ← HX.out]; rfl
def dam_size.f (a0 : Int) : Option (Int) := some (mx a0 (wrap64 (-a0)))
set_option maxHeartbeats 8000000 in
set_option maxRecDepth 100000 in
theorem dam_size.calls (a0 : Int) (r : Int) (w : World) (h : dam_size.f a0 = some r) :
    Calls Try.prog 86 #[.int .i64 a0] w fun e w' => e = .returned (.int .i64 r) ∧ Below w.heap.size w w' := by
  have HB := Aside0.mk (Below.refl w.heap.size w)
  have H : (some (mx a0 (wrap64 (-a0)))) = some r := h
  clear h
  obtain ⟨ji2, hji2⟩ : ∃ j_ : Int, (mx a0 (wrap64 (-a0))) = j_ := ⟨_, rfl⟩
  replace H : (some ji2) = some r := by first | (rw [hji2] at H; exact H) | (simp only [hji2] at H ⊢; exact H)
  have hji2_ : (if a0 < (wrap64 (-a0)) then (wrap64 (-a0)) else a0) = ji2 := hji2
  obtain rfl := Option.some.inj H
  go_enter Try.func86, Try.ntmps86
  go_wp2
  go_ret
  exact ⟨by first | rfl | (simp [errW_none, errW_some] <;> rfl) | (simp only [← hji2]; first | rfl | (simp [errW_none, errW_some] <;> rfl)) | (simp [*, errW_none, errW_some] <;> rfl), by repeat (first | (with_reducible first | exact HB.out | apply below_alloc | apply pw_below_drewN | apply below_drew1) | exact HB.out)⟩
def dam_valley_hears.f (l0_0 : List (S112)) (l0_1 : List Int) (a1 : Int) (a2_0 : Int) (a2_1 : Int) : Option (Bool) := if 0 ≤ a1 then (if a1 < (l0_1.length : Int) then ((dam_size.f (wrap64 ((rd l0_1 a1) - a2_0))).bind fun t315004 => (some (decide (t315004 ≤ a2_1)))) else (none)) else (none)
def dam_valley_hears.T1 : Bool × List (List Nat × List Nat) := (true, [([], []), ([0], [0]), ([1], [1]), ([], []), ([2, 3], [2, 3]), ([4], [4]), ([], []), ([6], [6]), ([5, 7], [5, 7]), ([8], [8]), ([], []), ([10], [10]), ([9, 11], [9, 11]), ([12, 9, 0, 1, 2, 3, 4, 5, 6, 7, 8, 9, 10, 11, 12], [12])])
def dam_valley_hears.B1 : List Nat := [0, 1, 3, 0, 15, 31, 0, 64, 255, 511, 0, 1024, 4095, 8191]
theorem dam_valley_hears.tab1 : rtab .any (opsOf Try.f105 1) = dam_valley_hears.T1 := by kernel_rfl
theorem dam_valley_hears.bits1 : waitsOk dam_valley_hears.T1.2 dam_valley_hears.B1 = true := by kernel_rfl
set_option maxHeartbeats 8000000 in
set_option maxRecDepth 100000 in
theorem dam_valley_hears.calls (A0_0 : Option Addr) (c0_0 : Nat) (l0_0 : List (S112)) (A0_1 : Option Addr) (c0_1 : Nat) (l0_1 : List Int) (a1 : Int) (a2_0 : Int) (a2_1 : Int) (r : Bool) (w : World) (hr0_0 : Kd.C k112 w A0_0 l0_0.length l0_0) (hc0_0 : l0_0.length ≤ c0_0) (hr0_1 : Kd.C (Kd.int .i64) w A0_1 l0_1.length l0_1) (hc0_1 : l0_1.length ≤ c0_1) (h : dam_valley_hears.f l0_0 l0_1 a1 a2_0 a2_1 = some r) :
    Calls Try.prog 105 #[.agg #[.slice A0_0 l0_0.length c0_0, .slice A0_1 l0_1.length c0_1], .int .i64 a1, .agg #[.int .i64 a2_0, .int .i64 a2_1]] w fun e w' => e = .returned (.bool r) ∧ Below w.heap.size w w' := by
  have hu116 := Try.underlying116
  have hu112 := Try.underlying112
  have HR0_0 := Aside0.mk hr0_0
  have HC0_0 := Aside0.mk hc0_0
  clear hr0_0 hc0_0
  have HR0_1 := Aside0.mk hr0_1
  have HC0_1 := Aside0.mk hc0_1
  clear hr0_1 hc0_1
  have HB := Aside0.mk (Below.refl w.heap.size w)
  have H : (if 0 ≤ a1 then (if a1 < (l0_1.length : Int) then ((dam_size.f (wrap64 ((rd l0_1 a1) - a2_0))).bind fun t315004 => (some (decide (t315004 ≤ a2_1)))) else (none)) else (none)) = some r := h
  clear h
  by_cases c4 : 0 ≤ a1
  · rw [if_pos c4] at H
    have c4b0 : decide (0 ≤ a1) = true := decide_eq_true c4
    clear c4
    by_cases c5 : a1 < (l0_1.length : Int)
    · rw [if_pos c5] at H
      have c5b0 : decide (a1 < (l0_1.length : Int)) = true := decide_eq_true c5
      clear c5
      replace H := Option.bind_eq_some_iff.mp H
      obtain ⟨t315004, A60, H⟩ := H
      replace H : (some (decide (t315004 ≤ a2_1))) = some r := H
      have A6 := Aside0.mk A60
      clear A60
      obtain rfl := Option.some.inj H
      go_enter Try.func105, Try.ntmps105
      try go_wp2_with (first | ((with_reducible refine gate_dst (N := 3) rfl ?_); refine box_event ?hg (N := 3) ?hd (cs := #[.slice A0_0 l0_0.length c0_0, .slice A0_1 l0_1.length c0_1]) (t := 116) ?hr ?_; (case hd => rfl); (case hg => rfl); (case hr => first | (go_simp; done) | (go_simp; rfl)); intro gb315001 hg w7 hbox hb; have n0_ := Aside0.mk (below_step (by repeat (first | (with_reducible first | exact HB.out | apply below_alloc | apply pw_below_drewN | apply below_drew1) | exact HB.out)) hb); have n1_ := Aside0.mk (hbox); have n2_ := Aside0.mk ((by rw [hg]; exact (below_size (by repeat (first | (with_reducible first | exact HB.out | apply below_alloc | apply pw_below_drewN | apply below_drew1) | exact HB.out))) : w.heap.size ≤ gb315001)); have n3_ := Aside0.mk ((by rw [hg]; exact (below_size (by repeat (first | (with_reducible first | exact HB.out | apply below_alloc | apply pw_below_drewN | apply below_drew1) | exact HB.out))) : w.heap.size ≤ gb315001)); clear HB; have HB := n0_; have BK315001 := n1_; have GW315001 := n2_; have GE315001 := n3_; clear n0_ n1_ n2_ n3_; clear hb hbox hg) | ((with_reducible refine gate_dst (N := 5) rfl ?_); refine box_event ?hg (N := 5) ?hd (cs := #[.int .i64 a2_0, .int .i64 a2_1]) (t := 112) ?hr ?_; (case hd => rfl); (case hg => rfl); (case hr => first | (go_simp; done) | (go_simp; rfl)); intro gb315002 hg w8 hbox hb; have n0_ := Aside0.mk (blk_below (g := gb315001) (o := .cells #[.slice A0_0 l0_0.length c0_0, .slice A0_1 l0_1.length c0_1] 116 (0, 0)) (by (with_reducible repeat (first | refine blk_drewN ?_ _ | refine blk_drew ?_ | refine blk_alloc ?_ _)); exact BK315001.out) hb); have n1_ := Aside0.mk (below_step (by repeat (first | (with_reducible first | exact HB.out | apply below_alloc | apply pw_below_drewN | apply below_drew1 | refine below_set ?_ GE315001.out) | exact HB.out)) hb); have n2_ := Aside0.mk (hbox); have n3_ := Aside0.mk ((by rw [hg]; exact (below_size (by repeat (first | (with_reducible first | exact HB.out | apply below_alloc | apply pw_below_drewN | apply below_drew1 | refine below_set ?_ GE315001.out) | exact HB.out))) : w.heap.size ≤ gb315002)); have n4_ := Aside0.mk ((by rw [hg]; exact (below_size (by repeat (first | (with_reducible first | exact HB.out | apply below_alloc | apply pw_below_drewN | apply below_drew1 | refine below_set ?_ GE315001.out) | exact HB.out))) : w.heap.size ≤ gb315002)); have n5_ := Aside0.mk ((by rw [hg]; exact Nat.ne_of_lt (blk_lt (g := gb315001) (o := .cells #[.slice A0_0 l0_0.length c0_0, .slice A0_1 l0_1.length c0_1] 116 (0, 0)) (by (with_reducible repeat (first | refine blk_drewN ?_ _ | refine blk_drew ?_ | refine blk_alloc ?_ _)); exact BK315001.out)) : gb315001 ≠ gb315002)); have n6_ := Aside0.mk ((by rw [hg]; exact Nat.ne_of_gt (blk_lt (g := gb315001) (o := .cells #[.slice A0_0 l0_0.length c0_0, .slice A0_1 l0_1.length c0_1] 116 (0, 0)) (by (with_reducible repeat (first | refine blk_drewN ?_ _ | refine blk_drew ?_ | refine blk_alloc ?_ _)); exact BK315001.out)) : gb315002 ≠ gb315001)); clear BK315001; clear HB; have BK315001 := n0_; have HB := n1_; have BK315002 := n2_; have GW315002 := n3_; have GE315002 := n4_; have NB315001_315002 := n5_; have NB315002_315001 := n6_; clear n0_ n1_ n2_ n3_ n4_ n5_ n6_; clear hb hbox hg))
      have n0_ := Aside0.mk (blk_drew BK315001.out)
      have n1_ := Aside0.mk (blk_drew BK315002.out)
      have n2_ := Aside0.mk (below_drew1 HB.out)
      clear BK315001
      clear BK315002
      clear HB
      have BK315001 := n0_
      have BK315002 := n1_
      have HB := n2_
      clear n0_ n1_ n2_
      have p315003 : 0 ≤ (a1 : Int) := of_decide_eq_true (by first | (with_reducible assumption) | assumption)
      have q315003 : a1 < (l0_1.length : Int) := of_decide_eq_true (by first | (with_reducible assumption) | assumption)
      obtain ⟨ad315003, e315003, hx315003_0⟩ := Kd.at_int HR0_1.out a1 p315003 q315003
      have hw315003_0 := hx315003_0
      cases e315003
      replace hx315003_0 := (HB.out.cell (World.block_lt_of_cell? w _ hx315003_0)).trans hx315003_0
      replace p315003 := eq_true p315003
      replace q315003 := eq_true q315003
      refine start_ (n := 14) (S := fun w' => w'.cell? ⟨gb315001, 0, none⟩ = some (.slice A0_0 l0_0.length c0_0) ∧ w'.cell? ⟨gb315001, 1, none⟩ = some (.slice (some ad315003) l0_1.length c0_1) ∧ w'.cell? ⟨gb315002, 0, none⟩ = some (.int .i64 a2_0) ∧ w'.cell? ⟨gb315002, 1, none⟩ = some (.int .i64 a2_1) ∧ w'.cell? (ad315003.add (a1).toNat) = some (.int .i64 (rd l0_1 a1))) (ds := []) #[false, false, false, false, false, false, false, false, false, false, false, false, false, false] (by kernel_rfl) rfl rfl ⟨(blk_cell BK315001.out 0).trans rfl, (blk_cell BK315001.out 1).trans rfl, (blk_cell BK315002.out 0).trans rfl, (blk_cell BK315002.out 1).trans rfl, ((HB.out.cell (World.block_lt_of_cell? w _ hw315003_0)).trans hw315003_0)⟩ (fun hHeld => ?_); refine with_tabW dam_valley_hears.tab1 dam_valley_hears.bits1 (fun HT_ HW_ => ?_)
      generalize w8.drew = w9 at BK315001 BK315002 HB hx315003_0 hHeld ⊢
      refine pure_ (i := 0) (N := some 7) (v := ?_) (a' := ?_) #[true, false, false, false, false, false, false, false, false, false, false, false, false, false] rfl rfl (any_of HT_.out (by kernel_rfl)) (fun _ _ _ h => h) (Or.inl ⟨by rfl, ?_⟩) ?_ ?_
      rotate_left
      · intro w'
        go_simp
        with_reducible rfl
      rotate_left
      · simp only [Act.put, List.setIfInBounds_toArray, List.set_cons_zero, List.set_cons_succ, i64_w, i32_w]
        rfl
      refine pure_ (i := 1) (N := some 8) (v := ?_) (a' := ?_) #[true, true, false, false, false, false, false, false, false, false, false, false, false, false] rfl rfl (any_of HT_.out (by kernel_rfl)) (fun _ _ _ h => h) (Or.inl ⟨by rfl, ?_⟩) ?_ ?_
      rotate_left
      · intro w'
        go_simp
        with_reducible rfl
      rotate_left
      · simp only [Act.put, List.setIfInBounds_toArray, List.set_cons_zero, List.set_cons_succ, i64_w, i32_w]
        rfl
      refine pure_ (i := 3) (N := some 10) (v := ?_) (a' := ?_) #[true, true, false, true, false, false, false, false, false, false, false, false, false, false] rfl rfl (any_of HT_.out (by kernel_rfl)) (fun _ _ _ h => h) (Or.inl ⟨by rfl, ?_⟩) ?_ ?_
      rotate_left
      · intro w'
        go_simp
        with_reducible rfl
      rotate_left
      · simp only [Act.put, List.setIfInBounds_toArray, List.set_cons_zero, List.set_cons_succ, i64_w, i32_w]
        rfl
      refine pure_ (i := 6) (N := some 13) (v := ?_) (a' := ?_) #[true, true, false, true, false, false, true, false, false, false, false, false, false, false] rfl rfl (any_of HT_.out (by kernel_rfl)) (fun _ _ _ h => h) (Or.inl ⟨by rfl, ?_⟩) ?_ ?_
      rotate_left
      · intro w'
        go_simp
        with_reducible rfl
      rotate_left
      · simp only [Act.put, List.setIfInBounds_toArray, List.set_cons_zero, List.set_cons_succ, i64_w, i32_w]
        rfl
      refine pure_ (i := 10) (N := some 17) (v := ?_) (a' := ?_) #[true, true, false, true, false, false, true, false, false, false, true, false, false, false] rfl rfl (any_of HT_.out (by kernel_rfl)) (fun _ _ _ h => h) (Or.inl ⟨by rfl, ?_⟩) ?_ ?_
      rotate_left
      · intro w'
        go_simp
        with_reducible rfl
      rotate_left
      · simp only [Act.put, List.setIfInBounds_toArray, List.set_cons_zero, List.set_cons_succ, i64_w, i32_w]
        rfl
      refine take_ (i := 2) (N := some 9) (v := ?_) (a' := ?_) #[true, true, true, true, false, false, true, false, false, false, true, false, false, false] rfl rfl (take_ofW HT_.out HW_.out (by kernel_rfl)) (fun _ _ _ h => h) (Or.inl ⟨by rfl, ?_⟩) hHeld ?_ ?_
      rotate_left
      · rintro w' ⟨s0, s1, s2, s3, s4⟩
        go_simp
        with_reducible rfl
      rotate_left
      · simp only [Act.put, List.setIfInBounds_toArray, List.set_cons_zero, List.set_cons_succ, i64_w, i32_w]
        rfl
      refine pure_ (i := 4) (N := some 11) (v := ?_) (a' := ?_) #[true, true, true, true, true, false, true, false, false, false, true, false, false, false] rfl rfl (any_of HT_.out (by kernel_rfl)) (fun _ _ _ h => h) (Or.inl ⟨by rfl, ?_⟩) ?_ ?_
      rotate_left
      · intro w'
        go_simp
        with_reducible rfl
      rotate_left
      · simp only [Act.put, List.setIfInBounds_toArray, List.set_cons_zero, List.set_cons_succ, i64_w, i32_w]
        rfl
      refine take_ (i := 5) (N := some 12) (v := ?_) (a' := ?_) #[true, true, true, true, true, true, true, false, false, false, true, false, false, false] rfl rfl (take_ofW HT_.out HW_.out (by kernel_rfl)) (fun _ _ _ h => h) (Or.inl ⟨by rfl, ?_⟩) hHeld ?_ ?_
      rotate_left
      · rintro w' ⟨s0, s1, s2, s3, s4⟩
        go_simp
        with_reducible rfl
      rotate_left
      · simp only [Act.put, List.setIfInBounds_toArray, List.set_cons_zero, List.set_cons_succ, i64_w, i32_w]
        rfl
      refine take_ (i := 7) (N := some 14) (v := ?_) (a' := ?_) #[true, true, true, true, true, true, true, true, false, false, true, false, false, false] rfl rfl (take_ofW HT_.out HW_.out (by kernel_rfl)) (fun _ _ _ h => h) (Or.inl ⟨by rfl, ?_⟩) hHeld ?_ ?_
      rotate_left
      · rintro w' ⟨s0, s1, s2, s3, s4⟩
        go_simp
        with_reducible rfl
      rotate_left
      · simp only [Act.put, List.setIfInBounds_toArray, List.set_cons_zero, List.set_cons_succ, i64_w, i32_w]
        rfl
      refine pure_ (i := 8) (N := some 15) (v := ?_) (a' := ?_) #[true, true, true, true, true, true, true, true, true, false, true, false, false, false] rfl rfl (any_of HT_.out (by kernel_rfl)) (fun _ _ _ h => h) (Or.inl ⟨by rfl, ?_⟩) ?_ ?_
      rotate_left
      · intro w'
        go_simp
        with_reducible rfl
      rotate_left
      · simp only [Act.put, List.setIfInBounds_toArray, List.set_cons_zero, List.set_cons_succ, i64_w, i32_w]
        rfl
      refine take_ (i := 11) (N := some 18) (v := ?_) (a' := ?_) #[true, true, true, true, true, true, true, true, true, false, true, true, false, false] rfl rfl (take_ofW HT_.out HW_.out (by kernel_rfl)) (fun _ _ _ h => h) (Or.inl ⟨by rfl, ?_⟩) hHeld ?_ ?_
      rotate_left
      · rintro w' ⟨s0, s1, s2, s3, s4⟩
        go_simp
        with_reducible rfl
      rotate_left
      · simp only [Act.put, List.setIfInBounds_toArray, List.set_cons_zero, List.set_cons_succ, i64_w, i32_w]
        rfl
      refine one_ (i := 9) (N := some 16) #[true, true, true, true, true, true, true, true, true, true, true, true, false, false] rfl rfl (one_of HT_.out (by kernel_rfl)) (by decide) (fun K hK => ?_)
      refine goes_ Try.func86 (by kernel_rfl) rfl #[.int .i64 (wrap64 ((rd l0_1 a1) - a2_0))] (by rfl) rfl rfl (by (try simp only [List.map_toArray, List.map_cons, List.map_nil]); first | done | rfl | (simp only [List.length_drop, List.length_take]; rfl)) ?_
      with_reducible refine (dam_size.calls (wrap64 ((rd l0_1 a1) - a2_0)) t315004 _ A6.out).mono ?_
      rintro e w10 ⟨rfl, hb⟩
      refine ⟨_, rfl, ?_⟩
      have n0_ := Aside0.mk (blk_below (g := gb315001) (o := .cells #[.slice A0_0 l0_0.length c0_0, .slice (some ad315003) l0_1.length c0_1] 116 (0, 0)) (by (with_reducible repeat (first | refine blk_drewN ?_ _ | refine blk_drew ?_ | refine blk_alloc ?_ _)); exact BK315001.out) hb)
      have n1_ := Aside0.mk (blk_below (g := gb315002) (o := .cells #[.int .i64 a2_0, .int .i64 a2_1] 112 (0, 0)) (by (with_reducible repeat (first | refine blk_drewN ?_ _ | refine blk_drew ?_ | refine blk_alloc ?_ _)); exact BK315002.out) hb)
      have n2_ := Aside0.mk (below_step (by repeat (first | (with_reducible first | exact HB.out | apply below_alloc | apply pw_below_drewN | apply below_drew1 | refine below_set ?_ GE315001.out | refine below_set ?_ GE315002.out) | exact HB.out)) hb)
      clear BK315001
      clear BK315002
      clear HB
      have BK315001 := n0_
      have BK315002 := n1_
      have HB := n2_
      clear n0_ n1_ n2_
      (try clear hb)
      (try clear hb2)
      (try clear hk)
      (try clear hi)
      refine hK.out _ _ ⟨(blk_cell BK315001.out 0).trans rfl, (blk_cell BK315001.out 1).trans rfl, (blk_cell BK315002.out 0).trans rfl, (blk_cell BK315002.out 1).trans rfl, ((HB.out.cell (World.block_lt_of_cell? w _ hw315003_0)).trans hw315003_0)⟩ (fun hHeld => ?_)
      clear hK K
      refine norm_ (a' := ?_) ?_ ?_
      rotate_left
      · show Act.put _ (some 16) _ = _
        simp only [Act.put, List.setIfInBounds_toArray, List.set_cons_zero, List.set_cons_succ, i64_w, i32_w]
        rfl
      refine pure_ (i := 12) (N := some 19) (v := ?_) (a' := ?_) #[true, true, true, true, true, true, true, true, true, true, true, true, true, false] rfl rfl (any_of HT_.out (by kernel_rfl)) (fun _ _ _ h => h) (Or.inl ⟨by rfl, ?_⟩) ?_ ?_
      rotate_left
      · intro w'
        go_simp
        with_reducible rfl
      rotate_left
      · simp only [Act.put, List.setIfInBounds_toArray, List.set_cons_zero, List.set_cons_succ, i64_w, i32_w]
        rfl
      refine pure_ (i := 13) (N := some 6) (v := ?_) (a' := ?_) #[true, true, true, true, true, true, true, true, true, true, true, true, true, true] rfl rfl (any_of HT_.out (by kernel_rfl)) (fun _ _ _ h => h) (Or.inl ⟨by rfl, ?_⟩) ?_ ?_
      rotate_left
      · intro w'
        go_simp
        with_reducible rfl
      rotate_left
      · simp only [Act.put, List.setIfInBounds_toArray, List.set_cons_zero, List.set_cons_succ, i64_w, i32_w]
        rfl
      refine done_ (done_of HT_.out (by kernel_rfl)) ?_
      try go_wp2
      go_ret
      exact ⟨by first | rfl | (simp [errW_none, errW_some] <;> rfl) | (simp [*, errW_none, errW_some] <;> rfl), by repeat (first | (with_reducible first | exact HB.out | apply below_alloc | apply pw_below_drewN | apply below_drew1 | refine below_set ?_ GE315001.out | refine below_set ?_ GE315002.out) | exact HB.out)⟩
    · rw [if_neg c5] at H
      exact absurd H (by simp)
  · rw [if_neg c4] at H
    exact absurd H (by simp)
set_option maxHeartbeats 8000000 in
set_option maxRecDepth 100000 in
theorem insCmp_calls (gf : Nat) (lb : Array Value) (lt : Int → Int → Bool) (p : Int → Prop) (g cap n B : Nat) (xs : List Int) (w : World) (ok : Nat → Prop) (eg : ∀ args w, (callFunc gf args).run Try.prog w = .ok (.enter gf args) w)
    (hR : Kd.R (Kd.int .i64) 3 w B ok (.slice (some ⟨g, 0, none⟩) n cap) xs) (hp : ∀ x ∈ xs, p x) (hc : CmpB Try.prog gf lb lt p g w) :
    Calls Try.prog 136 #[.slice (some ⟨g, 0, none⟩) n cap, .int .i64 0, .int .i64 (n : Int), .func (.func gf) #[] lb] w fun e w' => e = .returned (.tuple #[]) ∧ Kd.R (Kd.int .i64) 3 w' B ok (.slice (some ⟨g, 0, none⟩) n cap) (insTo lt n xs) ∧ ButG w w' g := by
  obtain ⟨hn, hcap, hC⟩ := Kd.R_reads' hR
  have hm : n ≤ 9223372036854775807 := by rw [hn]; exact hC.2.1
  have HR := Aside0.mk hR
  have HP := Aside0.mk hp
  have HC := Aside0.mk hc
  have HN := Aside0.mk hn
  clear hR hp hc hn hC hcap
  go_enter Try.func136, Try.ntmps136
  go_wp2
  go_loopg [8] n (fun gg s8 W => ∃ (i : Nat), 1 ≤ i ∧ i ≤ n + 1 ∧ n + 1 - i ≤ gg ∧ s8 = .int .i64 i ∧ Aside0 (i ≤ n ∨ n = 0) ∧ Aside0 (Kd.R (Kd.int .i64) 3 W B ok (.slice (some ⟨g, 0, none⟩) n cap) (insTo lt i xs)) ∧ Aside0 (ButG w W g))
  case atStart => exact ⟨1, by omega, by omega, by omega, by first | rfl | go_num, ⟨by omega⟩, HR, ⟨ButG.refl _ _⟩⟩
  case round =>
    obtain ⟨i, hi1, hi, hgg, rfl, HI, HRi, HBi⟩ := hrel
    by_cases hin : i < n
    case pos =>
      have hin2 : (i : Int) < (n : Int) := by omega
      go_wp2
      have hsw : insTo lt (i + 1) xs = sink lt i (insTo lt i xs) := rfl
      have HSW := Aside0.mk hsw
      have hal : ∀ x ∈ insTo lt i xs, p x := insTo_all lt i xs (by have := HN.out; omega) HP.out
      have HAL := Aside0.mk hal
      have hll : (insTo lt i xs).length = n := by rw [insTo_len]; exact HN.out.symm
      have HLL := Aside0.mk hll
      clear hal hll hsw
      go_loopg [9] i (fun gg s9 W => ∃ (j : Nat) (cur : List Int), j ≤ i ∧ j ≤ gg ∧ s9 = .int .i64 j ∧ Aside0 (sink lt j cur = sink lt i (insTo lt i xs)) ∧ Aside0 (∀ x ∈ cur, p x) ∧ Aside0 (cur.length = n) ∧ Aside0 (Kd.R (Kd.int .i64) 3 W B ok (.slice (some ⟨g, 0, none⟩) n cap) cur) ∧ Aside0 (ButG w W g))
      case atStart => exact ⟨i, insTo lt i xs, by omega, by omega, rfl, ⟨rfl⟩, HAL, HLL, HRi, HBi⟩
      case round =>
        obtain ⟨j, cur, hj, hgg2, rfl, HT, HPc, HLc, HRc, HBc⟩ := hrel
        obtain ⟨wC, hwC⟩ : ∃ wC, wC = wr := ⟨_, rfl⟩
        subst hwC
        rcases (show j = 0 ∨ 0 < j by omega) with hj0 | hj0
        case inl =>
          subst hj0
          go_upto_region 4 with fail
          go_region
          all_goals go_wp2
          go_roundg (n + 1 - (i + 1))
          case measure => omega
          case rel => exact ⟨i + 1, by omega, by omega, by omega, by first | go_num | (rw [w64 (by omega) (by omega)]; go_num), ⟨.inl (by omega)⟩, ⟨Kd.R_drew (by have := HRc.out; have h := HT.out; rw [HSW.out, ← h]; exact this)⟩, ⟨HBc.out.below (below_drew (Below.refl _ _))⟩⟩
        case inr =>
          obtain ⟨m, rfl⟩ : ∃ m, j = m + 1 := ⟨j - 1, by omega⟩
          have hmn : (m : Int) + 1 < (n : Int) := by omega
          have hmn1 : (m : Int) < (n : Int) := by omega
          have hm0 : (0 : Int) < (m : Int) + 1 := by omega
          obtain ⟨hx1, hf1⟩ := Kd.R_celln 0 HRc.out ((m + 1 : Nat) : Int) (by omega) (by omega)
          obtain ⟨hx0, hf0⟩ := Kd.R_celln 0 HRc.out (m : Int) (by omega) (by omega)
          rw [Int.toNat_natCast] at hx0 hx1 hf0 hf1
          rw [show rdOf 0 cur ((m + 1 : Nat) : Int) = cur.getD (m + 1) 0 from rfl] at hx1
          rw [show rdOf 0 cur (m : Int) = cur.getD m 0 from rfl] at hx0
          obtain ⟨x, hxx⟩ : ∃ x, x = cur.getD (m + 1) 0 := ⟨_, rfl⟩
          obtain ⟨y, hyy⟩ : ∃ y, y = cur.getD m 0 := ⟨_, rfl⟩
          rw [← hxx] at hx1
          rw [← hyy] at hx0
          have hpx : p x := HPc.out x (by rw [hxx, List.getD_eq_getElem?_getD, List.getElem?_eq_getElem (by have := HLc.out; omega)]; exact List.getElem_mem _)
          have hpy : p y := HPc.out y (by rw [hyy, List.getD_eq_getElem?_getD, List.getElem?_eq_getElem (by have := HLc.out; omega)]; exact List.getElem_mem _)
          have HXY := Aside0.mk (And.intro hxx hyy)
          have HPP := Aside0.mk (And.intro hpx hpy)
          have HJ := Aside0.mk hj
          clear hxx hyy hpx hpy hj hf0 hf1
          have hk1 : (0 : Int) ≤ (m : Int) + 1 := by omega
          have hk0 : (0 : Int) ≤ (m : Int) := by omega
          have hk2 : IntKind.i64.wrap ((m : Int) + 1 - 1) = (m : Int) := by rw [i64_w, w64 (by omega) (by omega)]; omega
          have hk5 : IntKind.i64.wrap (m : Int) = (m : Int) := by rw [i64_w, w64 (by omega) (by omega)]
          have hk6 : wrap64 (m : Int) = (m : Int) := by rw [w64 (by omega) (by omega)]
          simp only [Int.natCast_add, Int.natCast_one]
          go_upto_region 4 with fail
          go_region_held3 (fun w' => w'.cell? ⟨g, m + 1, none⟩ = some (.int .i64 x) ∧ w'.cell? ⟨g, m, none⟩ = some (.int .i64 y) ∧ Below wC.heap.size wC w')
            ((refine keep2 hx1 hx0 ?_; repeat (first | assumption | exact Below.refl _ _ | apply pw_below_drewN | apply below_drew | apply below_alloc | (apply And.right; apply And.right; assumption) | refine below_step ?_ (by assumption))))
            (first | (go_at_fn gf; refine (HC.out _ x y HPP.out.1 HPP.out.2 (HBc.out.below (by (apply And.right; apply And.right; assumption)))).mono ?_; rintro e w3 ⟨c, rfl, hcd, hb4⟩))
          have hBw : Below wC.heap.size wC w3 := by
            apply And.right
            apply And.right
            assumption
          have hR3 := Kd.R_below HRc.out hBw
          have HBw := Aside0.mk (HBc.out.below hBw)
          obtain ⟨hz1, hf1⟩ := Kd.R_celln 0 hR3 ((m + 1 : Nat) : Int) (by omega) (by omega)
          obtain ⟨hz0, hf0⟩ := Kd.R_celln 0 hR3 (m : Int) (by omega) (by omega)
          rw [Int.toNat_natCast] at hz0 hz1 hf0 hf1
          rw [show rdOf 0 cur ((m + 1 : Nat) : Int) = cur.getD (m + 1) 0 from rfl, ← HXY.out.1] at hz1
          rw [show rdOf 0 cur (m : Int) = cur.getD m 0 from rfl, ← HXY.out.2] at hz0
          have HR3 := Aside0.mk hR3
          clear hBw hR3 hx0 hx1
          cases hlt : lt x y
          case true =>
            have hc0 : c < 0 := by rw [hlt] at hcd; exact of_decide_eq_true hcd
            have HLT := Aside0.mk hlt
            clear hcd hlt
            have hRn := Kd.R_putn (Kd.R_putn HR3.out ((m + 1 : Nat) : Int) y) (m : Int) x
            rw [Int.toNat_natCast, Int.toNat_natCast] at hRn
            have hsw : (cur.set (m + 1) y).set m x = swap2 cur m := by rw [HXY.out.1, HXY.out.2]; rfl
            rw [hsw] at hRn
            have hBn := (HBw.out.set (m + 1) (.int .i64 y)).set m (.int .i64 x)
            have hTn : sink lt m (swap2 cur m) = sink lt i (insTo lt i xs) := by
              rw [← HT.out]
              show _ = sink lt (m + 1) cur
              rw [sink, if_pos (by rw [← HXY.out.1, ← HXY.out.2]; exact HLT.out)]
            have HRn := Aside0.mk hRn
            have HBn := Aside0.mk hBn
            have HTn := Aside0.mk hTn
            have HPn := Aside0.mk (swap2_all (j := m) (by have := HLc.out; omega) HPc.out)
            have HLn := Aside0.mk ((swap2_len cur m).trans HLc.out)
            clear hRn hBn hTn hsw
            go_upto_region 6 with fail
            go_region
            all_goals go_wp2
            go_roundg m
            case measure => omega
            case rel => exact ⟨m, swap2 cur m, by have := HJ.out; omega, by omega, by first | rfl | go_num, HTn, HPn, HLn, ⟨Kd.R_drew HRn.out⟩, ⟨HBn.out.below (below_drew (Below.refl _ _))⟩⟩
          case false =>
            have hc0 : ¬ c < 0 := by rw [hlt] at hcd; exact of_decide_eq_false hcd
            have HLT := Aside0.mk hlt
            clear hcd hlt
            go_wp2
            go_roundg (n + 1 - (i + 1))
            case measure => omega
            case rel => exact ⟨i + 1, by omega, by omega, by omega, by first | go_num | (rw [w64 (by omega) (by omega)]; go_num), ⟨.inl (by omega)⟩, ⟨by have h := HT.out; rw [sink, if_neg (by rw [← HXY.out.1, ← HXY.out.2, HLT.out]; decide)] at h; rw [HSW.out, ← h]; exact HR3.out⟩, ⟨HBw.out⟩⟩
    case neg =>
      have hfin : insTo lt i xs = insTo lt n xs := by
        rcases HI.out with h | h
        · rw [show i = n by omega]
        · have hx0 : xs = [] := List.eq_nil_of_length_eq_zero (by rw [← HN.out]; exact h)
          have : i = 1 := by omega
          subst this
          subst hx0
          rw [h]
          rfl
      have hRi := HRi.out
      rw [hfin] at hRi
      have HRF := Aside0.mk hRi
      clear hRi
      go_wp2
      first | go_end0 | (refine bodyPost_ret (results_none rfl _ _ _) rfl ?_)
      exact ⟨rfl, HRF.out, HBi.out⟩
set_option maxHeartbeats 8000000 in
set_option maxRecDepth 100000 in
theorem insNil_calls (f : Value) (w : World) :
    Calls Try.prog 136 #[.slice none 0 0, .int .i64 0, .int .i64 0, f] w fun e w' => e = .returned (.tuple #[]) ∧ Below w.heap.size w w' := by
  go_enter Try.func136, Try.ntmps136
  go_wp2
  go_loopg [8] 0 (fun gg s8 W => s8 = .int .i64 1 ∧ W = w)
  case atStart => exact ⟨rfl, rfl⟩
  case round =>
    obtain ⟨rfl, rfl⟩ := hrel
    go_wp2
    first | go_end0 | (refine bodyPost_ret (results_none rfl _ _ _) rfl ?_)
    exact ⟨rfl, Below.refl _ _⟩
set_option maxHeartbeats 8000000 in
set_option maxRecDepth 100000 in
theorem stableCmp_calls (ad : Option Addr) (n cap : Nat) (f : Value) (w : World) (Q : World → Prop) (hn : n < 20)
    (hi : Calls Try.prog 136 #[.slice ad n cap, .int .i64 0, .int .i64 (n : Int), f] w fun e w' => e = .returned (.tuple #[]) ∧ Q w') :
    Calls Try.prog 120 #[.slice ad n cap, .int .i64 (n : Int), f] w fun e w' => e = .returned (.tuple #[]) ∧ Q w' := by
  have HI := Aside0.mk hi
  have h1 : ¬ (20 : Int) ≤ (n : Int) := by omega
  have h2 : ¬ (20 : Int) < (n : Int) := by omega
  clear hi
  go_enter Try.func120, Try.ntmps120
  go_wp2
  go_loopg [7, 8] 0 (fun gg s7 s8 W => s7 = .int .i64 0 ∧ s8 = .int .i64 20 ∧ W = w)
  case atStart => exact ⟨rfl, rfl, rfl⟩
  case round =>
    obtain ⟨rfl, rfl, rfl⟩ := hrel
    go_wp2_with (go_at_call 136; refine HI.out.mono ?_; rintro e w2 ⟨rfl, hq⟩; have HQ := Aside0.mk hq; clear hq)
    go_loopg [6] 0 (fun gg s6 W => s6 = .int .i64 20 ∧ W = w2)
    case atStart => exact ⟨rfl, rfl⟩
    case round =>
      obtain ⟨rfl, rfl⟩ := hrel
      go_wp2
      first | go_end0 | (refine bodyPost_ret (results_none rfl _ _ _) rfl ?_)
      exact ⟨rfl, HQ.out⟩
set_option maxHeartbeats 8000000 in
set_option maxRecDepth 100000 in
theorem sortStable_calls (ad : Option Addr) (n cap : Nat) (f : Value) (w : World) (Q : World → Prop) (hn : n < 20)
    (hi : Calls Try.prog 136 #[.slice ad n cap, .int .i64 0, .int .i64 (n : Int), f] w fun e w' => e = .returned (.tuple #[]) ∧ Q w') :
    Calls Try.prog 106 #[.slice ad n cap, f] w fun e w' => e = .returned (.tuple #[]) ∧ Q w' := by
  have HS := Aside0.mk (stableCmp_calls ad n cap f w Q hn hi)
  clear hi
  go_enter Try.func106, Try.ntmps106
  go_wp2_with (go_at_call 120; refine HS.out.mono ?_; rintro e w2 ⟨rfl, hq⟩; have HQ := Aside0.mk hq; clear hq)
  first | go_end0 | (refine bodyPost_ret (results_none rfl _ _ _) rfl ?_)
  exact ⟨rfl, HQ.out⟩
theorem own_two {w : World} {B : Nat} {ok : Nat → Prop} {v : Value} {xs : List Int} (h : Kd.R (Kd.int .i64) 3 w B ok v xs) : (v = .slice none 0 0 ∧ xs = []) ∨ ∃ g cap, v = .slice (some ⟨g, 0, none⟩) xs.length cap ∧ B ≤ g := by
  obtain ⟨inner, ho⟩ := Kd.R_own h
  rcases ho.2 with ⟨rfl, h0⟩ | ⟨g, cap, cur, rfl, hg, _⟩
  · exact .inl ⟨rfl, List.eq_nil_of_length_eq_zero h0⟩
  · exact .inr ⟨g, cap, rfl, hg⟩
theorem sortStable_own (gf : Nat) (lb : Array Value) (lt : Int → Int → Bool) (p : Int → Prop) (B : Nat) (xs : List Int) (v : Value) (w : World) (ok : Nat → Prop) (eg : ∀ args w, (callFunc gf args).run Try.prog w = .ok (.enter gf args) w)
    (hR : Kd.R (Kd.int .i64) 3 w B ok v xs) (hl : xs.length < 20) (hp : ∀ x ∈ xs, p x) (hc : ∀ g, B ≤ g → CmpB Try.prog gf lb lt p g w) :
    Calls Try.prog 106 #[v, .func (.func gf) #[] lb] w fun e w' => e = .returned (.tuple #[]) ∧ Kd.R (Kd.int .i64) 3 w' B ok v (insTo lt xs.length xs) ∧ ∃ g, B ≤ g ∧ ButG w w' g := by
  rcases own_two hR with ⟨rfl, rfl⟩ | ⟨g, cap, rfl, hg⟩
  · refine (sortStable_calls none 0 0 (.func (.func gf) #[] lb) w (fun w' => Below w.heap.size w w') (by decide) (insNil_calls _ _)).mono ?_
    rintro e w' ⟨rfl, hb⟩
    exact ⟨rfl, Kd.R_below hR hb, B, Nat.le_refl _, (ButG.refl w B).below hb⟩
  · refine (sortStable_calls (some ⟨g, 0, none⟩) xs.length cap (.func (.func gf) #[] lb) w (fun w' => Kd.R (Kd.int .i64) 3 w' B ok (.slice (some ⟨g, 0, none⟩) xs.length cap) (insTo lt xs.length xs) ∧ ButG w w' g) hl (insCmp_calls gf lb lt p g cap xs.length B xs w ok eg hR hp (hc g hg))).mono ?_
    rintro e w' ⟨rfl, h1, h2⟩
    exact ⟨rfl, h1, g, hg, h2⟩
def cmp_isNaN_int.f (a0 : Int) : Option (Bool) := some (a0 != a0)
set_option maxHeartbeats 8000000 in
set_option maxRecDepth 100000 in
theorem cmp_isNaN_int.calls (a0 : Int) (r : Bool) (w : World) (h : cmp_isNaN_int.f a0 = some r) :
    Calls Try.prog 121 #[.int .i64 a0] w fun e w' => e = .returned (.bool r) ∧ Drawn0 w w' := by
  have H : (some (a0 != a0)) = some r := h
  clear h
  obtain rfl := Option.some.inj H
  go_enter Try.func121, Try.ntmps121
  go_wp2
  go_ret
  exact ⟨by first | rfl | (simp; done) | (simp [*]; done), by repeat (first | exact Drawn0.refl _ | apply Drawn0.step)⟩
def cmp_Compare_int.f (a0 : Int) (a1 : Int) : Option (Int) := (cmp_isNaN_int.f a0).bind fun t324001 => ((cmp_isNaN_int.f a1).bind fun t324002 => (if t324001 = true then (if t324002 = true then (some 0) else (some (-1))) else (if t324002 = true then (some 1) else (if a0 < a1 then (some (-1)) else (if a0 > a1 then (some 1) else (some 0))))))
set_option maxHeartbeats 8000000 in
set_option maxRecDepth 100000 in
theorem cmp_Compare_int.calls (a0 : Int) (a1 : Int) (r : Int) (w : World) (h : cmp_Compare_int.f a0 a1 = some r) :
    Calls Try.prog 108 #[.int .i64 a0, .int .i64 a1] w fun e w' => e = .returned (.int .i64 r) ∧ Drawn0 w w' := by
  have H : ((cmp_isNaN_int.f a0).bind fun t324001 => ((cmp_isNaN_int.f a1).bind fun t324002 => (if t324001 = true then (if t324002 = true then (some 0) else (some (-1))) else (if t324002 = true then (some 1) else (if a0 < a1 then (some (-1)) else (if a0 > a1 then (some 1) else (some 0))))))) = some r := h
  clear h
  replace H := Option.bind_eq_some_iff.mp H
  obtain ⟨t324001, A30, H⟩ := H
  replace H : ((cmp_isNaN_int.f a1).bind fun t324002 => (if t324001 = true then (if t324002 = true then (some 0) else (some (-1))) else (if t324002 = true then (some 1) else (if a0 < a1 then (some (-1)) else (if a0 > a1 then (some 1) else (some 0)))))) = some r := H
  have A3 := Aside0.mk A30
  clear A30
  replace H := Option.bind_eq_some_iff.mp H
  obtain ⟨t324002, A40, H⟩ := H
  replace H : (if t324001 = true then (if t324002 = true then (some 0) else (some (-1))) else (if t324002 = true then (some 1) else (if a0 < a1 then (some (-1)) else (if a0 > a1 then (some 1) else (some 0))))) = some r := H
  have A4 := Aside0.mk A40
  clear A40
  by_cases c5 : t324001 = true
  · subst c5
    have H1 : (if t324002 = true then (some 0) else (some (-1))) = some r := by rw [if_pos rfl] at H; exact H
    clear H
    have H := H1
    clear H1
    by_cases c6 : t324002 = true
    · subst c6
      have H1 : (some 0) = some r := by rw [if_pos rfl] at H; exact H
      clear H
      have H := H1
      clear H1
      obtain rfl := Option.some.inj H
      go_enter Try.func108, Try.ntmps108
      go_wp2_with (first | ((with_reducible refine gate_callee (f := 121) rfl ?_); refine goesL_ (some 8) rfl rfl Try.func121 (by kernel_rfl) rfl #[.int .i64 a0] rfl (by (try simp only [List.map_toArray, List.map_cons, List.map_nil]); first | done | rfl | (simp only [List.length_drop, List.length_take]; rfl)) ?_; (with_reducible refine (cmp_isNaN_int.calls a0 true _ A3.out).mono ?_); rintro e w' ⟨rfl, ⟨nd, rfl⟩⟩; refine ⟨_, rfl, ?_⟩) | ((with_reducible refine gate_callee (f := 121) rfl ?_); refine goesL_ (some 10) rfl rfl Try.func121 (by kernel_rfl) rfl #[.int .i64 a1] rfl (by (try simp only [List.map_toArray, List.map_cons, List.map_nil]); first | done | rfl | (simp only [List.length_drop, List.length_take]; rfl)) ?_; (with_reducible refine (cmp_isNaN_int.calls a1 true _ A4.out).mono ?_); rintro e w' ⟨rfl, ⟨nd, rfl⟩⟩; refine ⟨_, rfl, ?_⟩))
      go_ret
      exact ⟨by first | rfl | (simp; done) | (simp [*]; done), by repeat (first | exact Drawn0.refl _ | apply Drawn0.step)⟩
    · replace c6 := Bool.eq_false_iff.mpr c6
      subst c6
      have H1 : (some (-1)) = some r := by rw [if_neg (show ¬ (false = true) by decide)] at H; exact H
      clear H
      have H := H1
      clear H1
      obtain rfl := Option.some.inj H
      go_enter Try.func108, Try.ntmps108
      go_wp2_with (first | ((with_reducible refine gate_callee (f := 121) rfl ?_); refine goesL_ (some 8) rfl rfl Try.func121 (by kernel_rfl) rfl #[.int .i64 a0] rfl (by (try simp only [List.map_toArray, List.map_cons, List.map_nil]); first | done | rfl | (simp only [List.length_drop, List.length_take]; rfl)) ?_; (with_reducible refine (cmp_isNaN_int.calls a0 true _ A3.out).mono ?_); rintro e w' ⟨rfl, ⟨nd, rfl⟩⟩; refine ⟨_, rfl, ?_⟩) | ((with_reducible refine gate_callee (f := 121) rfl ?_); refine goesL_ (some 10) rfl rfl Try.func121 (by kernel_rfl) rfl #[.int .i64 a1] rfl (by (try simp only [List.map_toArray, List.map_cons, List.map_nil]); first | done | rfl | (simp only [List.length_drop, List.length_take]; rfl)) ?_; (with_reducible refine (cmp_isNaN_int.calls a1 false _ A4.out).mono ?_); rintro e w' ⟨rfl, ⟨nd, rfl⟩⟩; refine ⟨_, rfl, ?_⟩))
      go_ret
      exact ⟨by first | rfl | (simp; done) | (simp [*]; done), by repeat (first | exact Drawn0.refl _ | apply Drawn0.step)⟩
  · replace c5 := Bool.eq_false_iff.mpr c5
    subst c5
    have H1 : (if t324002 = true then (some 1) else (if a0 < a1 then (some (-1)) else (if a0 > a1 then (some 1) else (some 0)))) = some r := by rw [if_neg (show ¬ (false = true) by decide)] at H; exact H
    clear H
    have H := H1
    clear H1
    by_cases c7 : t324002 = true
    · subst c7
      have H1 : (some 1) = some r := by rw [if_pos rfl] at H; exact H
      clear H
      have H := H1
      clear H1
      obtain rfl := Option.some.inj H
      go_enter Try.func108, Try.ntmps108
      go_wp2_with (first | ((with_reducible refine gate_callee (f := 121) rfl ?_); refine goesL_ (some 8) rfl rfl Try.func121 (by kernel_rfl) rfl #[.int .i64 a0] rfl (by (try simp only [List.map_toArray, List.map_cons, List.map_nil]); first | done | rfl | (simp only [List.length_drop, List.length_take]; rfl)) ?_; (with_reducible refine (cmp_isNaN_int.calls a0 false _ A3.out).mono ?_); rintro e w' ⟨rfl, ⟨nd, rfl⟩⟩; refine ⟨_, rfl, ?_⟩) | ((with_reducible refine gate_callee (f := 121) rfl ?_); refine goesL_ (some 10) rfl rfl Try.func121 (by kernel_rfl) rfl #[.int .i64 a1] rfl (by (try simp only [List.map_toArray, List.map_cons, List.map_nil]); first | done | rfl | (simp only [List.length_drop, List.length_take]; rfl)) ?_; (with_reducible refine (cmp_isNaN_int.calls a1 true _ A4.out).mono ?_); rintro e w' ⟨rfl, ⟨nd, rfl⟩⟩; refine ⟨_, rfl, ?_⟩))
      go_ret
      exact ⟨by first | rfl | (simp; done) | (simp [*]; done), by repeat (first | exact Drawn0.refl _ | apply Drawn0.step)⟩
    · replace c7 := Bool.eq_false_iff.mpr c7
      subst c7
      have H1 : (if a0 < a1 then (some (-1)) else (if a0 > a1 then (some 1) else (some 0))) = some r := by rw [if_neg (show ¬ (false = true) by decide)] at H; exact H
      clear H
      have H := H1
      clear H1
      by_cases c8 : a0 < a1
      · rw [if_pos c8] at H
        have c8b0 : decide (a0 < a1) = true := decide_eq_true c8
        clear c8
        obtain rfl := Option.some.inj H
        go_enter Try.func108, Try.ntmps108
        go_wp2_with (first | ((with_reducible refine gate_callee (f := 121) rfl ?_); refine goesL_ (some 8) rfl rfl Try.func121 (by kernel_rfl) rfl #[.int .i64 a0] rfl (by (try simp only [List.map_toArray, List.map_cons, List.map_nil]); first | done | rfl | (simp only [List.length_drop, List.length_take]; rfl)) ?_; (with_reducible refine (cmp_isNaN_int.calls a0 false _ A3.out).mono ?_); rintro e w' ⟨rfl, ⟨nd, rfl⟩⟩; refine ⟨_, rfl, ?_⟩) | ((with_reducible refine gate_callee (f := 121) rfl ?_); refine goesL_ (some 10) rfl rfl Try.func121 (by kernel_rfl) rfl #[.int .i64 a1] rfl (by (try simp only [List.map_toArray, List.map_cons, List.map_nil]); first | done | rfl | (simp only [List.length_drop, List.length_take]; rfl)) ?_; (with_reducible refine (cmp_isNaN_int.calls a1 false _ A4.out).mono ?_); rintro e w' ⟨rfl, ⟨nd, rfl⟩⟩; refine ⟨_, rfl, ?_⟩))
        go_ret
        exact ⟨by first | rfl | (simp; done) | (simp [*]; done), by repeat (first | exact Drawn0.refl _ | apply Drawn0.step)⟩
      · rw [if_neg c8] at H
        have c8b0 : decide (a0 < a1) = false := decide_eq_false c8
        clear c8
        by_cases c9 : a0 > a1
        · rw [if_pos c9] at H
          have c9b0 : decide (a1 < a0) = true := decide_eq_true c9
          clear c9
          obtain rfl := Option.some.inj H
          go_enter Try.func108, Try.ntmps108
          go_wp2_with (first | ((with_reducible refine gate_callee (f := 121) rfl ?_); refine goesL_ (some 8) rfl rfl Try.func121 (by kernel_rfl) rfl #[.int .i64 a0] rfl (by (try simp only [List.map_toArray, List.map_cons, List.map_nil]); first | done | rfl | (simp only [List.length_drop, List.length_take]; rfl)) ?_; (with_reducible refine (cmp_isNaN_int.calls a0 false _ A3.out).mono ?_); rintro e w' ⟨rfl, ⟨nd, rfl⟩⟩; refine ⟨_, rfl, ?_⟩) | ((with_reducible refine gate_callee (f := 121) rfl ?_); refine goesL_ (some 10) rfl rfl Try.func121 (by kernel_rfl) rfl #[.int .i64 a1] rfl (by (try simp only [List.map_toArray, List.map_cons, List.map_nil]); first | done | rfl | (simp only [List.length_drop, List.length_take]; rfl)) ?_; (with_reducible refine (cmp_isNaN_int.calls a1 false _ A4.out).mono ?_); rintro e w' ⟨rfl, ⟨nd, rfl⟩⟩; refine ⟨_, rfl, ?_⟩))
          go_ret
          exact ⟨by first | rfl | (simp; done) | (simp [*]; done), by repeat (first | exact Drawn0.refl _ | apply Drawn0.step)⟩
        · rw [if_neg c9] at H
          have c9b0 : decide (a1 < a0) = false := decide_eq_false c9
          clear c9
          obtain rfl := Option.some.inj H
          go_enter Try.func108, Try.ntmps108
          go_wp2_with (first | ((with_reducible refine gate_callee (f := 121) rfl ?_); refine goesL_ (some 8) rfl rfl Try.func121 (by kernel_rfl) rfl #[.int .i64 a0] rfl (by (try simp only [List.map_toArray, List.map_cons, List.map_nil]); first | done | rfl | (simp only [List.length_drop, List.length_take]; rfl)) ?_; (with_reducible refine (cmp_isNaN_int.calls a0 false _ A3.out).mono ?_); rintro e w' ⟨rfl, ⟨nd, rfl⟩⟩; refine ⟨_, rfl, ?_⟩) | ((with_reducible refine gate_callee (f := 121) rfl ?_); refine goesL_ (some 10) rfl rfl Try.func121 (by kernel_rfl) rfl #[.int .i64 a1] rfl (by (try simp only [List.map_toArray, List.map_cons, List.map_nil]); first | done | rfl | (simp only [List.length_drop, List.length_take]; rfl)) ?_; (with_reducible refine (cmp_isNaN_int.calls a1 false _ A4.out).mono ?_); rintro e w' ⟨rfl, ⟨nd, rfl⟩⟩; refine ⟨_, rfl, ?_⟩))
          go_ret
          exact ⟨by first | rfl | (simp; done) | (simp [*]; done), by repeat (first | exact Drawn0.refl _ | apply Drawn0.step)⟩
end Go.Proofs.Yteopooljohdoiaa.Px
