/- Contracts of the program's functions and plain words (part 1): each says what a call answers and that what lay in memory lies; no condition but what stands in each theorem -/
import Derived.Test.YteopooljohdoiaaWWords
import Derived.Test.YteopooljohdoiaaWLast
import Derived.WalkKit
import Derived.Lib.SliceRun
import Derived.Deep.LoopGhost
import Derived.Shelf.Abstract
import Derived.RangeFuncKeeps
import Derived.RangeFuncBound
import Derived.RangeFuncCalls
import Derived.RangeFuncLeaves
import Derived.Shelf.RegionOpen
import Derived.OwnWalkIn
import Derived.TacticsInMore
import Derived.LoopNIn
import Derived.LoopIn
import Derived.StillTailTactics
import Derived.Deep.RegionHeld3
import Derived.ChangeKeysEq
import Derived.Test.YteopooljohdoiaaWMore
import Derived.Test.YteopooljohdoiaaProg
import Derived.Below
import Derived.Deep.Draws
import Derived.Deep.AppendLies
import Derived.Maps.AppendAt
import Derived.OwnWalk
import Derived.Laws.BytesArg
import Derived.Laws.MakeOwn
import Derived.Laws.OwnMore
import Derived.Deep.OwnRows
import Derived.Tactics
import Derived.Lib.ConvBytes
import Derived.Laws.Slices
import Derived.KernelRfl
import Derived.RowKit3
import Derived.Deep.QuietTactic
import Derived.BigQuiet
import Derived.WideLaws
import Derived.Deep.DeepCutAuto
import Derived.Deep.CutBlock
import Derived.Laws.Rows
import Derived.Lib.AppendStr
import Derived.ArgAppend
import Derived.Laws.IdiomCopy
import Derived.OrdersHeld
import Derived.Laws.BitsLemmas
import Derived.RowKit
import Derived.Test.YteopooljohdoiaaWTab
import Derived.Test.YteopooljohdoiaaWFour
import Derived.Test.YteopooljohdoiaaWQPut
import Derived.Test.YteopooljohdoiaaWApart
import Derived.Test.YteopooljohdoiaaWArr
import Derived.Test.YteopooljohdoiaaWZeros
import Derived.Test.YteopooljohdoiaaWFoot
import Derived.Test.YteopooljohdoiaaWKept
import Derived.Test.YteopooljohdoiaaWShare
import Derived.Test.YteopooljohdoiaaWN
import Derived.Test.YteopooljohdoiaaWFootNe
import Derived.Test.YteopooljohdoiaaWAt
import Derived.Test.YteopooljohdoiaaWEqStruct
import Derived.Test.YteopooljohdoiaaWRepsOne
import Derived.Test.YteopooljohdoiaaWInv
import Derived.Test.YteopooljohdoiaaWInvWords
import Derived.Test.YteopooljohdoiaaWGuard
import Derived.Test.YteopooljohdoiaaWNEv
set_option linter.unusedVariables false
set_option linter.unusedSimpArgs false
namespace Go.Proofs.Yteopooljohdoiaa.Px
open Go.RowKit Go.Proofs.YteopooljohdoiaaW.PrintWords Go.Proofs.YteopooljohdoiaaW.PrintLast
theorem bel {p q : Prop} (h : p) (k : p → q := by (intro HB_; repeat (first | (with_reducible first | exact HB_ | apply below_alloc | apply pw_below_drewN | apply below_drew1) | exact HB_))) : q := k h
theorem belS {p q s : Prop} (h : p) (g : s) (k : p → s → q := by (intro HB_ GE_; repeat (first | (with_reducible first | exact HB_ | apply below_alloc | apply pw_below_drewN | apply below_drew1 | refine below_set ?_ GE_) | exact HB_))) : q := k h g
theorem belT {p q s t : Prop} (h : p) (g : s) (f : t) (k : p → s → t → q := by (intro HB_ GE_ GF_; repeat (first | (with_reducible first | exact HB_ | apply below_alloc | apply pw_below_drewN | apply below_drew1 | refine below_set ?_ GE_ | refine below_set ?_ GF_) | exact HB_))) : q := k h g f
theorem mpa {p : Prop} (h : p := by ((try simp only [List.map_toArray, List.map_cons, List.map_nil]); first | done | rfl | (simp only [List.length_drop, List.length_take]; rfl))) : p := h
theorem krl {p q : Prop} (h : p) (k : p → q := by (intro H_; (with_reducible repeat (first | apply Kd.R_alloc | apply Kd.R_drewN | apply Kd.R_drew)); exact H_)) : q := k h
theorem bkl {p q : Prop} (h : p) (k : p → q := by (intro H_; (with_reducible repeat (first | refine blk_drewN ?_ _ | refine blk_drew ?_ | refine blk_alloc ?_ _)); exact H_)) : q := k h
theorem asm_ {p : Prop} (h : p := by first | (with_reducible assumption) | assumption) : p := h
end Go.Proofs.Yteopooljohdoiaa.Px
namespace Go.Proofs.Yteopooljohdoiaa.Px
open Go.RowKit
def idxF {α : Type} (p : α → Bool) (l : List α) : Int := match l.findIdx? p with | some i => (i : Int) | none => -1
theorem idxF_hit {α : Type} {p : α → Bool} {l : List α} {d : α} {k : Nat} (hk : k < l.length) (h0 : ∀ j, j < k → p (l.getD j d) = false) (h1 : p (l.getD k d) = true) : idxF p l = k := by
  have : l.findIdx? p = some k := by
    rw [List.findIdx?_eq_some_iff_getElem]
    refine ⟨hk, ?_, ?_⟩
    · simpa [List.getD_eq_getElem?_getD, List.getElem?_eq_getElem hk] using h1
    · intro j hj
      have := h0 j hj
      have hj' : j < l.length := by omega
      simpa [List.getD_eq_getElem?_getD, List.getElem?_eq_getElem hj'] using this
  simp [idxF, this]
theorem idxF_miss {α : Type} {p : α → Bool} {l : List α} {d : α} (h0 : ∀ j, j < l.length → p (l.getD j d) = false) : idxF p l = -1 := by
  have : l.findIdx? p = none := by
    rw [List.findIdx?_eq_none_iff]
    intro x hx
    obtain ⟨j, hj, rfl⟩ := List.getElem_of_mem hx
    have := h0 j hj
    simpa [List.getD_eq_getElem?_getD, List.getElem?_eq_getElem hj] using this
  simp [idxF, this]
theorem idxF_any {α : Type} (p : α → Bool) (l : List α) : decide (0 ≤ idxF p l) = l.any p := by
  unfold idxF
  cases h : l.findIdx? p with
  | none =>
    rw [List.findIdx?_eq_none_iff] at h
    have : l.any p = false := by rw [List.any_eq_false]; intro x hx; simp [h x hx]
    simp [this]
  | some i =>
    rw [List.findIdx?_eq_some_iff_getElem] at h
    obtain ⟨hi, h1, _⟩ := h
    have : l.any p = true := by rw [List.any_eq_true]; exact ⟨l[i], List.getElem_mem hi, h1⟩
    simp [this]
def PredB {α : Type} (P : Program) (g : Nat) (lb : Array Value) (enc : α → Value) (p : α → Bool) (l : List α) (w : World) : Prop :=
  ∀ (W : World) (x : α), x ∈ l → Below w.heap.size w W → Calls P g (#[enc x] ++ lb) W fun e w' => e = .returned (.bool (p x)) ∧ Below W.heap.size W w'
def KeepSL (s l : Nat) (W W' : World) : Prop := W.heap.size ≤ W'.heap.size ∧ ∀ i, i < W.heap.size → i ≠ s → i ≠ l → W'.heap[i]? = W.heap[i]?
theorem KeepSL.refl (s l : Nat) (W : World) : KeepSL s l W W := ⟨Nat.le_refl _, fun _ _ _ _ => rfl⟩
theorem KeepSL.trans {s l : Nat} {A B C : World} (h : KeepSL s l A B) (k : KeepSL s l B C) : KeepSL s l A C :=
  ⟨Nat.le_trans h.1 k.1, fun i hi h1 h2 => (k.2 i (Nat.lt_of_lt_of_le hi h.1) h1 h2).trans (h.2 i hi h1 h2)⟩
theorem KeepSL.of_below {s l : Nat} {A B : World} (h : Below A.heap.size A B) : KeepSL s l A B := ⟨h.size, fun i hi _ _ => h.block i hi⟩
def permLoop (rec : List Int → Int → List (List Int × Int)) (b : List Int) : List Nat → Int → List (List Int × Int)
  | [], _ => []
  | n :: ns, s => if b.contains (n : Int) then permLoop rec b ns s else rec (b ++ [(n : Int)]) s ++ permLoop rec b ns (-s)
def permsOf (count : Nat) : Nat → List Int → Int → List (List Int × Int)
  | 0, b, s => [(b, s)]
  | d + 1, b, s => permLoop (permsOf count d) b (List.range count) s
theorem range_drop (count k : Nat) (h : k < count) : (List.range count).drop k = k :: (List.range count).drop (k + 1) := by
  rw [List.drop_eq_getElem_cons (by simpa using h)]
  simp
theorem range_drop_all (count : Nat) : (List.range count).drop count = [] := by simp
def prodTo (m : List (List Int)) (o : List Int) (sg : Int) : Nat → Int
  | 0 => sg
  | k + 1 => wrap64 (prodTo m o sg k * (m.getD k []).getD (o.getD k 0).toNat 0)
def detSum (m : List (List Int)) (l : List (List Int × Int)) : Int := l.foldl (fun s x => wrap64 (s + prodTo m x.1 x.2 m.length)) 0
theorem detSum_snoc (m : List (List Int)) (l : List (List Int × Int)) (o : List Int) (sg : Int) : detSum m (l ++ [(o, sg)]) = wrap64 (detSum m l + prodTo m o sg m.length) := by
  simp [detSum, List.foldl_append]
end Go.Proofs.Yteopooljohdoiaa.Px
namespace Go.Proofs.Yteopooljohdoiaa.Px
open Go.RowKit Go.Proofs.YteopooljohdoiaaW.PrintWords Go.Proofs.YteopooljohdoiaaW.PrintLast
def hdr (n g : Nat) : Value := .slice (some ⟨g, 0, none⟩) n n
def IntBlk (W : World) (g : Nat) (xs : List Int) : Prop := W.heap[g]? = some (.cells (nums .i64 xs).toArray 3 (0, 0))
theorem IntBlk.lt {W : World} {g : Nat} {xs : List Int} (h : IntBlk W g xs) : g < W.heap.size := blk_lt h
theorem IntBlk.cell {W : World} {g : Nat} {xs : List Int} (h : IntBlk W g xs) {i : Nat} (hi : i < xs.length) : W.cell? ⟨g, i, none⟩ = some (.int .i64 (xs.getD i 0)) := by
  refine (blk_cell h i).trans ?_
  simp [nums, List.getD_eq_getElem?_getD, List.getElem?_eq_getElem hi]
theorem IntBlk.frozen {W : World} {g : Nat} {xs : List Int} (h : IntBlk W g xs) (i : Nat) : W.frozen? ⟨g, i, none⟩ = false := blk_frozen h i
theorem IntBlk.set {W : World} {g : Nat} {xs : List Int} (h : IntBlk W g xs) (i : Nat) (v : Int) : IntBlk (W.setCell ⟨g, i, none⟩ (.int .i64 v)) g (xs.set i v) := by
  refine blk_put h i _ ?_
  simp [nums, List.map_set]
theorem IntBlk.far {W : World} {g g2 : Nat} {xs : List Int} (h : IntBlk W g xs) (hne : g ≠ g2) (i : Nat) (v : Value) : IntBlk (W.setCell ⟨g2, i, none⟩ v) g xs := blk_far (p := ⟨g2, i, none⟩) h hne v
theorem IntBlk.below {W W' : World} {g : Nat} {xs : List Int} (h : IntBlk W g xs) (hb : Below W.heap.size W W') : IntBlk W' g xs := blk_below h hb
theorem IntBlk.C {W : World} {g : Nat} {xs : List Int} (h : IntBlk W g xs) (hm : xs.length ≤ 9223372036854775807) : Kd.C (Kd.int .i64) W (some ⟨g, 0, none⟩) xs.length xs := by
  refine Kd.C_of_reads (d := (0 : Int)) (h1 := fun _ => rfl) ⟨rfl, hm, fun _ => ⟨_, rfl, fun j hj => ?_⟩⟩
  rw [add_plain]
  exact h.cell hj
theorem made_nums (n : Nat) : madeCells #[Value.int .i64 0] n = (nums .i64 (List.replicate n 0)).toArray := by
  apply Array.toList_inj.1
  apply List.ext_getElem
  · simp [nums, madeCells]
  · intro i h1 h2
    simp [nums, madeCells, Nat.mod_one]
theorem IntBlk.made (W : World) (n : Nat) : IntBlk (W.alloc (.cells (madeCells #[.int .i64 0] n) 3)) W.heap.size (List.replicate n 0) := by
  rw [made_nums]
  exact blk_new _ _
def HdrBlk (W : World) (Gm n : Nat) (gs : List Nat) : Prop := W.heap[Gm]? = some (.cells (gs.map (hdr n) ++ List.replicate (n - gs.length) (Value.slice none 0 0)).toArray 22 (0, 0))
theorem HdrBlk.cell {W : World} {Gm n : Nat} {gs : List Nat} (h : HdrBlk W Gm n gs) {i : Nat} (hi : i < gs.length) : W.cell? ⟨Gm, i, none⟩ = some (.slice (some ⟨gs.getD i 0, 0, none⟩) n n) := by
  refine (blk_cell h i).trans ?_
  simp [List.getD_eq_getElem?_getD, List.getElem?_eq_getElem hi, List.getElem?_append_left (show i < (gs.map (hdr n)).length by simpa using hi), hdr]
theorem HdrBlk.made (W : World) (n : Nat) : HdrBlk (W.alloc (.cells (madeCells #[.slice none 0 0] n) 22)) W.heap.size n [] := by
  have : madeCells #[Value.slice none 0 0] n = (([] : List Nat).map (hdr n) ++ List.replicate (n - 0) (Value.slice none 0 0)).toArray := by
    apply Array.toList_inj.1
    apply List.ext_getElem
    · simp [madeCells]
    · intro i h1 h2
      simp [madeCells, Nat.mod_one]
  rw [this]
  exact blk_new _ _
theorem HdrBlk.put {W : World} {Gm n : Nat} {gs : List Nat} (h : HdrBlk W Gm n gs) (hlt : gs.length < n) (g : Nat) : HdrBlk (W.setCell ⟨Gm, gs.length, none⟩ (.slice (some ⟨g, 0, none⟩) n n)) Gm n (gs ++ [g]) := by
  refine blk_put h _ _ ?_
  apply Array.toList_inj.1
  have e : n - gs.length = (n - (gs.length + 1)) + 1 := by omega
  simp only [List.setIfInBounds_toArray, List.length_append, List.length_singleton, List.map_append, List.map_cons, List.map_nil]
  rw [e, List.replicate_succ, List.set_append_right _ _ (by simp)]
  simp [hdr]
structure MatSt (W : World) (B Gm Gr n : Nat) (gs : List Nat) (rows : List (List Int)) (right : List Int) : Prop where
  len : gs.length = rows.length
  hd : HdrBlk W Gm n gs
  rt : IntBlk W Gr right
  row : ∀ i, i < gs.length → IntBlk W (gs.getD i 0) (rows.getD i []) ∧ (rows.getD i []).length = n ∧ B ≤ gs.getD i 0 ∧ gs.getD i 0 ≠ Gm ∧ gs.getD i 0 ≠ Gr
  nodup : ∀ i j, i < gs.length → j < gs.length → gs.getD i 0 = gs.getD j 0 → i = j
  rtlen : right.length = n
  bm : B ≤ Gm
  br : B ≤ Gr
  ne : Gm ≠ Gr
theorem MatSt.below {W W' : World} {B Gm Gr n : Nat} {gs : List Nat} {rows : List (List Int)} {right : List Int} (h : MatSt W B Gm Gr n gs rows right) (hb : Below W.heap.size W W') : MatSt W' B Gm Gr n gs rows right :=
  { h with hd := blk_below h.hd hb, rt := h.rt.below hb, row := fun i hi => ⟨(h.row i hi).1.below hb, (h.row i hi).2⟩ }
theorem MatSt.setRight {W : World} {B Gm Gr n : Nat} {gs : List Nat} {rows : List (List Int)} {right : List Int} (h : MatSt W B Gm Gr n gs rows right) (i : Nat) (v : Int) : MatSt (W.setCell ⟨Gr, i, none⟩ (.int .i64 v)) B Gm Gr n gs rows (right.set i v) :=
  { h with hd := blk_far (p := ⟨Gr, i, none⟩) h.hd h.ne _, rt := h.rt.set i v, row := fun j hj => ⟨(h.row j hj).1.far (h.row j hj).2.2.2.2 _ _, (h.row j hj).2⟩, rtlen := by simpa using h.rtlen }
theorem getD_set_same {α : Type} (l : List α) (i : Nat) (x d : α) (h : i < l.length) : (l.set i x).getD i d = x := by
  simp [List.getD_eq_getElem?_getD, List.getElem?_set, h]
theorem getD_set_other {α : Type} (l : List α) (i j : Nat) (x d : α) (h : i ≠ j) : (l.set i x).getD j d = l.getD j d := by
  simp [List.getD_eq_getElem?_getD, List.getElem?_set, h]
theorem MatSt.setEntry {W : World} {B Gm Gr n : Nat} {gs : List Nat} {rows : List (List Int)} {right : List Int} (h : MatSt W B Gm Gr n gs rows right) {i : Nat} (hi : i < gs.length) (k : Nat) (v : Int) :
    MatSt (W.setCell ⟨gs.getD i 0, k, none⟩ (.int .i64 v)) B Gm Gr n gs (rows.set i ((rows.getD i []).set k v)) right :=
  { h with
    len := by simpa using h.len
    hd := blk_far (p := ⟨gs.getD i 0, k, none⟩) h.hd (Ne.symm (h.row i hi).2.2.2.1) _
    rt := h.rt.far (Ne.symm (h.row i hi).2.2.2.2) _ _
    row := fun j hj => by
      by_cases e : i = j
      · subst e
        rw [getD_set_same _ _ _ _ (by rw [← h.len]; exact hi)]
        exact ⟨(h.row i hi).1.set k v, by simpa using (h.row i hi).2.1, (h.row i hi).2.2⟩
      · rw [getD_set_other _ _ _ _ _ e]
        exact ⟨(h.row j hj).1.far (fun e2 => e (h.nodup i j hi hj e2.symm)) _ _, (h.row j hj).2⟩ }
theorem MatSt.newRow {W : World} {B Gm Gr n : Nat} {gs : List Nat} {rows : List (List Int)} {right : List Int} (h : MatSt W B Gm Gr n gs rows right) (hlt : gs.length < n) {W2 : World} {g : Nat} {row : List Int} (hb : Below W.heap.size W W2) (hg : IntBlk W2 g row) (hgs : W.heap.size ≤ g) (hrl : row.length = n) :
    MatSt (W2.setCell ⟨Gm, gs.length, none⟩ (.slice (some ⟨g, 0, none⟩) n n)) B Gm Gr n (gs ++ [g]) (rows ++ [row]) right := by
  have h2 := h.below hb
  have hmlt : Gm < W.heap.size := blk_lt h.hd
  have hrlt : Gr < W.heap.size := h.rt.lt
  have hB : B ≤ g := by have := h.bm; omega
  refine { len := by simp [h.len], hd := HdrBlk.put h2.hd hlt g, rt := h2.rt.far (Ne.symm h.ne) _ _, row := fun i hi => ?_, nodup := fun i j hi hj e => ?_, rtlen := h.rtlen, bm := h.bm, br := h.br, ne := h.ne }
  · rcases Nat.lt_or_ge i gs.length with hi' | hi'
    · have e1 : (gs ++ [g]).getD i 0 = gs.getD i 0 := by simp [List.getD_eq_getElem?_getD, List.getElem?_append_left hi']
      have e2 : (rows ++ [row]).getD i [] = rows.getD i [] := by simp [List.getD_eq_getElem?_getD, List.getElem?_append_left (show i < rows.length by rw [← h.len]; exact hi')]
      rw [e1, e2]
      exact ⟨(h2.row i hi').1.far (h2.row i hi').2.2.2.1 _ _, (h2.row i hi').2⟩
    · have : i = gs.length := by simp at hi; omega
      subst this
      have e1 : (gs ++ [g]).getD gs.length 0 = g := by simp [List.getD_eq_getElem?_getD]
      have e2 : (rows ++ [row]).getD gs.length [] = row := by rw [h.len]; simp [List.getD_eq_getElem?_getD]
      rw [e1, e2]
      exact ⟨hg.far (by omega) _ _, hrl, hB, by omega, by omega⟩
  · have key : ∀ i, i < gs.length → gs.getD i 0 < W.heap.size := fun i hi => (h.row i hi).1.lt
    have e1 : ∀ i, i < gs.length → (gs ++ [g]).getD i 0 = gs.getD i 0 := fun i hi => by simp [List.getD_eq_getElem?_getD, List.getElem?_append_left hi]
    have e2 : (gs ++ [g]).getD gs.length 0 = g := by simp [List.getD_eq_getElem?_getD]
    simp only [List.length_append, List.length_singleton] at hi hj
    rcases Nat.lt_or_ge i gs.length with hi' | hi' <;> rcases Nat.lt_or_ge j gs.length with hj' | hj'
    · rw [e1 i hi', e1 j hj'] at e
      exact h.nodup i j hi' hj' e
    · have : j = gs.length := by omega
      subst this
      rw [e1 i hi', e2] at e
      have := key i hi'
      omega
    · have : i = gs.length := by omega
      subst this
      rw [e1 j hj', e2] at e
      have := key j hj'
      omega
    · omega
theorem litC (w : World) (t : TypeId) (xs : List Int) (hm : xs.length ≤ 9223372036854775807 := by decide) : Kd.C (Kd.int .i64) (w.alloc (.cells (nums .i64 xs).toArray t)) (some ⟨w.heap.size, 0, none⟩) xs.length xs := by
  refine Kd.C_of_reads (d := (0 : Int)) (h1 := fun _ => rfl) ⟨rfl, hm, fun _ => ⟨_, rfl, fun j hj => ?_⟩⟩
  rw [add_plain]
  refine (blk_cell (blk_new w _) j).trans ?_
  simp [nums, List.getD_eq_getElem?_getD, List.getElem?_eq_getElem hj]
theorem w64 {n : Int} (h0 : -9223372036854775808 ≤ n) (h1 : n ≤ 9223372036854775807) : wrap64 n = n := by unfold wrap64; omega
theorem keep2 {wr W : World} {a b : Addr} {u v : Value} (ha : wr.cell? a = some u) (hb : wr.cell? b = some v) (h : Below wr.heap.size wr W) : W.cell? a = some u ∧ W.cell? b = some v ∧ Below wr.heap.size wr W :=
  ⟨(h.cell (World.block_lt_of_cell? wr _ ha)).trans ha, (h.cell (World.block_lt_of_cell? wr _ hb)).trans hb, h⟩
def swap2 (xs : List Int) (j : Nat) : List Int := (xs.set (j + 1) (xs.getD j 0)).set j (xs.getD (j + 1) 0)
def sink (lt : Int → Int → Bool) : Nat → List Int → List Int
  | 0, xs => xs
  | j + 1, xs => if lt (xs.getD (j + 1) 0) (xs.getD j 0) then sink lt j (swap2 xs j) else xs
def insTo (lt : Int → Int → Bool) : Nat → List Int → List Int
  | 0, xs => xs
  | i + 1, xs => sink lt i (insTo lt i xs)
theorem swap2_len (xs : List Int) (j : Nat) : (swap2 xs j).length = xs.length := by simp [swap2]
theorem sink_len (lt : Int → Int → Bool) : ∀ (j : Nat) (xs : List Int), (sink lt j xs).length = xs.length
  | 0, _ => rfl
  | j + 1, xs => by
    unfold sink
    split
    · rw [sink_len lt j, swap2_len]
    · rfl
theorem insTo_len (lt : Int → Int → Bool) : ∀ (i : Nat) (xs : List Int), (insTo lt i xs).length = xs.length
  | 0, _ => rfl
  | i + 1, xs => by
    unfold insTo
    rw [sink_len, insTo_len lt i]
theorem swap2_all {p : Int → Prop} {xs : List Int} {j : Nat} (hj : j + 1 < xs.length) (h : ∀ x ∈ xs, p x) : ∀ x ∈ swap2 xs j, p x := by
  have g : ∀ k, k < xs.length → p (xs.getD k 0) := fun k hk => h _ (by rw [List.getD_eq_getElem?_getD, List.getElem?_eq_getElem hk]; exact List.getElem_mem hk)
  intro x hx
  unfold swap2 at hx
  rcases List.mem_or_eq_of_mem_set hx with hx | rfl
  · rcases List.mem_or_eq_of_mem_set hx with hx | rfl
    · exact h x hx
    · exact g j (by omega)
  · exact g (j + 1) hj
def ButG (w W : World) (g : Nat) : Prop := W.os = w.os ∧ W.tape = w.tape ∧ W.output = w.output ∧ w.heap.size ≤ W.heap.size ∧ ∀ k, k < w.heap.size → k ≠ g → W.heap[k]? = w.heap[k]?
theorem ButG.refl (w : World) (g : Nat) : ButG w w g := ⟨rfl, rfl, rfl, Nat.le_refl _, fun _ _ _ => rfl⟩
theorem ButG.below {w W W2 : World} {g : Nat} (h : ButG w W g) (hb : Below W.heap.size W W2) : ButG w W2 g :=
  ⟨hb.os.trans h.1, hb.tape.trans h.2.1, hb.output.trans h.2.2.1, Nat.le_trans h.2.2.2.1 hb.size, fun k hk hg => (hb.block k (Nat.lt_of_lt_of_le hk h.2.2.2.1)).trans (h.2.2.2.2 k hk hg)⟩
theorem ButG.set {w W : World} {g : Nat} (h : ButG w W g) (i : Nat) (v : Value) : ButG w (W.setCell ⟨g, i, none⟩ v) g :=
  ⟨h.1, h.2.1, h.2.2.1, by simpa [World.setCell] using h.2.2.2.1, fun k hk hg => (Below.heap_setCell W ⟨g, i, none⟩ v k hg).trans (h.2.2.2.2 k hk hg)⟩
theorem ButG.toBelow {w0 w W : World} {g : Nat} (h : ButG w W g) (h0 : Below w0.heap.size w0 w) (hg : w0.heap.size ≤ g) : Below w0.heap.size w0 W :=
  ⟨h.1.trans h0.os, h.2.1.trans h0.tape, h.2.2.1.trans h0.output, Nat.le_trans h0.size h.2.2.2.1, fun k hk => (h.2.2.2.2 k (Nat.lt_of_lt_of_le hk h0.size) (by omega)).trans (h0.block k hk)⟩
def CmpB (P : Program) (gf : Nat) (lb : Array Value) (lt : Int → Int → Bool) (p : Int → Prop) (g : Nat) (w : World) : Prop :=
  ∀ (W : World) (x y : Int), p x → p y → ButG w W g → Calls P gf (#[.int .i64 x, .int .i64 y] ++ lb) W fun e w' => ∃ c : Int, e = .returned (.int .i64 c) ∧ decide (c < 0) = lt x y ∧ Below W.heap.size W w'
theorem Kd.R_twoS {w : World} {B : Nat} {ok : Nat → Prop} {v : Value} {xs : List Int} (h : Kd.R (Kd.int .i64) 3 w B ok v xs) : (v = .slice none 0 0 ∧ xs = []) ∨ ∃ g cap, v = .slice (some ⟨g, 0, none⟩) xs.length cap ∧ B ≤ g := by
  obtain ⟨inner, ho⟩ := Kd.R_own h
  rcases ho.2 with ⟨rfl, h0⟩ | ⟨g, cap, cur, rfl, hg, _⟩
  · exact .inl ⟨rfl, List.eq_nil_of_length_eq_zero h0⟩
  · exact .inr ⟨g, cap, rfl, hg⟩
theorem ButG.after {w W W2 : World} {g : Nat} (hb : Below w.heap.size w W) (h : ButG W W2 g) : ButG w W2 g :=
  ⟨h.1.trans hb.os, h.2.1.trans hb.tape, h.2.2.1.trans hb.output, Nat.le_trans hb.size h.2.2.2.1, fun k hk hg => (h.2.2.2.2 k (Nat.lt_of_lt_of_le hk hb.size) hg).trans (hb.block k hk)⟩
end Go.Proofs.Yteopooljohdoiaa.Px
namespace Go.Proofs.Yteopooljohdoiaa.Px
open Go.RowKit
def bsI (p : Nat → Bool) : Nat → Nat → Nat → Nat
  | 0, i, _ => i
  | f + 1, i, j => if i < j then (if p ((i + j) / 2) = true then bsI p f ((i + j) / 2 + 1) j else bsI p f i ((i + j) / 2)) else i
theorem bsI_spec (p : Nat → Bool) (lo hi : Nat) (hm : ∀ x y, lo ≤ x → x ≤ y → y < hi → p y = true → p x = true) : ∀ (f i j : Nat), lo ≤ i → i ≤ j → j ≤ hi → j - i ≤ f → (∀ x, lo ≤ x → x < i → p x = true) → (∀ x, j ≤ x → x < hi → p x = false) →
    (lo ≤ bsI p f i j ∧ bsI p f i j ≤ hi) ∧ (∀ x, lo ≤ x → x < bsI p f i j → p x = true) ∧ (∀ x, bsI p f i j ≤ x → x < hi → p x = false) := by
  intro f
  induction f with
  | zero =>
    intro i j h1 h2 h3 h4 h5 h6
    have : i = j := by omega
    subst this
    exact ⟨⟨h1, h3⟩, h5, h6⟩
  | succ f ih =>
    intro i j h1 h2 h3 h4 h5 h6
    unfold bsI
    by_cases hlt : i < j
    · rw [if_pos hlt]
      by_cases hp : p ((i + j) / 2) = true
      · rw [if_pos hp]
        exact ih _ _ (by omega) (by omega) h3 (by omega) (fun x hx1 hx2 => hm x ((i + j) / 2) hx1 (by omega) (by omega) hp) h6
      · rw [if_neg hp]
        refine ih _ _ h1 (by omega) (by omega) (by omega) h5 (fun x hx1 hx2 => ?_)
        cases hq : p x
        · rfl
        · exact absurd (hm ((i + j) / 2) x (by omega) hx1 hx2 hq) hp
    · rw [if_neg hlt]
      have : i = j := by omega
      subst this
      exact ⟨⟨h1, h3⟩, h5, h6⟩
def upN : Nat → Nat → List Int → List Int
  | 0, _, xs => xs
  | n + 1, k, xs => upN n (k + 1) (swap2 xs k)
def dnN : Nat → Nat → List Int → List Int
  | 0, _, xs => xs
  | n + 1, k, xs => dnN n (k - 1) (swap2 xs (k - 1))
theorem swap2_app (P S : List Int) (x y : Int) : swap2 (P ++ x :: y :: S) P.length = P ++ y :: x :: S := by
  unfold swap2
  have h1 : (P ++ x :: y :: S).getD P.length 0 = x := by simp [List.getD_eq_getElem?_getD]
  have h2 : (P ++ x :: y :: S).getD (P.length + 1) 0 = y := by simp [List.getD_eq_getElem?_getD]
  rw [h1, h2, List.set_append_right _ _ (by omega), List.set_append_right _ _ (by omega)]
  simp
theorem upN_app (x : Int) : ∀ (Y P S : List Int), upN Y.length P.length (P ++ x :: (Y ++ S)) = P ++ Y ++ x :: S
  | [], P, S => by simp [upN]
  | y :: Y, P, S => by
    show upN Y.length (P.length + 1) (swap2 (P ++ x :: y :: (Y ++ S)) P.length) = _
    rw [swap2_app]
    have := upN_app x Y (P ++ [y]) S
    simp only [List.length_append, List.length_cons, List.length_nil, List.append_assoc, List.cons_append, List.nil_append] at this
    rw [this]
    simp
theorem dnN_app (y : Int) : ∀ (n : Nat) (X P S : List Int), X.length = n → dnN n (P.length + X.length) (P ++ X ++ y :: S) = P ++ y :: (X ++ S)
  | 0, X, P, S, h => by
    have := List.eq_nil_of_length_eq_zero h
    subst this
    simp [dnN]
  | n + 1, X, P, S, h => by
    obtain ⟨X0, x, rfl⟩ : ∃ X0 x, X = X0 ++ [x] := ⟨X.dropLast, X.getLast (by intro e; subst e; simp at h), (List.dropLast_concat_getLast _).symm⟩
    have hl : X0.length = n := by simpa using h
    show dnN n (P.length + (X0 ++ [x]).length - 1) (swap2 (P ++ (X0 ++ [x]) ++ y :: S) (P.length + (X0 ++ [x]).length - 1)) = _
    have e : P.length + (X0 ++ [x]).length - 1 = (P ++ X0).length := by simp
    rw [e, show P ++ (X0 ++ [x]) ++ y :: S = (P ++ X0) ++ x :: y :: S by simp, swap2_app]
    have := dnN_app y n X0 P (x :: S) hl
    rw [show (P ++ X0).length = P.length + X0.length by simp, this]
    simp
def swapAt (xs : List Int) (a b : Nat) : List Int := (xs.set a (xs.getD b 0)).set b (xs.getD a 0)
def swR : Nat → Nat → Nat → List Int → List Int
  | 0, _, _, xs => xs
  | n + 1, a, b, xs => swR n (a + 1) (b + 1) (swapAt xs a b)
theorem swapAt_app (P Q S : List Int) (x y : Int) : swapAt (P ++ x :: (Q ++ y :: S)) P.length (P.length + 1 + Q.length) = P ++ y :: (Q ++ x :: S) := by
  unfold swapAt
  have h1 : (P ++ x :: (Q ++ y :: S)).getD P.length 0 = x := by simp [List.getD_eq_getElem?_getD]
  have h2 : (P ++ x :: (Q ++ y :: S)).getD (P.length + 1 + Q.length) 0 = y := by
    rw [List.getD_eq_getElem?_getD, List.getElem?_append_right (by omega), show P.length + 1 + Q.length - P.length = Q.length + 1 by omega]
    simp
  rw [h1, h2, List.set_append_right _ _ (by omega), List.set_append_right _ _ (by omega), show P.length + 1 + Q.length - P.length = Q.length + 1 by omega]
  simp [List.set_append_right]
theorem swR_app : ∀ (U V P Q S : List Int), U.length = V.length → swR U.length P.length (P.length + U.length + Q.length) (P ++ (U ++ (Q ++ (V ++ S)))) = P ++ (V ++ (Q ++ (U ++ S)))
  | [], V, P, Q, S, h => by
    have := List.eq_nil_of_length_eq_zero h.symm
    subst this
    rfl
  | u :: U, [], P, Q, S, h => by simp at h
  | u :: U, v :: V, P, Q, S, h => by
    have hl : U.length = V.length := by simpa using h
    show swR U.length (P.length + 1) (P.length + (u :: U).length + Q.length + 1) (swapAt (P ++ (u :: U ++ (Q ++ (v :: V ++ S)))) P.length (P.length + (u :: U).length + Q.length)) = _
    have h1 := swapAt_app P (U ++ Q) (V ++ S) u v
    rw [show P.length + 1 + (U ++ Q).length = P.length + (u :: U).length + Q.length by simp; omega, show P ++ u :: (U ++ Q ++ v :: (V ++ S)) = P ++ (u :: U ++ (Q ++ (v :: V ++ S))) by simp] at h1
    rw [h1]
    have h2 := swR_app U V (P ++ [v]) (Q ++ [u]) S hl
    rw [show (P ++ [v]).length + U.length + (Q ++ [u]).length = P.length + (u :: U).length + Q.length + 1 by simp; omega, show (P ++ [v]).length = P.length + 1 by simp] at h2
    rw [show P ++ v :: (U ++ Q ++ u :: (V ++ S)) = P ++ [v] ++ (U ++ (Q ++ [u] ++ (V ++ S))) by simp, h2]
    simp
def rotG (m : Nat) : Nat → Nat → Nat → List Int → List Int
  | 0, _, _, xs => xs
  | f + 1, i, j, xs => if i = j then swR i (m - i) m xs else if j < i then rotG m f (i - j) j (swR j (m - i) m xs) else rotG m f i (j - i) (swR i (m - i) (m + j - i) xs)
theorem rotG_app : ∀ (f : Nat) (U V P S : List Int), 0 < U.length → 0 < V.length → U.length + V.length ≤ f → rotG (P.length + U.length) f U.length V.length (P ++ (U ++ (V ++ S))) = P ++ (V ++ (U ++ S)) := by
  intro f
  induction f with
  | zero => intro U V P S h1 h2 h3; omega
  | succ f ih =>
    intro U V P S h1 h2 h3
    unfold rotG
    by_cases he : U.length = V.length
    · rw [if_pos he, show P.length + U.length - U.length = P.length by omega]
      have := swR_app U V P [] S he
      simpa using this
    · rw [if_neg he]
      by_cases hlt : V.length < U.length
      · rw [if_pos hlt]
        obtain ⟨U1, U2, rfl, hU⟩ : ∃ U1 U2, U = U1 ++ U2 ∧ U1.length = V.length := ⟨U.take V.length, U.drop V.length, (List.take_append_drop _ _).symm, by simp; omega⟩
        have h4 := swR_app U1 V P U2 S hU
        rw [hU] at h4
        rw [show P.length + (U1 ++ U2).length - (U1 ++ U2).length = P.length by omega, show P.length + (U1 ++ U2).length = P.length + V.length + U2.length by simp; omega, show P ++ (U1 ++ U2 ++ (V ++ S)) = P ++ (U1 ++ (U2 ++ (V ++ S))) by simp, h4]
        have h5 := ih U2 U1 (P ++ V) S (by simp at hlt; omega) (by omega) (by simp at h3; omega)
        rw [show (P ++ V).length + U2.length = P.length + V.length + U2.length by simp, hU] at h5
        rw [show (U1 ++ U2).length - V.length = U2.length by simp; omega, show P ++ (V ++ (U2 ++ (U1 ++ S))) = P ++ V ++ (U2 ++ (U1 ++ S)) by simp, h5]
        simp
      · rw [if_neg hlt]
        obtain ⟨V1, V2, rfl, hV⟩ : ∃ V1 V2, V = V1 ++ V2 ∧ V2.length = U.length := ⟨V.take (V.length - U.length), V.drop (V.length - U.length), (List.take_append_drop _ _).symm, by simp; omega⟩
        have h4 := swR_app U V2 P V1 S hV.symm
        rw [show P.length + U.length - U.length = P.length by omega, show P.length + U.length + (V1 ++ V2).length - U.length = P.length + U.length + V1.length by simp; omega, show P ++ (U ++ (V1 ++ V2 ++ S)) = P ++ (U ++ (V1 ++ (V2 ++ S))) by simp, h4]
        have h5 := ih V2 V1 P (U ++ S) (by omega) (by simp at hlt he; omega) (by simp at h3; omega)
        rw [hV] at h5
        rw [show (V1 ++ V2).length - U.length = V1.length by simp; omega, h5]
        simp
def rotA (a m b : Nat) (xs : List Int) : List Int := rotG m (b - a) (m - a) (b - m) xs
theorem rotA_app (U V P S : List Int) (h1 : 0 < U.length) (h2 : 0 < V.length) : rotA P.length (P.length + U.length) (P.length + U.length + V.length) (P ++ (U ++ (V ++ S))) = P ++ (V ++ (U ++ S)) := by
  unfold rotA
  rw [show P.length + U.length - P.length = U.length by omega, show P.length + U.length + V.length - (P.length + U.length) = V.length by omega, show P.length + U.length + V.length - P.length = U.length + V.length by omega]
  exact rotG_app _ U V P S h1 h2 (Nat.le_refl _)
def SortK (K : Int → Int) (l : List Int) : Prop := l.Pairwise (fun x y => K x ≤ K y)
theorem SortK.mono {K : Int → Int} {l : List Int} (h : SortK K l) (i j : Nat) (hij : i ≤ j) (hj : j < l.length) : K (l.getD i 0) ≤ K (l.getD j 0) := by
  rw [List.getD_eq_getElem?_getD, List.getElem?_eq_getElem (by omega), List.getD_eq_getElem?_getD, List.getElem?_eq_getElem hj]
  rcases Nat.lt_or_ge i j with h1 | h1
  · exact List.pairwise_iff_getElem.1 h i j (by omega) hj h1
  · obtain rfl : i = j := by omega
    exact Int.le_refl _
def ltK (K : Int → Int) (x y : Int) : Bool := decide (K x < K y)
theorem mem_take_get {l : List Int} {t : Nat} {x : Int} (h : x ∈ l.take t) : ∃ i, i < t ∧ i < l.length ∧ l.getD i 0 = x := by
  obtain ⟨i, hi, rfl⟩ := List.getElem_of_mem h
  have h2 : i < t ∧ i < l.length := by simp at hi; omega
  refine ⟨i, h2.1, h2.2, ?_⟩
  rw [List.getD_eq_getElem?_getD, List.getElem?_eq_getElem h2.2]
  simp
theorem mem_drop_get {l : List Int} {t : Nat} {x : Int} (h : x ∈ l.drop t) : ∃ i, t ≤ i ∧ i < l.length ∧ l.getD i 0 = x := by
  obtain ⟨i, hi, rfl⟩ := List.getElem_of_mem h
  have h2 : t + i < l.length := by simp at hi; omega
  refine ⟨t + i, by omega, h2, ?_⟩
  rw [List.getD_eq_getElem?_getD, List.getElem?_eq_getElem h2]
  simp
theorem getD_mid (P X R : List Int) (i : Nat) (h : i < X.length) : (P ++ (X ++ R)).getD (P.length + i) 0 = X.getD i 0 := by
  rw [List.getD_eq_getElem?_getD, List.getElem?_append_right (by omega), show P.length + i - P.length = i by omega, List.getElem?_append_left h, List.getD_eq_getElem?_getD]
def sinkA (lt : Int → Int → Bool) (a : Nat) : Nat → List Int → List Int
  | 0, xs => xs
  | d + 1, xs => if lt (xs.getD (a + d + 1) 0) (xs.getD (a + d) 0) = true then sinkA lt a d (swap2 xs (a + d)) else xs
def insA (lt : Int → Int → Bool) (a : Nat) : Nat → List Int → List Int
  | 0, xs => xs
  | i + 1, xs => sinkA lt a i (insA lt a i xs)
theorem sinkA_len (lt : Int → Int → Bool) (a : Nat) : ∀ (d : Nat) (xs : List Int), (sinkA lt a d xs).length = xs.length
  | 0, _ => rfl
  | d + 1, xs => by
    unfold sinkA
    split
    · rw [sinkA_len lt a d, swap2_len]
    · rfl
theorem insA_len (lt : Int → Int → Bool) (a : Nat) : ∀ (i : Nat) (xs : List Int), (insA lt a i xs).length = xs.length
  | 0, _ => rfl
  | i + 1, xs => by
    unfold insA
    rw [sinkA_len, insA_len lt a i]
theorem sinkA_app (K : Int → Int) (P : List Int) (x : Int) : ∀ (d : Nat) (Z R : List Int), Z.length = d → SortK K Z → ∃ Z', sinkA (ltK K) P.length d (P ++ (Z ++ x :: R)) = P ++ (Z' ++ R) ∧ Z'.Perm (Z ++ [x]) ∧ SortK K Z' := by
  intro d
  induction d with
  | zero =>
    intro Z R hz hs
    have := List.eq_nil_of_length_eq_zero hz
    subst this
    exact ⟨[x], by simp [sinkA], List.Perm.refl _, by simp [SortK]⟩
  | succ d ih =>
    intro Z R hz hs
    obtain ⟨Z0, z, rfl⟩ : ∃ Z0 z, Z = Z0 ++ [z] := ⟨Z.dropLast, Z.getLast (by intro e; subst e; simp at hz), (List.dropLast_concat_getLast _).symm⟩
    have hl : Z0.length = d := by simpa using hz
    have hs0 : SortK K Z0 := (List.pairwise_append.1 hs).1
    have hz0 : ∀ y ∈ Z0, K y ≤ K z := fun y hy => (List.pairwise_append.1 hs).2.2 y hy z (by simp)
    unfold sinkA
    have e1 : (P ++ (Z0 ++ [z] ++ x :: R)).getD (P.length + d + 1) 0 = x := by
      have := getD_mid P (Z0 ++ [z] ++ [x]) R (d + 1) (by simp; omega)
      rw [show P ++ (Z0 ++ [z] ++ [x] ++ R) = P ++ (Z0 ++ [z] ++ x :: R) by simp, ← Nat.add_assoc] at this
      rw [this, List.getD_eq_getElem?_getD, List.getElem?_append_right (by simp; omega)]
      simp [hl]
    have e2 : (P ++ (Z0 ++ [z] ++ x :: R)).getD (P.length + d) 0 = z := by
      have := getD_mid P (Z0 ++ [z]) (x :: R) d (by simp; omega)
      rw [this, List.getD_eq_getElem?_getD, List.getElem?_append_right (by omega)]
      simp [hl]
    rw [e1, e2]
    by_cases hlt : ltK K x z = true
    · rw [if_pos hlt]
      have hlt' : K x < K z := of_decide_eq_true hlt
      have hsw := swap2_app (P ++ Z0) R z x
      rw [show (P ++ Z0).length = P.length + d by simp [hl], show P ++ Z0 ++ z :: x :: R = P ++ (Z0 ++ [z] ++ x :: R) by simp, show P ++ Z0 ++ x :: z :: R = P ++ (Z0 ++ x :: (z :: R)) by simp] at hsw
      rw [hsw]
      obtain ⟨Z', h1, h2, h3⟩ := ih Z0 (z :: R) hl hs0
      refine ⟨Z' ++ [z], by rw [h1]; simp, ?_, ?_⟩
      · refine (h2.append_right [z]).trans ?_
        rw [List.append_assoc, List.append_assoc]
        exact List.Perm.append_left Z0 (List.Perm.swap z x [])
      · refine List.pairwise_append.2 ⟨h3, by simp, fun y hy w hw => ?_⟩
        obtain rfl : w = z := by simpa using hw
        have := h2.mem_iff.1 hy
        simp only [List.mem_append, List.mem_singleton] at this
        rcases this with h | h
        · exact hz0 y h
        · subst h; omega
    · rw [if_neg hlt]
      have hge : K z ≤ K x := by
        have : ¬ K x < K z := fun h => hlt (decide_eq_true h)
        omega
      refine ⟨Z0 ++ [z] ++ [x], by simp, List.Perm.refl _, ?_⟩
      refine List.pairwise_append.2 ⟨hs, by simp, fun y hy w hw => ?_⟩
      obtain rfl : w = x := by simpa using hw
      simp only [List.mem_append, List.mem_singleton] at hy
      rcases hy with h | h
      · have := hz0 y h; omega
      · subst h; exact hge
theorem insA_app (K : Int → Int) (P X S : List Int) : ∀ i, i ≤ X.length → ∃ Z, insA (ltK K) P.length i (P ++ (X ++ S)) = P ++ (Z ++ (X.drop i ++ S)) ∧ Z.Perm (X.take i) ∧ SortK K Z := by
  intro i
  induction i with
  | zero => intro _; exact ⟨[], by simp [insA], by simp, List.Pairwise.nil⟩
  | succ i ih =>
    intro hi
    obtain ⟨Z, h1, h2, h3⟩ := ih (by omega)
    have hzl : Z.length = i := by rw [h2.length_eq]; simp; omega
    have hd : X.drop i = X.getD i 0 :: X.drop (i + 1) := by
      rw [List.drop_eq_getElem_cons (by omega), List.getD_eq_getElem?_getD, List.getElem?_eq_getElem (by omega)]; rfl
    obtain ⟨Z', h4, h5, h6⟩ := sinkA_app K P (X.getD i 0) i Z (X.drop (i + 1) ++ S) hzl h3
    refine ⟨Z', ?_, ?_, h6⟩
    · unfold insA
      rw [h1, hd]
      simpa using h4
    · refine h5.trans ?_
      rw [List.take_add_one, List.getElem?_eq_getElem (by omega)]
      refine (h2.append_right _).trans ?_
      rw [List.getD_eq_getElem?_getD, List.getElem?_eq_getElem (by omega)]
      exact List.Perm.refl _
def symM (lt : Int → Int → Bool) : Nat → Nat → Nat → Nat → List Int → List Int
  | 0, _, _, _, xs => xs
  | f + 1, a, m, b, xs =>
    if m - a = 1 then upN (bsI (fun h => lt (xs.getD h 0) (xs.getD a 0)) (b - m) m b - 1 - a) a xs
    else if b - m = 1 then dnN (m - bsI (fun h => !(lt (xs.getD m 0) (xs.getD h 0))) (m - a) a m) m xs
    else
      let mid := (a + b) / 2
      let n := mid + m
      let s0 := if mid < m then n - b else a
      let r0 := if mid < m then mid else m
      let st := bsI (fun c => !(lt (xs.getD (n - 1 - c) 0) (xs.getD c 0))) (r0 - s0) s0 r0
      let en := n - st
      let x1 := if st < m ∧ m < en then rotA st m en xs else xs
      let x2 := if a < st ∧ st < mid then symM lt f a st mid x1 else x1
      if mid < en ∧ en < b then symM lt f mid en b x2 else x2
theorem symM_one (K : Int → Int) (f : Nat) (x : Int) (Y P S : List Int) (hY : 0 < Y.length) (hs : SortK K Y) : ∃ Z, symM (ltK K) (f + 1) P.length (P.length + 1) (P.length + 1 + Y.length) (P ++ (x :: (Y ++ S))) = P ++ (Z ++ S) ∧ Z.Perm (x :: Y) ∧ SortK K Z := by
  unfold symM
  rw [if_pos (by omega)]
  have ea : (P ++ (x :: (Y ++ S))).getD P.length 0 = x := by simp [List.getD_eq_getElem?_getD]
  have ey : ∀ h, P.length + 1 ≤ h → h < P.length + 1 + Y.length → (P ++ (x :: (Y ++ S))).getD h 0 = Y.getD (h - (P.length + 1)) 0 := by
    intro h h1 h2
    have := getD_mid (P ++ [x]) Y S (h - (P.length + 1)) (by omega)
    rw [show (P ++ [x]).length + (h - (P.length + 1)) = h by simp; omega] at this
    rw [← this]; simp
  have sp := bsI_spec (fun h => ltK K ((P ++ (x :: (Y ++ S))).getD h 0) ((P ++ (x :: (Y ++ S))).getD P.length 0)) (P.length + 1) (P.length + 1 + Y.length) (fun u v hu huv hv hp => by
    rw [ea] at hp ⊢
    rw [ey u hu (by omega)]
    rw [ey v (by omega) hv] at hp
    have h1 := hs.mono (u - (P.length + 1)) (v - (P.length + 1)) (by omega) (by omega)
    have h2 : K (Y.getD (v - (P.length + 1)) 0) < K x := of_decide_eq_true hp
    exact decide_eq_true (by omega)) (P.length + 1 + Y.length - (P.length + 1)) (P.length + 1) (P.length + 1 + Y.length) (by omega) (by omega) (by omega) (by omega) (fun z h1 h2 => by omega) (fun z h1 h2 => by omega)
  generalize bsI (fun h => ltK K ((P ++ (x :: (Y ++ S))).getD h 0) ((P ++ (x :: (Y ++ S))).getD P.length 0)) (P.length + 1 + Y.length - (P.length + 1)) (P.length + 1) (P.length + 1 + Y.length) = i at *
  obtain ⟨⟨hi1, hi2⟩, hlo, hhi⟩ := sp
  obtain ⟨t, rfl⟩ : ∃ t, i = P.length + 1 + t := ⟨i - (P.length + 1), by omega⟩
  have hup := upN_app x (Y.take t) P (Y.drop t ++ S)
  rw [show (Y.take t).length = P.length + 1 + t - 1 - P.length by simp; omega, show Y.take t ++ (Y.drop t ++ S) = Y ++ S by rw [← List.append_assoc, List.take_append_drop]] at hup
  refine ⟨Y.take t ++ x :: Y.drop t, by rw [hup]; simp, ?_, ?_⟩
  · refine List.perm_middle.trans ?_
    rw [List.take_append_drop]
  · have hsT := hs
    unfold SortK at hsT
    rw [← List.take_append_drop t Y] at hsT
    obtain ⟨p1, p2, p3⟩ := List.pairwise_append.1 hsT
    refine List.pairwise_append.2 ⟨p1, List.pairwise_cons.2 ⟨fun y hy => ?_, p2⟩, fun y hy z hz => ?_⟩
    · obtain ⟨j, hj1, hj2, rfl⟩ := mem_drop_get hy
      have := hhi (P.length + 1 + j) (by omega) (by omega)
      rw [ea, ey _ (by omega) (by omega), show P.length + 1 + j - (P.length + 1) = j by omega] at this
      have h3 : ¬ K (Y.getD j 0) < K x := of_decide_eq_false this
      omega
    · rcases List.mem_cons.1 hz with rfl | hz
      · obtain ⟨j, hj1, hj2, rfl⟩ := mem_take_get hy
        have := hlo (P.length + 1 + j) (by omega) (by omega)
        rw [ea, ey _ (by omega) (by omega), show P.length + 1 + j - (P.length + 1) = j by omega] at this
        have h3 : K (Y.getD j 0) < K z := of_decide_eq_true this
        omega
      · exact p3 y hy z hz
theorem symM_last (K : Int → Int) (f : Nat) (y : Int) (X P S : List Int) (hX : 1 < X.length) (hs : SortK K X) : ∃ Z, symM (ltK K) (f + 1) P.length (P.length + X.length) (P.length + X.length + 1) (P ++ (X ++ (y :: S))) = P ++ (Z ++ S) ∧ Z.Perm (X ++ [y]) ∧ SortK K Z := by
  unfold symM
  rw [if_neg (by omega), if_pos (by omega)]
  have ea : (P ++ (X ++ (y :: S))).getD (P.length + X.length) 0 = y := by
    rw [← List.append_assoc, show P.length + X.length = (P ++ X).length by simp]; simp [List.getD_eq_getElem?_getD]
  have ey : ∀ h, P.length ≤ h → h < P.length + X.length → (P ++ (X ++ (y :: S))).getD h 0 = X.getD (h - P.length) 0 := by
    intro h h1 h2
    have := getD_mid P X (y :: S) (h - P.length) (by omega)
    rwa [show P.length + (h - P.length) = h by omega] at this
  have sp := bsI_spec (fun h => !(ltK K ((P ++ (X ++ (y :: S))).getD (P.length + X.length) 0) ((P ++ (X ++ (y :: S))).getD h 0))) P.length (P.length + X.length) (fun u v hu huv hv hp => by
    rw [ea] at hp ⊢
    rw [ey u hu (by omega)]
    rw [ey v (by omega) hv] at hp
    have h1 := hs.mono (u - P.length) (v - P.length) (by omega) (by omega)
    have h2 : ¬ K y < K (X.getD (v - P.length) 0) := by
      intro h; rw [show ltK K y (X.getD (v - P.length) 0) = true from decide_eq_true h] at hp; exact absurd hp (by decide)
    rw [show ltK K y (X.getD (u - P.length) 0) = false from decide_eq_false (by omega)]; rfl) (P.length + X.length - P.length) P.length (P.length + X.length) (by omega) (by omega) (by omega) (by omega) (fun z h1 h2 => by omega) (fun z h1 h2 => by omega)
  generalize bsI (fun h => !(ltK K ((P ++ (X ++ (y :: S))).getD (P.length + X.length) 0) ((P ++ (X ++ (y :: S))).getD h 0))) (P.length + X.length - P.length) P.length (P.length + X.length) = i at *
  obtain ⟨⟨hi1, hi2⟩, hlo, hhi⟩ := sp
  obtain ⟨t, rfl⟩ : ∃ t, i = P.length + t := ⟨i - P.length, by omega⟩
  have hdn := dnN_app y (P.length + X.length - (P.length + t)) (X.drop t) (P ++ X.take t) S (by simp; omega)
  rw [show (P ++ X.take t).length + (X.drop t).length = P.length + X.length by simp; omega, show P ++ X.take t ++ X.drop t ++ y :: S = P ++ (X ++ (y :: S)) by rw [List.append_assoc P, List.take_append_drop, List.append_assoc]] at hdn
  refine ⟨X.take t ++ y :: X.drop t, by rw [hdn]; simp, ?_, ?_⟩
  · refine List.perm_middle.trans ?_
    rw [List.take_append_drop]
    exact (List.perm_append_comm (l₁ := [y]) (l₂ := X))
  · have hsT := hs
    unfold SortK at hsT
    rw [← List.take_append_drop t X] at hsT
    obtain ⟨p1, p2, p3⟩ := List.pairwise_append.1 hsT
    refine List.pairwise_append.2 ⟨p1, List.pairwise_cons.2 ⟨fun x hx => ?_, p2⟩, fun x hx z hz => ?_⟩
    · obtain ⟨j, hj1, hj2, rfl⟩ := mem_drop_get hx
      have := hhi (P.length + j) (by omega) (by omega)
      rw [ea, ey _ (by omega) (by omega), show P.length + j - P.length = j by omega] at this
      by_cases h : K y < K (X.getD j 0)
      · omega
      · rw [show ltK K y (X.getD j 0) = false from decide_eq_false h] at this; exact absurd this (by decide)
    · rcases List.mem_cons.1 hz with rfl | hz
      · obtain ⟨j, hj1, hj2, rfl⟩ := mem_take_get hx
        have := hlo (P.length + j) (by omega) (by omega)
        rw [ea, ey _ (by omega) (by omega), show P.length + j - P.length = j by omega] at this
        by_cases h : K z < K (X.getD j 0)
        · rw [show ltK K z (X.getD j 0) = true from decide_eq_true h] at this; exact absurd this (by decide)
        · omega
      · exact p3 x hx z hz
theorem sortK_app {K : Int → Int} {A B : List Int} (ha : SortK K A) (hb : SortK K B) (h : ∀ x ∈ A, ∀ y ∈ B, K x ≤ K y) : SortK K (A ++ B) := List.pairwise_append.2 ⟨ha, hb, h⟩
theorem symM_cut (K : Int → Int) (X Y P S : List Int) (hX : 1 < X.length) (hY : 1 < Y.length) (hsx : SortK K X) (hsy : SortK K Y) (a m b mid n s0 r0 st : Nat) (xs : List Int) (ha : a = P.length) (hm : m = P.length + X.length) (hb : b = P.length + X.length + Y.length) (hxs : xs = P ++ (X ++ (Y ++ S)))
    (hmid : mid = (a + b) / 2) (hn : n = mid + m) (hs0 : s0 = if mid < m then n - b else a) (hr0 : r0 = if mid < m then mid else m) (hst : st = bsI (fun c => !(ltK K (xs.getD (n - 1 - c) 0) (xs.getD c 0))) (r0 - s0) s0 r0) :
    ∃ t1 t2, t1 ≤ X.length ∧ t2 ≤ Y.length ∧ st = a + t1 ∧ n - st = m + t2 ∧ a + t1 + t2 = mid ∧ (∀ x ∈ X.take t1 ++ Y.take t2, ∀ y ∈ X.drop t1 ++ Y.drop t2, K x ≤ K y) := by
  have ex : ∀ c, a ≤ c → c < m → xs.getD c 0 = X.getD (c - a) 0 := by
    intro c h1 h2
    have := getD_mid P X (Y ++ S) (c - a) (by omega)
    rwa [show P.length + (c - a) = c by omega, ← hxs] at this
  have ey : ∀ c, m ≤ c → c < b → xs.getD c 0 = Y.getD (c - m) 0 := by
    intro c h1 h2
    have := getD_mid (P ++ X) Y S (c - m) (by omega)
    rwa [show (P ++ X).length + (c - m) = c by simp; omega, List.append_assoc, ← hxs] at this
  have hb0 : a ≤ s0 ∧ s0 ≤ r0 ∧ r0 ≤ m ∧ n - s0 ≤ b ∧ m ≤ n - r0 ∧ s0 ≤ n := by
    by_cases h : mid < m
    · rw [if_pos h] at hs0 hr0; omega
    · rw [if_neg h] at hs0 hr0; omega
  obtain ⟨b1, b2, b3, b4, b5, b6⟩ := hb0
  have sp := bsI_spec (fun c => !(ltK K (xs.getD (n - 1 - c) 0) (xs.getD c 0))) s0 r0 (fun u v hu huv hv hp => by
    rw [ex u (by omega) (by omega), ey (n - 1 - u) (by omega) (by omega)]
    rw [ex v (by omega) (by omega), ey (n - 1 - v) (by omega) (by omega)] at hp
    have h1 := hsx.mono (u - a) (v - a) (by omega) (by omega)
    have h3 := hsy.mono (n - 1 - v - m) (n - 1 - u - m) (by omega) (by omega)
    have h2 : ¬ K (Y.getD (n - 1 - v - m) 0) < K (X.getD (v - a) 0) := by
      intro h; rw [show ltK K (Y.getD (n - 1 - v - m) 0) (X.getD (v - a) 0) = true from decide_eq_true h] at hp; exact absurd hp (by decide)
    rw [show ltK K (Y.getD (n - 1 - u - m) 0) (X.getD (u - a) 0) = false from decide_eq_false (by omega)]; rfl) (r0 - s0) s0 r0 (Nat.le_refl _) b2 (Nat.le_refl _) (Nat.le_refl _) (fun z h1 h2 => by omega) (fun z h1 h2 => by omega)
  rw [← hst] at sp
  obtain ⟨⟨c1, c2⟩, hlo, hhi⟩ := sp
  clear hst
  have hcut : (a < st → n - st < b → K (X.getD (st - 1 - a) 0) ≤ K (Y.getD (n - st - m) 0)) := by
    intro h1 h2
    have h3 : s0 ≤ st - 1 := by
      by_cases h : mid < m
      · rw [if_pos h] at hs0; omega
      · rw [if_neg h] at hs0; omega
    have := hlo (st - 1) h3 (by omega)
    rw [ex (st - 1) (by omega) (by omega), show n - 1 - (st - 1) = n - st by omega, ey (n - st) (by omega) (by omega)] at this
    by_cases h : K (Y.getD (n - st - m) 0) < K (X.getD (st - 1 - a) 0)
    · rw [show ltK K (Y.getD (n - st - m) 0) (X.getD (st - 1 - a) 0) = true from decide_eq_true h] at this; exact absurd this (by decide)
    · omega
  have hcut2 : (st < m → m < n - st → K (Y.getD (n - st - 1 - m) 0) ≤ K (X.getD (st - a) 0)) := by
    intro h1 h2
    have h3 : st < r0 := by
      by_cases h : mid < m
      · rw [if_pos h] at hr0; omega
      · rw [if_neg h] at hr0; omega
    have := hhi st (Nat.le_refl _) h3
    rw [ex st (by omega) (by omega), show n - 1 - st = n - st - 1 by omega, ey (n - st - 1) (by omega) (by omega)] at this
    by_cases h : K (Y.getD (n - st - 1 - m) 0) < K (X.getD (st - a) 0)
    · omega
    · rw [show ltK K (Y.getD (n - st - 1 - m) 0) (X.getD (st - a) 0) = false from decide_eq_false h] at this; exact absurd this (by decide)
  refine ⟨st - a, n - st - m, by omega, by omega, by omega, by omega, by omega, fun x hx y hy => ?_⟩
  rcases List.mem_append.1 hx with hx | hx <;> rcases List.mem_append.1 hy with hy | hy
  · obtain ⟨i, hi1, hi2, rfl⟩ := mem_take_get hx
    obtain ⟨j, hj1, hj2, rfl⟩ := mem_drop_get hy
    exact hsx.mono i j (by omega) hj2
  · obtain ⟨i, hi1, hi2, rfl⟩ := mem_take_get hx
    obtain ⟨j, hj1, hj2, rfl⟩ := mem_drop_get hy
    have h1 := hsx.mono i (st - 1 - a) (by omega) (by omega)
    have h2 := hsy.mono (n - st - m) j (by omega) hj2
    have h3 := hcut (by omega) (by omega)
    omega
  · obtain ⟨i, hi1, hi2, rfl⟩ := mem_take_get hx
    obtain ⟨j, hj1, hj2, rfl⟩ := mem_drop_get hy
    have h1 := hsy.mono i (n - st - 1 - m) (by omega) (by omega)
    have h2 := hsx.mono (st - a) j (by omega) hj2
    have h3 := hcut2 (by omega) (by omega)
    omega
  · obtain ⟨i, hi1, hi2, rfl⟩ := mem_take_get hx
    obtain ⟨j, hj1, hj2, rfl⟩ := mem_drop_get hy
    exact hsy.mono i j (by omega) hj2
theorem symM_app (K : Int → Int) : ∀ (f : Nat) (X Y P S : List Int), 0 < X.length → 0 < Y.length → X.length + Y.length ≤ f → SortK K X → SortK K Y →
    ∃ Z, symM (ltK K) f P.length (P.length + X.length) (P.length + X.length + Y.length) (P ++ (X ++ (Y ++ S))) = P ++ (Z ++ S) ∧ Z.Perm (X ++ Y) ∧ SortK K Z := by
  intro f
  induction f with
  | zero => intro X Y P S h1 h2 h3; omega
  | succ f ih =>
    intro X Y P S hX hY hf hsx hsy
    by_cases h1 : X.length = 1
    · obtain ⟨x, rfl⟩ : ∃ x, X = [x] := List.length_eq_one_iff.1 h1
      exact symM_one K f x Y P S hY hsy
    by_cases h2 : Y.length = 1
    · obtain ⟨y, rfl⟩ : ∃ y, Y = [y] := List.length_eq_one_iff.1 h2
      exact symM_last K f y X P S (by omega) hsx
    unfold symM
    rw [if_neg (by omega), if_neg (by omega)]
    obtain ⟨a, ha⟩ : ∃ a, a = P.length := ⟨_, rfl⟩
    obtain ⟨m, hm⟩ : ∃ m, m = P.length + X.length := ⟨_, rfl⟩
    obtain ⟨b, hb⟩ : ∃ b, b = P.length + X.length + Y.length := ⟨_, rfl⟩
    obtain ⟨xs, hxs⟩ : ∃ xs, xs = P ++ (X ++ (Y ++ S)) := ⟨_, rfl⟩
    rw [← hxs, ← hb, ← hm, ← ha]
    dsimp only
    obtain ⟨mid, hmid⟩ : ∃ mid, mid = (a + b) / 2 := ⟨_, rfl⟩
    rw [← hmid]
    obtain ⟨n, hn⟩ : ∃ n, n = mid + m := ⟨_, rfl⟩
    rw [← hn]
    obtain ⟨s0, hs0⟩ : ∃ s0, s0 = if mid < m then n - b else a := ⟨_, rfl⟩
    obtain ⟨r0, hr0⟩ : ∃ r0, r0 = if mid < m then mid else m := ⟨_, rfl⟩
    rw [← hs0, ← hr0]
    obtain ⟨st, hst⟩ : ∃ st, st = bsI (fun c => !(ltK K (xs.getD (n - 1 - c) 0) (xs.getD c 0))) (r0 - s0) s0 r0 := ⟨_, rfl⟩
    rw [← hst]
    obtain ⟨t1, t2, ht1, ht2, e1, e2, e3, hle⟩ := symM_cut K X Y P S (by omega) (by omega) hsx hsy a m b mid n s0 r0 st xs ha hm hb hxs hmid hn hs0 hr0 hst
    clear hst hs0 hr0
    rw [e2, e1]
    obtain ⟨X1, X2, rfl, hX1⟩ : ∃ X1 X2, X = X1 ++ X2 ∧ X1.length = t1 := ⟨X.take t1, X.drop t1, (List.take_append_drop _ _).symm, by simp; omega⟩
    obtain ⟨Y1, Y2, rfl, hY1⟩ : ∃ Y1 Y2, Y = Y1 ++ Y2 ∧ Y1.length = t2 := ⟨Y.take t2, Y.drop t2, (List.take_append_drop _ _).symm, by simp; omega⟩
    rw [← hX1, ← hY1, List.take_left, List.take_left, List.drop_left, List.drop_left] at hle
    have hlx : (X1 ++ X2).length = X1.length + X2.length := List.length_append
    have hly : (Y1 ++ Y2).length = Y1.length + Y2.length := List.length_append
    obtain ⟨sx1, sx2, _⟩ := List.pairwise_append.1 hsx
    obtain ⟨sy1, sy2, _⟩ := List.pairwise_append.1 hsy
    have hx1 : (if a + t1 < m ∧ m < m + t2 then rotA (a + t1) m (m + t2) xs else xs) = P ++ (X1 ++ (Y1 ++ (X2 ++ (Y2 ++ S)))) := by
      by_cases hc : a + t1 < m ∧ m < m + t2
      · rw [if_pos hc, hxs]
        have := rotA_app X2 Y1 (P ++ X1) (Y2 ++ S) (by omega) (by omega)
        rw [show (P ++ X1).length = a + t1 by simp; omega, show a + t1 + X2.length = m by omega, show m + Y1.length = m + t2 by omega] at this
        rw [show P ++ (X1 ++ X2 ++ (Y1 ++ Y2 ++ S)) = P ++ X1 ++ (X2 ++ (Y1 ++ (Y2 ++ S))) by simp, this]
        simp
      · rw [if_neg hc, hxs]
        by_cases h3 : X2.length = 0
        · have := List.eq_nil_of_length_eq_zero h3
          subst this
          simp
        · have h4 : Y1.length = 0 := by omega
          have := List.eq_nil_of_length_eq_zero h4
          subst this
          simp
    rw [hx1]
    obtain ⟨Z1, hz1, hz2, hz3⟩ : ∃ Z1, (if a < a + t1 ∧ a + t1 < mid then symM (ltK K) f a (a + t1) mid (P ++ (X1 ++ (Y1 ++ (X2 ++ (Y2 ++ S))))) else P ++ (X1 ++ (Y1 ++ (X2 ++ (Y2 ++ S))))) = P ++ (Z1 ++ (X2 ++ (Y2 ++ S))) ∧ Z1.Perm (X1 ++ Y1) ∧ SortK K Z1 := by
      by_cases hc : a < a + t1 ∧ a + t1 < mid
      · rw [if_pos hc]
        have := ih X1 Y1 P (X2 ++ (Y2 ++ S)) (by omega) (by omega) (by omega) sx1 sy1
        rwa [← ha, show a + X1.length = a + t1 by omega, show a + t1 + Y1.length = mid by omega] at this
      · rw [if_neg hc]
        refine ⟨X1 ++ Y1, by simp, List.Perm.refl _, ?_⟩
        by_cases h3 : X1.length = 0
        · have := List.eq_nil_of_length_eq_zero h3
          subst this
          exact sy1
        · have h4 : Y1.length = 0 := by omega
          have := List.eq_nil_of_length_eq_zero h4
          subst this
          rw [List.append_nil]
          exact sx1
    rw [hz1]
    have hzl : Z1.length = X1.length + Y1.length := by rw [hz2.length_eq, List.length_append]
    obtain ⟨Z2, hw1, hw2, hw3⟩ : ∃ Z2, (if mid < m + t2 ∧ m + t2 < b then symM (ltK K) f mid (m + t2) b (P ++ (Z1 ++ (X2 ++ (Y2 ++ S)))) else P ++ (Z1 ++ (X2 ++ (Y2 ++ S)))) = P ++ (Z1 ++ (Z2 ++ S)) ∧ Z2.Perm (X2 ++ Y2) ∧ SortK K Z2 := by
      by_cases hc : mid < m + t2 ∧ m + t2 < b
      · rw [if_pos hc]
        have := ih X2 Y2 (P ++ Z1) S (by omega) (by omega) (by omega) sx2 sy2
        rw [show (P ++ Z1).length = mid by simp; omega, show mid + X2.length = m + t2 by omega, show m + t2 + Y2.length = b by omega] at this
        simpa using this
      · rw [if_neg hc]
        refine ⟨X2 ++ Y2, by simp, List.Perm.refl _, ?_⟩
        by_cases h3 : X2.length = 0
        · have := List.eq_nil_of_length_eq_zero h3
          subst this
          exact sy2
        · have h4 : Y2.length = 0 := by omega
          have := List.eq_nil_of_length_eq_zero h4
          subst this
          rw [List.append_nil]
          exact sx2
    rw [hw1]
    refine ⟨Z1 ++ Z2, by simp, ?_, sortK_app hz3 hw3 fun x hx y hy => hle x (hz2.mem_iff.1 hx) y (hw2.mem_iff.1 hy)⟩
    refine (hz2.append hw2).trans ?_
    rw [List.append_assoc, List.append_assoc]
    refine List.Perm.append_left X1 ?_
    rw [← List.append_assoc, ← List.append_assoc]
    exact List.Perm.append_right Y2 List.perm_append_comm
def stabS (lt : Int → Int → Bool) (n : Nat) (xs : List Int) : List Int := if n ≤ 20 then insA lt 0 n xs else symM lt n 0 20 n (insA lt 20 (n - 20) (insA lt 0 20 xs))
theorem stabS_spec (K : Int → Int) (xs : List Int) : (stabS (ltK K) xs.length xs).Perm xs ∧ SortK K (stabS (ltK K) xs.length xs) := by
  unfold stabS
  by_cases h : xs.length ≤ 20
  · rw [if_pos h]
    obtain ⟨Z, h1, h2, h3⟩ := insA_app K [] xs [] xs.length (Nat.le_refl _)
    simp only [List.nil_append, List.append_nil, List.drop_length, List.take_length, List.length_nil] at h1 h2
    rw [h1]
    exact ⟨h2, h3⟩
  · rw [if_neg h]
    obtain ⟨A, B, rfl, hA⟩ : ∃ A B, xs = A ++ B ∧ A.length = 20 := ⟨xs.take 20, xs.drop 20, (List.take_append_drop _ _).symm, by simp; omega⟩
    have hab : (A ++ B).length = 20 + B.length := by rw [List.length_append, hA]
    obtain ⟨Z, h1, h2, h3⟩ := insA_app K [] A B 20 (by omega)
    simp only [List.nil_append, List.length_nil] at h1
    rw [h1, List.drop_of_length_le (by omega), List.nil_append]
    rw [List.take_of_length_le (by omega)] at h2
    have hZ : Z.length = 20 := by rw [h2.length_eq, hA]
    obtain ⟨W, h4, h5, h6⟩ := insA_app K Z B [] B.length (Nat.le_refl _)
    simp only [List.append_nil, List.drop_length, List.take_length] at h4 h5
    rw [show (A ++ B).length - 20 = B.length by omega, ← hZ, h4]
    have hW : W.length = B.length := h5.length_eq
    obtain ⟨V, h7, h8, h9⟩ := symM_app K (A ++ B).length Z W [] [] (by omega) (by omega) (by omega) h3 h6
    simp only [List.nil_append, List.append_nil, List.length_nil, Nat.zero_add] at h7
    rw [show Z.length + W.length = (A ++ B).length by omega] at h7
    rw [h7]
    exact ⟨h8.trans (h2.append h5), h9⟩
end Go.Proofs.Yteopooljohdoiaa.Px
namespace Go.Proofs.Yteopooljohdoiaa.Px
open Go.RowKit Go.Proofs.YteopooljohdoiaaW.PrintWords Go.Proofs.YteopooljohdoiaaW.PrintLast Go.Proofs.YteopooljohdoiaaW.PrintMore
attribute [local go_sem] max2_int min2_int max_two min_two max_three min_three max_four min_four
def errW : Option Int → Value
  | none => .nilIface
  | some c => .iface 0 (.int .i64 c)
theorem errW_none : errW none = .nilIface := rfl
theorem errW_some (c : Int) : errW (some c) = .iface 0 (.int .i64 c) := rfl
theorem info3 : (Try.prog.info? 3).map (fun i => (i.zero, i.size, i.bytes)) = some (some (.int .i64 0), 1, 8) := by kernel_rfl
theorem info112 : (Try.prog.info? 112).map (fun i => (i.zero, i.size, i.bytes)) = some (some (.agg #[(.int .i64 0), (.int .i64 0)]), 2, 16) := by kernel_rfl
structure S112 where
  f0 : Int
  f1 : Int
def z112 : S112 := ⟨(0 : Int), (0 : Int)⟩
def k112 : Kd S112 := Kd.iso (Kd.pair (Kd.int .i64) (Kd.int .i64)) (fun x : S112 => (x.f0, x.f1))
theorem k112_open {w : World} {x : S112} {cs : List Value} (h : k112.K w x cs) : cs = [.int .i64 x.f0, .int .i64 x.f1] := by
  obtain ⟨_, _, rfl, rfl, rfl⟩ := h
  exact rfl
theorem k112_mkM (w : World) (base : Nat) (ok : Nat → Prop) (x : S112)  : k112.M w base ok x [.int .i64 x.f0, .int .i64 x.f1] := ⟨[.int .i64 x.f0], [.int .i64 x.f1], rfl, rfl, rfl⟩
def rd_T112 (xs : List S112) (i : Int) : S112 := xs.getD i.toNat z112
theorem at_T112 {w : World} {A : Option Addr} {n : Nat} {xs : List S112} (h : Kd.C k112 w A n xs) (i : Int) (h0 : 0 ≤ i) (h1 : i < n) : ∃ ad , A = some ad ∧ w.cell? (ad.add (i.toNat * 2)) = some (.int .i64 (rd_T112 xs i).f0) ∧ w.cell? ⟨(ad.add (i.toNat * 2)).block, (ad.add (i.toNat * 2)).off + 1, none⟩ = some (.int .i64 (rd_T112 xs i).f1) := by
  obtain ⟨ad, c, e, _, hK, hc0⟩ := Kd.C_get h z112 i h0 h1
  have hc : ∀ j u, c[j]? = some u → w.cell? (ad.add (i.toNat * 2 + j)) = some u := hc0
  obtain rfl := k112_open hK
  exact ⟨ad, e, hc 0 _ rfl, by rw [← add_field _ _ 1 (by omega)]; exact hc 1 _ rfl⟩
structure S39 where
  f0 : (List S112)
  f1 : (List Int)
def k39 : Kd S39 := Kd.iso (Kd.pair (Kd.slice 112 k112) (Kd.slice 3 (Kd.int .i64))) (fun x : S39 => (x.f0, x.f1))
theorem k39_open {w : World} {x : S39} {cs : List Value} (h : k39.K w x cs) : ∃ A0 c0 A1 c1, cs = [.slice A0 x.f0.length c0, .slice A1 x.f1.length c1] ∧ x.f0.length ≤ c0 ∧ k112.C w A0 x.f0.length x.f0 ∧ x.f1.length ≤ c1 ∧ (Kd.int .i64).C w A1 x.f1.length x.f1 := by
  obtain ⟨_, _, rfl, ⟨A0, c0, rfl, l0, g0⟩, ⟨A1, c1, rfl, l1, g1⟩⟩ := h
  exact ⟨A0, c0, A1, c1, rfl, l0, g0, l1, g1⟩
structure S53 where
  f0 : Int
  f1 : Int
  f2 : Int
def z53 : S53 := ⟨(0 : Int), (0 : Int), (0 : Int)⟩
def k53 : Kd S53 := Kd.iso (Kd.pair (Kd.int .i64) (Kd.pair (Kd.int .i64) (Kd.int .i64))) (fun x : S53 => (x.f0, x.f1, x.f2))
theorem k53_open {w : World} {x : S53} {cs : List Value} (h : k53.K w x cs) : cs = [.int .i64 x.f0, .int .i64 x.f1, .int .i64 x.f2] := by
  obtain ⟨_, _, rfl, rfl, ⟨_, _, rfl, rfl, rfl⟩⟩ := h
  exact rfl
theorem k53_mkM (w : World) (base : Nat) (ok : Nat → Prop) (x : S53)  : k53.M w base ok x [.int .i64 x.f0, .int .i64 x.f1, .int .i64 x.f2] := ⟨[.int .i64 x.f0], [.int .i64 x.f1, .int .i64 x.f2], rfl, rfl, ⟨[.int .i64 x.f1], [.int .i64 x.f2], rfl, rfl, rfl⟩⟩
def rd_T53 (xs : List S53) (i : Int) : S53 := xs.getD i.toNat z53
theorem at_T53 {w : World} {A : Option Addr} {n : Nat} {xs : List S53} (h : Kd.C k53 w A n xs) (i : Int) (h0 : 0 ≤ i) (h1 : i < n) : ∃ ad , A = some ad ∧ w.cell? (ad.add (i.toNat * 3)) = some (.int .i64 (rd_T53 xs i).f0) ∧ w.cell? ⟨(ad.add (i.toNat * 3)).block, (ad.add (i.toNat * 3)).off + 1, none⟩ = some (.int .i64 (rd_T53 xs i).f1) ∧ w.cell? ⟨(ad.add (i.toNat * 3)).block, (ad.add (i.toNat * 3)).off + 2, none⟩ = some (.int .i64 (rd_T53 xs i).f2) := by
  obtain ⟨ad, c, e, _, hK, hc0⟩ := Kd.C_get h z53 i h0 h1
  have hc : ∀ j u, c[j]? = some u → w.cell? (ad.add (i.toNat * 3 + j)) = some u := hc0
  obtain rfl := k53_open hK
  exact ⟨ad, e, hc 0 _ rfl, by rw [← add_field _ _ 1 (by omega)]; exact hc 1 _ rfl, by rw [← add_field _ _ 2 (by omega)]; exact hc 2 _ rfl⟩
structure S135 where
  f0 : ByteArray
  f1 : Int
def z135 : S135 := ⟨(⟨#[]⟩ : ByteArray), (0 : Int)⟩
def k135 : Kd S135 := Kd.iso (Kd.pair Kd.string (Kd.int .i64)) (fun x : S135 => (x.f0, x.f1))
theorem k135_open {w : World} {x : S135} {cs : List Value} (h : k135.K w x cs) : cs = [.string x.f0, .int .i64 x.f1] := by
  obtain ⟨_, _, rfl, rfl, rfl⟩ := h
  exact rfl
theorem k135_mkM (w : World) (base : Nat) (ok : Nat → Prop) (x : S135)  : k135.M w base ok x [.string x.f0, .int .i64 x.f1] := ⟨[.string x.f0], [.int .i64 x.f1], rfl, rfl, rfl⟩
def rd_T135 (xs : List S135) (i : Int) : S135 := xs.getD i.toNat z135
theorem at_T135 {w : World} {A : Option Addr} {n : Nat} {xs : List S135} (h : Kd.C k135 w A n xs) (i : Int) (h0 : 0 ≤ i) (h1 : i < n) : ∃ ad , A = some ad ∧ w.cell? (ad.add (i.toNat * 2)) = some (.string (rd_T135 xs i).f0) ∧ w.cell? ⟨(ad.add (i.toNat * 2)).block, (ad.add (i.toNat * 2)).off + 1, none⟩ = some (.int .i64 (rd_T135 xs i).f1) := by
  obtain ⟨ad, c, e, _, hK, hc0⟩ := Kd.C_get h z135 i h0 h1
  have hc : ∀ j u, c[j]? = some u → w.cell? (ad.add (i.toNat * 2 + j)) = some u := hc0
  obtain rfl := k135_open hK
  exact ⟨ad, e, hc 0 _ rfl, by rw [← add_field _ _ 1 (by omega)]; exact hc 1 _ rfl⟩
def dam_first.l0 : Nat → List Int → Int → Int → Option (Int)
  | 0, _, _, _ => none
  | k + 1, x5, x6, x7 => if x7 < x6 then (if 0 ≤ x7 then (if x7 < (x5.length : Int) then (if (rd x5 x7) = 0 then (dam_first.l0 k x5 x6 (wrap64 (x7 + 1))) else (some (rd x5 x7))) else (none)) else (none)) else (some 0)
def dam_first.f (k : Nat) (l0 : List Int) : Option (Int) := dam_first.l0 k l0 (l0.length : Int) 0
set_option maxHeartbeats 8000000 in
set_option maxRecDepth 100000 in
theorem dam_first.calls (k : Nat) (A0 : Option Addr) (c0 : Nat) (l0 : List Int) (r : Int) (w : World) (hr0 : Kd.C (Kd.int .i64) w A0 l0.length l0) (hc0 : l0.length ≤ c0) (h : dam_first.f k l0 = some r) :
    Calls Try.prog 63 #[.slice A0 l0.length c0] w fun e w' => e = .returned (.int .i64 r) ∧ Drawn0 w w' := by
  have HR0 := Aside0.mk hr0
  have HC0 := Aside0.mk hc0
  clear hr0 hc0
  have H : (dam_first.l0 k l0 (l0.length : Int) 0) = some r := h
  clear h
  have H' := Aside0.mk H
  clear H
  go_enter Try.func63, Try.ntmps63
  go_wp2
  go_loopg [7] k (fun kq v7 w' => ∃ (x7_1 : Int), v7 = .int .i64 x7_1 ∧ Aside0 (dam_first.l0 kq l0 (l0.length : Int) x7_1 = some r) ∧ Aside0 (kq ≤ k) ∧ Drawn0 w w')
  case atStart => exact ⟨(0), (by first | rfl | (simp; done) | (simp [*]; done)), H', ⟨Nat.le_refl _⟩, by repeat (first | exact Drawn0.refl _ | apply Drawn0.step)⟩
  case round =>
    clear H'
    obtain ⟨x7_1, rfl, HA, HK1, ⟨m1, rfl⟩⟩ := hrel
    cases gk with
    | zero => exact absurd HA.out (by simp [dam_first.l0])
    | succ k1 =>
      have H := HA.out
      clear HA
      simp only [dam_first.l0] at H
      by_cases c2 : x7_1 < (l0.length : Int)
      · rw [if_pos c2] at H
        have c2b0 : decide (x7_1 < (l0.length : Int)) = true := decide_eq_true c2
        clear c2
        by_cases c3 : 0 ≤ x7_1
        · rw [if_pos c3] at H
          have c3b0 : decide (0 ≤ x7_1) = true := decide_eq_true c3
          clear c3
          by_cases c4 : x7_1 < (l0.length : Int)
          · rw [if_pos c4] at H
            have c4b0 : decide (x7_1 < (l0.length : Int)) = true := decide_eq_true c4
            clear c4
            by_cases c5 : (rd l0 x7_1) = 0
            · rw [if_pos c5] at H
              have c5b0 : ((rd l0 x7_1) == 0) = true := beq_iff_eq.mpr c5
              have c5b1 : ((rd l0 x7_1) != 0) = false := bne_eq_false_iff_eq.mpr c5
              clear c5
              have H' := Aside0.mk H
              clear H
              have p189001 : 0 ≤ (x7_1 : Int) := of_decide_eq_true asm_
              have q189001 : x7_1 < (l0.length : Int) := of_decide_eq_true asm_
              obtain ⟨ad189001, e189001, hx189001_0⟩ := Kd.at_int HR0.out x7_1 p189001 q189001
              cases e189001
              replace p189001 := eq_true p189001
              replace q189001 := eq_true q189001
              go_wp2
              go_roundg k1
              case measure => have := HK1.out; omega
              case rel => exact ⟨(wrap64 (x7_1 + 1)), (by first | rfl | (simp; done) | (simp [*]; done)), H', ⟨by have := HK1.out; omega⟩, by repeat (first | exact Drawn0.refl _ | apply Drawn0.step)⟩
            · rw [if_neg c5] at H
              have c5b0 : ((rd l0 x7_1) == 0) = false := beq_eq_false_iff_ne.mpr c5
              have c5b1 : ((rd l0 x7_1) != 0) = true := bne_iff_ne.mpr c5
              obtain rfl := Option.some.inj H
              have p189001 : 0 ≤ (x7_1 : Int) := of_decide_eq_true asm_
              have q189001 : x7_1 < (l0.length : Int) := of_decide_eq_true asm_
              obtain ⟨ad189001, e189001, hx189001_0⟩ := Kd.at_int HR0.out x7_1 p189001 q189001
              cases e189001
              replace p189001 := eq_true p189001
              replace q189001 := eq_true q189001
              go_wp2
              go_ret
              exact ⟨by first | rfl | (simp; done) | (simp [*]; done), by repeat (first | exact Drawn0.refl _ | apply Drawn0.step)⟩
          · rw [if_neg c4] at H
            exact absurd H (by simp)
        · rw [if_neg c3] at H
          exact absurd H (by simp)
      · rw [if_neg c2] at H
        have c2b0 : decide (x7_1 < (l0.length : Int)) = false := decide_eq_false c2
        clear c2
        obtain rfl := Option.some.inj H
        go_wp2
        go_ret
        exact ⟨by first | rfl | (simp; done) | (simp [*]; done), by repeat (first | exact Drawn0.refl _ | apply Drawn0.step)⟩
def dam_unless.f (a0 : Bool) (a1 : Int) : Option (Int) := if a0 = true then (some 0) else (some a1)
set_option maxHeartbeats 8000000 in
set_option maxRecDepth 100000 in
theorem dam_unless.calls (a0 : Bool) (a1 : Int) (r : Int) (w : World) (h : dam_unless.f a0 a1 = some r) :
    Calls Try.prog 64 #[.bool a0, .int .i64 a1] w fun e w' => e = .returned (.int .i64 r) ∧ Drawn0 w w' := by
  have H : (if a0 = true then (some 0) else (some a1)) = some r := h
  clear h
  by_cases c3 : a0 = true
  · subst c3
    have H1 : (some 0) = some r := by rw [if_pos rfl] at H; exact H
    clear H
    have H := H1
    clear H1
    obtain rfl := Option.some.inj H
    go_enter Try.func64, Try.ntmps64
    go_wp2
    go_ret
    exact ⟨by first | rfl | (simp; done) | (simp [*]; done), by repeat (first | exact Drawn0.refl _ | apply Drawn0.step)⟩
  · replace c3 := Bool.eq_false_iff.mpr c3
    subst c3
    have H1 : (some a1) = some r := by rw [if_neg (show ¬ (false = true) by decide)] at H; exact H
    clear H
    have H := H1
    clear H1
    obtain rfl := Option.some.inj H
    go_enter Try.func64, Try.ntmps64
    go_wp2
    go_ret
    exact ⟨by first | rfl | (simp; done) | (simp [*]; done), by repeat (first | exact Drawn0.refl _ | apply Drawn0.step)⟩
def dam_within.f (a0 : Int) (a1 : Int) (a2 : Int) : Option (Bool) := if a1 ≤ a0 then (some (decide (a0 ≤ a2))) else (some false)
set_option maxHeartbeats 8000000 in
set_option maxRecDepth 100000 in
theorem dam_within.calls (a0 : Int) (a1 : Int) (a2 : Int) (r : Bool) (w : World) (h : dam_within.f a0 a1 a2 = some r) :
    Calls Try.prog 65 #[.int .i64 a0, .int .i64 a1, .int .i64 a2] w fun e w' => e = .returned (.bool r) ∧ Drawn0 w w' := by
  have H : (if a1 ≤ a0 then (some (decide (a0 ≤ a2))) else (some false)) = some r := h
  clear h
  by_cases c4 : a1 ≤ a0
  · rw [if_pos c4] at H
    have c4b0 : decide (a1 ≤ a0) = true := decide_eq_true c4
    clear c4
    obtain rfl := Option.some.inj H
    go_enter Try.func65, Try.ntmps65
    go_wp2
    go_ret
    exact ⟨by first | rfl | (simp; done) | (simp [*]; done), by repeat (first | exact Drawn0.refl _ | apply Drawn0.step)⟩
  · rw [if_neg c4] at H
    have c4b0 : decide (a1 ≤ a0) = false := decide_eq_false c4
    clear c4
    obtain rfl := Option.some.inj H
    go_enter Try.func65, Try.ntmps65
    go_wp2
    go_ret
    exact ⟨by first | rfl | (simp; done) | (simp [*]; done), by repeat (first | exact Drawn0.refl _ | apply Drawn0.step)⟩
end Go.Proofs.Yteopooljohdoiaa.Px
namespace Go.Proofs.Yteopooljohdoiaa.Px
open Go.RowKit Go.Proofs.YteopooljohdoiaaW.PrintWords Go.Proofs.YteopooljohdoiaaW.PrintLast Go.Proofs.YteopooljohdoiaaW.PrintMore
attribute [local go_sem] max2_int min2_int max_two min_two max_three min_three max_four min_four
mutual
def dam_CheckBasin.j0 : Nat → Int → List Int → List Int → Option (Int × Int)
  | 0, _, _, _ => none
  | k + 1, x5, x33002000, x33002001 => if x5 = 0 then (dam_CheckBasin.l0 k x33002000 (x33002000.length : Int) 0 x33002000 x33002001) else (some (0, x5))
def dam_CheckBasin.l0 : Nat → List Int → Int → Int → List Int → List Int → Option (Int × Int)
  | 0, _, _, _, _, _ => none
  | k + 1, x30, x31, x32, x33002000, x33002001 => if x32 < x31 then (if 0 ≤ x32 then (if x32 < (x30.length : Int) then ((dam_within.f (rd x30 x32) 0 1000000000).bind fun t33015 => (if t33015 = true then (if x32 < (x33002001.length : Int) then ((dam_within.f (rd x33002001 x32) 1 1000000000).bind fun t33017 => (if t33017 = true then (dam_CheckBasin.l0 k x30 x31 (wrap64 (x32 + 1)) x33002000 x33002001) else (some (x32, 2)))) else (none)) else (some (x32, 2)))) else (none)) else (none)) else (some (0, 0))
end
def dam_CheckBasin.f (k : Nat) (l0_0 : List Int) (l0_1 : List Int) : Option (Int × Int) := if (l0_0.length : Int) > 0 then ((dam_unless.f ((l0_1.length : Int) == (l0_0.length : Int)) 10).bind fun t33002 => ((dam_unless.f (decide ((l0_0.length : Int) ≤ 20)) 8).bind fun t33003 => ((dam_first.f k (([t33002, t33003] : List Int))).bind fun t33007 => (dam_CheckBasin.j0 k t33007 l0_0 l0_1)))) else ((dam_unless.f false 10).bind fun t33008 => ((dam_unless.f (decide ((l0_0.length : Int) ≤ 20)) 8).bind fun t33009 => ((dam_first.f k (([t33008, t33009] : List Int))).bind fun t33013 => (dam_CheckBasin.j0 k t33013 l0_0 l0_1))))
set_option maxHeartbeats 8000000 in
set_option maxRecDepth 100000 in
theorem dam_CheckBasin.calls (k : Nat) (A0_0 : Option Addr) (c0_0 : Nat) (l0_0 : List Int) (A0_1 : Option Addr) (c0_1 : Nat) (l0_1 : List Int) (r1 : Int) (r2 : Int) (w : World) (hr0_0 : Kd.C (Kd.int .i64) w A0_0 l0_0.length l0_0) (hc0_0 : l0_0.length ≤ c0_0) (hr0_1 : Kd.C (Kd.int .i64) w A0_1 l0_1.length l0_1) (hc0_1 : l0_1.length ≤ c0_1) (h : dam_CheckBasin.f k l0_0 l0_1 = some (r1, r2)) :
    Calls Try.prog 11 #[.agg #[.slice A0_0 l0_0.length c0_0, .slice A0_1 l0_1.length c0_1]] w fun e w' => e = .returned (.tuple #[.int .i64 r1, .int .i64 r2]) ∧ Below w.heap.size w w' := by
  have hu24 := Try.underlying24
  have HR0_0 := Aside0.mk hr0_0
  have HC0_0 := Aside0.mk hc0_0
  clear hr0_0 hc0_0
  have HR0_1 := Aside0.mk hr0_1
  have HC0_1 := Aside0.mk hc0_1
  clear hr0_1 hc0_1
  have HB := Aside0.mk (Below.refl w.heap.size w)
  have H : (if (l0_0.length : Int) > 0 then ((dam_unless.f ((l0_1.length : Int) == (l0_0.length : Int)) 10).bind fun t33002 => ((dam_unless.f (decide ((l0_0.length : Int) ≤ 20)) 8).bind fun t33003 => ((dam_first.f k (([t33002, t33003] : List Int))).bind fun t33007 => (dam_CheckBasin.j0 k t33007 l0_0 l0_1)))) else ((dam_unless.f false 10).bind fun t33008 => ((dam_unless.f (decide ((l0_0.length : Int) ≤ 20)) 8).bind fun t33009 => ((dam_first.f k (([t33008, t33009] : List Int))).bind fun t33013 => (dam_CheckBasin.j0 k t33013 l0_0 l0_1))))) = some (r1, r2) := h
  clear h
  have HC2 := Aside0.mk H
  clear H
  go_enter Try.func11, Try.ntmps11
  go_upto_region 2 with (first | ((with_reducible refine gate_dst (N := 1) rfl ?_); (try (refine gate_guard (by rfl) ?_; dsimp only)); refine box_event ?hg (N := 1) ?hd (cs := #[.slice A0_0 l0_0.length c0_0, .slice A0_1 l0_1.length c0_1]) (t := 24) ?hr ?_; (case hd => rfl); (case hg => rfl); (case hr => first | (go_simp; done) | (go_simp; rfl)); intro gb33001 hg w3 hbox hb; have n0_ := Aside0.mk (below_step (bel HB.out) hb); have n1_ := Aside0.mk (hbox); have n2_ := Aside0.mk ((by rw [hg]; exact (below_size (bel HB.out)) : w.heap.size ≤ gb33001)); have n3_ := Aside0.mk ((by rw [hg]; exact (below_size (bel HB.out)) : w.heap.size ≤ gb33001)); clear HB; have HB := n0_; have BK33001 := n1_; have GW33001 := n2_; have GE33001 := n3_; clear n0_ n1_ n2_ n3_; clear hb hbox hg; have hcz4_0 : w3.cell? ⟨gb33001, 0, none⟩ = some (.slice A0_0 l0_0.length c0_0) := (blk_cell BK33001.out 0).trans rfl; have hcz4_1 : w3.cell? ⟨gb33001, 1, none⟩ = some (.slice A0_1 l0_1.length c0_1) := (blk_cell BK33001.out 1).trans rfl; have hfz4_0 := blk_frozen BK33001.out 0; have hfz4_1 := blk_frozen BK33001.out 1))
  (try simp only [Act.put, List.setIfInBounds_toArray, List.set_cons_zero, List.set_cons_succ])
  go_cut [5] (fun v5 wc => ∃ (kq : Nat) (x5_1 : Int), v5 = .int .i64 x5_1 ∧ Aside0 (dam_CheckBasin.j0 kq x5_1 l0_0 l0_1 = some (r1, r2)) ∧ Aside0 (kq ≤ k) ∧ Aside0 (wc.heap[gb33001]? = some (.cells #[(.slice A0_0 l0_0.length c0_0), (.slice A0_1 l0_1.length c0_1)] 24 (0, 0))) ∧ Aside0 (Below w.heap.size w wc))
  case first =>
    have H := HC2.out
    clear HC2
    by_cases c5 : (l0_0.length : Int) > 0
    · rw [if_pos c5] at H
      have c5b0 : decide (0 < (l0_0.length : Int)) = true := decide_eq_true c5
      have c5b1 : decide (0 < l0_0.length) = true := decide_eq_true (by omega)
      clear c5
      (first | rw [c5b0] | (simp only [i64_w, i32_w]; rw [c5b0]) | skip)
      replace H := Option.bind_eq_some_iff.mp H
      obtain ⟨t33002, A60, H⟩ := H
      replace H : ((dam_unless.f (decide ((l0_0.length : Int) ≤ 20)) 8).bind fun t33003 => ((dam_first.f k (([t33002, t33003] : List Int))).bind fun t33007 => (dam_CheckBasin.j0 k t33007 l0_0 l0_1))) = some (r1, r2) := H
      have A6 := Aside0.mk A60
      clear A60
      replace H := Option.bind_eq_some_iff.mp H
      obtain ⟨t33003, A70, H⟩ := H
      replace H : ((dam_first.f k (([t33002, t33003] : List Int))).bind fun t33007 => (dam_CheckBasin.j0 k t33007 l0_0 l0_1)) = some (r1, r2) := H
      have A7 := Aside0.mk A70
      clear A70
      obtain ⟨y33004, hy33004⟩ : ∃ y_ : List Int, y_ = (([t33002, t33003] : List Int)) := ⟨_, rfl⟩
      replace H : ((dam_first.f k y33004).bind fun t33007 => (dam_CheckBasin.j0 k t33007 l0_0 l0_1)) = some (r1, r2) := by first | (rw [hy33004]; with_reducible exact H) | (have H2_ := (Option.bind_some _ _).symm.trans H; rw [hy33004]; with_reducible exact H2_) | (have H2_ := (Option.bind_some _ _).symm.trans H; with_reducible exact H2_) | with_reducible exact H | (rw [hy33004]; exact H) | exact H
      have Ny33004 := Aside0.mk hy33004
      clear hy33004
      replace H := Option.bind_eq_some_iff.mp H
      obtain ⟨t33007, A80, H⟩ := H
      replace H : (dam_CheckBasin.j0 k t33007 l0_0 l0_1) = some (r1, r2) := H
      have A8 := Aside0.mk A80
      clear A80
      have H' := Aside0.mk H
      clear H
      have hcz9_0 : w3.cell? ⟨gb33001, 0, none⟩ = some (.slice A0_0 l0_0.length c0_0) := (blk_cell BK33001.out 0).trans rfl
      have hcz9_1 : w3.cell? ⟨gb33001, 1, none⟩ = some (.slice A0_1 l0_1.length c0_1) := (blk_cell BK33001.out 1).trans rfl
      have hfz9_0 := blk_frozen BK33001.out 0
      have hfz9_1 := blk_frozen BK33001.out 1
      go_wp2_with (first | ((with_reducible refine gate_callee (f := 64) rfl ?_); refine goesL_ (some 20) rfl rfl Try.func64 (by kernel_rfl) rfl #[.bool ((l0_1.length : Int) == (l0_0.length : Int)), .int .i64 10] rfl mpa ?_; (with_reducible refine (dam_unless.calls ((l0_1.length : Int) == (l0_0.length : Int)) 10 t33002 _ A6.out).mono ?_); rintro e w' ⟨rfl, ⟨nd, rfl⟩⟩; refine ⟨_, rfl, ?_⟩) | ((with_reducible refine gate_callee (f := 64) rfl ?_); refine goesL_ (some 23) rfl rfl Try.func64 (by kernel_rfl) rfl #[.bool (decide ((l0_0.length : Int) ≤ 20)), .int .i64 8] rfl mpa ?_; (with_reducible refine (dam_unless.calls (decide ((l0_0.length : Int) ≤ 20)) 8 t33003 _ A7.out).mono ?_); rintro e w' ⟨rfl, ⟨nd, rfl⟩⟩; refine ⟨_, rfl, ?_⟩) | ((with_reducible refine gate_dst (N := 24) rfl ?_); (try (refine gate_guard (by rfl) ?_; dsimp only)); refine Kd.R_lit (Kd.int .i64) _ 26 ?hg (N := 24) ?hd (xs := ([t33002, t33003] : List Int)) (inner := [.int .i64 t33002, .int .i64 t33003]) (ok := fun _ => True) (okp := fun _ => True) ?hr ?hp (fun _ hk => hk) trivial (Below.refl _ _) (Nat.le_refl _) (by simp) ?_; (case hd => rfl); (case hg => rfl); (case hr => first | (go_simp; done) | (go_simp; rfl)); (case hp => exact (Reps.one (show Kd.M (Kd.int .i64) _ _ _ t33002 [.int .i64 t33002] from rfl) (Reps.one (show Kd.M (Kd.int .i64) _ _ _ t33003 [.int .i64 t33003] from rfl) (Reps.none _ _)))); intro v33005 w10 ho11 hb hg_ hnew_; clear hg_ hnew_; (first | rw [← Ny33004.out] at ho11 | (simp only [Int.reduceToNat] at ho11; rw [← Ny33004.out] at ho11)); have n0_ := Aside0.mk (Kd.R_lower ho11 (below_size (belS HB.out GE33001.out))); have n1_ := Aside0.mk (blk_below (g := gb33001) (o := .cells #[.slice A0_0 l0_0.length c0_0, .slice A0_1 l0_1.length c0_1] 24 (0, 0)) (bkl BK33001.out) hb); have n2_ := Aside0.mk (below_step (belS HB.out GE33001.out) hb); clear BK33001; clear HB; have HO33006 := n0_; have BK33001 := n1_; have HB := n2_; clear n0_ n1_ n2_; clear hb ho11; obtain ⟨Ao12, co12, eo12⟩ := Kd.R_slice HO33006.out; subst eo12) | ((with_reducible refine gate_callee (f := 63) rfl ?_); refine goesL_ (some 25) rfl rfl Try.func63 (by kernel_rfl) rfl #[.slice Ao12 y33004.length co12] rfl mpa ?_; (with_reducible refine (dam_first.calls k _ _ y33004 t33007 _ ?side1 ?side2 A8.out).mono ?_); (case side1 => repeat (first | exact (Kd.R_reads' HO33006.out).2.2 | (with_reducible refine Kd.C_alloc ?_ _) | (with_reducible refine Kd.C_drewN ?_ _) | (with_reducible refine Kd.C_drew ?_))); (case side2 => exact (Kd.R_reads' HO33006.out).2.1); rintro e w' ⟨rfl, ⟨nd, rfl⟩⟩; refine ⟨_, rfl, ?_⟩))
      go_meet
      case rel => exact ⟨_, (t33007), (by first | rfl | (simp; done) | (simp [*]; done)), H', ⟨by first | omega | exact Nat.le_refl _⟩, ⟨bkl BK33001.out⟩, ⟨belS HB.out GE33001.out⟩⟩
    · rw [if_neg c5] at H
      have c5b0 : decide (0 < (l0_0.length : Int)) = false := decide_eq_false c5
      have c5b1 : decide (0 < l0_0.length) = false := decide_eq_false (by omega)
      clear c5
      (first | rw [c5b0] | (simp only [i64_w, i32_w]; rw [c5b0]) | skip)
      replace H := Option.bind_eq_some_iff.mp H
      obtain ⟨t33008, A130, H⟩ := H
      replace H : ((dam_unless.f (decide ((l0_0.length : Int) ≤ 20)) 8).bind fun t33009 => ((dam_first.f k (([t33008, t33009] : List Int))).bind fun t33013 => (dam_CheckBasin.j0 k t33013 l0_0 l0_1))) = some (r1, r2) := H
      have A13 := Aside0.mk A130
      clear A130
      replace H := Option.bind_eq_some_iff.mp H
      obtain ⟨t33009, A140, H⟩ := H
      replace H : ((dam_first.f k (([t33008, t33009] : List Int))).bind fun t33013 => (dam_CheckBasin.j0 k t33013 l0_0 l0_1)) = some (r1, r2) := H
      have A14 := Aside0.mk A140
      clear A140
      obtain ⟨y33010, hy33010⟩ : ∃ y_ : List Int, y_ = (([t33008, t33009] : List Int)) := ⟨_, rfl⟩
      replace H : ((dam_first.f k y33010).bind fun t33013 => (dam_CheckBasin.j0 k t33013 l0_0 l0_1)) = some (r1, r2) := by first | (rw [hy33010]; with_reducible exact H) | (have H2_ := (Option.bind_some _ _).symm.trans H; rw [hy33010]; with_reducible exact H2_) | (have H2_ := (Option.bind_some _ _).symm.trans H; with_reducible exact H2_) | with_reducible exact H | (rw [hy33010]; exact H) | exact H
      have Ny33010 := Aside0.mk hy33010
      clear hy33010
      replace H := Option.bind_eq_some_iff.mp H
      obtain ⟨t33013, A150, H⟩ := H
      replace H : (dam_CheckBasin.j0 k t33013 l0_0 l0_1) = some (r1, r2) := H
      have A15 := Aside0.mk A150
      clear A150
      have H' := Aside0.mk H
      clear H
      go_wp2_with (first | ((with_reducible refine gate_callee (f := 64) rfl ?_); refine goesL_ (some 20) rfl rfl Try.func64 (by kernel_rfl) rfl #[.bool false, .int .i64 10] rfl mpa ?_; (with_reducible refine (dam_unless.calls false 10 t33008 _ A13.out).mono ?_); rintro e w' ⟨rfl, ⟨nd, rfl⟩⟩; refine ⟨_, rfl, ?_⟩) | ((with_reducible refine gate_callee (f := 64) rfl ?_); refine goesL_ (some 23) rfl rfl Try.func64 (by kernel_rfl) rfl #[.bool (decide ((l0_0.length : Int) ≤ 20)), .int .i64 8] rfl mpa ?_; (with_reducible refine (dam_unless.calls (decide ((l0_0.length : Int) ≤ 20)) 8 t33009 _ A14.out).mono ?_); rintro e w' ⟨rfl, ⟨nd, rfl⟩⟩; refine ⟨_, rfl, ?_⟩) | ((with_reducible refine gate_dst (N := 24) rfl ?_); (try (refine gate_guard (by rfl) ?_; dsimp only)); refine Kd.R_lit (Kd.int .i64) _ 26 ?hg (N := 24) ?hd (xs := ([t33008, t33009] : List Int)) (inner := [.int .i64 t33008, .int .i64 t33009]) (ok := fun _ => True) (okp := fun _ => True) ?hr ?hp (fun _ hk => hk) trivial (Below.refl _ _) (Nat.le_refl _) (by simp) ?_; (case hd => rfl); (case hg => rfl); (case hr => first | (go_simp; done) | (go_simp; rfl)); (case hp => exact (Reps.one (show Kd.M (Kd.int .i64) _ _ _ t33008 [.int .i64 t33008] from rfl) (Reps.one (show Kd.M (Kd.int .i64) _ _ _ t33009 [.int .i64 t33009] from rfl) (Reps.none _ _)))); intro v33011 w16 ho17 hb hg_ hnew_; clear hg_ hnew_; (first | rw [← Ny33010.out] at ho17 | (simp only [Int.reduceToNat] at ho17; rw [← Ny33010.out] at ho17)); have n0_ := Aside0.mk (Kd.R_lower ho17 (below_size (belS HB.out GE33001.out))); have n1_ := Aside0.mk (blk_below (g := gb33001) (o := .cells #[.slice A0_0 l0_0.length c0_0, .slice A0_1 l0_1.length c0_1] 24 (0, 0)) (bkl BK33001.out) hb); have n2_ := Aside0.mk (below_step (belS HB.out GE33001.out) hb); clear BK33001; clear HB; have HO33012 := n0_; have BK33001 := n1_; have HB := n2_; clear n0_ n1_ n2_; clear hb ho17; obtain ⟨Ao18, co18, eo18⟩ := Kd.R_slice HO33012.out; subst eo18) | ((with_reducible refine gate_callee (f := 63) rfl ?_); refine goesL_ (some 25) rfl rfl Try.func63 (by kernel_rfl) rfl #[.slice Ao18 y33010.length co18] rfl mpa ?_; (with_reducible refine (dam_first.calls k _ _ y33010 t33013 _ ?side1 ?side2 A15.out).mono ?_); (case side1 => repeat (first | exact (Kd.R_reads' HO33012.out).2.2 | (with_reducible refine Kd.C_alloc ?_ _) | (with_reducible refine Kd.C_drewN ?_ _) | (with_reducible refine Kd.C_drew ?_))); (case side2 => exact (Kd.R_reads' HO33012.out).2.1); rintro e w' ⟨rfl, ⟨nd, rfl⟩⟩; refine ⟨_, rfl, ?_⟩))
      go_meet
      case rel => exact ⟨_, (t33013), (by first | rfl | (simp; done) | (simp [*]; done)), H', ⟨by first | omega | exact Nat.le_refl _⟩, ⟨bkl BK33001.out⟩, ⟨belS HB.out GE33001.out⟩⟩
  case rest =>
    clear HC2
    try clear c1
    try clear p2
    try clear c5
    try clear c5b0
    try clear c5b1
    try clear c6
    try clear c11
    try clear hcz4_0
    try clear hcz4_1
    try clear hcz9_0
    try clear hcz9_1
    try clear hfz4_0
    try clear hfz4_1
    try clear hfz9_0
    try clear hfz9_1
    obtain ⟨kq, x5_1, rfl, HA, HJ1, BK33001, HB⟩ := hcut
    cases kq with
    | zero => exact absurd HA.out (by simp [dam_CheckBasin.j0])
    | succ kj1 =>
      have H := HA.out
      clear HA
      simp only [dam_CheckBasin.j0] at H
      by_cases c19 : x5_1 = 0
      · rw [if_pos c19] at H
        have c19b0 : (x5_1 == 0) = true := beq_iff_eq.mpr c19
        have c19b1 : (x5_1 != 0) = false := bne_eq_false_iff_eq.mpr c19
        clear c19
        have H' := Aside0.mk H
        clear H
        have hcz20_0 : wc.cell? ⟨gb33001, 0, none⟩ = some (.slice A0_0 l0_0.length c0_0) := (blk_cell BK33001.out 0).trans rfl
        have hcz20_1 : wc.cell? ⟨gb33001, 1, none⟩ = some (.slice A0_1 l0_1.length c0_1) := (blk_cell BK33001.out 1).trans rfl
        have hfz20_0 := blk_frozen BK33001.out 0
        have hfz20_1 := blk_frozen BK33001.out 1
        go_wp2
        go_loopg [32] kj1 (fun kq v32 w' => ∃ (x32_2 : Int), v32 = .int .i64 x32_2 ∧ Aside0 (dam_CheckBasin.l0 kq l0_0 (l0_0.length : Int) x32_2 l0_0 l0_1 = some (r1, r2)) ∧ Aside0 (kq ≤ kj1) ∧ Aside0 (w'.heap[gb33001]? = some (.cells #[(.slice A0_0 l0_0.length c0_0), (.slice A0_1 l0_1.length c0_1)] 24 (0, 0))) ∧ Aside0 (Below w.heap.size w w'))
        case atStart => exact ⟨(0), (by first | rfl | (simp; done) | (simp [*]; done)), H', ⟨Nat.le_refl _⟩, ⟨bkl BK33001.out⟩, ⟨belS HB.out GE33001.out⟩⟩
        case round =>
          clear H'
          try clear c1
          try clear p2
          try clear c5
          try clear c5b0
          try clear c5b1
          try clear c6
          try clear c11
          try clear c19
          try clear c19b0
          try clear c19b1
          try clear hcz20_0
          try clear hcz20_1
          try clear hcz4_0
          try clear hcz4_1
          try clear hcz9_0
          try clear hcz9_1
          try clear hfz20_0
          try clear hfz20_1
          try clear hfz4_0
          try clear hfz4_1
          try clear hfz9_0
          try clear hfz9_1
          try clear p2
          obtain ⟨x32_2, rfl, HA, HK2, BK33001, HB⟩ := hrel
          cases gk with
          | zero => exact absurd HA.out (by simp [dam_CheckBasin.l0])
          | succ k2 =>
            have H := HA.out
            clear HA
            simp only [dam_CheckBasin.l0] at H
            by_cases c21 : x32_2 < (l0_0.length : Int)
            · rw [if_pos c21] at H
              have c21b0 : decide (x32_2 < (l0_0.length : Int)) = true := decide_eq_true c21
              clear c21
              by_cases c22 : 0 ≤ x32_2
              · rw [if_pos c22] at H
                have c22b0 : decide (0 ≤ x32_2) = true := decide_eq_true c22
                clear c22
                by_cases c23 : x32_2 < (l0_0.length : Int)
                · rw [if_pos c23] at H
                  have c23b0 : decide (x32_2 < (l0_0.length : Int)) = true := decide_eq_true c23
                  clear c23
                  replace H := Option.bind_eq_some_iff.mp H
                  obtain ⟨t33015, A240, H⟩ := H
                  replace H : (if t33015 = true then (if x32_2 < (l0_1.length : Int) then ((dam_within.f (rd l0_1 x32_2) 1 1000000000).bind fun t33017 => (if t33017 = true then (dam_CheckBasin.l0 k2 l0_0 (l0_0.length : Int) (wrap64 (x32_2 + 1)) l0_0 l0_1) else (some (x32_2, 2)))) else (none)) else (some (x32_2, 2))) = some (r1, r2) := H
                  have A24 := Aside0.mk A240
                  clear A240
                  by_cases c25 : t33015 = true
                  · subst c25
                    have H1 : (if x32_2 < (l0_1.length : Int) then ((dam_within.f (rd l0_1 x32_2) 1 1000000000).bind fun t33017 => (if t33017 = true then (dam_CheckBasin.l0 k2 l0_0 (l0_0.length : Int) (wrap64 (x32_2 + 1)) l0_0 l0_1) else (some (x32_2, 2)))) else (none)) = some (r1, r2) := by rw [if_pos rfl] at H; exact H
                    clear H
                    have H := H1
                    clear H1
                    by_cases c26 : x32_2 < (l0_1.length : Int)
                    · rw [if_pos c26] at H
                      have c26b0 : decide (x32_2 < (l0_1.length : Int)) = true := decide_eq_true c26
                      clear c26
                      replace H := Option.bind_eq_some_iff.mp H
                      obtain ⟨t33017, A270, H⟩ := H
                      replace H : (if t33017 = true then (dam_CheckBasin.l0 k2 l0_0 (l0_0.length : Int) (wrap64 (x32_2 + 1)) l0_0 l0_1) else (some (x32_2, 2))) = some (r1, r2) := H
                      have A27 := Aside0.mk A270
                      clear A270
                      by_cases c28 : t33017 = true
                      · subst c28
                        have H1 : (dam_CheckBasin.l0 k2 l0_0 (l0_0.length : Int) (wrap64 (x32_2 + 1)) l0_0 l0_1) = some (r1, r2) := by rw [if_pos rfl] at H; exact H
                        clear H
                        have H := H1
                        clear H1
                        have H' := Aside0.mk H
                        clear H
                        have p33014 : 0 ≤ (x32_2 : Int) := of_decide_eq_true asm_
                        have q33014 : x32_2 < (l0_0.length : Int) := of_decide_eq_true asm_
                        obtain ⟨ad33014, e33014, hx33014_0⟩ := Kd.at_int HR0_0.out x32_2 p33014 q33014
                        cases e33014
                        replace hx33014_0 := (HB.out.cell (World.block_lt_of_cell? w _ hx33014_0)).trans hx33014_0
                        replace p33014 := eq_true p33014
                        replace q33014 := eq_true q33014
                        go_wp2_with (first | ((with_reducible refine gate_callee (f := 65) rfl ?_); refine goesL_ (some 38) rfl rfl Try.func65 (by kernel_rfl) rfl #[.int .i64 (rd l0_0 x32_2), .int .i64 0, .int .i64 1000000000] rfl mpa ?_; (with_reducible refine (dam_within.calls (rd l0_0 x32_2) 0 1000000000 true _ A24.out).mono ?_); rintro e w' ⟨rfl, ⟨nd, rfl⟩⟩; refine ⟨_, rfl, ?_⟩; have hcz29_0 : wr.cell? ⟨gb33001, 0, none⟩ = some (.slice (some ad33014) l0_0.length c0_0) := (blk_cell BK33001.out 0).trans rfl; have hcz29_1 : wr.cell? ⟨gb33001, 1, none⟩ = some (.slice A0_1 l0_1.length c0_1) := (blk_cell BK33001.out 1).trans rfl; have hfz29_0 := blk_frozen BK33001.out 0; have hfz29_1 := blk_frozen BK33001.out 1; have p33016 : 0 ≤ (x32_2 : Int) := of_decide_eq_true asm_; have q33016 : x32_2 < (l0_1.length : Int) := of_decide_eq_true asm_; obtain ⟨ad33016, e33016, hx33016_0⟩ := Kd.at_int HR0_1.out x32_2 p33016 q33016; cases e33016; replace hx33016_0 := (HB.out.cell (World.block_lt_of_cell? w _ hx33016_0)).trans hx33016_0; replace p33016 := eq_true p33016; replace q33016 := eq_true q33016) | (go_at_call 65; (with_reducible refine (dam_within.calls (rd l0_1 x32_2) 1 1000000000 true _ A27.out).mono ?_); rintro e w' ⟨rfl, ⟨nd, rfl⟩⟩))
                        go_roundg k2
                        case measure => have := HJ1.out; have := HK2.out; omega
                        case rel => exact ⟨(wrap64 (x32_2 + 1)), (by first | rfl | (simp; done) | (simp [*]; done)), H', ⟨by have := HJ1.out; have := HK2.out; omega⟩, ⟨bkl BK33001.out⟩, ⟨belS HB.out GE33001.out⟩⟩
                      · replace c28 := Bool.eq_false_iff.mpr c28
                        subst c28
                        have H1 : (some (x32_2, 2)) = some (r1, r2) := by rw [if_neg (show ¬ (false = true) by decide)] at H; exact H
                        clear H
                        have H := H1
                        clear H1
                        simp only [Option.some.injEq, Prod.mk.injEq] at H
                        obtain ⟨rfl, rfl⟩ := H
                        have p33014 : 0 ≤ (x32_2 : Int) := of_decide_eq_true asm_
                        have q33014 : x32_2 < (l0_0.length : Int) := of_decide_eq_true asm_
                        obtain ⟨ad33014, e33014, hx33014_0⟩ := Kd.at_int HR0_0.out x32_2 p33014 q33014
                        cases e33014
                        replace hx33014_0 := (HB.out.cell (World.block_lt_of_cell? w _ hx33014_0)).trans hx33014_0
                        replace p33014 := eq_true p33014
                        replace q33014 := eq_true q33014
                        go_wp2_with (first | ((with_reducible refine gate_callee (f := 65) rfl ?_); refine goesL_ (some 38) rfl rfl Try.func65 (by kernel_rfl) rfl #[.int .i64 (rd l0_0 x32_2), .int .i64 0, .int .i64 1000000000] rfl mpa ?_; (with_reducible refine (dam_within.calls (rd l0_0 x32_2) 0 1000000000 true _ A24.out).mono ?_); rintro e w' ⟨rfl, ⟨nd, rfl⟩⟩; refine ⟨_, rfl, ?_⟩; have hcz30_0 : wr.cell? ⟨gb33001, 0, none⟩ = some (.slice (some ad33014) l0_0.length c0_0) := (blk_cell BK33001.out 0).trans rfl; have hcz30_1 : wr.cell? ⟨gb33001, 1, none⟩ = some (.slice A0_1 l0_1.length c0_1) := (blk_cell BK33001.out 1).trans rfl; have hfz30_0 := blk_frozen BK33001.out 0; have hfz30_1 := blk_frozen BK33001.out 1; have p33016 : 0 ≤ (x32_2 : Int) := of_decide_eq_true asm_; have q33016 : x32_2 < (l0_1.length : Int) := of_decide_eq_true asm_; obtain ⟨ad33016, e33016, hx33016_0⟩ := Kd.at_int HR0_1.out x32_2 p33016 q33016; cases e33016; replace hx33016_0 := (HB.out.cell (World.block_lt_of_cell? w _ hx33016_0)).trans hx33016_0; replace p33016 := eq_true p33016; replace q33016 := eq_true q33016) | (go_at_call 65; (with_reducible refine (dam_within.calls (rd l0_1 x32_2) 1 1000000000 false _ A27.out).mono ?_); rintro e w' ⟨rfl, ⟨nd, rfl⟩⟩))
                        go_ret2
                        exact ⟨by first | rfl | (simp [errW_none, errW_some] <;> rfl) | (simp [*, errW_none, errW_some] <;> rfl), belS HB.out GE33001.out⟩
                    · rw [if_neg c26] at H
                      exact absurd H (by simp)
                  · replace c25 := Bool.eq_false_iff.mpr c25
                    subst c25
                    have H1 : (some (x32_2, 2)) = some (r1, r2) := by rw [if_neg (show ¬ (false = true) by decide)] at H; exact H
                    clear H
                    have H := H1
                    clear H1
                    simp only [Option.some.injEq, Prod.mk.injEq] at H
                    obtain ⟨rfl, rfl⟩ := H
                    have p33014 : 0 ≤ (x32_2 : Int) := of_decide_eq_true asm_
                    have q33014 : x32_2 < (l0_0.length : Int) := of_decide_eq_true asm_
                    obtain ⟨ad33014, e33014, hx33014_0⟩ := Kd.at_int HR0_0.out x32_2 p33014 q33014
                    cases e33014
                    replace hx33014_0 := (HB.out.cell (World.block_lt_of_cell? w _ hx33014_0)).trans hx33014_0
                    replace p33014 := eq_true p33014
                    replace q33014 := eq_true q33014
                    go_wp2_with (first | ((with_reducible refine gate_callee (f := 65) rfl ?_); refine goesL_ (some 38) rfl rfl Try.func65 (by kernel_rfl) rfl #[.int .i64 (rd l0_0 x32_2), .int .i64 0, .int .i64 1000000000] rfl mpa ?_; (with_reducible refine (dam_within.calls (rd l0_0 x32_2) 0 1000000000 false _ A24.out).mono ?_); rintro e w' ⟨rfl, ⟨nd, rfl⟩⟩; refine ⟨_, rfl, ?_⟩))
                    go_ret2
                    exact ⟨by first | rfl | (simp [errW_none, errW_some] <;> rfl) | (simp [*, errW_none, errW_some] <;> rfl), belS HB.out GE33001.out⟩
                · rw [if_neg c23] at H
                  exact absurd H (by simp)
              · rw [if_neg c22] at H
                exact absurd H (by simp)
            · rw [if_neg c21] at H
              have c21b0 : decide (x32_2 < (l0_0.length : Int)) = false := decide_eq_false c21
              clear c21
              simp only [Option.some.injEq, Prod.mk.injEq] at H
              obtain ⟨rfl, rfl⟩ := H
              go_wp2
              go_ret2
              exact ⟨by first | rfl | (simp [errW_none, errW_some] <;> rfl) | (simp [*, errW_none, errW_some] <;> rfl), belS HB.out GE33001.out⟩
      · rw [if_neg c19] at H
        have c19b0 : (x5_1 == 0) = false := beq_eq_false_iff_ne.mpr c19
        have c19b1 : (x5_1 != 0) = true := bne_iff_ne.mpr c19
        simp only [Option.some.injEq, Prod.mk.injEq] at H
        obtain ⟨rfl, rfl⟩ := H
        go_wp2
        go_ret2
        exact ⟨by first | rfl | (simp [errW_none, errW_some] <;> rfl) | (simp [*, errW_none, errW_some] <;> rfl), belS HB.out GE33001.out⟩
end Go.Proofs.Yteopooljohdoiaa.Px
namespace Go.Proofs.Yteopooljohdoiaa.Px
open Go.RowKit Go.Proofs.YteopooljohdoiaaW.PrintWords Go.Proofs.YteopooljohdoiaaW.PrintLast Go.Proofs.YteopooljohdoiaaW.PrintMore
attribute [local go_sem] max2_int min2_int max_two min_two max_three min_three max_four min_four
def dam_EmptyingOf.l0 : Nat → Int → List Int → Int → Int → List Int → List Int → Option (Int × Int)
  | 0, _, _, _, _, _, _ => none
  | k + 1, x8, x31, x32, x33, x39002000, x39002001 => if x33 < x32 then (if 0 ≤ x33 then (if x33 < (x31.length : Int) then (if x33 < (x39002001.length : Int) then (if (rd x39002001 x33) = 0 then (none) else (dam_EmptyingOf.l0 k (wrap64 (x8 + (wrap64 (Int.tdiv (wrap64 ((wrap64 ((rd x31 x33) + (rd x39002001 x33))) - 1)) (rd x39002001 x33))))) x31 x32 (wrap64 (x33 + 1)) x39002000 x39002001)) else (none)) else (none)) else (none)) else (some (x8, 0))
def dam_EmptyingOf.f (k : Nat) (l0_0 : List Int) (l0_1 : List Int) (a1 : Int) : Option (Int × Int) := (dam_CheckBasin.f k l0_0 l0_1).bind fun bt39002 => ((dam_within.f a1 0 (l0_0.length : Int)).bind fun t39004 => ((dam_unless.f t39004 2).bind fun t39005 => ((dam_first.f k (([bt39002.2, t39005] : List Int))).bind fun t39009 => (if t39009 = 0 then (if 0 ≤ a1 then (if a1 ≤ (l0_0.length : Int) then (dam_EmptyingOf.l0 k 0 (l0_0.take (a1 : Int).toNat) ((l0_0.take (a1 : Int).toNat).length : Int) 0 l0_0 l0_1) else (none)) else (none)) else (some (0, t39009))))))
set_option maxHeartbeats 8000000 in
set_option maxRecDepth 100000 in
theorem dam_EmptyingOf.calls (k : Nat) (A0_0 : Option Addr) (c0_0 : Nat) (l0_0 : List Int) (A0_1 : Option Addr) (c0_1 : Nat) (l0_1 : List Int) (a1 : Int) (r1 : Int) (r2 : Int) (w : World) (hr0_0 : Kd.C (Kd.int .i64) w A0_0 l0_0.length l0_0) (hc0_0 : l0_0.length ≤ c0_0) (hr0_1 : Kd.C (Kd.int .i64) w A0_1 l0_1.length l0_1) (hc0_1 : l0_1.length ≤ c0_1) (h : dam_EmptyingOf.f k l0_0 l0_1 a1 = some (r1, r2)) :
    Calls Try.prog 13 #[.agg #[.slice A0_0 l0_0.length c0_0, .slice A0_1 l0_1.length c0_1], .int .i64 a1] w fun e w' => e = .returned (.tuple #[.int .i64 r1, .int .i64 r2]) ∧ Below w.heap.size w w' := by
  have hu24 := Try.underlying24
  have HR0_0 := Aside0.mk hr0_0
  have HC0_0 := Aside0.mk hc0_0
  clear hr0_0 hc0_0
  have HR0_1 := Aside0.mk hr0_1
  have HC0_1 := Aside0.mk hc0_1
  clear hr0_1 hc0_1
  have HB := Aside0.mk (Below.refl w.heap.size w)
  have H : ((dam_CheckBasin.f k l0_0 l0_1).bind fun bt39002 => ((dam_within.f a1 0 (l0_0.length : Int)).bind fun t39004 => ((dam_unless.f t39004 2).bind fun t39005 => ((dam_first.f k (([bt39002.2, t39005] : List Int))).bind fun t39009 => (if t39009 = 0 then (if 0 ≤ a1 then (if a1 ≤ (l0_0.length : Int) then (dam_EmptyingOf.l0 k 0 (l0_0.take (a1 : Int).toNat) ((l0_0.take (a1 : Int).toNat).length : Int) 0 l0_0 l0_1) else (none)) else (none)) else (some (0, t39009))))))) = some (r1, r2) := h
  clear h
  replace H := Option.bind_eq_some_iff.mp H
  obtain ⟨⟨t39002, t39003⟩, A30, H⟩ := H
  replace H : ((dam_within.f a1 0 (l0_0.length : Int)).bind fun t39004 => ((dam_unless.f t39004 2).bind fun t39005 => ((dam_first.f k (([t39003, t39005] : List Int))).bind fun t39009 => (if t39009 = 0 then (if 0 ≤ a1 then (if a1 ≤ (l0_0.length : Int) then (dam_EmptyingOf.l0 k 0 (l0_0.take (a1 : Int).toNat) ((l0_0.take (a1 : Int).toNat).length : Int) 0 l0_0 l0_1) else (none)) else (none)) else (some (0, t39009)))))) = some (r1, r2) := H
  have A3 := Aside0.mk A30
  clear A30
  replace H := Option.bind_eq_some_iff.mp H
  obtain ⟨t39004, A40, H⟩ := H
  replace H : ((dam_unless.f t39004 2).bind fun t39005 => ((dam_first.f k (([t39003, t39005] : List Int))).bind fun t39009 => (if t39009 = 0 then (if 0 ≤ a1 then (if a1 ≤ (l0_0.length : Int) then (dam_EmptyingOf.l0 k 0 (l0_0.take (a1 : Int).toNat) ((l0_0.take (a1 : Int).toNat).length : Int) 0 l0_0 l0_1) else (none)) else (none)) else (some (0, t39009))))) = some (r1, r2) := H
  have A4 := Aside0.mk A40
  clear A40
  replace H := Option.bind_eq_some_iff.mp H
  obtain ⟨t39005, A50, H⟩ := H
  replace H : ((dam_first.f k (([t39003, t39005] : List Int))).bind fun t39009 => (if t39009 = 0 then (if 0 ≤ a1 then (if a1 ≤ (l0_0.length : Int) then (dam_EmptyingOf.l0 k 0 (l0_0.take (a1 : Int).toNat) ((l0_0.take (a1 : Int).toNat).length : Int) 0 l0_0 l0_1) else (none)) else (none)) else (some (0, t39009)))) = some (r1, r2) := H
  have A5 := Aside0.mk A50
  clear A50
  obtain ⟨y39006, hy39006⟩ : ∃ y_ : List Int, y_ = (([t39003, t39005] : List Int)) := ⟨_, rfl⟩
  replace H : ((dam_first.f k y39006).bind fun t39009 => (if t39009 = 0 then (if 0 ≤ a1 then (if a1 ≤ (l0_0.length : Int) then (dam_EmptyingOf.l0 k 0 (l0_0.take (a1 : Int).toNat) ((l0_0.take (a1 : Int).toNat).length : Int) 0 l0_0 l0_1) else (none)) else (none)) else (some (0, t39009)))) = some (r1, r2) := by first | (rw [hy39006]; with_reducible exact H) | (have H2_ := (Option.bind_some _ _).symm.trans H; rw [hy39006]; with_reducible exact H2_) | (have H2_ := (Option.bind_some _ _).symm.trans H; with_reducible exact H2_) | with_reducible exact H | (rw [hy39006]; exact H) | exact H
  have Ny39006 := Aside0.mk hy39006
  clear hy39006
  replace H := Option.bind_eq_some_iff.mp H
  obtain ⟨t39009, A60, H⟩ := H
  replace H : (if t39009 = 0 then (if 0 ≤ a1 then (if a1 ≤ (l0_0.length : Int) then (dam_EmptyingOf.l0 k 0 (l0_0.take (a1 : Int).toNat) ((l0_0.take (a1 : Int).toNat).length : Int) 0 l0_0 l0_1) else (none)) else (none)) else (some (0, t39009))) = some (r1, r2) := H
  have A6 := Aside0.mk A60
  clear A60
  by_cases c7 : t39009 = 0
  · rw [if_pos c7] at H
    have c7b0 : (t39009 == 0) = true := beq_iff_eq.mpr c7
    have c7b1 : (t39009 != 0) = false := bne_eq_false_iff_eq.mpr c7
    clear c7
    by_cases c8 : 0 ≤ a1
    · rw [if_pos c8] at H
      have c8b0 := eq_true c8
      have c8b1 : decide (0 ≤ a1) = true := decide_eq_true c8
      clear c8
      by_cases c9 : a1 ≤ (l0_0.length : Int)
      · rw [if_pos c9] at H
        have c9b0 := eq_true c9
        have c9b1 : decide (a1 ≤ (l0_0.length : Int)) = true := decide_eq_true c9
        clear c9
        have H' := Aside0.mk H
        clear H
        go_enter Try.func13, Try.ntmps13
        go_wp2_with (first | ((with_reducible refine gate_dst (N := 2) rfl ?_); refine box_event ?hg (N := 2) ?hd (cs := #[.slice A0_0 l0_0.length c0_0, .slice A0_1 l0_1.length c0_1]) (t := 24) ?hr ?_; (case hd => rfl); (case hg => rfl); (case hr => first | (go_simp; done) | (go_simp; rfl)); intro gb39001 hg w10 hbox hb; have n0_ := Aside0.mk (below_step (bel HB.out) hb); have n1_ := Aside0.mk (hbox); have n2_ := Aside0.mk ((by rw [hg]; exact (below_size (bel HB.out)) : w.heap.size ≤ gb39001)); have n3_ := Aside0.mk ((by rw [hg]; exact (below_size (bel HB.out)) : w.heap.size ≤ gb39001)); clear HB; have HB := n0_; have BK39001 := n1_; have GW39001 := n2_; have GE39001 := n3_; clear n0_ n1_ n2_ n3_; clear hb hbox hg; have hcz11_0 : w10.cell? ⟨gb39001, 0, none⟩ = some (.slice A0_0 l0_0.length c0_0) := (blk_cell BK39001.out 0).trans rfl; have hcz11_1 : w10.cell? ⟨gb39001, 1, none⟩ = some (.slice A0_1 l0_1.length c0_1) := (blk_cell BK39001.out 1).trans rfl; have hfz11_0 := blk_frozen BK39001.out 0; have hfz11_1 := blk_frozen BK39001.out 1) | (go_at_call 11; (with_reducible refine (dam_CheckBasin.calls k _ _ l0_0 _ _ l0_1 t39002 t39003 _ ?side1 ?side2 ?side3 ?side4 A3.out).mono ?_); (case side1 => repeat (first | exact (Kd.C_below HR0_0.out HB.out) | (with_reducible refine Kd.C_alloc ?_ _) | (with_reducible refine Kd.C_drewN ?_ _) | (with_reducible refine Kd.C_drew ?_))); (case side2 => exact HC0_0.out); (case side3 => repeat (first | exact (Kd.C_below HR0_1.out HB.out) | (with_reducible refine Kd.C_alloc ?_ _) | (with_reducible refine Kd.C_drewN ?_ _) | (with_reducible refine Kd.C_drew ?_))); (case side4 => exact HC0_1.out); rintro e w12 ⟨rfl, hb⟩; have n0_ := Aside0.mk (blk_below (g := gb39001) (o := .cells #[.slice A0_0 l0_0.length c0_0, .slice A0_1 l0_1.length c0_1] 24 (0, 0)) (bkl BK39001.out) hb); have n1_ := Aside0.mk (below_step (belS HB.out GE39001.out) hb); clear BK39001; clear HB; have BK39001 := n0_; have HB := n1_; clear n0_ n1_; (try clear hb); (try clear hb2); (try clear hk); (try clear hi); have hcz13_0 : w12.cell? ⟨gb39001, 0, none⟩ = some (.slice A0_0 l0_0.length c0_0) := (blk_cell BK39001.out 0).trans rfl; have hcz13_1 : w12.cell? ⟨gb39001, 1, none⟩ = some (.slice A0_1 l0_1.length c0_1) := (blk_cell BK39001.out 1).trans rfl; have hfz13_0 := blk_frozen BK39001.out 0; have hfz13_1 := blk_frozen BK39001.out 1) | (go_at_call 65; (with_reducible refine (dam_within.calls a1 0 (l0_0.length : Int) t39004 _ A4.out).mono ?_); rintro e w' ⟨rfl, ⟨nd, rfl⟩⟩; (try first | exact ⟨rfl, _, World.drewN_drewN _ _ _⟩ | exact ⟨rfl, _, Eq.trans (World.drewN_drewN _ _ _) (congrArg (World.drewN _) (Nat.add_assoc _ _ _))⟩)) | (go_at_call 64; (with_reducible refine (dam_unless.calls t39004 2 t39005 _ A5.out).mono ?_); rintro e w' ⟨rfl, ⟨nd, rfl⟩⟩; (try first | exact ⟨rfl, _, World.drewN_drewN _ _ _⟩ | exact ⟨rfl, _, Eq.trans (World.drewN_drewN _ _ _) (congrArg (World.drewN _) (Nat.add_assoc _ _ _))⟩)) | ((with_reducible refine gate_dst (N := 23) rfl ?_); refine Kd.R_lit (Kd.int .i64) _ 26 ?hg (N := 23) ?hd (xs := ([t39003, t39005] : List Int)) (inner := [.int .i64 t39003, .int .i64 t39005]) (ok := fun _ => True) (okp := fun _ => True) ?hr ?hp (fun _ hk => hk) trivial (Below.refl _ _) (Nat.le_refl _) (by simp) ?_; (case hd => rfl); (case hg => rfl); (case hr => first | (go_simp; done) | (go_simp; rfl)); (case hp => exact (Reps.one (show Kd.M (Kd.int .i64) _ _ _ t39003 [.int .i64 t39003] from rfl) (Reps.one (show Kd.M (Kd.int .i64) _ _ _ t39005 [.int .i64 t39005] from rfl) (Reps.none _ _)))); intro v39007 w14 ho15 hb hg_ hnew_; clear hg_ hnew_; (first | rw [← Ny39006.out] at ho15 | (simp only [Int.reduceToNat] at ho15; rw [← Ny39006.out] at ho15)); have n0_ := Aside0.mk (Kd.R_lower ho15 (below_size (belS HB.out GE39001.out))); have n1_ := Aside0.mk (blk_below (g := gb39001) (o := .cells #[.slice A0_0 l0_0.length c0_0, .slice A0_1 l0_1.length c0_1] 24 (0, 0)) (bkl BK39001.out) hb); have n2_ := Aside0.mk (below_step (belS HB.out GE39001.out) hb); clear BK39001; clear HB; have HO39008 := n0_; have BK39001 := n1_; have HB := n2_; clear n0_ n1_ n2_; clear hb ho15; obtain ⟨Ao16, co16, eo16⟩ := Kd.R_slice HO39008.out; subst eo16) | (go_at_call 63; (with_reducible refine (dam_first.calls k _ _ y39006 t39009 _ ?side1 ?side2 A6.out).mono ?_); (case side1 => repeat (first | exact (Kd.R_reads' HO39008.out).2.2 | (with_reducible refine Kd.C_alloc ?_ _) | (with_reducible refine Kd.C_drewN ?_ _) | (with_reducible refine Kd.C_drew ?_))); (case side2 => exact (Kd.R_reads' HO39008.out).2.1); rintro e w' ⟨rfl, ⟨nd, rfl⟩⟩; (try first | exact ⟨rfl, _, World.drewN_drewN _ _ _⟩ | exact ⟨rfl, _, Eq.trans (World.drewN_drewN _ _ _) (congrArg (World.drewN _) (Nat.add_assoc _ _ _))⟩); have hcz17_0 : w14.cell? ⟨gb39001, 0, none⟩ = some (.slice A0_0 l0_0.length c0_0) := (blk_cell BK39001.out 0).trans rfl; have hcz17_1 : w14.cell? ⟨gb39001, 1, none⟩ = some (.slice A0_1 l0_1.length c0_1) := (blk_cell BK39001.out 1).trans rfl; have hfz17_0 := blk_frozen BK39001.out 0; have hfz17_1 := blk_frozen BK39001.out 1; obtain ⟨i018, hi018, _, hsz18, _⟩ := info_parts info3; obtain ⟨hcut18, hA18, hC18⟩ := print_take_of (P := Try.prog) (Value.int .i64) 0 22 3 .i64 Try.underlying22 hi018 hsz18 A0_0 c0_0 l0_0 a1 (of_decide_eq_true asm_) (of_decide_eq_true asm_) HC0_0.out; have HR39010 := Aside0.mk (Kd.C_of_reads (h1 := fun _ => rfl) (hA18 _ (Kd.reads_of_C HR0_0.out))); have HC39010 := Aside0.mk hC18; clear hA18 hC18 hi018 hsz18))
        repeat (go_quiet (first | ((with_reducible refine gate_dst (N := 2) rfl ?_); refine box_event ?hg (N := 2) ?hd (cs := #[.slice A0_0 l0_0.length c0_0, .slice A0_1 l0_1.length c0_1]) (t := 24) ?hr ?_; (case hd => rfl); (case hg => rfl); (case hr => first | (go_simp; done) | (go_simp; rfl)); intro gb39001 hg w10 hbox hb; have n0_ := Aside0.mk (below_step (bel HB.out) hb); have n1_ := Aside0.mk (hbox); have n2_ := Aside0.mk ((by rw [hg]; exact (below_size (bel HB.out)) : w.heap.size ≤ gb39001)); have n3_ := Aside0.mk ((by rw [hg]; exact (below_size (bel HB.out)) : w.heap.size ≤ gb39001)); clear HB; have HB := n0_; have BK39001 := n1_; have GW39001 := n2_; have GE39001 := n3_; clear n0_ n1_ n2_ n3_; clear hb hbox hg; have hcz11_0 : w10.cell? ⟨gb39001, 0, none⟩ = some (.slice A0_0 l0_0.length c0_0) := (blk_cell BK39001.out 0).trans rfl; have hcz11_1 : w10.cell? ⟨gb39001, 1, none⟩ = some (.slice A0_1 l0_1.length c0_1) := (blk_cell BK39001.out 1).trans rfl; have hfz11_0 := blk_frozen BK39001.out 0; have hfz11_1 := blk_frozen BK39001.out 1) | (go_at_call 11; (with_reducible refine (dam_CheckBasin.calls k _ _ l0_0 _ _ l0_1 t39002 t39003 _ ?side1 ?side2 ?side3 ?side4 A3.out).mono ?_); (case side1 => repeat (first | exact (Kd.C_below HR0_0.out HB.out) | (with_reducible refine Kd.C_alloc ?_ _) | (with_reducible refine Kd.C_drewN ?_ _) | (with_reducible refine Kd.C_drew ?_))); (case side2 => exact HC0_0.out); (case side3 => repeat (first | exact (Kd.C_below HR0_1.out HB.out) | (with_reducible refine Kd.C_alloc ?_ _) | (with_reducible refine Kd.C_drewN ?_ _) | (with_reducible refine Kd.C_drew ?_))); (case side4 => exact HC0_1.out); rintro e w12 ⟨rfl, hb⟩; have n0_ := Aside0.mk (blk_below (g := gb39001) (o := .cells #[.slice A0_0 l0_0.length c0_0, .slice A0_1 l0_1.length c0_1] 24 (0, 0)) (bkl BK39001.out) hb); have n1_ := Aside0.mk (below_step (belS HB.out GE39001.out) hb); clear BK39001; clear HB; have BK39001 := n0_; have HB := n1_; clear n0_ n1_; (try clear hb); (try clear hb2); (try clear hk); (try clear hi); have hcz13_0 : w12.cell? ⟨gb39001, 0, none⟩ = some (.slice A0_0 l0_0.length c0_0) := (blk_cell BK39001.out 0).trans rfl; have hcz13_1 : w12.cell? ⟨gb39001, 1, none⟩ = some (.slice A0_1 l0_1.length c0_1) := (blk_cell BK39001.out 1).trans rfl; have hfz13_0 := blk_frozen BK39001.out 0; have hfz13_1 := blk_frozen BK39001.out 1) | (go_at_call 65; (with_reducible refine (dam_within.calls a1 0 (l0_0.length : Int) t39004 _ A4.out).mono ?_); rintro e w' ⟨rfl, ⟨nd, rfl⟩⟩; (try first | exact ⟨rfl, _, World.drewN_drewN _ _ _⟩ | exact ⟨rfl, _, Eq.trans (World.drewN_drewN _ _ _) (congrArg (World.drewN _) (Nat.add_assoc _ _ _))⟩)) | (go_at_call 64; (with_reducible refine (dam_unless.calls t39004 2 t39005 _ A5.out).mono ?_); rintro e w' ⟨rfl, ⟨nd, rfl⟩⟩; (try first | exact ⟨rfl, _, World.drewN_drewN _ _ _⟩ | exact ⟨rfl, _, Eq.trans (World.drewN_drewN _ _ _) (congrArg (World.drewN _) (Nat.add_assoc _ _ _))⟩)) | ((with_reducible refine gate_dst (N := 23) rfl ?_); refine Kd.R_lit (Kd.int .i64) _ 26 ?hg (N := 23) ?hd (xs := ([t39003, t39005] : List Int)) (inner := [.int .i64 t39003, .int .i64 t39005]) (ok := fun _ => True) (okp := fun _ => True) ?hr ?hp (fun _ hk => hk) trivial (Below.refl _ _) (Nat.le_refl _) (by simp) ?_; (case hd => rfl); (case hg => rfl); (case hr => first | (go_simp; done) | (go_simp; rfl)); (case hp => exact (Reps.one (show Kd.M (Kd.int .i64) _ _ _ t39003 [.int .i64 t39003] from rfl) (Reps.one (show Kd.M (Kd.int .i64) _ _ _ t39005 [.int .i64 t39005] from rfl) (Reps.none _ _)))); intro v39007 w14 ho15 hb hg_ hnew_; clear hg_ hnew_; (first | rw [← Ny39006.out] at ho15 | (simp only [Int.reduceToNat] at ho15; rw [← Ny39006.out] at ho15)); have n0_ := Aside0.mk (Kd.R_lower ho15 (below_size (belS HB.out GE39001.out))); have n1_ := Aside0.mk (blk_below (g := gb39001) (o := .cells #[.slice A0_0 l0_0.length c0_0, .slice A0_1 l0_1.length c0_1] 24 (0, 0)) (bkl BK39001.out) hb); have n2_ := Aside0.mk (below_step (belS HB.out GE39001.out) hb); clear BK39001; clear HB; have HO39008 := n0_; have BK39001 := n1_; have HB := n2_; clear n0_ n1_ n2_; clear hb ho15; obtain ⟨Ao16, co16, eo16⟩ := Kd.R_slice HO39008.out; subst eo16) | (go_at_call 63; (with_reducible refine (dam_first.calls k _ _ y39006 t39009 _ ?side1 ?side2 A6.out).mono ?_); (case side1 => repeat (first | exact (Kd.R_reads' HO39008.out).2.2 | (with_reducible refine Kd.C_alloc ?_ _) | (with_reducible refine Kd.C_drewN ?_ _) | (with_reducible refine Kd.C_drew ?_))); (case side2 => exact (Kd.R_reads' HO39008.out).2.1); rintro e w' ⟨rfl, ⟨nd, rfl⟩⟩; (try first | exact ⟨rfl, _, World.drewN_drewN _ _ _⟩ | exact ⟨rfl, _, Eq.trans (World.drewN_drewN _ _ _) (congrArg (World.drewN _) (Nat.add_assoc _ _ _))⟩); have hcz17_0 : w14.cell? ⟨gb39001, 0, none⟩ = some (.slice A0_0 l0_0.length c0_0) := (blk_cell BK39001.out 0).trans rfl; have hcz17_1 : w14.cell? ⟨gb39001, 1, none⟩ = some (.slice A0_1 l0_1.length c0_1) := (blk_cell BK39001.out 1).trans rfl; have hfz17_0 := blk_frozen BK39001.out 0; have hfz17_1 := blk_frozen BK39001.out 1; obtain ⟨i018, hi018, _, hsz18, _⟩ := info_parts info3; obtain ⟨hcut18, hA18, hC18⟩ := print_take_of (P := Try.prog) (Value.int .i64) 0 22 3 .i64 Try.underlying22 hi018 hsz18 A0_0 c0_0 l0_0 a1 (of_decide_eq_true asm_) (of_decide_eq_true asm_) HC0_0.out; have HR39010 := Aside0.mk (Kd.C_of_reads (h1 := fun _ => rfl) (hA18 _ (Kd.reads_of_C HR0_0.out))); have HC39010 := Aside0.mk hC18; clear hA18 hC18 hi018 hsz18)); try go_wp2_with (first | ((with_reducible refine gate_dst (N := 2) rfl ?_); refine box_event ?hg (N := 2) ?hd (cs := #[.slice A0_0 l0_0.length c0_0, .slice A0_1 l0_1.length c0_1]) (t := 24) ?hr ?_; (case hd => rfl); (case hg => rfl); (case hr => first | (go_simp; done) | (go_simp; rfl)); intro gb39001 hg w10 hbox hb; have n0_ := Aside0.mk (below_step (bel HB.out) hb); have n1_ := Aside0.mk (hbox); have n2_ := Aside0.mk ((by rw [hg]; exact (below_size (bel HB.out)) : w.heap.size ≤ gb39001)); have n3_ := Aside0.mk ((by rw [hg]; exact (below_size (bel HB.out)) : w.heap.size ≤ gb39001)); clear HB; have HB := n0_; have BK39001 := n1_; have GW39001 := n2_; have GE39001 := n3_; clear n0_ n1_ n2_ n3_; clear hb hbox hg; have hcz11_0 : w10.cell? ⟨gb39001, 0, none⟩ = some (.slice A0_0 l0_0.length c0_0) := (blk_cell BK39001.out 0).trans rfl; have hcz11_1 : w10.cell? ⟨gb39001, 1, none⟩ = some (.slice A0_1 l0_1.length c0_1) := (blk_cell BK39001.out 1).trans rfl; have hfz11_0 := blk_frozen BK39001.out 0; have hfz11_1 := blk_frozen BK39001.out 1) | (go_at_call 11; (with_reducible refine (dam_CheckBasin.calls k _ _ l0_0 _ _ l0_1 t39002 t39003 _ ?side1 ?side2 ?side3 ?side4 A3.out).mono ?_); (case side1 => repeat (first | exact (Kd.C_below HR0_0.out HB.out) | (with_reducible refine Kd.C_alloc ?_ _) | (with_reducible refine Kd.C_drewN ?_ _) | (with_reducible refine Kd.C_drew ?_))); (case side2 => exact HC0_0.out); (case side3 => repeat (first | exact (Kd.C_below HR0_1.out HB.out) | (with_reducible refine Kd.C_alloc ?_ _) | (with_reducible refine Kd.C_drewN ?_ _) | (with_reducible refine Kd.C_drew ?_))); (case side4 => exact HC0_1.out); rintro e w12 ⟨rfl, hb⟩; have n0_ := Aside0.mk (blk_below (g := gb39001) (o := .cells #[.slice A0_0 l0_0.length c0_0, .slice A0_1 l0_1.length c0_1] 24 (0, 0)) (bkl BK39001.out) hb); have n1_ := Aside0.mk (below_step (belS HB.out GE39001.out) hb); clear BK39001; clear HB; have BK39001 := n0_; have HB := n1_; clear n0_ n1_; (try clear hb); (try clear hb2); (try clear hk); (try clear hi); have hcz13_0 : w12.cell? ⟨gb39001, 0, none⟩ = some (.slice A0_0 l0_0.length c0_0) := (blk_cell BK39001.out 0).trans rfl; have hcz13_1 : w12.cell? ⟨gb39001, 1, none⟩ = some (.slice A0_1 l0_1.length c0_1) := (blk_cell BK39001.out 1).trans rfl; have hfz13_0 := blk_frozen BK39001.out 0; have hfz13_1 := blk_frozen BK39001.out 1) | (go_at_call 65; (with_reducible refine (dam_within.calls a1 0 (l0_0.length : Int) t39004 _ A4.out).mono ?_); rintro e w' ⟨rfl, ⟨nd, rfl⟩⟩; (try first | exact ⟨rfl, _, World.drewN_drewN _ _ _⟩ | exact ⟨rfl, _, Eq.trans (World.drewN_drewN _ _ _) (congrArg (World.drewN _) (Nat.add_assoc _ _ _))⟩)) | (go_at_call 64; (with_reducible refine (dam_unless.calls t39004 2 t39005 _ A5.out).mono ?_); rintro e w' ⟨rfl, ⟨nd, rfl⟩⟩; (try first | exact ⟨rfl, _, World.drewN_drewN _ _ _⟩ | exact ⟨rfl, _, Eq.trans (World.drewN_drewN _ _ _) (congrArg (World.drewN _) (Nat.add_assoc _ _ _))⟩)) | ((with_reducible refine gate_dst (N := 23) rfl ?_); refine Kd.R_lit (Kd.int .i64) _ 26 ?hg (N := 23) ?hd (xs := ([t39003, t39005] : List Int)) (inner := [.int .i64 t39003, .int .i64 t39005]) (ok := fun _ => True) (okp := fun _ => True) ?hr ?hp (fun _ hk => hk) trivial (Below.refl _ _) (Nat.le_refl _) (by simp) ?_; (case hd => rfl); (case hg => rfl); (case hr => first | (go_simp; done) | (go_simp; rfl)); (case hp => exact (Reps.one (show Kd.M (Kd.int .i64) _ _ _ t39003 [.int .i64 t39003] from rfl) (Reps.one (show Kd.M (Kd.int .i64) _ _ _ t39005 [.int .i64 t39005] from rfl) (Reps.none _ _)))); intro v39007 w14 ho15 hb hg_ hnew_; clear hg_ hnew_; (first | rw [← Ny39006.out] at ho15 | (simp only [Int.reduceToNat] at ho15; rw [← Ny39006.out] at ho15)); have n0_ := Aside0.mk (Kd.R_lower ho15 (below_size (belS HB.out GE39001.out))); have n1_ := Aside0.mk (blk_below (g := gb39001) (o := .cells #[.slice A0_0 l0_0.length c0_0, .slice A0_1 l0_1.length c0_1] 24 (0, 0)) (bkl BK39001.out) hb); have n2_ := Aside0.mk (below_step (belS HB.out GE39001.out) hb); clear BK39001; clear HB; have HO39008 := n0_; have BK39001 := n1_; have HB := n2_; clear n0_ n1_ n2_; clear hb ho15; obtain ⟨Ao16, co16, eo16⟩ := Kd.R_slice HO39008.out; subst eo16) | (go_at_call 63; (with_reducible refine (dam_first.calls k _ _ y39006 t39009 _ ?side1 ?side2 A6.out).mono ?_); (case side1 => repeat (first | exact (Kd.R_reads' HO39008.out).2.2 | (with_reducible refine Kd.C_alloc ?_ _) | (with_reducible refine Kd.C_drewN ?_ _) | (with_reducible refine Kd.C_drew ?_))); (case side2 => exact (Kd.R_reads' HO39008.out).2.1); rintro e w' ⟨rfl, ⟨nd, rfl⟩⟩; (try first | exact ⟨rfl, _, World.drewN_drewN _ _ _⟩ | exact ⟨rfl, _, Eq.trans (World.drewN_drewN _ _ _) (congrArg (World.drewN _) (Nat.add_assoc _ _ _))⟩); have hcz17_0 : w14.cell? ⟨gb39001, 0, none⟩ = some (.slice A0_0 l0_0.length c0_0) := (blk_cell BK39001.out 0).trans rfl; have hcz17_1 : w14.cell? ⟨gb39001, 1, none⟩ = some (.slice A0_1 l0_1.length c0_1) := (blk_cell BK39001.out 1).trans rfl; have hfz17_0 := blk_frozen BK39001.out 0; have hfz17_1 := blk_frozen BK39001.out 1; obtain ⟨i018, hi018, _, hsz18, _⟩ := info_parts info3; obtain ⟨hcut18, hA18, hC18⟩ := print_take_of (P := Try.prog) (Value.int .i64) 0 22 3 .i64 Try.underlying22 hi018 hsz18 A0_0 c0_0 l0_0 a1 (of_decide_eq_true asm_) (of_decide_eq_true asm_) HC0_0.out; have HR39010 := Aside0.mk (Kd.C_of_reads (h1 := fun _ => rfl) (hA18 _ (Kd.reads_of_C HR0_0.out))); have HC39010 := Aside0.mk hC18; clear hA18 hC18 hi018 hsz18)))
        go_loopg [8, 33] k (fun kq v8 v33 w' => ∃ (x8_1 : Int) (x33_1 : Int), v8 = .int .i64 x8_1 ∧ v33 = .int .i64 x33_1 ∧ Aside0 (dam_EmptyingOf.l0 kq x8_1 (l0_0.take (a1 : Int).toNat) ((l0_0.take (a1 : Int).toNat).length : Int) x33_1 l0_0 l0_1 = some (r1, r2)) ∧ Aside0 (kq ≤ k) ∧ Aside0 (w'.heap[gb39001]? = some (.cells #[(.slice A0_0 l0_0.length c0_0), (.slice A0_1 l0_1.length c0_1)] 24 (0, 0))) ∧ Aside0 (Below w.heap.size w w'))
        case atStart => exact ⟨(0), (0), (by first | rfl | (simp; done) | (simp [*]; done)), (by first | rfl | (simp; done) | (simp [*]; done)), H', ⟨Nat.le_refl _⟩, ⟨bkl BK39001.out⟩, ⟨belS HB.out GE39001.out⟩⟩
        case round =>
          clear H'
          try clear c1
          try clear p2
          try clear c7
          try clear c7b0
          try clear c7b1
          try clear c13
          try clear hcz11_0
          try clear hcz11_1
          try clear hcz13_0
          try clear hcz13_1
          try clear hcz17_0
          try clear hcz17_1
          try clear hfz11_0
          try clear hfz11_1
          try clear hfz13_0
          try clear hfz13_1
          try clear hfz17_0
          try clear hfz17_1
          obtain ⟨x8_1, x33_1, rfl, rfl, HA, HK1, BK39001, HB⟩ := hrel
          cases gk with
          | zero => exact absurd HA.out (by simp [dam_EmptyingOf.l0])
          | succ k1 =>
            have H := HA.out
            clear HA
            simp only [dam_EmptyingOf.l0] at H
            by_cases c19 : x33_1 < ((l0_0.take (a1 : Int).toNat).length : Int)
            · rw [if_pos c19] at H
              have c19b0 : decide (x33_1 < ((l0_0.take (a1 : Int).toNat).length : Int)) = true := decide_eq_true c19
              have c19b9 : decide (x33_1 < max a1 0) = true := by (have h8_ := of_eq_true c8b0; have h9_ := of_eq_true c9b0; have hl_ := c19; simp only [List.length_take] at hl_; exact decide_eq_true (by omega))
              have c19b8 : (x33_1 < max a1 0) = True := eq_true (of_decide_eq_true c19b9)
              clear c19
              by_cases c20 : 0 ≤ x33_1
              · rw [if_pos c20] at H
                have c20b0 : decide (0 ≤ x33_1) = true := decide_eq_true c20
                clear c20
                by_cases c21 : x33_1 < ((l0_0.take (a1 : Int).toNat).length : Int)
                · rw [if_pos c21] at H
                  have c21b0 : decide (x33_1 < ((l0_0.take (a1 : Int).toNat).length : Int)) = true := decide_eq_true c21
                  have c21b9 : decide (x33_1 < max a1 0) = true := by (have h8_ := of_eq_true c8b0; have h9_ := of_eq_true c9b0; have hl_ := c21; simp only [List.length_take] at hl_; exact decide_eq_true (by omega))
                  have c21b8 : (x33_1 < max a1 0) = True := eq_true (of_decide_eq_true c21b9)
                  clear c21
                  by_cases c22 : x33_1 < (l0_1.length : Int)
                  · rw [if_pos c22] at H
                    have c22b0 : decide (x33_1 < (l0_1.length : Int)) = true := decide_eq_true c22
                    clear c22
                    by_cases c23 : (rd l0_1 x33_1) = 0
                    · rw [if_pos c23] at H
                      exact absurd H (by simp)
                    · rw [if_neg c23] at H
                      have c23b0 : ((rd l0_1 x33_1) == 0) = false := beq_eq_false_iff_ne.mpr c23
                      have c23b1 : ((rd l0_1 x33_1) != 0) = true := bne_iff_ne.mpr c23
                      have H' := Aside0.mk H
                      clear H
                      have p39011 : 0 ≤ (x33_1 : Int) := of_decide_eq_true asm_
                      have q39011 : x33_1 < ((l0_0.take (a1 : Int).toNat).length : Int) := of_decide_eq_true asm_
                      obtain ⟨ad39011, e39011, hx39011_0⟩ := Kd.at_int HR39010.out x33_1 p39011 q39011
                      cases e39011
                      replace hx39011_0 := (HB.out.cell (World.block_lt_of_cell? w _ hx39011_0)).trans hx39011_0
                      replace p39011 := eq_true p39011
                      replace q39011 := eq_true q39011
                      have hcz24_0 : wr.cell? ⟨gb39001, 0, none⟩ = some (.slice (some ad39011) l0_0.length c0_0) := (blk_cell BK39001.out 0).trans rfl
                      have hcz24_1 : wr.cell? ⟨gb39001, 1, none⟩ = some (.slice A0_1 l0_1.length c0_1) := (blk_cell BK39001.out 1).trans rfl
                      have hfz24_0 := blk_frozen BK39001.out 0
                      have hfz24_1 := blk_frozen BK39001.out 1
                      have p39012 : 0 ≤ (x33_1 : Int) := of_decide_eq_true asm_
                      have q39012 : x33_1 < (l0_1.length : Int) := of_decide_eq_true asm_
                      obtain ⟨ad39012, e39012, hx39012_0⟩ := Kd.at_int HR0_1.out x33_1 p39012 q39012
                      cases e39012
                      replace hx39012_0 := (HB.out.cell (World.block_lt_of_cell? w _ hx39012_0)).trans hx39012_0
                      replace p39012 := eq_true p39012
                      replace q39012 := eq_true q39012
                      have p39013 : 0 ≤ (x33_1 : Int) := of_decide_eq_true asm_
                      have q39013 : x33_1 < (l0_1.length : Int) := of_decide_eq_true asm_
                      obtain ⟨ad39013, e39013, hx39013_0⟩ := Kd.at_int HR0_1.out x33_1 p39013 q39013
                      obtain rfl : ad39012 = ad39013 := (by injection e39013)
                      replace hx39013_0 := (HB.out.cell (World.block_lt_of_cell? w _ hx39013_0)).trans hx39013_0
                      replace p39013 := eq_true p39013
                      replace q39013 := eq_true q39013
                      go_wp2
                      repeat (go_quiet (fail); try go_wp2)
                      go_roundg k1
                      case measure => have := HK1.out; omega
                      case rel => exact ⟨(wrap64 (x8_1 + (wrap64 (Int.tdiv (wrap64 ((wrap64 ((rd (l0_0.take (a1 : Int).toNat) x33_1) + (rd l0_1 x33_1))) - 1)) (rd l0_1 x33_1))))), (wrap64 (x33_1 + 1)), (by first | rfl | (simp; done) | (simp [*]; done)), (by first | rfl | (simp; done) | (simp [*]; done)), H', ⟨by have := HK1.out; omega⟩, ⟨bkl BK39001.out⟩, ⟨belS HB.out GE39001.out⟩⟩
                  · rw [if_neg c22] at H
                    exact absurd H (by simp)
                · rw [if_neg c21] at H
                  exact absurd H (by simp)
              · rw [if_neg c20] at H
                exact absurd H (by simp)
            · rw [if_neg c19] at H
              have c19b0 : decide (x33_1 < ((l0_0.take (a1 : Int).toNat).length : Int)) = false := decide_eq_false c19
              have c19b9 : decide (x33_1 < max a1 0) = false := by (have h8_ := of_eq_true c8b0; have h9_ := of_eq_true c9b0; have hl_ := c19; simp only [List.length_take] at hl_; exact decide_eq_false (by omega))
              clear c19
              simp only [Option.some.injEq, Prod.mk.injEq] at H
              obtain ⟨rfl, rfl⟩ := H
              go_wp2
              repeat (go_quiet (fail); try go_wp2)
              go_ret2
              exact ⟨by first | rfl | (simp [errW_none, errW_some] <;> rfl) | (simp [*, errW_none, errW_some] <;> rfl), belS HB.out GE39001.out⟩
      · rw [if_neg c9] at H
        exact absurd H (by simp)
    · rw [if_neg c8] at H
      exact absurd H (by simp)
  · rw [if_neg c7] at H
    have c7b0 : (t39009 == 0) = false := beq_eq_false_iff_ne.mpr c7
    have c7b1 : (t39009 != 0) = true := bne_iff_ne.mpr c7
    simp only [Option.some.injEq, Prod.mk.injEq] at H
    obtain ⟨rfl, rfl⟩ := H
    go_enter Try.func13, Try.ntmps13
    go_wp2_with (first | ((with_reducible refine gate_dst (N := 2) rfl ?_); refine box_event ?hg (N := 2) ?hd (cs := #[.slice A0_0 l0_0.length c0_0, .slice A0_1 l0_1.length c0_1]) (t := 24) ?hr ?_; (case hd => rfl); (case hg => rfl); (case hr => first | (go_simp; done) | (go_simp; rfl)); intro gb39001 hg w25 hbox hb; have n0_ := Aside0.mk (below_step (bel HB.out) hb); have n1_ := Aside0.mk (hbox); have n2_ := Aside0.mk ((by rw [hg]; exact (below_size (bel HB.out)) : w.heap.size ≤ gb39001)); have n3_ := Aside0.mk ((by rw [hg]; exact (below_size (bel HB.out)) : w.heap.size ≤ gb39001)); clear HB; have HB := n0_; have BK39001 := n1_; have GW39001 := n2_; have GE39001 := n3_; clear n0_ n1_ n2_ n3_; clear hb hbox hg; have hcz26_0 : w25.cell? ⟨gb39001, 0, none⟩ = some (.slice A0_0 l0_0.length c0_0) := (blk_cell BK39001.out 0).trans rfl; have hcz26_1 : w25.cell? ⟨gb39001, 1, none⟩ = some (.slice A0_1 l0_1.length c0_1) := (blk_cell BK39001.out 1).trans rfl; have hfz26_0 := blk_frozen BK39001.out 0; have hfz26_1 := blk_frozen BK39001.out 1) | (go_at_call 11; (with_reducible refine (dam_CheckBasin.calls k _ _ l0_0 _ _ l0_1 t39002 t39003 _ ?side1 ?side2 ?side3 ?side4 A3.out).mono ?_); (case side1 => repeat (first | exact (Kd.C_below HR0_0.out HB.out) | (with_reducible refine Kd.C_alloc ?_ _) | (with_reducible refine Kd.C_drewN ?_ _) | (with_reducible refine Kd.C_drew ?_))); (case side2 => exact HC0_0.out); (case side3 => repeat (first | exact (Kd.C_below HR0_1.out HB.out) | (with_reducible refine Kd.C_alloc ?_ _) | (with_reducible refine Kd.C_drewN ?_ _) | (with_reducible refine Kd.C_drew ?_))); (case side4 => exact HC0_1.out); rintro e w27 ⟨rfl, hb⟩; have n0_ := Aside0.mk (blk_below (g := gb39001) (o := .cells #[.slice A0_0 l0_0.length c0_0, .slice A0_1 l0_1.length c0_1] 24 (0, 0)) (bkl BK39001.out) hb); have n1_ := Aside0.mk (below_step (belS HB.out GE39001.out) hb); clear BK39001; clear HB; have BK39001 := n0_; have HB := n1_; clear n0_ n1_; (try clear hb); (try clear hb2); (try clear hk); (try clear hi); have hcz28_0 : w27.cell? ⟨gb39001, 0, none⟩ = some (.slice A0_0 l0_0.length c0_0) := (blk_cell BK39001.out 0).trans rfl; have hcz28_1 : w27.cell? ⟨gb39001, 1, none⟩ = some (.slice A0_1 l0_1.length c0_1) := (blk_cell BK39001.out 1).trans rfl; have hfz28_0 := blk_frozen BK39001.out 0; have hfz28_1 := blk_frozen BK39001.out 1) | (go_at_call 65; (with_reducible refine (dam_within.calls a1 0 (l0_0.length : Int) t39004 _ A4.out).mono ?_); rintro e w' ⟨rfl, ⟨nd, rfl⟩⟩; (try first | exact ⟨rfl, _, World.drewN_drewN _ _ _⟩ | exact ⟨rfl, _, Eq.trans (World.drewN_drewN _ _ _) (congrArg (World.drewN _) (Nat.add_assoc _ _ _))⟩)) | (go_at_call 64; (with_reducible refine (dam_unless.calls t39004 2 t39005 _ A5.out).mono ?_); rintro e w' ⟨rfl, ⟨nd, rfl⟩⟩; (try first | exact ⟨rfl, _, World.drewN_drewN _ _ _⟩ | exact ⟨rfl, _, Eq.trans (World.drewN_drewN _ _ _) (congrArg (World.drewN _) (Nat.add_assoc _ _ _))⟩)) | ((with_reducible refine gate_dst (N := 23) rfl ?_); refine Kd.R_lit (Kd.int .i64) _ 26 ?hg (N := 23) ?hd (xs := ([t39003, t39005] : List Int)) (inner := [.int .i64 t39003, .int .i64 t39005]) (ok := fun _ => True) (okp := fun _ => True) ?hr ?hp (fun _ hk => hk) trivial (Below.refl _ _) (Nat.le_refl _) (by simp) ?_; (case hd => rfl); (case hg => rfl); (case hr => first | (go_simp; done) | (go_simp; rfl)); (case hp => exact (Reps.one (show Kd.M (Kd.int .i64) _ _ _ t39003 [.int .i64 t39003] from rfl) (Reps.one (show Kd.M (Kd.int .i64) _ _ _ t39005 [.int .i64 t39005] from rfl) (Reps.none _ _)))); intro v39007 w29 ho30 hb hg_ hnew_; clear hg_ hnew_; (first | rw [← Ny39006.out] at ho30 | (simp only [Int.reduceToNat] at ho30; rw [← Ny39006.out] at ho30)); have n0_ := Aside0.mk (Kd.R_lower ho30 (below_size (belS HB.out GE39001.out))); have n1_ := Aside0.mk (blk_below (g := gb39001) (o := .cells #[.slice A0_0 l0_0.length c0_0, .slice A0_1 l0_1.length c0_1] 24 (0, 0)) (bkl BK39001.out) hb); have n2_ := Aside0.mk (below_step (belS HB.out GE39001.out) hb); clear BK39001; clear HB; have HO39008 := n0_; have BK39001 := n1_; have HB := n2_; clear n0_ n1_ n2_; clear hb ho30; obtain ⟨Ao31, co31, eo31⟩ := Kd.R_slice HO39008.out; subst eo31) | (go_at_call 63; (with_reducible refine (dam_first.calls k _ _ y39006 t39009 _ ?side1 ?side2 A6.out).mono ?_); (case side1 => repeat (first | exact (Kd.R_reads' HO39008.out).2.2 | (with_reducible refine Kd.C_alloc ?_ _) | (with_reducible refine Kd.C_drewN ?_ _) | (with_reducible refine Kd.C_drew ?_))); (case side2 => exact (Kd.R_reads' HO39008.out).2.1); rintro e w' ⟨rfl, ⟨nd, rfl⟩⟩; (try first | exact ⟨rfl, _, World.drewN_drewN _ _ _⟩ | exact ⟨rfl, _, Eq.trans (World.drewN_drewN _ _ _) (congrArg (World.drewN _) (Nat.add_assoc _ _ _))⟩)))
    repeat (go_quiet (first | ((with_reducible refine gate_dst (N := 2) rfl ?_); refine box_event ?hg (N := 2) ?hd (cs := #[.slice A0_0 l0_0.length c0_0, .slice A0_1 l0_1.length c0_1]) (t := 24) ?hr ?_; (case hd => rfl); (case hg => rfl); (case hr => first | (go_simp; done) | (go_simp; rfl)); intro gb39001 hg w25 hbox hb; have n0_ := Aside0.mk (below_step (bel HB.out) hb); have n1_ := Aside0.mk (hbox); have n2_ := Aside0.mk ((by rw [hg]; exact (below_size (bel HB.out)) : w.heap.size ≤ gb39001)); have n3_ := Aside0.mk ((by rw [hg]; exact (below_size (bel HB.out)) : w.heap.size ≤ gb39001)); clear HB; have HB := n0_; have BK39001 := n1_; have GW39001 := n2_; have GE39001 := n3_; clear n0_ n1_ n2_ n3_; clear hb hbox hg; have hcz26_0 : w25.cell? ⟨gb39001, 0, none⟩ = some (.slice A0_0 l0_0.length c0_0) := (blk_cell BK39001.out 0).trans rfl; have hcz26_1 : w25.cell? ⟨gb39001, 1, none⟩ = some (.slice A0_1 l0_1.length c0_1) := (blk_cell BK39001.out 1).trans rfl; have hfz26_0 := blk_frozen BK39001.out 0; have hfz26_1 := blk_frozen BK39001.out 1) | (go_at_call 11; (with_reducible refine (dam_CheckBasin.calls k _ _ l0_0 _ _ l0_1 t39002 t39003 _ ?side1 ?side2 ?side3 ?side4 A3.out).mono ?_); (case side1 => repeat (first | exact (Kd.C_below HR0_0.out HB.out) | (with_reducible refine Kd.C_alloc ?_ _) | (with_reducible refine Kd.C_drewN ?_ _) | (with_reducible refine Kd.C_drew ?_))); (case side2 => exact HC0_0.out); (case side3 => repeat (first | exact (Kd.C_below HR0_1.out HB.out) | (with_reducible refine Kd.C_alloc ?_ _) | (with_reducible refine Kd.C_drewN ?_ _) | (with_reducible refine Kd.C_drew ?_))); (case side4 => exact HC0_1.out); rintro e w27 ⟨rfl, hb⟩; have n0_ := Aside0.mk (blk_below (g := gb39001) (o := .cells #[.slice A0_0 l0_0.length c0_0, .slice A0_1 l0_1.length c0_1] 24 (0, 0)) (bkl BK39001.out) hb); have n1_ := Aside0.mk (below_step (belS HB.out GE39001.out) hb); clear BK39001; clear HB; have BK39001 := n0_; have HB := n1_; clear n0_ n1_; (try clear hb); (try clear hb2); (try clear hk); (try clear hi); have hcz28_0 : w27.cell? ⟨gb39001, 0, none⟩ = some (.slice A0_0 l0_0.length c0_0) := (blk_cell BK39001.out 0).trans rfl; have hcz28_1 : w27.cell? ⟨gb39001, 1, none⟩ = some (.slice A0_1 l0_1.length c0_1) := (blk_cell BK39001.out 1).trans rfl; have hfz28_0 := blk_frozen BK39001.out 0; have hfz28_1 := blk_frozen BK39001.out 1) | (go_at_call 65; (with_reducible refine (dam_within.calls a1 0 (l0_0.length : Int) t39004 _ A4.out).mono ?_); rintro e w' ⟨rfl, ⟨nd, rfl⟩⟩; (try first | exact ⟨rfl, _, World.drewN_drewN _ _ _⟩ | exact ⟨rfl, _, Eq.trans (World.drewN_drewN _ _ _) (congrArg (World.drewN _) (Nat.add_assoc _ _ _))⟩)) | (go_at_call 64; (with_reducible refine (dam_unless.calls t39004 2 t39005 _ A5.out).mono ?_); rintro e w' ⟨rfl, ⟨nd, rfl⟩⟩; (try first | exact ⟨rfl, _, World.drewN_drewN _ _ _⟩ | exact ⟨rfl, _, Eq.trans (World.drewN_drewN _ _ _) (congrArg (World.drewN _) (Nat.add_assoc _ _ _))⟩)) | ((with_reducible refine gate_dst (N := 23) rfl ?_); refine Kd.R_lit (Kd.int .i64) _ 26 ?hg (N := 23) ?hd (xs := ([t39003, t39005] : List Int)) (inner := [.int .i64 t39003, .int .i64 t39005]) (ok := fun _ => True) (okp := fun _ => True) ?hr ?hp (fun _ hk => hk) trivial (Below.refl _ _) (Nat.le_refl _) (by simp) ?_; (case hd => rfl); (case hg => rfl); (case hr => first | (go_simp; done) | (go_simp; rfl)); (case hp => exact (Reps.one (show Kd.M (Kd.int .i64) _ _ _ t39003 [.int .i64 t39003] from rfl) (Reps.one (show Kd.M (Kd.int .i64) _ _ _ t39005 [.int .i64 t39005] from rfl) (Reps.none _ _)))); intro v39007 w29 ho30 hb hg_ hnew_; clear hg_ hnew_; (first | rw [← Ny39006.out] at ho30 | (simp only [Int.reduceToNat] at ho30; rw [← Ny39006.out] at ho30)); have n0_ := Aside0.mk (Kd.R_lower ho30 (below_size (belS HB.out GE39001.out))); have n1_ := Aside0.mk (blk_below (g := gb39001) (o := .cells #[.slice A0_0 l0_0.length c0_0, .slice A0_1 l0_1.length c0_1] 24 (0, 0)) (bkl BK39001.out) hb); have n2_ := Aside0.mk (below_step (belS HB.out GE39001.out) hb); clear BK39001; clear HB; have HO39008 := n0_; have BK39001 := n1_; have HB := n2_; clear n0_ n1_ n2_; clear hb ho30; obtain ⟨Ao31, co31, eo31⟩ := Kd.R_slice HO39008.out; subst eo31) | (go_at_call 63; (with_reducible refine (dam_first.calls k _ _ y39006 t39009 _ ?side1 ?side2 A6.out).mono ?_); (case side1 => repeat (first | exact (Kd.R_reads' HO39008.out).2.2 | (with_reducible refine Kd.C_alloc ?_ _) | (with_reducible refine Kd.C_drewN ?_ _) | (with_reducible refine Kd.C_drew ?_))); (case side2 => exact (Kd.R_reads' HO39008.out).2.1); rintro e w' ⟨rfl, ⟨nd, rfl⟩⟩; (try first | exact ⟨rfl, _, World.drewN_drewN _ _ _⟩ | exact ⟨rfl, _, Eq.trans (World.drewN_drewN _ _ _) (congrArg (World.drewN _) (Nat.add_assoc _ _ _))⟩))); try go_wp2_with (first | ((with_reducible refine gate_dst (N := 2) rfl ?_); refine box_event ?hg (N := 2) ?hd (cs := #[.slice A0_0 l0_0.length c0_0, .slice A0_1 l0_1.length c0_1]) (t := 24) ?hr ?_; (case hd => rfl); (case hg => rfl); (case hr => first | (go_simp; done) | (go_simp; rfl)); intro gb39001 hg w25 hbox hb; have n0_ := Aside0.mk (below_step (bel HB.out) hb); have n1_ := Aside0.mk (hbox); have n2_ := Aside0.mk ((by rw [hg]; exact (below_size (bel HB.out)) : w.heap.size ≤ gb39001)); have n3_ := Aside0.mk ((by rw [hg]; exact (below_size (bel HB.out)) : w.heap.size ≤ gb39001)); clear HB; have HB := n0_; have BK39001 := n1_; have GW39001 := n2_; have GE39001 := n3_; clear n0_ n1_ n2_ n3_; clear hb hbox hg; have hcz26_0 : w25.cell? ⟨gb39001, 0, none⟩ = some (.slice A0_0 l0_0.length c0_0) := (blk_cell BK39001.out 0).trans rfl; have hcz26_1 : w25.cell? ⟨gb39001, 1, none⟩ = some (.slice A0_1 l0_1.length c0_1) := (blk_cell BK39001.out 1).trans rfl; have hfz26_0 := blk_frozen BK39001.out 0; have hfz26_1 := blk_frozen BK39001.out 1) | (go_at_call 11; (with_reducible refine (dam_CheckBasin.calls k _ _ l0_0 _ _ l0_1 t39002 t39003 _ ?side1 ?side2 ?side3 ?side4 A3.out).mono ?_); (case side1 => repeat (first | exact (Kd.C_below HR0_0.out HB.out) | (with_reducible refine Kd.C_alloc ?_ _) | (with_reducible refine Kd.C_drewN ?_ _) | (with_reducible refine Kd.C_drew ?_))); (case side2 => exact HC0_0.out); (case side3 => repeat (first | exact (Kd.C_below HR0_1.out HB.out) | (with_reducible refine Kd.C_alloc ?_ _) | (with_reducible refine Kd.C_drewN ?_ _) | (with_reducible refine Kd.C_drew ?_))); (case side4 => exact HC0_1.out); rintro e w27 ⟨rfl, hb⟩; have n0_ := Aside0.mk (blk_below (g := gb39001) (o := .cells #[.slice A0_0 l0_0.length c0_0, .slice A0_1 l0_1.length c0_1] 24 (0, 0)) (bkl BK39001.out) hb); have n1_ := Aside0.mk (below_step (belS HB.out GE39001.out) hb); clear BK39001; clear HB; have BK39001 := n0_; have HB := n1_; clear n0_ n1_; (try clear hb); (try clear hb2); (try clear hk); (try clear hi); have hcz28_0 : w27.cell? ⟨gb39001, 0, none⟩ = some (.slice A0_0 l0_0.length c0_0) := (blk_cell BK39001.out 0).trans rfl; have hcz28_1 : w27.cell? ⟨gb39001, 1, none⟩ = some (.slice A0_1 l0_1.length c0_1) := (blk_cell BK39001.out 1).trans rfl; have hfz28_0 := blk_frozen BK39001.out 0; have hfz28_1 := blk_frozen BK39001.out 1) | (go_at_call 65; (with_reducible refine (dam_within.calls a1 0 (l0_0.length : Int) t39004 _ A4.out).mono ?_); rintro e w' ⟨rfl, ⟨nd, rfl⟩⟩; (try first | exact ⟨rfl, _, World.drewN_drewN _ _ _⟩ | exact ⟨rfl, _, Eq.trans (World.drewN_drewN _ _ _) (congrArg (World.drewN _) (Nat.add_assoc _ _ _))⟩)) | (go_at_call 64; (with_reducible refine (dam_unless.calls t39004 2 t39005 _ A5.out).mono ?_); rintro e w' ⟨rfl, ⟨nd, rfl⟩⟩; (try first | exact ⟨rfl, _, World.drewN_drewN _ _ _⟩ | exact ⟨rfl, _, Eq.trans (World.drewN_drewN _ _ _) (congrArg (World.drewN _) (Nat.add_assoc _ _ _))⟩)) | ((with_reducible refine gate_dst (N := 23) rfl ?_); refine Kd.R_lit (Kd.int .i64) _ 26 ?hg (N := 23) ?hd (xs := ([t39003, t39005] : List Int)) (inner := [.int .i64 t39003, .int .i64 t39005]) (ok := fun _ => True) (okp := fun _ => True) ?hr ?hp (fun _ hk => hk) trivial (Below.refl _ _) (Nat.le_refl _) (by simp) ?_; (case hd => rfl); (case hg => rfl); (case hr => first | (go_simp; done) | (go_simp; rfl)); (case hp => exact (Reps.one (show Kd.M (Kd.int .i64) _ _ _ t39003 [.int .i64 t39003] from rfl) (Reps.one (show Kd.M (Kd.int .i64) _ _ _ t39005 [.int .i64 t39005] from rfl) (Reps.none _ _)))); intro v39007 w29 ho30 hb hg_ hnew_; clear hg_ hnew_; (first | rw [← Ny39006.out] at ho30 | (simp only [Int.reduceToNat] at ho30; rw [← Ny39006.out] at ho30)); have n0_ := Aside0.mk (Kd.R_lower ho30 (below_size (belS HB.out GE39001.out))); have n1_ := Aside0.mk (blk_below (g := gb39001) (o := .cells #[.slice A0_0 l0_0.length c0_0, .slice A0_1 l0_1.length c0_1] 24 (0, 0)) (bkl BK39001.out) hb); have n2_ := Aside0.mk (below_step (belS HB.out GE39001.out) hb); clear BK39001; clear HB; have HO39008 := n0_; have BK39001 := n1_; have HB := n2_; clear n0_ n1_ n2_; clear hb ho30; obtain ⟨Ao31, co31, eo31⟩ := Kd.R_slice HO39008.out; subst eo31) | (go_at_call 63; (with_reducible refine (dam_first.calls k _ _ y39006 t39009 _ ?side1 ?side2 A6.out).mono ?_); (case side1 => repeat (first | exact (Kd.R_reads' HO39008.out).2.2 | (with_reducible refine Kd.C_alloc ?_ _) | (with_reducible refine Kd.C_drewN ?_ _) | (with_reducible refine Kd.C_drew ?_))); (case side2 => exact (Kd.R_reads' HO39008.out).2.1); rintro e w' ⟨rfl, ⟨nd, rfl⟩⟩; (try first | exact ⟨rfl, _, World.drewN_drewN _ _ _⟩ | exact ⟨rfl, _, Eq.trans (World.drewN_drewN _ _ _) (congrArg (World.drewN _) (Nat.add_assoc _ _ _))⟩))))
    go_ret2
    exact ⟨by first | rfl | (simp [errW_none, errW_some] <;> rfl) | (simp [*, errW_none, errW_some] <;> rfl), belS HB.out GE39001.out⟩
set_option maxHeartbeats 8000000 in
set_option maxRecDepth 100000 in
theorem hIndexInt (g : Nat) (lb : Array Value) (p : Int → Bool) (eg : ∀ args w, (callFunc g args).run Try.prog w = .ok (.enter g args) w) (A0 : Option Addr) (c0 : Nat) (l0 : List Int) (w : World) (hr0 : Kd.C (Kd.int .i64) w A0 l0.length l0) (hp : PredB Try.prog g lb (Value.int .i64) p l0 w) :
    Calls Try.prog 70 #[.slice A0 l0.length c0, .func (.func g) #[] lb] w fun e w' => e = .returned (.int .i64 (idxF p l0)) ∧ Below w.heap.size w w' := by
  have hlen : l0.length ≤ 9223372036854775807 := hr0.2.1
  have HR0 := Aside0.mk hr0
  have HP := Aside0.mk hp
  clear hr0 hp
  go_enter Try.func70, Try.ntmps70
  go_wp2
  go_loopg [5, 8] l0.length (fun gg _ s8 wr => ∃ kk : Nat, kk ≤ l0.length ∧ l0.length - kk ≤ gg ∧ s8 = .int .i64 kk ∧ Aside0 (Below w.heap.size w wr) ∧ Aside0 (∀ j, j < kk → p (l0.getD j 0) = false))
  case atStart => exact ⟨0, Nat.zero_le _, by omega, rfl, ⟨Below.refl _ _⟩, ⟨fun j hj => absurd hj (Nat.not_lt_zero _)⟩⟩
  case round =>
    obtain ⟨kk, hkk, hg, rfl, HB, A⟩ := hrel
    by_cases hlt : kk < l0.length
    · have hltz : (kk : Int) < (l0.length : Int) := by omega
      obtain ⟨ad, e1, hx1⟩ := Kd.at_int (Kd.C_below HR0.out HB.out) (kk : Int) (by omega) (by omega)
      cases e1
      have hmem : l0.getD kk 0 ∈ l0 := by rw [List.getD_eq_getElem?_getD, List.getElem?_eq_getElem hlt]; exact List.getElem_mem hlt
      have hrd : rd l0 (kk : Int) = l0.getD kk 0 := rfl
      rw [hrd, Int.toNat_natCast] at hx1
      clear hrd
      generalize hy : l0.getD kk 0 = y at hx1 hmem
      have B := Aside0.mk hy
      clear hy
      have hcall := HP.out wr y hmem HB.out
      cases hq : p y with
      | true =>
        rw [hq] at hcall
        have HC := Aside0.mk hcall
        have HQ := Aside0.mk hq
        clear hcall hq
        go_wp2_with (go_at_fn g; refine HC.out.mono ?_; rintro e w' ⟨rfl, hb⟩)
        go_ret
        refine ⟨?_, ?_⟩
        · rw [idxF_hit hlt A.out (by rw [B.out]; exact HQ.out)]; rfl
        · exact below_step HB.out (by assumption)
      | false =>
        rw [hq] at hcall
        have HC := Aside0.mk hcall
        have HQ := Aside0.mk hq
        clear hcall hq
        go_wp2_with (go_at_fn g; refine HC.out.mono ?_; rintro e w' ⟨rfl, hb⟩; have HB2 := Aside0.mk (below_step HB.out hb); clear hb)
        go_roundg (l0.length - (kk + 1))
        case measure => omega
        case rel =>
          refine ⟨kk + 1, by omega, by omega, by go_num, by assumption, ⟨fun j hj => ?_⟩⟩
          by_cases e : j = kk
          · subst e
            rw [B.out]; exact HQ.out
          · exact A.out j (by omega)
    · have hltz : ¬ (kk : Int) < (l0.length : Int) := by omega
      obtain rfl : kk = l0.length := by omega
      go_wp2
      go_ret
      refine ⟨?_, HB.out⟩
      rw [idxF_miss A.out]; rfl
set_option maxHeartbeats 8000000 in
set_option maxRecDepth 100000 in
theorem hContainsInt (g : Nat) (lb : Array Value) (p : Int → Bool) (eg : ∀ args w, (callFunc g args).run Try.prog w = .ok (.enter g args) w) (A0 : Option Addr) (c0 : Nat) (l0 : List Int) (w : World) (hr0 : Kd.C (Kd.int .i64) w A0 l0.length l0) (hp : PredB Try.prog g lb (Value.int .i64) p l0 w) :
    Calls Try.prog 91 #[.slice A0 l0.length c0, .func (.func g) #[] lb] w fun e w' => e = .returned (.bool (l0.any p)) ∧ Below w.heap.size w w' := by
  have HI := Aside0.mk (hIndexInt g lb p eg A0 c0 l0 w hr0 hp)
  clear hr0 hp
  obtain ⟨x, hx⟩ : ∃ x, x = idxF p l0 := ⟨_, rfl⟩
  rw [← hx] at HI
  have HX := Aside0.mk hx
  clear hx
  go_enter Try.func91, Try.ntmps91
  go_wp2_with (go_at_call 70; refine HI.out.mono ?_; rintro e w' ⟨rfl, hb⟩)
  go_ret
  refine ⟨?_, by assumption⟩
  rw [← idxF_any p l0, ← HX.out]; rfl
def dam_size.f (a0 : Int) : Option (Int) := some (mx a0 (wrap64 (-a0)))
set_option maxHeartbeats 8000000 in
set_option maxRecDepth 100000 in
theorem dam_size.calls (a0 : Int) (r : Int) (w : World) (h : dam_size.f a0 = some r) :
    Calls Try.prog 86 #[.int .i64 a0] w fun e w' => e = .returned (.int .i64 r) ∧ Below w.heap.size w w' := by
  have HB := Aside0.mk (Below.refl w.heap.size w)
  have H : (some (mx a0 (wrap64 (-a0)))) = some r := h
  clear h
  obtain ⟨ji2, hji2⟩ : ∃ j_ : Int, (mx a0 (wrap64 (-a0))) = j_ := ⟨_, rfl⟩
  replace H : (some ji2) = some r := by first | (rw [hji2] at H; exact H) | (simp only [hji2] at H ⊢; exact H)
  have hji2_ : (if a0 < (wrap64 (-a0)) then (wrap64 (-a0)) else a0) = ji2 := hji2
  obtain rfl := Option.some.inj H
  go_enter Try.func86, Try.ntmps86
  go_wp2
  go_ret
  exact ⟨by first | rfl | (simp [errW_none, errW_some] <;> rfl) | (simp only [← hji2]; first | rfl | (simp [errW_none, errW_some] <;> rfl)) | (simp [*, errW_none, errW_some] <;> rfl), bel HB.out⟩
def dam_valley_hears.f (l0_0 : List (S112)) (l0_1 : List Int) (a1 : Int) (a2_0 : Int) (a2_1 : Int) : Option (Bool) := if 0 ≤ a1 then (if a1 < (l0_1.length : Int) then ((dam_size.f (wrap64 ((rd l0_1 a1) - a2_0))).bind fun t315004 => (some (decide (t315004 ≤ a2_1)))) else (none)) else (none)
def dam_valley_hears.T1 : Bool × List (List Nat × List Nat) := (true, [([], []), ([0], [0]), ([1], [1]), ([], []), ([2, 3], [2, 3]), ([4], [4]), ([], []), ([6], [6]), ([5, 7], [5, 7]), ([8], [8]), ([], []), ([10], [10]), ([9, 11], [9, 11]), ([12, 9, 0, 1, 2, 3, 4, 5, 6, 7, 8, 9, 10, 11, 12], [12])])
def dam_valley_hears.B1 : List Nat := [0, 1, 3, 0, 15, 31, 0, 64, 255, 511, 0, 1024, 4095, 8191]
theorem dam_valley_hears.tab1 : rtab .any (opsOf Try.f105 1) = dam_valley_hears.T1 := by kernel_rfl
theorem dam_valley_hears.bits1 : waitsOk dam_valley_hears.T1.2 dam_valley_hears.B1 = true := by kernel_rfl
set_option maxHeartbeats 8000000 in
set_option maxRecDepth 100000 in
theorem dam_valley_hears.calls (A0_0 : Option Addr) (c0_0 : Nat) (l0_0 : List (S112)) (A0_1 : Option Addr) (c0_1 : Nat) (l0_1 : List Int) (a1 : Int) (a2_0 : Int) (a2_1 : Int) (r : Bool) (w : World) (hr0_0 : Kd.C k112 w A0_0 l0_0.length l0_0) (hc0_0 : l0_0.length ≤ c0_0) (hr0_1 : Kd.C (Kd.int .i64) w A0_1 l0_1.length l0_1) (hc0_1 : l0_1.length ≤ c0_1) (h : dam_valley_hears.f l0_0 l0_1 a1 a2_0 a2_1 = some r) :
    Calls Try.prog 105 #[.agg #[.slice A0_0 l0_0.length c0_0, .slice A0_1 l0_1.length c0_1], .int .i64 a1, .agg #[.int .i64 a2_0, .int .i64 a2_1]] w fun e w' => e = .returned (.bool r) ∧ Below w.heap.size w w' := by
  have hu116 := Try.underlying116
  have hu112 := Try.underlying112
  have HR0_0 := Aside0.mk hr0_0
  have HC0_0 := Aside0.mk hc0_0
  clear hr0_0 hc0_0
  have HR0_1 := Aside0.mk hr0_1
  have HC0_1 := Aside0.mk hc0_1
  clear hr0_1 hc0_1
  have HB := Aside0.mk (Below.refl w.heap.size w)
  have H : (if 0 ≤ a1 then (if a1 < (l0_1.length : Int) then ((dam_size.f (wrap64 ((rd l0_1 a1) - a2_0))).bind fun t315004 => (some (decide (t315004 ≤ a2_1)))) else (none)) else (none)) = some r := h
  clear h
  by_cases c4 : 0 ≤ a1
  · rw [if_pos c4] at H
    have c4b0 : decide (0 ≤ a1) = true := decide_eq_true c4
    clear c4
    by_cases c5 : a1 < (l0_1.length : Int)
    · rw [if_pos c5] at H
      have c5b0 : decide (a1 < (l0_1.length : Int)) = true := decide_eq_true c5
      clear c5
      replace H := Option.bind_eq_some_iff.mp H
      obtain ⟨t315004, A60, H⟩ := H
      replace H : (some (decide (t315004 ≤ a2_1))) = some r := H
      have A6 := Aside0.mk A60
      clear A60
      obtain rfl := Option.some.inj H
      go_enter Try.func105, Try.ntmps105
      try go_wp2_with (first | ((with_reducible refine gate_dst (N := 3) rfl ?_); refine box_event ?hg (N := 3) ?hd (cs := #[.slice A0_0 l0_0.length c0_0, .slice A0_1 l0_1.length c0_1]) (t := 116) ?hr ?_; (case hd => rfl); (case hg => rfl); (case hr => first | (go_simp; done) | (go_simp; rfl)); intro gb315001 hg w7 hbox hb; have n0_ := Aside0.mk (below_step (bel HB.out) hb); have n1_ := Aside0.mk (hbox); have n2_ := Aside0.mk ((by rw [hg]; exact (below_size (bel HB.out)) : w.heap.size ≤ gb315001)); have n3_ := Aside0.mk ((by rw [hg]; exact (below_size (bel HB.out)) : w.heap.size ≤ gb315001)); clear HB; have HB := n0_; have BK315001 := n1_; have GW315001 := n2_; have GE315001 := n3_; clear n0_ n1_ n2_ n3_; clear hb hbox hg) | ((with_reducible refine gate_dst (N := 5) rfl ?_); refine box_event ?hg (N := 5) ?hd (cs := #[.int .i64 a2_0, .int .i64 a2_1]) (t := 112) ?hr ?_; (case hd => rfl); (case hg => rfl); (case hr => first | (go_simp; done) | (go_simp; rfl)); intro gb315002 hg w8 hbox hb; have n0_ := Aside0.mk (blk_below (g := gb315001) (o := .cells #[.slice A0_0 l0_0.length c0_0, .slice A0_1 l0_1.length c0_1] 116 (0, 0)) (bkl BK315001.out) hb); have n1_ := Aside0.mk (below_step (belS HB.out GE315001.out) hb); have n2_ := Aside0.mk (hbox); have n3_ := Aside0.mk ((by rw [hg]; exact (below_size (belS HB.out GE315001.out)) : w.heap.size ≤ gb315002)); have n4_ := Aside0.mk ((by rw [hg]; exact (below_size (belS HB.out GE315001.out)) : w.heap.size ≤ gb315002)); have n5_ := Aside0.mk ((by rw [hg]; exact Nat.ne_of_lt (blk_lt (g := gb315001) (o := .cells #[.slice A0_0 l0_0.length c0_0, .slice A0_1 l0_1.length c0_1] 116 (0, 0)) (bkl BK315001.out)) : gb315001 ≠ gb315002)); have n6_ := Aside0.mk ((by rw [hg]; exact Nat.ne_of_gt (blk_lt (g := gb315001) (o := .cells #[.slice A0_0 l0_0.length c0_0, .slice A0_1 l0_1.length c0_1] 116 (0, 0)) (bkl BK315001.out)) : gb315002 ≠ gb315001)); clear BK315001; clear HB; have BK315001 := n0_; have HB := n1_; have BK315002 := n2_; have GW315002 := n3_; have GE315002 := n4_; have NB315001_315002 := n5_; have NB315002_315001 := n6_; clear n0_ n1_ n2_ n3_ n4_ n5_ n6_; clear hb hbox hg))
      have n0_ := Aside0.mk (blk_drew BK315001.out)
      have n1_ := Aside0.mk (blk_drew BK315002.out)
      have n2_ := Aside0.mk (below_drew1 HB.out)
      clear BK315001
      clear BK315002
      clear HB
      have BK315001 := n0_
      have BK315002 := n1_
      have HB := n2_
      clear n0_ n1_ n2_
      have p315003 : 0 ≤ (a1 : Int) := of_decide_eq_true asm_
      have q315003 : a1 < (l0_1.length : Int) := of_decide_eq_true asm_
      obtain ⟨ad315003, e315003, hx315003_0⟩ := Kd.at_int HR0_1.out a1 p315003 q315003
      have hw315003_0 := hx315003_0
      cases e315003
      replace hx315003_0 := (HB.out.cell (World.block_lt_of_cell? w _ hx315003_0)).trans hx315003_0
      replace p315003 := eq_true p315003
      replace q315003 := eq_true q315003
      refine start_ (n := 14) (S := fun w' => w'.cell? ⟨gb315001, 0, none⟩ = some (.slice A0_0 l0_0.length c0_0) ∧ w'.cell? ⟨gb315001, 1, none⟩ = some (.slice (some ad315003) l0_1.length c0_1) ∧ w'.cell? ⟨gb315002, 0, none⟩ = some (.int .i64 a2_0) ∧ w'.cell? ⟨gb315002, 1, none⟩ = some (.int .i64 a2_1) ∧ w'.cell? (ad315003.add (a1).toNat) = some (.int .i64 (rd l0_1 a1))) (ds := []) #[false, false, false, false, false, false, false, false, false, false, false, false, false, false] (by kernel_rfl) rfl rfl ⟨(blk_cell BK315001.out 0).trans rfl, (blk_cell BK315001.out 1).trans rfl, (blk_cell BK315002.out 0).trans rfl, (blk_cell BK315002.out 1).trans rfl, ((HB.out.cell (World.block_lt_of_cell? w _ hw315003_0)).trans hw315003_0)⟩ (fun hHeld => ?_); refine with_tabW dam_valley_hears.tab1 dam_valley_hears.bits1 (fun HT_ HW_ => ?_)
      generalize w8.drew = w9 at BK315001 BK315002 HB hx315003_0 hHeld ⊢
      refine pure_ (i := 0) (N := some 7) (v := ?_) (a' := ?_) #[true, false, false, false, false, false, false, false, false, false, false, false, false, false] rfl rfl (any_of HT_.out (by kernel_rfl)) (fun _ _ _ h => h) (Or.inl ⟨by rfl, ?_⟩) ?_ ?_
      rotate_left
      · intro w'
        go_simp
        with_reducible rfl
      rotate_left
      · simp only [Act.put, List.setIfInBounds_toArray, List.set_cons_zero, List.set_cons_succ, i64_w, i32_w]
        rfl
      refine pure_ (i := 1) (N := some 8) (v := ?_) (a' := ?_) #[true, true, false, false, false, false, false, false, false, false, false, false, false, false] rfl rfl (any_of HT_.out (by kernel_rfl)) (fun _ _ _ h => h) (Or.inl ⟨by rfl, ?_⟩) ?_ ?_
      rotate_left
      · intro w'
        go_simp
        with_reducible rfl
      rotate_left
      · simp only [Act.put, List.setIfInBounds_toArray, List.set_cons_zero, List.set_cons_succ, i64_w, i32_w]
        rfl
      refine pure_ (i := 3) (N := some 10) (v := ?_) (a' := ?_) #[true, true, false, true, false, false, false, false, false, false, false, false, false, false] rfl rfl (any_of HT_.out (by kernel_rfl)) (fun _ _ _ h => h) (Or.inl ⟨by rfl, ?_⟩) ?_ ?_
      rotate_left
      · intro w'
        go_simp
        with_reducible rfl
      rotate_left
      · simp only [Act.put, List.setIfInBounds_toArray, List.set_cons_zero, List.set_cons_succ, i64_w, i32_w]
        rfl
      refine pure_ (i := 6) (N := some 13) (v := ?_) (a' := ?_) #[true, true, false, true, false, false, true, false, false, false, false, false, false, false] rfl rfl (any_of HT_.out (by kernel_rfl)) (fun _ _ _ h => h) (Or.inl ⟨by rfl, ?_⟩) ?_ ?_
      rotate_left
      · intro w'
        go_simp
        with_reducible rfl
      rotate_left
      · simp only [Act.put, List.setIfInBounds_toArray, List.set_cons_zero, List.set_cons_succ, i64_w, i32_w]
        rfl
      refine pure_ (i := 10) (N := some 17) (v := ?_) (a' := ?_) #[true, true, false, true, false, false, true, false, false, false, true, false, false, false] rfl rfl (any_of HT_.out (by kernel_rfl)) (fun _ _ _ h => h) (Or.inl ⟨by rfl, ?_⟩) ?_ ?_
      rotate_left
      · intro w'
        go_simp
        with_reducible rfl
      rotate_left
      · simp only [Act.put, List.setIfInBounds_toArray, List.set_cons_zero, List.set_cons_succ, i64_w, i32_w]
        rfl
      refine take_ (i := 2) (N := some 9) (v := ?_) (a' := ?_) #[true, true, true, true, false, false, true, false, false, false, true, false, false, false] rfl rfl (take_ofW HT_.out HW_.out (by kernel_rfl)) (fun _ _ _ h => h) (Or.inl ⟨by rfl, ?_⟩) hHeld ?_ ?_
      rotate_left
      · rintro w' ⟨s0, s1, s2, s3, s4⟩
        go_simp
        with_reducible rfl
      rotate_left
      · simp only [Act.put, List.setIfInBounds_toArray, List.set_cons_zero, List.set_cons_succ, i64_w, i32_w]
        rfl
      refine pure_ (i := 4) (N := some 11) (v := ?_) (a' := ?_) #[true, true, true, true, true, false, true, false, false, false, true, false, false, false] rfl rfl (any_of HT_.out (by kernel_rfl)) (fun _ _ _ h => h) (Or.inl ⟨by rfl, ?_⟩) ?_ ?_
      rotate_left
      · intro w'
        go_simp
        with_reducible rfl
      rotate_left
      · simp only [Act.put, List.setIfInBounds_toArray, List.set_cons_zero, List.set_cons_succ, i64_w, i32_w]
        rfl
      refine take_ (i := 5) (N := some 12) (v := ?_) (a' := ?_) #[true, true, true, true, true, true, true, false, false, false, true, false, false, false] rfl rfl (take_ofW HT_.out HW_.out (by kernel_rfl)) (fun _ _ _ h => h) (Or.inl ⟨by rfl, ?_⟩) hHeld ?_ ?_
      rotate_left
      · rintro w' ⟨s0, s1, s2, s3, s4⟩
        go_simp
        with_reducible rfl
      rotate_left
      · simp only [Act.put, List.setIfInBounds_toArray, List.set_cons_zero, List.set_cons_succ, i64_w, i32_w]
        rfl
      refine take_ (i := 7) (N := some 14) (v := ?_) (a' := ?_) #[true, true, true, true, true, true, true, true, false, false, true, false, false, false] rfl rfl (take_ofW HT_.out HW_.out (by kernel_rfl)) (fun _ _ _ h => h) (Or.inl ⟨by rfl, ?_⟩) hHeld ?_ ?_
      rotate_left
      · rintro w' ⟨s0, s1, s2, s3, s4⟩
        go_simp
        with_reducible rfl
      rotate_left
      · simp only [Act.put, List.setIfInBounds_toArray, List.set_cons_zero, List.set_cons_succ, i64_w, i32_w]
        rfl
      refine pure_ (i := 8) (N := some 15) (v := ?_) (a' := ?_) #[true, true, true, true, true, true, true, true, true, false, true, false, false, false] rfl rfl (any_of HT_.out (by kernel_rfl)) (fun _ _ _ h => h) (Or.inl ⟨by rfl, ?_⟩) ?_ ?_
      rotate_left
      · intro w'
        go_simp
        with_reducible rfl
      rotate_left
      · simp only [Act.put, List.setIfInBounds_toArray, List.set_cons_zero, List.set_cons_succ, i64_w, i32_w]
        rfl
      refine take_ (i := 11) (N := some 18) (v := ?_) (a' := ?_) #[true, true, true, true, true, true, true, true, true, false, true, true, false, false] rfl rfl (take_ofW HT_.out HW_.out (by kernel_rfl)) (fun _ _ _ h => h) (Or.inl ⟨by rfl, ?_⟩) hHeld ?_ ?_
      rotate_left
      · rintro w' ⟨s0, s1, s2, s3, s4⟩
        go_simp
        with_reducible rfl
      rotate_left
      · simp only [Act.put, List.setIfInBounds_toArray, List.set_cons_zero, List.set_cons_succ, i64_w, i32_w]
        rfl
      refine one_ (i := 9) (N := some 16) #[true, true, true, true, true, true, true, true, true, true, true, true, false, false] rfl rfl (one_of HT_.out (by kernel_rfl)) (by decide) (fun K hK => ?_)
      refine goes_ Try.func86 (by kernel_rfl) rfl #[.int .i64 (wrap64 ((rd l0_1 a1) - a2_0))] (by rfl) rfl rfl mpa ?_
      with_reducible refine (dam_size.calls (wrap64 ((rd l0_1 a1) - a2_0)) t315004 _ A6.out).mono ?_
      rintro e w10 ⟨rfl, hb⟩
      refine ⟨_, rfl, ?_⟩
      have n0_ := Aside0.mk (blk_below (g := gb315001) (o := .cells #[.slice A0_0 l0_0.length c0_0, .slice (some ad315003) l0_1.length c0_1] 116 (0, 0)) (bkl BK315001.out) hb)
      have n1_ := Aside0.mk (blk_below (g := gb315002) (o := .cells #[.int .i64 a2_0, .int .i64 a2_1] 112 (0, 0)) (bkl BK315002.out) hb)
      have n2_ := Aside0.mk (below_step (belT HB.out GE315001.out GE315002.out) hb)
      clear BK315001
      clear BK315002
      clear HB
      have BK315001 := n0_
      have BK315002 := n1_
      have HB := n2_
      clear n0_ n1_ n2_
      (try clear hb)
      (try clear hb2)
      (try clear hk)
      (try clear hi)
      refine hK.out _ _ ⟨(blk_cell BK315001.out 0).trans rfl, (blk_cell BK315001.out 1).trans rfl, (blk_cell BK315002.out 0).trans rfl, (blk_cell BK315002.out 1).trans rfl, ((HB.out.cell (World.block_lt_of_cell? w _ hw315003_0)).trans hw315003_0)⟩ (fun hHeld => ?_)
      clear hK K
      refine norm_ (a' := ?_) ?_ ?_
      rotate_left
      · show Act.put _ (some 16) _ = _
        simp only [Act.put, List.setIfInBounds_toArray, List.set_cons_zero, List.set_cons_succ, i64_w, i32_w]
        rfl
      refine pure_ (i := 12) (N := some 19) (v := ?_) (a' := ?_) #[true, true, true, true, true, true, true, true, true, true, true, true, true, false] rfl rfl (any_of HT_.out (by kernel_rfl)) (fun _ _ _ h => h) (Or.inl ⟨by rfl, ?_⟩) ?_ ?_
      rotate_left
      · intro w'
        go_simp
        with_reducible rfl
      rotate_left
      · simp only [Act.put, List.setIfInBounds_toArray, List.set_cons_zero, List.set_cons_succ, i64_w, i32_w]
        rfl
      refine pure_ (i := 13) (N := some 6) (v := ?_) (a' := ?_) #[true, true, true, true, true, true, true, true, true, true, true, true, true, true] rfl rfl (any_of HT_.out (by kernel_rfl)) (fun _ _ _ h => h) (Or.inl ⟨by rfl, ?_⟩) ?_ ?_
      rotate_left
      · intro w'
        go_simp
        with_reducible rfl
      rotate_left
      · simp only [Act.put, List.setIfInBounds_toArray, List.set_cons_zero, List.set_cons_succ, i64_w, i32_w]
        rfl
      refine done_ (done_of HT_.out (by kernel_rfl)) ?_
      try go_wp2
      go_ret
      exact ⟨by first | rfl | (simp [errW_none, errW_some] <;> rfl) | (simp [*, errW_none, errW_some] <;> rfl), belT HB.out GE315001.out GE315002.out⟩
    · rw [if_neg c5] at H
      exact absurd H (by simp)
  · rw [if_neg c4] at H
    exact absurd H (by simp)
theorem sinkA_all {p : Int → Prop} (lt : Int → Int → Bool) (a : Nat) : ∀ (d : Nat) (xs : List Int), a + d < xs.length → (∀ x ∈ xs, p x) → ∀ x ∈ sinkA lt a d xs, p x
  | 0, _, _, h => h
  | d + 1, xs, hj, h => by
    unfold sinkA
    split
    · exact sinkA_all lt a d _ (by rw [swap2_len]; omega) (swap2_all (by omega) h)
    · exact h
theorem insA_all {p : Int → Prop} (lt : Int → Int → Bool) (a : Nat) : ∀ (i : Nat) (xs : List Int), a + i ≤ xs.length → (∀ x ∈ xs, p x) → ∀ x ∈ insA lt a i xs, p x
  | 0, _, _, h => h
  | i + 1, xs, hi, h => by
    unfold insA
    exact sinkA_all lt a i _ (by rw [insA_len]; omega) (insA_all lt a i xs (by omega) h)
set_option maxHeartbeats 8000000 in
set_option maxRecDepth 100000 in
theorem insCmp_calls (gf : Nat) (lb : Array Value) (lt : Int → Int → Bool) (p : Int → Prop) (g cap n B a b : Nat) (xs : List Int) (w : World) (ok : Nat → Prop) (eg : ∀ args w, (callFunc gf args).run Try.prog w = .ok (.enter gf args) w)
    (hR : Kd.R (Kd.int .i64) 3 w B ok (.slice (some ⟨g, 0, none⟩) n cap) xs) (hab : a ≤ b) (hbn : b ≤ n) (hm : n ≤ 1000) (hp : ∀ x ∈ xs, p x) (hc : CmpB Try.prog gf lb lt p g w) :
    Calls Try.prog 136 #[.slice (some ⟨g, 0, none⟩) n cap, .int .i64 (a : Int), .int .i64 (b : Int), .func (.func gf) #[] lb] w fun e w' => e = .returned (.tuple #[]) ∧ Kd.R (Kd.int .i64) 3 w' B ok (.slice (some ⟨g, 0, none⟩) n cap) (insA lt a (b - a) xs) ∧ ButG w w' g := by
  obtain ⟨hn, hcap, hC⟩ := Kd.R_reads' hR
  have HR := Aside0.mk hR
  have HP := Aside0.mk hp
  have HC := Aside0.mk hc
  have HN := Aside0.mk hn
  clear hR hp hc hn hC hcap
  go_enter Try.func136, Try.ntmps136
  go_wp2
  go_loopg [8] (n + 1) (fun gg s8 W => ∃ (i q : Nat), 1 ≤ i ∧ q = a + i ∧ q ≤ b + 1 ∧ b + 1 - q ≤ gg ∧ s8 = .int .i64 q ∧ Aside0 (q ≤ b ∨ b = a) ∧ Aside0 (Kd.R (Kd.int .i64) 3 W B ok (.slice (some ⟨g, 0, none⟩) n cap) (insA lt a i xs)) ∧ Aside0 (ButG w W g))
  case atStart => exact ⟨1, a + 1, by omega, by omega, by omega, by omega, by first | rfl | go_num, ⟨by omega⟩, ⟨HR.out⟩, ⟨ButG.refl _ _⟩⟩
  case round =>
    obtain ⟨i, q, hi1, hqe, hqb, hgg, rfl, HI, HRi, HBi⟩ := hrel
    have HQ := Aside0.mk hqe
    clear hqe
    by_cases hin : q < b
    case pos =>
      have hin2 : (q : Int) < (b : Int) := by omega
      go_wp2
      have hsw : insA lt a (i + 1) xs = sinkA lt a i (insA lt a i xs) := rfl
      have HSW := Aside0.mk hsw
      have hal : ∀ x ∈ insA lt a i xs, p x := insA_all lt a i xs (by have := HN.out; have := HQ.out; omega) HP.out
      have HAL := Aside0.mk hal
      have hll : (insA lt a i xs).length = n := by rw [insA_len]; exact HN.out.symm
      have HLL := Aside0.mk hll
      clear hal hll hsw
      go_loopg [9] i (fun gg s9 W => ∃ (d j : Nat) (cur : List Int), Aside0 (j = a + d) ∧ Aside0 (d ≤ i) ∧ j ≤ q ∧ d ≤ gg ∧ s9 = .int .i64 j ∧ Aside0 (sinkA lt a d cur = sinkA lt a i (insA lt a i xs)) ∧ Aside0 (∀ x ∈ cur, p x) ∧ Aside0 (cur.length = n) ∧ Aside0 (Kd.R (Kd.int .i64) 3 W B ok (.slice (some ⟨g, 0, none⟩) n cap) cur) ∧ Aside0 (ButG w W g))
      case atStart => exact ⟨i, q, insA lt a i xs, HQ, ⟨Nat.le_refl _⟩, by omega, by omega, rfl, ⟨rfl⟩, HAL, HLL, HRi, HBi⟩
      case round =>
        obtain ⟨d, j, cur, HD, HDI, hj, hgg2, rfl, HT, HPc, HLc, HRc, HBc⟩ := hrel
        obtain ⟨wC, hwC⟩ : ∃ wC, wC = wr := ⟨_, rfl⟩
        subst hwC
        rcases (show d = 0 ∨ 0 < d by omega) with hj0 | hj0
        case inl =>
          subst hj0
          have hja : j = a := by have := HD.out; omega
          subst hja
          go_upto_region 4 with fail
          go_region
          all_goals go_wp2
          go_roundg (b + 1 - (q + 1))
          case measure => omega
          case rel => exact ⟨i + 1, q + 1, by omega, by have := HQ.out; omega, by omega, by omega, by first | go_num | (rw [w64 (by omega) (by omega)]; go_num), ⟨.inl (by omega)⟩, ⟨Kd.R_drew (by have := HRc.out; have h := HT.out; rw [HSW.out, ← h]; exact this)⟩, ⟨HBc.out.below (below_drew (Below.refl _ _))⟩⟩
        case inr =>
          obtain ⟨d, rfl⟩ : ∃ m, d = m + 1 := ⟨d - 1, by omega⟩
          obtain ⟨m, hme⟩ : ∃ m, m = a + d := ⟨_, rfl⟩
          obtain rfl : j = m + 1 := by have := HD.out; omega
          have HM := Aside0.mk hme
          have ham : (a : Int) < (m : Int) + 1 := by omega
          clear hme HD
          have hmn : (m : Int) + 1 < (n : Int) := by omega
          have hmn1 : (m : Int) < (n : Int) := by omega
          obtain ⟨hx1, hf1⟩ := Kd.R_celln 0 HRc.out ((m + 1 : Nat) : Int) (by omega) (by omega)
          obtain ⟨hx0, hf0⟩ := Kd.R_celln 0 HRc.out (m : Int) (by omega) (by omega)
          rw [Int.toNat_natCast] at hx0 hx1 hf0 hf1
          rw [show rdOf 0 cur ((m + 1 : Nat) : Int) = cur.getD (m + 1) 0 from rfl] at hx1
          rw [show rdOf 0 cur (m : Int) = cur.getD m 0 from rfl] at hx0
          obtain ⟨x, hxx⟩ : ∃ x, x = cur.getD (m + 1) 0 := ⟨_, rfl⟩
          obtain ⟨y, hyy⟩ : ∃ y, y = cur.getD m 0 := ⟨_, rfl⟩
          rw [← hxx] at hx1
          rw [← hyy] at hx0
          have hpx : p x := HPc.out x (by rw [hxx, List.getD_eq_getElem?_getD, List.getElem?_eq_getElem (by have := HLc.out; omega)]; exact List.getElem_mem _)
          have hpy : p y := HPc.out y (by rw [hyy, List.getD_eq_getElem?_getD, List.getElem?_eq_getElem (by have := HLc.out; omega)]; exact List.getElem_mem _)
          have HXY := Aside0.mk (And.intro hxx hyy)
          have HPP := Aside0.mk (And.intro hpx hpy)
          have HJ := Aside0.mk hj
          clear hxx hyy hpx hpy hj hf0 hf1
          have hk1 : (0 : Int) ≤ (m : Int) + 1 := by omega
          have hk0 : (0 : Int) ≤ (m : Int) := by omega
          have hk2 : IntKind.i64.wrap ((m : Int) + 1 - 1) = (m : Int) := by rw [i64_w, w64 (by omega) (by omega)]; omega
          have hk5 : IntKind.i64.wrap (m : Int) = (m : Int) := by rw [i64_w, w64 (by omega) (by omega)]
          have hk6 : wrap64 (m : Int) = (m : Int) := by rw [w64 (by omega) (by omega)]
          simp only [Int.natCast_add, Int.natCast_one]
          go_upto_region 4 with fail
          go_region_held3 (fun w' => w'.cell? ⟨g, m + 1, none⟩ = some (.int .i64 x) ∧ w'.cell? ⟨g, m, none⟩ = some (.int .i64 y) ∧ Below wC.heap.size wC w')
            ((refine keep2 hx1 hx0 ?_; repeat (first | assumption | exact Below.refl _ _ | apply pw_below_drewN | apply below_drew | apply below_alloc | (apply And.right; apply And.right; assumption) | refine below_step ?_ (by assumption))))
            (first | (go_at_fn gf; refine (HC.out _ x y HPP.out.1 HPP.out.2 (HBc.out.below (by (apply And.right; apply And.right; assumption)))).mono ?_; rintro e w3 ⟨c, rfl, hcd, hb4⟩))
          have HK := Aside0.mk (And.intro hk2 (And.intro hk5 hk6))
          clear hk2 hk5 hk6
          have hBw : Below wC.heap.size wC w3 := by
            apply And.right
            apply And.right
            assumption
          have hR3 := Kd.R_below HRc.out hBw
          have HBw := Aside0.mk (HBc.out.below hBw)
          obtain ⟨hz1, hf1⟩ := Kd.R_celln 0 hR3 ((m + 1 : Nat) : Int) (by omega) (by omega)
          obtain ⟨hz0, hf0⟩ := Kd.R_celln 0 hR3 (m : Int) (by omega) (by omega)
          rw [Int.toNat_natCast] at hz0 hz1 hf0 hf1
          rw [show rdOf 0 cur ((m + 1 : Nat) : Int) = cur.getD (m + 1) 0 from rfl, ← HXY.out.1] at hz1
          rw [show rdOf 0 cur (m : Int) = cur.getD m 0 from rfl, ← HXY.out.2] at hz0
          have HR3 := Aside0.mk hR3
          clear hBw hR3 hx0 hx1
          cases hlt : lt x y
          case true =>
            have hc0 : c < 0 := by rw [hlt] at hcd; exact of_decide_eq_true hcd
            have HLT := Aside0.mk hlt
            clear hcd hlt
            have hRn := Kd.R_putn (Kd.R_putn HR3.out ((m + 1 : Nat) : Int) y) (m : Int) x
            rw [Int.toNat_natCast, Int.toNat_natCast] at hRn
            have hsw : (cur.set (m + 1) y).set m x = swap2 cur m := by rw [HXY.out.1, HXY.out.2]; rfl
            rw [hsw] at hRn
            have hBn := (HBw.out.set (m + 1) (.int .i64 y)).set m (.int .i64 x)
            have hTn : sinkA lt a d (swap2 cur m) = sinkA lt a i (insA lt a i xs) := by
              rw [← HT.out]
              show _ = sinkA lt a (d + 1) cur
              rw [sinkA, ← HM.out, if_pos (by rw [← HXY.out.1, ← HXY.out.2]; exact HLT.out)]
            have HRn := Aside0.mk hRn
            have HBn := Aside0.mk hBn
            have HTn := Aside0.mk hTn
            have HPn := Aside0.mk (swap2_all (j := m) (by have := HLc.out; omega) HPc.out)
            have HLn := Aside0.mk ((swap2_len cur m).trans HLc.out)
            clear hRn hBn hTn hsw
            obtain ⟨hk2, hk5, hk6⟩ := HK.out
            go_upto_region 6 with fail
            go_region
            all_goals go_wp2
            all_goals clear hk2 hk5 hk6
            go_roundg d
            case measure => omega
            case rel => exact ⟨d, m, swap2 cur m, HM, ⟨by have := HDI.out; omega⟩, by have := HJ.out; omega, by omega, by first | rfl | go_num, HTn, HPn, HLn, ⟨Kd.R_drew HRn.out⟩, ⟨HBn.out.below (below_drew (Below.refl _ _))⟩⟩
          case false =>
            have hc0 : ¬ c < 0 := by rw [hlt] at hcd; exact of_decide_eq_false hcd
            have HLT := Aside0.mk hlt
            clear hcd hlt
            go_wp2
            go_roundg (b + 1 - (q + 1))
            case measure => omega
            case rel => exact ⟨i + 1, q + 1, by omega, by have := HQ.out; omega, by omega, by omega, by first | go_num | (rw [w64 (by omega) (by omega)]; go_num), ⟨.inl (by omega)⟩, ⟨by have h := HT.out; rw [sinkA, ← HM.out, if_neg (by rw [← HXY.out.1, ← HXY.out.2, HLT.out]; decide)] at h; rw [HSW.out, ← h]; exact HR3.out⟩, ⟨HBw.out⟩⟩
    case neg =>
      have hfin : insA lt a i xs = insA lt a (b - a) xs := by
        rcases HI.out with h | h
        · rw [show i = b - a by have := HQ.out; omega]
        · have : i = 1 := by have := HQ.out; omega
          subst this
          rw [h, Nat.sub_self]
          rfl
      have hRi := HRi.out
      rw [hfin] at hRi
      have HRF := Aside0.mk hRi
      clear hRi
      go_wp2
      first | go_end0 | (refine bodyPost_ret (results_none rfl _ _ _) rfl ?_)
      exact ⟨rfl, HRF.out, HBi.out⟩
theorem swapAt_len (xs : List Int) (a b : Nat) : (swapAt xs a b).length = xs.length := by simp [swapAt]
theorem swR_len : ∀ (n a b : Nat) (xs : List Int), (swR n a b xs).length = xs.length
  | 0, _, _, _ => rfl
  | n + 1, a, b, xs => by unfold swR; rw [swR_len n, swapAt_len]
set_option maxHeartbeats 8000000 in
set_option maxRecDepth 100000 in
theorem swapR_calls (fv : Value) (g cap N B a b n : Nat) (xs : List Int) (w : World) (ok : Nat → Prop)
    (hR : Kd.R (Kd.int .i64) 3 w B ok (.slice (some ⟨g, 0, none⟩) N cap) xs) (hab : a + n ≤ b) (hb : b + n ≤ N) :
    Calls Try.prog 147 #[.slice (some ⟨g, 0, none⟩) N cap, .int .i64 (a : Int), .int .i64 (b : Int), .int .i64 (n : Int), fv] w fun e w' => e = .returned (.tuple #[]) ∧ Kd.R (Kd.int .i64) 3 w' B ok (.slice (some ⟨g, 0, none⟩) N cap) (swR n a b xs) ∧ ButG w w' g := by
  obtain ⟨hn, hcap, hC⟩ := Kd.R_reads' hR
  have hm : N ≤ 9223372036854775807 := by rw [hn]; exact hC.2.1
  have HR := Aside0.mk hR
  have HN := Aside0.mk hn
  clear hR hn hC hcap
  go_enter Try.func147, Try.ntmps147
  go_wp2
  go_loopg [10] n (fun gg s10 W => ∃ (i : Nat) (cur : List Int), i ≤ n ∧ n - i ≤ gg ∧ s10 = .int .i64 i ∧ Aside0 (swR (n - i) (a + i) (b + i) cur = swR n a b xs) ∧ Aside0 (cur.length = N) ∧ Aside0 (Kd.R (Kd.int .i64) 3 W B ok (.slice (some ⟨g, 0, none⟩) N cap) cur) ∧ Aside0 (ButG w W g))
  case atStart => exact ⟨0, xs, by omega, by omega, rfl, ⟨rfl⟩, ⟨HN.out.symm⟩, HR, ⟨ButG.refl _ _⟩⟩
  case round =>
    obtain ⟨i, cur, hi, hgg, rfl, HT, HL, HRc, HBc⟩ := hrel
    by_cases hin : i < n
    case pos =>
      have hin2 : (i : Int) < (n : Int) := by omega
      obtain ⟨hxa, hfa⟩ := Kd.R_celln 0 HRc.out ((a + i : Nat) : Int) (by omega) (by omega)
      obtain ⟨hxb, hfb⟩ := Kd.R_celln 0 HRc.out ((b + i : Nat) : Int) (by omega) (by omega)
      rw [Int.toNat_natCast] at hxa hfa hxb hfb
      rw [show rdOf 0 cur ((a + i : Nat) : Int) = cur.getD (a + i) 0 from rfl] at hxa
      rw [show rdOf 0 cur ((b + i : Nat) : Int) = cur.getD (b + i) 0 from rfl] at hxb
      have h1 : (a : Int) + (i : Int) < (N : Int) := by omega
      have h2 : (b : Int) + (i : Int) < (N : Int) := by omega
      have h3 : ¬ (a + i = b + i) := by omega
      have h4 : ¬ (b + i = a + i) := by omega
      have h5 : ((a : Int) + (i : Int)).toNat = a + i := by omega
      have h6 : ((b : Int) + (i : Int)).toNat = b + i := by omega
      have hRn := Kd.R_putn (Kd.R_putn HRc.out ((a + i : Nat) : Int) (cur.getD (b + i) 0)) ((b + i : Nat) : Int) (cur.getD (a + i) 0)
      rw [Int.toNat_natCast, Int.toNat_natCast] at hRn
      have HRn := Aside0.mk (show Kd.R (Kd.int .i64) 3 _ B ok (.slice (some ⟨g, 0, none⟩) N cap) (swapAt cur (a + i) (b + i)) from hRn)
      have HBn := Aside0.mk ((HBc.out.set (a + i) (.int .i64 (cur.getD (b + i) 0))).set (b + i) (.int .i64 (cur.getD (a + i) 0)))
      have HTn := Aside0.mk (show swR (n - (i + 1)) (a + (i + 1)) (b + (i + 1)) (swapAt cur (a + i) (b + i)) = swR n a b xs from by
        have h := HT.out
        rw [show n - i = (n - (i + 1)) + 1 by omega] at h
        exact h)
      clear hRn
      generalize cur.getD (a + i) 0 = x at *
      generalize cur.getD (b + i) 0 = y at *
      go_upto_region 3 with fail
      go_region
      all_goals go_wp2
      go_roundg (n - (i + 1))
      case measure => omega
      case rel => exact ⟨i + 1, swapAt cur (a + i) (b + i), by omega, by omega, by first | rfl | go_num, HTn, ⟨(swapAt_len _ _ _).trans HL.out⟩, ⟨Kd.R_drew HRn.out⟩, ⟨HBn.out.below (below_drew (Below.refl _ _))⟩⟩
    case neg =>
      obtain rfl : i = n := by omega
      have h := HT.out
      rw [Nat.sub_self] at h
      have HRF := Aside0.mk (show Kd.R (Kd.int .i64) 3 _ B ok (.slice (some ⟨g, 0, none⟩) N cap) (swR i a b xs) from by rw [← h]; exact HRc.out)
      clear h
      go_wp2
      first | go_end0 | (refine bodyPost_ret (results_none rfl _ _ _) rfl ?_)
      exact ⟨rfl, HRF.out, HBc.out⟩
set_option maxHeartbeats 8000000 in
set_option maxRecDepth 100000 in
theorem rot_calls (fv : Value) (g cap N B a m b : Nat) (xs : List Int) (w : World) (ok : Nat → Prop)
    (hR : Kd.R (Kd.int .i64) 3 w B ok (.slice (some ⟨g, 0, none⟩) N cap) xs) (ham : a < m) (hmb : m < b) (hb : b ≤ N) :
    Calls Try.prog 144 #[.slice (some ⟨g, 0, none⟩) N cap, .int .i64 (a : Int), .int .i64 (m : Int), .int .i64 (b : Int), fv] w fun e w' => e = .returned (.tuple #[]) ∧ Kd.R (Kd.int .i64) 3 w' B ok (.slice (some ⟨g, 0, none⟩) N cap) (rotA a m b xs) ∧ ButG w w' g := by
  obtain ⟨hn, hcap, hC⟩ := Kd.R_reads' hR
  have hm : N ≤ 9223372036854775807 := by rw [hn]; exact hC.2.1
  have HR := Aside0.mk hR
  have HN := Aside0.mk hn
  clear hR hn hC hcap
  have q1 : (m : Int) - (a : Int) = ((m - a : Nat) : Int) := by omega
  have q2 : (b : Int) - (m : Int) = ((b - m : Nat) : Int) := by omega
  have Q1 := Aside0.mk q1
  have Q2 := Aside0.mk q2
  clear q1 q2
  go_enter Try.func144, Try.ntmps144
  go_wp2
  go_loopg [10, 11] (b - a) (fun gg s10 s11 W => ∃ (i j f : Nat) (cur : List Int), 0 < i ∧ 0 < j ∧ i + j ≤ f ∧ i + j ≤ gg ∧ i ≤ m ∧ m + j ≤ N ∧ s10 = .int .i64 i ∧ s11 = .int .i64 j ∧ Aside0 (rotG m f i j cur = rotA a m b xs) ∧ Aside0 (Kd.R (Kd.int .i64) 3 W B ok (.slice (some ⟨g, 0, none⟩) N cap) cur) ∧ Aside0 (ButG w W g))
  case atStart => exact ⟨m - a, b - m, b - a, xs, by omega, by omega, by omega, by omega, by omega, by omega, by first | rfl | (rw [← Q1.out]) | (rw [← Q1.out, w64 (by omega) (by omega)]), by first | rfl | (rw [← Q2.out]) | (rw [← Q2.out, w64 (by omega) (by omega)]), ⟨rfl⟩, HR, ⟨ButG.refl _ _⟩⟩
  case round =>
    obtain ⟨i, j, f, cur, hi, hj, hf, hgg, him, hjn, rfl, rfl, HT, HRc, HBc⟩ := hrel
    obtain ⟨f, rfl⟩ : ∃ f', f = f' + 1 := ⟨f - 1, by omega⟩
    have q3 : (m : Int) - (i : Int) = ((m - i : Nat) : Int) := by omega
    have Q3 := Aside0.mk q3
    clear q3
    obtain ⟨wA, hwA⟩ : ∃ wA, wA = wr := ⟨_, rfl⟩
    subst hwA
    by_cases he : i = j
    case pos =>
      subst he
      have HS := Aside0.mk (swapR_calls fv g cap N B (m - i) m i cur wA ok HRc.out (by omega) (by omega))
      rw [← Q3.out] at HS
      have h := HT.out
      rw [rotG, if_pos rfl] at h
      rw [h] at HS
      clear h
      have hne : ((i : Int) != (i : Int)) = false := by simp
      go_wp2_with (go_at_call 147; refine HS.out.mono ?_; rintro e w2 ⟨rfl, h1, h2⟩; have HRF := Aside0.mk h1; have HBF := Aside0.mk (show ButG w w2 g from ⟨h2.1.trans HBc.out.1, h2.2.1.trans HBc.out.2.1, h2.2.2.1.trans HBc.out.2.2.1, Nat.le_trans HBc.out.2.2.2.1 h2.2.2.2.1, fun k hk hg => (h2.2.2.2.2 k (Nat.lt_of_lt_of_le hk HBc.out.2.2.2.1) hg).trans (HBc.out.2.2.2.2 k hk hg)⟩); clear h1 h2)
      first | go_end0 | (refine bodyPost_ret (results_none rfl _ _ _) rfl ?_)
      exact ⟨rfl, HRF.out, HBF.out⟩
    case neg =>
      have hne : ((i : Int) != (j : Int)) = true := bne_iff_ne.2 (by omega)
      by_cases hlt : j < i
      case pos =>
        have HS := Aside0.mk (swapR_calls fv g cap N B (m - i) m j cur wA ok HRc.out (by omega) (by omega))
        rw [← Q3.out] at HS
        have h := HT.out
        rw [rotG, if_neg he, if_pos hlt] at h
        have HT2 := Aside0.mk h
        clear h he
        have hgt : (j : Int) < (i : Int) := by omega
        have q4 : (i : Int) - (j : Int) = ((i - j : Nat) : Int) := by omega
        have Q4 := Aside0.mk q4
        clear q4
        go_wp2_with (go_at_call 147; refine HS.out.mono ?_; rintro e w2 ⟨rfl, h1, h2⟩; have HRF := Aside0.mk h1; have HBF := Aside0.mk (show ButG w w2 g from ⟨h2.1.trans HBc.out.1, h2.2.1.trans HBc.out.2.1, h2.2.2.1.trans HBc.out.2.2.1, Nat.le_trans HBc.out.2.2.2.1 h2.2.2.2.1, fun k hk hg => (h2.2.2.2.2 k (Nat.lt_of_lt_of_le hk HBc.out.2.2.2.1) hg).trans (HBc.out.2.2.2.2 k hk hg)⟩); clear h1 h2)
        go_roundg (i - j + j)
        case measure => omega
        case rel => exact ⟨i - j, j, f, swR j (m - i) m cur, by omega, by omega, by omega, by omega, by omega, by omega, by first | rfl | (rw [← Q4.out]) | (rw [← Q4.out, w64 (by omega) (by omega)]), rfl, HT2, HRF, HBF⟩
      case neg =>
        have HS := Aside0.mk (swapR_calls fv g cap N B (m - i) (m + j - i) i cur wA ok HRc.out (by omega) (by omega))
        have q5 : (m : Int) + (j : Int) - (i : Int) = ((m + j - i : Nat) : Int) := by omega
        rw [← Q3.out, ← q5] at HS
        clear q5
        have h := HT.out
        rw [rotG, if_neg he, if_neg hlt] at h
        have HT2 := Aside0.mk h
        clear h
        have hgt : ¬ (j : Int) < (i : Int) := by omega
        have q4 : (j : Int) - (i : Int) = ((j - i : Nat) : Int) := by omega
        have Q4 := Aside0.mk q4
        clear q4
        go_wp2_with (go_at_call 147; refine HS.out.mono ?_; rintro e w2 ⟨rfl, h1, h2⟩; have HRF := Aside0.mk h1; have HBF := Aside0.mk (show ButG w w2 g from ⟨h2.1.trans HBc.out.1, h2.2.1.trans HBc.out.2.1, h2.2.2.1.trans HBc.out.2.2.1, Nat.le_trans HBc.out.2.2.2.1 h2.2.2.2.1, fun k hk hg => (h2.2.2.2.2 k (Nat.lt_of_lt_of_le hk HBc.out.2.2.2.1) hg).trans (HBc.out.2.2.2.2 k hk hg)⟩); clear h1 h2)
        go_roundg (i + (j - i))
        case measure => omega
        case rel => exact ⟨i, j - i, f, swR i (m - i) (m + j - i) cur, by omega, by omega, by omega, by omega, by omega, by omega, rfl, by first | rfl | (rw [← Q4.out]) | (rw [← Q4.out, w64 (by omega) (by omega)]), HT2, HRF, HBF⟩
theorem ButG.trans {A B C : World} {g : Nat} (h : ButG A B g) (k : ButG B C g) : ButG A C g :=
  ⟨k.1.trans h.1, k.2.1.trans h.2.1, k.2.2.1.trans h.2.2.1, Nat.le_trans h.2.2.2.1 k.2.2.2.1, fun i hi hg => (k.2.2.2.2 i (Nat.lt_of_lt_of_le hi h.2.2.2.1) hg).trans (h.2.2.2.2 i hi hg)⟩
theorem CmpB.later {P : Program} {gf : Nat} {lb : Array Value} {lt : Int → Int → Bool} {p : Int → Prop} {g : Nat} {w w2 : World} (h : CmpB P gf lb lt p g w) (hb : ButG w w2 g) : CmpB P gf lb lt p g w2 :=
  fun W x y hx hy hW => h W x y hx hy (hb.trans hW)
set_option maxHeartbeats 8000000 in
set_option maxRecDepth 100000 in
theorem symM_one_calls (gf : Nat) (lb : Array Value) (lt : Int → Int → Bool) (p : Int → Prop) (g cap N B : Nat) (ok : Nat → Prop) (eg : ∀ args w, (callFunc gf args).run Try.prog w = .ok (.enter gf args) w) (hN : N ≤ 1000) (f a m b : Nat) (xs : List Int) (w : World)
    (h1 : m - a = 1) (ham : a < m) (hmb : m < b) (hbn : b ≤ N) (hR : Kd.R (Kd.int .i64) 3 w B ok (.slice (some ⟨g, 0, none⟩) N cap) xs) (hp : ∀ x ∈ xs, p x) (hc : CmpB Try.prog gf lb lt p g w) :
    Calls Try.prog 137 #[.slice (some ⟨g, 0, none⟩) N cap, .int .i64 (a : Int), .int .i64 (m : Int), .int .i64 (b : Int), .func (.func gf) #[] lb] w fun e w' => e = .returned (.tuple #[]) ∧ Kd.R (Kd.int .i64) 3 w' B ok (.slice (some ⟨g, 0, none⟩) N cap) (symM lt (f + 1) a m b xs) ∧ ButG w w' g := by
  obtain ⟨hn, hcap, hC⟩ := Kd.R_reads' hR
  have HR := Aside0.mk hR
  have HP := Aside0.mk hp
  have HC := Aside0.mk hc
  have HNN := Aside0.mk hn
  clear hR hp hc hn hC hcap
  have hma : ((m : Int) - (a : Int) == 1) = true := by rw [beq_iff_eq]; omega
  have HQ := Aside0.mk (show symM lt (f + 1) a m b xs = upN (bsI (fun h => lt (xs.getD h 0) (xs.getD a 0)) (b - m) m b - 1 - a) a xs from by rw [symM, if_pos h1])
  have ha2 : (a : Int) < (N : Int) := by omega
  obtain ⟨x, hx⟩ : ∃ x, x = xs.getD a 0 := ⟨_, rfl⟩
  have HX := Aside0.mk hx
  clear hx h1
  go_enter Try.func137, Try.ntmps137
  go_wp2
  go_loopg [10, 11, 12] (b - m) (fun gg s10 s11 s12 W => ∃ (i j ff : Nat), m ≤ i ∧ i ≤ j ∧ j ≤ b ∧ j - i ≤ gg ∧ s10 = .int .i64 i ∧ s11 = .int .i64 j ∧ Aside0 (j - i ≤ ff) ∧ Aside0 (bsI (fun h => lt (xs.getD h 0) (xs.getD a 0)) ff i j = bsI (fun h => lt (xs.getD h 0) (xs.getD a 0)) (b - m) m b) ∧ Aside0 (Below w.heap.size w W))
  case atStart => exact ⟨m, b, b - m, by omega, by omega, by omega, by omega, rfl, rfl, ⟨Nat.le_refl _⟩, ⟨rfl⟩, ⟨Below.refl _ _⟩⟩
  case round =>
    obtain ⟨i, j, ff, hi, hij, hj, hgg, rfl, rfl, HFF, HT, HB⟩ := hrel
    by_cases hlt : i < j
    case pos =>
      obtain ⟨ff, rfl⟩ : ∃ q, ff = q + 1 := ⟨ff - 1, by have := HFF.out; omega⟩
      obtain ⟨h, hh⟩ : ∃ h, h = (i + j) / 2 := ⟨_, rfl⟩
      have hq : ((i : Int) + (j : Int)) / 2 = (h : Int) := by omega
      have hi2 : i ≤ h := by omega
      have hj2 : h < j := by omega
      have hT := HT.out
      rw [bsI, if_pos hlt, ← hh] at hT
      have HT2 := Aside0.mk hT
      clear hh hT HT
      have hlt2 : (i : Int) < (j : Int) := by omega
      obtain ⟨hx1, _⟩ := Kd.R_celln 0 (Kd.R_below HR.out HB.out) (h : Int) (by omega) (by omega)
      obtain ⟨hx0, _⟩ := Kd.R_celln 0 (Kd.R_below HR.out HB.out) (a : Int) (by omega) (by omega)
      rw [Int.toNat_natCast] at hx0 hx1
      rw [show rdOf 0 xs (h : Int) = xs.getD h 0 from rfl] at hx1
      rw [show rdOf 0 xs (a : Int) = xs.getD a 0 from rfl, ← HX.out] at hx0
      obtain ⟨y, hy⟩ : ∃ y, y = xs.getD h 0 := ⟨_, rfl⟩
      rw [← hy] at hx1
      have hpy : p y := HP.out y (by rw [hy, List.getD_eq_getElem?_getD, List.getElem?_eq_getElem (by have := HNN.out; omega)]; exact List.getElem_mem _)
      have hpx : p x := HP.out x (by rw [HX.out, List.getD_eq_getElem?_getD, List.getElem?_eq_getElem (by have := HNN.out; omega)]; exact List.getElem_mem _)
      have HPP := Aside0.mk (And.intro hpy hpx)
      have HY := Aside0.mk hy
      have hhN : (h : Int) < (N : Int) := by omega
      clear hy hpy hpx
      obtain ⟨wC, hwC⟩ : ∃ wC, wC = wr := ⟨_, rfl⟩
      subst hwC
      go_upto_region 5 with fail
      clear hq
      go_region_held3 (fun w' => w'.cell? ⟨g, h, none⟩ = some (.int .i64 y) ∧ w'.cell? ⟨g, a, none⟩ = some (.int .i64 x) ∧ Below wC.heap.size wC w')
        ((refine keep2 hx1 hx0 ?_; repeat (first | assumption | exact Below.refl _ _ | apply pw_below_drewN | apply below_drew | apply below_alloc | (apply And.right; apply And.right; assumption) | refine below_step ?_ (by assumption))))
        (first | (go_at_fn gf; refine (HC.out _ y x HPP.out.1 HPP.out.2 ((ButG.refl w g).below (below_step HB.out (by (apply And.right; apply And.right; assumption))))).mono ?_; rintro e w3 ⟨c, rfl, hcd, hb4⟩))
      have hBw : Below wC.heap.size wC w3 := by
        apply And.right
        apply And.right
        assumption
      have HBw := Aside0.mk (below_step HB.out hBw)
      clear hBw hx0 hx1
      cases hl : lt y x
      case true =>
        have hc0 : c < 0 := by rw [hl] at hcd; exact of_decide_eq_true hcd
        have HL := Aside0.mk hl
        clear hcd hl
        go_wp2
        go_roundg (j - (h + 1))
        case measure => omega
        case rel => exact ⟨h + 1, j, ff, by omega, by omega, by omega, by omega, by first | rfl | go_num | (rw [w64 (by omega) (by omega)]; go_num), rfl, ⟨by have := HFF.out; omega⟩, ⟨by have h3 := HT2.out; rw [if_pos (by show lt (xs.getD h 0) (xs.getD a 0) = true; rw [← HY.out, ← HX.out]; exact HL.out)] at h3; exact h3⟩, ⟨below_weaken (Below.refl _ _) (Nat.le_refl _) (by repeat (first | exact HBw.out | apply below_drew | apply pw_below_drewN))⟩⟩
      case false =>
        have hc0 : ¬ c < 0 := by rw [hl] at hcd; exact of_decide_eq_false hcd
        have HL := Aside0.mk hl
        clear hcd hl
        go_wp2
        go_roundg (h - i)
        case measure => omega
        case rel => exact ⟨i, h, ff, by omega, by omega, by omega, by omega, rfl, rfl, ⟨by have := HFF.out; omega⟩, ⟨by have h3 := HT2.out; rw [if_neg (by show ¬ lt (xs.getD h 0) (xs.getD a 0) = true; rw [← HY.out, ← HX.out, HL.out]; decide)] at h3; exact h3⟩, ⟨below_weaken (Below.refl _ _) (Nat.le_refl _) (by repeat (first | exact HBw.out | apply below_drew | apply pw_below_drewN))⟩⟩
    case neg =>
      obtain rfl : i = j := by omega
      have hT := HT.out
      have hbs : bsI (fun h => lt (xs.getD h 0) (xs.getD a 0)) ff i i = i := by
        cases ff with
        | zero => rfl
        | succ q => rw [bsI, if_neg (Nat.lt_irrefl _)]
      rw [hbs] at hT
      have hq := HQ.out
      rw [← hT] at hq
      have HQ2 := Aside0.mk hq
      clear hT hbs hq HT HQ HFF
      have hm2 : m = a + 1 := by have := beq_iff_eq.1 hma; omega
      obtain ⟨wC, hwC⟩ : ∃ wC, wC = wr := ⟨_, rfl⟩
      subst hwC
      have HRC := Aside0.mk (Kd.R_below HR.out HB.out)
      have HBC := Aside0.mk ((ButG.refl w g).below HB.out)
      have HM2 := Aside0.mk hm2
      clear hm2
      go_wp2
      go_loopg [13] (i - 1 - a) (fun gg s13 W => ∃ (k : Nat) (cur : List Int), a ≤ k ∧ k ≤ i - 1 ∧ i - 1 - k ≤ gg ∧ s13 = .int .i64 k ∧ Aside0 (upN (i - 1 - k) k cur = upN (i - 1 - a) a xs) ∧ Aside0 (cur.length = N) ∧ Aside0 (Kd.R (Kd.int .i64) 3 W B ok (.slice (some ⟨g, 0, none⟩) N cap) cur) ∧ Aside0 (ButG w W g))
      case atStart => exact ⟨a, xs, by omega, by omega, by omega, rfl, ⟨rfl⟩, ⟨HNN.out.symm⟩, HRC, HBC⟩
      case round =>
        obtain ⟨k, cur, hk, hki, hg2, rfl, HT, HL, HRc, HBc⟩ := hrel
        by_cases hkl : k < i - 1
        case pos =>
          have hkl2 : (k : Int) < (i : Int) - 1 := by omega
          obtain ⟨hxa, hfa⟩ := Kd.R_celln 0 HRc.out ((k : Nat) : Int) (by omega) (by omega)
          obtain ⟨hxb, hfb⟩ := Kd.R_celln 0 HRc.out ((k + 1 : Nat) : Int) (by omega) (by omega)
          rw [Int.toNat_natCast] at hxa hfa hxb hfb
          rw [show rdOf 0 cur ((k : Nat) : Int) = cur.getD k 0 from rfl] at hxa
          rw [show rdOf 0 cur ((k + 1 : Nat) : Int) = cur.getD (k + 1) 0 from rfl] at hxb
          have h1 : (k : Int) + 1 < (N : Int) := by omega
          have h2 : (k : Int) < (N : Int) := by omega
          have hRn := Kd.R_putn (Kd.R_putn HRc.out ((k : Nat) : Int) (cur.getD (k + 1) 0)) ((k + 1 : Nat) : Int) (cur.getD k 0)
          rw [Int.toNat_natCast, Int.toNat_natCast] at hRn
          have hsw : (cur.set k (cur.getD (k + 1) 0)).set (k + 1) (cur.getD k 0) = swap2 cur k := by
            unfold swap2
            exact List.set_comm _ _ (by omega)
          rw [hsw] at hRn
          have HRn := Aside0.mk hRn
          have HBn := Aside0.mk ((HBc.out.set k (.int .i64 (cur.getD (k + 1) 0))).set (k + 1) (.int .i64 (cur.getD k 0)))
          have HTn := Aside0.mk (show upN (i - 1 - (k + 1)) (k + 1) (swap2 cur k) = upN (i - 1 - a) a xs from by
            have h := HT.out
            rw [show i - 1 - k = (i - 1 - (k + 1)) + 1 by omega] at h
            exact h)
          clear hRn hsw
          generalize cur.getD k 0 = u at *
          generalize cur.getD (k + 1) 0 = v at *
          go_upto_region 11 with fail
          go_region
          all_goals go_wp2
          go_roundg (i - 1 - (k + 1))
          case measure => omega
          case rel => exact ⟨k + 1, swap2 cur k, by omega, by omega, by omega, by first | rfl | go_num, HTn, ⟨(swap2_len _ _).trans HL.out⟩, ⟨Kd.R_drew HRn.out⟩, ⟨HBn.out.below (below_drew (Below.refl _ _))⟩⟩
        case neg =>
          have hkl2 : ¬ (k : Int) < (i : Int) - 1 := by omega
          obtain rfl : k = i - 1 := by omega
          have h := HT.out
          rw [Nat.sub_self] at h
          have HRF := Aside0.mk (show Kd.R (Kd.int .i64) 3 _ B ok (.slice (some ⟨g, 0, none⟩) N cap) (symM lt (f + 1) a m b xs) from by rw [HQ2.out, ← h]; exact HRc.out)
          clear h
          go_wp2
          first | go_end0 | (refine bodyPost_ret (results_none rfl _ _ _) rfl ?_)
          exact ⟨rfl, HRF.out, HBc.out⟩
set_option maxHeartbeats 8000000 in
set_option maxRecDepth 100000 in
theorem symM_last_calls (gf : Nat) (lb : Array Value) (lt : Int → Int → Bool) (p : Int → Prop) (g cap N B : Nat) (ok : Nat → Prop) (eg : ∀ args w, (callFunc gf args).run Try.prog w = .ok (.enter gf args) w) (hN : N ≤ 1000) (f a m b : Nat) (xs : List Int) (w : World)
    (h0 : ¬ m - a = 1) (h1 : b - m = 1) (ham : a < m) (hmb : m < b) (hbn : b ≤ N) (hR : Kd.R (Kd.int .i64) 3 w B ok (.slice (some ⟨g, 0, none⟩) N cap) xs) (hp : ∀ x ∈ xs, p x) (hc : CmpB Try.prog gf lb lt p g w) :
    Calls Try.prog 137 #[.slice (some ⟨g, 0, none⟩) N cap, .int .i64 (a : Int), .int .i64 (m : Int), .int .i64 (b : Int), .func (.func gf) #[] lb] w fun e w' => e = .returned (.tuple #[]) ∧ Kd.R (Kd.int .i64) 3 w' B ok (.slice (some ⟨g, 0, none⟩) N cap) (symM lt (f + 1) a m b xs) ∧ ButG w w' g := by
  obtain ⟨hn, hcap, hC⟩ := Kd.R_reads' hR
  have HR := Aside0.mk hR
  have HP := Aside0.mk hp
  have HC := Aside0.mk hc
  have HNN := Aside0.mk hn
  clear hR hp hc hn hC hcap
  have hma : ((m : Int) - (a : Int) == 1) = false := by rw [beq_eq_false_iff_ne]; omega
  have hmb1 : ((b : Int) - (m : Int) == 1) = true := by rw [beq_iff_eq]; omega
  have HQ := Aside0.mk (show symM lt (f + 1) a m b xs = dnN (m - bsI (fun h => !(lt (xs.getD m 0) (xs.getD h 0))) (m - a) a m) m xs from by rw [symM, if_neg h0, if_pos h1])
  have ha2 : (m : Int) < (N : Int) := by omega
  obtain ⟨x, hx⟩ : ∃ x, x = xs.getD m 0 := ⟨_, rfl⟩
  have HX := Aside0.mk hx
  clear hx h0 h1
  go_enter Try.func137, Try.ntmps137
  go_wp2
  go_loopg [14, 15, 16] (m - a) (fun gg s10 s11 s12 W => ∃ (i j ff : Nat), a ≤ i ∧ i ≤ j ∧ j ≤ m ∧ j - i ≤ gg ∧ s10 = .int .i64 i ∧ s11 = .int .i64 j ∧ Aside0 (j - i ≤ ff) ∧ Aside0 (bsI (fun h => !(lt (xs.getD m 0) (xs.getD h 0))) ff i j = bsI (fun h => !(lt (xs.getD m 0) (xs.getD h 0))) (m - a) a m) ∧ Aside0 (Below w.heap.size w W))
  case atStart => exact ⟨a, m, m - a, by omega, by omega, by omega, by omega, rfl, rfl, ⟨Nat.le_refl _⟩, ⟨rfl⟩, ⟨Below.refl _ _⟩⟩
  case round =>
    obtain ⟨i, j, ff, hi, hij, hj, hgg, rfl, rfl, HFF, HT, HB⟩ := hrel
    by_cases hlt : i < j
    case pos =>
      obtain ⟨ff, rfl⟩ : ∃ q, ff = q + 1 := ⟨ff - 1, by have := HFF.out; omega⟩
      obtain ⟨h, hh⟩ : ∃ h, h = (i + j) / 2 := ⟨_, rfl⟩
      have hq : ((i : Int) + (j : Int)) / 2 = (h : Int) := by omega
      have hi2 : i ≤ h := by omega
      have hj2 : h < j := by omega
      have hT := HT.out
      rw [bsI, if_pos hlt, ← hh] at hT
      have HT2 := Aside0.mk hT
      clear hh hT HT
      have hlt2 : (i : Int) < (j : Int) := by omega
      obtain ⟨hx1, _⟩ := Kd.R_celln 0 (Kd.R_below HR.out HB.out) (h : Int) (by omega) (by omega)
      obtain ⟨hx0, _⟩ := Kd.R_celln 0 (Kd.R_below HR.out HB.out) (m : Int) (by omega) (by omega)
      rw [Int.toNat_natCast] at hx0 hx1
      rw [show rdOf 0 xs (h : Int) = xs.getD h 0 from rfl] at hx1
      rw [show rdOf 0 xs (m : Int) = xs.getD m 0 from rfl, ← HX.out] at hx0
      obtain ⟨y, hy⟩ : ∃ y, y = xs.getD h 0 := ⟨_, rfl⟩
      rw [← hy] at hx1
      have hpy : p y := HP.out y (by rw [hy, List.getD_eq_getElem?_getD, List.getElem?_eq_getElem (by have := HNN.out; omega)]; exact List.getElem_mem _)
      have hpx : p x := HP.out x (by rw [HX.out, List.getD_eq_getElem?_getD, List.getElem?_eq_getElem (by have := HNN.out; omega)]; exact List.getElem_mem _)
      have HPP := Aside0.mk (And.intro hpy hpx)
      have HY := Aside0.mk hy
      have hhN : (h : Int) < (N : Int) := by omega
      clear hy hpy hpx
      obtain ⟨wC, hwC⟩ : ∃ wC, wC = wr := ⟨_, rfl⟩
      subst hwC
      go_upto_region 17 with fail
      clear hq
      go_region_held3 (fun w' => w'.cell? ⟨g, h, none⟩ = some (.int .i64 y) ∧ w'.cell? ⟨g, m, none⟩ = some (.int .i64 x) ∧ Below wC.heap.size wC w')
        ((refine keep2 hx1 hx0 ?_; repeat (first | assumption | exact Below.refl _ _ | apply pw_below_drewN | apply below_drew | apply below_alloc | (apply And.right; apply And.right; assumption) | refine below_step ?_ (by assumption))))
        (first | (go_at_fn gf; refine (HC.out _ x y HPP.out.2 HPP.out.1 ((ButG.refl w g).below (below_step HB.out (by (apply And.right; apply And.right; assumption))))).mono ?_; rintro e w3 ⟨c, rfl, hcd, hb4⟩))
      have hBw : Below wC.heap.size wC w3 := by
        apply And.right
        apply And.right
        assumption
      have HBw := Aside0.mk (below_step HB.out hBw)
      clear hBw hx0 hx1
      cases hl : lt x y
      case true =>
        have hc0 : c < 0 := by rw [hl] at hcd; exact of_decide_eq_true hcd
        have HL := Aside0.mk hl
        clear hcd hl
        go_wp2
        go_roundg (h - i)
        case measure => omega
        case rel => exact ⟨i, h, ff, by omega, by omega, by omega, by omega, rfl, rfl, ⟨by have := HFF.out; omega⟩, ⟨by have h3 := HT2.out; rw [if_neg (by show ¬ (!(lt (xs.getD m 0) (xs.getD h 0))) = true; rw [← HY.out, ← HX.out, HL.out]; decide)] at h3; exact h3⟩, ⟨below_weaken (Below.refl _ _) (Nat.le_refl _) (by repeat (first | exact HBw.out | apply below_drew | apply pw_below_drewN))⟩⟩
      case false =>
        have hc0 : ¬ c < 0 := by rw [hl] at hcd; exact of_decide_eq_false hcd
        have HL := Aside0.mk hl
        clear hcd hl
        go_wp2
        go_roundg (j - (h + 1))
        case measure => omega
        case rel => exact ⟨h + 1, j, ff, by omega, by omega, by omega, by omega, by first | rfl | go_num | (rw [w64 (by omega) (by omega)]; go_num), rfl, ⟨by have := HFF.out; omega⟩, ⟨by have h3 := HT2.out; rw [if_pos (by show (!(lt (xs.getD m 0) (xs.getD h 0))) = true; rw [← HY.out, ← HX.out, HL.out]; rfl)] at h3; exact h3⟩, ⟨below_weaken (Below.refl _ _) (Nat.le_refl _) (by repeat (first | exact HBw.out | apply below_drew | apply pw_below_drewN))⟩⟩
    case neg =>
      obtain rfl : i = j := by omega
      have hT := HT.out
      have hbs : bsI (fun h => !(lt (xs.getD m 0) (xs.getD h 0))) ff i i = i := by
        cases ff with
        | zero => rfl
        | succ q => rw [bsI, if_neg (Nat.lt_irrefl _)]
      rw [hbs] at hT
      have hq := HQ.out
      rw [← hT] at hq
      have HQ2 := Aside0.mk hq
      clear hT hbs hq HT HQ HFF
      obtain ⟨wC, hwC⟩ : ∃ wC, wC = wr := ⟨_, rfl⟩
      subst hwC
      have HRC := Aside0.mk (Kd.R_below HR.out HB.out)
      have HBC := Aside0.mk ((ButG.refl w g).below HB.out)
      go_wp2
      go_loopg [17] (m - i) (fun gg s13 W => ∃ (k : Nat) (cur : List Int), i ≤ k ∧ k ≤ m ∧ k - i ≤ gg ∧ s13 = .int .i64 k ∧ Aside0 (dnN (k - i) k cur = dnN (m - i) m xs) ∧ Aside0 (cur.length = N) ∧ Aside0 (Kd.R (Kd.int .i64) 3 W B ok (.slice (some ⟨g, 0, none⟩) N cap) cur) ∧ Aside0 (ButG w W g))
      case atStart => exact ⟨m, xs, by omega, by omega, by omega, rfl, ⟨rfl⟩, ⟨HNN.out.symm⟩, HRC, HBC⟩
      case round =>
        obtain ⟨k, cur, hk, hki, hg2, rfl, HT, HL, HRc, HBc⟩ := hrel
        by_cases hkl : i < k
        case pos =>
          obtain ⟨q, rfl⟩ : ∃ q, k = q + 1 := ⟨k - 1, by omega⟩
          have hkl2 : (i : Int) < (q : Int) + 1 := by omega
          obtain ⟨hxb, hfb⟩ := Kd.R_celln 0 HRc.out ((q : Nat) : Int) (by omega) (by omega)
          obtain ⟨hxa, hfa⟩ := Kd.R_celln 0 HRc.out ((q + 1 : Nat) : Int) (by omega) (by omega)
          rw [Int.toNat_natCast] at hxa hfa hxb hfb
          rw [show rdOf 0 cur ((q : Nat) : Int) = cur.getD q 0 from rfl] at hxb
          rw [show rdOf 0 cur ((q + 1 : Nat) : Int) = cur.getD (q + 1) 0 from rfl] at hxa
          have hRn := Kd.R_putn (Kd.R_putn HRc.out ((q + 1 : Nat) : Int) (cur.getD q 0)) ((q : Nat) : Int) (cur.getD (q + 1) 0)
          rw [Int.toNat_natCast, Int.toNat_natCast] at hRn
          have HRn := Aside0.mk (show Kd.R (Kd.int .i64) 3 _ B ok (.slice (some ⟨g, 0, none⟩) N cap) (swap2 cur q) from hRn)
          have HBn := Aside0.mk ((HBc.out.set (q + 1) (.int .i64 (cur.getD q 0))).set q (.int .i64 (cur.getD (q + 1) 0)))
          have HTn := Aside0.mk (show dnN (q - i) q (swap2 cur q) = dnN (m - i) m xs from by
            have h := HT.out
            rw [show q + 1 - i = (q - i) + 1 by omega, dnN] at h
            exact h)
          have HKI := Aside0.mk (And.intro hk hki)
          have h1 : (q : Int) + 1 < (N : Int) := by omega
          have h2 : (q : Int) < (N : Int) := by omega
          have hk1 : (0 : Int) ≤ (q : Int) + 1 := by omega
          have hk0 : (0 : Int) ≤ (q : Int) := by omega
          have hk2 : IntKind.i64.wrap ((q : Int) + 1 - 1) = (q : Int) := by rw [i64_w, w64 (by omega) (by omega)]; omega
          have hk5 : IntKind.i64.wrap (q : Int) = (q : Int) := by rw [i64_w, w64 (by omega) (by omega)]
          have hk6 : wrap64 (q : Int) = (q : Int) := by rw [w64 (by omega) (by omega)]
          clear hRn hk hki
          generalize cur.getD (q + 1) 0 = u at *
          generalize cur.getD q 0 = v at *
          simp only [Int.natCast_add, Int.natCast_one]
          go_upto_region 23 with fail
          go_region
          all_goals go_wp2
          all_goals clear hk2 hk5 hk6
          go_roundg (q - i)
          case measure => omega
          case rel => exact ⟨q, swap2 cur q, by omega, by have := HKI.out; omega, by omega, by first | rfl | go_num, HTn, ⟨(swap2_len _ _).trans HL.out⟩, ⟨Kd.R_drew HRn.out⟩, ⟨HBn.out.below (below_drew (Below.refl _ _))⟩⟩
        case neg =>
          have hkl2 : ¬ (i : Int) < (k : Int) := by omega
          obtain rfl : k = i := by omega
          have h := HT.out
          rw [Nat.sub_self] at h
          have HRF := Aside0.mk (show Kd.R (Kd.int .i64) 3 _ B ok (.slice (some ⟨g, 0, none⟩) N cap) (symM lt (f + 1) a m b xs) from by rw [HQ2.out, ← h]; exact HRc.out)
          clear h
          go_wp2
          first | go_end0 | (refine bodyPost_ret (results_none rfl _ _ _) rfl ?_)
          exact ⟨rfl, HRF.out, HBc.out⟩
theorem swapAt_all {p : Int → Prop} {xs : List Int} {a b : Nat} (ha : a < xs.length) (hb : b < xs.length) (h : ∀ x ∈ xs, p x) : ∀ x ∈ swapAt xs a b, p x := by
  have g : ∀ k, k < xs.length → p (xs.getD k 0) := fun k hk => h _ (by rw [List.getD_eq_getElem?_getD, List.getElem?_eq_getElem hk]; exact List.getElem_mem hk)
  intro x hx
  unfold swapAt at hx
  rcases List.mem_or_eq_of_mem_set hx with hx | rfl
  · rcases List.mem_or_eq_of_mem_set hx with hx | rfl
    · exact h x hx
    · exact g b hb
  · exact g a ha
theorem swR_all {p : Int → Prop} : ∀ (n a b : Nat) (xs : List Int), a + n ≤ xs.length → b + n ≤ xs.length → (∀ x ∈ xs, p x) → ∀ x ∈ swR n a b xs, p x
  | 0, _, _, _, _, _, h => h
  | n + 1, a, b, xs, ha, hb, h => by
    unfold swR
    exact swR_all n _ _ _ (by rw [swapAt_len]; omega) (by rw [swapAt_len]; omega) (swapAt_all (by omega) (by omega) h)
theorem rotG_all {p : Int → Prop} (m : Nat) : ∀ (f i j : Nat) (xs : List Int), i ≤ m → m + j ≤ xs.length → (∀ x ∈ xs, p x) → ∀ x ∈ rotG m f i j xs, p x
  | 0, _, _, _, _, _, h => h
  | f + 1, i, j, xs, hi, hj, h => by
    unfold rotG
    by_cases he : i = j
    · rw [if_pos he]; exact swR_all _ _ _ _ (by omega) (by omega) h
    · rw [if_neg he]
      by_cases hlt : j < i
      · rw [if_pos hlt]
        exact rotG_all m f _ _ _ (by omega) (by rw [swR_len]; omega) (swR_all _ _ _ _ (by omega) (by omega) h)
      · rw [if_neg hlt]
        exact rotG_all m f _ _ _ (by omega) (by rw [swR_len]; omega) (swR_all _ _ _ _ (by omega) (by omega) h)
theorem upN_all {p : Int → Prop} : ∀ (n k : Nat) (xs : List Int), k + n < xs.length ∨ n = 0 → (∀ x ∈ xs, p x) → ∀ x ∈ upN n k xs, p x
  | 0, _, _, _, h => h
  | n + 1, k, xs, hk, h => by
    unfold upN
    exact upN_all n _ _ (by rw [swap2_len]; omega) (swap2_all (by omega) h)
theorem dnN_all {p : Int → Prop} : ∀ (n k : Nat) (xs : List Int), n ≤ k → k < xs.length → (∀ x ∈ xs, p x) → ∀ x ∈ dnN n k xs, p x
  | 0, _, _, _, _, h => h
  | n + 1, k, xs, hk, hl, h => by
    unfold dnN
    exact dnN_all n _ _ (by omega) (by rw [swap2_len]; omega) (swap2_all (by omega) h)
theorem bsI_bd (p : Nat → Bool) : ∀ (f i j : Nat), i ≤ j → i ≤ bsI p f i j ∧ bsI p f i j ≤ j
  | 0, i, j, h => ⟨Nat.le_refl _, h⟩
  | f + 1, i, j, h => by
    unfold bsI
    by_cases hlt : i < j
    · rw [if_pos hlt]
      by_cases hp : p ((i + j) / 2) = true
      · rw [if_pos hp]; have := bsI_bd p f ((i + j) / 2 + 1) j (by omega); omega
      · rw [if_neg hp]; have := bsI_bd p f i ((i + j) / 2) (by omega); omega
    · rw [if_neg hlt]; omega
set_option maxHeartbeats 8000000 in
set_option maxRecDepth 100000 in
theorem symM_mid_calls (gf : Nat) (lb : Array Value) (lt : Int → Int → Bool) (p : Int → Prop) (g cap N B : Nat) (ok : Nat → Prop) (eg : ∀ args w, (callFunc gf args).run Try.prog w = .ok (.enter gf args) w) (hN : N ≤ 1000) (f a m b : Nat) (xs : List Int) (w : World)
    (h0 : ¬ m - a = 1) (h1 : ¬ b - m = 1) (ham : a < m) (hmb : m < b) (hbn : b ≤ N) (hR : Kd.R (Kd.int .i64) 3 w B ok (.slice (some ⟨g, 0, none⟩) N cap) xs) (hp : ∀ x ∈ xs, p x) (hc : CmpB Try.prog gf lb lt p g w)
    (ih : ∀ (a m b : Nat) (xs : List Int) (w2 : World), b - a ≤ f → a < m → m < b → b ≤ N → Kd.R (Kd.int .i64) 3 w2 B ok (.slice (some ⟨g, 0, none⟩) N cap) xs → (∀ x ∈ xs, p x) → ButG w w2 g →
      Calls Try.prog 137 #[.slice (some ⟨g, 0, none⟩) N cap, .int .i64 (a : Int), .int .i64 (m : Int), .int .i64 (b : Int), .func (.func gf) #[] lb] w2 fun e w' => e = .returned (.tuple #[]) ∧ Kd.R (Kd.int .i64) 3 w' B ok (.slice (some ⟨g, 0, none⟩) N cap) (symM lt f a m b xs) ∧ ButG w2 w' g ∧ ∀ x ∈ symM lt f a m b xs, p x)
    (hf : b - a ≤ f + 1) :
    Calls Try.prog 137 #[.slice (some ⟨g, 0, none⟩) N cap, .int .i64 (a : Int), .int .i64 (m : Int), .int .i64 (b : Int), .func (.func gf) #[] lb] w fun e w' => e = .returned (.tuple #[]) ∧ Kd.R (Kd.int .i64) 3 w' B ok (.slice (some ⟨g, 0, none⟩) N cap) (symM lt (f + 1) a m b xs) ∧ ButG w w' g ∧ ∀ x ∈ symM lt (f + 1) a m b xs, p x := by
  obtain ⟨hn, hcap, hC⟩ := Kd.R_reads' hR
  have HR := Aside0.mk hR
  have HP := Aside0.mk hp
  have HC := Aside0.mk hc
  have HNN := Aside0.mk hn
  have IH := Aside0.mk ih
  clear hR hp hc hn hC hcap ih
  have hma : ((m : Int) - (a : Int) == 1) = false := by rw [beq_eq_false_iff_ne]; omega
  have hmb1 : ((b : Int) - (m : Int) == 1) = false := by rw [beq_eq_false_iff_ne]; omega
  obtain ⟨mid, hmid⟩ : ∃ mid, mid = (a + b) / 2 := ⟨_, rfl⟩
  obtain ⟨n, hnd⟩ : ∃ n, n = mid + m := ⟨_, rfl⟩
  obtain ⟨s0, hs0⟩ : ∃ s0, s0 = if mid < m then n - b else a := ⟨_, rfl⟩
  obtain ⟨r0, hr0⟩ : ∃ r0, r0 = if mid < m then mid else m := ⟨_, rfl⟩
  obtain ⟨st, hst⟩ : ∃ st, st = bsI (fun c => !(lt (xs.getD (n - 1 - c) 0) (xs.getD c 0))) (r0 - s0) s0 r0 := ⟨_, rfl⟩
  obtain ⟨x1, hx1⟩ : ∃ x1, x1 = if st < m ∧ m < n - st then rotA st m (n - st) xs else xs := ⟨_, rfl⟩
  obtain ⟨x2, hx2⟩ : ∃ x2, x2 = if a < st ∧ st < mid then symM lt f a st mid x1 else x1 := ⟨_, rfl⟩
  obtain ⟨x3, hx3⟩ : ∃ x3, x3 = if mid < n - st ∧ n - st < b then symM lt f mid (n - st) b x2 else x2 := ⟨_, rfl⟩
  have hfin : symM lt (f + 1) a m b xs = x3 := by
    rw [symM, if_neg h0, if_neg h1]
    dsimp only
    rw [← hmid, ← hnd, ← hs0, ← hr0, ← hst, ← hx1, ← hx2, ← hx3]
  rw [hfin]
  have hb0 : a ≤ s0 ∧ s0 ≤ r0 ∧ r0 ≤ m ∧ n - s0 ≤ b ∧ m ≤ n - r0 ∧ s0 ≤ n ∧ r0 ≤ mid := by
    by_cases h : mid < m
    · rw [if_pos h] at hs0 hr0; omega
    · rw [if_neg h] at hs0 hr0; omega
  obtain ⟨b1, b2, b3, b4, b5, b6, b7⟩ := hb0
  have hsb : s0 ≤ st ∧ st ≤ r0 := by rw [hst]; exact bsI_bd _ _ _ _ b2
  have HSB := Aside0.mk hsb
  have HS0 := Aside0.mk hs0
  have HR0 := Aside0.mk hr0
  have HST := Aside0.mk hst
  have HX1 := Aside0.mk hx1
  have HX2 := Aside0.mk hx2
  have HX3 := Aside0.mk hx3
  have e1 : ((a : Int) + (b : Int)) / 2 = (mid : Int) := by omega
  have e2 : (mid : Int) + (m : Int) = (n : Int) := by omega
  have HM := Aside0.mk (And.intro hmid hnd)
  clear h0 h1 hfin hs0 hr0 hst hx1 hx2 hx3 hmid hnd hsb
  go_enter Try.func137, Try.ntmps137
  go_upto_if 140 with fail
  clear e1 e2
  go_cut [20, 21] (fun u v wx => u = .int .i64 (s0 : Int) ∧ v = .int .i64 (r0 : Int) ∧ wx = w)
  case first =>
    as_aux_lemma =>
      by_cases h : mid < m
      · have h2 : (mid : Int) < (m : Int) := by omega
        have e3 : (n : Int) - (b : Int) = (s0 : Int) := by have := HS0.out; rw [if_pos h] at this; have := HM.out; omega
        have e4 : (r0 : Int) = (mid : Int) := by have := HR0.out; rw [if_pos h] at this; omega
        have E4 := Aside0.mk e4
        clear e4 h
        go_wp2_with fail
        go_meet
        exact ⟨rfl, by rw [E4.out], rfl⟩
      · have h2 : ¬ (mid : Int) < (m : Int) := by omega
        have e3 : (s0 : Int) = (a : Int) := by have := HS0.out; rw [if_neg h] at this; omega
        have e4 : (r0 : Int) = (m : Int) := by have := HR0.out; rw [if_neg h] at this; omega
        have E4 := Aside0.mk (And.intro e3 e4)
        clear e3 e4 h
        go_wp2_with fail
        go_meet
        exact ⟨by rw [E4.out.1], by rw [E4.out.2], rfl⟩
  case rest =>
    obtain ⟨rfl, rfl, hwc⟩ := hcut
    subst hwc
    obtain ⟨wS, hwS⟩ : ∃ z, z = wc := ⟨_, rfl⟩
    subst hwS
    obtain ⟨pp, hpp⟩ : ∃ pp, n = pp + 1 := ⟨n - 1, by have := HM.out; omega⟩
    have e5 : (n : Int) - 1 = (pp : Int) := by omega
    have hbp : pp ≤ 2000 := by have := HM.out; omega
    have HPN := Aside0.mk hpp
    clear hpp
    go_upto_block 33 with fail
    clear e5
    go_loopg [20, 21, 23] (r0 - s0) (fun gg s10 s11 s12 W => ∃ (i j ff : Nat), s0 ≤ i ∧ i ≤ j ∧ j ≤ r0 ∧ j - i ≤ gg ∧ s10 = .int .i64 i ∧ s11 = .int .i64 j ∧ Aside0 (j - i ≤ ff) ∧ Aside0 (bsI (fun c => !(lt (xs.getD (n - 1 - c) 0) (xs.getD c 0))) ff i j = st) ∧ Aside0 (Below wS.heap.size wS W))
    case atStart => exact ⟨s0, r0, r0 - s0, by omega, by omega, by omega, by omega, rfl, rfl, ⟨Nat.le_refl _⟩, ⟨HST.out.symm⟩, ⟨Below.refl _ _⟩⟩
    case round =>
      obtain ⟨i, j, ff, hi, hij, hj, hgg, rfl, rfl, HFF, HT, HB⟩ := hrel
      by_cases hlt : i < j
      case pos =>
        as_aux_lemma =>
          obtain ⟨ff, rfl⟩ : ∃ q, ff = q + 1 := ⟨ff - 1, by have := HFF.out; omega⟩
          obtain ⟨h, hh⟩ : ∃ h, h = (i + j) / 2 := ⟨_, rfl⟩
          have hq : ((i : Int) + (j : Int)) / 2 = (h : Int) := by omega
          have hi2 : i ≤ h := by omega
          have hj2 : h < j := by omega
          have hT := HT.out
          rw [bsI, if_pos hlt, ← hh] at hT
          have HT2 := Aside0.mk hT
          clear hh hT HT
          obtain ⟨k, hk⟩ : ∃ k, k + h = pp := ⟨pp - h, by have := HPN.out; have := HM.out; omega⟩
          have hkN : k < N := by have := HPN.out; have := HM.out; omega
          have hkz : (k : Int) < (N : Int) := by omega
          have hhN : (h : Int) < (N : Int) := by omega
          have hlt2 : (i : Int) < (j : Int) := by omega
          obtain ⟨hx1, _⟩ := Kd.R_celln 0 (Kd.R_below HR.out HB.out) (k : Int) (by omega) (by omega)
          obtain ⟨hx0, _⟩ := Kd.R_celln 0 (Kd.R_below HR.out HB.out) (h : Int) (by omega) (by omega)
          rw [Int.toNat_natCast] at hx0 hx1
          rw [show rdOf 0 xs (k : Int) = xs.getD k 0 from rfl] at hx1
          rw [show rdOf 0 xs (h : Int) = xs.getD h 0 from rfl] at hx0
          obtain ⟨x, hx⟩ : ∃ x, x = xs.getD k 0 := ⟨_, rfl⟩
          obtain ⟨y, hy⟩ : ∃ y, y = xs.getD h 0 := ⟨_, rfl⟩
          rw [← hx] at hx1
          rw [← hy] at hx0
          have hpx : p x := HP.out x (by rw [hx, List.getD_eq_getElem?_getD, List.getElem?_eq_getElem (by have := HNN.out; omega)]; exact List.getElem_mem _)
          have hpy : p y := HP.out y (by rw [hy, List.getD_eq_getElem?_getD, List.getElem?_eq_getElem (by have := HNN.out; omega)]; exact List.getElem_mem _)
          have HPP := Aside0.mk (And.intro hpx hpy)
          have HXY := Aside0.mk (show xs.getD (n - 1 - h) 0 = x ∧ xs.getD h 0 = y from ⟨by rw [show n - 1 - h = k by have := HPN.out; omega]; exact hx.symm, hy.symm⟩)
          have HK := Aside0.mk hk
          clear hx hy hpx hpy hk
          obtain ⟨wC, hwC⟩ : ∃ wC, wC = wr := ⟨_, rfl⟩
          subst hwC
          go_upto_region 35 with fail
          clear hq
          have hk := HK.out
          have hk2 : IntKind.i64.wrap ((pp : Int) - (h : Int)) = (k : Int) := by rw [i64_w, w64 (by omega) (by omega)]; omega
          have hk5 : IntKind.i64.wrap (k : Int) = (k : Int) := by rw [i64_w, w64 (by omega) (by omega)]
          have hk6 : wrap64 (k : Int) = (k : Int) := by rw [w64 (by omega) (by omega)]
          have hk0 : (0 : Int) ≤ (k : Int) := by clear hk2 hk5 hk6; omega
          have hh0 : (0 : Int) ≤ (h : Int) := by clear hk2 hk5 hk6; omega
          clear hk
          go_region_held3 (fun w' => w'.cell? ⟨g, k, none⟩ = some (.int .i64 x) ∧ w'.cell? ⟨g, h, none⟩ = some (.int .i64 y) ∧ Below wC.heap.size wC w')
            ((refine keep2 hx1 hx0 ?_; repeat (first | assumption | exact Below.refl _ _ | apply pw_below_drewN | apply below_drew | apply below_alloc | (apply And.right; apply And.right; assumption) | refine below_step ?_ (by assumption))))
            (first | (go_at_fn gf; refine (HC.out _ x y HPP.out.1 HPP.out.2 ((ButG.refl wS g).below (below_step HB.out (by (apply And.right; apply And.right; assumption))))).mono ?_; rintro e w3 ⟨c, rfl, hcd, hb4⟩))
          have hBw : Below wC.heap.size wC w3 := by
            apply And.right
            apply And.right
            assumption
          have HBw := Aside0.mk (below_step HB.out hBw)
          clear hBw hx0 hx1 hk2 hk5 hk6
          cases hl : lt x y
          case true =>
            have hc0 : c < 0 := by rw [hl] at hcd; exact of_decide_eq_true hcd
            have HL := Aside0.mk hl
            clear hcd hl
            go_wp2
            go_roundg (h - i)
            case measure => omega
            case rel => exact ⟨i, h, ff, by omega, by omega, by omega, by omega, rfl, rfl, ⟨by have := HFF.out; omega⟩, ⟨by have h3 := HT2.out; rw [if_neg (by show ¬ (!(lt (xs.getD (n - 1 - h) 0) (xs.getD h 0))) = true; rw [HXY.out.1, HXY.out.2, HL.out]; decide)] at h3; exact h3⟩, ⟨below_weaken (Below.refl _ _) (Nat.le_refl _) (by repeat (first | exact HBw.out | apply below_drew | apply pw_below_drewN))⟩⟩
          case false =>
            have hc0 : ¬ c < 0 := by rw [hl] at hcd; exact of_decide_eq_false hcd
            have HL := Aside0.mk hl
            clear hcd hl
            go_wp2
            go_roundg (j - (h + 1))
            case measure => omega
            case rel => exact ⟨h + 1, j, ff, by omega, by omega, by omega, by omega, by first | rfl | go_num | (rw [w64 (by omega) (by omega)]; go_num), rfl, ⟨by have := HFF.out; omega⟩, ⟨by have h3 := HT2.out; rw [if_pos (by show (!(lt (xs.getD (n - 1 - h) 0) (xs.getD h 0))) = true; rw [HXY.out.1, HXY.out.2, HL.out]; rfl)] at h3; exact h3⟩, ⟨below_weaken (Below.refl _ _) (Nat.le_refl _) (by repeat (first | exact HBw.out | apply below_drew | apply pw_below_drewN))⟩⟩
      case neg =>
        obtain rfl : i = j := by omega
        have hbs : bsI (fun c => !(lt (xs.getD (n - 1 - c) 0) (xs.getD c 0))) ff i i = i := by
          cases ff with
          | zero => rfl
          | succ q => rw [bsI, if_neg (Nat.lt_irrefl _)]
        obtain rfl : i = st := by have := HT.out; rw [hbs] at this; exact this
        obtain ⟨en, hen⟩ : ∃ en, en = n - i := ⟨_, rfl⟩
        rw [← hen] at HX1 HX3
        have he0 : (n : Int) - (i : Int) = (en : Int) := by have := HM.out; omega
        have hmen : m ≤ en ∧ en ≤ b := by omega
        have HEN := Aside0.mk hen
        clear hbs HT HFF hen
        obtain ⟨hme, heb⟩ := hmen
        obtain ⟨wC, hwC⟩ : ∃ wC, wC = wr := ⟨_, rfl⟩
        subst hwC
        have HRC := Aside0.mk (Kd.R_below HR.out HB.out)
        have HBC := Aside0.mk ((ButG.refl wS g).below HB.out)
        clear HB
        go_upto_region 39 with fail
        clear he0
        obtain ⟨q1, hq1⟩ : ∃ q1, q1 = decide (i < m ∧ m < en) := ⟨_, rfl⟩
        obtain ⟨q2, hq2⟩ : ∃ q2, q2 = decide (a < i ∧ i < mid) := ⟨_, rfl⟩
        obtain ⟨q3, hq3⟩ : ∃ q3, q3 = decide (mid < en ∧ en < b) := ⟨_, rfl⟩
        have Q1 := Aside0.mk hq1
        have Q2 := Aside0.mk hq2
        have Q3 := Aside0.mk hq3
        clear hq1 hq2 hq3
        go_cut [185] (fun v wx => v = .bool q1 ∧ wx = wC)
        case first =>
          as_aux_lemma =>
            by_cases c1 : i < m
            · have d1 : (i : Int) < (m : Int) := by omega
              by_cases c2 : m < en
              · have d2 : (m : Int) < (en : Int) := by omega
                have Q := Aside0.mk (Q1.out.trans (decide_eq_true ⟨c1, c2⟩))
                clear c1 c2
                go_wp2_with fail
                go_meet
                exact ⟨by rw [Q.out], rfl⟩
              · have d2 : ¬ (m : Int) < (en : Int) := by omega
                have Q := Aside0.mk (Q1.out.trans (decide_eq_false fun h => c2 h.2))
                clear c1 c2
                go_wp2_with fail
                go_meet
                exact ⟨by rw [Q.out], rfl⟩
            · have d1 : ¬ (i : Int) < (m : Int) := by omega
              have Q := Aside0.mk (Q1.out.trans (decide_eq_false fun h => c1 h.1))
              clear c1
              go_wp2_with fail
              go_meet
              exact ⟨by rw [Q.out], rfl⟩
        case rest =>
        obtain ⟨rfl, hwc⟩ := hcut
        subst hwc
        obtain ⟨wD, hwD⟩ : ∃ z, z = wc := ⟨_, rfl⟩
        subst hwD
        go_upto_if 185 with fail
        go_cut [20] (fun v wx => v = .int .i64 (i : Int) ∧ Aside0 (Kd.R (Kd.int .i64) 3 wx B ok (.slice (some ⟨g, 0, none⟩) N cap) x1) ∧ Aside0 (ButG wS wx g) ∧ Aside0 (∀ x ∈ x1, p x))
        case first =>
          as_aux_lemma =>
            cases q1
            · have hq := of_decide_eq_false Q1.out.symm
              have hx := HX1.out
              rw [if_neg hq] at hx
              have HX := Aside0.mk hx
              clear hq hx
              go_wp2_with fail
              go_meet
              exact ⟨rfl, by rw [HX.out]; exact HRC, HBC, by rw [HX.out]; exact HP⟩
            · have hq := of_decide_eq_true Q1.out.symm
              have hx := HX1.out
              rw [if_pos hq] at hx
              have HX := Aside0.mk hx
              have HRO := Aside0.mk (rot_calls (.func (.func gf) #[] lb) g cap N B i m en xs wD ok HRC.out hq.1 hq.2 (by omega))
              rw [← HX.out] at HRO
              have HPX := Aside0.mk (show ∀ x ∈ x1, p x from by rw [HX.out]; exact rotG_all m _ _ _ _ (by omega) (by have := HNN.out; omega) HP.out)
              clear hq hx
              go_wp2_with (go_at_call 144; refine HRO.out.mono ?_; rintro e w2 ⟨rfl, h1, h2⟩; have HR2 := Aside0.mk h1; have HB2 := Aside0.mk (HBC.out.trans h2); clear h1 h2)
              go_meet
              exact ⟨rfl, HR2, HB2, HPX⟩
        case rest =>
        obtain ⟨rfl, HR1, HB1, HP1⟩ := hcut
        obtain ⟨wE, hwE⟩ : ∃ z, z = wc := ⟨_, rfl⟩
        subst hwE
        clear HRC HBC
        go_upto_region 41 with fail
        go_cut [199] (fun v wx => v = .bool q2 ∧ wx = wE)
        case first =>
          as_aux_lemma =>
            by_cases c1 : a < i
            · have d1 : (a : Int) < (i : Int) := by omega
              by_cases c2 : i < mid
              · have d2 : (i : Int) < (mid : Int) := by omega
                have Q := Aside0.mk (Q2.out.trans (decide_eq_true ⟨c1, c2⟩))
                clear c1 c2
                go_wp2_with fail
                go_meet
                exact ⟨by rw [Q.out], rfl⟩
              · have d2 : ¬ (i : Int) < (mid : Int) := by omega
                have Q := Aside0.mk (Q2.out.trans (decide_eq_false fun h => c2 h.2))
                clear c1 c2
                go_wp2_with fail
                go_meet
                exact ⟨by rw [Q.out], rfl⟩
            · have d1 : ¬ (a : Int) < (i : Int) := by omega
              have Q := Aside0.mk (Q2.out.trans (decide_eq_false fun h => c1 h.1))
              clear c1
              go_wp2_with fail
              go_meet
              exact ⟨by rw [Q.out], rfl⟩
        case rest =>
        obtain ⟨rfl, hwc⟩ := hcut
        subst hwc
        obtain ⟨wF, hwF⟩ : ∃ z, z = wc := ⟨_, rfl⟩
        subst hwF
        go_upto_if 199 with fail
        go_cut [20] (fun v wx => v = .int .i64 (i : Int) ∧ Aside0 (Kd.R (Kd.int .i64) 3 wx B ok (.slice (some ⟨g, 0, none⟩) N cap) x2) ∧ Aside0 (ButG wS wx g) ∧ Aside0 (∀ x ∈ x2, p x))
        case first =>
          as_aux_lemma =>
            cases q2
            · have hq := of_decide_eq_false Q2.out.symm
              have hx := HX2.out
              rw [if_neg hq] at hx
              have HX := Aside0.mk hx
              clear hq hx
              go_wp2_with fail
              go_meet
              exact ⟨rfl, by rw [HX.out]; exact HR1, HB1, by rw [HX.out]; exact HP1⟩
            · have hq := of_decide_eq_true Q2.out.symm
              have hx := HX2.out
              rw [if_pos hq] at hx
              have HX := Aside0.mk hx
              have HRO := Aside0.mk (IH.out a i mid x1 wF (by have := HM.out; omega) hq.1 hq.2 (by have := HM.out; omega) HR1.out HP1.out HB1.out)
              rw [← HX.out] at HRO
              clear hq hx
              go_wp2_with (go_at_call 137; refine HRO.out.mono ?_; rintro e w2 ⟨rfl, h1, h2, h3⟩; have HR2 := Aside0.mk h1; have HB2 := Aside0.mk (HB1.out.trans h2); have HP2 := Aside0.mk h3; clear h1 h2 h3)
              go_meet
              exact ⟨rfl, HR2, HB2, HP2⟩
        case rest =>
        obtain ⟨rfl, HR2, HB2, HP2⟩ := hcut
        obtain ⟨wG, hwG⟩ : ∃ z, z = wc := ⟨_, rfl⟩
        subst hwG
        clear HR1 HB1 HP1
        go_upto_region 43 with fail
        go_cut [213] (fun v wx => v = .bool q3 ∧ wx = wG)
        case first =>
          as_aux_lemma =>
            by_cases c1 : mid < en
            · have d1 : (mid : Int) < (en : Int) := by omega
              by_cases c2 : en < b
              · have d2 : (en : Int) < (b : Int) := by omega
                have Q := Aside0.mk (Q3.out.trans (decide_eq_true ⟨c1, c2⟩))
                clear c1 c2
                go_wp2_with fail
                go_meet
                exact ⟨by rw [Q.out], rfl⟩
              · have d2 : ¬ (en : Int) < (b : Int) := by omega
                have Q := Aside0.mk (Q3.out.trans (decide_eq_false fun h => c2 h.2))
                clear c1 c2
                go_wp2_with fail
                go_meet
                exact ⟨by rw [Q.out], rfl⟩
            · have d1 : ¬ (mid : Int) < (en : Int) := by omega
              have Q := Aside0.mk (Q3.out.trans (decide_eq_false fun h => c1 h.1))
              clear c1
              go_wp2_with fail
              go_meet
              exact ⟨by rw [Q.out], rfl⟩
        case rest =>
        obtain ⟨rfl, hwc⟩ := hcut
        subst hwc
        obtain ⟨wH, hwH⟩ : ∃ z, z = wc := ⟨_, rfl⟩
        subst hwH
        go_upto_if 213 with fail
        cases q3
        · have hq := of_decide_eq_false Q3.out.symm
          have hx := HX3.out
          rw [if_neg hq] at hx
          have HX := Aside0.mk hx
          clear hq hx
          go_wp2
          first | go_end0 | (refine bodyPost_ret (results_none rfl _ _ _) rfl ?_)
          exact ⟨rfl, by rw [HX.out]; exact HR2.out, HB2.out, by rw [HX.out]; exact HP2.out⟩
        · have hq := of_decide_eq_true Q3.out.symm
          have hx := HX3.out
          rw [if_pos hq] at hx
          have HX := Aside0.mk hx
          have HRO := Aside0.mk (IH.out mid en b x2 wH (by have := HM.out; omega) hq.1 hq.2 hbn HR2.out HP2.out HB2.out)
          rw [← HX.out] at HRO
          clear hq hx
          go_wp2_with (go_at_call 137; refine HRO.out.mono ?_; rintro e w2 ⟨rfl, h1, h2, h3⟩; have HR3 := Aside0.mk h1; have HB3 := Aside0.mk (HB2.out.trans h2); have HP3 := Aside0.mk h3; clear h1 h2 h3)
          first | go_end0 | (refine bodyPost_ret (results_none rfl _ _ _) rfl ?_)
          exact ⟨rfl, HR3.out, HB3.out, HP3.out⟩
theorem symM_calls (gf : Nat) (lb : Array Value) (lt : Int → Int → Bool) (p : Int → Prop) (g cap N B : Nat) (ok : Nat → Prop) (eg : ∀ args w, (callFunc gf args).run Try.prog w = .ok (.enter gf args) w) (hN : N ≤ 1000) : ∀ (f a m b : Nat) (xs : List Int) (w : World), b - a ≤ f → a < m → m < b → b ≤ N → Kd.R (Kd.int .i64) 3 w B ok (.slice (some ⟨g, 0, none⟩) N cap) xs → (∀ x ∈ xs, p x) → CmpB Try.prog gf lb lt p g w →
    Calls Try.prog 137 #[.slice (some ⟨g, 0, none⟩) N cap, .int .i64 (a : Int), .int .i64 (m : Int), .int .i64 (b : Int), .func (.func gf) #[] lb] w fun e w' => e = .returned (.tuple #[]) ∧ Kd.R (Kd.int .i64) 3 w' B ok (.slice (some ⟨g, 0, none⟩) N cap) (symM lt f a m b xs) ∧ ButG w w' g ∧ ∀ x ∈ symM lt f a m b xs, p x := by
  intro f
  induction f with
  | zero => intro a m b xs w h1 h2 h3; omega
  | succ f ih =>
    intro a m b xs w hf ham hmb hbn hR hp hc
    obtain ⟨hn, _, _⟩ := Kd.R_reads' hR
    by_cases h1 : m - a = 1
    · refine (symM_one_calls gf lb lt p g cap N B ok eg hN f a m b xs w h1 ham hmb hbn hR hp hc).mono ?_
      rintro e w' ⟨he, hr, hb⟩
      refine ⟨he, hr, hb, ?_⟩
      rw [symM, if_pos h1]
      have := bsI_bd (fun h => lt (xs.getD h 0) (xs.getD a 0)) (b - m) m b (by omega)
      exact upN_all _ _ _ (by omega) hp
    · by_cases h2 : b - m = 1
      · refine (symM_last_calls gf lb lt p g cap N B ok eg hN f a m b xs w h1 h2 ham hmb hbn hR hp hc).mono ?_
        rintro e w' ⟨he, hr, hb⟩
        refine ⟨he, hr, hb, ?_⟩
        rw [symM, if_neg h1, if_pos h2]
        have := bsI_bd (fun h => !(lt (xs.getD m 0) (xs.getD h 0))) (m - a) a m (by omega)
        exact dnN_all _ _ _ (by omega) (by omega) hp
      · exact symM_mid_calls gf lb lt p g cap N B ok eg hN f a m b xs w h1 h2 ham hmb hbn hR hp hc (fun a m b xs w2 k1 k2 k3 k4 k5 k6 k7 => ih a m b xs w2 k1 k2 k3 k4 k5 k6 (hc.later k7)) hf
set_option maxHeartbeats 8000000 in
set_option maxRecDepth 100000 in
theorem insNil_calls (f : Value) (w : World) :
    Calls Try.prog 136 #[.slice none 0 0, .int .i64 0, .int .i64 0, f] w fun e w' => e = .returned (.tuple #[]) ∧ Below w.heap.size w w' := by
  go_enter Try.func136, Try.ntmps136
  go_wp2
  go_loopg [8] 0 (fun gg s8 W => s8 = .int .i64 1 ∧ W = w)
  case atStart => exact ⟨rfl, rfl⟩
  case round =>
    obtain ⟨rfl, rfl⟩ := hrel
    go_wp2
    first | go_end0 | (refine bodyPost_ret (results_none rfl _ _ _) rfl ?_)
    exact ⟨rfl, Below.refl _ _⟩
set_option maxHeartbeats 8000000 in
set_option maxRecDepth 100000 in
theorem stableLow_calls (ad : Option Addr) (n cap : Nat) (f : Value) (w : World) (Q : World → Prop) (hn : n < 20)
    (hi : Calls Try.prog 136 #[.slice ad n cap, .int .i64 0, .int .i64 (n : Int), f] w fun e w' => e = .returned (.tuple #[]) ∧ Q w') :
    Calls Try.prog 120 #[.slice ad n cap, .int .i64 (n : Int), f] w fun e w' => e = .returned (.tuple #[]) ∧ Q w' := by
  have HI := Aside0.mk hi
  have h1 : ¬ (20 : Int) ≤ (n : Int) := by omega
  have h2 : ¬ (20 : Int) < (n : Int) := by omega
  clear hi
  go_enter Try.func120, Try.ntmps120
  go_wp2
  go_loopg [7, 8] 0 (fun gg s7 s8 W => s7 = .int .i64 0 ∧ s8 = .int .i64 20 ∧ W = w)
  case atStart => exact ⟨rfl, rfl, rfl⟩
  case round =>
    obtain ⟨rfl, rfl, rfl⟩ := hrel
    go_wp2_with (go_at_call 136; refine HI.out.mono ?_; rintro e w2 ⟨rfl, hq⟩; have HQ := Aside0.mk hq; clear hq)
    go_loopg [6] 0 (fun gg s6 W => s6 = .int .i64 20 ∧ W = w2)
    case atStart => exact ⟨rfl, rfl⟩
    case round =>
      obtain ⟨rfl, rfl⟩ := hrel
      go_wp2
      first | go_end0 | (refine bodyPost_ret (results_none rfl _ _ _) rfl ?_)
      exact ⟨rfl, HQ.out⟩
set_option maxHeartbeats 8000000 in
set_option maxRecDepth 100000 in
theorem stableTwo_calls (gf : Nat) (lb : Array Value) (lt : Int → Int → Bool) (p : Int → Prop) (g cap n B : Nat) (xs : List Int) (w : World) (ok : Nat → Prop) (eg : ∀ args w, (callFunc gf args).run Try.prog w = .ok (.enter gf args) w)
    (h20 : 20 ≤ n) (h40 : n < 40) (hR : Kd.R (Kd.int .i64) 3 w B ok (.slice (some ⟨g, 0, none⟩) n cap) xs) (hp : ∀ x ∈ xs, p x) (hc : CmpB Try.prog gf lb lt p g w) :
    Calls Try.prog 120 #[.slice (some ⟨g, 0, none⟩) n cap, .int .i64 (n : Int), .func (.func gf) #[] lb] w fun e w' => e = .returned (.tuple #[]) ∧ Kd.R (Kd.int .i64) 3 w' B ok (.slice (some ⟨g, 0, none⟩) n cap) (stabS lt n xs) ∧ ButG w w' g := by
  obtain ⟨hn, _, _⟩ := Kd.R_reads' hR
  have H1 := Aside0.mk (insCmp_calls gf lb lt p g cap n B 0 20 xs w ok eg hR (by omega) (by omega) (by omega) hp hc)
  have HP1 := Aside0.mk (insA_all (p := p) lt 0 20 xs (by omega) hp)
  have HL1 := Aside0.mk ((insA_len lt 0 20 xs).trans hn.symm)
  have HC := Aside0.mk hc
  have h1 : (20 : Int) ≤ (n : Int) := by omega
  have h2 : ¬ (40 : Int) ≤ (n : Int) := by omega
  clear hR hp hc hn
  go_enter Try.func120, Try.ntmps120
  go_wp2
  go_loopg [7, 8] 1 (fun gg s7 s8 W => (gg = 1 ∧ s7 = .int .i64 0 ∧ s8 = .int .i64 20 ∧ W = w) ∨ (s7 = .int .i64 20 ∧ s8 = .int .i64 40 ∧ Aside0 (Kd.R (Kd.int .i64) 3 W B ok (.slice (some ⟨g, 0, none⟩) n cap) (insA lt 0 20 xs)) ∧ Aside0 (ButG w W g)))
  case atStart => exact .inl ⟨rfl, rfl, rfl, rfl⟩
  case round =>
    rcases hrel with ⟨rfl, rfl, rfl, rfl⟩ | ⟨rfl, rfl, HR1, HB1⟩
    · go_wp2_with (go_at_call 136; refine H1.out.mono ?_; rintro e w2 ⟨rfl, hq1, hq2⟩; have HQ1 := Aside0.mk hq1; have HQ2 := Aside0.mk hq2; clear hq1 hq2)
      go_roundg 0
      case measure => omega
      case rel => exact .inr ⟨by first | rfl | go_num, by first | rfl | go_num, HQ1, HQ2⟩
    · have H2 := Aside0.mk (insCmp_calls gf lb lt p g cap n B 20 n (insA lt 0 20 xs) wr ok eg HR1.out (by omega) (by omega) (by omega) HP1.out (HC.out.later HB1.out))
      have HP2 := Aside0.mk (insA_all (p := p) lt 20 (n - 20) (insA lt 0 20 xs) (by have := HL1.out; omega) HP1.out)
      obtain ⟨wC, hwC⟩ : ∃ wC, wC = wr := ⟨_, rfl⟩
      subst hwC
      go_wp2_with (go_at_call 136; refine H2.out.mono ?_; rintro e w2 ⟨rfl, hq1, hq2⟩; have HQ1 := Aside0.mk hq1; have HQ2 := Aside0.mk (HB1.out.trans hq2); clear hq1 hq2)
      by_cases h20' : n = 20
      · subst h20'
        have HF := Aside0.mk (show stabS lt 20 xs = insA lt 20 (20 - 20) (insA lt 0 20 xs) from by unfold stabS; rw [if_pos (Nat.le_refl _)]; rfl)
        go_loopg [6, 7, 8] 0 (fun gg s6 s7 s8 W => s6 = .int .i64 20 ∧ W = w2)
        case atStart => exact ⟨rfl, rfl⟩
        case round =>
          obtain ⟨rfl, rfl⟩ := hrel
          go_wp2
          first | go_end0 | (refine bodyPost_ret (results_none rfl _ _ _) rfl ?_)
          exact ⟨rfl, by rw [HF.out]; exact HQ1.out, HQ2.out⟩
      · have H3 := Aside0.mk (symM_calls gf lb lt p g cap n B ok eg (by omega) n 0 20 n _ w2 (by omega) (by omega) (by omega) (by omega) HQ1.out HP2.out (HC.out.later HQ2.out))
        have HF := Aside0.mk (show stabS lt n xs = symM lt n 0 20 n (insA lt 20 (n - 20) (insA lt 0 20 xs)) from by unfold stabS; rw [if_neg (by omega)])
        have h3 : (20 : Int) < (n : Int) := by omega
        have h4 : ¬ (40 : Int) < (n : Int) := by omega
        go_loopg [6, 7, 8] 1 (fun gg s6 s7 s8 W => (gg = 1 ∧ s6 = .int .i64 20 ∧ W = w2) ∨ (s6 = .int .i64 40 ∧ Aside0 (Kd.R (Kd.int .i64) 3 W B ok (.slice (some ⟨g, 0, none⟩) n cap) (stabS lt n xs)) ∧ Aside0 (ButG w W g)))
        case atStart => exact .inl ⟨rfl, rfl, rfl⟩
        case round =>
          rcases hrel with ⟨rfl, rfl, rfl⟩ | ⟨rfl, HR3, HB3⟩
          · obtain ⟨wZ, hwZ⟩ : ∃ z, z = wr := ⟨_, rfl⟩
            subst hwZ
            go_wp2
            go_loopg [7, 8] 0 (fun gg s7 s8 W => s7 = .int .i64 0 ∧ s8 = .int .i64 40 ∧ W = wZ)
            case atStart => exact ⟨rfl, by first | rfl | go_num, rfl⟩
            case round =>
              obtain ⟨rfl, rfl, rfl⟩ := hrel
              go_wp2_with (go_at_call 137; refine H3.out.mono ?_; rintro e w3 ⟨rfl, hq1, hq2, hq3⟩; have HS1 := Aside0.mk hq1; have HS2 := Aside0.mk (HQ2.out.trans hq2); clear hq1 hq2 hq3)
              go_roundg 0
              case measure => omega
              case rel => exact .inr ⟨by first | rfl | go_num, ⟨by rw [HF.out]; exact HS1.out⟩, HS2⟩
          · go_wp2
            first | go_end0 | (refine bodyPost_ret (results_none rfl _ _ _) rfl ?_)
            exact ⟨rfl, HR3.out, HB3.out⟩
set_option maxHeartbeats 8000000 in
set_option maxRecDepth 100000 in
theorem stableForty_calls (gf : Nat) (lb : Array Value) (lt : Int → Int → Bool) (p : Int → Prop) (g cap B : Nat) (xs : List Int) (w : World) (ok : Nat → Prop) (eg : ∀ args w, (callFunc gf args).run Try.prog w = .ok (.enter gf args) w)
    (hR : Kd.R (Kd.int .i64) 3 w B ok (.slice (some ⟨g, 0, none⟩) 40 cap) xs) (hp : ∀ x ∈ xs, p x) (hc : CmpB Try.prog gf lb lt p g w) :
    Calls Try.prog 120 #[.slice (some ⟨g, 0, none⟩) 40 cap, .int .i64 40, .func (.func gf) #[] lb] w fun e w' => e = .returned (.tuple #[]) ∧ Kd.R (Kd.int .i64) 3 w' B ok (.slice (some ⟨g, 0, none⟩) 40 cap) (stabS lt 40 xs) ∧ ButG w w' g := by
  obtain ⟨hn, _, _⟩ := Kd.R_reads' hR
  have H1 := Aside0.mk (insCmp_calls gf lb lt p g cap 40 B 0 20 xs w ok eg hR (by omega) (by omega) (by omega) hp hc)
  have HP1 := Aside0.mk (insA_all (p := p) lt 0 20 xs (by omega) hp)
  have HP2 := Aside0.mk (insA_all (p := p) lt 20 20 (insA lt 0 20 xs) (by rw [insA_len]; omega) (insA_all (p := p) lt 0 20 xs (by omega) hp))
  have HC := Aside0.mk hc
  have HF := Aside0.mk (show stabS lt 40 xs = symM lt 40 0 20 40 (insA lt 20 20 (insA lt 0 20 xs)) from by unfold stabS; rw [if_neg (by omega)])
  clear hR hp hc hn
  go_enter Try.func120, Try.ntmps120
  go_wp2
  go_loopg [7, 8] 2 (fun gg s7 s8 W => (gg = 2 ∧ s7 = .int .i64 0 ∧ s8 = .int .i64 20 ∧ W = w) ∨ (gg = 1 ∧ s7 = .int .i64 20 ∧ s8 = .int .i64 40 ∧ Aside0 (Kd.R (Kd.int .i64) 3 W B ok (.slice (some ⟨g, 0, none⟩) 40 cap) (insA lt 0 20 xs)) ∧ Aside0 (ButG w W g)) ∨ (s7 = .int .i64 40 ∧ s8 = .int .i64 60 ∧ Aside0 (Kd.R (Kd.int .i64) 3 W B ok (.slice (some ⟨g, 0, none⟩) 40 cap) (insA lt 20 20 (insA lt 0 20 xs))) ∧ Aside0 (ButG w W g)))
  case atStart => exact .inl ⟨rfl, rfl, rfl, rfl⟩
  case round =>
    rcases hrel with ⟨rfl, rfl, rfl, rfl⟩ | ⟨rfl, rfl, rfl, HR1, HB1⟩ | ⟨rfl, rfl, HR1, HB1⟩
    · go_wp2_with (go_at_call 136; refine H1.out.mono ?_; rintro e w2 ⟨rfl, hq1, hq2⟩; have HQ1 := Aside0.mk hq1; have HQ2 := Aside0.mk hq2; clear hq1 hq2)
      go_roundg 1
      case measure => omega
      case rel => exact .inr (.inl ⟨rfl, by first | rfl | go_num, by first | rfl | go_num, HQ1, HQ2⟩)
    · have H2 := Aside0.mk (insCmp_calls gf lb lt p g cap 40 B 20 40 (insA lt 0 20 xs) wr ok eg HR1.out (by omega) (by omega) (by omega) HP1.out (HC.out.later HB1.out))
      obtain ⟨wC, hwC⟩ : ∃ wC, wC = wr := ⟨_, rfl⟩
      subst hwC
      go_wp2_with (go_at_call 136; refine H2.out.mono ?_; rintro e w2 ⟨rfl, hq1, hq2⟩; have HQ1 := Aside0.mk hq1; have HQ2 := Aside0.mk (HB1.out.trans hq2); clear hq1 hq2)
      go_roundg 0
      case measure => omega
      case rel => exact .inr (.inr ⟨by first | rfl | go_num, by first | rfl | go_num, HQ1, HQ2⟩)
    · have H2 := Aside0.mk (insCmp_calls gf lb lt p g cap 40 B 40 40 (insA lt 20 20 (insA lt 0 20 xs)) wr ok eg HR1.out (by omega) (by omega) (by omega) HP2.out (HC.out.later HB1.out))
      obtain ⟨wC, hwC⟩ : ∃ wC, wC = wr := ⟨_, rfl⟩
      subst hwC
      go_wp2_with (go_at_call 136; refine H2.out.mono ?_; rintro e w2 ⟨rfl, hq1, hq2⟩; have HQ1 := Aside0.mk (show Kd.R (Kd.int .i64) 3 w2 B ok (.slice (some ⟨g, 0, none⟩) 40 cap) (insA lt 20 20 (insA lt 0 20 xs)) from hq1); have HQ2 := Aside0.mk (HB1.out.trans hq2); clear hq1 hq2)
      have H3 := Aside0.mk (symM_calls gf lb lt p g cap 40 B ok eg (by omega) 40 0 20 40 _ w2 (by omega) (by omega) (by omega) (by omega) HQ1.out HP2.out (HC.out.later HQ2.out))
      rw [← HF.out] at H3
      go_loopg [6, 7, 8] 1 (fun gg s6 s7 s8 W => (gg = 1 ∧ s6 = .int .i64 20 ∧ W = w2) ∨ (s6 = .int .i64 40 ∧ Aside0 (Kd.R (Kd.int .i64) 3 W B ok (.slice (some ⟨g, 0, none⟩) 40 cap) (stabS lt 40 xs)) ∧ Aside0 (ButG w W g)))
      case atStart => exact .inl ⟨rfl, rfl, rfl⟩
      case round =>
        rcases hrel with ⟨rfl, rfl, rfl⟩ | ⟨rfl, HR3, HB3⟩
        · obtain ⟨wZ, hwZ⟩ : ∃ z, z = wr := ⟨_, rfl⟩
          subst hwZ
          go_wp2
          go_loopg [7, 8] 1 (fun gg s7 s8 W => (gg = 1 ∧ s7 = .int .i64 0 ∧ s8 = .int .i64 40 ∧ W = wZ) ∨ (s7 = .int .i64 40 ∧ s8 = .int .i64 80 ∧ Aside0 (Kd.R (Kd.int .i64) 3 W B ok (.slice (some ⟨g, 0, none⟩) 40 cap) (stabS lt 40 xs)) ∧ Aside0 (ButG w W g)))
          case atStart => exact .inl ⟨rfl, rfl, by first | rfl | go_num, rfl⟩
          case round =>
            rcases hrel with ⟨rfl, rfl, rfl, rfl⟩ | ⟨rfl, rfl, HR4, HB4⟩
            · obtain ⟨wY, hwY⟩ : ∃ z, z = wr := ⟨_, rfl⟩
              subst hwY
              go_wp2_with (go_at_call 137; refine H3.out.mono ?_; rintro e w3 ⟨rfl, hq1, hq2, hq3⟩; have HS1 := Aside0.mk hq1; have HS2 := Aside0.mk (HQ2.out.trans hq2); clear hq1 hq2 hq3)
              go_roundg 0
              case measure => omega
              case rel => exact .inr ⟨by first | rfl | go_num, by first | rfl | go_num, HS1, HS2⟩
            · go_wp2
              go_roundg 0
              case measure => omega
              case rel => exact .inr ⟨by first | rfl | go_num, HR4, HB4⟩
        · go_wp2
          first | go_end0 | (refine bodyPost_ret (results_none rfl _ _ _) rfl ?_)
          exact ⟨rfl, HR3.out, HB3.out⟩
end Go.Proofs.Yteopooljohdoiaa.Px
