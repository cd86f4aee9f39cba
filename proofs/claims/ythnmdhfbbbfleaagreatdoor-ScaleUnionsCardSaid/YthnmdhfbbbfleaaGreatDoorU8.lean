/- Part 8 of a proof: walks of the program in a small memory, plain lemmas. -/
import Derived.RangeFuncNested
import Derived.RangeFuncBound
import Derived.RangeFuncCalls
import Derived.RangeFuncLeaves
import Derived.RangeFuncBox
import Derived.Shelf.Abstract
import Derived.Shelf.RegionOpen
import Derived.WalkKit
import Derived.OwnWalkIn
import Derived.TacticsInMore
import Derived.LoopNIn
import Derived.LoopIn
import Derived.Test.YthnmdhfbbbfleaaGreatDoorProg
set_option linter.all false
namespace Go.Proofs.Nr
open Go Go.Proofs Go.RowKit Go.Shelf
attribute [local go_sem] Oper.semAt_some
/-- a term as the quick bounds see it: the prime, the factor's text, the factor, the quick logarithm -/
structure NT where
  p : Int
  s : ByteArray
  n : Int
  a : Int
def upto {α : Type} (f : Nat → α) (k : Nat) : List α := (List.range k).map f
theorem upto_succ {α : Type} (f : Nat → α) (k : Nat) : upto f (k + 1) = upto f k ++ [f k] := by simp [upto, List.range_succ]
theorem upto_length {α : Type} (f : Nat → α) (k : Nat) : (upto f k).length = k := by simp [upto]
/-- what a round keeps: what lay below n₀, and the iterator's box -/
def KpB (n₀ Bs : Nat) (W W' : World) : Prop := Below n₀ W W' ∧ W'.cell? ⟨Bs, 1, none⟩ = W.cell? ⟨Bs, 1, none⟩
theorem KpB.trans {n₀ Bs : Nat} {A B C : World} (h : KpB n₀ Bs A B) (k : KpB n₀ Bs B C) : KpB n₀ Bs A C := ⟨h.1.trans k.1, k.2.trans h.2⟩
set_option maxRecDepth 100000 in
set_option maxHeartbeats 2000000 in
/-- the iterator of 'all', for every loop body that keeps what lay below n₀ -/
theorem all1_in {α : Type} (pv : α → Int) (sv : α → ByteArray) (F : Fence) (n : Nat) (hf : F.fn 214) (hro : F.round = none) (hn : 1 ≤ n) (l Bs n₀ b off cap b2 off2 cap2 : Nat) (x0 : α) (xs : List α) (hlen : xs.length ≤ 1000000) (hb : b < n₀) (hb2 : b2 < n₀) (J Jx : List α → World → Prop)
    (hY : ∀ pre x W, J pre W → pre.length < xs.length → YieldAt F (n - 1) Tryz.prog l #[.int .i64 (pv x), .string (sv x)] W fun e W' =>
      (e = .returned (.bool true) ∧ J (pre ++ [x]) W' ∧ KpB n₀ Bs W W') ∨ (e = .returned (.bool false) ∧ Jx (pre ++ [x]) W'))
    (W : World) (hB0 : W.cell? ⟨Bs, 0, none⟩ = some (.slice (some ⟨b, off, none⟩) xs.length cap)) (hB1 : W.cell? ⟨Bs, 1, none⟩ = some (.slice (some ⟨b2, off2, none⟩) xs.length cap2))
    (hc : ∀ j, j < xs.length → W.cell? ⟨b, off + j, none⟩ = some (.int .i64 (pv (xs[j]?.getD x0)))) (hc2 : ∀ j, j < xs.length → W.cell? ⟨b2, off2 + j, none⟩ = some (.string (sv (xs[j]?.getD x0)))) (h0 : J [] W) :
    CallsIn F n Tryz.prog 214 #[.func (.yield l) #[] #[], .pointer (some ⟨Bs, 0, none⟩)] W fun e W' => (∃ v, e = .returned v) ∧
      ((∃ ys, ys = upto (fun j => xs[j]?.getD x0) xs.length ∧ J ys W') ∨ (∃ pre, (∃ k, k ≤ xs.length ∧ pre = upto (fun j => xs[j]?.getD x0) k) ∧ Jx pre W')) := by
  refine callsIn_of_wp Tryz.func214 rfl hf ?_ hro
  simp only [Tryz.ntmps214, List.size_toArray, List.length_cons, List.length_nil, Nat.reduceAdd, Nat.reduceSub, Array.replicate_succ, Array.replicate_zero, List.push_toArray, List.append_toArray, List.nil_append, List.cons_append]
  gi_wp2
  gi_loopw [8] (fun i wr => ∃ k : Nat, k ≤ xs.length ∧ i = .int .i64 k ∧ J (upto (fun j => xs[j]?.getD x0) k) wr ∧ KpB n₀ Bs W wr)
    (fun i _ => xs.length - (intOf i).toNat)
  case atStart => exact ⟨0, Nat.zero_le _, rfl, h0, Below.refl _ _, rfl⟩
  case round =>
    obtain ⟨k, hk, rfl, hJs, hnx⟩ := hrel
    have hcx : k < xs.length → wr.cell? ⟨b, off + k, none⟩ = some (.int .i64 (pv (xs[k]?.getD x0))) := fun h => (hnx.1.cell (p := ⟨b, off + k, none⟩) hb).trans (hc k h)
    have hcx2 : k < xs.length → wr.cell? ⟨b2, off2 + k, none⟩ = some (.string (sv (xs[k]?.getD x0))) := fun h => (hnx.1.cell (p := ⟨b2, off2 + k, none⟩) hb2).trans (hc2 k h)
    have hB1' : wr.cell? ⟨Bs, 1, none⟩ = some (.slice (some ⟨b2, off2, none⟩) xs.length cap2) := hnx.2.trans hB1
    by_cases hlt : k < xs.length
    · obtain ⟨x, hxk⟩ : ∃ x, xs[k]?.getD x0 = x := ⟨_, rfl⟩
      obtain ⟨fn, tmps, assign, body, hy, hR⟩ := hY _ x wr hJs (by rw [upto_length]; exact hlt)
      have hcx' := hcx hlt
      have hcx2' := hcx2 hlt
      rw [hxk] at hcx' hcx2'
      have hup : upto (fun j => xs[j]?.getD x0) (k + 1) = upto (fun j => xs[j]?.getD x0) k ++ [x] := by rw [upto_succ, hxk]
      clear hxk hcx hcx2
      gi_wp2
      refine hR.mono ?_
      rintro e W3 (⟨rfl, hJ3, hk3⟩ | ⟨rfl, hJx3⟩)
      · gi_wp2
        go_roundw
        case rel => exact ⟨k + 1, by omega, by simp, by rw [hup]; exact hJ3, hnx.trans hk3⟩
        case measure => simp [intOf]; omega
      · gi_wp2
        refine bodyPost_ret (results_none rfl _ _ _) rfl ?_
        exact ⟨⟨_, rfl⟩, .inr ⟨_, ⟨k + 1, by omega, hup.symm⟩, hJx3⟩⟩
    · obtain rfl : k = xs.length := by omega
      gi_wp2
      go_end0
      exact ⟨⟨_, rfl⟩, .inl ⟨_, rfl, hJs⟩⟩
set_option maxHeartbeats 1000000 in
/-- the value is boxed; the function value captures the box -/
theorem all_in (F : Fence) (n : Nat) (hf : F.fn 190) (hro : F.round = none) (v1 v2 v3 : Value) (w : World) :
    CallsIn F n Tryz.prog 190 #[.agg #[v1, v2, v3]] w fun e w' => e = .returned (.func (.func 214) #[] #[.pointer (some ⟨w.heap.size, 0, none⟩)]) ∧ w' = w.alloc (.cells #[v1, v2, v3] 148) := by
  refine callsIn_of_wp Tryz.func190 rfl hf ?_ hro
  simp only [Tryz.ntmps190, List.size_toArray, List.length_cons, List.length_nil, Nat.reduceAdd, Nat.reduceSub, Array.replicate_succ, Array.replicate_zero, List.push_toArray, List.append_toArray, List.nil_append, List.cons_append]
  gi_wp2
  go_ret
  exact ⟨rfl, rfl⟩
theorem all_stops {α : Type} (pv : α → Int) (sv : α → ByteArray) (F : Fence) (n : Nat) (hf : F.fn 214) (hro : F.round = none) (hn : 1 ≤ n) (Bs n₀ b off cap b2 off2 cap2 : Nat) (x0 : α) (xs : List α) (hlen : xs.length ≤ 1000000) (hb : b < n₀) (hb2 : b2 < n₀) (w : World) (hn₀ : n₀ ≤ w.heap.size) (hBn : Bs < w.heap.size)
    (hB0 : w.cell? ⟨Bs, 0, none⟩ = some (.slice (some ⟨b, off, none⟩) xs.length cap)) (hB1 : w.cell? ⟨Bs, 1, none⟩ = some (.slice (some ⟨b2, off2, none⟩) xs.length cap2))
    (hc : ∀ j, j < xs.length → w.cell? ⟨b, off + j, none⟩ = some (.int .i64 (pv (xs[j]?.getD x0)))) (hc2 : ∀ j, j < xs.length → w.cell? ⟨b2, off2 + j, none⟩ = some (.string (sv (xs[j]?.getD x0)))) :
    SeqStopsK F n Tryz.prog 214 #[.pointer (some ⟨Bs, 0, none⟩)] (fun x : α => #[Value.int .i64 (pv x), Value.string (sv x)]) (KpB n₀ Bs) (fun ys => ys = upto (fun j => xs[j]?.getD x0) xs.length)
      (fun pre => ∃ k, k ≤ xs.length ∧ pre = upto (fun j => xs[j]?.getD x0) k) xs.length w := fun l J Jx W hW _ _ hY h0 => by
  have hW' := hW.mono hn₀
  exact all1_in pv sv F n hf hro hn l Bs n₀ b off cap b2 off2 cap2 x0 xs hlen hb hb2 J Jx hY W ((hW.cell (p := ⟨Bs, 0, none⟩) hBn).trans hB0) ((hW.cell (p := ⟨Bs, 1, none⟩) hBn).trans hB1)
    (fun j hj => (hW'.cell (p := ⟨b, off + j, none⟩) hb).trans (hc j hj)) (fun j hj => (hW'.cell (p := ⟨b2, off2 + j, none⟩) hb2).trans (hc2 j hj)) h0
section
variable {F : Fence} {n : Nat} {P : Program} {ops : Array Oper} {Q : Exit → Act → World → Prop} {md : Region.Mode}
/-- a region without 'defer' in a round is what it is outside -/
theorem wpAnyIn_inRound {l : Nat} (hro : F.round = none) (hnd : ∀ (j : Nat) (o : Oper), ops[j]? = some o → ∀ c, o.op ≠ Op.defer c) : ∀ (fuel : Nat) (listed : Array Bool) (a : Act) (w : World),
    wpAnyIn F n P md ops Q fuel listed a w → wpAnyIn (F.inRound l) n P md ops Q fuel listed a w
  | 0, _, _, _, h => h
  | fuel + 1, listed, a, w, h => by
    refine ⟨h.1, fun i hi => ?_⟩
    have h1 := wpOpIn_mono (fun a w => wpAnyIn_inRound (l := l) hro hnd fuel _ a w) (h.2 i hi)
    unfold wpOpIn at h1 ⊢
    split
    · rename_i e
      simp only [e] at h1
      exact h1
    · rename_i o e
      simp only [e] at h1
      split
      · rename_i hw
        simp only [hw, if_true] at h1
        refine ⟨h1.1, ?_⟩
        have h2 := h1.2
        rw [Oper.semAt_eq _ _ _ (hnd i o e)] at h2 ⊢
        exact h2
      · rename_i hw
        simp only [hw] at h1
        exact h1
/-- no 'defer' among the operations -/
def noDefer (ops : Array Oper) : Bool := ops.all fun o => match o.op with | .defer _ => false | _ => true
theorem noDefer_spec (h : noDefer ops = true) : ∀ (j : Nat) (o : Oper), ops[j]? = some o → ∀ c, o.op ≠ Op.defer c := by
  intro j o hj c hc
  have := Array.all_eq_true'.1 h o (Array.mem_of_getElem? hj)
  rw [hc] at this
  cases this
theorem wpIn_region_round {l id : Nat} {a : Act} {w : World} (hro : F.round = none) (hm : P.follows .mixedOrders = true) (hnd : noDefer ops = true)
    (h : wpAnyIn F n P .any ops Q ops.size (Array.replicate ops.size false) a w.drew) : (Code.region id ops true).wpIn (F.inRound l) n P Q a w :=
  wpIn_region_any hm (wpAnyIn_inRound hro (noDefer_spec hnd) _ _ _ _ h)
end
/-- what is known of a term: the two callees' answers, and that nothing overflows -/
structure NOk (w : World) (most : Int) (x : NT) : Prop where
  small : ∀ W, Below w.heap.size w W → Calls Tryz.prog 70 #[.string x.s] W fun e W' => e = .returned (.tuple #[.int .i64 x.n, .bool true]) ∧ Below W.heap.size W W'
  fast : ∀ W, Below w.heap.size w W → Calls Tryz.prog 213 #[.int .i64 x.p] W fun e W' => e = .returned (.tuple #[.int .i64 x.a, .bool true]) ∧ Below W.heap.size W W'
  hi : ¬ most < x.n
  lo : ¬ x.n < wrap64 (-most)
def lowOf (l : List NT) : Int := l.foldl (fun s x => wrap64 (s + min (wrap64 (x.n * x.a)) (wrap64 (x.n * (if x.p = 2 then x.a else wrap64 (x.a + 1)))))) 0
def highOf (l : List NT) : Int := l.foldl (fun s x => wrap64 (s + max (wrap64 (x.n * x.a)) (wrap64 (x.n * (if x.p = 2 then x.a else wrap64 (x.a + 1)))))) 0
theorem lowOf_snoc (l : List NT) (x : NT) : lowOf (l ++ [x]) = wrap64 (lowOf l + min (wrap64 (x.n * x.a)) (wrap64 (x.n * (if x.p = 2 then x.a else wrap64 (x.a + 1))))) := by simp [lowOf]
theorem highOf_snoc (l : List NT) (x : NT) : highOf (l ++ [x]) = wrap64 (highOf l + max (wrap64 (x.n * x.a)) (wrap64 (x.n * (if x.p = 2 then x.a else wrap64 (x.a + 1))))) := by simp [highOf]
theorem w64 (n : Int) : IntKind.i64.wrap n = wrap64 n := by rw [IntKind.wrap_i64, wrap64]
theorem fin_lo1 (s n a : Int) : IntKind.i64.wrap (s + IntKind.i64.wrap (n * a)) = wrap64 (s + min (wrap64 (n * a)) (wrap64 (n * a))) := by
  rw [Int.min_self, w64, w64]
theorem fin_hi1 (s n a : Int) : IntKind.i64.wrap (s + IntKind.i64.wrap (n * a)) = wrap64 (s + max (wrap64 (n * a)) (wrap64 (n * a))) := by
  rw [Int.max_self, w64, w64]
theorem fin_lo2 (s x y : Int) : IntKind.i64.wrap (s + if IntKind.i64.wrap y < IntKind.i64.wrap x then IntKind.i64.wrap y else IntKind.i64.wrap x) = wrap64 (s + min (wrap64 x) (wrap64 y)) := by
  have h : ∀ a b : Int, (if b < a then b else a) = min a b := fun a b => by split <;> omega
  rw [h, w64, w64, w64]
theorem fin_hi2 (s x y : Int) : IntKind.i64.wrap (s + if IntKind.i64.wrap x < IntKind.i64.wrap y then IntKind.i64.wrap y else IntKind.i64.wrap x) = wrap64 (s + max (wrap64 x) (wrap64 y)) := by
  have h : ∀ a b : Int, (if a < b then b else a) = max a b := fun a b => by split <;> omega
  rw [h, w64, w64, w64]
set_option maxRecDepth 100000 in
set_option maxHeartbeats 4000000 in
theorem near_calls (most : Int) (w : World) (b off cap b2 off2 cap2 : Nat) (v3 : Value) (x0 : {x : NT // NOk w most x}) (xs : List {x : NT // NOk w most x}) (hlen : xs.length ≤ 1000000) (hb : b < w.heap.size) (hb2 : b2 < w.heap.size)
    (hc : ∀ j, j < xs.length → w.cell? ⟨b, off + j, none⟩ = some (.int .i64 ((xs[j]?.getD x0).1.p))) (hc2 : ∀ j, j < xs.length → w.cell? ⟨b2, off2 + j, none⟩ = some (.string ((xs[j]?.getD x0).1.s))) :
    Calls Tryz.prog 188 #[.agg #[.slice (some ⟨b, off, none⟩) xs.length cap, .slice (some ⟨b2, off2, none⟩) xs.length cap2, v3], .int .i64 most] w fun e W' => e = .returned (.tuple #[.int .i64 (lowOf (xs.map Subtype.val)), .int .i64 (highOf (xs.map Subtype.val)), .bool true]) ∧ Below w.heap.size w W' := by
  refine (callsIn_wide (n := 5)).1 ?_
  refine callsIn_of_wp_marks Tryz.func188 rfl trivial ?_ rfl
  simp only [Tryz.ntmps188, List.size_toArray, List.length_cons, List.length_nil, Nat.reduceAdd, Nat.reduceSub, Array.replicate_succ, Array.replicate_zero, List.push_toArray, List.append_toArray, List.nil_append, List.cons_append]
  gi_wp2_with (refine ⟨trivial, ?_⟩; gi_at_call 190; refine (all_in Fence.wide _ trivial rfl _ _ _ _).mono ?_; rintro e w' ⟨rfl, rfl⟩)
  obtain ⟨o0, ho0⟩ : ∃ o, (Obj.cells #[.slice (some ⟨b, off, none⟩) xs.length cap, .slice (some ⟨b2, off2, none⟩) xs.length cap2, v3] 148) = o := ⟨_, rfl⟩
  obtain ⟨W0, hW0⟩ : ∃ W0, ((((((w.alloc o0).alloc (.cells #[.int .i64 most] 3)).alloc (.cells #[.int .i64 0] 3)).alloc (.cells #[.int .i64 0] 3)).alloc (.cells #[.bool false] 4)).alloc o0) = W0 := ⟨_, rfl⟩
  have z1 : W0.heap.size = w.heap.size + 6 := by rw [← hW0]; simp
  have q1 : Boxed W0 (w.heap.size + 1) 3 (.int .i64 most) := by
    have := Boxed.new (w.alloc o0) 3 (.int .i64 most)
    rw [World.size_alloc] at this
    rw [← hW0]; exact (((this.alloc _).alloc _).alloc _).alloc _
  have q2 : Boxed W0 (w.heap.size + 2) 3 (.int .i64 0) := by
    have := Boxed.new ((w.alloc o0).alloc (.cells #[.int .i64 most] 3)) 3 (.int .i64 0)
    simp only [World.size_alloc] at this
    rw [← hW0]; exact ((this.alloc _).alloc _).alloc _
  have q3 : Boxed W0 (w.heap.size + 3) 3 (.int .i64 0) := by
    have := Boxed.new (((w.alloc o0).alloc (.cells #[.int .i64 most] 3)).alloc (.cells #[.int .i64 0] 3)) 3 (.int .i64 0)
    simp only [World.size_alloc] at this
    rw [← hW0]; exact (this.alloc _).alloc _
  have q4 : Boxed W0 (w.heap.size + 4) 4 (.bool false) := by
    have := Boxed.new ((((w.alloc o0).alloc (.cells #[.int .i64 most] 3)).alloc (.cells #[.int .i64 0] 3)).alloc (.cells #[.int .i64 0] 3)) 4 (.bool false)
    simp only [World.size_alloc] at this
    rw [← hW0]; exact this.alloc _
  have q5 : W0.heap[w.heap.size + 5]? = some o0 := by
    have := World.alloc_heap_new (((((w.alloc o0).alloc (.cells #[.int .i64 most] 3)).alloc (.cells #[.int .i64 0] 3)).alloc (.cells #[.int .i64 0] 3)).alloc (.cells #[.bool false] 4)) o0
    simp only [World.size_alloc] at this
    rw [← hW0]; exact this
  have hB0 : Below w.heap.size w W0 := by
    rw [← hW0]
    exact ((((((Below.refl _ w).alloc (Nat.le_refl _) _).alloc (by simp) _).alloc (by simp; omega) _).alloc (by simp; omega) _).alloc (by simp; omega) _).alloc (by simp; omega) _
  have d5 : W0.cell? ⟨w.heap.size + 5, 0, none⟩ = some (.slice (some ⟨b, off, none⟩) xs.length cap) := by simp [World.cell?, q5, ← ho0]
  have d6 : W0.cell? ⟨w.heap.size + 5, 1, none⟩ = some (.slice (some ⟨b2, off2, none⟩) xs.length cap2) := by simp [World.cell?, q5, ← ho0]
  rw [ho0, hW0]
  refine wpIn_rangeFunc_ownG rfl (by omega) (gf := 214) (lb := #[.pointer (some ⟨w.heap.size + 5, 0, none⟩)]) rfl trivial (enters_of Tryz.func214 (by kernel_rfl) rfl)
    (all_stops (fun x : {x : NT // NOk w most x} => x.1.p) (fun x => x.1.s) Fence.wide _ trivial rfl (by omega) (w.heap.size + 5) w.heap.size b off cap b2 off2 cap2 x0 xs hlen hb hb2 W0 (by omega) (by omega) d5 d6 (fun j hj => (hB0.cell (p := ⟨b, off + j, none⟩) hb).trans (hc j hj)) (fun j hj => (hB0.cell (p := ⟨b2, off2 + j, none⟩) hb2).trans (hc2 j hj)))
    KpB.trans ?kb (Below.refl _ _) (fun _ => rfl)
    (fun pre W => (W.cell? ⟨w.heap.size + 1, 0, none⟩ = some (.int .i64 most) ∧ W.cell? ⟨w.heap.size + 2, 0, none⟩ = some (.int .i64 (lowOf (pre.map Subtype.val))) ∧ W.frozen? ⟨w.heap.size + 2, 0, none⟩ = false ∧ W.cell? ⟨w.heap.size + 3, 0, none⟩ = some (.int .i64 (highOf (pre.map Subtype.val))) ∧ W.frozen? ⟨w.heap.size + 3, 0, none⟩ = false ∧ W.cell? ⟨w.heap.size + 4, 0, none⟩ = some (.bool false) ∧ W.frozen? ⟨w.heap.size + 4, 0, none⟩ = false ∧ W.cell? ⟨w.heap.size + 5, 1, none⟩ = some (.slice (some ⟨b2, off2, none⟩) xs.length cap2)) ∧ Below w.heap.size w W)
    (fun _ _ _ => False)
    (OwnFrom.and (Own.from (fun s A B row hs hg hr => ⟨cell_kept hs.1 hg hr, cell_kept hs.2.1 hg hr, (frozen_kept hs.2.1 hg hr).trans hs.2.2.1, cell_kept hs.2.2.2.1 hg hr, (frozen_kept hs.2.2.2.1 hg hr).trans hs.2.2.2.2.1, cell_kept hs.2.2.2.2.2.1 hg hr, (frozen_kept hs.2.2.2.2.2.1 hg hr).trans hs.2.2.2.2.2.2.1, cell_kept hs.2.2.2.2.2.2.2 hg hr⟩) _) (ownFrom_below (Nat.le_refl _) (by omega)))
    (fun _ _ _ _ _ hs _ _ => hs)
    ⟨⟨q1.cell, q2.cell, q2.frozen, q3.cell, q3.frozen, q4.cell, q4.frozen, d6⟩, hB0⟩
    (fun x => { tmps := #[.agg #[.slice (some ⟨b, off, none⟩) xs.length cap, .slice (some ⟨b2, off2, none⟩) xs.length cap2, v3], .int .i64 most, .pointer (some ⟨w.heap.size, 0, none⟩), .pointer (some ⟨w.heap.size + 1, 0, none⟩), .pointer (some ⟨w.heap.size + 2, 0, none⟩), .pointer (some ⟨w.heap.size + 3, 0, none⟩), .pointer (some ⟨w.heap.size + 4, 0, none⟩), .int .i64 x.1.p, .string x.1.s, undef, undef, undef, undef, undef,
      .agg #[.slice (some ⟨b, off, none⟩) xs.length cap, .slice (some ⟨b2, off2, none⟩) xs.length cap2, v3], .func (.func 214) #[] #[.pointer (some ⟨w.heap.size + 5, 0, none⟩)], .int .i64 x.1.p, .string x.1.s, undef, undef, undef, undef, undef, undef, undef, undef, undef, undef, undef, undef, undef, undef, undef, undef, undef, undef, undef, undef, undef, undef, undef, undef, undef, undef, undef, undef, undef, undef, undef, undef, undef, undef, undef, undef, undef, undef, undef, undef, undef, undef, undef, undef, undef, undef, undef, undef, undef, undef], defers := [] }) ?assign ?body ?done ?stop
  case kb =>
    intro W l o o' hl ho hoc _
    refine ⟨belowK_b (w := W0) (by omega) W l o o' hl ho hoc (by assumption), ?_⟩
    exact (Below.refl (w.heap.size + 6) W |>.grown (grownBy_putObj' W l o') (by have := (Array.getElem?_eq_some_iff.1 ho).1; omega) (fun k e => by cases e; omega)).cell (p := ⟨w.heap.size + 5, 1, none⟩) (by show w.heap.size + 5 < _; omega)
  case assign =>
    intro l x W K hK
    gi_wp2
    exact hK
  case body =>
    rintro l pre x W ⟨⟨c1, c2, f2, c3, f3, c4, f4, c5⟩, hB⟩ _
    have hd : 1 ≤ 5 - 1 - 1 := by omega
    have l1 : w.heap.size + 1 < W.heap.size := World.block_lt_of_cell? _ _ c1
    have l2 : w.heap.size + 2 < W.heap.size := World.block_lt_of_cell? _ _ c2
    have l3 : w.heap.size + 3 < W.heap.size := World.block_lt_of_cell? _ _ c3
    have l5 : w.heap.size + 5 < W.heap.size := World.block_lt_of_cell? _ _ c5
    have hhi := x.2.hi
    have hlo := x.2.lo
    gi_wp2_with (first
      | (refine ⟨trivial, ?_⟩; gi_at_call 70; refine (CallsIn.inRound l (callsIn_wide.2 (x.2.small W hB))).mono ?_; rintro e w1 ⟨rfl, hk1⟩; have a1 := (hk1.cell (p := ⟨w.heap.size + 1, 0, none⟩) l1).trans c1)
      | (refine ⟨trivial, ?_⟩; gi_at_call 213; refine (CallsIn.inRound l (callsIn_wide.2 (x.2.fast _ (hB.trans (hk1.mono hB.size))))).mono ?_; rintro e w2 ⟨rfl, hk2⟩; have hk12 := hk1.trans (hk2.mono hk1.size); have a2 := (hk12.cell (p := ⟨w.heap.size + 2, 0, none⟩) l2).trans c2; have a3 := (hk12.cell (p := ⟨w.heap.size + 3, 0, none⟩) l3).trans c3; have g2 := (hk12.frozen (p := ⟨w.heap.size + 2, 0, none⟩) l2).trans f2; have g3 := (hk12.frozen (p := ⟨w.heap.size + 3, 0, none⟩) l3).trans f3))
    all_goals
      rename_i hp2
      have fin : ∀ v1 v2 : Int, v1 = lowOf ((pre ++ [x]).map Subtype.val) → v2 = highOf ((pre ++ [x]).map Subtype.val) →
          KeepsFrom W0.heap.size W ((w2.drew.setCell ⟨w.heap.size + 2, 0, none⟩ (.int .i64 v1)).setCell ⟨w.heap.size + 3, 0, none⟩ (.int .i64 v2)) ∧ KpB w.heap.size (w.heap.size + 5) W ((w2.drew.setCell ⟨w.heap.size + 2, 0, none⟩ (.int .i64 v1)).setCell ⟨w.heap.size + 3, 0, none⟩ (.int .i64 v2)) ∧
          (((w2.drew.setCell ⟨w.heap.size + 2, 0, none⟩ (.int .i64 v1)).setCell ⟨w.heap.size + 3, 0, none⟩ (.int .i64 v2)).cell? ⟨w.heap.size + 1, 0, none⟩ = some (.int .i64 most) ∧ ((w2.drew.setCell ⟨w.heap.size + 2, 0, none⟩ (.int .i64 v1)).setCell ⟨w.heap.size + 3, 0, none⟩ (.int .i64 v2)).cell? ⟨w.heap.size + 2, 0, none⟩ = some (.int .i64 (lowOf ((pre ++ [x]).map Subtype.val))) ∧ ((w2.drew.setCell ⟨w.heap.size + 2, 0, none⟩ (.int .i64 v1)).setCell ⟨w.heap.size + 3, 0, none⟩ (.int .i64 v2)).frozen? ⟨w.heap.size + 2, 0, none⟩ = false ∧ ((w2.drew.setCell ⟨w.heap.size + 2, 0, none⟩ (.int .i64 v1)).setCell ⟨w.heap.size + 3, 0, none⟩ (.int .i64 v2)).cell? ⟨w.heap.size + 3, 0, none⟩ = some (.int .i64 (highOf ((pre ++ [x]).map Subtype.val))) ∧ ((w2.drew.setCell ⟨w.heap.size + 2, 0, none⟩ (.int .i64 v1)).setCell ⟨w.heap.size + 3, 0, none⟩ (.int .i64 v2)).frozen? ⟨w.heap.size + 3, 0, none⟩ = false ∧ ((w2.drew.setCell ⟨w.heap.size + 2, 0, none⟩ (.int .i64 v1)).setCell ⟨w.heap.size + 3, 0, none⟩ (.int .i64 v2)).cell? ⟨w.heap.size + 4, 0, none⟩ = some (.bool false) ∧ ((w2.drew.setCell ⟨w.heap.size + 2, 0, none⟩ (.int .i64 v1)).setCell ⟨w.heap.size + 3, 0, none⟩ (.int .i64 v2)).frozen? ⟨w.heap.size + 4, 0, none⟩ = false ∧ ((w2.drew.setCell ⟨w.heap.size + 2, 0, none⟩ (.int .i64 v1)).setCell ⟨w.heap.size + 3, 0, none⟩ (.int .i64 v2)).cell? ⟨w.heap.size + 5, 1, none⟩ = some (.slice (some ⟨b2, off2, none⟩) xs.length cap2)) ∧ Below w.heap.size w ((w2.drew.setCell ⟨w.heap.size + 2, 0, none⟩ (.int .i64 v1)).setCell ⟨w.heap.size + 3, 0, none⟩ (.int .i64 v2)) := by
        rintro v1 v2 rfl rfl
        have l4 : w.heap.size + 4 < W.heap.size := World.block_lt_of_cell? _ _ c4
        have ot : ∀ (k o : Nat), k ≠ 2 → k ≠ 3 → ∀ u1 u2 : Value, ((w2.drew.setCell ⟨w.heap.size + 2, 0, none⟩ u1).setCell ⟨w.heap.size + 3, 0, none⟩ u2).cell? ⟨w.heap.size + k, o, none⟩ = w2.cell? ⟨w.heap.size + k, o, none⟩ := by
          intro k o h2 h3 u1 u2
          rw [World.cell?_setCell_other _ _ _ _ (by intro h; simp only [Addr.mk.injEq] at h; omega), World.cell?_setCell_other _ _ _ _ (by intro h; simp only [Addr.mk.injEq] at h; omega)]
          rfl
        have hkw : Below w.heap.size W w2 := hk12.mono hB.size
        have hst : Below w.heap.size w2 ((w2.drew.setCell ⟨w.heap.size + 2, 0, none⟩ (.int .i64 (lowOf ((pre ++ [x]).map Subtype.val)))).setCell ⟨w.heap.size + 3, 0, none⟩ (.int .i64 (highOf ((pre ++ [x]).map Subtype.val)))) :=
          ((Below.refl w.heap.size w2).drew.setCell (p := ⟨w.heap.size + 2, 0, none⟩) (by show w.heap.size ≤ w.heap.size + 2; omega) _).setCell (p := ⟨w.heap.size + 3, 0, none⟩) (by show w.heap.size ≤ w.heap.size + 3; omega) _
        refine ⟨(⟨hk12.size, fun k o _ hk _ => (hk12.block k (Array.getElem?_eq_some_iff.1 hk).1).trans hk⟩ : KeepsFrom W0.heap.size W w2).trans ((((KeepsOthers.drew w2).trans (KeepsOthers.setCell _ _ _)).trans (KeepsOthers.setCell _ _ _)).from _), ⟨hkw.trans hst, ?_⟩, ⟨?_, ?_, ?_, ?_, ?_, ?_, ?_, ?_⟩, (hB.trans hkw).trans hst⟩
        · rw [ot 5 1 (by omega) (by omega)]; exact hk12.cell (p := ⟨w.heap.size + 5, 1, none⟩) l5
        · rw [ot 1 0 (by omega) (by omega)]; exact (hk12.cell (p := ⟨w.heap.size + 1, 0, none⟩) l1).trans c1
        · rw [World.cell?_setCell_other _ _ _ _ (by intro h; simp only [Addr.mk.injEq] at h; omega)]
          exact World.cell?_setCell_same' _ _ _ (by rw [cell_drew_own, a2]; rfl)
        · rw [World.frozen?_setCell, World.frozen?_setCell, frozen_drew_own]; exact g2
        · exact World.cell?_setCell_same' _ _ _ (by rw [World.cell?_setCell_other _ _ _ _ (by intro h; simp only [Addr.mk.injEq] at h; omega), cell_drew_own, a3]; rfl)
        · rw [World.frozen?_setCell, World.frozen?_setCell, frozen_drew_own]; exact g3
        · rw [ot 4 0 (by omega) (by omega)]; exact (hk12.cell (p := ⟨w.heap.size + 4, 0, none⟩) l4).trans c4
        · rw [World.frozen?_setCell, World.frozen?_setCell, frozen_drew_own]; exact (hk12.frozen (p := ⟨w.heap.size + 4, 0, none⟩) l4).trans f4
        · rw [ot 5 1 (by omega) (by omega)]; exact (hk12.cell (p := ⟨w.heap.size + 5, 1, none⟩) l5).trans c5
    all_goals refine wpIn_region_round (F := Fence.wide) rfl (by kernel_rfl) (by kernel_rfl) ?_
    all_goals
      refine wpAnyIn_take (i := 1) (v := ?_) rfl rfl (by kernel_rfl) (by kernel_rfl) (by kernel_rfl) (fun _ _ _ h => h) ⟨Or.inl ⟨by rfl, ?_⟩, fun _ => rfl⟩ ?_
      rotate_left 1
      · (intro w; go_simp; try with_reducible rfl)
      refine wpAnyIn_take (i := 2) (v := ?_) rfl rfl (by kernel_rfl) (by kernel_rfl) (by kernel_rfl) (fun _ _ _ h => h) ⟨Or.inl ⟨by rfl, ?_⟩, fun _ => rfl⟩ ?_
      rotate_left 1
      · (intro w; go_simp; try with_reducible rfl)
      refine wpAnyIn_take (i := 4) (v := ?_) rfl rfl (by kernel_rfl) (by kernel_rfl) (by kernel_rfl) (fun _ _ _ h => h) ⟨Or.inl ⟨by rfl, ?_⟩, fun _ => rfl⟩ ?_
      rotate_left 1
      · (intro w; go_simp; try with_reducible rfl)
      refine wpAnyIn_take (i := 5) (v := ?_) rfl rfl (by kernel_rfl) (by kernel_rfl) (by kernel_rfl) (fun _ _ _ h => h) ⟨Or.inl ⟨by rfl, ?_⟩, fun _ => rfl⟩ ?_
      rotate_left 1
      · (intro w; go_simp; try with_reducible rfl)
      refine wpAnyIn_take (i := 10) (v := ?_) rfl rfl (by kernel_rfl) (by kernel_rfl) (by kernel_rfl) (fun _ _ _ h => h) ⟨Or.inl ⟨by rfl, ?_⟩, fun _ => rfl⟩ ?_
      rotate_left 1
      · (intro w; go_simp; try with_reducible rfl)
      refine wpAnyIn_take (i := 11) (v := ?_) rfl rfl (by kernel_rfl) (by kernel_rfl) (by kernel_rfl) (fun _ _ _ h => h) ⟨Or.inl ⟨by rfl, ?_⟩, fun _ => rfl⟩ ?_
      rotate_left 1
      · (intro w; go_simp; try with_reducible rfl)
      refine wpAnyIn_take (i := 13) (v := ?_) rfl rfl (by kernel_rfl) (by kernel_rfl) (by kernel_rfl) (fun _ _ _ h => h) ⟨Or.inl ⟨by rfl, ?_⟩, fun _ => rfl⟩ ?_
      rotate_left 1
      · (intro w; go_simp; try with_reducible rfl)
      refine wpAnyIn_take (i := 14) (v := ?_) rfl rfl (by kernel_rfl) (by kernel_rfl) (by kernel_rfl) (fun _ _ _ h => h) ⟨Or.inl ⟨by rfl, ?_⟩, fun _ => rfl⟩ ?_
      rotate_left 1
      · (intro w; go_simp; try with_reducible rfl)
      refine wpAnyIn_take (i := 3) (v := ?_) rfl rfl (by kernel_rfl) (by kernel_rfl) (by kernel_rfl) (fun _ _ _ h => h) ⟨Or.inl ⟨by rfl, ?_⟩, fun _ => rfl⟩ ?_
      rotate_left 1
      · (intro w; go_simp; try with_reducible rfl)
      refine wpAnyIn_take (i := 6) (v := ?_) rfl rfl (by kernel_rfl) (by kernel_rfl) (by kernel_rfl) (fun _ _ _ h => h) ⟨Or.inl ⟨by rfl, ?_⟩, fun _ => rfl⟩ ?_
      rotate_left 1
      · (intro w; go_simp; try with_reducible rfl)
      refine wpAnyIn_take (i := 12) (v := ?_) rfl rfl (by kernel_rfl) (by kernel_rfl) (by kernel_rfl) (fun _ _ _ h => h) ⟨Or.inl ⟨by rfl, ?_⟩, fun _ => rfl⟩ ?_
      rotate_left 1
      · (intro w; go_simp; try with_reducible rfl)
      refine wpAnyIn_take (i := 15) (v := ?_) rfl rfl (by kernel_rfl) (by kernel_rfl) (by kernel_rfl) (fun _ _ _ h => h) ⟨Or.inl ⟨by rfl, ?_⟩, fun _ => rfl⟩ ?_
      rotate_left 1
      · (intro w; go_simp; try with_reducible rfl)
      refine wpAnyIn_take (i := 7) (v := ?_) rfl rfl (by kernel_rfl) (by kernel_rfl) (by kernel_rfl) (fun _ _ _ h => h) ⟨Or.inl ⟨by rfl, ?_⟩, fun _ => rfl⟩ ?_
      rotate_left 1
      · (intro w; go_simp; try with_reducible rfl)
      refine wpAnyIn_take (i := 16) (v := ?_) rfl rfl (by kernel_rfl) (by kernel_rfl) (by kernel_rfl) (fun _ _ _ h => h) ⟨Or.inl ⟨by rfl, ?_⟩, fun _ => rfl⟩ ?_
      rotate_left 1
      · (intro w; go_simp; try with_reducible rfl)
      refine wpAnyIn_ready (rs := [0, 9]) (by kernel_rfl) (by simp) ?_
      refine AllReadyIn.cons rfl (fun K hK => ?_) ?_
      · go_simp
        refine hK _ _ ?_
        clear hK K
        refine wpAnyIn_take (i := 8) (v := ?_) rfl rfl (by kernel_rfl) (by kernel_rfl) (by kernel_rfl) (fun _ _ _ h => h) ⟨Or.inl ⟨by rfl, ?_⟩, fun _ => rfl⟩ ?_
        rotate_left 1
        · (intro w; go_simp; try with_reducible rfl)
        refine wpAnyIn_ready (rs := [9, 18]) (by kernel_rfl) (by simp) ?_
        refine AllReadyIn.cons rfl (fun K hK => ?_) ?_
        · go_simp
          refine hK _ _ ?_
          clear hK K
          refine wpAnyIn_take (i := 17) (v := ?_) rfl rfl (by kernel_rfl) (by kernel_rfl) (by kernel_rfl) (fun _ _ _ h => h) ⟨Or.inl ⟨by rfl, ?_⟩, fun _ => rfl⟩ ?_
          rotate_left 1
          · (intro w; go_simp; try with_reducible rfl)
          refine wpAnyIn_ready (rs := [18]) (by kernel_rfl) (by simp) ?_
          refine AllReadyIn.cons rfl (fun K hK => ?_) AllReadyIn.nil
          go_simp
          refine hK _ _ ?_
          clear hK K
          refine wpAnyIn_ready (rs := [19]) (by kernel_rfl) (by simp) ?_
          refine AllReadyIn.cons rfl (fun K hK => ?_) AllReadyIn.nil
          go_simp
          refine hK _ _ ?_
          clear hK K
          refine wpAnyIn_done (by kernel_rfl) ?_ _
          exact fin _ _ (by rw [List.map_append, List.map_cons, List.map_nil, lowOf_snoc]; first | (rw [if_pos (eq_of_beq hp2)]; exact fin_lo1 _ _ _) | (rw [if_neg (show ¬ x.val.p = 2 from fun e => by rw [e] at hp2; cases hp2)]; exact fin_lo2 _ _ _)) (by rw [List.map_append, List.map_cons, List.map_nil, highOf_snoc]; first | (rw [if_pos (eq_of_beq hp2)]; exact fin_hi1 _ _ _) | (rw [if_neg (show ¬ x.val.p = 2 from fun e => by rw [e] at hp2; cases hp2)]; exact fin_hi2 _ _ _))
        · refine AllReadyIn.cons rfl (fun K hK => ?_) AllReadyIn.nil
          go_simp
          refine hK _ _ ?_
          clear hK K
          refine wpAnyIn_ready (rs := [9]) (by kernel_rfl) (by simp) ?_
          refine AllReadyIn.cons rfl (fun K hK => ?_) AllReadyIn.nil
          go_simp
          refine hK _ _ ?_
          clear hK K
          refine wpAnyIn_take (i := 17) (v := ?_) rfl rfl (by kernel_rfl) (by kernel_rfl) (by kernel_rfl) (fun _ _ _ h => h) ⟨Or.inl ⟨by rfl, ?_⟩, fun _ => rfl⟩ ?_
          rotate_left 1
          · (intro w; go_simp; try with_reducible rfl)
          refine wpAnyIn_ready (rs := [19]) (by kernel_rfl) (by simp) ?_
          refine AllReadyIn.cons rfl (fun K hK => ?_) AllReadyIn.nil
          go_simp
          refine hK _ _ ?_
          clear hK K
          refine wpAnyIn_done (by kernel_rfl) ?_ _
          exact fin _ _ (by rw [List.map_append, List.map_cons, List.map_nil, lowOf_snoc]; first | (rw [if_pos (eq_of_beq hp2)]; exact fin_lo1 _ _ _) | (rw [if_neg (show ¬ x.val.p = 2 from fun e => by rw [e] at hp2; cases hp2)]; exact fin_lo2 _ _ _)) (by rw [List.map_append, List.map_cons, List.map_nil, highOf_snoc]; first | (rw [if_pos (eq_of_beq hp2)]; exact fin_hi1 _ _ _) | (rw [if_neg (show ¬ x.val.p = 2 from fun e => by rw [e] at hp2; cases hp2)]; exact fin_hi2 _ _ _))
      · refine AllReadyIn.cons rfl (fun K hK => ?_) AllReadyIn.nil
        go_simp
        refine hK _ _ ?_
        clear hK K
        refine wpAnyIn_take (i := 17) (v := ?_) rfl rfl (by kernel_rfl) (by kernel_rfl) (by kernel_rfl) (fun _ _ _ h => h) ⟨Or.inl ⟨by rfl, ?_⟩, fun _ => rfl⟩ ?_
        rotate_left 1
        · (intro w; go_simp; try with_reducible rfl)
        refine wpAnyIn_ready (rs := [0]) (by kernel_rfl) (by simp) ?_
        refine AllReadyIn.cons rfl (fun K hK => ?_) AllReadyIn.nil
        go_simp
        refine hK _ _ ?_
        clear hK K
        refine wpAnyIn_take (i := 8) (v := ?_) rfl rfl (by kernel_rfl) (by kernel_rfl) (by kernel_rfl) (fun _ _ _ h => h) ⟨Or.inl ⟨by rfl, ?_⟩, fun _ => rfl⟩ ?_
        rotate_left 1
        · (intro w; go_simp; try with_reducible rfl)
        refine wpAnyIn_ready (rs := [18]) (by kernel_rfl) (by simp) ?_
        refine AllReadyIn.cons rfl (fun K hK => ?_) AllReadyIn.nil
        go_simp
        refine hK _ _ ?_
        clear hK K
        refine wpAnyIn_ready (rs := [19]) (by kernel_rfl) (by simp) ?_
        refine AllReadyIn.cons rfl (fun K hK => ?_) AllReadyIn.nil
        go_simp
        refine hK _ _ ?_
        clear hK K
        refine wpAnyIn_done (by kernel_rfl) ?_ _
        exact fin _ _ (by rw [List.map_append, List.map_cons, List.map_nil, lowOf_snoc]; first | (rw [if_pos (eq_of_beq hp2)]; exact fin_lo1 _ _ _) | (rw [if_neg (show ¬ x.val.p = 2 from fun e => by rw [e] at hp2; cases hp2)]; exact fin_lo2 _ _ _)) (by rw [List.map_append, List.map_cons, List.map_nil, highOf_snoc]; first | (rw [if_pos (eq_of_beq hp2)]; exact fin_hi1 _ _ _) | (rw [if_neg (show ¬ x.val.p = 2 from fun e => by rw [e] at hp2; cases hp2)]; exact fin_hi2 _ _ _))
  case done =>
    rintro D ys W hD rfl ⟨⟨c1, c2, f2, c3, f3, c4, f4, c5⟩, hB⟩ hK
    have hmx : Tryz.prog.follows .mixedOrders = true := by kernel_rfl
    gi_wp2
    gi_region_o
    all_goals gi_wp2
    all_goals (try go_bits)
    have hup : upto (fun j => xs[j]?.getD x0) xs.length = xs := by
      apply List.ext_getElem
      · simp [upto]
      · intro i h1 h2
        simp [upto, h2]
    rw [hup] at c2 c3
    have hun : (upto (fun j => xs[j]?.getD x0) xs.length).unattach = xs.map Subtype.val := by rw [hup]; rfl
    rw [hun]
    obtain ⟨W1, hW1⟩ : ∃ W1, ((W.setCell ⟨w.heap.size + 2, 0, none⟩ (.int .i64 (lowOf (xs.map Subtype.val)))).setCell ⟨w.heap.size + 3, 0, none⟩ (.int .i64 (highOf (xs.map Subtype.val)))).setCell ⟨w.heap.size + 4, 0, none⟩ (.bool true) = W1 := ⟨_, rfl⟩
    have k2 : W1.cell? ⟨w.heap.size + 2, 0, none⟩ = some (.int .i64 (lowOf (xs.map Subtype.val))) := by
      rw [← hW1, World.cell?_setCell_other _ _ _ _ (by intro h; simp only [Addr.mk.injEq] at h; omega), World.cell?_setCell_other _ _ _ _ (by intro h; simp only [Addr.mk.injEq] at h; omega)]
      exact World.cell?_setCell_same' _ _ _ (by rw [c2]; rfl)
    have k3 : W1.cell? ⟨w.heap.size + 3, 0, none⟩ = some (.int .i64 (highOf (xs.map Subtype.val))) := by
      rw [← hW1, World.cell?_setCell_other _ _ _ _ (by intro h; simp only [Addr.mk.injEq] at h; omega)]
      exact World.cell?_setCell_same' _ _ _ (by rw [World.cell?_setCell_other _ _ _ _ (by intro h; simp only [Addr.mk.injEq] at h; omega), c3]; rfl)
    have k4 : W1.cell? ⟨w.heap.size + 4, 0, none⟩ = some (.bool true) := by
      rw [← hW1]
      exact World.cell?_setCell_same' _ _ _ (by rw [World.cell?_setCell_other _ _ _ _ (by intro h; simp only [Addr.mk.injEq] at h; omega), World.cell?_setCell_other _ _ _ _ (by intro h; simp only [Addr.mk.injEq] at h; omega), c4]; rfl)
    have hKK : KeepsOthers W W1.drew := by
      rw [← hW1]
      exact (((KeepsOthers.setCell _ _ _).trans (KeepsOthers.setCell _ _ _)).trans (KeepsOthers.setCell _ _ _)).trans (KeepsOthers.drew _)
    have hBB : Below w.heap.size w W1.drew := by
      rw [← hW1]
      exact (((hB.setCell (p := ⟨w.heap.size + 2, 0, none⟩) (by show w.heap.size ≤ w.heap.size + 2; omega) _).setCell (p := ⟨w.heap.size + 3, 0, none⟩) (by show w.heap.size ≤ w.heap.size + 3; omega) _).setCell (p := ⟨w.heap.size + 4, 0, none⟩) (by show w.heap.size ≤ w.heap.size + 4; omega) _).drew
    have hK1 := hKK.same D _ hK rfl
    have fin : ∀ {k : Nat} {v : Value}, W1.cell? ⟨w.heap.size + k, 0, none⟩ = some v → (W1.drew.putObj D (.deferred none)).cell? ⟨w.heap.size + k, 0, none⟩ = some v := fun h => cell_kept (W := W1.drew) h (grownBy_putObj' _ D (.deferred none)) (fun r e => by cases e; exact ⟨_, hK1, rfl⟩)
    have m2 := fin k2
    have m3 := fin k3
    have m4 := fin k4
    show bodyPostM Fence.wide 5 Tryz.prog Tryz.f188 _ Exit.ret _ (World.drew (((W.setCell ⟨w.heap.size + 2, 0, none⟩ (.int .i64 (lowOf (xs.map Subtype.val)))).setCell ⟨w.heap.size + 3, 0, none⟩ (.int .i64 (highOf (xs.map Subtype.val)))).setCell ⟨w.heap.size + 4, 0, none⟩ (.bool true)))
    rw [hW1]
    refine ⟨by simp, .inl ⟨_, _, rfl, run_takeDeferred hK1, ?_⟩⟩
    refine ⟨_, ?_, rfl, hBB.trans (belowK_b (w := w) (Nat.le_refl _) _ D _ _ (by omega) hK1 rfl rfl)⟩
    simp [results, Tryz.f188, go_sem, m2, m3, m4]
  case stop =>
    rintro D c pre W _ _ h _
    exact h.elim
end Go.Proofs.Nr
