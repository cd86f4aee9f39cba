/- For any described scale and any two modes the law returns true: the mode of a mode is the mode of the sum, the steps add up to the period, the scale of its notes and the subset of all are the scale. No further condition. -/
import Derived.Test.YthnmdhfbbbfleaaGreatDoorCards
import Derived.Test.YthnmdhfbbbfleaaGreatDoorTie
import Derived.WalkKit
import Derived.ProofKit
import Derived.Lay
import Derived.Carry
import Derived.MakeChecks
import Derived.SevenTiedAt
import Derived.Stop.LaidErr
import Derived.Lib.LaidTab
import Derived.Test.YthnmdhfbbbfleaaGreatDoorT11
set_option linter.all false
namespace Go.Proofs.Gh
open Go Go.Proofs Go.Proofs.Zz
set_option maxRecDepth 10000
set_option linter.unusedSimpArgs false
/-- a described scale -/
structure WOk (kd nm : Nat) (xs : List Int) : Prop where
  kd : kd < 256
  nm : nm < 256
  len : xs.length = 24
  bd : ∀ x ∈ xs, -128 ≤ x ∧ x ≤ 127
theorem world_load {h h' : GH} {b : Bool} {kd nm : Int} {xs : List Int} (hx : xs.length = 24) (hl : (h.alloc ⟨wCells b kd nm xs, true, false⟩).le h') : h'.load h.n 0 27 = some (wCells b kd nm xs) := by
  have hcl := wCells_length (b := b) (kd := kd) (nm := nm) hx
  refine load_mono hl (load_at (cells := wCells b kd nm xs) (ro := false) (Nat.lt_succ_self _) (alloc_self _ _) (by omega) ?_)
  rw [List.drop_zero, List.take_of_length_le (by omega)]
theorem c_lawSubsets {h : GH} {lv : Value} {l : List Int} {b : Bool} {kd nm : Nat} {xs : List Int} (hw : WOk kd nm xs) (hl : InAt h lv l) :
    ∃ r h', GCalls Tryz.prog gE 6 #[wV b kd nm xs, lv] h r h' ∧ h.le h' ∧ r = .bool true := by
  obtain ⟨lp, lc', rfl, hls⟩ := id hl
  have hcl := wCells_length (b := b) (kd := kd) (nm := nm) hw.len
  obtain ⟨H, hH⟩ : ∃ H, h.alloc ⟨wCells b kd nm xs, true, false⟩ = H := ⟨_, rfl⟩
  have hle0 : h.le H := by rw [← hH]; exact GH.le_alloc _ _
  have hwl : ∀ {h'}, H.le h' → h'.load h.n 0 27 = some (wCells b kd nm xs) := fun hl => world_load hw.len (by rw [hH]; exact hl)
  refine gcalls_in (pl := pl6) [.tmp 4] mixed Tryz.func6 rfl rfl (by exact ok6) ?_
  simp only [go_sem, ↓reduceIte, wV, wCells_one, hH]
  refine callK_intro (c_known) ?_
  rintro _ h1 ⟨hle1, rfl⟩
  have hle01 := hle0.trans hle1
  simp only [go_sem, Nat.reduceBEq, Array.reduceGetElem?, ↓reduceIte]
  refine ifK_intro (fun c1 => ?_) (fun c1 => ?_)
  · simp only [go_sem, c1]
    refine callK_intro (c_known) ?_
    rintro _ h2 ⟨hle2, rfl⟩
    simp only [go_sem]
    exact hle01.trans hle2
  have hlen : l.length ≤ 10 := by have := of_decide_eq_false c1; omega
  have hw1 := hwl hle1
  simp only [go_sem, Nat.reduceBEq, c1, hw1]
  refine callK_intro (c_Make' hw.kd hw.nm hw.len hw.bd) ?_
  rintro sv h2 ⟨hle2, N, D, L, F, sc, _, hs⟩
  obtain ⟨g, o, c, g2, o2, c2, rfl, hp, hn⟩ := hs.form
  have hP := prW_pr b
  have hpl := hP.len
  have hk := sc.len
  simp only [go_sem, Nat.reduceBEq, Nat.reduceAdd, ↓reduceIte]
  have hle02 := hle01.trans hle2
  obtain ⟨G, hG⟩ : ∃ G, h2.alloc ⟨[.slice (some ⟨g, o, none⟩) (prW b).length c, .slice (some ⟨g2, o2, none⟩) N.length c2], true, false⟩ = G := ⟨_, rfl⟩
  have dG : Duo G h2.n (.slice (some ⟨g, o, none⟩) (prW b).length c) (.slice (some ⟨g2, o2, none⟩) N.length c2) := by rw [← hG]; exact Duo.new _ _ _
  have hleG : h2.le G := by rw [← hG]; exact GH.le_alloc _ _
  have hGn : G.n = h2.n + 1 := by rw [← hG]; rfl
  simp only [go_sem, Nat.reduceBEq, alloc_store2s (h := h2) (a := .slice none 0 0) (b := .slice none 0 0) (v := .slice (some ⟨g, o, none⟩) (prW b).length c) (w := .slice (some ⟨g2, o2, none⟩) N.length c2) rfl rfl, hG, dG.l2]
  refine callK_intro (c_scSubset hP F sc (hs.mono hleG) (hl.mono (hle02.trans hleG)) (by omega)) ?_
  rintro rr h3 ⟨hle3, hr⟩
  obtain ⟨p1, n1, q1, p2, n2, q2, rfl, hr1, hr2⟩ : ∃ p1 n1 q1 p2 n2 q2, rr = .tuple #[.agg #[.slice p1 n1 q1, .slice p2 n2 q2], .int .i64 (errOf N.length l)] ∧ (errOf N.length l ≠ 0 → n2 = 0) ∧ (errOf N.length l = 0 → ScAt h3 (.agg #[.slice p1 n1 q1, .slice p2 n2 q2]) (prW b) (subN N l)) := by
    rcases hr with ⟨e1, rfl⟩ | ⟨e1, tv, rfl, ht⟩
    · exact ⟨_, _, _, _, _, _, rfl, fun _ => rfl, fun h => absurd h e1⟩
    · obtain ⟨a1, a2, a3, a4, a5, a6, rfl, _, _⟩ := ht.form
      exact ⟨_, _, _, _, _, _, by rw [e1], fun h => absurd e1 h, fun _ => ht⟩
  obtain ⟨G2, hG2⟩ : ∃ G, h3.alloc ⟨[.slice p1 n1 q1, .slice p2 n2 q2], true, false⟩ = G := ⟨_, rfl⟩
  have dT : Duo G2 h3.n (.slice p1 n1 q1) (.slice p2 n2 q2) := by rw [← hG2]; exact Duo.new _ _ _
  have hleG2 : h3.le G2 := by rw [← hG2]; exact GH.le_alloc _ _
  have dS := (dG.mono hle3).mono hleG2
  have hle0F := ((hle02.trans hleG).trans hle3).trans hleG2
  simp only [go_sem, Nat.reduceBEq, Nat.reduceAdd, Array.reduceGetElem?, ↓reduceIte, alloc_store2s (h := h3) (a := .slice none 0 0) (b := .slice none 0 0) (v := .slice p1 n1 q1) (w := .slice p2 n2 q2) rfl rfl, hG2]
  refine ifK_intro (fun c3 => ?_) (fun c3 => ?_)
  · have c3' : l = [] := List.length_eq_zero_iff.1 (by have := of_decide_eq_true c3; omega)
    subst c3'
    simp only [go_sem, Nat.reduceBEq, Int.reduceLT]
    refine loopK_unroll ?_
    have e13 : errOf N.length [] = 13 := by simp [errOf]
    rw [e13] at hr1
    simp only [go_sem, Nat.reduceBEq, Int.reduceLT, Int.reduceNe, Array.reduceGetElem?, ↓reduceIte, e13, dT.l1, hr1 (by decide)]
    exact hle0F
  have c3' : l ≠ [] := by rintro rfl; simp at c3
  obtain ⟨lg, lo, rfl, hlr⟩ := hls c3'
  have hlF := hlr.mono hle0F
  simp only [go_sem, Nat.reduceBEq]
  refine loopK_inv (α := Nat) (fun i => l.length - i) (fun i ts g' => ts 1 = .slice (some ⟨lg, lo, none⟩) l.length lc' ∧ ts 5 = .pointer (some ⟨h2.n, 0, none⟩) ∧ ts 6 = .pointer (some ⟨h3.n, 0, none⟩) ∧ ts 7 = .int .i64 (errOf N.length l) ∧ ts 8 = .int .i64 (errTo N.length l i) ∧ ts 33 = .slice (some ⟨lg, lo, none⟩) l.length lc' ∧ ts 34 = .int .i64 l.length ∧ ts 35 = .int .i64 i ∧ i ≤ l.length ∧ G2 = g') ?_ (a0 := 0) ?_
  · rintro i ts g' ⟨t1, t5, t6, t7, t8, t33, t34, t35, hi, rfl⟩
    simp only [go_sem, t34, t35]
    refine ifK_intro (fun c4 => ?_) (fun c4 => ?_)
    · have c4' := of_decide_eq_true c4
      have hll := hlF.load (ints_get (i := i) (x := l[i]?.getD 0) (by rw [List.getElem?_eq_getElem (by omega)]; rfl))
      rw [Nat.mul_one] at hll
      have wi : IntKind.i64.wrap ((i : Int) + 1) = ((i + 1 : Nat) : Int) := wrap_i64 (by omega) (by omega)
      obtain ⟨x, hx⟩ : ∃ x, l[i]?.getD 0 = x := ⟨_, rfl⟩
      rw [hx] at hll
      simp only [go_sem, Nat.reduceBEq, Array.reduceGetElem?, ↓reduceIte, t8, t33, t35, c4', hll]
      refine ifK_intro (fun c5 => ?_) (fun c5 => ?_)
      · have he : errTo N.length l i = 0 := of_decide_eq_true c5
        have nxt : errTo N.length l (i + 1) = errAt N.length l i := by rw [errTo, if_pos he]
        simp only [go_sem, Nat.reduceBEq, Array.reduceGetElem?, c5]
        refine ifK_intro (fun c6 => ?_) (fun c6 => ?_)
        · have c6' := of_decide_eq_true c6
          simp only [go_sem, Nat.reduceBEq, Int.reduceEq, Array.reduceGetElem?, ↓reduceIte, t1, t5, t6, t7, t33, t34, t35, c5, c6, wi]
          exact ⟨i + 1, by omega, by rw [nxt, errAt, hx, if_pos (.inl c6')], rfl, by omega⟩
        · have c6' := of_decide_eq_false c6
          simp only [go_sem, Nat.reduceBEq, Array.reduceGetElem?, ↓reduceIte, t5, c5, c6, dS.l1]
          refine ifK_intro (fun c7 => ?_) (fun c7 => ?_)
          · have c7' := of_decide_eq_true c7
            simp only [go_sem, Nat.reduceBEq, Int.reduceEq, Array.reduceGetElem?, ↓reduceIte, t1, t5, t6, t7, t33, t34, t35, c5, c6, c7, wi]
            exact ⟨i + 1, by omega, by rw [nxt, errAt, hx, if_pos (.inr c7')], rfl, by omega⟩
          · have c7' := of_decide_eq_false c7
            have hn3 : ¬ (x < 0 ∨ (N.length : Int) ≤ x) := by omega
            simp only [go_sem, Nat.reduceBEq, Array.reduceGetElem?, ↓reduceIte, t8, c5, c6, c7]
            refine ifK_intro (fun c8 => ?_) (fun c8 => ?_)
            · have c8' := of_decide_eq_true c8
              have wm : IntKind.i64.wrap ((i : Int) - 1) = ((i - 1 : Nat) : Int) := by rw [wrap_i64 (by omega) (by omega)]; omega
              have hm : ((i - 1 : Nat) : Int) < l.length := by omega
              have hll2 := hlF.load (ints_get (i := i - 1) (x := l[i - 1]?.getD 0) (by rw [List.getElem?_eq_getElem (by omega)]; rfl))
              rw [Nat.mul_one] at hll2
              obtain ⟨y, hy⟩ : ∃ y, l[i - 1]?.getD 0 = y := ⟨_, rfl⟩
              rw [hy] at hll2
              simp only [go_sem, Nat.reduceBEq, Array.reduceGetElem?, ↓reduceIte, t1, c5, c6, c7, c8, wm, hm, hll2]
              refine ifK_intro (fun c9 => ?_) (fun c9 => ?_)
              · have c9' := of_decide_eq_true c9
                simp only [go_sem, Nat.reduceBEq, t1, t5, t6, t7, t33, t34, t35, wi]
                exact ⟨i + 1, by omega, by rw [nxt, errAt, hx, hy, if_neg hn3, if_pos ⟨by omega, c9'⟩], rfl, by omega⟩
              · have c9' := of_decide_eq_false c9
                simp only [go_sem, Nat.reduceBEq, t1, t5, t6, t7, t8, t33, t34, t35, wi]
                exact ⟨i + 1, by omega, by rw [nxt, errAt, hx, hy, if_neg hn3, if_neg (by omega), he], rfl, by omega⟩
            · have c8' := of_decide_eq_false c8
              simp only [go_sem, Nat.reduceBEq, Array.reduceGetElem?, ↓reduceIte, t1, t5, t6, t7, t8, t33, t34, t35, c5, c6, c7, c8, wi]
              exact ⟨i + 1, by omega, by rw [nxt, errAt, hx, if_neg hn3, if_neg (by omega), he], rfl, by omega⟩
      · have he : ¬ errTo N.length l i = 0 := of_decide_eq_false c5
        have nxt : errTo N.length l (i + 1) = errTo N.length l i := by rw [errTo, if_neg he]
        simp only [go_sem, Nat.reduceBEq, Array.reduceGetElem?, ↓reduceIte, t1, t5, t6, t7, t8, t33, t34, t35, c5, wi]
        exact ⟨i + 1, by omega, by rw [nxt], rfl, by omega⟩
    · have c4' := of_decide_eq_false c4
      obtain rfl : i = l.length := by omega
      have eo : errTo N.length l l.length = errOf N.length l := by rw [errOf, if_neg c3']
      rw [eo] at t8
      simp only [go_sem, Nat.reduceBEq, t8]
      refine ifK_intro (fun c5 => ?_) (fun c5 => ?_)
      · have h5 : errOf N.length l ≠ 0 := by simpa using c5
        simp only [go_sem, Nat.reduceBEq, Array.reduceGetElem?, ↓reduceIte, t6, t7, t8, dT.l1, hr1 h5]
        exact hle0F
      have e0 : errOf N.length l = 0 := by simpa using c5
      have hres := hr2 e0
      rw [e0] at t7
      obtain ⟨_, hz, hz2⟩ := subI_bd e0
      obtain ⟨x0, l', rfl⟩ := List.exists_cons_of_ne_nil c3'
      obtain ⟨n0, rfl⟩ : ∃ n0 : Nat, x0 = n0 := ⟨x0.toNat, by have := hz x0 (by simp); omega⟩
      have hn0 := hz (n0 : Int) (by simp)
      have i0 : ((0 : Int) < ((l'.length + 1 : Nat) : Int)) := by omega
      have nd0 := sc.note_nd hP F (n := n0) (by omega)
      have hlen' : l'.length ≤ 9 := by simp only [List.length_cons] at hlen; omega
      obtain ⟨G3, hG3⟩ : ∃ G, G2.alloc ⟨[.slice (some ⟨g, o, none⟩) (prW b).length c, .slice none 0 0], true, false⟩ = G := ⟨_, rfl⟩
      have dW : Duo G3 G2.n (.slice (some ⟨g, o, none⟩) (prW b).length c) (.slice none 0 0) := by rw [← hG3]; exact Duo.new _ _ _
      have hleG3 : G2.le G3 := by rw [← hG3]; exact GH.le_alloc _ _
      have hG3n : G3.n = G2.n + 1 := by rw [← hG3]; rfl
      obtain ⟨c', et1, et2⟩ := ints_tail (hlr.mono (hle0F.trans hleG3)) (by omega)
      have hl0 : ∀ {h'}, h.le h' → h'.load lg lo 1 = some [.int .i64 n0] := fun hl => by
        have := (hlr.mono hl).load (ints_get (i := 0) (x := (n0 : Int)) rfl)
        rwa [Nat.zero_mul, Nat.add_zero] at this
      have hl3 := hl0 (hle0F.trans hleG3)
      have dS3 := dS.mono hleG3
      have wz : IntKind.i64.wrap ((n0 : Int) + (N.length : Int)) = (n0 : Int) + (N.length : Int) := wrap_i64 (by omega) (by omega)
      simp only [go_sem, Nat.reduceBEq, Nat.reduceAdd, Nat.reduceLeDiff, Nat.reduceLT, Int.reduceLE, Int.reduceToNat, Array.reduceGetElem?, ↓reduceIte, t1, t5, c5, dS.l0, alloc_store2s (h := G2) (a := .slice none 0 0) (b := .slice none 0 0) (v := .slice (some ⟨g, o, none⟩) (prW b).length c) (w := .slice none 0 0) rfl rfl, hG3, List.length_cons, i0, hl3, et1, dS3.l1, wz, pl6]
      obtain ⟨G1, hG1⟩ : ∃ G1, G3.alloc ⟨[.int .i64 ((n0 : Int) + (N.length : Int))], true, false⟩ = G1 := ⟨_, rfl⟩
      have hleG1 : G3.le G1 := by rw [← hG1]; exact GH.le_alloc _ _
      have hG1n : G1.n = G3.n + 1 := by rw [← hG1]; rfl
      have hld1 : G1.load G3.n 0 1 = some [.int .i64 ((n0 : Int) + (N.length : Int))] := by rw [← hG1]; exact alloc_load1
      rw [hG1]
      refine callK_intro (c_cloneInts (et2.mono hleG1) (by omega)) ?_
      rintro v4 h4 ⟨hle4, hri⟩
      have dS4 := (dS3.mono hleG1).mono hle4
      have hl4 := hl0 (((hle0F.trans hleG3).trans hleG1).trans hle4)
      have hld4 := load_mono hle4 hld1
      obtain ⟨iv, h5, ap1, hle5, ig, ic, rfl, his, hig⟩ := hri.app' (c2 := 1) hle4 (by omega) hld4
      have hri2 : ∃ p n c, v4 = .slice p n c := by
        rcases hri with ⟨_, g, rfl⟩ | ⟨g, w⟩
        · exact ⟨_, _, _, rfl⟩
        · rcases w with ⟨rfl, _⟩ | ⟨g', _, rfl, _⟩
          · exact ⟨_, _, _, rfl⟩
          · exact ⟨_, _, _, rfl⟩
      obtain ⟨_, _, _, rfl⟩ := hri2
      simp only [go_sem, Nat.reduceBEq, Array.reduceGetElem?, List.length_cons, hl4, dS4.l1, ap1]
      have hle25 : G2.le h5 := (hleG3.trans hleG1).trans hle5
      have hG25 : G3.n < h5.n := by have := hleG1.1; have := hle5.1; omega
      have hig3 : G2.n < ig := by have := hleG1.1; have := hle4.1; omega
      have hIl : (subI N.length ((n0 : Int) :: l')).length = l'.length + 1 := by rw [subI_len (by simp)]; rfl
      have his' : SlAt h5 ig 0 ic 1 (ints (subI N.length ((n0 : Int) :: l'))) := his
      have i4 := his'.lt
      have dW5 : Duo h5 G2.n (.slice (some ⟨g, o, none⟩) (prW b).length c) (.slice none 0 0) := (dW.mono hleG1).mono hle5
      have hsne : ∀ i, ∀ x ∈ (subN N ((n0 : Int) :: l')).take i, x ≠ [] := by
        intro i x hx
        obtain ⟨z, hzm, rfl⟩ := List.mem_map.1 (List.mem_of_mem_take hx)
        rw [← List.length_pos_iff, subL_length _ _ (by rw [ntI, ntI, sc.note_len hP, sc.note_len hP]), ntI, sc.note_len hP]
        omega
      refine loopK_inv (α := Nat) (fun i => l'.length + 1 - i) (fun i ts g' => ts 1 = .slice (some ⟨lg, lo, none⟩) (l'.length + 1) lc' ∧ ts 5 = .pointer (some ⟨h2.n, 0, none⟩) ∧ ts 6 = .pointer (some ⟨h3.n, 0, none⟩) ∧ ts 7 = .int .i64 0 ∧ ts 11 = .pointer (some ⟨G2.n, 0, none⟩) ∧ ts 94 = .slice (some ⟨ig, 0, none⟩) (l'.length + 1) ic ∧ ts 95 = .int .i64 ((l'.length + 1 : Nat) : Int) ∧ ts 96 = .int .i64 i ∧ i ≤ l'.length + 1 ∧ G2.le g' ∧ SlAt g' ig 0 ic 1 (ints (subI N.length ((n0 : Int) :: l'))) ∧ h5.n ≤ g'.n ∧ ∃ v o', Duo g' G2.n (.slice (some ⟨g, o, none⟩) (prW b).length c) v ∧ LsO h5 g' v ((subN N ((n0 : Int) :: l')).take i) o') ?_ (a0 := 0) ?_
      · clear t1 t5 t6 t7 t8 t33 t34 t35
        rintro i ts g' ⟨t1, t5, t6, t7, t11, t94, t95, t96, hi, hle', hiv, hn5, v, o', dv, hv⟩
        obtain ⟨vp, vc, rfl⟩ := hv.form
        simp only [go_sem, t95, t96]
        refine ifK_intro (fun c6 => ?_) (fun c6 => ?_)
        · have c6' := of_decide_eq_true c6
          have c6'' : (i : Int) < ((l'.length + 1 : Nat) : Int) := by omega
          obtain ⟨z, hzi⟩ : ∃ z, (subI N.length ((n0 : Int) :: l'))[i]? = some z := ⟨_, List.getElem?_eq_getElem (by omega)⟩
          have hzb := hz2 z (List.mem_of_getElem? hzi)
          obtain ⟨m, rfl⟩ : ∃ m : Nat, z = m := ⟨z.toNat, by omega⟩
          have hil := hiv.load (ints_get hzi)
          rw [Nat.mul_one, Nat.zero_add] at hil
          have ndm := sc.note_nd hP F (n := m) (by omega)
          have hleH' := hle0F.trans hle'
          have dS' := dS.mono hle'
          have hll' := hl0 hleH'
          have hsc' := ((((hs.mono hleG).mono hle3).mono hleG2).mono hle')
          simp only [go_sem, Nat.reduceBEq, Int.reduceLE, Int.reduceToNat, Array.reduceGetElem?, ↓reduceIte, t1, t5, t11, t94, t96, c6'', hil, dS'.l2, dv.l1, i0, hll', pl6]
          have qT : ∀ n : Nat, n ≤ 20 * N.length → Ti (((n / N.length : Nat) : Int) : Rat) := by
            intro n hn
            have : n / N.length ≤ 20 := by
              have := Nat.div_le_div_right (c := N.length) hn
              rwa [Nat.mul_div_cancel _ hk.1] at this
            exact ⟨by rw [Rat.num_intCast, Int.natAbs_natCast]; omega, by show 1 < 15000; decide⟩
          refine callK_intro (c_lNote hsc' hk.1 (by omega) (by omega) ⟨by omega, by omega⟩ (fun x hx => (sc.nd x hx).len) (fun x hx => (sc.nd x hx).ti F) (qT m (by omega)) ndm.2 (ndm.1.sm F)) ?_
          rintro nv h6 ⟨hle6, hnv⟩
          have dS6 := dS'.mono hle6
          have dv6 := dv.mono hle6
          have hll6 := hl0 (hleH'.trans hle6)
          obtain ⟨_, _, _, rfl, _⟩ := id hnv
          simp only [go_sem, Nat.reduceBEq, Array.reduceGetElem?, t5, dS6.l2, dv6.l1, hll6]
          refine callK_intro (c_lNote (hsc'.mono hle6) hk.1 (by omega) (by omega) ⟨by omega, by omega⟩ (fun x hx => (sc.nd x hx).len) (fun x hx => (sc.nd x hx).ti F) (qT n0 (by omega)) nd0.2 (nd0.1.sm F)) ?_
          rintro fv h7 ⟨hle7, hfv⟩
          have dS7 := dS6.mono hle7
          have dv7 := dv6.mono hle7
          have hll7 := hl0 ((hleH'.trans hle6).trans hle7)
          obtain ⟨_, _, _, rfl, _⟩ := id hfv
          simp only [go_sem, Nat.reduceBEq, Array.reduceGetElem?, dv7.l1]
          refine callK_intro (c_less (hnv.at.mono hle7) hfv.at (by rw [← List.length_pos_iff, ndm.1.len]; omega) (by rw [ndm.1.len]; omega) (by rw [ndm.1.len, nd0.1.len]) (ndm.1.ti F) (nd0.1.ti F) (Nd.good F ndm.1 nd0.1).fit.sm) ?_
          rintro dv' h8 ⟨hle8, hdv⟩
          have dv8 := dv7.mono hle8
          have dS8 := dS7.mono hle8
          have hll8 := hl0 (((hleH'.trans hle6).trans hle7).trans hle8)
          have hv8 := ((hv.mono hle6).mono hle7).mono hle8
          have hsl : (subN N ((n0 : Int) :: l')).take (i + 1) = (subN N ((n0 : Int) :: l')).take i ++ [subL (noteL N m) (noteL N n0)] := by
            rw [List.take_add_one, subN, List.getElem?_map, hzi]; rfl
          have wi : IntKind.i64.wrap ((i : Int) + 1) = ((i + 1 : Nat) : Int) := wrap_i64 (by omega) (by omega)
          obtain ⟨_, _, _, rfl, _⟩ := id hdv
          obtain ⟨v', h9, o2, ap, hv9, hX9⟩ := hv8.app' (Nat.le_trans hn5 (Nat.le_trans hle6.1 (Nat.le_trans hle7.1 hle8.1))) (by rw [List.length_take]; simp [subN, hIl]; omega) (hdv.n fun k hk => Nat.lt_of_lt_of_le (hv.lt k hk).2 (Nat.le_trans hle6.1 hle7.1))
          obtain ⟨vp', vc', rfl⟩ := hv9.form
          have ho7 := hv8.lt
          have dv9 := dv8.leX hX9 (fun e => by have := ho7 _ e.symm; omega)
          have st9 := dv9.s1 (v := .slice vp' ((subN N ((n0 : Int) :: l')).take i ++ [subL (noteL N m) (noteL N n0)]).length vc') rfl
          simp only [go_sem, Nat.reduceBEq, Nat.reduceLeDiff, Nat.reduceLT, Array.reduceGetElem?, ↓reduceIte, t1, t5, t6, t7, t11, t94, t95, t96, dv8.l1, List.length_cons, ap, st9, wi]
          have hleF : G2.le (h9.upd G2.n ⟨[.slice (some ⟨g, o, none⟩) (prW b).length c, .slice vp' ((subN N ((n0 : Int) :: l')).take i ++ [subL (noteL N m) (noteL N n0)]).length vc'], true, false⟩) :=
            (leX.le hX9 (((hle'.trans hle6).trans hle7).trans hle8) (fun g hg => by have := ho7 g hg; omega)).upd (Nat.le_refl _) _
          have his9 := SlAt.leX hX9 (((hiv.mono hle6).mono hle7).mono hle8) (fun e => by have := ho7 _ e.symm; omega)
          refine ⟨i + 1, by omega, rfl, by omega, hleF, SlAt.leX leX_upd his9 (fun e => by injection e with e; omega), ?_, _, o2, Duo.up dv9.lt, ?_⟩
          · show h5.n ≤ h9.n
            have := hX9.1; have := hle6.1; have := hle7.1; have := hle8.1; omega
          · rw [hsl]
            exact hv9.up (fun x hx => hsne (i + 1) x (by rw [hsl]; exact hx)) dv9.cells (by omega) _
        · have c6' := of_decide_eq_false c6
          obtain rfl : i = l'.length + 1 := by omega
          rw [show (subN N ((n0 : Int) :: l')).take (l'.length + 1) = subN N ((n0 : Int) :: l') from List.take_of_length_le (by simp [subN, hIl])] at hv dv
          have dT' := dT.mono hle'
          have hres' := (hres.mono hleG2).mono hle'
          have hsn : subN N ((n0 : Int) :: l') ≠ [] := by simp [subN, subI]
          simp only [go_sem, Nat.reduceBEq, Array.reduceGetElem?, t6, t7, t11, c6, dT'.l2, dv.l2]
          obtain ⟨u1, u2, eu, hu1, hu2⟩ := id hres'
          injection eu with eu
          simp only [Array.mk.injEq, List.cons.injEq, and_true] at eu
          obtain ⟨rfl, rfl⟩ := eu
          refine callK_intro (c_same hu1 ((hp.mono hleG).mono hle3 |>.mono hleG2 |>.mono hle') (.inl hu2) (.inl (hv.ls hsn (by simp [subN, hIl]; omega))) rfl rfl (by omega) (by simp [subN, hIl]; omega) (fun x hx => ?_)) ?_
          · obtain ⟨z, hzm, rfl⟩ := List.mem_map.1 hx
            rw [subL_length _ _ (by rw [ntI, ntI, sc.note_len hP, sc.note_len hP]), ntI, sc.note_len hP]
            omega
          rintro _ h6 ⟨hle6, rfl⟩
          simp only [go_sem, Nat.reduceBEq, ↓reduceIte]
          exact (hle0F.trans hle').trans hle6
      · simp only [go_sem, Nat.reduceBEq, Nat.reduceLeDiff, t1, t5, t6, t7]
        exact ⟨hle25, his', _, none, dW5, LsO.nil _ _⟩
  · simp only [go_sem, Nat.reduceBEq]
    exact ⟨rfl, Nat.zero_le _⟩
end Go.Proofs.Gh
namespace Go.Proofs.Gh
open Go Go.Proofs Go.Proofs.Zz
set_option maxRecDepth 10000
set_option linter.unusedSimpArgs false
/-- a mode's notes -/
def modeL (N : List (List Rat)) (m : Nat) : List (List Rat) := (List.range N.length).map fun i => subL (noteL N (m + (i + 1))) (noteL N m)
theorem modeL_len (N : List (List Rat)) (m : Nat) : (modeL N m).length = N.length := by simp [modeL]
/-- what the notes of a scale must be, so that its modes are told -/
structure MoOk (p : List Int) (N : List (List Rat)) : Prop where
  pos : 0 < N.length
  few : N.length ≤ 60
  len : ∀ x ∈ N, x.length = p.length
  sm : ∀ x ∈ N, ∀ q ∈ x, Ti q
  nl : ∀ n, (noteL N n).length = p.length
  nt : ∀ n, n ≤ 3 * N.length → (∀ q ∈ noteL N n, Ti q) ∧ ∀ q ∈ scaleL (perN N) ((n / N.length : Nat) : Int), Ti q
  dif : ∀ n m, n ≤ 3 * N.length → m ≤ 3 * N.length → SmL (subL (noteL N n) (noteL N m))
theorem Sc.mo {p : List Int} {D : Nat} {L N : List (List Rat)} (hP : Pr p) (F : Fam p D L) (s : Sc p D L N) : MoOk p N :=
  ⟨s.len.1, by have := s.len.2; omega, fun x hx => (s.nd x hx).len, fun x hx => (s.nd x hx).ti F, fun n => s.note_len hP n, fun n hn => ⟨(s.note_nd hP F (by omega)).1.ti F, (s.note_nd hP F (by omega)).2⟩, fun n m hn hm => (Nd.good F (s.note_nd hP F (by omega)).1 (s.note_nd hP F (by omega)).1).fit.sm⟩
theorem MoOk.sml {p : List Int} {N : List (List Rat)} (o : MoOk p N) : ∀ x ∈ N, SmL x := fun x hx q hq => (o.sm x hx q hq).sm
theorem MoOk.nsm {p : List Int} {N : List (List Rat)} (o : MoOk p N) {n : Nat} (hn : n ≤ 3 * N.length) : SmL (noteL N n) ∧ SmL (scaleL (perN N) ((n / N.length : Nat) : Int)) :=
  ⟨fun q hq => ((o.nt n hn).1 q hq).sm, fun q hq => ((o.nt n hn).2 q hq).sm⟩
theorem MoOk.ne {p : List Int} {N : List (List Rat)} (hP : Pr p) (o : MoOk p N) (m i : Nat) : ∀ x ∈ (modeL N m).take i, x ≠ [] := by
  intro x hx
  have hpl := hP.len
  obtain ⟨j, _, rfl⟩ := List.mem_map.1 (List.mem_of_mem_take hx)
  rw [← List.length_pos_iff, subL_length _ _ (by rw [o.nl, o.nl]), o.nl]
  omega
theorem MoOk.qt {p : List Int} {N : List (List Rat)} (o : MoOk p N) {n : Nat} (hn : n ≤ 3 * N.length) : Ti (((n / N.length : Nat) : Int) : Rat) := by
  have : n / N.length ≤ 3 := by
    have := Nat.div_le_div_right (c := N.length) hn
    rwa [Nat.mul_div_cancel _ o.pos] at this
  exact ⟨by rw [Rat.num_intCast, Int.natAbs_natCast]; omega, by show 1 < 15000; decide⟩
theorem c_mode {h : GH} {sv : Value} {p : List Int} {N : List (List Rat)} {m : Nat} (hP : Pr p) (s : ScAt h sv p N) (ok : MoOk p N) (hm : m ≤ N.length) :
    ∃ r h', GCalls Tryz.prog gE 86 #[sv, .int .i64 m] h r h' ∧ h.le h' ∧ ∃ tv, r = .tuple #[tv, .int .i64 0] ∧ ScAt h' tv p (modeL N m) := by
  obtain ⟨g, o, c, g2, o2, c2, rfl, hp, hn⟩ := s.form
  have hpl := hP.len
  have hk := ok.pos
  have hk2 := ok.few
  obtain ⟨H, hH, d1, d2, hle0, hHn⟩ := Duo.two h (.slice (some ⟨g, o, none⟩) p.length c) (.slice (some ⟨g2, o2, none⟩) N.length c2) (.slice none 0 0) (.slice none 0 0)
  refine gcalls_in (pl := noPl) [.cell 4 36, .tmp 5] mixed Tryz.func86 rfl rfl (by exact ok86) ?_
  simp only [go_sem, Nat.reduceBEq, ↓reduceIte, hH, d1.l2]
  refine callK_intro (c_note hP (s.mono hle0) hk (by omega) (by omega) ok.len ok.sml (ok.nsm (by omega)).2 (ok.nsm (by omega)).1) ?_
  rintro _ h2 ⟨hle2, fv, rfl, hfv⟩
  have dA2 := d1.mono hle2
  have dB2 := d2.mono hle2
  have hle := hle0.trans hle2
  simp only [go_sem, Nat.reduceBEq, Int.reduceNe, Array.reduceGetElem?, dA2.l0]
  refine callK_intro (c_clonePrimes (hp.mono hle) hP.ne (by omega)) ?_
  rintro cv h3 ⟨hle3, hcv⟩
  obtain ⟨cg, co, cc, rfl, hcs⟩ := id hcv
  have hle03 := hle.trans hle3
  obtain ⟨G, hG⟩ : ∃ G, h3.alloc ⟨[.slice (some ⟨cg, co, none⟩) p.length cc, .slice none 0 0], true, false⟩ = G := ⟨_, rfl⟩
  have dG : Duo G h3.n (.slice (some ⟨cg, co, none⟩) p.length cc) (.slice none 0 0) := by rw [← hG]; exact Duo.new _ _ _
  have hleG : h3.le G := by rw [← hG]; exact GH.le_alloc _ _
  have hGn : G.n = h3.n + 1 := by rw [← hG]; rfl
  simp only [go_sem, Nat.reduceBEq, Nat.reduceAdd, Nat.reduceLeDiff, ↓reduceIte, alloc_store2s (h := h3) (a := .slice none 0 0) (b := .slice none 0 0) (v := .slice (some ⟨cg, co, none⟩) p.length cc) (w := .slice none 0 0) rfl rfl, hG]
  refine loopK_inv (α := Nat) (fun i => N.length - i) (fun i ts g' => ts 1 = .int .i64 m ∧ ts 2 = .pointer (some ⟨h.n, 0, none⟩) ∧ ts 4 = .pointer (some ⟨h.n + 1, 0, none⟩) ∧ ts 6 = fv ∧ ts 8 = .pointer (some ⟨h3.n, 0, none⟩) ∧ ts 9 = .int .i64 ((i + 1 : Nat) : Int) ∧ i ≤ N.length ∧ h3.le g' ∧ G.n ≤ g'.n ∧ ∃ v o, Duo g' h3.n (.slice (some ⟨cg, co, none⟩) p.length cc) v ∧ LsO G g' v ((modeL N m).take i) o) ?_ (a0 := 0) ?_
  · rintro i ts g' ⟨t1, t2, t4, t6, t8, t9, hi, hle', hGg, v, o', dv, hv⟩
    obtain ⟨vp, vc, rfl⟩ := hv.form
    have dA' := dA2.mono (hle3.trans hle')
    simp only [go_sem, Nat.reduceBEq, t2, t9, dA'.l1]
    refine ifK_intro (fun c3 => ?_) (fun c3 => ?_)
    · have c3' : i < N.length := by have := of_decide_eq_true c3; omega
      have wm : IntKind.i64.wrap ((m : Int) + ((i + 1 : Nat) : Int)) = ((m + (i + 1) : Nat) : Int) := by rw [wrap_i64 (by omega) (by omega)]; omega
      have wi : IntKind.i64.wrap (((i + 1 : Nat) : Int) + 1) = ((i + 1 + 1 : Nat) : Int) := wrap_i64 (by omega) (by omega)
      simp only [go_sem, Nat.reduceBEq, t1, t2, t9, dA'.l2, wm]
      refine callK_intro (c_note hP ((s.mono hle03).mono hle') hk (by omega) (by omega) ok.len ok.sml (ok.nsm (n := m + (i + 1)) (by omega)).2 (ok.nsm (by omega)).1) ?_
      rintro _ h6 ⟨hle6, nv, rfl, hnv⟩
      have dA6 := dA'.mono hle6
      simp only [go_sem, Nat.reduceBEq, Int.reduceNe, Array.reduceGetElem?, t2, t6, dA6.l0]
      refine callK_intro (c_Sub hP (((hp.mono hle03).mono hle').mono hle6) hnv (((hfv.mono hle3).mono hle').mono hle6) (ok.nl _) (ok.nl _) (ok.nsm (by omega)).1 (ok.nsm (by omega)).1 (ok.dif _ _ (by omega) (by omega))) ?_
      rintro _ h7 ⟨hle7, dv', rfl, hdv⟩
      have dv7 := (dv.mono hle6).mono hle7
      have hv7 := (hv.mono hle6).mono hle7
      have hsl : (modeL N m).take (i + 1) = (modeL N m).take i ++ [subL (noteL N (m + (i + 1))) (noteL N m)] := by
        rw [List.take_add_one, modeL, List.getElem?_map, List.getElem?_range c3']; rfl
      have hne7 : subL (noteL N (m + (i + 1))) (noteL N m) ≠ [] := by
        rw [← List.length_pos_iff, subL_length _ _ (by rw [ok.nl, ok.nl]), ok.nl]; omega
      obtain ⟨v', h8, o2, ap, hv8, hX8⟩ := hv7.app' (Nat.le_trans hGg (Nat.le_trans hle6.1 hle7.1)) (by rw [List.length_take, modeL_len]; omega) (hdv.n hne7 hv7.cells)
      obtain ⟨vp', vc', rfl⟩ := hv8.form
      obtain ⟨dg, do', dc, rfl, _⟩ := id hdv
      have ho7 := hv7.lt
      have dv8 := dv7.leX hX8 (fun e => by have := ho7 _ e.symm; omega)
      have st8 := dv8.s1 (v := .slice vp' ((modeL N m).take i ++ [subL (noteL N (m + (i + 1))) (noteL N m)]).length vc') rfl
      simp only [go_sem, Nat.reduceBEq, Nat.reduceLeDiff, Nat.reduceLT, Int.reduceNe, Array.reduceGetElem?, ↓reduceIte, t1, t2, t4, t6, t8, t9, dv7.l1, ap, st8, wi]
      have hle9 : h3.le (h8.upd h3.n ⟨[.slice (some ⟨cg, co, none⟩) p.length cc, .slice vp' ((modeL N m).take i ++ [subL (noteL N (m + (i + 1))) (noteL N m)]).length vc'], true, false⟩) :=
        (leX.le hX8 ((hle'.trans hle6).trans hle7) (fun g hg => by have := ho7 g hg; omega)).upd (Nat.le_refl _) _
      refine ⟨i + 1, by omega, rfl, by omega, hle9, ?_, _, o2, Duo.up dv8.lt, ?_⟩
      · show G.n ≤ h8.n
        have := hX8.1; have := hle6.1; have := hle7.1; omega
      · rw [hsl]
        exact hv8.up (fun x hx => ok.ne hP m (i + 1) x (by rw [hsl]; exact hx)) dv8.cells (by omega) _
    · have c3' : i = N.length := by have := of_decide_eq_false c3; omega
      subst c3'
      rw [show (modeL N m).take N.length = modeL N m from List.take_of_length_le (by rw [modeL_len]; exact Nat.le_refl _)] at hv dv
      have dB9 := (dB2.mono hle3).mono hle'
      have hst9 := dB9.s2 (v := .slice (some ⟨cg, co, none⟩) p.length cc) (w := .slice vp (modeL N m).length vc) rfl rfl
      have dd9 := Duo.up (v := .slice (some ⟨cg, co, none⟩) p.length cc) (w := .slice vp (modeL N m).length vc) dB9.lt
      simp only [go_sem, Nat.reduceBEq, Nat.reduceAdd, ↓reduceIte, t4, t8, dv.l2, hst9, dd9.l2]
      have hsn : modeL N m ≠ [] := by rw [← List.length_pos_iff, modeL_len]; exact hk
      refine ⟨(hle03.trans hle').upd (by omega) _, _, rfl, ?_⟩
      refine ScAt.upd ⟨_, _, rfl, hcv.mono hle', hv.ls hsn (by rw [modeL_len]; omega)⟩ dB9 hP.ne hsn (fun a ha => ok.ne hP m N.length a ?_)
      rw [List.take_of_length_le (by rw [modeL_len]; exact Nat.le_refl _)]
      exact ha
  · simp only [go_sem, Nat.reduceBEq]
    exact ⟨Nat.zero_le _, hleG, _, none, dG, LsO.nil _ _⟩
/-- Mode: the mode, or ErrRange -/
theorem c_Mode {h : GH} {sv : Value} {p : List Int} {N : List (List Rat)} (z : Int) (hP : Pr p) (s : ScAt h sv p N) (so : ScOk p N) (ok : MoOk p N) :
    ∃ r h', GCalls Tryz.prog gE 41 #[sv, .int .i64 z] h r h' ∧ h.le h' ∧
      (((z < 0 ∨ (N.length : Int) ≤ z) ∧ r = .tuple #[.agg #[.slice none 0 0, .slice none 0 0], .int .i64 3]) ∨ (0 ≤ z ∧ z < N.length ∧ ∃ tv, r = .tuple #[tv, .int .i64 0] ∧ ScAt h' tv p (modeL N z.toNat))) := by
  obtain ⟨g, o, c, g2, o2, c2, rfl, hp, hn⟩ := s.form
  have hpl := hP.len
  have hk := ok.pos
  have hk2 := ok.few
  obtain ⟨H, hH, d1, d2, hle0, hHn⟩ := Duo.two h (.slice (some ⟨g, o, none⟩) p.length c) (.slice (some ⟨g2, o2, none⟩) N.length c2) (.slice none 0 0) (.slice none 0 0)
  refine gcalls_in (pl := noPl) [.cell 4 36, .tmp 5] mixed Tryz.func41 rfl rfl (by exact ok41) ?_
  simp only [go_sem, Nat.reduceBEq, ↓reduceIte, hH, d1.l2]
  refine callK_intro (c_scCheck hP (s.mono hle0) so) ?_
  rintro _ h1 ⟨hle1, rfl⟩
  have dA := d1.mono hle1
  have dB := d2.mono hle1
  have hst := dB.s2 (v := .slice none 0 0) (w := .slice none 0 0) rfl rfl
  have dd := Duo.up (v := .slice none 0 0) (w := .slice none 0 0) dB.lt
  simp only [go_sem, Nat.reduceBEq, Int.reduceNe, Array.reduceGetElem?]
  refine ifK_intro (fun c1 => ?_) (fun c1 => ?_)
  · have c1' := of_decide_eq_true c1
    simp only [go_sem, Nat.reduceBEq, Nat.reduceAdd, Array.reduceGetElem?, ↓reduceIte, c1, hst, dd.l2]
    exact ⟨(hle0.trans hle1).upd (by omega) _, .inl (.inl c1')⟩
  · have c1' := of_decide_eq_false c1
    simp only [go_sem, Nat.reduceBEq, Array.reduceGetElem?, ↓reduceIte, c1, dA.l1]
    refine ifK_intro (fun c2 => ?_) (fun c2 => ?_)
    · have c2' := of_decide_eq_true c2
      simp only [go_sem, Nat.reduceBEq, Nat.reduceAdd, ↓reduceIte, c1, c2, hst, dd.l2]
      exact ⟨(hle0.trans hle1).upd (by omega) _, .inl (.inr c2')⟩
    · have c2' := of_decide_eq_false c2
      obtain ⟨n, rfl⟩ : ∃ n : Nat, z = n := ⟨z.toNat, by omega⟩
      simp only [go_sem, Nat.reduceBEq, c1, c2, dA.l2]
      refine callK_intro (c_mode hP ((s.mono hle0).mono hle1) ok (by omega)) ?_
      rintro _ h2 ⟨hle2, tv, rfl, ht⟩
      obtain ⟨s1, s2, s3, s4, s5, s6, rfl, _, _⟩ := ht.form
      have dB9 := dB.mono hle2
      have hst9 := dB9.s2 (v := .slice (some ⟨s1, s2, none⟩) p.length s3) (w := .slice (some ⟨s4, s5, none⟩) (modeL N n).length s6) rfl rfl
      have dd9 := Duo.up (v := .slice (some ⟨s1, s2, none⟩) p.length s3) (w := .slice (some ⟨s4, s5, none⟩) (modeL N n).length s6) dB9.lt
      simp only [go_sem, Nat.reduceBEq, Nat.reduceAdd, Array.reduceGetElem?, ↓reduceIte, hst9, dd9.l2]
      refine ⟨((hle0.trans hle1).trans hle2).upd (by omega) _, .inr ⟨by omega, _, rfl, ?_⟩⟩
      have hsn : modeL N n ≠ [] := by rw [← List.length_pos_iff, modeL_len]; exact hk
      exact ht.upd dB9 hP.ne hsn (fun a ha => ok.ne hP n N.length a (by rw [List.take_of_length_le (by rw [modeL_len]; exact Nat.le_refl _)]; exact ha))
theorem c_scSame {h : GH} {sv tv : Value} {p q : List Int} {L M : List (List Rat)} {pv qv lv mv : Value} (hp : PrAt h pv p) (hq : PrAt h qv q) (s : LsE h lv L) (t : LsE h mv M) (hs : sv = .agg #[pv, lv]) (ht : tv = .agg #[qv, mv]) (hpl : p.length ≤ 1000) (hlen : L.length ≤ 1000) (hL : ∀ l ∈ L, l.length ≤ 1000) :
    ∃ r h', GCalls Tryz.prog gE 88 #[sv, tv] h r h' ∧ h.le h' ∧ r = .bool (decide (p = q) && decide (L = M)) := by
  subst hs ht
  obtain ⟨pg, po, pc, rfl, hp'⟩ := id hp
  obtain ⟨qg, qo, qc, rfl, hq'⟩ := id hq
  obtain ⟨p3, c3, rfl, _⟩ := s.form
  obtain ⟨p4, c4, rfl, _⟩ := t.form
  obtain ⟨H, hH, d1, d2, hle, hHn⟩ := Duo.two h (.slice (some ⟨pg, po, none⟩) p.length pc) (.slice p3 L.length c3) (.slice (some ⟨qg, qo, none⟩) q.length qc) (.slice p4 M.length c4)
  refine gcalls_in (pl := noPl) [.tmp 4] mixed Tryz.func88 rfl rfl (by exact ok88) ?_
  simp only [go_sem, Nat.reduceBEq, ↓reduceIte, hH, d1.l0, d2.l0]
  refine callK_intro (c_eqPrimes (hp.mono hle) (hq.mono hle) hpl) ?_
  rintro _ h1 ⟨hle1, rfl⟩
  have d1' := d1.mono hle1
  have d2' := d2.mono hle1
  by_cases hpq : p = q
  · simp only [go_sem, Nat.reduceBEq, Array.reduceGetElem?, decide_eq_true hpq, d1'.l1, d2'.l1]
    refine callK_intro (c_eqLs ((s.mono hle).mono hle1) ((t.mono hle).mono hle1) hlen hL) ?_
    rintro _ h2 ⟨hle2, rfl⟩
    simp only [go_sem, Nat.reduceBEq, ↓reduceIte]
    exact ⟨(hle.trans hle1).trans hle2, by rw [decide_eq_true hpq, Bool.true_and]⟩
  · simp only [go_sem, Nat.reduceBEq, Array.reduceGetElem?, ↓reduceIte, decide_eq_false hpq]
    exact hle.trans hle1
theorem c_two {h : GH} {sv tv : Value} {p q : List Int} {N M : List (List Rat)} (hP : Pr p) (hQ : Pr q) (s : ScAt h sv p N) (t : ScAt h tv q M) (so : ScOk p N) (to : ScOk q M) :
    ∃ r h', GCalls Tryz.prog gE 87 #[sv, tv] h r h' ∧ h.le h' ∧ r = .int .i64 0 := by
  obtain ⟨g, o, c, g2, o2, c2, rfl, hp, hn⟩ := s.form
  obtain ⟨g3, o3, c3, g4, o4, c4, rfl, hq, hm⟩ := t.form
  obtain ⟨H, hH, d1, d2, hle0, hHn⟩ := Duo.two h (.slice (some ⟨g, o, none⟩) p.length c) (.slice (some ⟨g2, o2, none⟩) N.length c2) (.slice (some ⟨g3, o3, none⟩) q.length c3) (.slice (some ⟨g4, o4, none⟩) M.length c4)
  refine gcalls_in (pl := noPl) [.tmp 4] mixed Tryz.func87 rfl rfl (by exact ok87) ?_
  simp only [go_sem, Nat.reduceBEq, ↓reduceIte, hH, d1.l2]
  refine callK_intro (c_scCheck hP (s.mono hle0) so) ?_
  rintro _ h1 ⟨hle1, rfl⟩
  have dB := d2.mono hle1
  simp only [go_sem, Nat.reduceBEq, Int.reduceNe, dB.l2]
  refine callK_intro (c_scCheck hQ ((t.mono hle0).mono hle1) to) ?_
  rintro _ h2 ⟨hle2, rfl⟩
  simp only [go_sem]
  exact (hle0.trans hle1).trans hle2
theorem c_Same {h : GH} {sv tv : Value} {p q : List Int} {N M : List (List Rat)} (hP : Pr p) (hQ : Pr q) (s : ScAt h sv p N) (t : ScAt h tv q M) (so : ScOk p N) (to : ScOk q M) :
    ∃ r h', GCalls Tryz.prog gE 42 #[sv, tv] h r h' ∧ h.le h' ∧ r = .tuple #[.bool (decide (p = q) && decide (N = M)), .int .i64 0] := by
  obtain ⟨g, o, c, g2, o2, c2, rfl, hp, hn⟩ := s.form
  obtain ⟨g3, o3, c3, g4, o4, c4, rfl, hq, hm⟩ := t.form
  have hpl := hP.len
  obtain ⟨H, hH, d1, d2, hle0, hHn⟩ := Duo.two h (.slice (some ⟨g, o, none⟩) p.length c) (.slice (some ⟨g2, o2, none⟩) N.length c2) (.slice (some ⟨g3, o3, none⟩) q.length c3) (.slice (some ⟨g4, o4, none⟩) M.length c4)
  refine gcalls_in (pl := noPl) [.tmp 4, .tmp 5] mixed Tryz.func42 rfl rfl (by exact ok42) ?_
  simp only [go_sem, Nat.reduceBEq, ↓reduceIte, hH, d1.l2, d2.l2]
  refine callK_intro (c_two hP hQ (s.mono hle0) (t.mono hle0) so to) ?_
  rintro _ h1 ⟨hle1, rfl⟩
  have dA := d1.mono hle1
  have dB := d2.mono hle1
  have hle := hle0.trans hle1
  simp only [go_sem, Nat.reduceBEq, Int.reduceNe, dA.l2, dB.l2]
  refine callK_intro (c_scSame (hp.mono hle) (hq.mono hle) (.inl (hn.mono hle)) (.inl (hm.mono hle)) rfl rfl (by omega) (by have := so.few; omega) (fun l hl => by have := so.len l hl; omega)) ?_
  rintro _ h2 ⟨hle2, rfl⟩
  simp only [go_sem, Nat.reduceBEq]
  exact hle.trans hle2
end Go.Proofs.Gh
namespace Go.Proofs.Gh
open Go Go.Proofs Go.Proofs.Zz
set_option maxRecDepth 10000
set_option linter.unusedSimpArgs false
/-- the second scale is this mode of the first one -/
def IsMo (p q : List Int) (N M : List (List Rat)) (m : Nat) : Prop := p = q ∧ modeL N m = M
instance (p q : List Int) (N M : List (List Rat)) (m : Nat) : Decidable (IsMo p q N M m) := inferInstanceAs (Decidable (_ ∧ _))
theorem c_Rotation {h : GH} {sv tv : Value} {p q : List Int} {N M : List (List Rat)} (hP : Pr p) (hQ : Pr q) (s : ScAt h sv p N) (t : ScAt h tv q M) (so : ScOk p N) (to : ScOk q M) (ok : MoOk p N) :
    ∃ r h', GCalls Tryz.prog gE 43 #[sv, tv] h r h' ∧ h.le h' ∧
      ((∃ k : Nat, k < N.length ∧ IsMo p q N M k ∧ (∀ j, j < k → ¬ IsMo p q N M j) ∧ r = .tuple #[.int .i64 k, .bool true, .int .i64 0]) ∨ ((∀ j, j < N.length → ¬ IsMo p q N M j) ∧ r = .tuple #[.int .i64 0, .bool false, .int .i64 0])) := by
  obtain ⟨g, o, c, g2, o2, c2, rfl, hp, hn⟩ := s.form
  obtain ⟨g3, o3, c3, g4, o4, c4, rfl, hq, hm⟩ := t.form
  have hpl := hP.len
  have hk2 := ok.few
  obtain ⟨H, hH, d1, d2, hle0, hHn⟩ := Duo.two h (.slice (some ⟨g, o, none⟩) p.length c) (.slice (some ⟨g2, o2, none⟩) N.length c2) (.slice (some ⟨g3, o3, none⟩) q.length c3) (.slice (some ⟨g4, o4, none⟩) M.length c4)
  refine gcalls_in (pl := noPl) [.tmp 4, .tmp 5, .tmp 6] mixed Tryz.func43 rfl rfl (by exact ok43) ?_
  simp only [go_sem, Nat.reduceBEq, ↓reduceIte, hH, d1.l2, d2.l2]
  refine callK_intro (c_two hP hQ (s.mono hle0) (t.mono hle0) so to) ?_
  rintro _ h1 ⟨hle1, rfl⟩
  have dA := d1.mono hle1
  have dB := d2.mono hle1
  have hle := hle0.trans hle1
  simp only [go_sem, Nat.reduceBEq, Int.reduceNe, dA.l1]
  refine loopK_inv (α := Nat) (fun i => N.length - i) (fun i ts g' => ts 2 = .pointer (some ⟨h.n, 0, none⟩) ∧ ts 3 = .pointer (some ⟨h.n + 1, 0, none⟩) ∧ ts 19 = .int .i64 N.length ∧ ts 20 = .int .i64 i ∧ i ≤ N.length ∧ h1.le g' ∧ ∀ j, j < i → ¬ IsMo p q N M j) ?_ (a0 := 0) ?_
  · rintro i ts g' ⟨t2, t3, t19, t20, hi, hle', hno⟩
    simp only [go_sem, t19, t20]
    have dA' := dA.mono hle'
    refine ifK_intro (fun c5 => ?_) (fun c5 => ?_)
    · have c5' := of_decide_eq_true c5
      have wi : IntKind.i64.wrap ((i : Int) + 1) = ((i + 1 : Nat) : Int) := wrap_i64 (by omega) (by omega)
      simp only [go_sem, Nat.reduceBEq, t2, t20, dA'.l2]
      refine callK_intro (c_mode hP ((s.mono hle).mono hle') ok (by omega)) ?_
      rintro _ h2 ⟨hle2, xv, rfl, hx⟩
      obtain ⟨x1, x2, x3, x4, x5, x6, rfl, hx1, hx2⟩ := hx.form
      obtain ⟨G, hG⟩ : ∃ G, h2.alloc ⟨[.slice (some ⟨x1, x2, none⟩) p.length x3, .slice (some ⟨x4, x5, none⟩) (modeL N i).length x6], true, false⟩ = G := ⟨_, rfl⟩
      have dG : Duo G h2.n (.slice (some ⟨x1, x2, none⟩) p.length x3) (.slice (some ⟨x4, x5, none⟩) (modeL N i).length x6) := by rw [← hG]; exact Duo.new _ _ _
      have hleG : h2.le G := by rw [← hG]; exact GH.le_alloc _ _
      have dB' := ((dB.mono hle').mono hle2).mono hleG
      have hleA := ((hle.trans hle').trans hle2).trans hleG
      simp only [go_sem, Nat.reduceBEq, Nat.reduceAdd, Int.reduceNe, Array.reduceGetElem?, ↓reduceIte, t3, alloc_store2s (h := h2) (a := .slice none 0 0) (b := .slice none 0 0) (v := .slice (some ⟨x1, x2, none⟩) p.length x3) (w := .slice (some ⟨x4, x5, none⟩) (modeL N i).length x6) rfl rfl, hG, dG.l2, dB'.l2]
      refine callK_intro (c_scSame (hx1.mono hleG) (hq.mono hleA) (.inl (hx2.mono hleG)) (.inl (hm.mono hleA)) rfl rfl (by omega) (by rw [modeL_len]; omega) (fun l hl => ?_)) ?_
      · obtain ⟨j, _, rfl⟩ := List.mem_map.1 hl
        rw [subL_length _ _ (by rw [ok.nl, ok.nl]), ok.nl]
        omega
      rintro _ h3 ⟨hle3, rfl⟩
      by_cases hmo : IsMo p q N M i
      · have e1 : (decide (p = q) && decide (modeL N i = M)) = true := by rw [decide_eq_true hmo.1, decide_eq_true hmo.2]; rfl
        simp only [go_sem, Nat.reduceBEq, e1]
        exact ⟨hleA.trans hle3, .inl ⟨i, by omega, hmo, hno, rfl⟩⟩
      · have e1 : (decide (p = q) && decide (modeL N i = M)) = false := by
          rw [Bool.and_eq_false_iff, decide_eq_false_iff_not, decide_eq_false_iff_not]
          rcases Decidable.not_and_iff_or_not.1 hmo with h | h
          · exact .inl h
          · exact .inr h
        simp only [go_sem, Nat.reduceBEq, t2, t3, t19, t20, e1, wi]
        refine ⟨i + 1, by omega, rfl, by omega, ((hle'.trans hle2).trans hleG).trans hle3, fun j hj => ?_⟩
        rcases Nat.lt_or_ge j i with h | h
        · exact hno j h
        · obtain rfl : j = i := by omega
          exact hmo
    · have c5' := of_decide_eq_false c5
      obtain rfl : i = N.length := by omega
      simp only [go_sem, Nat.reduceBEq, c5]
      exact ⟨hle.trans hle', .inr hno⟩
  · simp only [go_sem, Nat.reduceBEq]
    exact ⟨Nat.zero_le _, GH.le.refl _, fun j hj => absurd hj (Nat.not_lt_zero _)⟩
end Go.Proofs.Gh
namespace Go.Proofs.Gh
open Go Go.Proofs Go.Proofs.Zz
set_option maxRecDepth 10000
set_option linter.unusedSimpArgs false
theorem c_lMode {h : GH} {sv : Value} {p : List Int} {N : List (List Rat)} {m : Nat} (hP : Pr p) (s : ScAt h sv p N) (ok : MoOk p N) (hm : m ≤ N.length) :
    ∃ r h', GCalls Tryz.prog gE 44 #[sv, .int .i64 m] h r h' ∧ h.le h' ∧ ScAt h' r p (modeL N m) := by
  obtain ⟨g, o, c, g2, o2, c2, rfl, hp, hn⟩ := s.form
  have hpl := hP.len
  have hk := ok.pos
  have hk2 := ok.few
  obtain ⟨H, hH, d1, d2, hle0, hHn⟩ := Duo.two h (.slice (some ⟨g, o, none⟩) p.length c) (.slice (some ⟨g2, o2, none⟩) N.length c2) (.slice none 0 0) (.slice none 0 0)
  obtain ⟨G, hG⟩ : ∃ G, H.alloc ⟨[.slice (some ⟨g, o, none⟩) p.length c, .slice none 0 0], true, false⟩ = G := ⟨_, rfl⟩
  have dG : Duo G H.n (.slice (some ⟨g, o, none⟩) p.length c) (.slice none 0 0) := by rw [← hG]; exact Duo.new _ _ _
  have hleG : H.le G := by rw [← hG]; exact GH.le_alloc _ _
  have hGn : G.n = H.n + 1 := by rw [← hG]; rfl
  have hst0 := alloc_store2s (h := H) (a := .slice none 0 0) (b := .slice none 0 0) (v := .slice (some ⟨g, o, none⟩) p.length c) (w := .slice none 0 0) rfl rfl
  rw [hHn] at dG hst0
  refine gcalls_in (pl := pl44) [.cell 4 36] mixed Tryz.func44 rfl rfl (by exact ok44) ?_
  simp only [go_sem, Nat.reduceBEq, Nat.reduceAdd, Nat.reduceLeDiff, ↓reduceIte, hH, d1.l0, hst0, hG, hHn]
  refine loopK_inv (α := Nat) (fun i => N.length - i) (fun i ts g' => ts 1 = .int .i64 m ∧ ts 2 = .pointer (some ⟨h.n, 0, none⟩) ∧ ts 4 = .pointer (some ⟨h.n + 1, 0, none⟩) ∧ ts 5 = .pointer (some ⟨h.n + 2, 0, none⟩) ∧ ts 6 = .int .i64 ((i + 1 : Nat) : Int) ∧ i ≤ N.length ∧ H.le g' ∧ G.n ≤ g'.n ∧ ∃ v o', Duo g' (h.n + 2) (.slice (some ⟨g, o, none⟩) p.length c) v ∧ LsO G g' v ((modeL N m).take i) o') ?_ (a0 := 0) ?_
  · rintro i ts g' ⟨t1, t2, t4, t5, t6, hi, hle', hGg, v, o', dv, hv⟩
    obtain ⟨vp, vc, rfl⟩ := hv.form
    have dA' := d1.mono hle'
    simp only [go_sem, Nat.reduceBEq, t2, t6, dA'.l1]
    refine ifK_intro (fun c3 => ?_) (fun c3 => ?_)
    · have c3' : i < N.length := by have := of_decide_eq_true c3; omega
      have wm : IntKind.i64.wrap ((m : Int) + ((i + 1 : Nat) : Int)) = ((m + (i + 1) : Nat) : Int) := by rw [wrap_i64 (by omega) (by omega)]; omega
      have wi : IntKind.i64.wrap (((i + 1 : Nat) : Int) + 1) = ((i + 1 + 1 : Nat) : Int) := wrap_i64 (by omega) (by omega)
      have hs' := (s.mono hle0).mono hle'
      simp only [go_sem, Nat.reduceBEq, Array.reduceGetElem?, t1, t2, t5, t6, dA'.l2, dv.l1, wm, pl44]
      refine callK_intro (c_lNote hs' hk (by omega) (by omega) ⟨by omega, by omega⟩ ok.len ok.sm (ok.qt (n := m + (i + 1)) (by omega)) (ok.nt _ (by omega)).2 (ok.nsm (by omega)).1) ?_
      rintro nv h6 ⟨hle6, hnv⟩
      have dA6 := dA'.mono hle6
      have dv6 := dv.mono hle6
      obtain ⟨_, _, _, rfl, _⟩ := id hnv
      simp only [go_sem, Nat.reduceBEq, Array.reduceGetElem?, t2, dA6.l2, dv6.l1]
      refine callK_intro (c_lNote (hs'.mono hle6) hk (by omega) (by omega) ⟨by omega, by omega⟩ ok.len ok.sm (ok.qt (n := m) (by omega)) (ok.nt _ (by omega)).2 (ok.nsm (by omega)).1) ?_
      rintro fv h7 ⟨hle7, hfv⟩
      have dA7 := dA6.mono hle7
      have dv7 := dv6.mono hle7
      obtain ⟨_, _, _, rfl, _⟩ := id hfv
      simp only [go_sem, Nat.reduceBEq, Array.reduceGetElem?, dv7.l1]
      refine callK_intro (c_less (hnv.at.mono hle7) hfv.at (by rw [← List.length_pos_iff, ok.nl]; omega) (by rw [ok.nl]; omega) (by rw [ok.nl, ok.nl]) (ok.nt _ (by omega)).1 (ok.nt _ (by omega)).1 (ok.dif _ _ (by omega) (by omega))) ?_
      rintro dv' h8 ⟨hle8, hdv⟩
      have dv8 := dv7.mono hle8
      have dA8 := dA7.mono hle8
      have hv8 := ((hv.mono hle6).mono hle7).mono hle8
      have hsl : (modeL N m).take (i + 1) = (modeL N m).take i ++ [subL (noteL N (m + (i + 1))) (noteL N m)] := by
        rw [List.take_add_one, modeL, List.getElem?_map, List.getElem?_range c3']; rfl
      obtain ⟨_, _, _, rfl, _⟩ := id hdv
      obtain ⟨v', h9, o2, ap, hv9, hX9⟩ := hv8.app' (Nat.le_trans hGg (Nat.le_trans hle6.1 (Nat.le_trans hle7.1 hle8.1))) (by rw [List.length_take, modeL_len]; omega) (hdv.n fun k hk => Nat.lt_of_lt_of_le (hv.lt k hk).2 (Nat.le_trans hle6.1 hle7.1))
      obtain ⟨vp', vc', rfl⟩ := hv9.form
      have ho7 := hv8.lt
      have dv9 := dv8.leX hX9 (fun e => by have := ho7 _ e.symm; omega)
      have st9 := dv9.s1 (v := .slice vp' ((modeL N m).take i ++ [subL (noteL N (m + (i + 1))) (noteL N m)]).length vc') rfl
      simp only [go_sem, Nat.reduceBEq, Nat.reduceLeDiff, Nat.reduceLT, Array.reduceGetElem?, ↓reduceIte, t1, t2, t4, t5, t6, dv8.l1, ap, st9, wi]
      have hleF : H.le (h9.upd (h.n + 2) ⟨[.slice (some ⟨g, o, none⟩) p.length c, .slice vp' ((modeL N m).take i ++ [subL (noteL N (m + (i + 1))) (noteL N m)]).length vc'], true, false⟩) :=
        (leX.le hX9 (((hle'.trans hle6).trans hle7).trans hle8) (fun g hg => by have := ho7 g hg; omega)).upd (by omega) _
      refine ⟨i + 1, by omega, rfl, by omega, hleF, ?_, _, o2, Duo.up dv9.lt, ?_⟩
      · show G.n ≤ h9.n
        have := hX9.1; have := hle6.1; have := hle7.1; have := hle8.1; omega
      · rw [hsl]
        exact hv9.up (fun x hx => ok.ne hP m (i + 1) x (by rw [hsl]; exact hx)) dv9.cells (by omega) _
    · have c3' : i = N.length := by have := of_decide_eq_false c3; omega
      subst c3'
      rw [show (modeL N m).take N.length = modeL N m from List.take_of_length_le (by rw [modeL_len]; exact Nat.le_refl _)] at hv dv
      have dB9 := d2.mono hle'
      have hst9 := dB9.s2 (v := .slice (some ⟨g, o, none⟩) p.length c) (w := .slice vp (modeL N m).length vc) rfl rfl
      have dd9 := Duo.up (v := .slice (some ⟨g, o, none⟩) p.length c) (w := .slice vp (modeL N m).length vc) dB9.lt
      simp only [go_sem, Nat.reduceBEq, Nat.reduceAdd, ↓reduceIte, t4, t5, c3, dv.l2, hst9, dd9.l2]
      have hsn : modeL N m ≠ [] := by rw [← List.length_pos_iff, modeL_len]; exact hk
      refine ⟨(hle0.trans hle').upd (by omega) _, ?_⟩
      refine ScAt.upd ⟨_, _, rfl, (hp.mono hle0).mono hle', hv.ls hsn (by rw [modeL_len]; omega)⟩ dB9 hP.ne hsn (fun a ha => ok.ne hP m N.length a ?_)
      rw [List.take_of_length_le (by rw [modeL_len]; exact Nat.le_refl _)]
      exact ha
  · simp only [go_sem, Nat.reduceBEq]
    exact ⟨Nat.zero_le _, hleG, _, none, dG, LsO.nil _ _⟩
end Go.Proofs.Gh
namespace Go.Proofs.Gh
open Go Go.Proofs Go.Proofs.Zz
set_option maxRecDepth 10000
set_option linter.unusedSimpArgs false
theorem c_lawModes {h : GH} {b b' : Bool} {kd nm kd' nm' : Nat} {xs xs' : List Int} {z : Int} (hw : WOk kd nm xs) (hw' : WOk kd' nm' xs') :
    ∃ r h', GCalls Tryz.prog gE 8 #[wV b kd nm xs, wV b' kd' nm' xs', .int .i64 z] h r h' ∧ h.le h' ∧ r = .bool true := by
  have hcl := wCells_length (b := b) (kd := kd) (nm := nm) hw.len
  have hcl' := wCells_length (b := b') (kd := kd') (nm := nm') hw'.len
  obtain ⟨H0, hH0⟩ : ∃ H, h.alloc ⟨wCells b kd nm xs, true, false⟩ = H := ⟨_, rfl⟩
  obtain ⟨H, hH⟩ : ∃ H, H0.alloc ⟨wCells b' kd' nm' xs', true, false⟩ = H := ⟨_, rfl⟩
  have hH0n : H0.n = h.n + 1 := by rw [← hH0]; rfl
  have hle00 : h.le H0 := by rw [← hH0]; exact GH.le_alloc _ _
  have hle01 : H0.le H := by rw [← hH]; exact GH.le_alloc _ _
  have hle0 := hle00.trans hle01
  have hwl : ∀ {h'}, H.le h' → h'.load h.n 0 27 = some (wCells b kd nm xs) := fun hl => world_load hw.len (by rw [hH0]; exact hle01.trans hl)
  have hwl' : ∀ {h'}, H.le h' → h'.load (h.n + 1) 0 27 = some (wCells b' kd' nm' xs') := fun hl => by
    rw [← hH0n]
    exact world_load hw'.len (by rw [hH]; exact hl)
  refine gcalls_in (pl := pl8) [.tmp 6] mixed Tryz.func8 rfl rfl (by exact ok8) ?_
  simp only [go_sem, Nat.reduceBEq, ↓reduceIte, wV, wCells_one, hH0, hH, hH0n]
  refine callK_intro (c_known) ?_
  rintro _ h1 ⟨hle1, rfl⟩
  have w1 := hwl hle1
  have w1' := hwl' hle1
  simp only [go_sem, Nat.reduceBEq, Array.reduceGetElem?, w1, w1', pl8]
  obtain ⟨K, hK, dz1, dz2, hleK, hKn⟩ := Duo.two h1 (.slice none 0 0) (.slice none 0 0) (.slice none 0 0) (.slice none 0 0)
  rw [hK]
  refine callK_intro (c_Make' hw.kd hw.nm hw.len hw.bd) ?_
  rintro sv h2 ⟨hle2, N, D, L, F, sc, _, hs⟩
  have w2 := hwl ((hle1.trans hleK).trans hle2)
  have w2' := hwl' ((hle1.trans hleK).trans hle2)
  obtain ⟨g, o, c, g2, o2, c2, rfl, hp, hn⟩ := hs.form
  simp only [go_sem, Nat.reduceBEq, Array.reduceGetElem?, w2']
  refine callK_intro (c_Make' hw'.kd hw'.nm hw'.len hw'.bd) ?_
  rintro tv h3 ⟨hle3, M, D', L', F', sc', _, ht⟩
  obtain ⟨g3, o3, c3, g4, o4, c4, rfl, hq, hm⟩ := ht.form
  have w3 := hwl (((hle1.trans hleK).trans hle2).trans hle3)
  have w3' := hwl' (((hle1.trans hleK).trans hle2).trans hle3)
  simp only [go_sem, Nat.reduceBEq, Nat.reduceAdd, Array.reduceGetElem?, ↓reduceIte]
  have hP := prW_pr b
  have hQ := prW_pr b'
  have hpl := hP.len
  have hql := hQ.len
  have so := sc.scOk hP F
  have to := sc'.scOk hQ F'
  have ok := sc.mo hP F
  have ok' := sc'.mo hQ F'
  have hk := sc.len
  have hk' := sc'.len
  have ne1 : N ≠ [] := by rw [← List.length_pos_iff]; exact hk.1
  have ne2 : M ≠ [] := by rw [← List.length_pos_iff]; exact hk'.1
  have el1 : ∀ a ∈ N, a ≠ [] := fun a ha => by rw [← List.length_pos_iff, ok.len a ha]; omega
  have el2 : ∀ a ∈ M, a ≠ [] := fun a ha => by rw [← List.length_pos_iff, ok'.len a ha]; omega
  have z1 := (dz1.mono hle2).mono hle3
  have st1 := z1.s2 (v := .slice (some ⟨g, o, none⟩) (prW b).length c) (w := .slice (some ⟨g2, o2, none⟩) N.length c2) rfl rfl
  obtain ⟨h4, hh4⟩ : ∃ h4, h3.upd h1.n ⟨[.slice (some ⟨g, o, none⟩) (prW b).length c, .slice (some ⟨g2, o2, none⟩) N.length c2], true, false⟩ = h4 := ⟨_, rfl⟩
  have dS4 : Duo h4 h1.n (.slice (some ⟨g, o, none⟩) (prW b).length c) (.slice (some ⟨g2, o2, none⟩) N.length c2) := by rw [← hh4]; exact Duo.up z1.lt
  have z2 : Duo h4 (h1.n + 1) (.slice none 0 0) (.slice none 0 0) := by rw [← hh4]; exact ((dz2.mono hle2).mono hle3).up_ne (by omega)
  have st2 := z2.s2 (v := .slice (some ⟨g3, o3, none⟩) (prW b').length c3) (w := .slice (some ⟨g4, o4, none⟩) M.length c4) rfl rfl
  obtain ⟨h5, hh5⟩ : ∃ h5, h4.upd (h1.n + 1) ⟨[.slice (some ⟨g3, o3, none⟩) (prW b').length c3, .slice (some ⟨g4, o4, none⟩) M.length c4], true, false⟩ = h5 := ⟨_, rfl⟩
  have dS : Duo h5 h1.n (.slice (some ⟨g, o, none⟩) (prW b).length c) (.slice (some ⟨g2, o2, none⟩) N.length c2) := by rw [← hh5]; exact dS4.up_ne (by omega)
  have dT : Duo h5 (h1.n + 1) (.slice (some ⟨g3, o3, none⟩) (prW b').length c3) (.slice (some ⟨g4, o4, none⟩) M.length c4) := by rw [← hh5]; exact Duo.up z2.lt
  have hle15 : h1.le h5 := by
    rw [← hh5, ← hh4]
    exact (((hleK.trans hle2).trans hle3).upd (Nat.le_refl _) _).upd (by omega) _
  have hs5 : ScAt h5 (.agg #[.slice (some ⟨g, o, none⟩) (prW b).length c, .slice (some ⟨g2, o2, none⟩) N.length c2]) (prW b) N := by
    rw [← hh5]
    refine ScAt.upd ?_ z2 hP.ne ne1 el1
    rw [← hh4]
    exact ScAt.upd (hs.mono hle3) z1 hP.ne ne1 el1
  have ht5 : ScAt h5 (.agg #[.slice (some ⟨g3, o3, none⟩) (prW b').length c3, .slice (some ⟨g4, o4, none⟩) M.length c4]) (prW b') M := by
    rw [← hh5]
    refine ScAt.upd ?_ z2 hQ.ne ne2 el2
    rw [← hh4]
    exact ScAt.upd ht z1 hQ.ne ne2 el2
  have hleA := hle0.trans (hle1.trans hle15)
  have w5 := hwl (hle1.trans hle15)
  have w5' := hwl' (hle1.trans hle15)
  simp only [go_sem, Nat.reduceBEq, Nat.reduceAdd, Array.reduceGetElem?, ↓reduceIte, st1, hh4, st2, hh5, dS.l2]
  refine callK_intro (c_Mode z hP hs5 so ok) ?_
  rintro rr h6 ⟨hle6, hr⟩
  obtain ⟨p1, n1, q1, p2, n2, q2, e, rfl, hr'⟩ : ∃ p1 n1 q1 p2 n2 q2 e, rr = .tuple #[.agg #[.slice p1 n1 q1, .slice p2 n2 q2], .int .i64 e] ∧ (((z < 0 ∨ (N.length : Int) ≤ z) ∧ e = 3 ∧ n2 = 0) ∨ (0 ≤ z ∧ z < N.length ∧ e = 0 ∧ ScAt h6 (.agg #[.slice p1 n1 q1, .slice p2 n2 q2]) (prW b) (modeL N z.toNat))) := by
    rcases hr with ⟨e1, rfl⟩ | ⟨e1, e2, tv, rfl, ht⟩
    · exact ⟨_, _, _, _, _, _, _, rfl, .inl ⟨e1, rfl, rfl⟩⟩
    · obtain ⟨a1, a2, a3, a4, a5, a6, rfl, _, _⟩ := ht.form
      exact ⟨_, _, _, _, _, _, _, rfl, .inr ⟨e1, e2, rfl, ht⟩⟩
  obtain ⟨G, hG⟩ : ∃ G, h6.alloc ⟨[.slice p1 n1 q1, .slice p2 n2 q2], true, false⟩ = G := ⟨_, rfl⟩
  have dX : Duo G h6.n (.slice p1 n1 q1) (.slice p2 n2 q2) := by rw [← hG]; exact Duo.new _ _ _
  have hleG : h6.le G := by rw [← hG]; exact GH.le_alloc _ _
  have hle5G := hle6.trans hleG
  have dSG := dS.mono hle5G
  have dTG := dT.mono hle5G
  simp only [go_sem, Nat.reduceBEq, Nat.reduceAdd, Array.reduceGetElem?, ↓reduceIte, alloc_store2s (h := h6) (a := .slice none 0 0) (b := .slice none 0 0) (v := .slice p1 n1 q1) (w := .slice p2 n2 q2) rfl rfl, hG, dSG.l2, dTG.l2]
  refine callK_intro (c_Same hP hQ (hs5.mono hle5G) (ht5.mono hle5G) so to) ?_
  rintro _ h7 ⟨hle7, rfl⟩
  have hle57 := hle5G.trans hle7
  have dS7 := dS.mono hle57
  have dT7 := dT.mono hle57
  simp only [go_sem, Nat.reduceBEq, Array.reduceGetElem?, dS7.l2, dT7.l2]
  refine callK_intro (c_Rotation hP hQ (hs5.mono hle57) (ht5.mono hle57) so to ok) ?_
  rintro rr h8 ⟨hle8, hr8⟩
  obtain ⟨k, f, rfl, hk8⟩ : ∃ (k : Nat) (f : Bool), rr = .tuple #[.int .i64 k, .bool f, .int .i64 0] ∧ ((f = true ∧ k < N.length ∧ IsMo (prW b) (prW b') N M k ∧ ∀ j, j < k → ¬ IsMo (prW b) (prW b') N M j) ∨ (f = false ∧ k = 0 ∧ ∀ j, j < N.length → ¬ IsMo (prW b) (prW b') N M j)) := by
    rcases hr8 with ⟨k, e1, e2, e3, rfl⟩ | ⟨e1, rfl⟩
    · exact ⟨k, true, rfl, .inl ⟨rfl, e1, e2, e3⟩⟩
    · exact ⟨0, false, rfl, .inr ⟨rfl, rfl, e1⟩⟩
  have hle58 := hle57.trans hle8
  have dS8 := dS.mono hle58
  have dT8 := dT.mono hle58
  simp only [go_sem, Nat.reduceBEq, Int.reduceNe, Array.reduceGetElem?, ↓reduceIte, dS8.l2, dT8.l2]
  have hpq : ∀ {h'}, h5.le h' → PrAt h' (.slice (some ⟨g, o, none⟩) (prW b).length c) (prW b) ∧ LsAt h' (.slice (some ⟨g2, o2, none⟩) N.length c2) N ∧ PrAt h' (.slice (some ⟨g3, o3, none⟩) (prW b').length c3) (prW b') ∧ LsAt h' (.slice (some ⟨g4, o4, none⟩) M.length c4) M := by
    intro h' hl
    obtain ⟨u1, u2, eu, a1, a2⟩ := hs5.mono hl
    obtain ⟨u3, u4, eu', a3, a4⟩ := ht5.mono hl
    injection eu with eu
    injection eu' with eu'
    simp only [Array.mk.injEq, List.cons.injEq, and_true] at eu eu'
    obtain ⟨rfl, rfl⟩ := eu
    obtain ⟨rfl, rfl⟩ := eu'
    exact ⟨a1, a2, a3, a4⟩
  have q8 := hpq hle58
  refine callK_intro (c_same q8.1 q8.2.2.1 (.inl q8.2.1) (.inl q8.2.2.2) rfl rfl (by omega) (by omega) (fun l hl => by rw [ok.len l hl]; omega)) ?_
  rintro _ h9 ⟨hle9, rfl⟩
  have hle59 := hle58.trans hle9
  have dS9 := dS.mono hle59
  have dT9 := dT.mono hle59
  simp only [go_sem, Nat.reduceBEq, Int.reduceNeg, Array.reduceGetElem?, ↓reduceIte]
  have wl : IntKind.i64.wrap ((N.length : Int) - 1) = ((N.length : Nat) : Int) - 1 := wrap_i64 (by omega) (by omega)
  simp only [go_sem, Int.reduceNeg, dS9.l1, wl]
  refine loopK_inv (α := Nat) (fun j => j) (fun j ts g' => ts 2 = .int .i64 z ∧ ts 7 = .pointer (some ⟨h1.n, 0, none⟩) ∧ ts 8 = .pointer (some ⟨h1.n + 1, 0, none⟩) ∧ ts 9 = .pointer (some ⟨h6.n, 0, none⟩) ∧ ts 10 = .int .i64 e ∧ ts 13 = .int .i64 k ∧ ts 14 = .bool f ∧ ts 17 = .int .i64 ((j : Int) - 1) ∧ j ≤ N.length ∧ h9.le g' ∧ ∃ a : Int, ts 16 = .int .i64 a ∧ ((a = -1 ∧ ∀ i, j ≤ i → i < N.length → ¬ IsMo (prW b) (prW b') N M i) ∨ ∃ i0 : Nat, a = i0 ∧ j ≤ i0 ∧ i0 < N.length ∧ IsMo (prW b) (prW b') N M i0 ∧ ∀ i, j ≤ i → i < i0 → ¬ IsMo (prW b) (prW b') N M i)) ?_ (a0 := N.length) ?_
  · rintro j ts g' ⟨t2, t7, t8, t9, t10, t13, t14, t17, hj, hle', a, t16, ha⟩
    have hle5' := hle59.trans hle'
    have dS' := dS.mono hle5'
    have dT' := dT.mono hle5'
    simp only [go_sem, t17]
    refine ifK_intro (fun c5 => ?_) (fun c5 => ?_)
    · have c5' : 0 ≤ (j : Int) - 1 := of_decide_eq_true c5
      obtain ⟨i, rfl⟩ : ∃ i, j = i + 1 := ⟨j - 1, by omega⟩
      have e1 : (((i + 1 : Nat) : Int) - 1) = ((i : Nat) : Int) := by omega
      rw [e1] at t17
      have wi : IntKind.i64.wrap ((i : Int) - 1) = (i : Int) - 1 := wrap_i64 (by omega) (by omega)
      simp only [go_sem, Nat.reduceBEq, Array.reduceGetElem?, t7, t8, t17, e1, dS'.l2, dT'.l2, pl8]
      refine callK_intro (c_lMode hP (hs5.mono hle5') ok (by omega)) ?_
      rintro xv ha1 ⟨hlea, hx⟩
      obtain ⟨x1, x2, x3, x4, x5, x6, rfl, hx1, hx2⟩ := hx.form
      have hle5a := hle5'.trans hlea
      have dSa := dS.mono hle5a
      have dTa := dT.mono hle5a
      have qa := hpq hle5a
      simp only [go_sem, Nat.reduceBEq, Array.reduceGetElem?, t8, e1, dTa.l2]
      refine callK_intro (c_same hx1 qa.2.2.1 (.inl hx2) (.inl qa.2.2.2) rfl rfl (by omega) (by rw [modeL_len]; omega) (fun l hl => ?_)) ?_
      · obtain ⟨u, _, rfl⟩ := List.mem_map.1 hl
        rw [subL_length _ _ (by rw [ok.nl, ok.nl]), ok.nl]
        omega
      rintro _ hb1 ⟨hleb, rfl⟩
      have dSb := dS.mono (hle5a.trans hleb)
      have dTb := dT.mono (hle5a.trans hleb)
      by_cases hmo : IsMo (prW b) (prW b') N M i
      · have e2 : (decide (prW b = prW b') && decide (modeL N i = M)) = true := by rw [decide_eq_true hmo.1, decide_eq_true hmo.2]; rfl
        simp only [go_sem, Nat.reduceBEq, Int.reduceNeg, t2, t7, t8, t9, t10, t13, t14, t17, e2, wi]
        exact ⟨i, by omega, rfl, by omega, (hle'.trans hlea).trans hleb, i, rfl, .inr ⟨i, rfl, Nat.le_refl _, by omega, hmo, fun u h1 h2 => by omega⟩⟩
      · have e2 : (decide (prW b = prW b') && decide (modeL N i = M)) = false := by
          rw [Bool.and_eq_false_iff, decide_eq_false_iff_not, decide_eq_false_iff_not]
          rcases Decidable.not_and_iff_or_not.1 hmo with h | h
          · exact .inl h
          · exact .inr h
        simp only [go_sem, Nat.reduceBEq, Int.reduceNeg, t2, t7, t8, t9, t10, t13, t14, t16, t17, e2, wi]
        refine ⟨i, by omega, rfl, by omega, (hle'.trans hlea).trans hleb, a, rfl, ?_⟩
        rcases ha with ⟨a1, a2⟩ | ⟨i0, a1, a2, a3, a4, a5⟩
        · refine .inl ⟨a1, fun u h1 h2 => ?_⟩
          rcases Nat.lt_or_ge i u with h | h
          · exact a2 u h h2
          · obtain rfl : u = i := by omega
            exact hmo
        · refine .inr ⟨i0, a1, by omega, a3, a4, fun u h1 h2 => ?_⟩
          rcases Nat.lt_or_ge i u with h | h
          · exact a5 u h h2
          · obtain rfl : u = i := by omega
            exact hmo
    · have c5' : ¬ 0 ≤ (j : Int) - 1 := of_decide_eq_false c5
      obtain rfl : j = 0 := by omega
      simp only [go_sem, Nat.reduceBEq, Int.reduceSub, Int.reduceNeg, Int.reduceLE, Array.reduceGetElem?, ↓reduceIte, t14, t16]
      have key : decide (0 ≤ a) = f ∧ (if a < 0 then 0 else a) = (k : Int) := by
        rcases hk8 with ⟨rfl, k1, k2, k3⟩ | ⟨rfl, rfl, k1⟩
        · rcases ha with ⟨a1, a2⟩ | ⟨i0, a1, a2, a3, a4, a5⟩
          · exact absurd k2 (a2 k (Nat.zero_le _) k1)
          · have : i0 = k := by
              rcases Nat.lt_trichotomy i0 k with h | h | h
              · exact absurd a4 (k3 i0 h)
              · exact h
              · exact absurd k2 (a5 k (Nat.zero_le _) h)
            subst this
            exact ⟨decide_eq_true (by omega), by rw [if_neg (by omega), a1]⟩
        · rcases ha with ⟨a1, a2⟩ | ⟨i0, a1, a2, a3, a4, a5⟩
          · exact ⟨decide_eq_false (by omega), by rw [if_pos (by omega)]; rfl⟩
          · exact absurd a4 (k1 i0 a3)
      rw [key.1]
      have hle5' := hle59.trans hle'
      have hle05 := hleA.trans hle5'
      have dS' := dS.mono hle5'
      have dX' := dX.mono (((hle7.trans hle8).trans hle9).trans hle')
      have kk : decide ((k : Int) ≠ (k : Int)) = false := by simp
      simp only [go_sem, Nat.reduceBEq, Int.reduceSub, Int.reduceNeg, Int.reduceLE, Array.reduceGetElem?, ↓reduceIte, t2, t13, t16, key.2, kk]
      refine ifK_intro (fun c6 => ?_) (fun c6 => ?_)
      · have c6' := of_decide_eq_true c6
        rcases hr' with ⟨_, rfl, rfl⟩ | ⟨r1, _⟩
        · simp only [go_sem, Nat.reduceBEq, Int.reduceSub, Int.reduceNeg, Int.reduceLE, Array.reduceGetElem?, ↓reduceIte, t9, t10, c6, dX'.l1]
          exact hle05
        · omega
      · have c6' := of_decide_eq_false c6
        simp only [go_sem, Nat.reduceBEq, Int.reduceSub, Int.reduceNeg, Int.reduceLE, Array.reduceGetElem?, ↓reduceIte, t2, t7, c6, dS'.l1]
        refine ifK_intro (fun c7 => ?_) (fun c7 => ?_)
        · have c7' := of_decide_eq_true c7
          rcases hr' with ⟨_, rfl, rfl⟩ | ⟨_, r1, _⟩
          · simp only [go_sem, Nat.reduceBEq, Int.reduceSub, Int.reduceNeg, Int.reduceLE, Array.reduceGetElem?, ↓reduceIte, t9, t10, c6, c7, dX'.l1]
            exact hle05
          · omega
        · have c7' := of_decide_eq_false c7
          rcases hr' with ⟨r1, _⟩ | ⟨r1, r2, rfl, r3⟩
          · omega
          obtain ⟨n, rfl⟩ : ∃ n : Nat, z = n := ⟨z.toNat, by omega⟩
          have r4 := (r3.mono hleG).mono (((hle7.trans hle8).trans hle9).trans hle')
          simp only [go_sem, Nat.reduceBEq, Int.reduceSub, Int.reduceNeg, Int.reduceLE, Array.reduceGetElem?, t2, t7, t9, t10, c6, c7, dX'.l2, dS'.l2, pl8]
          refine callK_intro (c_lMode hP (hs5.mono hle5') ok (by omega)) ?_
          rintro xv ha1 ⟨hlea, hx⟩
          obtain ⟨x1, x2, x3, x4, x5, x6, rfl, hx1, hx2⟩ := hx.form
          have r5 := r4.mono hlea
          have dXa := dX'.mono hlea
          obtain ⟨u1, u2, eu, hu1, hu2⟩ := id r5
          injection eu with eu
          simp only [Array.mk.injEq, List.cons.injEq, and_true] at eu
          obtain ⟨rfl, rfl⟩ := eu
          simp only [go_sem, Nat.reduceBEq, Int.reduceSub, Int.reduceNeg, Int.reduceLE, Array.reduceGetElem?, t9, dXa.l2]
          refine callK_intro (c_same hu1 hx1 (.inl hu2) (.inl hx2) rfl rfl (by omega) (by rw [modeL_len]; omega) (fun l hl => ?_)) ?_
          · obtain ⟨u, _, rfl⟩ := List.mem_map.1 hl
            rw [subL_length _ _ (by rw [ok.nl, ok.nl]), ok.nl]
            omega
          rintro _ hb1 ⟨hleb, rfl⟩
          simp only [go_sem, Nat.reduceBEq, Int.reduceSub, Int.reduceNeg, Int.reduceLE, Array.reduceGetElem?, ↓reduceIte]
          exact (hle05.trans hlea).trans hleb
  · simp only [go_sem, Nat.reduceBEq, Int.reduceNeg]
    exact ⟨GH.le.refl _, -1, rfl, .inl ⟨rfl, fun i h1 h2 => by omega⟩⟩
end Go.Proofs.Gh
namespace Go.Proofs.Gh
open Go Go.Proofs Go.Proofs.Zz
set_option maxRecDepth 10000
set_option linter.unusedSimpArgs false
/-- a note's numbers -/
theorem Sc.note_at {p : List Int} {D : Nat} {L N : List (List Rat)} (hP : Pr p) (s : Sc p D L N) (n i : Nat) :
    at' (noteL N n) i = (if i = 0 then ((n / N.length : Nat) : Rat) else 0) + (if n % N.length = 0 then 0 else at' (N[n % N.length - 1]?.getD []) i) := by
  have hpl := hP.len
  have hk := s.len
  have e : at' (scaleL (oct p.length) ((n / N.length : Nat) : Int)) i = if i = 0 then ((n / N.length : Nat) : Rat) else 0 := by
    rw [at_scale, at_oct (by omega)]
    split
    · rw [Rat.one_mul, Rat.intCast_natCast]
    · rw [Rat.zero_mul]
  rw [noteL, s.per]
  split
  · rw [e, Rat.add_zero]
  · have hlt := Nat.mod_lt n hk.1
    have hm : N[n % N.length - 1]? = some N[n % N.length - 1] := List.getElem?_eq_getElem (by omega)
    rw [at_add (by rw [scaleL_length, oct_length (by omega), hm, Option.getD_some]; exact (s.nd _ (List.mem_of_getElem? hm)).len), e]
theorem Sc.note_shift {p : List Int} {D : Nat} {L N : List (List Rat)} (hP : Pr p) (s : Sc p D L N) (n q i : Nat) :
    at' (noteL N (n + q * N.length)) i = at' (noteL N n) i + (if i = 0 then (q : Rat) else 0) := by
  have hk := s.len
  rw [s.note_at hP, s.note_at hP, Nat.add_mul_mod_self_right, Nat.add_mul_div_right _ _ hk.1]
  split
  · rw [Rat.natCast_add]; grind
  · grind
theorem Sc.vl_note {p : List Int} {D : Nat} {L N : List (List Rat)} (hP : Pr p) (s : Sc p D L N) (n : Nat) :
    vl (noteL N n) = ((n / N.length : Nat) : Rat) * 67108864 + (if n % N.length = 0 then 0 else vl (N[n % N.length - 1]?.getD [])) := by
  rw [vl_at, s.note_at hP, s.note_at hP, s.note_at hP]
  have n1 : ¬ (1 : Nat) = 0 := by decide
  have n2 : ¬ (2 : Nat) = 0 := by decide
  by_cases h : n % N.length = 0
  · simp only [if_pos h, if_neg n1, if_neg n2, ↓reduceIte]; grind
  · simp only [if_neg h, if_neg n1, if_neg n2, ↓reduceIte]; rw [vl_at]; grind
theorem Sc.at_mem {p : List Int} {D : Nat} {L N : List (List Rat)} (_s : Sc p D L N) {i : Nat} (hi : i < N.length) : N[i]? = some (N[i]?.getD []) ∧ N[i]?.getD [] ∈ N := by
  rw [List.getElem?_eq_getElem hi]
  exact ⟨rfl, List.getElem_mem hi⟩
/-- the notes go up -/
theorem Sc.note_lt {p : List Int} {D : Nat} {L N : List (List Rat)} (hP : Pr p) (s : Sc p D L N) (n : Nat) : vl (noteL N n) < vl (noteL N (n + 1)) := by
  have hpl := hP.len
  have hk := s.len
  have hlt := Nat.mod_lt n hk.1
  have hoct : vl (N[N.length - 1]?.getD []) = 67108864 := by rw [s.last]; exact vl_oct (by omega)
  rw [s.vl_note hP, s.vl_note hP]
  obtain ⟨q, hq⟩ : ∃ q, n / N.length = q := ⟨_, rfl⟩
  obtain ⟨r, hr⟩ : ∃ r, n % N.length = r := ⟨_, rfl⟩
  have hn : n = r + q * N.length := by
    have := Nat.mod_add_div n N.length
    rw [hq, hr, Nat.mul_comm] at this
    exact this.symm
  rw [hr] at hlt
  rw [hq, hr]
  by_cases hl : r + 1 = N.length
  · have e1 : n + 1 = 0 + (q + 1) * N.length := by rw [hn, Nat.add_mul, Nat.one_mul]; omega
    have e2 : (n + 1) % N.length = 0 := by rw [e1, Nat.add_mul_mod_self_right, Nat.zero_mod]
    have e3 : (n + 1) / N.length = q + 1 := by rw [e1, Nat.add_mul_div_right _ _ hk.1, Nat.zero_div, Nat.zero_add]
    rw [e2, e3, if_pos rfl, Rat.natCast_add]
    split
    · grind
    · obtain ⟨m1, m2⟩ := s.at_mem (i := r - 1) (by omega)
      obtain ⟨m3, m4⟩ := s.at_mem (i := N.length - 1) (by omega)
      have := inc_lt s.inc (N.length - 1) (r - 1) _ _ (by omega) m1 m3
      rw [hoct] at this
      grind
  · have e1 : n + 1 = (r + 1) + q * N.length := by omega
    have e2 : (n + 1) % N.length = r + 1 := by rw [e1, Nat.add_mul_mod_self_right, Nat.mod_eq_of_lt (by omega)]
    have e3 : (n + 1) / N.length = q := by rw [e1, Nat.add_mul_div_right _ _ hk.1, Nat.div_eq_of_lt (by omega), Nat.zero_add]
    rw [e2, e3, if_neg (Nat.succ_ne_zero r), Nat.add_sub_cancel]
    obtain ⟨m1, m2⟩ := s.at_mem (i := r) (by omega)
    by_cases hr0 : r = 0
    · have := (s.pos _ m2).1
      rw [if_pos hr0]
      grind
    · obtain ⟨m3, m4⟩ := s.at_mem (i := r - 1) (by omega)
      rw [if_neg hr0]
      have := inc_lt s.inc r (r - 1) _ _ (by omega) m3 m1
      grind
theorem Sc.note_lt' {p : List Int} {D : Nat} {L N : List (List Rat)} (hP : Pr p) (s : Sc p D L N) {n m : Nat} (h : n < m) : vl (noteL N n) < vl (noteL N m) := by
  induction m with
  | zero => omega
  | succ m ih =>
    have h1 := s.note_lt hP m
    rcases Nat.lt_or_ge n m with h2 | h2
    · have := ih h2
      grind
    · obtain rfl : n = m := by omega
      exact h1
theorem Sc.note0 {p : List Int} {D : Nat} {L N : List (List Rat)} (hP : Pr p) (s : Sc p D L N) : noteL N 0 = zeroL p.length := by
  refine at_ext (by rw [s.note_len hP]; simp [zeroL]) fun i => ?_
  rw [s.note_at hP, at_zero, Nat.zero_mod, if_pos rfl, Nat.zero_div]
  split <;> grind
/-- the notes are the notes -/
theorem Sc.note_N {p : List Int} {D : Nat} {L N : List (List Rat)} (hP : Pr p) (s : Sc p D L N) {i : Nat} (hi : i < N.length) : noteL N (i + 1) = N[i]?.getD [] := by
  have hpl := hP.len
  have hk := s.len
  obtain ⟨m1, m2⟩ := s.at_mem hi
  refine at_ext (by rw [s.note_len hP, (s.nd _ m2).len]) fun j => ?_
  rw [s.note_at hP]
  by_cases hl : i + 1 = N.length
  · rw [hl, Nat.mod_self, if_pos rfl, Nat.div_self hk.1, show i = N.length - 1 by omega, s.last, Option.getD_some, at_oct (by omega), Rat.add_zero]
    split <;> rfl
  · rw [Nat.mod_eq_of_lt (by omega), Nat.div_eq_of_lt (by omega), if_neg (Nat.succ_ne_zero i), Nat.add_sub_cancel]
    split <;> grind
/-! a mode's own notes -/
theorem Sc.mode_len {p : List Int} {D : Nat} {L N : List (List Rat)} (hP : Pr p) (s : Sc p D L N) (n m : Nat) : (subL (noteL N n) (noteL N m)).length = p.length := by
  rw [subL_length _ _ (by rw [s.note_len hP, s.note_len hP]), s.note_len hP]
theorem Sc.mode_at {p : List Int} {D : Nat} {L N : List (List Rat)} (hP : Pr p) (s : Sc p D L N) (n m i : Nat) : at' (subL (noteL N n) (noteL N m)) i = at' (noteL N n) i - at' (noteL N m) i :=
  at_sub (by rw [s.note_len hP, s.note_len hP]) i
theorem modeL_get (N : List (List Rat)) (m : Nat) {i : Nat} (hi : i < N.length) : (modeL N m)[i]? = some (subL (noteL N (m + (i + 1))) (noteL N m)) := by
  rw [modeL, List.getElem?_map, List.getElem?_range hi]; rfl
theorem Sc.mode_per {p : List Int} {D : Nat} {L N : List (List Rat)} (hP : Pr p) (s : Sc p D L N) (m : Nat) : perN (modeL N m) = oct p.length := by
  have hpl := hP.len
  have hk := s.len
  rw [perN, modeL_len, modeL_get N m (by omega), Option.getD_some]
  refine at_ext (by rw [s.mode_len hP, oct_length (by omega)]) fun i => ?_
  have e : m + (N.length - 1 + 1) = m + 1 * N.length := by omega
  rw [s.mode_at hP, e, s.note_shift hP, at_oct (by omega)]
  split
  · grind
  · grind
theorem Sc.mode_note {p : List Int} {D : Nat} {L N : List (List Rat)} (hP : Pr p) (s : Sc p D L N) (m n : Nat) : noteL (modeL N m) n = subL (noteL N (m + n)) (noteL N m) := by
  have hpl := hP.len
  have hk := s.len
  have hlt := Nat.mod_lt n hk.1
  have hsl : (scaleL (oct p.length) (((n / N.length : Nat) : Int) : Rat)).length = p.length := by rw [scaleL_length, oct_length (by omega)]
  have hn : m + n = (m + n % N.length) + (n / N.length) * N.length := by
    have := Nat.mod_add_div n N.length
    rw [Nat.mul_comm] at this
    omega
  have eo : ∀ i, at' (scaleL (oct p.length) (((n / N.length : Nat) : Int) : Rat)) i = if i = 0 then ((n / N.length : Nat) : Rat) else 0 := by
    intro i
    rw [at_scale, at_oct (by omega)]
    split
    · rw [Rat.one_mul, Rat.intCast_natCast]
    · rw [Rat.zero_mul]
  rw [noteL, modeL_len, s.mode_per hP]
  split
  · rename_i h0
    refine at_ext (by rw [hsl, s.mode_len hP]) fun i => ?_
    rw [s.mode_at hP, hn, s.note_shift hP, h0, Nat.add_zero, eo]
    grind
  · rename_i h0
    have hg : (modeL N m)[n % N.length - 1]?.getD [] = subL (noteL N (m + n % N.length)) (noteL N m) := by
      rw [modeL_get N m (by omega), Option.getD_some, show n % N.length - 1 + 1 = n % N.length by omega]
    rw [hg]
    refine at_ext (by rw [addL_length _ _ (by rw [hsl, s.mode_len hP]), hsl, s.mode_len hP]) fun i => ?_
    rw [at_add (by rw [hsl, s.mode_len hP]), s.mode_at hP, s.mode_at hP, eo]
    conv => rhs; rw [hn, s.note_shift hP]
    grind
theorem Sc.mode_mode {p : List Int} {D : Nat} {L N : List (List Rat)} (hP : Pr p) (s : Sc p D L N) (m n : Nat) : modeL (modeL N m) n = modeL N ((m + n) % N.length) := by
  have hk := s.len
  have hn : m + n = (m + n) % N.length + ((m + n) / N.length) * N.length := by
    have := Nat.mod_add_div (m + n) N.length
    rw [Nat.mul_comm] at this
    omega
  unfold modeL
  rw [show (List.map (fun i => subL (noteL N (m + (i + 1))) (noteL N m)) (List.range N.length)).length = N.length by simp]
  refine List.map_congr_left fun i _ => ?_
  have := s.mode_note hP m (n + (i + 1))
  unfold modeL at this
  rw [this]
  have := s.mode_note hP m n
  unfold modeL at this
  rw [this]
  refine at_ext (by rw [subL_length _ _ (by rw [s.mode_len hP, s.mode_len hP]), s.mode_len hP, s.mode_len hP]) fun j => ?_
  rw [at_sub (by rw [s.mode_len hP, s.mode_len hP]), s.mode_at hP, s.mode_at hP, s.mode_at hP]
  have e1 : m + (n + (i + 1)) = ((m + n) % N.length + (i + 1)) + ((m + n) / N.length) * N.length := by omega
  rw [e1, s.note_shift hP]
  conv => lhs; rw [hn, s.note_shift hP]
  grind
end Go.Proofs.Gh
namespace Go.Proofs.Gh
open Go Go.Proofs Go.Proofs.Zz
set_option maxRecDepth 10000
set_option linter.unusedSimpArgs false
theorem subL_subL {a b c : List Rat} (h1 : b.length = a.length) (h2 : c.length = a.length) : subL (subL a c) (subL b c) = subL a b := by
  have hb : (subL b c).length = (subL a c).length := by rw [subL_length _ _ (by omega), subL_length _ _ h2, h1]
  refine at_ext (by rw [subL_length _ _ hb, subL_length _ _ h2, subL_length _ _ h1]) fun i => ?_
  rw [at_sub hb, at_sub h2, at_sub (by omega), at_sub h1]
  grind
theorem subL_zl {a b : List Rat} {n : Nat} (h : a.length = n) (h2 : b.length = n) : subL (zeroL n) (subL a b) = subL b a := by
  have hl : (subL a b).length = (zeroL n).length := by rw [subL_length _ _ (by omega), h]; simp [zeroL]
  refine at_ext (by rw [subL_length _ _ hl, subL_length _ _ (by omega), h2]; simp [zeroL]) fun i => ?_
  rw [at_sub hl, at_zero, at_sub (by omega), at_sub (by omega)]
  grind
/-- tighter bounds of the notes -/
theorem Sc.b5 {p : List Int} {D : Nat} {L N : List (List Rat)} (hP : Pr p) (F : Fam p D L) (s : Sc p D L N) : ∀ a ∈ N, ∀ i, Bd D 5000 (at' a i) := by
  intro a ha i
  have hpl := hP.len
  have nd := s.nd a ha
  have hD := F.pos
  have hD2 := F.le
  obtain ⟨t, ht, t1, t2⟩ := nd.src
  have b1 : (cf D a 1).natAbs ≤ 1200 := by rw [t1]; exact ((F.bd t ht 1).ov hD).2
  have b2 : (cf D a 2).natAbs ≤ 1200 := by rw [t2]; exact ((F.bd t ht 2).ov hD).2
  have g := nd.good0 F
  have b0 : (cf D a 0).natAbs ≤ 5000 := by
    obtain ⟨p1, p2⟩ := s.pos a ha
    have w1 := g.pos_iff.2 p1
    have w2 : wt D a ≤ 134217728 * D := by
      have h0 := g.wt_rat
      have hp := two_pos hD
      rw [← Rat.intCast_le_intCast, h0, Rat.intCast_mul, Rat.intCast_natCast, Rat.intCast_ofNat]
      have := Rat.mul_le_mul_of_nonneg_right p2 (Rat.le_of_lt hp)
      grind
    unfold wt at w1 w2
    omega
  have e := ((nd.bd i).ov hD).1
  match i with
  | 0 => exact ⟨_, e, b0⟩
  | 1 => exact ⟨_, e, Nat.le_trans b1 (by decide)⟩
  | 2 => exact ⟨_, e, Nat.le_trans b2 (by decide)⟩
  | i + 3 =>
    rw [at_ge (by rw [nd.len]; omega)]
    exact Bd.zero
theorem Sc.note_b {p : List Int} {D : Nat} {L N : List (List Rat)} (hP : Pr p) (F : Fam p D L) (s : Sc p D L N) {n : Nat} (hn : n ≤ 8 * N.length) (i : Nat) : Bd D 5900 (at' (noteL N n) i) := by
  have hk := s.len
  have hD := F.pos
  have hD2 := F.le
  have hq : n / N.length ≤ 8 := by
    have := Nat.div_le_div_right (c := N.length) hn
    rwa [Nat.mul_div_cancel _ hk.1] at this
  rw [s.note_at hP]
  refine Bd.mono (B := 800 + 5000) (Bd.add hD ?_ ?_) (by decide)
  · split
    · have := bd_int hD (((n / N.length : Nat) : Int))
      rw [Rat.intCast_natCast] at this
      refine this.mono ?_
      rw [Int.natAbs_mul, Int.natAbs_natCast, Int.natAbs_natCast]
      exact Nat.le_trans (Nat.mul_le_mul hq hD2) (by decide)
    · exact Bd.zero
  · split
    · exact Bd.zero
    · have hlt := Nat.mod_lt n hk.1
      obtain ⟨_, m2⟩ := s.at_mem (i := n % N.length - 1) (by omega)
      exact s.b5 hP F _ m2 i
theorem Sc.note_nd8 {p : List Int} {D : Nat} {L N : List (List Rat)} (hP : Pr p) (F : Fam p D L) (s : Sc p D L N) {n : Nat} (hn : n ≤ 8 * N.length) : Nd p D L (noteL N n) := (s.note_nd hP F (by omega)).1
/-- a mode is a scale -/
theorem Sc.mode_scOk {p : List Int} {D : Nat} {L N : List (List Rat)} (hP : Pr p) (F : Fam p D L) (s : Sc p D L N) {m : Nat} (hm : m ≤ N.length) : ScOk p (modeL N m) := by
  have hk := s.len
  have hpl := hP.len
  have hlen : ∀ x ∈ modeL N m, x.length = p.length := by
    intro x hx
    obtain ⟨i, _, rfl⟩ := List.mem_map.1 hx
    exact s.mode_len hP _ _
  have nd : ∀ n, n ≤ 8 * N.length → Nd p D L (noteL N n) := fun n hn => s.note_nd8 hP F hn
  refine ⟨by rw [modeL_len]; omega, by rw [modeL_len]; omega, hlen, fun x hx => ?_, fun i x hx => ?_⟩
  · obtain ⟨i, hi, rfl⟩ := List.mem_map.1 hx
    rw [List.mem_range] at hi
    exact (Nd.good F (nd _ (by omega)) (nd _ (by omega))).fit.sm
  · obtain ⟨hi, _⟩ := List.getElem?_eq_some_iff.1 hx
    rw [modeL_len] at hi
    rw [modeL_get N m hi] at hx
    injection hx with hx
    subst hx
    have key : subL (prevN p.length (modeL N m) i) (subL (noteL N (m + (i + 1))) (noteL N m)) = subL (noteL N (m + i)) (noteL N (m + (i + 1))) := by
      unfold prevN
      split
      · rename_i h0
        subst h0
        rw [subL_zl (s.note_len hP _) (s.note_len hP _)]
        rfl
      · rw [modeL_get N m (by omega), Option.getD_some, show i - 1 + 1 = i by omega]
        exact subL_subL (by rw [s.note_len hP, s.note_len hP]) (by rw [s.note_len hP, s.note_len hP])
    rw [key]
    have n1 := nd (m + i) (by omega)
    have n2 := nd (m + (i + 1)) (by omega)
    have g := Nd.good F n1 n2
    exact ⟨g.fit.mono (by decide), g.dec hP, (Nd.sgn_lt hP F n1 n2).2 (s.note_lt hP (m + i))⟩
theorem Sc.mode_mo {p : List Int} {D : Nat} {L N : List (List Rat)} (hP : Pr p) (F : Fam p D L) (s : Sc p D L N) {m : Nat} (hm : m ≤ N.length) : MoOk p (modeL N m) := by
  have hk := s.len
  have hpl := hP.len
  have hD := F.pos
  have hD2 := F.le
  have ti : ∀ {q : Rat}, Bd D 11800 q → Ti q := fun hq => ⟨by have := hq.num hD; omega, by have := hq.den_le hD; omega⟩
  have dif : ∀ n, n ≤ 4 * N.length → ∀ q ∈ subL (noteL N n) (noteL N m), Ti q := by
    intro n hn q hq
    refine ti (bd_mem (fun i => ?_) q hq)
    rw [s.mode_at hP]
    exact ((s.note_b hP F (by omega) i).sub hD (s.note_b hP F (by omega) i))
  refine ⟨by rw [modeL_len]; omega, by rw [modeL_len]; omega, fun x hx => ?_, fun x hx => ?_, fun n => ?_, fun n hn => ?_, fun n n' hn hn' => ?_⟩
  · obtain ⟨i, _, rfl⟩ := List.mem_map.1 hx
    exact s.mode_len hP _ _
  · obtain ⟨i, hi, rfl⟩ := List.mem_map.1 hx
    rw [List.mem_range] at hi
    exact dif _ (by omega)
  · rw [s.mode_note hP]
    exact s.mode_len hP _ _
  · rw [modeL_len] at hn
    rw [s.mode_note hP, modeL_len, s.mode_per hP, ← s.per]
    refine ⟨dif _ (by omega), (s.note_nd hP F (by omega)).2⟩
  · rw [modeL_len] at hn hn'
    rw [s.mode_note hP, s.mode_note hP, subL_subL (by rw [s.note_len hP, s.note_len hP]) (by rw [s.note_len hP, s.note_len hP])]
    exact (Nd.good F (s.note_nd8 hP F (by omega)) (s.note_nd8 hP F (by omega))).fit.sm
/-- the subset of all notes -/
theorem rng_get {k i : Nat} (hi : i < k) : (rng k)[i]? = some (i : Int) := by
  rw [rng, List.getElem?_map, List.getElem?_range hi]; rfl
theorem errOf_rng {k : Nat} (hk : 0 < k) : errOf k (rng k) = 0 := by
  have hne : rng k ≠ [] := by rw [← List.length_pos_iff, rng_len]; exact hk
  rw [errOf, if_neg hne, rng_len]
  have : ∀ j, j ≤ k → errTo k (rng k) j = 0 := by
    intro j
    induction j with
    | zero => intro _; rfl
    | succ j ih =>
      intro hj
      rw [errTo, if_pos (ih (by omega)), errAt, rng_get (show j < k by omega), Option.getD_some, if_neg (by omega), if_neg]
      rintro ⟨h1, h2⟩
      rw [rng_get (show j - 1 < k by omega), Option.getD_some] at h2
      omega
  exact this k (Nat.le_refl _)
theorem subN_rng {p : List Int} {D : Nat} {L N : List (List Rat)} (hP : Pr p) (s : Sc p D L N) : subN N (rng N.length) = N := by
  have hk := s.len
  have e0 : (rng N.length)[0]?.getD 0 = 0 := by rw [rng_get hk.1]; rfl
  rw [subN, subI, e0, Int.zero_add]
  have el : (rng N.length).drop 1 ++ [(N.length : Int)] = (List.range N.length).map fun i : Nat => ((i + 1 : Nat) : Int) := by
    apply List.ext_getElem?
    intro i
    rw [List.getElem?_map]
    rcases Nat.lt_or_ge i (N.length - 1) with h | h
    · rw [List.getElem?_append_left (by rw [List.length_drop, rng_len]; omega), List.getElem?_drop, rng_get (by omega), List.getElem?_range (by omega)]
      simp; omega
    · rw [List.getElem?_append_right (by rw [List.length_drop, rng_len]; omega), List.length_drop, rng_len]
      rcases Nat.lt_or_ge i N.length with h2 | h2
      · rw [List.getElem?_range h2, show i - (N.length - 1) = 0 by omega]
        simp; omega
      · rw [List.getElem?_eq_none (by simp; omega), List.getElem?_eq_none (by simp; omega)]; rfl
  rw [el, List.map_map]
  apply List.ext_getElem?
  intro i
  rw [List.getElem?_map]
  rcases Nat.lt_or_ge i N.length with h | h
  · rw [List.getElem?_range h, Option.map_some]
    obtain ⟨m1, m2⟩ := s.at_mem h
    have e1 : ntI N 0 = zeroL p.length := s.note0 hP
    have e2 : ntI N ((i + 1 : Nat) : Int) = N[i]?.getD [] := by
      unfold ntI
      rw [Int.toNat_natCast]
      exact s.note_N hP h
    show some (subL (ntI N ((i + 1 : Nat) : Int)) (ntI N 0)) = N[i]?
    rw [e1, e2, subL_zero (s.nd _ m2).len, m1]
    rfl
  · rw [List.getElem?_eq_none (by simp; exact h), List.getElem?_eq_none h]; rfl
/-! the scale of a scale's notes -/
theorem Nd.fl0 {p : List Int} {D : Nat} {L : List (List Rat)} {a : List Rat} (hP : Pr p) (F : Fam p D L) (nd : Nd p D L a) (h0 : 0 < vl a) (h1 : vl a < 67108864) : flQ p a = 0 := by
  obtain ⟨k1, k2⟩ := (nd.good0 F).fl_vl hP
  have a1 : ((flQ p a : Int) : Rat) < ((1 : Int) : Rat) := by
    have : ((1 : Int) : Rat) = 1 := rfl
    rw [this]
    exact rat_lt_of (c := 67108864) (by grind) (by grind)
  have a2 : ((-1 : Int) : Rat) < ((flQ p a : Int) : Rat) := by
    have : ((-1 : Int) : Rat) = -1 := rfl
    rw [this]
    exact rat_lt_of (c := 67108864) (by grind) (by grind)
  rw [Rat.intCast_lt_intCast] at a1 a2
  omega
theorem redQ_fl0 {p : List Int} {a : List Rat} (ha : 0 < a.length) (h : flQ p a = 0) : redQ p a = a := by
  refine at_ext (redQ_length ha) fun i => ?_
  rw [redQ_at ha, h]
  have : ((0 : Int) : Rat) = 0 := rfl
  rw [this]
  grind
theorem oct_fl {p : List Int} (hP : Pr p) : flQ p (oct p.length) = 1 ∧ redQ p (oct p.length) = zeroL p.length := by
  rcases hP with rfl | rfl <;> decide +kernel
theorem Sc.fl {p : List Int} {D : Nat} {L N : List (List Rat)} (hP : Pr p) (F : Fam p D L) (s : Sc p D L N) {a : List Rat} (ha : a ∈ N) : (a = oct p.length) ∨ (vl a < 67108864 ∧ redQ p a = a ∧ flQ p a = 0) := by
  have hpl := hP.len
  obtain ⟨h1, h2⟩ := s.pos a ha
  rcases Rat.le_iff_lt_or_eq.1 h2 with h | h
  · have := (s.nd a ha).fl0 hP F h1 h
    exact .inr ⟨h, redQ_fl0 (by rw [(s.nd a ha).len]; omega) this, this⟩
  · exact .inl (Nd.ne hP F (s.nd a ha) (Nd.oct hP F) (by rw [h, vl_oct (by omega)]))
theorem Sc.colS {p : List Int} {D : Nat} {L N : List (List Rat)} (hP : Pr p) (F : Fam p D L) (s : Sc p D L N) {M : List (List Rat)} (hM : M.Perm (Gh.colS p N)) (hs : ∀ k, Adj (fun a b => sgn p (subL a b)) M k) : M ++ [oct p.length] = N := by
  have hpl := hP.len
  have hk := s.len
  have hN : N = N.dropLast ++ [oct p.length] := by
    have hne : N ≠ [] := by rw [← List.length_pos_iff]; exact hk.1
    have := List.dropLast_concat_getLast hne
    rw [List.getLast_eq_getElem] at this
    have e := s.last
    rw [List.getElem?_eq_getElem (by omega)] at e
    injection e with e
    rw [e] at this
    exact this.symm
  have hpw := Inc.pw s.inc
  have hnd : N.Nodup := hpw.imp fun {a b} h e => by subst e; exact Rat.lt_irrefl h
  have hin : ∀ a, a ∈ Gh.colS p N ↔ a ∈ N.dropLast := by
    intro a
    rw [mem_colS]
    have hsplit : ∀ x, x ∈ N → x = oct p.length ∨ x ∈ N.dropLast := by
      intro x hx
      rw [hN] at hx
      rcases List.mem_append.1 hx with hx | hx
      · exact .inr hx
      · rw [List.mem_singleton] at hx; exact .inl hx
    constructor
    · rintro ⟨x, hx, rfl, hz⟩
      rcases s.fl hP F hx with rfl | ⟨h1, h2, _⟩
      · exact absurd (oct_fl hP).2 hz
      · rw [h2]
        rcases hsplit x hx with rfl | h
        · rw [vl_oct (by omega)] at h1
          exact absurd h1 Rat.lt_irrefl
        · exact h
    · intro ha
      have haN : a ∈ N := (List.dropLast_sublist N).subset ha
      have hne : a ≠ oct p.length := by
        rintro rfl
        rw [hN, List.nodup_append] at hnd
        exact hnd.2.2 _ ha _ (List.mem_singleton.2 rfl) rfl
      rcases s.fl hP F haN with h | ⟨h1, h2, _⟩
      · exact absurd h hne
      · refine ⟨a, haN, h2.symm, ?_⟩
        rintro rfl
        have := (s.pos _ haN).1
        rw [vl_zero] at this
        exact Rat.lt_irrefl this
  have hperm : M.Perm N.dropLast := by
    refine hM.trans ((List.perm_ext_iff_of_nodup (nodup_colS N) ?_).2 hin)
    exact hnd.sublist (List.dropLast_sublist N)
  have hMn : ∀ a ∈ M, Nd p D L a := fun a ha => s.nd a ((List.dropLast_sublist N).subset (hperm.mem_iff.1 ha))
  have hMi := Inc.of_adj hP F hMn hs
  have hDi : Inc N.dropLast := by
    intro k a b ha hb
    have hkb := (List.getElem?_eq_some_iff.1 hb).1
    rw [List.length_dropLast] at hkb
    rw [List.getElem?_dropLast, if_pos (by omega)] at ha hb
    exact s.inc k a b ha hb
  rw [Inc.unique hMi hDi hperm, ← hN]
end Go.Proofs.Gh
namespace Go.Proofs.Gh
open Go Go.Proofs Go.Proofs.Zz
set_option maxRecDepth 10000
set_option linter.unusedSimpArgs false
theorem oct_good {p : List Int} (hP : Pr p) : Good p 1 (oct p.length) := by
  have hpl := hP.len
  refine ⟨oct_length (by omega), by decide, by decide, fun q hq => ?_, .inl ?_⟩
  · exact (bd_mem (oct7 (D := 1) (by decide) (by decide) (by omega)) q hq).mono (by decide)
  · rw [cf_at, cf_at, at_oct (by omega), at_oct (by omega), if_neg (by decide), if_neg (by decide), ov_zero]; exact ⟨rfl, rfl⟩
theorem c_scOf {h : GH} {pv ov lv : Value} {p : List Int} {l : List (List Rat)} (hP : Pr p) (hp : PrAt h pv p) (ho : SzAt h ov (oct p.length)) (hl : LsE h lv l) (hlen : l.length ≤ 10000) (hx : ∀ x ∈ l, x.length = p.length ∧ SmL x ∧ FlOk p x ∧ SmL (redQ p x)) (k : SoOk p (colS p l)) :
    ∃ r h', GCalls Tryz.prog gE 45 #[pv, ov, lv] h r h' ∧ h.le h' ∧ ∃ sv N, r = .tuple #[sv, .int .i64 0] ∧ N.Perm (colS p l) ∧ (∀ k, Adj (fun a b => sgn p (subL a b)) N k) ∧ ScAt h' sv p (N ++ [oct p.length]) := by
  obtain ⟨pg, po, pc, rfl, hp'⟩ := id hp
  obtain ⟨og, oo, oc, rfl, ho'⟩ := id ho
  obtain ⟨lp, lc', rfl, hlf⟩ := hl.form
  have hpl := hP.len
  obtain ⟨H, hH⟩ : ∃ H, h.alloc ⟨[.slice none 0 0, .slice none 0 0], true, false⟩ = H := ⟨_, rfl⟩
  have dH : Duo H h.n (.slice none 0 0) (.slice none 0 0) := by rw [← hH]; exact Duo.new _ _ _
  have hle0 : h.le H := by rw [← hH]; exact GH.le_alloc _ _
  have hHn : H.n = h.n + 1 := by rw [← hH]; rfl
  have go := oct_good hP
  refine gcalls_in (pl := noPl) [.cell 6 36, .tmp 7] mixed Tryz.func45 rfl rfl (by exact ok45) ?_
  simp only [go_sem, Nat.reduceBEq, hH]
  refine callK_intro (c_checkPeriod hP (hp.mono hle0) (ho.mono hle0) (go.fit.mono (by decide)) (go.dec hP) (by rw [go.vl_pos hP (by rw [vl_oct (by omega)]; grind)]; decide)) ?_
  rintro _ h1 ⟨hle1, rfl⟩
  simp only [go_sem, Nat.reduceBEq, Int.reduceNe]
  refine callK_intro (c_CheckAllE hP ((hp.mono hle0).mono hle1) ((hl.mono hle0).mono hle1) (by omega) (fun x hxm => ⟨(hx x hxm).1, (hx x hxm).2.1⟩)) ?_
  rintro _ h2 ⟨hle2, rfl⟩
  simp only [go_sem, Nat.reduceBEq, Int.reduceNe]
  have hle := (hle0.trans hle1).trans hle2
  refine callK_intro (c_scCollect hP (hp.mono hle) (ho.mono hle) (hl.mono hle) hlen (fun x hxm => ⟨(hx x hxm).1, (hx x hxm).2.2⟩) k) ?_
  rintro _ h5 ⟨hle5, sv, N, rfl, q1, q2, q3⟩
  obtain ⟨s1, s2, s3, s4, s5, s6, rfl, _, _⟩ := q3.form
  have dB9 := dH.mono ((hle1.trans hle2).trans hle5)
  have hst9 := dB9.s2 (v := .slice (some ⟨s1, s2, none⟩) p.length s3) (w := .slice (some ⟨s4, s5, none⟩) (N ++ [oct p.length]).length s6) rfl rfl
  have dd9 := Duo.up (v := .slice (some ⟨s1, s2, none⟩) p.length s3) (w := .slice (some ⟨s4, s5, none⟩) (N ++ [oct p.length]).length s6) dB9.lt
  simp only [go_sem, Nat.reduceBEq, Nat.reduceAdd, Array.reduceGetElem?, ↓reduceIte, hst9, dd9.l2]
  refine ⟨(hle.trans hle5).upd (Nat.le_refl _) _, _, N, rfl, q1, q2, q3.upd dB9 hP.ne (by simp) ?_⟩
  intro b hb
  rcases List.mem_append.1 hb with hb | hb
  · rw [← List.length_pos_iff, (k.sm b (q1.mem_iff.1 hb)).1]; omega
  · rw [List.mem_singleton] at hb
    rw [← List.length_pos_iff, hb, oct_length (by omega)]; omega
/-- the scale of a scale's notes is the scale -/
theorem c_scOfN {h : GH} {pv ov lv : Value} {p : List Int} {D : Nat} {L N : List (List Rat)} (hP : Pr p) (F : Fam p D L) (s : Sc p D L N) (hp : PrAt h pv p) (ho : SzAt h ov (oct p.length)) (hl : LsAt h lv N) :
    ∃ r h', GCalls Tryz.prog gE 45 #[pv, ov, lv] h r h' ∧ h.le h' ∧ ∃ sv, r = .tuple #[sv, .int .i64 0] ∧ ScAt h' sv p N := by
  have hpl := hP.len
  have hk := s.len
  have nd : ∀ a ∈ colS p N, Nd p D L a := by
    intro a ha
    obtain ⟨x, hx, rfl, hz⟩ := (mem_colS N a).1 ha
    rcases s.fl hP F hx with rfl | ⟨_, h2, _⟩
    · exact absurd (oct_fl hP).2 hz
    · rw [h2]; exact s.nd x hx
  obtain ⟨r, h', k1, k2, sv, M, k3, k4, k5, k6⟩ := c_scOf hP hp ho (.inl hl) (by omega) (fun x hx => by
    refine ⟨(s.nd x hx).len, (s.nd x hx).sm F, ((s.nd x hx).good0 F).flOk hP, ?_⟩
    rcases s.fl hP F hx with rfl | ⟨_, h2, _⟩
    · rw [(oct_fl hP).2]; exact zeroL_sm _
    · rw [h2]; exact (s.nd x hx).sm F) (soOk_of hP F nd (nodup_colS N) (by have := colS_len p N; omega))
  rw [s.colS hP F k4 k5] at k6
  exact ⟨r, h', k1, k2, sv, k3, k6⟩
theorem c_lSign {h : GH} {pv sv : Value} {p : List Int} {l : List Rat} (hP : Pr p) (hp : PrAt h pv p) (s : SzAt h sv l) (f : Fit 9999999 p l) (hd : Dec p l) :
    ∃ r h', GCalls Tryz.prog gE 46 #[pv, sv] h r h' ∧ h.le h' ∧ r = .int .i64 (sgn p l) := by
  refine gcalls_in (pl := noPl) [.tmp 4] mixed Tryz.func46 rfl rfl (by exact ok46) ?_
  simp only [go_sem, Nat.reduceBEq]
  refine callK_intro (c_sizeSign hP hp s f hd) ?_
  rintro _ h1 ⟨hle1, rfl⟩
  simp only [go_sem, Nat.reduceBEq, Array.reduceGetElem?]
  exact hle1
end Go.Proofs.Gh
namespace Go.Proofs.Gh
open Go Go.Proofs Go.Proofs.Zz
set_option maxRecDepth 10000
set_option linter.unusedSimpArgs false
theorem ScAt.parts {h : GH} {p : List Int} {N : List (List Rat)} {a b : Value} (s : ScAt h (.agg #[a, b]) p N) : PrAt h a p ∧ LsAt h b N := by
  obtain ⟨u1, u2, eu, a1, a2⟩ := s
  injection eu with eu
  simp only [Array.mk.injEq, List.cons.injEq, and_true] at eu
  obtain ⟨rfl, rfl⟩ := eu
  exact ⟨a1, a2⟩
theorem c_Mode1 {h : GH} {sv : Value} {p : List Int} {N : List (List Rat)} {m : Nat} (hP : Pr p) (s : ScAt h sv p N) (so : ScOk p N) (ok : MoOk p N) (hm : m < N.length) :
    ∃ r h', GCalls Tryz.prog gE 41 #[sv, .int .i64 m] h r h' ∧ h.le h' ∧ ∃ g1 o1 c1 g2 o2 c2, r = .tuple #[.agg #[.slice (some ⟨g1, o1, none⟩) p.length c1, .slice (some ⟨g2, o2, none⟩) N.length c2], .int .i64 0] ∧ ScAt h' (.agg #[.slice (some ⟨g1, o1, none⟩) p.length c1, .slice (some ⟨g2, o2, none⟩) N.length c2]) p (modeL N m) := by
  obtain ⟨r, h', k1, k2, k3⟩ := c_Mode (m : Int) hP s so ok
  rcases k3 with ⟨k4, _⟩ | ⟨_, _, tv, rfl, k5⟩
  · omega
  · rw [Int.toNat_natCast] at k5
    obtain ⟨a1, a2, a3, a4, a5, a6, rfl, _, _⟩ := k5.form
    rw [modeL_len] at k1 k5
    exact ⟨_, h', k1, k2, a1, a2, a3, a4, a5, a6, rfl, k5⟩
theorem Sc.step_note {p : List Int} {D : Nat} {L N : List (List Rat)} (hP : Pr p) (s : Sc p D L N) {i : Nat} (hi : i < N.length) : stepL N i = subL (noteL N (i + 1)) (noteL N i) := by
  unfold stepL
  rw [s.note_N hP hi]
  split
  · rename_i h0
    subst h0
    rw [s.note0 hP, subL_zero (s.nd _ (s.at_mem hi).2).len]
  · rename_i h0
    have := s.note_N hP (show i - 1 < N.length by omega)
    rw [show i - 1 + 1 = i by omega] at this
    rw [this]
theorem Sc.add_step {p : List Int} {D : Nat} {L N : List (List Rat)} (hP : Pr p) (s : Sc p D L N) {i : Nat} (hi : i < N.length) : addL (noteL N i) (stepL N i) = noteL N (i + 1) := by
  rw [s.step_note hP hi]
  have e1 : (noteL N i).length = (noteL N (i + 1)).length := by rw [s.note_len hP, s.note_len hP]
  have e2 := subL_length (noteL N (i + 1)) (noteL N i) e1
  refine at_ext (by rw [addL_length _ _ (by rw [e2, e1]), e1]) fun j => ?_
  rw [at_add (by rw [e2, e1]), at_sub e1]
  grind
theorem Sc.step_good {p : List Int} {D : Nat} {L N : List (List Rat)} (hP : Pr p) (F : Fam p D L) (s : Sc p D L N) {i : Nat} (hi : i < N.length) : Good p D (stepL N i) ∧ sgn p (stepL N i) = 1 := by
  rw [s.step_note hP hi]
  have g := Nd.good F (s.note_nd8 hP F (n := i + 1) (by omega)) (s.note_nd8 hP F (n := i) (by omega))
  refine ⟨g, g.vl_pos hP ?_⟩
  rw [vl_sub (by rw [s.note_len hP, s.note_len hP])]
  have := s.note_lt hP i
  grind
theorem Sc.step_ti {p : List Int} {D : Nat} {L N : List (List Rat)} (hP : Pr p) (F : Fam p D L) (s : Sc p D L N) {i : Nat} (hi : i < N.length) : ∀ q ∈ stepL N i, Ti q := by
  have hD := F.pos
  have hD2 := F.le
  intro q hq
  have hb : Bd D 11800 q := by
    refine bd_mem (fun j => ?_) q hq
    rw [s.step_note hP hi, at_sub (by rw [s.note_len hP, s.note_len hP])]
    exact ((s.note_b hP F (by omega) j).sub hD (s.note_b hP F (by omega) j))
  exact ⟨by have := hb.num hD; omega, by have := hb.den_le hD; omega⟩
theorem c_lawTurns {h : GH} {b : Bool} {kd nm : Nat} {xs : List Int} {x y : Nat} (hw : WOk kd nm xs) (hx : x < 256) (hy : y < 256) :
    ∃ r h', GCalls Tryz.prog gE 9 #[wV b kd nm xs, .int .u8 x, .int .u8 y] h r h' ∧ h.le h' ∧ r = .bool true := by
  have hcl := wCells_length (b := b) (kd := kd) (nm := nm) hw.len
  obtain ⟨H, hH⟩ : ∃ H, h.alloc ⟨wCells b kd nm xs, true, false⟩ = H := ⟨_, rfl⟩
  have hle0 : h.le H := by rw [← hH]; exact GH.le_alloc _ _
  have hwl : ∀ {h'}, H.le h' → h'.load h.n 0 27 = some (wCells b kd nm xs) := fun hl => world_load hw.len (by rw [hH]; exact hl)
  refine gcalls_in (pl := pl9) [.tmp 6] mixed Tryz.func9 rfl rfl (by exact ok9) ?_
  simp only [go_sem, ↓reduceIte, wV, wCells_one, hH]
  refine callK_intro (c_known) ?_
  rintro _ h1 ⟨hle1, rfl⟩
  have w1 := hwl hle1
  simp only [go_sem, Nat.reduceBEq, w1]
  refine callK_intro (c_Make' hw.kd hw.nm hw.len hw.bd) ?_
  rintro sv h2 ⟨hle2, N, D, L, F, sc, _, hs⟩
  obtain ⟨g, o, c, g2, o2, c2, rfl, hp, hn⟩ := hs.form
  have hP := prW_pr b
  have hpl := hP.len
  have hk := sc.len
  have so := sc.scOk hP F
  have ok := sc.mo hP F
  have hne : ∀ a ∈ N, a ≠ [] := fun a ha => by rw [← List.length_pos_iff, ok.len a ha]; omega
  have hNne : N ≠ [] := by rw [← List.length_pos_iff]; exact hk.1
  obtain ⟨G, hG⟩ : ∃ G, h2.alloc ⟨[.slice (some ⟨g, o, none⟩) (prW b).length c, .slice (some ⟨g2, o2, none⟩) N.length c2], true, false⟩ = G := ⟨_, rfl⟩
  have dG : Duo G h2.n (.slice (some ⟨g, o, none⟩) (prW b).length c) (.slice (some ⟨g2, o2, none⟩) N.length c2) := by rw [← hG]; exact Duo.new _ _ _
  have hleG : h2.le G := by rw [← hG]; exact GH.le_alloc _ _
  have sG := hs.mono hleG
  have hk0 : ¬ ((N.length : Int) = 0) := by omega
  have wx : IntKind.i64.wrap (x : Int) = x := wrap_i64 (by omega) (by omega)
  have wy : IntKind.i64.wrap (y : Int) = y := wrap_i64 (by omega) (by omega)
  have wxm : IntKind.i64.wrap ((x % N.length : Nat) : Int) = ((x % N.length : Nat) : Int) := by have := Nat.mod_lt x hk.1; exact wrap_i64 (by omega) (by omega)
  have wym : IntKind.i64.wrap ((y % N.length : Nat) : Int) = ((y % N.length : Nat) : Int) := by have := Nat.mod_lt y hk.1; exact wrap_i64 (by omega) (by omega)
  simp only [go_sem, Nat.reduceBEq, Nat.reduceAdd, Array.reduceGetElem?, ↓reduceIte, alloc_store2s (h := h2) (a := .slice none 0 0) (b := .slice none 0 0) (v := .slice (some ⟨g, o, none⟩) (prW b).length c) (w := .slice (some ⟨g2, o2, none⟩) N.length c2) rfl rfl, hG, dG.l1, dG.l2, wx, wy, hk0, tmod_nat, pl9]
  obtain ⟨m, hm⟩ : ∃ m, x % N.length = m := ⟨_, rfl⟩
  obtain ⟨n, hn'⟩ : ∃ n, y % N.length = n := ⟨_, rfl⟩
  have hmk : m < N.length := by rw [← hm]; exact Nat.mod_lt _ hk.1
  have hnk : n < N.length := by rw [← hn']; exact Nat.mod_lt _ hk.1
  rw [hm]
  refine callK_intro (c_Mode1 hP sG so ok hmk) ?_
  rintro _ h3 ⟨hle3, x1, x2, x3, x4, x5, x6, rfl, hx3⟩
  obtain ⟨G3, hG3⟩ : ∃ G, h3.alloc ⟨[.slice (some ⟨x1, x2, none⟩) (prW b).length x3, .slice (some ⟨x4, x5, none⟩) N.length x6], true, false⟩ = G := ⟨_, rfl⟩
  have dX : Duo G3 h3.n (.slice (some ⟨x1, x2, none⟩) (prW b).length x3) (.slice (some ⟨x4, x5, none⟩) N.length x6) := by rw [← hG3]; exact Duo.new _ _ _
  have hleG3 : h3.le G3 := by rw [← hG3]; exact GH.le_alloc _ _
  have dG3 := (dG.mono hle3).mono hleG3
  simp only [go_sem, Nat.reduceBEq, Nat.reduceAdd, Array.reduceGetElem?, ↓reduceIte, alloc_store2s (h := h3) (a := .slice none 0 0) (b := .slice none 0 0) (v := .slice (some ⟨x1, x2, none⟩) (prW b).length x3) (w := .slice (some ⟨x4, x5, none⟩) N.length x6) rfl rfl, hG3, dX.l2, hn']
  have mk1 : modeL (modeL N m) n = modeL N ((m + n) % N.length) := sc.mode_mode hP m n
  have hM2 := c_Mode1 (m := n) hP (hx3.mono hleG3) (sc.mode_scOk hP F (by omega)) (sc.mode_mo hP F (by omega)) (by rw [modeL_len]; exact hnk)
  rw [modeL_len, mk1] at hM2
  refine callK_intro hM2 ?_
  rintro _ h4 ⟨hle4, y1, y2, y3, y4, y5, y6, rfl, hy4⟩
  obtain ⟨G4, hG4⟩ : ∃ G, h4.alloc ⟨[.slice (some ⟨y1, y2, none⟩) (prW b).length y3, .slice (some ⟨y4, y5, none⟩) N.length y6], true, false⟩ = G := ⟨_, rfl⟩
  have dY : Duo G4 h4.n (.slice (some ⟨y1, y2, none⟩) (prW b).length y3) (.slice (some ⟨y4, y5, none⟩) N.length y6) := by rw [← hG4]; exact Duo.new _ _ _
  have hleG4 : h4.le G4 := by rw [← hG4]; exact GH.le_alloc _ _
  have dG4 := (dG3.mono hle4).mono hleG4
  have hleGG4 : G.le G4 := ((hle3.trans hleG3).trans hle4).trans hleG4
  have wmn : IntKind.i64.wrap ((m : Int) + (n : Int)) = ((m + n : Nat) : Int) := by rw [wrap_i64 (by omega) (by omega)]; omega
  have hmn := Nat.mod_lt (m + n) hk.1
  have wmr : IntKind.i64.wrap (((m + n) % N.length : Nat) : Int) = (((m + n) % N.length : Nat) : Int) := wrap_i64 (by omega) (by omega)
  simp only [go_sem, Nat.reduceBEq, Nat.reduceAdd, Array.reduceGetElem?, ↓reduceIte, alloc_store2s (h := h4) (a := .slice none 0 0) (b := .slice none 0 0) (v := .slice (some ⟨y1, y2, none⟩) (prW b).length y3) (w := .slice (some ⟨y4, y5, none⟩) N.length y6) rfl rfl, hG4, dG4.l2, hn', wmn, hk0, tmod_nat, pl9]
  obtain ⟨K, hK⟩ : ∃ K, G4.alloc ⟨[.slice none 0 0, .slice none 0 0], true, false⟩ = K := ⟨_, rfl⟩
  have dK : Duo K G4.n (.slice none 0 0) (.slice none 0 0) := by rw [← hK]; exact Duo.new _ _ _
  have hleK : G4.le K := by rw [← hK]; exact GH.le_alloc _ _
  rw [hK]
  refine callK_intro (c_Mode1 hP (sG.mono (hleGG4.trans hleK)) so ok hmn) ?_
  rintro _ h5 ⟨hle5, z1, z2, z3, z4, z5, z6, rfl, hz5⟩
  have dK5 := dK.mono hle5
  have stZ := dK5.s2 (v := .slice (some ⟨z1, z2, none⟩) (prW b).length z3) (w := .slice (some ⟨z4, z5, none⟩) N.length z6) rfl rfl
  have hmne : ∀ t, ∀ a ∈ modeL N t, a ≠ [] := fun t a ha => ok.ne hP t N.length a (by rw [List.take_of_length_le (by rw [modeL_len]; exact Nat.le_refl _)]; exact ha)
  have hmnn : ∀ t, modeL N t ≠ [] := fun t => by rw [← List.length_pos_iff, modeL_len]; exact hk.1
  obtain ⟨h5', hh5⟩ : ∃ h', h5.upd G4.n ⟨[.slice (some ⟨z1, z2, none⟩) (prW b).length z3, .slice (some ⟨z4, z5, none⟩) N.length z6], true, false⟩ = h' := ⟨_, rfl⟩
  have dZ : Duo h5' G4.n (.slice (some ⟨z1, z2, none⟩) (prW b).length z3) (.slice (some ⟨z4, z5, none⟩) N.length z6) := by rw [← hh5]; exact Duo.up dK5.lt
  have hle45 : G4.le h5' := by rw [← hh5]; exact (hleK.trans hle5).upd (Nat.le_refl _) _
  have sZ : ScAt h5' (.agg #[.slice (some ⟨z1, z2, none⟩) (prW b).length z3, .slice (some ⟨z4, z5, none⟩) N.length z6]) (prW b) (modeL N ((m + n) % N.length)) := by
    rw [← hh5]
    exact hz5.upd dK5 hP.ne (hmnn _) (hmne _)
  have dG5 := dG4.mono hle45
  have sG5 := sG.mono (hleGG4.trans hle45)
  have dG5' := (dG4.mono hleK).mono hle5
  simp only [go_sem, Nat.reduceBEq, Nat.reduceAdd, Array.reduceGetElem?, ↓reduceIte, hn', stZ, hh5, dG5.l2]
  refine callK_intro (c_Steps hP sG5 so (fun i hi => sc.steps_sm F i hi)) ?_
  rintro _ h6 ⟨hle6, lv, rfl, hlv⟩
  obtain ⟨lg, lo, lc', lvs, rfl, lq⟩ := id hlv
  have dG6 := dG5.mono hle6
  have sG6 := sG5.mono hle6
  have hsl : (stepsL N).length = N.length := by simp [stepsL]
  obtain ⟨q1, q2⟩ := sG6.parts
  have hlast : N[N.length - 1]? = some (oct (prW b).length) := sc.last
  obtain ⟨_, pv, hpl1, hps, hp1⟩ := q2.get hlast
  have wl : IntKind.i64.wrap ((N.length : Int) - 1) = ((N.length - 1 : Nat) : Int) := by rw [wrap_i64 (by omega) (by omega)]; omega
  have hll : ((N.length - 1 : Nat) : Int) < N.length := by omega
  simp only [go_sem, Nat.reduceBEq, Array.reduceGetElem?, ↓reduceIte, dG6.l0, dG6.l1, wl, hll, hpl1, pl9]
  obtain ⟨K2, hK2⟩ : ∃ K, h6.alloc ⟨[.slice none 0 0, .slice none 0 0], true, false⟩ = K := ⟨_, rfl⟩
  have dK2 : Duo K2 h6.n (.slice none 0 0) (.slice none 0 0) := by rw [← hK2]; exact Duo.new _ _ _
  have hleK2 : h6.le K2 := by rw [← hK2]; exact GH.le_alloc _ _
  rw [hK2]
  refine callK_intro (c_scOfN hP F sc (q1.mono hleK2) (hps.mono hleK2) (q2.mono hleK2)) ?_
  rintro _ h7 ⟨hle7, tv, rfl, ht7⟩
  obtain ⟨t1, t2, t3, t4, t5, t6, rfl, _, _⟩ := ht7.form
  have dK7 := dK2.mono hle7
  have stT := dK7.s2 (v := .slice (some ⟨t1, t2, none⟩) (prW b).length t3) (w := .slice (some ⟨t4, t5, none⟩) N.length t6) rfl rfl
  obtain ⟨h7', hh7⟩ : ∃ h', h7.upd h6.n ⟨[.slice (some ⟨t1, t2, none⟩) (prW b).length t3, .slice (some ⟨t4, t5, none⟩) N.length t6], true, false⟩ = h' := ⟨_, rfl⟩
  have dT : Duo h7' h6.n (.slice (some ⟨t1, t2, none⟩) (prW b).length t3) (.slice (some ⟨t4, t5, none⟩) N.length t6) := by rw [← hh7]; exact Duo.up dK7.lt
  have hle67 : h6.le h7' := by rw [← hh7]; exact (hleK2.trans hle7).upd (Nat.le_refl _) _
  have sT : ScAt h7' (.agg #[.slice (some ⟨t1, t2, none⟩) (prW b).length t3, .slice (some ⟨t4, t5, none⟩) N.length t6]) (prW b) N := by
    rw [← hh7]
    exact ht7.upd dK7 hP.ne hNne hne
  have dG7a := (dG6.mono hleK2).mono hle7
  have hpl7 := load_mono (hleK2.trans hle7) hpl1
  simp only [go_sem, Nat.reduceBEq, Nat.reduceAdd, Array.reduceGetElem?, ↓reduceIte, stT, hh7]
  have hall : ∀ {h'}, h7'.le h' → Duo h' h2.n (.slice (some ⟨g, o, none⟩) (prW b).length c) (.slice (some ⟨g2, o2, none⟩) N.length c2) := fun hl => (dG6.mono hle67).mono hl
  refine loopK_inv (α := Nat) (fun i => N.length - i) (fun i ts g' => ts 7 = .pointer (some ⟨h2.n, 0, none⟩) ∧ ts 8 = .int .i64 N.length ∧ ts 12 = .int .i64 0 ∧ ts 13 = .pointer (some ⟨h4.n, 0, none⟩) ∧ ts 14 = .int .i64 0 ∧ ts 15 = .pointer (some ⟨G4.n, 0, none⟩) ∧ ts 16 = .int .i64 0 ∧ ts 17 = .slice (some ⟨lg, lo, none⟩) (stepsL N).length lc' ∧ ts 18 = .int .i64 0 ∧ ts 19 = .pointer (some ⟨h6.n, 0, none⟩) ∧ ts 20 = .int .i64 0 ∧ ts 84 = .int .i64 N.length ∧ ts 85 = .int .i64 i ∧ i ≤ N.length ∧ h7'.le g' ∧ ∃ o', Own h7' g' (ts 21) 1 (ints (rng i)) o') ?_ (a0 := 0) ?_
  · rintro i ts g' ⟨a7, a8, a12, a13, a14, a15, a16, a17, a18, a19, a20, a84, a85, hi, hle', o', w⟩
    simp only [go_sem, a84, a85]
    refine ifK_intro (fun c1 => ?_) (fun c1 => ?_)
    · have c1' := of_decide_eq_true c1
      have wi : IntKind.i64.wrap ((i : Int) + 1) = ((i + 1 : Nat) : Int) := wrap_i64 (by omega) (by omega)
      obtain ⟨v', h', o2', e1, e2, e3⟩ := w.appI hle' (by rw [rng_len]; omega) (i : Int)
      simp only [go_sem, Nat.reduceBEq, Nat.reduceLeDiff, Nat.reduceLT, ↓reduceIte, a7, a8, a12, a13, a14, a15, a16, a17, a18, a19, a20, a84, a85, e1, wi]
      exact ⟨i + 1, by omega, rfl, by omega, e2, o2', by rw [rng_succ]; exact e3⟩
    · have c1' := of_decide_eq_false c1
      obtain rfl : i = N.length := by omega
      have hIn : InAt g' (ts 21) (rng N.length) := by
        rcases w with ⟨_, w2, _⟩ | ⟨wg, _, w2, w3, w4, w5, w6⟩
        · have : (rng N.length).length = 0 := by rw [← ints_length, w2]; rfl
          rw [rng_len] at this
          omega
        · rw [ints_length] at w2
          exact ⟨_, unk + 1, w2, fun _ => ⟨wg, 0, rfl, row_at w4 w5 (ints_one _) ⟨by rw [ints_length, rng_len]; simp only [unk]; omega, fun _ => .inr rfl⟩⟩⟩
      have d8 := hall hle'
      have s8 := ((sG6.mono hle67).mono hle')
      simp only [go_sem, Nat.reduceBEq, a7, c1, d8.l2]
      refine callK_intro (c_scSubset hP F sc s8 hIn (by rw [rng_len]; omega)) ?_
      rintro rr h9 ⟨hle9, hr9⟩
      have e9 := errOf_rng hk.1
      rcases hr9 with ⟨e1, _⟩ | ⟨_, uv, rfl, hu9⟩
      · exact absurd e9 e1
      rw [subN_rng hP sc] at hu9
      obtain ⟨u1, u2, u3, u4, u5, u6, rfl, _, _⟩ := hu9.form
      obtain ⟨G9, hG9⟩ : ∃ G, h9.alloc ⟨[.slice (some ⟨u1, u2, none⟩) (prW b).length u3, .slice (some ⟨u4, u5, none⟩) N.length u6], true, false⟩ = G := ⟨_, rfl⟩
      have dU : Duo G9 h9.n (.slice (some ⟨u1, u2, none⟩) (prW b).length u3) (.slice (some ⟨u4, u5, none⟩) N.length u6) := by rw [← hG9]; exact Duo.new _ _ _
      have hleG9 : h9.le G9 := by rw [← hG9]; exact GH.le_alloc _ _
      have hle79 := (hle'.trans hle9).trans hleG9
      have dY9 := (((dY.mono hle45).mono hle6).mono hle67).mono hle79
      have dZ9 := ((dZ.mono hle6).mono hle67).mono hle79
      have sY9 := ((((hy4.mono hleG4).mono hle45).mono hle6).mono hle67).mono hle79
      have sZ9 := ((sZ.mono hle6).mono hle67).mono hle79
      simp only [go_sem, Nat.reduceBEq, Nat.reduceAdd, Int.reduceNe, Array.reduceGetElem?, ↓reduceIte, a12, a13, a14, a15, a16, a18, a20, alloc_store2s (h := h9) (a := .slice none 0 0) (b := .slice none 0 0) (v := .slice (some ⟨u1, u2, none⟩) (prW b).length u3) (w := .slice (some ⟨u4, u5, none⟩) N.length u6) rfl rfl, hG9, dY9.l2, dZ9.l2]
      have ltm : ∀ t, ∀ l ∈ modeL N t, l.length ≤ 1000 := by
        intro t l hl
        obtain ⟨u, _, rfl⟩ := List.mem_map.1 hl
        rw [subL_length _ _ (by rw [ok.nl, ok.nl]), ok.nl]
        omega
      have ltn : ∀ l ∈ N, l.length ≤ 1000 := fun l hl => by rw [ok.len l hl]; omega
      refine callK_intro (c_same sY9.parts.1 sZ9.parts.1 (.inl sY9.parts.2) (.inl sZ9.parts.2) rfl rfl (by omega) (by rw [modeL_len]; omega) (ltm _)) ?_
      rintro _ h10 ⟨hle10, rfl⟩
      have bb : (decide (prW b = prW b) && decide (modeL N ((m + n) % N.length) = modeL N ((m + n) % N.length))) = true := by simp
      have dT10 := (dT.mono hle79).mono hle10
      have sT10 := (sT.mono hle79).mono hle10
      have d10 := hall (hle79.trans hle10)
      have s10 := (sG6.mono hle67).mono (hle79.trans hle10)
      simp only [go_sem, Nat.reduceBEq, Array.reduceGetElem?, ↓reduceIte, a7, a19, dT10.l2, d10.l2]
      refine callK_intro (c_same sT10.parts.1 s10.parts.1 (.inl sT10.parts.2) (.inl s10.parts.2) rfl rfl (by omega) (by omega) ltn) ?_
      rintro _ h11 ⟨hle11, rfl⟩
      have b2 : (decide (prW b = prW b) && decide (N = N)) = true := by simp
      have hleX := (hle79.trans hle10).trans hle11
      have dU11 := (dU.mono hle10).mono hle11
      have sU11 := ((hu9.mono hleG9).mono hle10).mono hle11
      have d11 := hall hleX
      have s11 := (sG6.mono hle67).mono hleX
      simp only [go_sem, Nat.reduceBEq, Array.reduceGetElem?, ↓reduceIte, a7, dU11.l2, d11.l2]
      refine callK_intro (c_same sU11.parts.1 s11.parts.1 (.inl sU11.parts.2) (.inl s11.parts.2) rfl rfl (by omega) (by omega) ltn) ?_
      rintro _ h12 ⟨hle12, rfl⟩
      have hleY := hleX.trans hle12
      have d12 := hall hleY
      have s12 := (sG6.mono hle67).mono hleY
      obtain ⟨m01, m02⟩ := sc.at_mem hk.1
      obtain ⟨n0, hn0⟩ : ∃ n0, N[0]?.getD [] = n0 := ⟨_, rfl⟩
      rw [hn0] at m01 m02
      obtain ⟨_, fv, hf1, hfs, _⟩ := s12.parts.2.get m01
      have k0 : (0 : Int) < N.length := by omega
      rw [Nat.add_zero] at hf1
      simp only [go_sem, Nat.reduceBEq, Int.reduceLE, Int.reduceToNat, Array.reduceGetElem?, ↓reduceIte, a7, d12.l1, k0, hf1, pl9]
      have nd0 := sc.nd _ m02
      refine callK_intro (c_less hfs hfs (hne _ m02) (by rw [nd0.len]; omega) rfl (nd0.ti F) (nd0.ti F) (Nd.good F nd0 nd0).fit.sm) ?_
      rintro zv h13 ⟨hle13, hz⟩
      have ez : subL n0 n0 = noteL N 0 := by rw [subL_self, nd0.len, sc.note0 hP]; rfl
      rw [ez] at hz
      have hleZ := hleY.trans hle13
      simp only [go_sem, Nat.reduceBEq, Array.reduceGetElem?, a17]
      refine loopK_inv (α := Nat) (fun i => N.length - i) (fun i ts g' => ts 7 = .pointer (some ⟨h2.n, 0, none⟩) ∧ ts 8 = .int .i64 N.length ∧ ts 148 = .slice (some ⟨lg, lo, none⟩) (stepsL N).length lc' ∧ ts 149 = .int .i64 (stepsL N).length ∧ ts 150 = .int .i64 i ∧ i ≤ N.length ∧ h7'.le g' ∧ SzAt g' (ts 25) (noteL N i)) ?_ (a0 := 0) ?_
      · rintro i ts g' ⟨b7, b8, b148, b149, b150, hi, hlg, hsz⟩
        simp only [go_sem, b149, b150]
        refine ifK_intro (fun c1 => ?_) (fun c1 => ?_)
        · have c1' := of_decide_eq_true c1
          rw [hsl] at c1'
          have hi' : i < N.length := by omega
          have wi : IntKind.i64.wrap ((i : Int) + 1) = ((i + 1 : Nat) : Int) := wrap_i64 (by omega) (by omega)
          have hgi : (stepsL N)[i]? = some (stepL N i) := by rw [stepsL, List.getElem?_map, List.getElem?_range hi']; rfl
          obtain ⟨_, iv, hi1, his, hi2⟩ := ((hlv.mono hle67).mono hlg).get hgi
          have dd := hall hlg
          have ss := (sG6.mono hle67).mono hlg
          obtain ⟨sg1, sg2⟩ := sc.step_good hP F hi'
          have nn : ¬ ((1 : Int) ≤ 0) := by decide
          have cL : (i : Int) < ((stepsL N).length : Nat) := by rw [hsl]; omega
          simp only [go_sem, Nat.reduceBEq, ↓reduceIte, b7, b148, b150, cL, hi1, dd.l0]
          refine callK_intro (c_lSign hP ss.parts.1 his (sg1.fit.mono (by decide)) (sg1.dec hP)) ?_
          rintro _ h14 ⟨hle14, rfl⟩
          simp only [go_sem, Nat.reduceBEq, sg2, nn]
          have ndi := sc.note_nd8 hP F (n := i) (by omega)
          have eln : (stepL N i).length = (noteL N i).length := by rw [sg1.len, ndi.len]
          refine callK_intro (c_lAdd (hsz.mono hle14) (his.mono hle14) (by rw [← List.length_pos_iff, ndi.len]; omega) (by rw [ndi.len]; omega) eln (ndi.ti F) (sc.step_ti hP F hi') (by rw [sc.add_step hP hi']; exact (sc.note_nd8 hP F (n := i + 1) (by omega)).sm F)) ?_
          rintro av h15 ⟨hle15, ha⟩
          rw [sc.add_step hP hi'] at ha
          simp only [go_sem, Nat.reduceBEq, b7, b8, b148, b149, b150, wi]
          exact ⟨i + 1, by omega, rfl, by omega, (hlg.trans hle14).trans hle15, ha.at⟩
        · have c1' := of_decide_eq_false c1
          rw [hsl] at c1'
          obtain rfl : i = N.length := by omega
          have dd := hall hlg
          have ss := (sG6.mono hle67).mono hlg
          obtain ⟨_, ev, he1, hes, _⟩ := ss.parts.2.get hlast
          simp only [go_sem, Nat.reduceBEq, ↓reduceIte, b7, b8, c1, dd.l1, wl, hll, he1]
          have ep : noteL N N.length = oct (prW b).length := by
            have := sc.note_N hP (show N.length - 1 < N.length by omega)
            rw [show N.length - 1 + 1 = N.length by omega, hlast] at this
            exact this
          rw [ep] at hsz
          refine callK_intro (c_Equal hsz hes (by rw [oct_length (by omega)]; omega)) ?_
          rintro _ h16 ⟨hle16, rfl⟩
          simp only [go_sem]
          exact ((((((((hle0.trans hle1).trans hle2).trans hleG).trans hleGG4).trans hle45).trans hle6).trans hle67).trans hlg).trans hle16
      · simp only [go_sem, Nat.reduceBEq, a7, a8]
        exact ⟨Nat.zero_le _, hleZ, hz.at⟩
  · simp only [go_sem, Nat.reduceBEq]
    exact ⟨Nat.zero_le _, GH.le.refl _, none, Own.nil _ _ _⟩
end Go.Proofs.Gh
namespace Go.Proofs.Gh
open Go Go.Proofs Go.Proofs.Zz Go.Proofs.YthnmdhfbbbfleaaGreatDoor Go.RowKit Go.ChangeShapes
set_option maxRecDepth 10000
set_option linter.unusedSimpArgs false
theorem iface_of_trod {H : Type} {enc : TypeId × Value → H} {P : Program} {w : World} {base : Nat} {sp : Nat → Bool} {fuel : Nat} {t : TypeId} {ms : Array (String × TypeId)} {cs : List Value} {nm : String} {d : DataW H} {p : List MemPlace} (hi : P.underlying t = some (.interface ms))
    (h : DataW.trod enc P w base sp false fuel t cs = some (.iface nm d, p)) : ∃ u v, cs = [.iface u v] := by
  cases fuel with
  | zero => simp [DataW.trod] at h
  | succ fuel =>
    simp only [DataW.trod, hi] at h
    split at h <;> first | (rename_i e; cases e; done) | skip
    all_goals first | (cases h; done) | skip
    all_goals first | exact ⟨_, _, rfl⟩ | simp_all
/-- what a call finds in the package-level variables -/
structure Told (W : World) : Prop where
  e0 : ∃ cs t fr u v, W.heap[0]? = some (.cells cs t fr) ∧ cs[0]? = some (.iface u v)
  e1 : ∃ cs t fr u v, W.heap[1]? = some (.cells cs t fr) ∧ cs[0]? = some (.iface u v)
  e2 : ∃ t fr, W.heap[2]? = some (.cells pow10s.toArray t fr)
theorem heap_of_var {P : Program} {w : World} {n : String} {g : Nat} {cs : Array Value} (hg : P.globalNamed n = some g) (h : w.var? P n = some cs) : ∃ t fr, w.heap[g]? = some (.cells cs t fr) := by
  simp only [World.var?, hg, Option.bind_some] at h
  split at h
  · injection h with h
    subst h
    exact ⟨_, _, by assumption⟩
  · cases h
theorem told {W : World} (h0 : laidMetH Tryz.prog Rows.scaleSubsetsRow.laid W) : Told W := by
  rw [MakeChecks.laidMetH_plain _ _ _ (by kernel_rfl)] at h0
  have h1 : laidMet Tryz.prog _ W := h0.tail.tail
  have hp : Lib.TabIs Tryz.prog W "internal/strconv.uint64pow10" .u64 ((List.range 20).map fun k => ((10 ^ k : Nat) : Int)) := by
    refine Lib.tabIs_of_head (g := 2) (t := 284) (e := 172) (n := 20) (by kernel_rfl) (by kernel_rfl) ?_ ?_ (by kernel_rfl) (by kernel_rfl) (rest := _) h1
    · kernel_rfl
    · kernel_rfl
  have sent : ∀ {n nm : String} {d : DataW Unit} {r : List (String × DataW Unit)} {g : Nat}, Tryz.prog.globalNamed n = some g → (Tryz.prog.globals[g]?).map (·.type) = some 113 → laidMet Tryz.prog ((n, .iface nm d) :: r) W → ∃ cs t fr u v, W.heap[g]? = some (.cells cs t fr) ∧ cs[0]? = some (.iface u v) := by
    rintro n nm d r g hg ht ⟨ps, ⟨g', t', cs, fuel, p, q, hg', ht', hvar, hd, _, _⟩, _⟩
    obtain rfl := Option.some.inj (hg.symm.trans hg')
    obtain rfl := Option.some.inj (ht.symm.trans ht')
    obtain ⟨u, v, e⟩ := iface_of_trod Tryz.underlying113 hd
    obtain ⟨t, fr, hh⟩ := heap_of_var hg hvar
    exact ⟨cs, t, fr, u, v, hh, by rw [← Array.getElem?_toList, e]; rfl⟩
  refine ⟨sent (by kernel_rfl) (by kernel_rfl) h1.tail.tail, sent (by kernel_rfl) (by kernel_rfl) h1.tail, ?_⟩
  obtain ⟨t, fr, hh⟩ := heap_of_var (g := 2) (by kernel_rfl) hp
  refine ⟨t, fr, ?_⟩
  rw [hh, List.map_map]
  rfl
end Go.Proofs.Gh
namespace Go.Proofs.Gh
open Go Go.Proofs Go.Proofs.Zz Go.Proofs.YthnmdhfbbbfleaaGreatDoor Go.RowKit Go.ChangeShapes
set_option maxRecDepth 10000
set_option linter.unusedSimpArgs false
theorem cell_bool {W : World} {base : Nat} {v : Value} (h : Cell.okWide Tryz.prog W .any base 4 v) : ∃ b, v = .bool b := by
  unfold Cell.okWide at h
  rw [Tryz.underlying4] at h
  simp only at h
  unfold Cell.ok at h
  rw [Tryz.underlying4] at h
  cases v <;> simp_all
theorem cell_int {W : World} {base t : Nat} {k : IntKind} {v : Value} (ht : Tryz.prog.underlying t = some (.int k)) (h : Cell.okWide Tryz.prog W .any base t v) : ∃ n, v = .int k n ∧ k.min ≤ n ∧ n ≤ k.max := by
  unfold Cell.okWide at h
  rw [ht] at h
  simp only at h
  unfold Cell.ok at h
  rw [ht] at h
  cases v <;> simp_all [IntKind.has]
def numV : Value → Int
  | .int _ n => n
  | _ => 0
theorem world_form {W : World} {base : Nat} {v : Value} (h : Value.okWide Tryz.prog W .any base 26 v) : ∃ (b : Bool) (kd nm : Nat) (xs : List Int), v = wV b kd nm xs ∧ WOk kd nm xs := by
  unfold Value.okWide at h
  rw [Tryz.underlying26] at h
  simp only at h
  obtain ⟨cs, rfl, hsz, ts, hts, _, hc⟩ := h
  have e1 : Tryz.prog.cellTypes Tryz.prog.depth 26 = some ([4, 5, 5] ++ List.replicate 24 22) := by kernel_rfl
  obtain rfl := Option.some.inj (hts.symm.trans e1)
  have e2 : Tryz.prog.cellsOf 26 = 27 := by kernel_rfl
  rw [e2] at hsz
  have hl : cs.toList.length = 27 := by simpa using hsz
  have at_ : ∀ i, i < 27 → ∃ v u, cs[i]? = some v ∧ ([4, 5, 5] ++ List.replicate 24 22 : List Nat)[i]? = some u ∧ Cell.okWide Tryz.prog W .any base u v := by
    intro i hi
    obtain ⟨u, k1, k2⟩ := hc i _ (Array.getElem?_eq_getElem (show i < cs.size by omega))
    rw [show ([4, 5, 5] ++ List.replicate 24 22 : List Nat).length = 27 by decide, Nat.mod_eq_of_lt hi] at k1
    exact ⟨_, u, Array.getElem?_eq_getElem (show i < cs.size by omega), k1, k2⟩
  obtain ⟨v0, u0, a0, b0, c0⟩ := at_ 0 (by decide)
  obtain rfl : 4 = u0 := Option.some.inj b0
  obtain ⟨b, rfl⟩ := cell_bool c0
  obtain ⟨v1, u1, a1, b1, c1⟩ := at_ 1 (by decide)
  obtain rfl : 5 = u1 := Option.some.inj b1
  obtain ⟨kd, rfl, d1, d2⟩ := cell_int Tryz.underlying5 c1
  obtain ⟨v2, u2, a2, b2, c2⟩ := at_ 2 (by decide)
  obtain rfl : 5 = u2 := Option.some.inj b2
  obtain ⟨nm, rfl, d3, d4⟩ := cell_int Tryz.underlying5 c2
  have m1 : IntKind.u8.min = 0 := by decide
  have m2 : IntKind.u8.max = 255 := by decide
  have m3 : IntKind.i8.min = -128 := by decide
  have m4 : IntKind.i8.max = 127 := by decide
  rw [m1] at d1 d3
  rw [m2] at d2 d4
  have rest : ∀ i, i < 24 → ∃ n : Int, cs[3 + i]? = some (.int .i8 n) ∧ -128 ≤ n ∧ n ≤ 127 := by
    intro i hi
    obtain ⟨v, u, k1, k2, k3⟩ := at_ (3 + i) (by omega)
    rw [List.getElem?_append_right (by simp), List.getElem?_replicate, if_pos (by simp; omega)] at k2
    obtain rfl := Option.some.inj k2
    obtain ⟨n, rfl, k4, k5⟩ := cell_int Tryz.underlying22 k3
    rw [m3] at k4
    rw [m4] at k5
    exact ⟨n, k1, k4, k5⟩
  refine ⟨b, kd.toNat, nm.toNat, (List.range 24).map (fun i => numV (cs[3 + i]?.getD (.bool false))), ?_, by omega, by omega, by simp, ?_⟩
  · rw [wV]
    congr 1
    apply Array.ext'
    rw [List.toList_toArray]
    apply List.ext_getElem?
    intro i
    rw [Array.getElem?_toList]
    match i with
    | 0 => rw [a0]; rfl
    | 1 => rw [a1, wCells, List.getElem?_cons_succ, List.getElem?_cons_zero, Int.toNat_of_nonneg d1]
    | 2 => rw [a2, wCells, List.getElem?_cons_succ, List.getElem?_cons_succ, List.getElem?_cons_zero, Int.toNat_of_nonneg d3]
    | i + 3 =>
      rw [wCells, List.getElem?_cons_succ, List.getElem?_cons_succ, List.getElem?_cons_succ, List.getElem?_map, List.getElem?_map]
      rcases Nat.lt_or_ge i 24 with hi | hi
      · obtain ⟨n, k1, _⟩ := rest i hi
        rw [List.getElem?_range hi, Nat.add_comm i 3, k1]
        simp only [Option.map_some, k1, Option.getD_some, numV]
      · rw [Array.getElem?_eq_none (by omega), List.getElem?_eq_none (by simp; exact hi)]; rfl
  · intro x hx
    obtain ⟨i, hi, rfl⟩ := List.mem_map.1 hx
    rw [List.mem_range] at hi
    obtain ⟨n, k1, k2⟩ := rest i hi
    rw [k1]
    exact k2
/-! ### from the ghost's contract to the model's: what a call starts with -/
theorem told_blk {W : World} (t : Told W) {μ : Mu} {B g : Nat} (hg : g < 6) (ha : (gE.b g).alive = true) : ∃ cs t fr, BlkOk μ W B ⟨g, 0, 0, 0⟩ (gE.b g) cs t fr := by
  have ro : ∀ {P : Prop}, (gE.b g).ro = false → P := fun h => by rw [gE.ro] at h; cases h
  match g, ha with
  | 0, _ =>
    obtain ⟨cs, t, fr, u, v, h1, h2⟩ := t.e0
    refine ⟨cs, t, fr, h1, fun i x hx => ?_, fun x hx => ?_, ro⟩
    · match i with
      | 0 => injection hx with hx; subst hx; exact ⟨_, by simpa using h2, .err⟩
      | i + 1 => cases hx
    · have hx : x ∈ [Value.iface errT (.tuple #[])] := hx
      rw [List.mem_singleton] at hx
      subst hx; rfl
  | 1, _ =>
    obtain ⟨cs, t, fr, u, v, h1, h2⟩ := t.e1
    refine ⟨cs, t, fr, h1, fun i x hx => ?_, fun x hx => ?_, ro⟩
    · match i with
      | 0 => injection hx with hx; subst hx; exact ⟨_, by simpa using h2, .err⟩
      | i + 1 => cases hx
    · have hx : x ∈ [Value.iface errT (.tuple #[])] := hx
      rw [List.mem_singleton] at hx
      subst hx; rfl
  | 2, _ =>
    obtain ⟨t, fr, h1⟩ := t.e2
    refine ⟨_, t, fr, h1, fun i x hx => ?_, fun x hx => ?_, ro⟩
    · have hx : pow10s[i]? = some x := hx
      refine ⟨x, by rw [Nat.zero_add]; simpa using hx, VR.of_flat0 ?_⟩
      obtain ⟨k, _, rfl⟩ := List.mem_map.1 (List.mem_of_getElem? hx)
      rfl
    · have hx : x ∈ pow10s := hx
      obtain ⟨k, _, rfl⟩ := List.mem_map.1 hx
      rfl
  | g + 3, ha => cases ha
/-- a memory with the package-level variables, and blocks that came in -/
def inG (X : Nat → GB) (k : Nat) : GH := ⟨6 + k, fun g => if g < 6 then gE.b g else X (g - 6)⟩
def inM (M' : Nat → Option M) : Mu := fun g => if g < 6 then some ⟨g, 0, 0, 0⟩ else M' (g - 6)
theorem in_inv {W : World} (t : Told W) (X : Nat → GB) (M' : Nat → Option M) (k : Nat) (hk : ∀ j, k ≤ j → M' j = none) (hro : ∀ j, (X j).ro = true) (hb : ∀ j m, M' j = some m → (X j).alive = true → ∃ cs t fr, BlkOk (inM M') W W.heap.size m (X j) cs t fr) : Inv W W.heap.size (inM M') (inG X k) W := by
  refine ⟨Below.refl _ _, Nat.le_refl _, fun g hg => ?_, fun g m hm ha => ?_, fun g g' m m' hm hm' hne ha ha' hr => ?_⟩
  · have hg : 6 + k ≤ g := hg
    unfold inM
    rw [if_neg (by omega)]
    exact hk _ (by omega)
  · unfold inM at hm
    unfold inG at ha ⊢
    simp only at ha ⊢
    split at hm
    · rename_i h6
      injection hm with hm
      subst hm
      rw [if_pos h6] at ha ⊢
      exact told_blk t h6 ha
    · rename_i h6
      rw [if_neg h6] at ha ⊢
      exact hb _ m hm ha
  · unfold inG at hr
    simp only at hr
    split at hr
    · rw [gE.ro] at hr; cases hr
    · rw [hro] at hr; cases hr
theorem in_base (X : Nat → GB) (M' : Nat → Option M) (k : Nat) : Base gE (inM M') (inG X k) :=
  ⟨by show 6 ≤ 6 + k; omega, fun g hg => ⟨if_pos hg, if_pos hg⟩⟩
end Go.Proofs.Gh
namespace Go.Proofs.Gh
open Go Go.Proofs Go.Proofs.Zz Go.Proofs.YthnmdhfbbbfleaaGreatDoor Go.RowKit Go.ChangeShapes
set_option maxRecDepth 10000
set_option linter.unusedSimpArgs false
theorem slice_form {W : World} {base t e : Nat} {v : Value} (ht : Tryz.prog.underlying t = some (.slice e)) (h : Value.okWide Tryz.prog W .any base t v) : v = .slice none 0 0 ∨ ∃ (a : Addr) (len cap : Nat), v = .slice (some a) len cap ∧ a.spot = none ∧ len ≤ cap ∧ ∃ cs t' fr, W.heap[a.block]? = some (.cells cs t' fr) := by
  unfold Value.okWide at h
  rw [ht] at h
  simp only at h
  unfold Cell.okWide at h
  rw [ht] at h
  simp only at h
  unfold Cell.ok at h
  rw [ht] at h
  cases v with
  | slice p n c =>
    cases p with
    | none =>
      match n, c with
      | 0, 0 => exact .inl rfl
      | 0, c + 1 => simp at h
      | n + 1, c => simp at h
    | some a =>
      simp only at h
      obtain ⟨h1, h2, h3⟩ := h
      obtain ⟨_, h4, row, cells, h5, _⟩ := h3
      unfold World.shape? at h5
      split at h5
      · exact .inr ⟨_, _, _, rfl, h4, h1, _, _, _, by assumption⟩
      · cases h5
  | _ => simp at h
/-- a row of ints that came in -/
theorem in_ints {H : Type} {enc : TypeId × Value → H} {W : World} {base : Nat} {v : Value} {d : DataW H} {p : List MemPlace} (t : Told W) (hv : Value.okWide Tryz.prog W .any base 28 v) (hd : DataW.Trod enc Tryz.prog W 0 (fun _ => true) true 28 v d p) :
    ∃ (X : Nat → GB) (M' : Nat → Option M) (k : Nat) (l : List Int) (lv : Value), Inv W W.heap.size (inM M') (inG X k) W ∧ VR (inM M') lv v ∧ InAt (inG X k) lv l := by
  rcases slice_form Tryz.underlying28 hv with rfl | ⟨a, len, cap, rfl, hsp, hlc, cs, t', fr, hb⟩
  · refine ⟨fun _ => ⟨[], false, true⟩, fun _ => none, 0, [], .slice none 0 0, in_inv t _ _ 0 (fun _ _ => rfl) (fun _ => rfl) (fun j m h => by cases h), .nilSlice, none, 0, rfl, fun h => absurd rfl h⟩
  · obtain ⟨fuel, hd⟩ := hd
    have hc : (Value.slice (some a) len cap).cells.toList = [.slice (some a) len cap] := rfl
    rw [hc] at hd
    rcases open_ints Tryz.underlying28 Tryz.underlying3 (by kernel_rfl) hd with ⟨e, _⟩ | ⟨a', len', cap', zs, e, _, _, hmx, hz, _, hcell, _⟩
    · simp at e
    · simp only [List.cons.injEq, Value.slice.injEq, Option.some.injEq, and_true] at e
      obtain ⟨rfl, rfl, rfl⟩ := e
      rw [if_pos rfl] at hz
      obtain ⟨ab, ao, asp⟩ := a
      have hsp : asp = none := hsp
      subst hsp
      have hadd : ∀ i, (Addr.add ⟨ab, ao, none⟩ i) = ⟨ab, ao + i, none⟩ := by
        intro i
        unfold Addr.add
        split
        · rename_i h; subst h; rfl
        · rfl
      have hcs : ∀ (i : Nat) (z : Int), zs[i]? = some z → cs[ao + i]? = some (.int .i64 z) := by
        intro i z hi
        obtain ⟨h1, h2⟩ := List.getElem?_eq_some_iff.1 hi
        have := hcell i h1
        rw [hadd, List.getD, hi, Option.getD_some] at this
        unfold World.cell? at this
        simp only [hb] at this
        simpa using this
      have hml : maxLen < unk := by decide
      have hll : (zs.take len).length = len := by rw [List.length_take]; omega
      refine ⟨fun j => if j = 0 then ⟨zs.map fun z => .int .i64 z, true, true⟩ else ⟨[], false, true⟩, fun j => if j = 0 then some ⟨ab, ao, 0, 0⟩ else none, 1, zs.take len, .slice (some ⟨6, 0, none⟩) len cap, ?_, ?_, ?_⟩
      · refine in_inv t _ _ 1 (fun j hj => if_neg (by omega)) (fun j => by split <;> rfl) (fun j m hm ha => ?_)
        split at hm
        · rename_i h0
          subst h0
          injection hm with hm
          subst hm
          refine ⟨cs, t', fr, hb, fun i x hx => ?_, fun x hx => ?_, fun h => by cases h⟩
          · rw [if_pos rfl, List.getElem?_map] at hx
            obtain ⟨z, hz1, rfl⟩ := Option.map_eq_some_iff.1 hx
            exact ⟨_, hcs i z hz1, .int _ _⟩
          · rw [if_pos rfl] at hx
            obtain ⟨z, _, rfl⟩ := List.mem_map.1 hx
            rfl
        · cases hm
      · have h6 : inM (fun j => if j = 0 then some ⟨ab, ao, 0, 0⟩ else none) 6 = some ⟨ab, ao, 0, 0⟩ := rfl
        have := VR.slice (o := 0) (len := len) (c := cap) (c' := cap) h6 hlc (.inl ⟨rfl, by omega⟩)
        exact this
      · refine ⟨_, cap, by rw [hll], fun _ => ⟨6, 0, rfl, ?_⟩⟩
        have hb6 : (inG (fun j => if j = 0 then ⟨zs.map fun z => .int .i64 z, true, true⟩ else ⟨[], false, true⟩) 1).b 6 = ⟨zs.map fun z => .int .i64 z, true, true⟩ := rfl
        refine ⟨by show 6 < 6 + 1; decide, by rw [hb6], ⟨[], (zs.drop len).map fun z => .int .i64 z, ?_, rfl⟩, ints_one _, by rw [ints_length, hll]; omega, fun hc => by omega⟩
        rw [hb6]
        have : (ints (zs.take len)).flatten = (zs.take len).map fun z => Value.int .i64 z := by
          have := one_cells ((zs.take len).map fun z => Value.int .i64 z)
          rw [List.map_map] at this
          exact this
        rw [this, List.nil_append, ← List.map_append, List.take_append_drop]
theorem wV_vr {μ : Mu} (b : Bool) (kd nm : Int) (xs : List Int) : VR μ (wV b kd nm xs) (wV b kd nm xs) := by
  refine VR.of_flat ?_
  show (wCells b kd nm xs).toArray.all flat0 = true
  rw [List.all_toArray, List.all_eq_true]
  intro x hx
  rcases List.mem_cons.1 hx with rfl | hx
  · rfl
  · rcases List.mem_cons.1 hx with rfl | hx
    · rfl
    · rcases List.mem_cons.1 hx with rfl | hx
      · rfl
      · obtain ⟨z, _, rfl⟩ := List.mem_map.1 hx
        rfl
theorem GCalls.run {f : FuncId} {gargs args : Array Value} {h h' : GH} {r : Value} {μ : Mu} {W : World} (hc : GCalls Tryz.prog gE f gargs h r h') (hr : r = .bool true) (hi : Inv W W.heap.size μ h W) (hb : Base gE μ h) (ha : AR μ gargs args) :
    Calls Tryz.prog f args W fun e W' => e = .returned (.bool true) ∧ Below W.heap.size W W' := by
  refine (hc.2 W W.heap.size μ W args hi hb ha).mono ?_
  rintro e W' ⟨μ', res, rfl, k1, k2, _⟩
  subst hr
  rw [k2.eq0 rfl]
  exact ⟨rfl, k1.below⟩
theorem AR.mk2 {μ : Mu} {a b a' b' : Value} (h1 : VR μ a a') (h2 : VR μ b b') : AR μ #[a, b] #[a', b'] := by
  refine ⟨rfl, fun i h _ => ?_⟩
  match i, h with
  | 0, _ => exact h1
  | 1, _ => exact h2
theorem AR.mk3 {μ : Mu} {a b c a' b' c' : Value} (h1 : VR μ a a') (h2 : VR μ b b') (h3 : VR μ c c') : AR μ #[a, b, c] #[a', b', c'] := by
  refine ⟨rfl, fun i h _ => ?_⟩
  match i, h with
  | 0, _ => exact h1
  | 1, _ => exact h2
  | 2, _ => exact h3
end Go.Proofs.Gh
namespace Go.Proofs.YthnmdhfbbbfleaaGreatDoor
open Go Go.Proofs Go.Proofs.Gh Go.Proofs.YthnmdhfbbbfleaaGreatDoor Go.RowKit Go.ChangeShapes
theorem turnsOwn : ownKnob Tryz.prog.godebug = none := by kernel_rfl
theorem turnsLaid : laidOutB Tryz.prog = true := by kernel_rfl
theorem turns26 : Tryz.prog.readableRec 26 = true := by kernel_rfl
set_option maxRecDepth 100000 in
theorem turns_lifted (os : Os) (started : os.Started) (H : Type) (enc : TypeId × Value → H) :
    ReturnsInHanded {} Tryz.checked os 9 .any (fun w args => (Rows.scaleTurnsSpec.pre enc Tryz.prog Tryz.f9 [] false w args ∧ laidMetH Tryz.prog Rows.scaleTurnsRow.laid w) ∧ sizedMet enc Tryz.prog Tryz.f9 (OpenSpec.ofChange Rows.scaleTurnsSpec) false w args)
      (Rows.scaleTurnsSpec.post enc Tryz.prog Tryz.f9 false true false false) := by
  refine returnsInHanded_of_change_and (C := Tryz.checked) (X := fun w _ => laidMetH Tryz.prog Rows.scaleTurnsRow.laid w) (fun _ _ _ hh h => h.of_heap hh) turnsOwn started (by kernel_rfl) Tryz.func9
    (ChangeSpec.witness_shaped (enc := enc) (C := Tryz.checked) (os := os) (X := fun w _ => laidMetH Tryz.prog Rows.scaleTurnsRow.laid w) false (World.laidAll Tryz.prog os Rows.scaleTurnsRow.laid) #[wV false 0 0 (List.replicate 24 0), .int .u8 0, .int .u8 0] 9 (World.laidAll_os _ _ _)
      (World.shaped_of_ZipB (by kernel_rfl) (by kernel_rfl)) (by kernel_rfl) (by kernel_rfl) (by kernel_rfl)
      (by rw [MakeChecks.laidMetH_plain _ _ _ (by kernel_rfl)]; exact laidMet_laidAll _ (by kernel_rfl) (by kernel_rfl))) ?_
  intro W base args ds gs before hval0 hW _ _ hL _
  have hval : ∀ (j : Nat) t v, Tryz.f9.params[j]? = some t → args[j]? = some v → Value.okWide Tryz.prog W .any base t v := hval0
  have hW' := hW
  obtain ⟨p, q, hA0, hV, rfl, _, _⟩ := hW
  have hA : DataW.TrodAll enc Tryz.prog W 0 (fun _ => true) true Tryz.f9.params.toList args.toList ds p := hA0
  rw [Tryz.params9] at hA hval
  obtain ⟨v0, v1, v2, d0, d1, d2, p0, p1, p2, rfl, rfl, rfl, h0, h1, h2⟩ := trodAll_three hA
  obtain ⟨rfl, rfl⟩ := trodVars_none hV
  simp only [List.append_nil] at hW'
  have tl := told hL
  obtain ⟨b, kd, nm, xs, e0, hw⟩ := world_form (hval 0 26 v0 rfl rfl)
  obtain ⟨x, rfl, rfl, rfl, wx⟩ := open_int Tryz.underlying5 (hval 1 5 v1 rfl rfl) h1
  obtain ⟨y, rfl, rfl, rfl, wy⟩ := open_int Tryz.underlying5 (hval 2 5 v2 rfl rfl) h2
  have bx : 0 ≤ x ∧ x ≤ 255 := by
    have m1 : IntKind.u8.min = 0 := by decide
    have m2 : IntKind.u8.max = 255 := by decide
    have := wx
    simpa [Lit.wf, m1, m2] using this
  have bY : 0 ≤ y ∧ y ≤ 255 := by
    have m1 : IntKind.u8.min = 0 := by decide
    have m2 : IntKind.u8.max = 255 := by decide
    have := wy
    simpa [Lit.wf, m1, m2] using this
  obtain ⟨nx, ex⟩ : ∃ nx : Nat, x = nx := ⟨x.toNat, by omega⟩
  obtain ⟨ny, ey⟩ : ∃ ny : Nat, y = ny := ⟨y.toNat, by omega⟩
  obtain ⟨r, h', hc, hle, hr⟩ := c_lawTurns (h := inG (fun _ => ⟨[], false, true⟩) 0) (b := b) (x := nx) (y := ny) hw (by omega) (by omega)
  rw [← ex, ← ey] at hc
  have hi := in_inv tl (fun _ => ⟨[], false, true⟩) (fun _ => none) 0 (fun _ _ => rfl) (fun _ => rfl) (fun j m h => by cases h)
  refine (GCalls.run hc hr hi (in_base _ _ _) (AR.mk3 (by rw [e0]; exact wV_vr b kd nm xs) (.int _ _) (.int _ _))).mono fun e W' ⟨he, hb⟩ => ?_
  subst he
  have hlt : ∀ x ∈ p0, x.block < W.heap.size := fun x hx => hW'.lt x (by simpa using hx)
  refine ⟨_, rfl, _, _, _, [], p0 ++ ([] ++ []), [], hW', trodAll_mk1 (shut_bool Tryz.underlying4 _), ?_, rfl, hb.frame _, fun h => by cases h⟩
  exact trodAll_mk3 (Below.trod turnsLaid turns26 (of_decide_eq_true (by kernel_rfl)) h0 hb hlt) (shut_int Tryz.underlying5 wx) (shut_int Tryz.underlying5 wy)
end Go.Proofs.YthnmdhfbbbfleaaGreatDoor
namespace Go.Proofs.YthnmdhfbbbfleaaGreatDoor
open Go Go.Proofs Go.Proofs.Gh Go.Proofs.YthnmdhfbbbfleaaGreatDoor Go.RowKit Go.ChangeShapes
theorem turns_said : Rows.ScaleTurnsSaid :=
  OpenClaim.holds_of_wide 9 Tryz.f9 rfl rfl rfl rfl rfl rfl rfl ⟨rfl, rfl, rfl, rfl, rfl⟩ rfl rfl rfl rfl rfl (by kernel_rfl) Tryz.func9 (by kernel_rfl)
    (of_decide_eq_true (by kernel_rfl)) (by unfold Func.isWrapper; first | (rw [if_pos (by decide +kernel)]; kernel_rfl) | (rw [if_neg (by decide +kernel)]; exact ⟨rfl, rfl⟩))
    (fun os started H enc _ => turns_lifted os started H enc)
theorem turns_plain (f : FuncId) (fn : Func) (hf : Tryz.pinned.checked.prog.funcNamed "schisma/schismalaw31.ScaleTurns" = some f) (hfn : Tryz.pinned.checked.prog.funcs[f]? = some fn) :
    true = Tryz.pinned.checked.prog.looks [] ∧ ∀ (j : Nat) t, fn.params[j]? = some t → Tryz.pinned.checked.prog.wantsStandIn t = false := by
  obtain rfl : f = 9 := Option.some.inj ((show Tryz.prog.funcNamed "schisma/schismalaw31.ScaleTurns" = some 9 by kernel_rfl).symm.trans hf) |>.symm
  obtain rfl : fn = Tryz.f9 := (Option.some.inj (Tryz.func9.symm.trans hfn)).symm
  refine ⟨by kernel_rfl, fun j t ht => ?_⟩
  rw [Tryz.params9] at ht
  have hm : t ∈ [26, 5, 5] := by simpa using Array.mem_of_getElem? ht
  have hall : ([26, 5, 5].all fun u => !Tryz.prog.wantsStandIn u) = true := by kernel_rfl
  exact (show Tryz.prog.wantsStandIn t = false by simpa using List.all_eq_true.1 hall t hm)
theorem turns_card : Rows.ScaleTurnsCardSaid :=
  Claim7.holds_tied_plain_at .later [] _ _ _ _ turns_said (fun _ h => by cases h) (by kernel_rfl) (fun _ h => by cases h) scaleTurns_row_tie rfl ⟨rfl, rfl⟩ (by kernel_rfl) rfl turns_plain (by kernel_rfl)
#print axioms turns_card
end Go.Proofs.YthnmdhfbbbfleaaGreatDoor
