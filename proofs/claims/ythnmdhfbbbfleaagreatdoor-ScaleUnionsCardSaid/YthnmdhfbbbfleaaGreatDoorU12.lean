/- Part 12 of a proof: walks of the program in a small memory, plain lemmas. -/
import Derived.Test.YthnmdhfbbbfleaaGreatDoorU11
set_option linter.all false
namespace Go.Proofs.Gh
open Go Go.Proofs Go.Proofs.Zz
set_option maxRecDepth 10000
set_option linter.unusedSimpArgs false
/-- a described scale -/
structure WOk (kd nm : Nat) (xs : List Int) : Prop where
  kd : kd < 256
  nm : nm < 256
  len : xs.length = 24
  bd : ∀ x ∈ xs, -128 ≤ x ∧ x ≤ 127
theorem world_load {h h' : GH} {b : Bool} {kd nm : Int} {xs : List Int} (hx : xs.length = 24) (hl : (h.alloc ⟨wCells b kd nm xs, true, false⟩).le h') : h'.load h.n 0 27 = some (wCells b kd nm xs) := by
  have hcl := wCells_length (b := b) (kd := kd) (nm := nm) hx
  refine load_mono hl (load_at (cells := wCells b kd nm xs) (ro := false) (Nat.lt_succ_self _) (alloc_self _ _) (by omega) ?_)
  rw [List.drop_zero, List.take_of_length_le (by omega)]
theorem c_lawSubsets {h : GH} {lv : Value} {l : List Int} {b : Bool} {kd nm : Nat} {xs : List Int} (hw : WOk kd nm xs) (hl : InAt h lv l) :
    ∃ r h', GCalls Tryz.prog gE 6 #[wV b kd nm xs, lv] h r h' ∧ h.le h' ∧ r = .bool true := by
  obtain ⟨lp, lc', rfl, hls⟩ := id hl
  have hcl := wCells_length (b := b) (kd := kd) (nm := nm) hw.len
  obtain ⟨H, hH⟩ : ∃ H, h.alloc ⟨wCells b kd nm xs, true, false⟩ = H := ⟨_, rfl⟩
  have hle0 : h.le H := by rw [← hH]; exact GH.le_alloc _ _
  have hwl : ∀ {h'}, H.le h' → h'.load h.n 0 27 = some (wCells b kd nm xs) := fun hl => world_load hw.len (by rw [hH]; exact hl)
  refine gcalls_in (pl := pl6) [.tmp 4] mixed Tryz.func6 rfl rfl (by exact ok6) ?_
  simp only [go_sem, ↓reduceIte, wV, wCells_one, hH]
  refine callK_intro (c_known) ?_
  rintro _ h1 ⟨hle1, rfl⟩
  have hle01 := hle0.trans hle1
  simp only [go_sem, Nat.reduceBEq, Array.reduceGetElem?, ↓reduceIte]
  refine ifK_intro (fun c1 => ?_) (fun c1 => ?_)
  · simp only [go_sem, c1]
    refine callK_intro (c_known) ?_
    rintro _ h2 ⟨hle2, rfl⟩
    simp only [go_sem]
    exact hle01.trans hle2
  have hlen : l.length ≤ 10 := by have := of_decide_eq_false c1; omega
  have hw1 := hwl hle1
  simp only [go_sem, Nat.reduceBEq, c1, hw1]
  refine callK_intro (c_Make' hw.kd hw.nm hw.len hw.bd) ?_
  rintro sv h2 ⟨hle2, N, D, L, F, sc, _, hs⟩
  obtain ⟨g, o, c, g2, o2, c2, rfl, hp, hn⟩ := hs.form
  have hP := prW_pr b
  have hpl := hP.len
  have hk := sc.len
  simp only [go_sem, Nat.reduceBEq, Nat.reduceAdd, ↓reduceIte]
  have hle02 := hle01.trans hle2
  obtain ⟨G, hG⟩ : ∃ G, h2.alloc ⟨[.slice (some ⟨g, o, none⟩) (prW b).length c, .slice (some ⟨g2, o2, none⟩) N.length c2], true, false⟩ = G := ⟨_, rfl⟩
  have dG : Duo G h2.n (.slice (some ⟨g, o, none⟩) (prW b).length c) (.slice (some ⟨g2, o2, none⟩) N.length c2) := by rw [← hG]; exact Duo.new _ _ _
  have hleG : h2.le G := by rw [← hG]; exact GH.le_alloc _ _
  have hGn : G.n = h2.n + 1 := by rw [← hG]; rfl
  simp only [go_sem, Nat.reduceBEq, alloc_store2s (h := h2) (a := .slice none 0 0) (b := .slice none 0 0) (v := .slice (some ⟨g, o, none⟩) (prW b).length c) (w := .slice (some ⟨g2, o2, none⟩) N.length c2) rfl rfl, hG, dG.l2]
  refine callK_intro (c_scSubset hP F sc (hs.mono hleG) (hl.mono (hle02.trans hleG)) (by omega)) ?_
  rintro rr h3 ⟨hle3, hr⟩
  obtain ⟨p1, n1, q1, p2, n2, q2, rfl, hr1, hr2⟩ : ∃ p1 n1 q1 p2 n2 q2, rr = .tuple #[.agg #[.slice p1 n1 q1, .slice p2 n2 q2], .int .i64 (errOf N.length l)] ∧ (errOf N.length l ≠ 0 → n2 = 0) ∧ (errOf N.length l = 0 → ScAt h3 (.agg #[.slice p1 n1 q1, .slice p2 n2 q2]) (prW b) (subN N l)) := by
    rcases hr with ⟨e1, rfl⟩ | ⟨e1, tv, rfl, ht⟩
    · exact ⟨_, _, _, _, _, _, rfl, fun _ => rfl, fun h => absurd h e1⟩
    · obtain ⟨a1, a2, a3, a4, a5, a6, rfl, _, _⟩ := ht.form
      exact ⟨_, _, _, _, _, _, by rw [e1], fun h => absurd e1 h, fun _ => ht⟩
  obtain ⟨G2, hG2⟩ : ∃ G, h3.alloc ⟨[.slice p1 n1 q1, .slice p2 n2 q2], true, false⟩ = G := ⟨_, rfl⟩
  have dT : Duo G2 h3.n (.slice p1 n1 q1) (.slice p2 n2 q2) := by rw [← hG2]; exact Duo.new _ _ _
  have hleG2 : h3.le G2 := by rw [← hG2]; exact GH.le_alloc _ _
  have dS := (dG.mono hle3).mono hleG2
  have hle0F := ((hle02.trans hleG).trans hle3).trans hleG2
  simp only [go_sem, Nat.reduceBEq, Nat.reduceAdd, Array.reduceGetElem?, ↓reduceIte, alloc_store2s (h := h3) (a := .slice none 0 0) (b := .slice none 0 0) (v := .slice p1 n1 q1) (w := .slice p2 n2 q2) rfl rfl, hG2]
  refine ifK_intro (fun c3 => ?_) (fun c3 => ?_)
  · have c3' : l = [] := List.length_eq_zero_iff.1 (by have := of_decide_eq_true c3; omega)
    subst c3'
    simp only [go_sem, Nat.reduceBEq, Int.reduceLT]
    refine loopK_unroll ?_
    have e13 : errOf N.length [] = 13 := by simp [errOf]
    rw [e13] at hr1
    simp only [go_sem, Nat.reduceBEq, Int.reduceLT, Int.reduceNe, Array.reduceGetElem?, ↓reduceIte, e13, dT.l1, hr1 (by decide)]
    exact hle0F
  have c3' : l ≠ [] := by rintro rfl; simp at c3
  obtain ⟨lg, lo, rfl, hlr⟩ := hls c3'
  have hlF := hlr.mono hle0F
  simp only [go_sem, Nat.reduceBEq]
  refine loopK_inv (α := Nat) (fun i => l.length - i) (fun i ts g' => ts 1 = .slice (some ⟨lg, lo, none⟩) l.length lc' ∧ ts 5 = .pointer (some ⟨h2.n, 0, none⟩) ∧ ts 6 = .pointer (some ⟨h3.n, 0, none⟩) ∧ ts 7 = .int .i64 (errOf N.length l) ∧ ts 8 = .int .i64 (errTo N.length l i) ∧ ts 33 = .slice (some ⟨lg, lo, none⟩) l.length lc' ∧ ts 34 = .int .i64 l.length ∧ ts 35 = .int .i64 i ∧ i ≤ l.length ∧ G2 = g') ?_ (a0 := 0) ?_
  · rintro i ts g' ⟨t1, t5, t6, t7, t8, t33, t34, t35, hi, rfl⟩
    simp only [go_sem, t34, t35]
    refine ifK_intro (fun c4 => ?_) (fun c4 => ?_)
    · have c4' := of_decide_eq_true c4
      have hll := hlF.load (ints_get (i := i) (x := l[i]?.getD 0) (by rw [List.getElem?_eq_getElem (by omega)]; rfl))
      rw [Nat.mul_one] at hll
      have wi : IntKind.i64.wrap ((i : Int) + 1) = ((i + 1 : Nat) : Int) := wrap_i64 (by omega) (by omega)
      obtain ⟨x, hx⟩ : ∃ x, l[i]?.getD 0 = x := ⟨_, rfl⟩
      rw [hx] at hll
      simp only [go_sem, Nat.reduceBEq, Array.reduceGetElem?, ↓reduceIte, t8, t33, t35, c4', hll]
      refine ifK_intro (fun c5 => ?_) (fun c5 => ?_)
      · have he : errTo N.length l i = 0 := of_decide_eq_true c5
        have nxt : errTo N.length l (i + 1) = errAt N.length l i := by rw [errTo, if_pos he]
        simp only [go_sem, Nat.reduceBEq, Array.reduceGetElem?, c5]
        refine ifK_intro (fun c6 => ?_) (fun c6 => ?_)
        · have c6' := of_decide_eq_true c6
          simp only [go_sem, Nat.reduceBEq, Int.reduceEq, Array.reduceGetElem?, ↓reduceIte, t1, t5, t6, t7, t33, t34, t35, c5, c6, wi]
          exact ⟨i + 1, by omega, by rw [nxt, errAt, hx, if_pos (.inl c6')], rfl, by omega⟩
        · have c6' := of_decide_eq_false c6
          simp only [go_sem, Nat.reduceBEq, Array.reduceGetElem?, ↓reduceIte, t5, c5, c6, dS.l1]
          refine ifK_intro (fun c7 => ?_) (fun c7 => ?_)
          · have c7' := of_decide_eq_true c7
            simp only [go_sem, Nat.reduceBEq, Int.reduceEq, Array.reduceGetElem?, ↓reduceIte, t1, t5, t6, t7, t33, t34, t35, c5, c6, c7, wi]
            exact ⟨i + 1, by omega, by rw [nxt, errAt, hx, if_pos (.inr c7')], rfl, by omega⟩
          · have c7' := of_decide_eq_false c7
            have hn3 : ¬ (x < 0 ∨ (N.length : Int) ≤ x) := by omega
            simp only [go_sem, Nat.reduceBEq, Array.reduceGetElem?, ↓reduceIte, t8, c5, c6, c7]
            refine ifK_intro (fun c8 => ?_) (fun c8 => ?_)
            · have c8' := of_decide_eq_true c8
              have wm : IntKind.i64.wrap ((i : Int) - 1) = ((i - 1 : Nat) : Int) := by rw [wrap_i64 (by omega) (by omega)]; omega
              have hm : ((i - 1 : Nat) : Int) < l.length := by omega
              have hll2 := hlF.load (ints_get (i := i - 1) (x := l[i - 1]?.getD 0) (by rw [List.getElem?_eq_getElem (by omega)]; rfl))
              rw [Nat.mul_one] at hll2
              obtain ⟨y, hy⟩ : ∃ y, l[i - 1]?.getD 0 = y := ⟨_, rfl⟩
              rw [hy] at hll2
              simp only [go_sem, Nat.reduceBEq, Array.reduceGetElem?, ↓reduceIte, t1, c5, c6, c7, c8, wm, hm, hll2]
              refine ifK_intro (fun c9 => ?_) (fun c9 => ?_)
              · have c9' := of_decide_eq_true c9
                simp only [go_sem, Nat.reduceBEq, t1, t5, t6, t7, t33, t34, t35, wi]
                exact ⟨i + 1, by omega, by rw [nxt, errAt, hx, hy, if_neg hn3, if_pos ⟨by omega, c9'⟩], rfl, by omega⟩
              · have c9' := of_decide_eq_false c9
                simp only [go_sem, Nat.reduceBEq, t1, t5, t6, t7, t8, t33, t34, t35, wi]
                exact ⟨i + 1, by omega, by rw [nxt, errAt, hx, hy, if_neg hn3, if_neg (by omega), he], rfl, by omega⟩
            · have c8' := of_decide_eq_false c8
              simp only [go_sem, Nat.reduceBEq, Array.reduceGetElem?, ↓reduceIte, t1, t5, t6, t7, t8, t33, t34, t35, c5, c6, c7, c8, wi]
              exact ⟨i + 1, by omega, by rw [nxt, errAt, hx, if_neg hn3, if_neg (by omega), he], rfl, by omega⟩
      · have he : ¬ errTo N.length l i = 0 := of_decide_eq_false c5
        have nxt : errTo N.length l (i + 1) = errTo N.length l i := by rw [errTo, if_neg he]
        simp only [go_sem, Nat.reduceBEq, Array.reduceGetElem?, ↓reduceIte, t1, t5, t6, t7, t8, t33, t34, t35, c5, wi]
        exact ⟨i + 1, by omega, by rw [nxt], rfl, by omega⟩
    · have c4' := of_decide_eq_false c4
      obtain rfl : i = l.length := by omega
      have eo : errTo N.length l l.length = errOf N.length l := by rw [errOf, if_neg c3']
      rw [eo] at t8
      simp only [go_sem, Nat.reduceBEq, t8]
      refine ifK_intro (fun c5 => ?_) (fun c5 => ?_)
      · have h5 : errOf N.length l ≠ 0 := by simpa using c5
        simp only [go_sem, Nat.reduceBEq, Array.reduceGetElem?, ↓reduceIte, t6, t7, t8, dT.l1, hr1 h5]
        exact hle0F
      have e0 : errOf N.length l = 0 := by simpa using c5
      have hres := hr2 e0
      rw [e0] at t7
      obtain ⟨_, hz, hz2⟩ := subI_bd e0
      obtain ⟨x0, l', rfl⟩ := List.exists_cons_of_ne_nil c3'
      obtain ⟨n0, rfl⟩ : ∃ n0 : Nat, x0 = n0 := ⟨x0.toNat, by have := hz x0 (by simp); omega⟩
      have hn0 := hz (n0 : Int) (by simp)
      have i0 : ((0 : Int) < ((l'.length + 1 : Nat) : Int)) := by omega
      have nd0 := sc.note_nd hP F (n := n0) (by omega)
      have hlen' : l'.length ≤ 9 := by simp only [List.length_cons] at hlen; omega
      obtain ⟨G3, hG3⟩ : ∃ G, G2.alloc ⟨[.slice (some ⟨g, o, none⟩) (prW b).length c, .slice none 0 0], true, false⟩ = G := ⟨_, rfl⟩
      have dW : Duo G3 G2.n (.slice (some ⟨g, o, none⟩) (prW b).length c) (.slice none 0 0) := by rw [← hG3]; exact Duo.new _ _ _
      have hleG3 : G2.le G3 := by rw [← hG3]; exact GH.le_alloc _ _
      have hG3n : G3.n = G2.n + 1 := by rw [← hG3]; rfl
      obtain ⟨c', et1, et2⟩ := ints_tail (hlr.mono (hle0F.trans hleG3)) (by omega)
      have hl0 : ∀ {h'}, h.le h' → h'.load lg lo 1 = some [.int .i64 n0] := fun hl => by
        have := (hlr.mono hl).load (ints_get (i := 0) (x := (n0 : Int)) rfl)
        rwa [Nat.zero_mul, Nat.add_zero] at this
      have hl3 := hl0 (hle0F.trans hleG3)
      have dS3 := dS.mono hleG3
      have wz : IntKind.i64.wrap ((n0 : Int) + (N.length : Int)) = (n0 : Int) + (N.length : Int) := wrap_i64 (by omega) (by omega)
      simp only [go_sem, Nat.reduceBEq, Nat.reduceAdd, Nat.reduceLeDiff, Nat.reduceLT, Int.reduceLE, Int.reduceToNat, Array.reduceGetElem?, ↓reduceIte, t1, t5, c5, dS.l0, alloc_store2s (h := G2) (a := .slice none 0 0) (b := .slice none 0 0) (v := .slice (some ⟨g, o, none⟩) (prW b).length c) (w := .slice none 0 0) rfl rfl, hG3, List.length_cons, i0, hl3, et1, dS3.l1, wz, pl6]
      obtain ⟨G1, hG1⟩ : ∃ G1, G3.alloc ⟨[.int .i64 ((n0 : Int) + (N.length : Int))], true, false⟩ = G1 := ⟨_, rfl⟩
      have hleG1 : G3.le G1 := by rw [← hG1]; exact GH.le_alloc _ _
      have hG1n : G1.n = G3.n + 1 := by rw [← hG1]; rfl
      have hld1 : G1.load G3.n 0 1 = some [.int .i64 ((n0 : Int) + (N.length : Int))] := by rw [← hG1]; exact alloc_load1
      rw [hG1]
      refine callK_intro (c_cloneInts (et2.mono hleG1) (by omega)) ?_
      rintro v4 h4 ⟨hle4, hri⟩
      have dS4 := (dS3.mono hleG1).mono hle4
      have hl4 := hl0 (((hle0F.trans hleG3).trans hleG1).trans hle4)
      have hld4 := load_mono hle4 hld1
      obtain ⟨iv, h5, ap1, hle5, ig, ic, rfl, his, hig⟩ := hri.app' (c2 := 1) hle4 (by omega) hld4
      have hri2 : ∃ p n c, v4 = .slice p n c := by
        rcases hri with ⟨_, g, rfl⟩ | ⟨g, w⟩
        · exact ⟨_, _, _, rfl⟩
        · rcases w with ⟨rfl, _⟩ | ⟨g', _, rfl, _⟩
          · exact ⟨_, _, _, rfl⟩
          · exact ⟨_, _, _, rfl⟩
      obtain ⟨_, _, _, rfl⟩ := hri2
      simp only [go_sem, Nat.reduceBEq, Array.reduceGetElem?, List.length_cons, hl4, dS4.l1, ap1]
      have hle25 : G2.le h5 := (hleG3.trans hleG1).trans hle5
      have hG25 : G3.n < h5.n := by have := hleG1.1; have := hle5.1; omega
      have hig3 : G2.n < ig := by have := hleG1.1; have := hle4.1; omega
      have hIl : (subI N.length ((n0 : Int) :: l')).length = l'.length + 1 := by rw [subI_len (by simp)]; rfl
      have his' : SlAt h5 ig 0 ic 1 (ints (subI N.length ((n0 : Int) :: l'))) := his
      have i4 := his'.lt
      have dW5 : Duo h5 G2.n (.slice (some ⟨g, o, none⟩) (prW b).length c) (.slice none 0 0) := (dW.mono hleG1).mono hle5
      have hsne : ∀ i, ∀ x ∈ (subN N ((n0 : Int) :: l')).take i, x ≠ [] := by
        intro i x hx
        obtain ⟨z, hzm, rfl⟩ := List.mem_map.1 (List.mem_of_mem_take hx)
        rw [← List.length_pos_iff, subL_length _ _ (by rw [ntI, ntI, sc.note_len hP, sc.note_len hP]), ntI, sc.note_len hP]
        omega
      refine loopK_inv (α := Nat) (fun i => l'.length + 1 - i) (fun i ts g' => ts 1 = .slice (some ⟨lg, lo, none⟩) (l'.length + 1) lc' ∧ ts 5 = .pointer (some ⟨h2.n, 0, none⟩) ∧ ts 6 = .pointer (some ⟨h3.n, 0, none⟩) ∧ ts 7 = .int .i64 0 ∧ ts 11 = .pointer (some ⟨G2.n, 0, none⟩) ∧ ts 94 = .slice (some ⟨ig, 0, none⟩) (l'.length + 1) ic ∧ ts 95 = .int .i64 ((l'.length + 1 : Nat) : Int) ∧ ts 96 = .int .i64 i ∧ i ≤ l'.length + 1 ∧ G2.le g' ∧ SlAt g' ig 0 ic 1 (ints (subI N.length ((n0 : Int) :: l'))) ∧ h5.n ≤ g'.n ∧ ∃ v o', Duo g' G2.n (.slice (some ⟨g, o, none⟩) (prW b).length c) v ∧ LsO h5 g' v ((subN N ((n0 : Int) :: l')).take i) o') ?_ (a0 := 0) ?_
      · clear t1 t5 t6 t7 t8 t33 t34 t35
        rintro i ts g' ⟨t1, t5, t6, t7, t11, t94, t95, t96, hi, hle', hiv, hn5, v, o', dv, hv⟩
        obtain ⟨vp, vc, rfl⟩ := hv.form
        simp only [go_sem, t95, t96]
        refine ifK_intro (fun c6 => ?_) (fun c6 => ?_)
        · have c6' := of_decide_eq_true c6
          have c6'' : (i : Int) < ((l'.length + 1 : Nat) : Int) := by omega
          obtain ⟨z, hzi⟩ : ∃ z, (subI N.length ((n0 : Int) :: l'))[i]? = some z := ⟨_, List.getElem?_eq_getElem (by omega)⟩
          have hzb := hz2 z (List.mem_of_getElem? hzi)
          obtain ⟨m, rfl⟩ : ∃ m : Nat, z = m := ⟨z.toNat, by omega⟩
          have hil := hiv.load (ints_get hzi)
          rw [Nat.mul_one, Nat.zero_add] at hil
          have ndm := sc.note_nd hP F (n := m) (by omega)
          have hleH' := hle0F.trans hle'
          have dS' := dS.mono hle'
          have hll' := hl0 hleH'
          have hsc' := ((((hs.mono hleG).mono hle3).mono hleG2).mono hle')
          simp only [go_sem, Nat.reduceBEq, Int.reduceLE, Int.reduceToNat, Array.reduceGetElem?, ↓reduceIte, t1, t5, t11, t94, t96, c6'', hil, dS'.l2, dv.l1, i0, hll', pl6]
          have qT : ∀ n : Nat, n ≤ 20 * N.length → Ti (((n / N.length : Nat) : Int) : Rat) := by
            intro n hn
            have : n / N.length ≤ 20 := by
              have := Nat.div_le_div_right (c := N.length) hn
              rwa [Nat.mul_div_cancel _ hk.1] at this
            exact ⟨by rw [Rat.num_intCast, Int.natAbs_natCast]; omega, by show 1 < 15000; decide⟩
          refine callK_intro (c_lNote hsc' hk.1 (by omega) (by omega) ⟨by omega, by omega⟩ (fun x hx => (sc.nd x hx).len) (fun x hx => (sc.nd x hx).ti F) (qT m (by omega)) ndm.2 (ndm.1.sm F)) ?_
          rintro nv h6 ⟨hle6, hnv⟩
          have dS6 := dS'.mono hle6
          have dv6 := dv.mono hle6
          have hll6 := hl0 (hleH'.trans hle6)
          obtain ⟨_, _, _, rfl, _⟩ := id hnv
          simp only [go_sem, Nat.reduceBEq, Array.reduceGetElem?, t5, dS6.l2, dv6.l1, hll6]
          refine callK_intro (c_lNote (hsc'.mono hle6) hk.1 (by omega) (by omega) ⟨by omega, by omega⟩ (fun x hx => (sc.nd x hx).len) (fun x hx => (sc.nd x hx).ti F) (qT n0 (by omega)) nd0.2 (nd0.1.sm F)) ?_
          rintro fv h7 ⟨hle7, hfv⟩
          have dS7 := dS6.mono hle7
          have dv7 := dv6.mono hle7
          have hll7 := hl0 ((hleH'.trans hle6).trans hle7)
          obtain ⟨_, _, _, rfl, _⟩ := id hfv
          simp only [go_sem, Nat.reduceBEq, Array.reduceGetElem?, dv7.l1]
          refine callK_intro (c_less (hnv.at.mono hle7) hfv.at (by rw [← List.length_pos_iff, ndm.1.len]; omega) (by rw [ndm.1.len]; omega) (by rw [ndm.1.len, nd0.1.len]) (ndm.1.ti F) (nd0.1.ti F) (Nd.good F ndm.1 nd0.1).fit.sm) ?_
          rintro dv' h8 ⟨hle8, hdv⟩
          have dv8 := dv7.mono hle8
          have dS8 := dS7.mono hle8
          have hll8 := hl0 (((hleH'.trans hle6).trans hle7).trans hle8)
          have hv8 := ((hv.mono hle6).mono hle7).mono hle8
          have hsl : (subN N ((n0 : Int) :: l')).take (i + 1) = (subN N ((n0 : Int) :: l')).take i ++ [subL (noteL N m) (noteL N n0)] := by
            rw [List.take_add_one, subN, List.getElem?_map, hzi]; rfl
          have wi : IntKind.i64.wrap ((i : Int) + 1) = ((i + 1 : Nat) : Int) := wrap_i64 (by omega) (by omega)
          obtain ⟨_, _, _, rfl, _⟩ := id hdv
          obtain ⟨v', h9, o2, ap, hv9, hX9⟩ := hv8.app' (Nat.le_trans hn5 (Nat.le_trans hle6.1 (Nat.le_trans hle7.1 hle8.1))) (by rw [List.length_take]; simp [subN, hIl]; omega) (hdv.n fun k hk => Nat.lt_of_lt_of_le (hv.lt k hk).2 (Nat.le_trans hle6.1 hle7.1))
          obtain ⟨vp', vc', rfl⟩ := hv9.form
          have ho7 := hv8.lt
          have dv9 := dv8.leX hX9 (fun e => by have := ho7 _ e.symm; omega)
          have st9 := dv9.s1 (v := .slice vp' ((subN N ((n0 : Int) :: l')).take i ++ [subL (noteL N m) (noteL N n0)]).length vc') rfl
          simp only [go_sem, Nat.reduceBEq, Nat.reduceLeDiff, Nat.reduceLT, Array.reduceGetElem?, ↓reduceIte, t1, t5, t6, t7, t11, t94, t95, t96, dv8.l1, List.length_cons, ap, st9, wi]
          have hleF : G2.le (h9.upd G2.n ⟨[.slice (some ⟨g, o, none⟩) (prW b).length c, .slice vp' ((subN N ((n0 : Int) :: l')).take i ++ [subL (noteL N m) (noteL N n0)]).length vc'], true, false⟩) :=
            (leX.le hX9 (((hle'.trans hle6).trans hle7).trans hle8) (fun g hg => by have := ho7 g hg; omega)).upd (Nat.le_refl _) _
          have his9 := SlAt.leX hX9 (((hiv.mono hle6).mono hle7).mono hle8) (fun e => by have := ho7 _ e.symm; omega)
          refine ⟨i + 1, by omega, rfl, by omega, hleF, SlAt.leX leX_upd his9 (fun e => by injection e with e; omega), ?_, _, o2, Duo.up dv9.lt, ?_⟩
          · show h5.n ≤ h9.n
            have := hX9.1; have := hle6.1; have := hle7.1; have := hle8.1; omega
          · rw [hsl]
            exact hv9.up (fun x hx => hsne (i + 1) x (by rw [hsl]; exact hx)) dv9.cells (by omega) _
        · have c6' := of_decide_eq_false c6
          obtain rfl : i = l'.length + 1 := by omega
          rw [show (subN N ((n0 : Int) :: l')).take (l'.length + 1) = subN N ((n0 : Int) :: l') from List.take_of_length_le (by simp [subN, hIl])] at hv dv
          have dT' := dT.mono hle'
          have hres' := (hres.mono hleG2).mono hle'
          have hsn : subN N ((n0 : Int) :: l') ≠ [] := by simp [subN, subI]
          simp only [go_sem, Nat.reduceBEq, Array.reduceGetElem?, t6, t7, t11, c6, dT'.l2, dv.l2]
          obtain ⟨u1, u2, eu, hu1, hu2⟩ := id hres'
          injection eu with eu
          simp only [Array.mk.injEq, List.cons.injEq, and_true] at eu
          obtain ⟨rfl, rfl⟩ := eu
          refine callK_intro (c_same hu1 ((hp.mono hleG).mono hle3 |>.mono hleG2 |>.mono hle') (.inl hu2) (.inl (hv.ls hsn (by simp [subN, hIl]; omega))) rfl rfl (by omega) (by simp [subN, hIl]; omega) (fun x hx => ?_)) ?_
          · obtain ⟨z, hzm, rfl⟩ := List.mem_map.1 hx
            rw [subL_length _ _ (by rw [ntI, ntI, sc.note_len hP, sc.note_len hP]), ntI, sc.note_len hP]
            omega
          rintro _ h6 ⟨hle6, rfl⟩
          simp only [go_sem, Nat.reduceBEq, ↓reduceIte]
          exact (hle0F.trans hle').trans hle6
      · simp only [go_sem, Nat.reduceBEq, Nat.reduceLeDiff, t1, t5, t6, t7]
        exact ⟨hle25, his', _, none, dW5, LsO.nil _ _⟩
  · simp only [go_sem, Nat.reduceBEq]
    exact ⟨rfl, Nat.zero_le _⟩
end Go.Proofs.Gh
namespace Go.Proofs.Gh
open Go Go.Proofs Go.Proofs.Zz
set_option maxRecDepth 10000
set_option linter.unusedSimpArgs false
/-- a mode's notes -/
def modeL (N : List (List Rat)) (m : Nat) : List (List Rat) := (List.range N.length).map fun i => subL (noteL N (m + (i + 1))) (noteL N m)
theorem modeL_len (N : List (List Rat)) (m : Nat) : (modeL N m).length = N.length := by simp [modeL]
/-- what the notes of a scale must be, so that its modes are told -/
structure MoOk (p : List Int) (N : List (List Rat)) : Prop where
  pos : 0 < N.length
  few : N.length ≤ 60
  len : ∀ x ∈ N, x.length = p.length
  sm : ∀ x ∈ N, ∀ q ∈ x, Ti q
  nl : ∀ n, (noteL N n).length = p.length
  nt : ∀ n, n ≤ 3 * N.length → (∀ q ∈ noteL N n, Ti q) ∧ ∀ q ∈ scaleL (perN N) ((n / N.length : Nat) : Int), Ti q
  dif : ∀ n m, n ≤ 3 * N.length → m ≤ 3 * N.length → SmL (subL (noteL N n) (noteL N m))
theorem Sc.mo {p : List Int} {D : Nat} {L N : List (List Rat)} (hP : Pr p) (F : Fam p D L) (s : Sc p D L N) : MoOk p N :=
  ⟨s.len.1, by have := s.len.2; omega, fun x hx => (s.nd x hx).len, fun x hx => (s.nd x hx).ti F, fun n => s.note_len hP n, fun n hn => ⟨(s.note_nd hP F (by omega)).1.ti F, (s.note_nd hP F (by omega)).2⟩, fun n m hn hm => (Nd.good F (s.note_nd hP F (by omega)).1 (s.note_nd hP F (by omega)).1).fit.sm⟩
theorem MoOk.sml {p : List Int} {N : List (List Rat)} (o : MoOk p N) : ∀ x ∈ N, SmL x := fun x hx q hq => (o.sm x hx q hq).sm
theorem MoOk.nsm {p : List Int} {N : List (List Rat)} (o : MoOk p N) {n : Nat} (hn : n ≤ 3 * N.length) : SmL (noteL N n) ∧ SmL (scaleL (perN N) ((n / N.length : Nat) : Int)) :=
  ⟨fun q hq => ((o.nt n hn).1 q hq).sm, fun q hq => ((o.nt n hn).2 q hq).sm⟩
theorem MoOk.ne {p : List Int} {N : List (List Rat)} (hP : Pr p) (o : MoOk p N) (m i : Nat) : ∀ x ∈ (modeL N m).take i, x ≠ [] := by
  intro x hx
  have hpl := hP.len
  obtain ⟨j, _, rfl⟩ := List.mem_map.1 (List.mem_of_mem_take hx)
  rw [← List.length_pos_iff, subL_length _ _ (by rw [o.nl, o.nl]), o.nl]
  omega
theorem MoOk.qt {p : List Int} {N : List (List Rat)} (o : MoOk p N) {n : Nat} (hn : n ≤ 3 * N.length) : Ti (((n / N.length : Nat) : Int) : Rat) := by
  have : n / N.length ≤ 3 := by
    have := Nat.div_le_div_right (c := N.length) hn
    rwa [Nat.mul_div_cancel _ o.pos] at this
  exact ⟨by rw [Rat.num_intCast, Int.natAbs_natCast]; omega, by show 1 < 15000; decide⟩
theorem c_mode {h : GH} {sv : Value} {p : List Int} {N : List (List Rat)} {m : Nat} (hP : Pr p) (s : ScAt h sv p N) (ok : MoOk p N) (hm : m ≤ N.length) :
    ∃ r h', GCalls Tryz.prog gE 86 #[sv, .int .i64 m] h r h' ∧ h.le h' ∧ ∃ tv, r = .tuple #[tv, .int .i64 0] ∧ ScAt h' tv p (modeL N m) := by
  obtain ⟨g, o, c, g2, o2, c2, rfl, hp, hn⟩ := s.form
  have hpl := hP.len
  have hk := ok.pos
  have hk2 := ok.few
  obtain ⟨H, hH, d1, d2, hle0, hHn⟩ := Duo.two h (.slice (some ⟨g, o, none⟩) p.length c) (.slice (some ⟨g2, o2, none⟩) N.length c2) (.slice none 0 0) (.slice none 0 0)
  refine gcalls_in (pl := noPl) [.cell 4 36, .tmp 5] mixed Tryz.func86 rfl rfl (by exact ok86) ?_
  simp only [go_sem, Nat.reduceBEq, ↓reduceIte, hH, d1.l2]
  refine callK_intro (c_note hP (s.mono hle0) hk (by omega) (by omega) ok.len ok.sml (ok.nsm (by omega)).2 (ok.nsm (by omega)).1) ?_
  rintro _ h2 ⟨hle2, fv, rfl, hfv⟩
  have dA2 := d1.mono hle2
  have dB2 := d2.mono hle2
  have hle := hle0.trans hle2
  simp only [go_sem, Nat.reduceBEq, Int.reduceNe, Array.reduceGetElem?, dA2.l0]
  refine callK_intro (c_clonePrimes (hp.mono hle) hP.ne (by omega)) ?_
  rintro cv h3 ⟨hle3, hcv⟩
  obtain ⟨cg, co, cc, rfl, hcs⟩ := id hcv
  have hle03 := hle.trans hle3
  obtain ⟨G, hG⟩ : ∃ G, h3.alloc ⟨[.slice (some ⟨cg, co, none⟩) p.length cc, .slice none 0 0], true, false⟩ = G := ⟨_, rfl⟩
  have dG : Duo G h3.n (.slice (some ⟨cg, co, none⟩) p.length cc) (.slice none 0 0) := by rw [← hG]; exact Duo.new _ _ _
  have hleG : h3.le G := by rw [← hG]; exact GH.le_alloc _ _
  have hGn : G.n = h3.n + 1 := by rw [← hG]; rfl
  simp only [go_sem, Nat.reduceBEq, Nat.reduceAdd, Nat.reduceLeDiff, ↓reduceIte, alloc_store2s (h := h3) (a := .slice none 0 0) (b := .slice none 0 0) (v := .slice (some ⟨cg, co, none⟩) p.length cc) (w := .slice none 0 0) rfl rfl, hG]
  refine loopK_inv (α := Nat) (fun i => N.length - i) (fun i ts g' => ts 1 = .int .i64 m ∧ ts 2 = .pointer (some ⟨h.n, 0, none⟩) ∧ ts 4 = .pointer (some ⟨h.n + 1, 0, none⟩) ∧ ts 6 = fv ∧ ts 8 = .pointer (some ⟨h3.n, 0, none⟩) ∧ ts 9 = .int .i64 ((i + 1 : Nat) : Int) ∧ i ≤ N.length ∧ h3.le g' ∧ G.n ≤ g'.n ∧ ∃ v o, Duo g' h3.n (.slice (some ⟨cg, co, none⟩) p.length cc) v ∧ LsO G g' v ((modeL N m).take i) o) ?_ (a0 := 0) ?_
  · rintro i ts g' ⟨t1, t2, t4, t6, t8, t9, hi, hle', hGg, v, o', dv, hv⟩
    obtain ⟨vp, vc, rfl⟩ := hv.form
    have dA' := dA2.mono (hle3.trans hle')
    simp only [go_sem, Nat.reduceBEq, t2, t9, dA'.l1]
    refine ifK_intro (fun c3 => ?_) (fun c3 => ?_)
    · have c3' : i < N.length := by have := of_decide_eq_true c3; omega
      have wm : IntKind.i64.wrap ((m : Int) + ((i + 1 : Nat) : Int)) = ((m + (i + 1) : Nat) : Int) := by rw [wrap_i64 (by omega) (by omega)]; omega
      have wi : IntKind.i64.wrap (((i + 1 : Nat) : Int) + 1) = ((i + 1 + 1 : Nat) : Int) := wrap_i64 (by omega) (by omega)
      simp only [go_sem, Nat.reduceBEq, t1, t2, t9, dA'.l2, wm]
      refine callK_intro (c_note hP ((s.mono hle03).mono hle') hk (by omega) (by omega) ok.len ok.sml (ok.nsm (n := m + (i + 1)) (by omega)).2 (ok.nsm (by omega)).1) ?_
      rintro _ h6 ⟨hle6, nv, rfl, hnv⟩
      have dA6 := dA'.mono hle6
      simp only [go_sem, Nat.reduceBEq, Int.reduceNe, Array.reduceGetElem?, t2, t6, dA6.l0]
      refine callK_intro (c_Sub hP (((hp.mono hle03).mono hle').mono hle6) hnv (((hfv.mono hle3).mono hle').mono hle6) (ok.nl _) (ok.nl _) (ok.nsm (by omega)).1 (ok.nsm (by omega)).1 (ok.dif _ _ (by omega) (by omega))) ?_
      rintro _ h7 ⟨hle7, dv', rfl, hdv⟩
      have dv7 := (dv.mono hle6).mono hle7
      have hv7 := (hv.mono hle6).mono hle7
      have hsl : (modeL N m).take (i + 1) = (modeL N m).take i ++ [subL (noteL N (m + (i + 1))) (noteL N m)] := by
        rw [List.take_add_one, modeL, List.getElem?_map, List.getElem?_range c3']; rfl
      have hne7 : subL (noteL N (m + (i + 1))) (noteL N m) ≠ [] := by
        rw [← List.length_pos_iff, subL_length _ _ (by rw [ok.nl, ok.nl]), ok.nl]; omega
      obtain ⟨v', h8, o2, ap, hv8, hX8⟩ := hv7.app' (Nat.le_trans hGg (Nat.le_trans hle6.1 hle7.1)) (by rw [List.length_take, modeL_len]; omega) (hdv.n hne7 hv7.cells)
      obtain ⟨vp', vc', rfl⟩ := hv8.form
      obtain ⟨dg, do', dc, rfl, _⟩ := id hdv
      have ho7 := hv7.lt
      have dv8 := dv7.leX hX8 (fun e => by have := ho7 _ e.symm; omega)
      have st8 := dv8.s1 (v := .slice vp' ((modeL N m).take i ++ [subL (noteL N (m + (i + 1))) (noteL N m)]).length vc') rfl
      simp only [go_sem, Nat.reduceBEq, Nat.reduceLeDiff, Nat.reduceLT, Int.reduceNe, Array.reduceGetElem?, ↓reduceIte, t1, t2, t4, t6, t8, t9, dv7.l1, ap, st8, wi]
      have hle9 : h3.le (h8.upd h3.n ⟨[.slice (some ⟨cg, co, none⟩) p.length cc, .slice vp' ((modeL N m).take i ++ [subL (noteL N (m + (i + 1))) (noteL N m)]).length vc'], true, false⟩) :=
        (leX.le hX8 ((hle'.trans hle6).trans hle7) (fun g hg => by have := ho7 g hg; omega)).upd (Nat.le_refl _) _
      refine ⟨i + 1, by omega, rfl, by omega, hle9, ?_, _, o2, Duo.up dv8.lt, ?_⟩
      · show G.n ≤ h8.n
        have := hX8.1; have := hle6.1; have := hle7.1; omega
      · rw [hsl]
        exact hv8.up (fun x hx => ok.ne hP m (i + 1) x (by rw [hsl]; exact hx)) dv8.cells (by omega) _
    · have c3' : i = N.length := by have := of_decide_eq_false c3; omega
      subst c3'
      rw [show (modeL N m).take N.length = modeL N m from List.take_of_length_le (by rw [modeL_len]; exact Nat.le_refl _)] at hv dv
      have dB9 := (dB2.mono hle3).mono hle'
      have hst9 := dB9.s2 (v := .slice (some ⟨cg, co, none⟩) p.length cc) (w := .slice vp (modeL N m).length vc) rfl rfl
      have dd9 := Duo.up (v := .slice (some ⟨cg, co, none⟩) p.length cc) (w := .slice vp (modeL N m).length vc) dB9.lt
      simp only [go_sem, Nat.reduceBEq, Nat.reduceAdd, ↓reduceIte, t4, t8, dv.l2, hst9, dd9.l2]
      have hsn : modeL N m ≠ [] := by rw [← List.length_pos_iff, modeL_len]; exact hk
      refine ⟨(hle03.trans hle').upd (by omega) _, _, rfl, ?_⟩
      refine ScAt.upd ⟨_, _, rfl, hcv.mono hle', hv.ls hsn (by rw [modeL_len]; omega)⟩ dB9 hP.ne hsn (fun a ha => ok.ne hP m N.length a ?_)
      rw [List.take_of_length_le (by rw [modeL_len]; exact Nat.le_refl _)]
      exact ha
  · simp only [go_sem, Nat.reduceBEq]
    exact ⟨Nat.zero_le _, hleG, _, none, dG, LsO.nil _ _⟩
/-- Mode: the mode, or ErrRange -/
theorem c_Mode {h : GH} {sv : Value} {p : List Int} {N : List (List Rat)} (z : Int) (hP : Pr p) (s : ScAt h sv p N) (so : ScOk p N) (ok : MoOk p N) :
    ∃ r h', GCalls Tryz.prog gE 41 #[sv, .int .i64 z] h r h' ∧ h.le h' ∧
      (((z < 0 ∨ (N.length : Int) ≤ z) ∧ r = .tuple #[.agg #[.slice none 0 0, .slice none 0 0], .int .i64 3]) ∨ (0 ≤ z ∧ z < N.length ∧ ∃ tv, r = .tuple #[tv, .int .i64 0] ∧ ScAt h' tv p (modeL N z.toNat))) := by
  obtain ⟨g, o, c, g2, o2, c2, rfl, hp, hn⟩ := s.form
  have hpl := hP.len
  have hk := ok.pos
  have hk2 := ok.few
  obtain ⟨H, hH, d1, d2, hle0, hHn⟩ := Duo.two h (.slice (some ⟨g, o, none⟩) p.length c) (.slice (some ⟨g2, o2, none⟩) N.length c2) (.slice none 0 0) (.slice none 0 0)
  refine gcalls_in (pl := noPl) [.cell 4 36, .tmp 5] mixed Tryz.func41 rfl rfl (by exact ok41) ?_
  simp only [go_sem, Nat.reduceBEq, ↓reduceIte, hH, d1.l2]
  refine callK_intro (c_scCheck hP (s.mono hle0) so) ?_
  rintro _ h1 ⟨hle1, rfl⟩
  have dA := d1.mono hle1
  have dB := d2.mono hle1
  have hst := dB.s2 (v := .slice none 0 0) (w := .slice none 0 0) rfl rfl
  have dd := Duo.up (v := .slice none 0 0) (w := .slice none 0 0) dB.lt
  simp only [go_sem, Nat.reduceBEq, Int.reduceNe, Array.reduceGetElem?]
  refine ifK_intro (fun c1 => ?_) (fun c1 => ?_)
  · have c1' := of_decide_eq_true c1
    simp only [go_sem, Nat.reduceBEq, Nat.reduceAdd, Array.reduceGetElem?, ↓reduceIte, c1, hst, dd.l2]
    exact ⟨(hle0.trans hle1).upd (by omega) _, .inl (.inl c1')⟩
  · have c1' := of_decide_eq_false c1
    simp only [go_sem, Nat.reduceBEq, Array.reduceGetElem?, ↓reduceIte, c1, dA.l1]
    refine ifK_intro (fun c2 => ?_) (fun c2 => ?_)
    · have c2' := of_decide_eq_true c2
      simp only [go_sem, Nat.reduceBEq, Nat.reduceAdd, ↓reduceIte, c1, c2, hst, dd.l2]
      exact ⟨(hle0.trans hle1).upd (by omega) _, .inl (.inr c2')⟩
    · have c2' := of_decide_eq_false c2
      obtain ⟨n, rfl⟩ : ∃ n : Nat, z = n := ⟨z.toNat, by omega⟩
      simp only [go_sem, Nat.reduceBEq, c1, c2, dA.l2]
      refine callK_intro (c_mode hP ((s.mono hle0).mono hle1) ok (by omega)) ?_
      rintro _ h2 ⟨hle2, tv, rfl, ht⟩
      obtain ⟨s1, s2, s3, s4, s5, s6, rfl, _, _⟩ := ht.form
      have dB9 := dB.mono hle2
      have hst9 := dB9.s2 (v := .slice (some ⟨s1, s2, none⟩) p.length s3) (w := .slice (some ⟨s4, s5, none⟩) (modeL N n).length s6) rfl rfl
      have dd9 := Duo.up (v := .slice (some ⟨s1, s2, none⟩) p.length s3) (w := .slice (some ⟨s4, s5, none⟩) (modeL N n).length s6) dB9.lt
      simp only [go_sem, Nat.reduceBEq, Nat.reduceAdd, Array.reduceGetElem?, ↓reduceIte, hst9, dd9.l2]
      refine ⟨((hle0.trans hle1).trans hle2).upd (by omega) _, .inr ⟨by omega, _, rfl, ?_⟩⟩
      have hsn : modeL N n ≠ [] := by rw [← List.length_pos_iff, modeL_len]; exact hk
      exact ht.upd dB9 hP.ne hsn (fun a ha => ok.ne hP n N.length a (by rw [List.take_of_length_le (by rw [modeL_len]; exact Nat.le_refl _)]; exact ha))
theorem c_scSame {h : GH} {sv tv : Value} {p q : List Int} {L M : List (List Rat)} {pv qv lv mv : Value} (hp : PrAt h pv p) (hq : PrAt h qv q) (s : LsE h lv L) (t : LsE h mv M) (hs : sv = .agg #[pv, lv]) (ht : tv = .agg #[qv, mv]) (hpl : p.length ≤ 1000) (hlen : L.length ≤ 1000) (hL : ∀ l ∈ L, l.length ≤ 1000) :
    ∃ r h', GCalls Tryz.prog gE 88 #[sv, tv] h r h' ∧ h.le h' ∧ r = .bool (decide (p = q) && decide (L = M)) := by
  subst hs ht
  obtain ⟨pg, po, pc, rfl, hp'⟩ := id hp
  obtain ⟨qg, qo, qc, rfl, hq'⟩ := id hq
  obtain ⟨p3, c3, rfl, _⟩ := s.form
  obtain ⟨p4, c4, rfl, _⟩ := t.form
  obtain ⟨H, hH, d1, d2, hle, hHn⟩ := Duo.two h (.slice (some ⟨pg, po, none⟩) p.length pc) (.slice p3 L.length c3) (.slice (some ⟨qg, qo, none⟩) q.length qc) (.slice p4 M.length c4)
  refine gcalls_in (pl := noPl) [.tmp 4] mixed Tryz.func88 rfl rfl (by exact ok88) ?_
  simp only [go_sem, Nat.reduceBEq, ↓reduceIte, hH, d1.l0, d2.l0]
  refine callK_intro (c_eqPrimes (hp.mono hle) (hq.mono hle) hpl) ?_
  rintro _ h1 ⟨hle1, rfl⟩
  have d1' := d1.mono hle1
  have d2' := d2.mono hle1
  by_cases hpq : p = q
  · simp only [go_sem, Nat.reduceBEq, Array.reduceGetElem?, decide_eq_true hpq, d1'.l1, d2'.l1]
    refine callK_intro (c_eqLs ((s.mono hle).mono hle1) ((t.mono hle).mono hle1) hlen hL) ?_
    rintro _ h2 ⟨hle2, rfl⟩
    simp only [go_sem, Nat.reduceBEq, ↓reduceIte]
    exact ⟨(hle.trans hle1).trans hle2, by rw [decide_eq_true hpq, Bool.true_and]⟩
  · simp only [go_sem, Nat.reduceBEq, Array.reduceGetElem?, ↓reduceIte, decide_eq_false hpq]
    exact hle.trans hle1
theorem c_two {h : GH} {sv tv : Value} {p q : List Int} {N M : List (List Rat)} (hP : Pr p) (hQ : Pr q) (s : ScAt h sv p N) (t : ScAt h tv q M) (so : ScOk p N) (to : ScOk q M) :
    ∃ r h', GCalls Tryz.prog gE 87 #[sv, tv] h r h' ∧ h.le h' ∧ r = .int .i64 0 := by
  obtain ⟨g, o, c, g2, o2, c2, rfl, hp, hn⟩ := s.form
  obtain ⟨g3, o3, c3, g4, o4, c4, rfl, hq, hm⟩ := t.form
  obtain ⟨H, hH, d1, d2, hle0, hHn⟩ := Duo.two h (.slice (some ⟨g, o, none⟩) p.length c) (.slice (some ⟨g2, o2, none⟩) N.length c2) (.slice (some ⟨g3, o3, none⟩) q.length c3) (.slice (some ⟨g4, o4, none⟩) M.length c4)
  refine gcalls_in (pl := noPl) [.tmp 4] mixed Tryz.func87 rfl rfl (by exact ok87) ?_
  simp only [go_sem, Nat.reduceBEq, ↓reduceIte, hH, d1.l2]
  refine callK_intro (c_scCheck hP (s.mono hle0) so) ?_
  rintro _ h1 ⟨hle1, rfl⟩
  have dB := d2.mono hle1
  simp only [go_sem, Nat.reduceBEq, Int.reduceNe, dB.l2]
  refine callK_intro (c_scCheck hQ ((t.mono hle0).mono hle1) to) ?_
  rintro _ h2 ⟨hle2, rfl⟩
  simp only [go_sem]
  exact (hle0.trans hle1).trans hle2
theorem c_Same {h : GH} {sv tv : Value} {p q : List Int} {N M : List (List Rat)} (hP : Pr p) (hQ : Pr q) (s : ScAt h sv p N) (t : ScAt h tv q M) (so : ScOk p N) (to : ScOk q M) :
    ∃ r h', GCalls Tryz.prog gE 42 #[sv, tv] h r h' ∧ h.le h' ∧ r = .tuple #[.bool (decide (p = q) && decide (N = M)), .int .i64 0] := by
  obtain ⟨g, o, c, g2, o2, c2, rfl, hp, hn⟩ := s.form
  obtain ⟨g3, o3, c3, g4, o4, c4, rfl, hq, hm⟩ := t.form
  have hpl := hP.len
  obtain ⟨H, hH, d1, d2, hle0, hHn⟩ := Duo.two h (.slice (some ⟨g, o, none⟩) p.length c) (.slice (some ⟨g2, o2, none⟩) N.length c2) (.slice (some ⟨g3, o3, none⟩) q.length c3) (.slice (some ⟨g4, o4, none⟩) M.length c4)
  refine gcalls_in (pl := noPl) [.tmp 4, .tmp 5] mixed Tryz.func42 rfl rfl (by exact ok42) ?_
  simp only [go_sem, Nat.reduceBEq, ↓reduceIte, hH, d1.l2, d2.l2]
  refine callK_intro (c_two hP hQ (s.mono hle0) (t.mono hle0) so to) ?_
  rintro _ h1 ⟨hle1, rfl⟩
  have dA := d1.mono hle1
  have dB := d2.mono hle1
  have hle := hle0.trans hle1
  simp only [go_sem, Nat.reduceBEq, Int.reduceNe, dA.l2, dB.l2]
  refine callK_intro (c_scSame (hp.mono hle) (hq.mono hle) (.inl (hn.mono hle)) (.inl (hm.mono hle)) rfl rfl (by omega) (by have := so.few; omega) (fun l hl => by have := so.len l hl; omega)) ?_
  rintro _ h2 ⟨hle2, rfl⟩
  simp only [go_sem, Nat.reduceBEq]
  exact hle.trans hle2
end Go.Proofs.Gh
namespace Go.Proofs.Gh
open Go Go.Proofs Go.Proofs.Zz
set_option maxRecDepth 10000
set_option linter.unusedSimpArgs false
/-- the second scale is this mode of the first one -/
def IsMo (p q : List Int) (N M : List (List Rat)) (m : Nat) : Prop := p = q ∧ modeL N m = M
instance (p q : List Int) (N M : List (List Rat)) (m : Nat) : Decidable (IsMo p q N M m) := inferInstanceAs (Decidable (_ ∧ _))
theorem c_Rotation {h : GH} {sv tv : Value} {p q : List Int} {N M : List (List Rat)} (hP : Pr p) (hQ : Pr q) (s : ScAt h sv p N) (t : ScAt h tv q M) (so : ScOk p N) (to : ScOk q M) (ok : MoOk p N) :
    ∃ r h', GCalls Tryz.prog gE 43 #[sv, tv] h r h' ∧ h.le h' ∧
      ((∃ k : Nat, k < N.length ∧ IsMo p q N M k ∧ (∀ j, j < k → ¬ IsMo p q N M j) ∧ r = .tuple #[.int .i64 k, .bool true, .int .i64 0]) ∨ ((∀ j, j < N.length → ¬ IsMo p q N M j) ∧ r = .tuple #[.int .i64 0, .bool false, .int .i64 0])) := by
  obtain ⟨g, o, c, g2, o2, c2, rfl, hp, hn⟩ := s.form
  obtain ⟨g3, o3, c3, g4, o4, c4, rfl, hq, hm⟩ := t.form
  have hpl := hP.len
  have hk2 := ok.few
  obtain ⟨H, hH, d1, d2, hle0, hHn⟩ := Duo.two h (.slice (some ⟨g, o, none⟩) p.length c) (.slice (some ⟨g2, o2, none⟩) N.length c2) (.slice (some ⟨g3, o3, none⟩) q.length c3) (.slice (some ⟨g4, o4, none⟩) M.length c4)
  refine gcalls_in (pl := noPl) [.tmp 4, .tmp 5, .tmp 6] mixed Tryz.func43 rfl rfl (by exact ok43) ?_
  simp only [go_sem, Nat.reduceBEq, ↓reduceIte, hH, d1.l2, d2.l2]
  refine callK_intro (c_two hP hQ (s.mono hle0) (t.mono hle0) so to) ?_
  rintro _ h1 ⟨hle1, rfl⟩
  have dA := d1.mono hle1
  have dB := d2.mono hle1
  have hle := hle0.trans hle1
  simp only [go_sem, Nat.reduceBEq, Int.reduceNe, dA.l1]
  refine loopK_inv (α := Nat) (fun i => N.length - i) (fun i ts g' => ts 2 = .pointer (some ⟨h.n, 0, none⟩) ∧ ts 3 = .pointer (some ⟨h.n + 1, 0, none⟩) ∧ ts 19 = .int .i64 N.length ∧ ts 20 = .int .i64 i ∧ i ≤ N.length ∧ h1.le g' ∧ ∀ j, j < i → ¬ IsMo p q N M j) ?_ (a0 := 0) ?_
  · rintro i ts g' ⟨t2, t3, t19, t20, hi, hle', hno⟩
    simp only [go_sem, t19, t20]
    have dA' := dA.mono hle'
    refine ifK_intro (fun c5 => ?_) (fun c5 => ?_)
    · have c5' := of_decide_eq_true c5
      have wi : IntKind.i64.wrap ((i : Int) + 1) = ((i + 1 : Nat) : Int) := wrap_i64 (by omega) (by omega)
      simp only [go_sem, Nat.reduceBEq, t2, t20, dA'.l2]
      refine callK_intro (c_mode hP ((s.mono hle).mono hle') ok (by omega)) ?_
      rintro _ h2 ⟨hle2, xv, rfl, hx⟩
      obtain ⟨x1, x2, x3, x4, x5, x6, rfl, hx1, hx2⟩ := hx.form
      obtain ⟨G, hG⟩ : ∃ G, h2.alloc ⟨[.slice (some ⟨x1, x2, none⟩) p.length x3, .slice (some ⟨x4, x5, none⟩) (modeL N i).length x6], true, false⟩ = G := ⟨_, rfl⟩
      have dG : Duo G h2.n (.slice (some ⟨x1, x2, none⟩) p.length x3) (.slice (some ⟨x4, x5, none⟩) (modeL N i).length x6) := by rw [← hG]; exact Duo.new _ _ _
      have hleG : h2.le G := by rw [← hG]; exact GH.le_alloc _ _
      have dB' := ((dB.mono hle').mono hle2).mono hleG
      have hleA := ((hle.trans hle').trans hle2).trans hleG
      simp only [go_sem, Nat.reduceBEq, Nat.reduceAdd, Int.reduceNe, Array.reduceGetElem?, ↓reduceIte, t3, alloc_store2s (h := h2) (a := .slice none 0 0) (b := .slice none 0 0) (v := .slice (some ⟨x1, x2, none⟩) p.length x3) (w := .slice (some ⟨x4, x5, none⟩) (modeL N i).length x6) rfl rfl, hG, dG.l2, dB'.l2]
      refine callK_intro (c_scSame (hx1.mono hleG) (hq.mono hleA) (.inl (hx2.mono hleG)) (.inl (hm.mono hleA)) rfl rfl (by omega) (by rw [modeL_len]; omega) (fun l hl => ?_)) ?_
      · obtain ⟨j, _, rfl⟩ := List.mem_map.1 hl
        rw [subL_length _ _ (by rw [ok.nl, ok.nl]), ok.nl]
        omega
      rintro _ h3 ⟨hle3, rfl⟩
      by_cases hmo : IsMo p q N M i
      · have e1 : (decide (p = q) && decide (modeL N i = M)) = true := by rw [decide_eq_true hmo.1, decide_eq_true hmo.2]; rfl
        simp only [go_sem, Nat.reduceBEq, e1]
        exact ⟨hleA.trans hle3, .inl ⟨i, by omega, hmo, hno, rfl⟩⟩
      · have e1 : (decide (p = q) && decide (modeL N i = M)) = false := by
          rw [Bool.and_eq_false_iff, decide_eq_false_iff_not, decide_eq_false_iff_not]
          rcases Decidable.not_and_iff_or_not.1 hmo with h | h
          · exact .inl h
          · exact .inr h
        simp only [go_sem, Nat.reduceBEq, t2, t3, t19, t20, e1, wi]
        refine ⟨i + 1, by omega, rfl, by omega, ((hle'.trans hle2).trans hleG).trans hle3, fun j hj => ?_⟩
        rcases Nat.lt_or_ge j i with h | h
        · exact hno j h
        · obtain rfl : j = i := by omega
          exact hmo
    · have c5' := of_decide_eq_false c5
      obtain rfl : i = N.length := by omega
      simp only [go_sem, Nat.reduceBEq, c5]
      exact ⟨hle.trans hle', .inr hno⟩
  · simp only [go_sem, Nat.reduceBEq]
    exact ⟨Nat.zero_le _, GH.le.refl _, fun j hj => absurd hj (Nat.not_lt_zero _)⟩
end Go.Proofs.Gh
namespace Go.Proofs.Gh
open Go Go.Proofs Go.Proofs.Zz
set_option maxRecDepth 10000
set_option linter.unusedSimpArgs false
theorem c_lMode {h : GH} {sv : Value} {p : List Int} {N : List (List Rat)} {m : Nat} (hP : Pr p) (s : ScAt h sv p N) (ok : MoOk p N) (hm : m ≤ N.length) :
    ∃ r h', GCalls Tryz.prog gE 44 #[sv, .int .i64 m] h r h' ∧ h.le h' ∧ ScAt h' r p (modeL N m) := by
  obtain ⟨g, o, c, g2, o2, c2, rfl, hp, hn⟩ := s.form
  have hpl := hP.len
  have hk := ok.pos
  have hk2 := ok.few
  obtain ⟨H, hH, d1, d2, hle0, hHn⟩ := Duo.two h (.slice (some ⟨g, o, none⟩) p.length c) (.slice (some ⟨g2, o2, none⟩) N.length c2) (.slice none 0 0) (.slice none 0 0)
  obtain ⟨G, hG⟩ : ∃ G, H.alloc ⟨[.slice (some ⟨g, o, none⟩) p.length c, .slice none 0 0], true, false⟩ = G := ⟨_, rfl⟩
  have dG : Duo G H.n (.slice (some ⟨g, o, none⟩) p.length c) (.slice none 0 0) := by rw [← hG]; exact Duo.new _ _ _
  have hleG : H.le G := by rw [← hG]; exact GH.le_alloc _ _
  have hGn : G.n = H.n + 1 := by rw [← hG]; rfl
  have hst0 := alloc_store2s (h := H) (a := .slice none 0 0) (b := .slice none 0 0) (v := .slice (some ⟨g, o, none⟩) p.length c) (w := .slice none 0 0) rfl rfl
  rw [hHn] at dG hst0
  refine gcalls_in (pl := pl44) [.cell 4 36] mixed Tryz.func44 rfl rfl (by exact ok44) ?_
  simp only [go_sem, Nat.reduceBEq, Nat.reduceAdd, Nat.reduceLeDiff, ↓reduceIte, hH, d1.l0, hst0, hG, hHn]
  refine loopK_inv (α := Nat) (fun i => N.length - i) (fun i ts g' => ts 1 = .int .i64 m ∧ ts 2 = .pointer (some ⟨h.n, 0, none⟩) ∧ ts 4 = .pointer (some ⟨h.n + 1, 0, none⟩) ∧ ts 5 = .pointer (some ⟨h.n + 2, 0, none⟩) ∧ ts 6 = .int .i64 ((i + 1 : Nat) : Int) ∧ i ≤ N.length ∧ H.le g' ∧ G.n ≤ g'.n ∧ ∃ v o', Duo g' (h.n + 2) (.slice (some ⟨g, o, none⟩) p.length c) v ∧ LsO G g' v ((modeL N m).take i) o') ?_ (a0 := 0) ?_
  · rintro i ts g' ⟨t1, t2, t4, t5, t6, hi, hle', hGg, v, o', dv, hv⟩
    obtain ⟨vp, vc, rfl⟩ := hv.form
    have dA' := d1.mono hle'
    simp only [go_sem, Nat.reduceBEq, t2, t6, dA'.l1]
    refine ifK_intro (fun c3 => ?_) (fun c3 => ?_)
    · have c3' : i < N.length := by have := of_decide_eq_true c3; omega
      have wm : IntKind.i64.wrap ((m : Int) + ((i + 1 : Nat) : Int)) = ((m + (i + 1) : Nat) : Int) := by rw [wrap_i64 (by omega) (by omega)]; omega
      have wi : IntKind.i64.wrap (((i + 1 : Nat) : Int) + 1) = ((i + 1 + 1 : Nat) : Int) := wrap_i64 (by omega) (by omega)
      have hs' := (s.mono hle0).mono hle'
      simp only [go_sem, Nat.reduceBEq, Array.reduceGetElem?, t1, t2, t5, t6, dA'.l2, dv.l1, wm, pl44]
      refine callK_intro (c_lNote hs' hk (by omega) (by omega) ⟨by omega, by omega⟩ ok.len ok.sm (ok.qt (n := m + (i + 1)) (by omega)) (ok.nt _ (by omega)).2 (ok.nsm (by omega)).1) ?_
      rintro nv h6 ⟨hle6, hnv⟩
      have dA6 := dA'.mono hle6
      have dv6 := dv.mono hle6
      obtain ⟨_, _, _, rfl, _⟩ := id hnv
      simp only [go_sem, Nat.reduceBEq, Array.reduceGetElem?, t2, dA6.l2, dv6.l1]
      refine callK_intro (c_lNote (hs'.mono hle6) hk (by omega) (by omega) ⟨by omega, by omega⟩ ok.len ok.sm (ok.qt (n := m) (by omega)) (ok.nt _ (by omega)).2 (ok.nsm (by omega)).1) ?_
      rintro fv h7 ⟨hle7, hfv⟩
      have dA7 := dA6.mono hle7
      have dv7 := dv6.mono hle7
      obtain ⟨_, _, _, rfl, _⟩ := id hfv
      simp only [go_sem, Nat.reduceBEq, Array.reduceGetElem?, dv7.l1]
      refine callK_intro (c_less (hnv.at.mono hle7) hfv.at (by rw [← List.length_pos_iff, ok.nl]; omega) (by rw [ok.nl]; omega) (by rw [ok.nl, ok.nl]) (ok.nt _ (by omega)).1 (ok.nt _ (by omega)).1 (ok.dif _ _ (by omega) (by omega))) ?_
      rintro dv' h8 ⟨hle8, hdv⟩
      have dv8 := dv7.mono hle8
      have dA8 := dA7.mono hle8
      have hv8 := ((hv.mono hle6).mono hle7).mono hle8
      have hsl : (modeL N m).take (i + 1) = (modeL N m).take i ++ [subL (noteL N (m + (i + 1))) (noteL N m)] := by
        rw [List.take_add_one, modeL, List.getElem?_map, List.getElem?_range c3']; rfl
      obtain ⟨_, _, _, rfl, _⟩ := id hdv
      obtain ⟨v', h9, o2, ap, hv9, hX9⟩ := hv8.app' (Nat.le_trans hGg (Nat.le_trans hle6.1 (Nat.le_trans hle7.1 hle8.1))) (by rw [List.length_take, modeL_len]; omega) (hdv.n fun k hk => Nat.lt_of_lt_of_le (hv.lt k hk).2 (Nat.le_trans hle6.1 hle7.1))
      obtain ⟨vp', vc', rfl⟩ := hv9.form
      have ho7 := hv8.lt
      have dv9 := dv8.leX hX9 (fun e => by have := ho7 _ e.symm; omega)
      have st9 := dv9.s1 (v := .slice vp' ((modeL N m).take i ++ [subL (noteL N (m + (i + 1))) (noteL N m)]).length vc') rfl
      simp only [go_sem, Nat.reduceBEq, Nat.reduceLeDiff, Nat.reduceLT, Array.reduceGetElem?, ↓reduceIte, t1, t2, t4, t5, t6, dv8.l1, ap, st9, wi]
      have hleF : H.le (h9.upd (h.n + 2) ⟨[.slice (some ⟨g, o, none⟩) p.length c, .slice vp' ((modeL N m).take i ++ [subL (noteL N (m + (i + 1))) (noteL N m)]).length vc'], true, false⟩) :=
        (leX.le hX9 (((hle'.trans hle6).trans hle7).trans hle8) (fun g hg => by have := ho7 g hg; omega)).upd (by omega) _
      refine ⟨i + 1, by omega, rfl, by omega, hleF, ?_, _, o2, Duo.up dv9.lt, ?_⟩
      · show G.n ≤ h9.n
        have := hX9.1; have := hle6.1; have := hle7.1; have := hle8.1; omega
      · rw [hsl]
        exact hv9.up (fun x hx => ok.ne hP m (i + 1) x (by rw [hsl]; exact hx)) dv9.cells (by omega) _
    · have c3' : i = N.length := by have := of_decide_eq_false c3; omega
      subst c3'
      rw [show (modeL N m).take N.length = modeL N m from List.take_of_length_le (by rw [modeL_len]; exact Nat.le_refl _)] at hv dv
      have dB9 := d2.mono hle'
      have hst9 := dB9.s2 (v := .slice (some ⟨g, o, none⟩) p.length c) (w := .slice vp (modeL N m).length vc) rfl rfl
      have dd9 := Duo.up (v := .slice (some ⟨g, o, none⟩) p.length c) (w := .slice vp (modeL N m).length vc) dB9.lt
      simp only [go_sem, Nat.reduceBEq, Nat.reduceAdd, ↓reduceIte, t4, t5, c3, dv.l2, hst9, dd9.l2]
      have hsn : modeL N m ≠ [] := by rw [← List.length_pos_iff, modeL_len]; exact hk
      refine ⟨(hle0.trans hle').upd (by omega) _, ?_⟩
      refine ScAt.upd ⟨_, _, rfl, (hp.mono hle0).mono hle', hv.ls hsn (by rw [modeL_len]; omega)⟩ dB9 hP.ne hsn (fun a ha => ok.ne hP m N.length a ?_)
      rw [List.take_of_length_le (by rw [modeL_len]; exact Nat.le_refl _)]
      exact ha
  · simp only [go_sem, Nat.reduceBEq]
    exact ⟨Nat.zero_le _, hleG, _, none, dG, LsO.nil _ _⟩
end Go.Proofs.Gh
namespace Go.Proofs.Gh
open Go Go.Proofs Go.Proofs.Zz
set_option maxRecDepth 10000
set_option linter.unusedSimpArgs false
theorem c_lawModes {h : GH} {b b' : Bool} {kd nm kd' nm' : Nat} {xs xs' : List Int} {z : Int} (hw : WOk kd nm xs) (hw' : WOk kd' nm' xs') :
    ∃ r h', GCalls Tryz.prog gE 8 #[wV b kd nm xs, wV b' kd' nm' xs', .int .i64 z] h r h' ∧ h.le h' ∧ r = .bool true := by
  have hcl := wCells_length (b := b) (kd := kd) (nm := nm) hw.len
  have hcl' := wCells_length (b := b') (kd := kd') (nm := nm') hw'.len
  obtain ⟨H0, hH0⟩ : ∃ H, h.alloc ⟨wCells b kd nm xs, true, false⟩ = H := ⟨_, rfl⟩
  obtain ⟨H, hH⟩ : ∃ H, H0.alloc ⟨wCells b' kd' nm' xs', true, false⟩ = H := ⟨_, rfl⟩
  have hH0n : H0.n = h.n + 1 := by rw [← hH0]; rfl
  have hle00 : h.le H0 := by rw [← hH0]; exact GH.le_alloc _ _
  have hle01 : H0.le H := by rw [← hH]; exact GH.le_alloc _ _
  have hle0 := hle00.trans hle01
  have hwl : ∀ {h'}, H.le h' → h'.load h.n 0 27 = some (wCells b kd nm xs) := fun hl => world_load hw.len (by rw [hH0]; exact hle01.trans hl)
  have hwl' : ∀ {h'}, H.le h' → h'.load (h.n + 1) 0 27 = some (wCells b' kd' nm' xs') := fun hl => by
    rw [← hH0n]
    exact world_load hw'.len (by rw [hH]; exact hl)
  refine gcalls_in (pl := pl8) [.tmp 6] mixed Tryz.func8 rfl rfl (by exact ok8) ?_
  simp only [go_sem, Nat.reduceBEq, ↓reduceIte, wV, wCells_one, hH0, hH, hH0n]
  refine callK_intro (c_known) ?_
  rintro _ h1 ⟨hle1, rfl⟩
  have w1 := hwl hle1
  have w1' := hwl' hle1
  simp only [go_sem, Nat.reduceBEq, Array.reduceGetElem?, w1, w1', pl8]
  obtain ⟨K, hK, dz1, dz2, hleK, hKn⟩ := Duo.two h1 (.slice none 0 0) (.slice none 0 0) (.slice none 0 0) (.slice none 0 0)
  rw [hK]
  refine callK_intro (c_Make' hw.kd hw.nm hw.len hw.bd) ?_
  rintro sv h2 ⟨hle2, N, D, L, F, sc, _, hs⟩
  have w2 := hwl ((hle1.trans hleK).trans hle2)
  have w2' := hwl' ((hle1.trans hleK).trans hle2)
  obtain ⟨g, o, c, g2, o2, c2, rfl, hp, hn⟩ := hs.form
  simp only [go_sem, Nat.reduceBEq, Array.reduceGetElem?, w2']
  refine callK_intro (c_Make' hw'.kd hw'.nm hw'.len hw'.bd) ?_
  rintro tv h3 ⟨hle3, M, D', L', F', sc', _, ht⟩
  obtain ⟨g3, o3, c3, g4, o4, c4, rfl, hq, hm⟩ := ht.form
  have w3 := hwl (((hle1.trans hleK).trans hle2).trans hle3)
  have w3' := hwl' (((hle1.trans hleK).trans hle2).trans hle3)
  simp only [go_sem, Nat.reduceBEq, Nat.reduceAdd, Array.reduceGetElem?, ↓reduceIte]
  have hP := prW_pr b
  have hQ := prW_pr b'
  have hpl := hP.len
  have hql := hQ.len
  have so := sc.scOk hP F
  have to := sc'.scOk hQ F'
  have ok := sc.mo hP F
  have ok' := sc'.mo hQ F'
  have hk := sc.len
  have hk' := sc'.len
  have ne1 : N ≠ [] := by rw [← List.length_pos_iff]; exact hk.1
  have ne2 : M ≠ [] := by rw [← List.length_pos_iff]; exact hk'.1
  have el1 : ∀ a ∈ N, a ≠ [] := fun a ha => by rw [← List.length_pos_iff, ok.len a ha]; omega
  have el2 : ∀ a ∈ M, a ≠ [] := fun a ha => by rw [← List.length_pos_iff, ok'.len a ha]; omega
  have z1 := (dz1.mono hle2).mono hle3
  have st1 := z1.s2 (v := .slice (some ⟨g, o, none⟩) (prW b).length c) (w := .slice (some ⟨g2, o2, none⟩) N.length c2) rfl rfl
  obtain ⟨h4, hh4⟩ : ∃ h4, h3.upd h1.n ⟨[.slice (some ⟨g, o, none⟩) (prW b).length c, .slice (some ⟨g2, o2, none⟩) N.length c2], true, false⟩ = h4 := ⟨_, rfl⟩
  have dS4 : Duo h4 h1.n (.slice (some ⟨g, o, none⟩) (prW b).length c) (.slice (some ⟨g2, o2, none⟩) N.length c2) := by rw [← hh4]; exact Duo.up z1.lt
  have z2 : Duo h4 (h1.n + 1) (.slice none 0 0) (.slice none 0 0) := by rw [← hh4]; exact ((dz2.mono hle2).mono hle3).up_ne (by omega)
  have st2 := z2.s2 (v := .slice (some ⟨g3, o3, none⟩) (prW b').length c3) (w := .slice (some ⟨g4, o4, none⟩) M.length c4) rfl rfl
  obtain ⟨h5, hh5⟩ : ∃ h5, h4.upd (h1.n + 1) ⟨[.slice (some ⟨g3, o3, none⟩) (prW b').length c3, .slice (some ⟨g4, o4, none⟩) M.length c4], true, false⟩ = h5 := ⟨_, rfl⟩
  have dS : Duo h5 h1.n (.slice (some ⟨g, o, none⟩) (prW b).length c) (.slice (some ⟨g2, o2, none⟩) N.length c2) := by rw [← hh5]; exact dS4.up_ne (by omega)
  have dT : Duo h5 (h1.n + 1) (.slice (some ⟨g3, o3, none⟩) (prW b').length c3) (.slice (some ⟨g4, o4, none⟩) M.length c4) := by rw [← hh5]; exact Duo.up z2.lt
  have hle15 : h1.le h5 := by
    rw [← hh5, ← hh4]
    exact (((hleK.trans hle2).trans hle3).upd (Nat.le_refl _) _).upd (by omega) _
  have hs5 : ScAt h5 (.agg #[.slice (some ⟨g, o, none⟩) (prW b).length c, .slice (some ⟨g2, o2, none⟩) N.length c2]) (prW b) N := by
    rw [← hh5]
    refine ScAt.upd ?_ z2 hP.ne ne1 el1
    rw [← hh4]
    exact ScAt.upd (hs.mono hle3) z1 hP.ne ne1 el1
  have ht5 : ScAt h5 (.agg #[.slice (some ⟨g3, o3, none⟩) (prW b').length c3, .slice (some ⟨g4, o4, none⟩) M.length c4]) (prW b') M := by
    rw [← hh5]
    refine ScAt.upd ?_ z2 hQ.ne ne2 el2
    rw [← hh4]
    exact ScAt.upd ht z1 hQ.ne ne2 el2
  have hleA := hle0.trans (hle1.trans hle15)
  have w5 := hwl (hle1.trans hle15)
  have w5' := hwl' (hle1.trans hle15)
  simp only [go_sem, Nat.reduceBEq, Nat.reduceAdd, Array.reduceGetElem?, ↓reduceIte, st1, hh4, st2, hh5, dS.l2]
  refine callK_intro (c_Mode z hP hs5 so ok) ?_
  rintro rr h6 ⟨hle6, hr⟩
  obtain ⟨p1, n1, q1, p2, n2, q2, e, rfl, hr'⟩ : ∃ p1 n1 q1 p2 n2 q2 e, rr = .tuple #[.agg #[.slice p1 n1 q1, .slice p2 n2 q2], .int .i64 e] ∧ (((z < 0 ∨ (N.length : Int) ≤ z) ∧ e = 3 ∧ n2 = 0) ∨ (0 ≤ z ∧ z < N.length ∧ e = 0 ∧ ScAt h6 (.agg #[.slice p1 n1 q1, .slice p2 n2 q2]) (prW b) (modeL N z.toNat))) := by
    rcases hr with ⟨e1, rfl⟩ | ⟨e1, e2, tv, rfl, ht⟩
    · exact ⟨_, _, _, _, _, _, _, rfl, .inl ⟨e1, rfl, rfl⟩⟩
    · obtain ⟨a1, a2, a3, a4, a5, a6, rfl, _, _⟩ := ht.form
      exact ⟨_, _, _, _, _, _, _, rfl, .inr ⟨e1, e2, rfl, ht⟩⟩
  obtain ⟨G, hG⟩ : ∃ G, h6.alloc ⟨[.slice p1 n1 q1, .slice p2 n2 q2], true, false⟩ = G := ⟨_, rfl⟩
  have dX : Duo G h6.n (.slice p1 n1 q1) (.slice p2 n2 q2) := by rw [← hG]; exact Duo.new _ _ _
  have hleG : h6.le G := by rw [← hG]; exact GH.le_alloc _ _
  have hle5G := hle6.trans hleG
  have dSG := dS.mono hle5G
  have dTG := dT.mono hle5G
  simp only [go_sem, Nat.reduceBEq, Nat.reduceAdd, Array.reduceGetElem?, ↓reduceIte, alloc_store2s (h := h6) (a := .slice none 0 0) (b := .slice none 0 0) (v := .slice p1 n1 q1) (w := .slice p2 n2 q2) rfl rfl, hG, dSG.l2, dTG.l2]
  refine callK_intro (c_Same hP hQ (hs5.mono hle5G) (ht5.mono hle5G) so to) ?_
  rintro _ h7 ⟨hle7, rfl⟩
  have hle57 := hle5G.trans hle7
  have dS7 := dS.mono hle57
  have dT7 := dT.mono hle57
  simp only [go_sem, Nat.reduceBEq, Array.reduceGetElem?, dS7.l2, dT7.l2]
  refine callK_intro (c_Rotation hP hQ (hs5.mono hle57) (ht5.mono hle57) so to ok) ?_
  rintro rr h8 ⟨hle8, hr8⟩
  obtain ⟨k, f, rfl, hk8⟩ : ∃ (k : Nat) (f : Bool), rr = .tuple #[.int .i64 k, .bool f, .int .i64 0] ∧ ((f = true ∧ k < N.length ∧ IsMo (prW b) (prW b') N M k ∧ ∀ j, j < k → ¬ IsMo (prW b) (prW b') N M j) ∨ (f = false ∧ k = 0 ∧ ∀ j, j < N.length → ¬ IsMo (prW b) (prW b') N M j)) := by
    rcases hr8 with ⟨k, e1, e2, e3, rfl⟩ | ⟨e1, rfl⟩
    · exact ⟨k, true, rfl, .inl ⟨rfl, e1, e2, e3⟩⟩
    · exact ⟨0, false, rfl, .inr ⟨rfl, rfl, e1⟩⟩
  have hle58 := hle57.trans hle8
  have dS8 := dS.mono hle58
  have dT8 := dT.mono hle58
  simp only [go_sem, Nat.reduceBEq, Int.reduceNe, Array.reduceGetElem?, ↓reduceIte, dS8.l2, dT8.l2]
  have hpq : ∀ {h'}, h5.le h' → PrAt h' (.slice (some ⟨g, o, none⟩) (prW b).length c) (prW b) ∧ LsAt h' (.slice (some ⟨g2, o2, none⟩) N.length c2) N ∧ PrAt h' (.slice (some ⟨g3, o3, none⟩) (prW b').length c3) (prW b') ∧ LsAt h' (.slice (some ⟨g4, o4, none⟩) M.length c4) M := by
    intro h' hl
    obtain ⟨u1, u2, eu, a1, a2⟩ := hs5.mono hl
    obtain ⟨u3, u4, eu', a3, a4⟩ := ht5.mono hl
    injection eu with eu
    injection eu' with eu'
    simp only [Array.mk.injEq, List.cons.injEq, and_true] at eu eu'
    obtain ⟨rfl, rfl⟩ := eu
    obtain ⟨rfl, rfl⟩ := eu'
    exact ⟨a1, a2, a3, a4⟩
  have q8 := hpq hle58
  refine callK_intro (c_same q8.1 q8.2.2.1 (.inl q8.2.1) (.inl q8.2.2.2) rfl rfl (by omega) (by omega) (fun l hl => by rw [ok.len l hl]; omega)) ?_
  rintro _ h9 ⟨hle9, rfl⟩
  have hle59 := hle58.trans hle9
  have dS9 := dS.mono hle59
  have dT9 := dT.mono hle59
  simp only [go_sem, Nat.reduceBEq, Int.reduceNeg, Array.reduceGetElem?, ↓reduceIte]
  have wl : IntKind.i64.wrap ((N.length : Int) - 1) = ((N.length : Nat) : Int) - 1 := wrap_i64 (by omega) (by omega)
  simp only [go_sem, Int.reduceNeg, dS9.l1, wl]
  refine loopK_inv (α := Nat) (fun j => j) (fun j ts g' => ts 2 = .int .i64 z ∧ ts 7 = .pointer (some ⟨h1.n, 0, none⟩) ∧ ts 8 = .pointer (some ⟨h1.n + 1, 0, none⟩) ∧ ts 9 = .pointer (some ⟨h6.n, 0, none⟩) ∧ ts 10 = .int .i64 e ∧ ts 13 = .int .i64 k ∧ ts 14 = .bool f ∧ ts 17 = .int .i64 ((j : Int) - 1) ∧ j ≤ N.length ∧ h9.le g' ∧ ∃ a : Int, ts 16 = .int .i64 a ∧ ((a = -1 ∧ ∀ i, j ≤ i → i < N.length → ¬ IsMo (prW b) (prW b') N M i) ∨ ∃ i0 : Nat, a = i0 ∧ j ≤ i0 ∧ i0 < N.length ∧ IsMo (prW b) (prW b') N M i0 ∧ ∀ i, j ≤ i → i < i0 → ¬ IsMo (prW b) (prW b') N M i)) ?_ (a0 := N.length) ?_
  · rintro j ts g' ⟨t2, t7, t8, t9, t10, t13, t14, t17, hj, hle', a, t16, ha⟩
    have hle5' := hle59.trans hle'
    have dS' := dS.mono hle5'
    have dT' := dT.mono hle5'
    simp only [go_sem, t17]
    refine ifK_intro (fun c5 => ?_) (fun c5 => ?_)
    · have c5' : 0 ≤ (j : Int) - 1 := of_decide_eq_true c5
      obtain ⟨i, rfl⟩ : ∃ i, j = i + 1 := ⟨j - 1, by omega⟩
      have e1 : (((i + 1 : Nat) : Int) - 1) = ((i : Nat) : Int) := by omega
      rw [e1] at t17
      have wi : IntKind.i64.wrap ((i : Int) - 1) = (i : Int) - 1 := wrap_i64 (by omega) (by omega)
      simp only [go_sem, Nat.reduceBEq, Array.reduceGetElem?, t7, t8, t17, e1, dS'.l2, dT'.l2, pl8]
      refine callK_intro (c_lMode hP (hs5.mono hle5') ok (by omega)) ?_
      rintro xv ha1 ⟨hlea, hx⟩
      obtain ⟨x1, x2, x3, x4, x5, x6, rfl, hx1, hx2⟩ := hx.form
      have hle5a := hle5'.trans hlea
      have dSa := dS.mono hle5a
      have dTa := dT.mono hle5a
      have qa := hpq hle5a
      simp only [go_sem, Nat.reduceBEq, Array.reduceGetElem?, t8, e1, dTa.l2]
      refine callK_intro (c_same hx1 qa.2.2.1 (.inl hx2) (.inl qa.2.2.2) rfl rfl (by omega) (by rw [modeL_len]; omega) (fun l hl => ?_)) ?_
      · obtain ⟨u, _, rfl⟩ := List.mem_map.1 hl
        rw [subL_length _ _ (by rw [ok.nl, ok.nl]), ok.nl]
        omega
      rintro _ hb1 ⟨hleb, rfl⟩
      have dSb := dS.mono (hle5a.trans hleb)
      have dTb := dT.mono (hle5a.trans hleb)
      by_cases hmo : IsMo (prW b) (prW b') N M i
      · have e2 : (decide (prW b = prW b') && decide (modeL N i = M)) = true := by rw [decide_eq_true hmo.1, decide_eq_true hmo.2]; rfl
        simp only [go_sem, Nat.reduceBEq, Int.reduceNeg, t2, t7, t8, t9, t10, t13, t14, t17, e2, wi]
        exact ⟨i, by omega, rfl, by omega, (hle'.trans hlea).trans hleb, i, rfl, .inr ⟨i, rfl, Nat.le_refl _, by omega, hmo, fun u h1 h2 => by omega⟩⟩
      · have e2 : (decide (prW b = prW b') && decide (modeL N i = M)) = false := by
          rw [Bool.and_eq_false_iff, decide_eq_false_iff_not, decide_eq_false_iff_not]
          rcases Decidable.not_and_iff_or_not.1 hmo with h | h
          · exact .inl h
          · exact .inr h
        simp only [go_sem, Nat.reduceBEq, Int.reduceNeg, t2, t7, t8, t9, t10, t13, t14, t16, t17, e2, wi]
        refine ⟨i, by omega, rfl, by omega, (hle'.trans hlea).trans hleb, a, rfl, ?_⟩
        rcases ha with ⟨a1, a2⟩ | ⟨i0, a1, a2, a3, a4, a5⟩
        · refine .inl ⟨a1, fun u h1 h2 => ?_⟩
          rcases Nat.lt_or_ge i u with h | h
          · exact a2 u h h2
          · obtain rfl : u = i := by omega
            exact hmo
        · refine .inr ⟨i0, a1, by omega, a3, a4, fun u h1 h2 => ?_⟩
          rcases Nat.lt_or_ge i u with h | h
          · exact a5 u h h2
          · obtain rfl : u = i := by omega
            exact hmo
    · have c5' : ¬ 0 ≤ (j : Int) - 1 := of_decide_eq_false c5
      obtain rfl : j = 0 := by omega
      simp only [go_sem, Nat.reduceBEq, Int.reduceSub, Int.reduceNeg, Int.reduceLE, Array.reduceGetElem?, ↓reduceIte, t14, t16]
      have key : decide (0 ≤ a) = f ∧ (if a < 0 then 0 else a) = (k : Int) := by
        rcases hk8 with ⟨rfl, k1, k2, k3⟩ | ⟨rfl, rfl, k1⟩
        · rcases ha with ⟨a1, a2⟩ | ⟨i0, a1, a2, a3, a4, a5⟩
          · exact absurd k2 (a2 k (Nat.zero_le _) k1)
          · have : i0 = k := by
              rcases Nat.lt_trichotomy i0 k with h | h | h
              · exact absurd a4 (k3 i0 h)
              · exact h
              · exact absurd k2 (a5 k (Nat.zero_le _) h)
            subst this
            exact ⟨decide_eq_true (by omega), by rw [if_neg (by omega), a1]⟩
        · rcases ha with ⟨a1, a2⟩ | ⟨i0, a1, a2, a3, a4, a5⟩
          · exact ⟨decide_eq_false (by omega), by rw [if_pos (by omega)]; rfl⟩
          · exact absurd a4 (k1 i0 a3)
      rw [key.1]
      have hle5' := hle59.trans hle'
      have hle05 := hleA.trans hle5'
      have dS' := dS.mono hle5'
      have dX' := dX.mono (((hle7.trans hle8).trans hle9).trans hle')
      have kk : decide ((k : Int) ≠ (k : Int)) = false := by simp
      simp only [go_sem, Nat.reduceBEq, Int.reduceSub, Int.reduceNeg, Int.reduceLE, Array.reduceGetElem?, ↓reduceIte, t2, t13, t16, key.2, kk]
      refine ifK_intro (fun c6 => ?_) (fun c6 => ?_)
      · have c6' := of_decide_eq_true c6
        rcases hr' with ⟨_, rfl, rfl⟩ | ⟨r1, _⟩
        · simp only [go_sem, Nat.reduceBEq, Int.reduceSub, Int.reduceNeg, Int.reduceLE, Array.reduceGetElem?, ↓reduceIte, t9, t10, c6, dX'.l1]
          exact hle05
        · omega
      · have c6' := of_decide_eq_false c6
        simp only [go_sem, Nat.reduceBEq, Int.reduceSub, Int.reduceNeg, Int.reduceLE, Array.reduceGetElem?, ↓reduceIte, t2, t7, c6, dS'.l1]
        refine ifK_intro (fun c7 => ?_) (fun c7 => ?_)
        · have c7' := of_decide_eq_true c7
          rcases hr' with ⟨_, rfl, rfl⟩ | ⟨_, r1, _⟩
          · simp only [go_sem, Nat.reduceBEq, Int.reduceSub, Int.reduceNeg, Int.reduceLE, Array.reduceGetElem?, ↓reduceIte, t9, t10, c6, c7, dX'.l1]
            exact hle05
          · omega
        · have c7' := of_decide_eq_false c7
          rcases hr' with ⟨r1, _⟩ | ⟨r1, r2, rfl, r3⟩
          · omega
          obtain ⟨n, rfl⟩ : ∃ n : Nat, z = n := ⟨z.toNat, by omega⟩
          have r4 := (r3.mono hleG).mono (((hle7.trans hle8).trans hle9).trans hle')
          simp only [go_sem, Nat.reduceBEq, Int.reduceSub, Int.reduceNeg, Int.reduceLE, Array.reduceGetElem?, t2, t7, t9, t10, c6, c7, dX'.l2, dS'.l2, pl8]
          refine callK_intro (c_lMode hP (hs5.mono hle5') ok (by omega)) ?_
          rintro xv ha1 ⟨hlea, hx⟩
          obtain ⟨x1, x2, x3, x4, x5, x6, rfl, hx1, hx2⟩ := hx.form
          have r5 := r4.mono hlea
          have dXa := dX'.mono hlea
          obtain ⟨u1, u2, eu, hu1, hu2⟩ := id r5
          injection eu with eu
          simp only [Array.mk.injEq, List.cons.injEq, and_true] at eu
          obtain ⟨rfl, rfl⟩ := eu
          simp only [go_sem, Nat.reduceBEq, Int.reduceSub, Int.reduceNeg, Int.reduceLE, Array.reduceGetElem?, t9, dXa.l2]
          refine callK_intro (c_same hu1 hx1 (.inl hu2) (.inl hx2) rfl rfl (by omega) (by rw [modeL_len]; omega) (fun l hl => ?_)) ?_
          · obtain ⟨u, _, rfl⟩ := List.mem_map.1 hl
            rw [subL_length _ _ (by rw [ok.nl, ok.nl]), ok.nl]
            omega
          rintro _ hb1 ⟨hleb, rfl⟩
          simp only [go_sem, Nat.reduceBEq, Int.reduceSub, Int.reduceNeg, Int.reduceLE, Array.reduceGetElem?, ↓reduceIte]
          exact (hle05.trans hlea).trans hleb
  · simp only [go_sem, Nat.reduceBEq, Int.reduceNeg]
    exact ⟨GH.le.refl _, -1, rfl, .inl ⟨rfl, fun i h1 h2 => by omega⟩⟩
end Go.Proofs.Gh
namespace Go.Proofs.Gh
open Go Go.Proofs Go.Proofs.Zz
set_option maxRecDepth 10000
set_option linter.unusedSimpArgs false
/-! pdqsort of up to 17 sizes: the parts -/
/-- what the order must be: all pairs of the list may be compared -/
structure CmpOk (H0 : GH) (K : Nat) (cv : Value) (cmp : List Rat → List Rat → Int) (L0 : List (List Rat)) : Prop where
  nd : L0.Nodup
  anti : ∀ a ∈ L0, ∀ b ∈ L0, a ≠ b → ¬ cmp a b < 0 → cmp b a < 0
  run : ∀ a ∈ L0, ∀ b ∈ L0, a ≠ b → ∀ av bv h1, H0.le h1 → SzAt h1 av a → SzAt h1 bv b → ∃ r h', GCalls Tryz.prog gE K #[av, bv, cv] h1 r h' ∧ h1.le h' ∧ r = .int .i64 (cmp a b)
/-- the row while it is being sorted -/
structure Sd (H0 : GH) (g : Nat) (L0 : List (List Rat)) (h : GH) (L : List (List Rat)) : Prop where
  le : H0.le h
  hg : H0.n ≤ g
  perm : L.Perm L0
  srt : Srt h g L
theorem Sd.mono {H0 : GH} {g : Nat} {L0 : List (List Rat)} {h h' : GH} {L : List (List Rat)} (s : Sd H0 g L0 h L) (hl : h.le h') : Sd H0 g L0 h' L :=
  ⟨s.le.trans hl, s.hg, s.perm, s.srt.mono hl⟩
/-- two lists that differ within a part only, and there hold the same -/
structure SegP (a b : Nat) (L L' : List (List Rat)) : Prop where
  len : L'.length = L.length
  out : ∀ i, (i < a ∨ b ≤ i) → L'[i]? = L[i]?
  ins : ∀ i, a ≤ i → i < b → ∃ j, a ≤ j ∧ j < b ∧ L'[i]? = L[j]?
theorem SegP.refl (a b : Nat) (L : List (List Rat)) : SegP a b L L := ⟨rfl, fun _ _ => rfl, fun i h1 h2 => ⟨i, h1, h2, rfl⟩⟩
theorem SegP.trans {a b : Nat} {L M N : List (List Rat)} (s : SegP a b L M) (t : SegP a b M N) : SegP a b L N := by
  refine ⟨t.len.trans s.len, fun i h => (t.out i h).trans (s.out i h), fun i h1 h2 => ?_⟩
  obtain ⟨j, j1, j2, j3⟩ := t.ins i h1 h2
  obtain ⟨k, k1, k2, k3⟩ := s.ins j j1 j2
  exact ⟨k, k1, k2, j3.trans k3⟩
theorem SegP.wide {a b a' b' : Nat} {L M : List (List Rat)} (s : SegP a b L M) (h1 : a' ≤ a) (h2 : b ≤ b') : SegP a' b' L M := by
  refine ⟨s.len, fun i h => s.out i (by omega), fun i h3 h4 => ?_⟩
  by_cases h : a ≤ i ∧ i < b
  · obtain ⟨j, j1, j2, j3⟩ := s.ins i h.1 h.2
    exact ⟨j, by omega, by omega, j3⟩
  · exact ⟨i, h3, h4, s.out i (by omega)⟩
def swp (L : List (List Rat)) (i j : Nat) : List (List Rat) := (L.set i (L[j]?.getD [])).set j (L[i]?.getD [])
theorem swp_get {L : List (List Rat)} {i j : Nat} (hi : i < L.length) (hj : j < L.length) (t : Nat) : (swp L i j)[t]? = if t = j then L[i]? else if t = i then L[j]? else L[t]? := by
  unfold swp
  rw [List.getElem?_set, List.getElem?_set, List.length_set, List.getElem?_eq_getElem hi, List.getElem?_eq_getElem hj]
  by_cases h1 : t = j
  · subst h1; simp [hj]
  · by_cases h2 : t = i
    · subst h2; simp [hi, Ne.symm h1, h1]
    · simp [h1, h2, Ne.symm h1, Ne.symm h2]
theorem swp_len (L : List (List Rat)) (i j : Nat) : (swp L i j).length = L.length := by simp [swp]
theorem swp_perm {L : List (List Rat)} {i j : Nat} (hi : i < L.length) (hj : j < L.length) : (swp L i j).Perm L := by
  have := List.set_set_perm hi hj
  unfold swp
  rw [List.getElem?_eq_getElem hi, List.getElem?_eq_getElem hj]
  exact this
theorem swp_seg {L : List (List Rat)} {i j a b : Nat} (hb : b ≤ L.length) (h1 : a ≤ i) (h2 : i < b) (h3 : a ≤ j) (h4 : j < b) : SegP a b L (swp L i j) := by
  refine ⟨swp_len _ _ _, fun t ht => ?_, fun t h5 h6 => ?_⟩
  · rw [swp_get (by omega) (by omega), if_neg (by omega), if_neg (by omega)]
  · rw [swp_get (by omega) (by omega)]
    split
    · exact ⟨i, h1, h2, rfl⟩
    · split
      · exact ⟨j, h3, h4, rfl⟩
      · exact ⟨t, h5, h6, rfl⟩
/-- the cell at a place, and what lies there -/
theorem Sd.ld {H0 : GH} {g : Nat} {L0 : List (List Rat)} {h : GH} {L : List (List Rat)} (s : Sd H0 g L0 h L) {i : Nat} (hi : i < L.length) : ∃ u x, L[i]? = some u ∧ u ∈ L0 ∧ h.load g i 1 = some [x] ∧ SzN h x u (some g) ∧ x.oneCell' = true := by
  have e := List.getElem?_eq_getElem hi
  obtain ⟨x, k1, k2⟩ := s.srt.load e
  exact ⟨_, x, e, s.perm.mem_iff.1 (List.getElem_mem hi), k1, k2, k2.one⟩
theorem Sd.ne {H0 : GH} {g : Nat} {L0 : List (List Rat)} {h : GH} {L : List (List Rat)} (s : Sd H0 g L0 h L) (nd : L0.Nodup) {i j : Nat} {u v : List Rat} (hij : i ≠ j) (hu : L[i]? = some u) (hv : L[j]? = some v) : u ≠ v := by
  intro h
  subst h
  obtain ⟨h1, h3⟩ := List.getElem?_eq_some_iff.1 hu
  obtain ⟨h2, h4⟩ := List.getElem?_eq_some_iff.1 hv
  exact hij ((List.getElem_inj (s.perm.nodup_iff.2 nd)).1 (h3.trans h4.symm))
theorem Sd.len {H0 : GH} {g : Nat} {L0 : List (List Rat)} {h : GH} {L : List (List Rat)} (s : Sd H0 g L0 h L) : L.length = L0.length := s.perm.length_eq
theorem Sd.swap {H0 : GH} {g : Nat} {L0 : List (List Rat)} {h : GH} {L : List (List Rat)} (s : Sd H0 g L0 h L) {i j : Nat} {u v : List Rat} {x y : Value} (hu : L[i]? = some u) (hv : L[j]? = some v) (sx : SzN h x u (some g)) (sy : SzN h y v (some g)) :
    ∃ h1 h2, h.store g i [y] = some h1 ∧ h1.store g j [x] = some h2 ∧ Sd H0 g L0 h2 (swp L i j) := by
  obtain ⟨hi, ei⟩ := List.getElem?_eq_some_iff.1 hu
  obtain ⟨hj, ej⟩ := List.getElem?_eq_some_iff.1 hv
  obtain ⟨h3, s3a, s3b, s3c, s3d, s3e⟩ := s.srt.set (i := i) hi sy
  obtain ⟨h4, s4a, s4b, s4c, s4d, s4e⟩ := s3b.set (i := j) (by rw [List.length_set]; exact hj) (sx.leX s3c)
  refine ⟨h3, h4, s3a, s4a, s4e (s3e s.le s.hg) s.hg, s.hg, (swp_perm hi hj).trans s.perm, ?_⟩
  have : swp L i j = (L.set i v).set j u := by rw [swp, hu, hv]; rfl
  rw [this]
  exact s4b
theorem c_isrt {H0 h : GH} {g c K : Nat} {cv : Value} {L0 L : List (List Rat)} {cmp : List Rat → List Rat → Int} {a b : Nat} (ck : CmpOk H0 K cv cmp L0) (s : Sd H0 g L0 h L) (hb : b ≤ L.length) (hlen : L.length ≤ 1000) (ha : a ≤ 1000) :
    ∃ r h', GCalls Tryz.prog gE 131 #[.slice (some ⟨g, 0, none⟩) L.length c, .int .i64 a, .int .i64 b, .func (.func K) #[] #[cv]] h r h' ∧ ∃ L', Sd H0 g L0 h' L' ∧ SegP a b L L' ∧ ∀ k, a ≤ k → k + 1 < b → Adj cmp L' k := by
  have w1 : IntKind.i64.wrap ((a : Int) + 1) = ((a + 1 : Nat) : Int) := by rw [wrap_i64 (by omega) (by omega)]; omega
  refine gcalls_in (pl := pl131) [] mixed Tryz.func131 rfl rfl (by exact ok131) ?_
  simp only [go_sem, w1]
  refine loopK_inv (α := Nat) (fun i => 2000 - i) (fun i ts g' => ∃ M : List (List Rat), ts 0 = .slice (some ⟨g, 0, none⟩) L.length c ∧ ts 1 = .int .i64 a ∧ ts 2 = .int .i64 b ∧ ts 3 = .func (.func K) #[] #[cv] ∧ ts 8 = .int .i64 i ∧ a + 1 ≤ i ∧ i ≤ 1001 ∧ Sd H0 g L0 g' M ∧ SegP a b L M ∧ ∀ k, a ≤ k → k + 1 < i → k + 1 < b → Adj cmp M k) ?_ (a0 := a + 1) ?_
  · rintro i ts g' ⟨M, t0, t1, t2, t3, t8, hi1, hi, sd, sg, hs⟩
    simp only [go_sem, Nat.reduceBEq, t2, t8]
    refine ifK_intro (fun c1 => ?_) (fun c1 => ?_)
    · have c1' := of_decide_eq_true c1
      simp only [go_sem, Nat.reduceBEq, t8]
      refine loopK_inv (α := Nat) id (fun j ts g' => ∃ M : List (List Rat), ts 0 = .slice (some ⟨g, 0, none⟩) L.length c ∧ ts 1 = .int .i64 a ∧ ts 2 = .int .i64 b ∧ ts 3 = .func (.func K) #[] #[cv] ∧ ts 8 = .int .i64 i ∧ ts 9 = .int .i64 j ∧ a ≤ j ∧ j ≤ i ∧ Sd H0 g L0 g' M ∧ SegP a b L M ∧ (∀ k, a ≤ k → k + 1 ≤ i → k + 1 ≠ j → Adj cmp M k) ∧ (a < j → j < i → ∀ u v, M[j - 1]? = some u → M[j + 1]? = some v → cmp u v < 0)) ?_ (a0 := i) ?_
      · clear t0 t1 t2 t3 t8 sd sg hs M
        rintro j ts g' ⟨M, t0, t1, t2, t3, t8, t9, haj, hj, sd, sg, hs, hs2⟩
        simp only [go_sem, Nat.reduceBEq, Array.reduceGetElem?, t1, t9, pl131]
        refine ifK_intro (fun c2 => ?_) (fun c2 => ?_)
        · have c2' := of_decide_eq_true c2
          obtain ⟨k, rfl⟩ : ∃ k, j = k + 1 := ⟨j - 1, by omega⟩
          have hml := sg.len
          obtain ⟨u, x, hu, huL, lx, sx, _⟩ := sd.ld (i := k + 1) (by omega)
          obtain ⟨v, y, hv, hvL, ly, sy, _⟩ := sd.ld (i := k) (by omega)
          have huv : u ≠ v := sd.ne ck.nd (by omega) hu hv
          have e1 : IntKind.i64.wrap (((k + 1 : Nat) : Int) - 1) = (k : Int) := by rw [wrap_i64 (by omega) (by omega)]; omega
          have e2 : ((k + 1 : Nat) : Int) < L.length := by omega
          have e3 : (k : Int) < L.length := by omega
          simp only [go_sem, Nat.reduceBEq, Array.reduceGetElem?, ↓reduceIte, t0, t3, t9, c2, lx, ly, e1, e2, e3, Nat.zero_add]
          refine callK_intro (ck.run u huL v hvL huv x y g' sd.le sx.at sy.at) ?_
          rintro _ h2 ⟨hle2, rfl⟩
          simp only [go_sem, Nat.reduceBEq, Array.reduceGetElem?, ↓reduceIte, c2]
          have wi : IntKind.i64.wrap ((i : Int) + 1) = ((i + 1 : Nat) : Int) := wrap_i64 (by omega) (by omega)
          have sd2 := sd.mono hle2
          refine ifK_intro (fun c3 => ?_) (fun c3 => ?_)
          · have c3' := of_decide_eq_true c3
            obtain ⟨h3, h4, s3a, s4a, sd4⟩ := sd2.swap hu hv (sx.mono hle2) (sy.mono hle2)
            obtain ⟨gx, ox, cx, rfl, hxx, _⟩ := id sx
            obtain ⟨gy, oy, cy, rfl, hyy, _⟩ := id sy
            simp only [go_sem, Nat.reduceBEq, Array.reduceGetElem?, ↓reduceIte, t0, t1, t2, t3, t8, t9, load_mono hle2 lx, load_mono hle2 ly, e1, e2, e3, Nat.zero_add, s3a, s4a, pl131]
            have hMk : ∀ t, (swp M (k + 1) k)[t]? = if t = k then some u else if t = k + 1 then some v else M[t]? := by
              intro t
              rw [swp_get (by omega) (by omega), hu, hv]
            refine ⟨k, Nat.lt_succ_self k, _, rfl, by omega, by omega, sd4, sg.trans (swp_seg (by omega) (by omega) (by omega) (by omega) (by omega)), ?_, ?_⟩
            · intro t h0 h1 h2 p q hp hq
              rw [hMk] at hp hq
              by_cases htk : t = k
              · subst htk
                rw [if_pos rfl] at hp
                rw [if_neg (by omega), if_pos rfl] at hq
                injection hp with hp
                injection hq with hq
                subst hp hq
                exact c3'
              · by_cases htk1 : t = k + 1
                · subst htk1
                  rw [if_neg (by omega), if_pos rfl] at hp
                  rw [if_neg (by omega), if_neg (by omega)] at hq
                  injection hp with hp
                  subst hp
                  exact hs2 (by omega) (by omega) _ _ (by rw [Nat.add_sub_cancel]; exact hv) hq
                · rw [if_neg htk, if_neg htk1] at hp
                  rw [if_neg (by omega), if_neg (by omega)] at hq
                  exact hs t h0 h1 (by omega) p q hp hq
            · intro h1 h2 p q hp hq
              rw [hMk] at hp hq
              rw [if_neg (by omega), if_neg (by omega)] at hp
              rw [if_neg (by omega), if_pos rfl] at hq
              injection hq with hq
              subst hq
              exact hs (k - 1) (by omega) (by omega) (by omega) p v hp (by rw [show k - 1 + 1 = k by omega]; exact hv)
          · have c3' := of_decide_eq_false c3
            simp only [go_sem, Nat.reduceBEq, t0, t1, t2, t3, t8, wi]
            refine ⟨i + 1, by omega, M, rfl, by omega, by omega, sd2, sg, fun t h0 ht _ => ?_⟩
            by_cases htk : t = k
            · subst htk
              intro p q hp hq
              rw [hv] at hp
              rw [hu] at hq
              injection hp with hp
              injection hq with hq
              subst hp hq
              exact ck.anti _ huL _ hvL huv c3'
            · exact hs t h0 (by omega) (by omega)
        · have c2' := of_decide_eq_false c2
          have wi : IntKind.i64.wrap ((i : Int) + 1) = ((i + 1 : Nat) : Int) := wrap_i64 (by omega) (by omega)
          simp only [go_sem, Nat.reduceBEq, Array.reduceGetElem?, ↓reduceIte, t0, t1, t2, t3, t8, c2, wi]
          exact ⟨i + 1, by omega, M, rfl, by omega, by omega, sd, sg, fun t h0 ht _ => hs t h0 (by omega) (by omega)⟩
      · simp only [go_sem, Nat.reduceBEq, t0, t1, t2, t3, t8]
        exact ⟨M, by omega, sd, sg, fun k h0 h1 h2 => hs k h0 (by omega) (by omega), fun h1 h2 => by omega⟩
    · have c1' := of_decide_eq_false c1
      simp only [go_sem]
      exact ⟨M, sd, sg, fun k h1 h2 => hs k h1 (by omega) h2⟩
  · simp only [go_sem, Nat.reduceBEq, Nat.reduceLeDiff]
    exact ⟨L, ha, s, SegP.refl _ _ _, fun k h0 h1 => by omega⟩
end Go.Proofs.Gh
namespace Go.Proofs.Gh
open Go Go.Proofs Go.Proofs.Zz
set_option maxRecDepth 10000
set_option linter.unusedSimpArgs false
theorem c_order2 {H0 H1 h : GH} {g c K bs w : Nat} {cv : Value} {L0 L : List (List Rat)} {cmp : List Rat → List Rat → Int} {a b : Nat} (ck : CmpOk H0 K cv cmp L0) (s : Sd H0 g L0 H1 L) (hle : H1.le h) (hbs : H1.n ≤ bs) (u : Uno h bs (.int .i64 w)) (hw : w ≤ 100) (ha : a < L.length) (hb : b < L.length) (hab : a ≠ b) (hlen : L.length ≤ 1000) :
    ∃ r h', GCalls Tryz.prog gE 208 #[.slice (some ⟨g, 0, none⟩) L.length c, .int .i64 a, .int .i64 b, .pointer (some ⟨bs, 0, none⟩), .func (.func K) #[] #[cv]] h r h' ∧ H1.le h' ∧ ∃ w' a' b' : Nat, w' ≤ w + 1 ∧ Uno h' bs (.int .i64 w') ∧ r = .tuple #[.int .i64 a', .int .i64 b'] ∧ ((a' = a ∧ b' = b) ∨ (a' = b ∧ b' = a)) := by
  have sd := s.mono hle
  obtain ⟨p, x, hp, hpL, lx, sx, _⟩ := sd.ld ha
  obtain ⟨q, y, hq, hqL, ly, sy, _⟩ := sd.ld hb
  have hne : q ≠ p := sd.ne ck.nd (Ne.symm hab) hq hp
  have e2 : (a : Int) < L.length := by omega
  have e3 : (b : Int) < L.length := by omega
  refine gcalls_in (pl := pl208) [.tmp 10, .tmp 11] mixed Tryz.func208 rfl rfl (by exact ok208) ?_
  simp only [go_sem, Nat.reduceBEq, Array.reduceGetElem?, ↓reduceIte, pl208, lx, ly, e2, e3, Nat.zero_add]
  refine callK_intro (ck.run q hqL p hpL hne y x h sd.le sy.at sx.at) ?_
  rintro _ h1 ⟨hle1, rfl⟩
  simp only [go_sem, Array.reduceGetElem?]
  have u1 := u.mono hle1
  have ww : IntKind.i64.wrap ((w : Int) + 1) = ((w + 1 : Nat) : Int) := wrap_i64 (by omega) (by omega)
  have hst := cells_store (h := h1) (g := bs) (old := [.int .i64 w]) (vs := [.int .i64 ((w + 1 : Nat) : Int)]) u1.lt u1.b rfl rfl
  refine ifK_intro (fun c1 => ?_) (fun c1 => ?_)
  · simp only [go_sem, Nat.reduceBEq, ↓reduceIte, u1.l, ww, hst]
    exact ⟨(hle.trans hle1).upd hbs _, w + 1, b, a, Nat.le_refl _, ⟨u1.lt, upd_self _ _ _⟩, rfl, .inr ⟨rfl, rfl⟩⟩
  · simp only [go_sem, Nat.reduceBEq]
    exact ⟨hle.trans hle1, w, a, b, by omega, u1, rfl, .inl ⟨rfl, rfl⟩⟩
theorem c_median {H0 H1 h : GH} {g c K bs w : Nat} {cv : Value} {L0 L : List (List Rat)} {cmp : List Rat → List Rat → Int} {a b d : Nat} (ck : CmpOk H0 K cv cmp L0) (s : Sd H0 g L0 H1 L) (hle : H1.le h) (hbs : H1.n ≤ bs) (u : Uno h bs (.int .i64 w)) (hw : w ≤ 50) (ha : a < L.length) (hb : b < L.length) (hd : d < L.length) (hab : a ≠ b) (had : a ≠ d) (hbd : b ≠ d) (hlen : L.length ≤ 1000) :
    ∃ r h', GCalls Tryz.prog gE 179 #[.slice (some ⟨g, 0, none⟩) L.length c, .int .i64 a, .int .i64 b, .int .i64 d, .pointer (some ⟨bs, 0, none⟩), .func (.func K) #[] #[cv]] h r h' ∧ H1.le h' ∧ ∃ w' m : Nat, w' ≤ w + 3 ∧ Uno h' bs (.int .i64 w') ∧ r = .int .i64 m ∧ (m = a ∨ m = b ∨ m = d) := by
  refine gcalls_in (pl := noPl) [.tmp 12] mixed Tryz.func179 rfl rfl (by exact ok179) ?_
  simp only [go_sem, Nat.reduceBEq]
  refine callK_intro (c_order2 ck s hle hbs u (by omega) ha hb hab hlen) ?_
  rintro _ h1 ⟨hle1, w1, a1, b1, k1, u1, rfl, k2⟩
  simp only [go_sem, Nat.reduceBEq, Array.reduceGetElem?]
  refine callK_intro (c_order2 ck s hle1 hbs u1 (by omega) (a := b1) (b := d) (by omega) hd (by omega) hlen) ?_
  rintro _ h2 ⟨hle2, w2, b2, d2, k3, u2, rfl, k4⟩
  simp only [go_sem, Nat.reduceBEq, Array.reduceGetElem?]
  refine callK_intro (c_order2 ck s hle2 hbs u2 (by omega) (a := a1) (b := b2) (by omega) (by omega) (by omega) hlen) ?_
  rintro _ h3 ⟨hle3, w3, a3, b3, k5, u3, rfl, k6⟩
  simp only [go_sem, Nat.reduceBEq, Array.reduceGetElem?]
  exact ⟨hle3, w3, b3, by omega, u3, rfl, by omega⟩
theorem c_choose {H0 h : GH} {g c K : Nat} {cv : Value} {L0 L : List (List Rat)} {cmp : List Rat → List Rat → Int} {a b : Nat} (ck : CmpOk H0 K cv cmp L0) (s : Sd H0 g L0 h L) (hb : b ≤ L.length) (h12 : a + 12 < b) (hlen : L.length ≤ 40) :
    ∃ r h', GCalls Tryz.prog gE 134 #[.slice (some ⟨g, 0, none⟩) L.length c, .int .i64 a, .int .i64 b, .func (.func K) #[] #[cv]] h r h' ∧ h.le h' ∧ ∃ m t : Nat, a ≤ m ∧ m < b ∧ t ≤ 1 ∧ r = .tuple #[.int .i64 m, .int .i64 t] := by
  obtain ⟨n, rfl⟩ : ∃ n, b = a + n := ⟨b - a, by omega⟩
  obtain ⟨q, hq⟩ : ∃ q, n / 4 = q := ⟨_, rfl⟩
  have w1 : IntKind.i64.wrap (((a + n : Nat) : Int) - a) = n := by rw [wrap_i64 (by omega) (by omega)]; omega
  have k8 : (8 : Int) ≤ n := by omega
  have k50 : ¬ ((50 : Int) ≤ n) := by omega
  have l0 : h.le (h.alloc ⟨[.int .i64 0], true, false⟩) := GH.le_alloc _ _
  have u0 : Uno (h.alloc ⟨[.int .i64 0], true, false⟩) h.n (.int .i64 (0 : Nat)) := Uno.new _ _
  have q0 : IntKind.i64.wrap ((n : Int).tdiv 4) = (q : Int) := by
    rw [tdiv_lit, hq]; exact wrap_i64 (by omega) (by omega)
  have q1 : IntKind.i64.wrap ((a : Int) + IntKind.i64.wrap ((q : Int) * 1)) = ((a + q : Nat) : Int) := by rw [wrap_i64 (x := (q : Int) * 1) (by omega) (by omega), wrap_i64 (by omega) (by omega)]; omega
  have q2 : IntKind.i64.wrap ((a : Int) + IntKind.i64.wrap ((q : Int) * 2)) = ((a + q * 2 : Nat) : Int) := by rw [wrap_i64 (x := (q : Int) * 2) (by omega) (by omega), wrap_i64 (by omega) (by omega)]; omega
  have q3 : IntKind.i64.wrap ((a : Int) + IntKind.i64.wrap ((q : Int) * 3)) = ((a + q * 3 : Nat) : Int) := by rw [wrap_i64 (x := (q : Int) * 3) (by omega) (by omega), wrap_i64 (by omega) (by omega)]; omega
  refine gcalls_in (pl := noPl) [.tmp 8, .tmp 9] mixed Tryz.func134 rfl rfl (by exact ok134) ?_
  simp only [go_sem, Nat.reduceBEq, Int.reduceEq, ↓reduceIte, w1, k8, k50, q0, q1, q2, q3]
  refine callK_intro (c_median ck s l0 (Nat.le_refl _) u0 (by omega) (a := a + q) (b := a + q * 2) (d := a + q * 3) (by omega) (by omega) (by omega) (by omega) (by omega) (by omega) (by omega)) ?_
  rintro _ h1 ⟨hle1, w', m, k1, u1, rfl, k2⟩
  have z0 : ((w' : Nat) : Int) = 0 ↔ w' = 0 := by omega
  have z12 : ¬ ((w' : Nat) : Int) = 12 := by omega
  by_cases hw0 : w' = 0
  · subst hw0
    simp only [go_sem, Nat.reduceBEq, u1.l]
    exact ⟨hle1, m, 1, by omega, by omega, by omega, rfl⟩
  · have z1 : ¬ ((w' : Nat) : Int) = 0 := by omega
    simp only [go_sem, Nat.reduceBEq, u1.l, z1, z12]
    exact ⟨hle1, m, 0, by omega, by omega, by omega, rfl⟩
theorem c_partial {H0 h : GH} {g c K : Nat} {cv : Value} {L0 L : List (List Rat)} {cmp : List Rat → List Rat → Int} {a b : Nat} (ck : CmpOk H0 K cv cmp L0) (s : Sd H0 g L0 h L) (hb : b ≤ L.length) (h12 : a + 12 < b) (hlen : L.length ≤ 40) :
    ∃ r h', GCalls Tryz.prog gE 136 #[.slice (some ⟨g, 0, none⟩) L.length c, .int .i64 a, .int .i64 b, .func (.func K) #[] #[cv]] h r h' ∧ h.le h' ∧ ∃ o : Bool, r = .bool o ∧ (o = true → ∀ k, a ≤ k → k + 1 < b → Adj cmp L k) := by
  have w1 : IntKind.i64.wrap ((a : Int) + 1) = ((a + 1 : Nat) : Int) := by rw [wrap_i64 (by omega) (by omega)]; omega
  have k50 : IntKind.i64.wrap ((b : Int) - a) = ((b - a : Nat) : Int) := by rw [wrap_i64 (by omega) (by omega)]; omega
  have k51 : ((b - a : Nat) : Int) < 50 := by omega
  refine gcalls_in (pl := pl136) [.tmp 8] mixed Tryz.func136 rfl rfl (by exact ok136) ?_
  simp only [go_sem, Nat.reduceBEq, w1]
  refine loopK_unroll ?_
  simp only [go_sem, Int.reduceLT]
  refine loopK_inv (α := Nat) (fun i => b - i) (fun i ts g' => ts 0 = .slice (some ⟨g, 0, none⟩) L.length c ∧ ts 1 = .int .i64 a ∧ ts 2 = .int .i64 b ∧ ts 3 = .func (.func K) #[] #[cv] ∧ ts 9 = .int .i64 i ∧ a + 1 ≤ i ∧ i ≤ b ∧ h.le g' ∧ ∀ k, a ≤ k → k + 1 < i → Adj cmp L k) ?_ (a0 := a + 1) ?_
  · rintro i ts g' ⟨t0, t1, t2, t3, t9, hi1, hi, hle, hs⟩
    have sd := s.mono hle
    simp only [go_sem, Nat.reduceBEq, Array.reduceGetElem?, t2, t9, pl136]
    refine ifK_intro (fun c1 => ?_) (fun c1 => ?_)
    · have c1' := of_decide_eq_true c1
      obtain ⟨k, rfl⟩ : ∃ k, i = k + 1 := ⟨i - 1, by omega⟩
      obtain ⟨u, x, hu, huL, lx, sx, _⟩ := sd.ld (i := k + 1) (by omega)
      obtain ⟨v, y, hv, hvL, ly, sy, _⟩ := sd.ld (i := k) (by omega)
      have huv : u ≠ v := sd.ne ck.nd (by omega) hu hv
      have e1 : IntKind.i64.wrap (((k + 1 : Nat) : Int) - 1) = (k : Int) := by rw [wrap_i64 (by omega) (by omega)]; omega
      have e2 : ((k + 1 : Nat) : Int) < L.length := by omega
      have e3 : (k : Int) < L.length := by omega
      simp only [go_sem, Nat.reduceBEq, Array.reduceGetElem?, ↓reduceIte, t0, t3, t9, c1, lx, ly, e1, e2, e3, Nat.zero_add]
      refine callK_intro (ck.run u huL v hvL huv x y g' sd.le sx.at sy.at) ?_
      rintro _ h2 ⟨hle2, rfl⟩
      simp only [go_sem, Nat.reduceBEq, Array.reduceGetElem?, ↓reduceIte, c1]
      have wi : IntKind.i64.wrap (((k + 1 : Nat) : Int) + 1) = ((k + 1 + 1 : Nat) : Int) := wrap_i64 (by omega) (by omega)
      refine ifK_intro (fun c3 => ?_) (fun c3 => ?_)
      · have ne : ¬ (((k + 1 : Nat) : Int) = b) := by omega
        simp only [go_sem, Nat.reduceBEq, t1, t2, t9, c1, ne, k50, k51]
        exact ⟨hle.trans hle2, false, rfl, fun h => by cases h⟩
      · have c3' := of_decide_eq_false c3
        simp only [go_sem, Nat.reduceBEq, t0, t1, t2, t3, t9, wi]
        refine ⟨k + 1 + 1, by omega, rfl, by omega, by omega, hle.trans hle2, fun t h0 ht => ?_⟩
        by_cases htk : t = k
        · subst htk
          intro p q hp hq
          rw [hv] at hp
          rw [hu] at hq
          injection hp with hp
          injection hq with hq
          subst hp hq
          exact ck.anti _ huL _ hvL huv c3'
        · exact hs t h0 (by omega)
    · have c1' := of_decide_eq_false c1
      obtain rfl : i = b := by omega
      simp only [go_sem, Nat.reduceBEq, Array.reduceGetElem?, ↓reduceIte, t2, t9, c1]
      exact ⟨hle, true, rfl, fun _ => hs⟩
  · simp only [go_sem, Nat.reduceBEq]
    exact ⟨by omega, GH.le.refl _, fun k h0 h1 => by omega⟩
end Go.Proofs.Gh
namespace Go.Proofs.Gh
open Go Go.Proofs Go.Proofs.Zz
set_option maxRecDepth 10000
set_option linter.unusedSimpArgs false
/-! a loop with several ways out, whose sequel is shown once -/
def gpost (id : Nat) (X J : TS → GH → Prop) (Q : GQ) : GQ
  | .normal, ts, h => X ts h
  | .exit j, ts, h => if j = id then J ts h else Q (.exit j) ts h
  | e, ts, h => Q e ts h
theorem gpost_normal (id : Nat) (X J : TS → GH → Prop) (Q : GQ) (ts : TS) (h : GH) : gpost id X J Q .normal ts h = X ts h := (rfl)
theorem gpost_ret (id : Nat) (X J : TS → GH → Prop) (Q : GQ) (ts : TS) (h : GH) : gpost id X J Q .ret ts h = Q .ret ts h := (rfl)
theorem gpost_exit (id j : Nat) (X J : TS → GH → Prop) (Q : GQ) (ts : TS) (h : GH) : gpost id X J Q (.exit j) ts h = ifK (j == id) (fun _ => J ts h) (fun _ => Q (.exit j) ts h) := by
  unfold gpost
  by_cases hj : j = id
  · subst hj; simp [ifK]
  · have : (j == id) = false := by simpa using hj
    simp [ifK, hj, this]
theorem loopK_post {P : Program} {E : GE} {pl : Plans} {c : Code} {Q : GQ} {α : Type} (id : Nat) (m : α → Nat) (I : α → TS → GH → Prop) (J : TS → GH → Prop)
    (step : ∀ a ts h, I a ts h → gwp P E pl c (gpost id (fun ts' h' => ∃ a', m a' < m a ∧ I a' ts' h') J Q) ts h) {a0 : α} {ts : TS} {h : GH} (hI : I a0 ts h) (post : ∀ ts h, J ts h → Q (.exit id) ts h) : loopK P E pl c Q ts h := by
  refine loopK_inv m I (fun a ts h hI => gwp_mono c ?_ (step a ts h hI)) hI
  intro e t g hx
  cases e with
  | normal => exact hx
  | exit j =>
    by_cases hj : j = id
    · subst hj
      rw [gpost_exit] at hx
      simp only [beq_self_eq_true, ifK] at hx
      exact post _ _ hx
    · have : (j == id) = false := by simpa using hj
      rw [gpost_exit, this] at hx
      exact hx
  | _ => exact hx
/-- the state of a partition -/
structure Pt (cmp : List Rat → List Rat → Int) (a b : Nat) (pv : List Rat) (M : List (List Rat)) (i j : Nat) : Prop where
  piv : M[a]? = some pv
  lo : ∀ t x, a < t → t < i → M[t]? = some x → cmp x pv < 0
  hi : ∀ t x, j < t → t < b → M[t]? = some x → cmp pv x < 0
  ai : a < i
  aj : a ≤ j
  ij : i ≤ j + 1
  jb : j < b
theorem Pt.up {cmp : List Rat → List Rat → Int} {a b : Nat} {pv x : List Rat} {M : List (List Rat)} {i j : Nat} (p : Pt cmp a b pv M i j) (hij : i ≤ j) (hx : M[i]? = some x) (h : cmp x pv < 0) : Pt cmp a b pv M (i + 1) j := by
  refine ⟨p.piv, fun t y h1 h2 hy => ?_, p.hi, by have := p.ai; omega, p.aj, by omega, p.jb⟩
  by_cases ht : t = i
  · subst ht
    rw [hx] at hy
    injection hy with hy
    subst hy
    exact h
  · exact p.lo t y h1 (by omega) hy
theorem Pt.dn {cmp : List Rat → List Rat → Int} {a b : Nat} {pv x : List Rat} {M : List (List Rat)} {i j : Nat} (p : Pt cmp a b pv M i (j + 1)) (hij : i ≤ j + 1) (hx : M[j + 1]? = some x) (h : cmp pv x < 0) : Pt cmp a b pv M i j := by
  refine ⟨p.piv, p.lo, fun t y h1 h2 hy => ?_, p.ai, by have := p.ai; omega, by omega, by have := p.jb; omega⟩
  by_cases ht : t = j + 1
  · subst ht
    rw [hx] at hy
    injection hy with hy
    subst hy
    exact h
  · exact p.hi t y (by omega) h2 hy
theorem Pt.sw {cmp : List Rat → List Rat → Int} {a b : Nat} {pv x y : List Rat} {M : List (List Rat)} {i j : Nat} (p : Pt cmp a b pv M i (j + 1)) (hij : i < j + 1) (hb : b ≤ M.length) (hx : M[i]? = some x) (hy : M[j + 1]? = some y) (h1 : cmp pv x < 0) (h2 : cmp y pv < 0) : Pt cmp a b pv (swp M i (j + 1)) (i + 1) j := by
  have hai := p.ai
  have hjb := p.jb
  have g := fun t => swp_get (L := M) (i := i) (j := j + 1) (by omega) (by omega) t
  refine ⟨?_, fun t z k1 k2 hz => ?_, fun t z k1 k2 hz => ?_, by omega, by omega, by omega, by omega⟩
  · rw [g, if_neg (by omega), if_neg (by omega)]; exact p.piv
  · rw [g, if_neg (by omega)] at hz
    split at hz
    · rw [hy] at hz
      injection hz with hz
      subst hz
      exact h2
    · exact p.lo t z k1 (by omega) hz
  · rw [g] at hz
    split at hz
    · rw [hx] at hz
      injection hz with hz
      subst hz
      exact h1
    · rw [if_neg (by omega)] at hz
      exact p.hi t z (by omega) k2 hz
/-- a partition: what lies before the place is smaller, what lies behind it greater -/
structure Pd (cmp : List Rat → List Rat → Int) (a b : Nat) (M : List (List Rat)) (m : Nat) : Prop where
  am : a ≤ m
  mb : m < b
  lo : ∀ t x pv, a ≤ t → t < m → M[t]? = some x → M[m]? = some pv → cmp x pv < 0
  hi : ∀ t x pv, m < t → t < b → M[t]? = some x → M[m]? = some pv → cmp pv x < 0
theorem Pt.fin {cmp : List Rat → List Rat → Int} {a b : Nat} {pv : List Rat} {M : List (List Rat)} {i j : Nat} (p : Pt cmp a b pv M i j) (hij : ¬ i ≤ j) (hb : b ≤ M.length) : Pd cmp a b (swp M j a) j := by
  have hai := p.ai
  have haj := p.aj
  have hjb := p.jb
  have h4 := p.ij
  have g := fun t => swp_get (L := M) (i := j) (j := a) (by omega) (by omega) t
  have gj : (swp M j a)[j]? = some pv := by
    rw [g]
    by_cases h : j = a
    · subst h; rw [if_pos rfl]; exact p.piv
    · rw [if_neg h, if_pos rfl]; exact p.piv
  refine ⟨haj, hjb, fun t x q k1 k2 hx hq => ?_, fun t x q k1 k2 hx hq => ?_⟩
  · rw [gj] at hq
    injection hq with hq
    subst hq
    rw [g] at hx
    split at hx
    · exact p.lo j x (by omega) (by omega) hx
    · rw [if_neg (by omega)] at hx
      exact p.lo t x (by omega) (by omega) hx
  · rw [gj] at hq
    injection hq with hq
    subst hq
    rw [g, if_neg (by omega), if_neg (by omega)] at hx
    exact p.hi t x (by omega) k2 hx
attribute [go_sem ↓] gpost_normal gpost_exit gpost_ret
theorem c_partition {H0 h : GH} {g c K : Nat} {cv : Value} {L0 L : List (List Rat)} {cmp : List Rat → List Rat → Int} {a b p : Nat} (ck : CmpOk H0 K cv cmp L0) (s : Sd H0 g L0 h L) (hb : b ≤ L.length) (hap : a ≤ p) (hpb : p < b) (hlen : L.length ≤ 40) :
    ∃ r h', GCalls Tryz.prog gE 138 #[.slice (some ⟨g, 0, none⟩) L.length c, .int .i64 a, .int .i64 b, .int .i64 p, .func (.func K) #[] #[cv]] h r h' ∧ ∃ (L' : List (List Rat)) (m : Nat) (o : Bool), Sd H0 g L0 h' L' ∧ SegP a b L L' ∧ Pd cmp a b L' m ∧ r = .tuple #[.int .i64 m, .bool o] := by
  have sd := s
  have hl0 := s.len
  obtain ⟨b', rfl⟩ : ∃ b', b = b' + 1 := ⟨b - 1, by omega⟩
  obtain ⟨b, hbb⟩ : ∃ b, b = b' + 1 := ⟨_, rfl⟩
  have w1 : IntKind.i64.wrap ((a : Int) + 1) = ((a + 1 : Nat) : Int) := by rw [wrap_i64 (by omega) (by omega)]; omega
  have w2 : IntKind.i64.wrap (((b' + 1 : Nat) : Int) - 1) = (b' : Int) := by rw [wrap_i64 (by omega) (by omega)]; omega
  rw [← hbb] at hb hpb w2 ⊢
  obtain ⟨u, x, hu, huL, lx, sx, _⟩ := sd.ld (i := a) (by omega)
  obtain ⟨pv, y, hv, hvL, ly, sy, _⟩ := sd.ld (i := p) (by omega)
  obtain ⟨h3, h4, s3a, s4a, sd1⟩ := sd.swap hu hv sx sy
  obtain ⟨gx, ox, cx, rfl, hxx, _⟩ := id sx
  obtain ⟨gy, oy, cy, rfl, hyy, _⟩ := id sy
  have e2 : (a : Int) < L.length := by omega
  have e3 : (p : Int) < L.length := by omega
  have g1 := fun t => swp_get (L := L) (i := a) (j := p) (by omega) (by omega) t
  have pt1 : Pt cmp a b pv (swp L a p) (a + 1) b' := by
    refine ⟨?_, fun t z k1 k2 => by omega, fun t z k1 k2 => by omega, by omega, by omega, by omega, by omega⟩
    rw [g1]
    by_cases h : a = p
    · subst h; rw [if_pos rfl]; exact hv
    · rw [if_neg h, if_pos rfl]; exact hv
  have sg1 : SegP a b L (swp L a p) := swp_seg hb (by omega) (by omega) hap hpb
  refine gcalls_in (pl := pl138) [.tmp 10, .tmp 11] mixed Tryz.func138 rfl rfl (by exact ok138) ?_
  simp only [go_sem, Nat.reduceBEq, Array.reduceGetElem?, ↓reduceIte, pl138, lx, ly, e2, e3, Nat.zero_add, s3a, s4a, w1, w2]
  obtain ⟨M1, hM1⟩ : ∃ M1, swp L a p = M1 := ⟨_, rfl⟩
  rw [hM1] at sd1 pt1 sg1
  clear lx ly sx sy hu hv s3a s4a hxx hyy sd s g1
  refine loopK_post 0 (fun i : Nat => 2000 - i) (fun i ts g' => ts 0 = .slice (some ⟨g, 0, none⟩) L.length c ∧ ts 1 = .int .i64 a ∧ ts 2 = .int .i64 b ∧ ts 3 = .int .i64 p ∧ ts 4 = .func (.func K) #[] #[cv] ∧ ts 12 = .int .i64 i ∧ ts 13 = .int .i64 (b' : Nat) ∧ Sd H0 g L0 g' M1 ∧ Pt cmp a b pv M1 i b' ∧ (a + 1) ≤ i) (fun ts g' => ∃ i : Nat, ts 0 = .slice (some ⟨g, 0, none⟩) L.length c ∧ ts 1 = .int .i64 a ∧ ts 2 = .int .i64 b ∧ ts 3 = .int .i64 p ∧ ts 4 = .func (.func K) #[] #[cv] ∧ ts 12 = .int .i64 i ∧ ts 13 = .int .i64 (b' : Nat) ∧ Sd H0 g L0 g' M1 ∧ Pt cmp a b pv M1 i b' ∧ (a + 1) ≤ i ∧ (i ≤ b' → ∀ x, M1[i]? = some x → ¬ cmp x pv < 0)) ?_ (a0 := (a + 1)) ?_ ?_
  · rintro i ts g' ⟨t0, t1, t2, t3, t4, t12, t13, sd, pt, hi0⟩
    have hml := sd.len
    have pb := pt.jb
    have pij := pt.ij
    have pai := pt.ai
    simp only [go_sem, Nat.reduceBEq, Array.reduceGetElem?, t12, t13, pl138]
    refine ifK_intro (fun c2 => ?_) (fun c2 => ?_)
    · have c2' := of_decide_eq_true c2
      obtain ⟨u, x, hu, huL, lx, sx, _⟩ := sd.ld (i := i) (by omega)
      obtain ⟨v, y, hv, hvL, ly, sy, _⟩ := sd.ld (i := a) (by omega)
      obtain rfl : pv = v := by have := pt.piv; rw [hv] at this; injection this with this; exact this.symm
      have huv : u ≠ pv := sd.ne ck.nd (by omega) hu hv
      have e2 : (i : Int) < L.length := by omega
      have e3 : (a : Int) < L.length := by omega
      simp only [go_sem, Nat.reduceBEq, Array.reduceGetElem?, ↓reduceIte, t0, t1, t4, t12, c2, lx, ly, e2, e3, Nat.zero_add]
      refine callK_intro (ck.run u huL pv hvL huv x y g' sd.le sx.at sy.at) ?_
      rintro _ h2 ⟨hle2, rfl⟩
      have wi : IntKind.i64.wrap ((i : Int) + 1) = ((i + 1 : Nat) : Int) := wrap_i64 (by omega) (by omega)
      simp only [go_sem, Nat.reduceBEq, Array.reduceGetElem?, ↓reduceIte, c2]
      refine ifK_intro (fun c3 => ?_) (fun c3 => ?_)
      · simp only [go_sem, Nat.reduceBEq, t0, t1, t2, t3, t4, t12, t13, wi]
        exact ⟨i + 1, by omega, rfl, sd.mono hle2, pt.up (by omega) hu (of_decide_eq_true c3), by omega⟩
      · simp only [go_sem, Nat.reduceBEq, t0, t1, t2, t3, t4, t12, t13]
        exact ⟨i, rfl, sd.mono hle2, pt, hi0, fun _ x hx => by rw [hu] at hx; injection hx with hx; subst hx; exact of_decide_eq_false c3⟩
    · have c2' := of_decide_eq_false c2
      simp only [go_sem, Nat.reduceBEq, Array.reduceGetElem?, ↓reduceIte, t0, t1, t2, t3, t4, t12, t13, c2]
      exact ⟨i, rfl, sd, pt, hi0, fun h => by omega⟩
  · simp only [go_sem, Nat.reduceBEq]
    exact ⟨sd1, pt1⟩
  · rintro ts g' ⟨i, t0, t1, t2, t3, t4, t12, t13, sd, pt, hi0, hx1⟩
    simp only [go_sem]
    refine loopK_post 2 (fun j : Nat => j) (fun j ts g' => ts 0 = .slice (some ⟨g, 0, none⟩) L.length c ∧ ts 1 = .int .i64 a ∧ ts 2 = .int .i64 b ∧ ts 3 = .int .i64 p ∧ ts 4 = .func (.func K) #[] #[cv] ∧ ts 12 = .int .i64 (i : Nat) ∧ ts 13 = .int .i64 j ∧ Sd H0 g L0 g' M1 ∧ Pt cmp a b pv M1 i j ∧ (i ≤ j → ∀ x, M1[i]? = some x → ¬ cmp x pv < 0) ∧ j ≤ b') (fun ts g' => ∃ j : Nat, ts 0 = .slice (some ⟨g, 0, none⟩) L.length c ∧ ts 1 = .int .i64 a ∧ ts 2 = .int .i64 b ∧ ts 3 = .int .i64 p ∧ ts 4 = .func (.func K) #[] #[cv] ∧ ts 12 = .int .i64 (i : Nat) ∧ ts 13 = .int .i64 j ∧ Sd H0 g L0 g' M1 ∧ Pt cmp a b pv M1 i j ∧ (i ≤ j → ∀ x, M1[i]? = some x → ¬ cmp x pv < 0) ∧ (i ≤ j → ∀ x, M1[j]? = some x → cmp x pv < 0) ∧ j ≤ b') ?_ (a0 := b') ?_ ?_
    · rintro j ts g' ⟨t0, t1, t2, t3, t4, t12, t13, sd, pt, hu1, hj0⟩
      have hml := sd.len
      have pb := pt.jb
      have pij := pt.ij
      have pai := pt.ai
      simp only [go_sem, Nat.reduceBEq, Array.reduceGetElem?, t12, t13, pl138]
      refine ifK_intro (fun c2 => ?_) (fun c2 => ?_)
      · have c2' := of_decide_eq_true c2
        obtain ⟨k, rfl⟩ : ∃ k, j = k + 1 := ⟨j - 1, by omega⟩
        obtain ⟨u, x, hu, huL, lx, sx, _⟩ := sd.ld (i := k + 1) (by omega)
        obtain ⟨v, y, hv, hvL, ly, sy, _⟩ := sd.ld (i := a) (by omega)
        obtain rfl : pv = v := by have := pt.piv; rw [hv] at this; injection this with this; exact this.symm
        have huv : u ≠ pv := sd.ne ck.nd (by omega) hu hv
        have e2 : ((k + 1 : Nat) : Int) < L.length := by omega
        have e3 : (a : Int) < L.length := by omega
        have wi : IntKind.i64.wrap (((k + 1 : Nat) : Int) - 1) = (k : Int) := by rw [wrap_i64 (by omega) (by omega)]; omega
        simp only [go_sem, Nat.reduceBEq, Array.reduceGetElem?, ↓reduceIte, t0, t1, t4, t13, c2, lx, ly, e2, e3, Nat.zero_add]
        refine callK_intro (ck.run u huL pv hvL huv x y g' sd.le sx.at sy.at) ?_
        rintro _ h2 ⟨hle2, rfl⟩
        simp only [go_sem, Nat.reduceBEq, Array.reduceGetElem?, ↓reduceIte, c2]
        refine ifK_intro (fun c3 => ?_) (fun c3 => ?_)
        · simp only [go_sem, Nat.reduceBEq, t0, t1, t2, t3, t4, t12, t13]
          exact ⟨k + 1, rfl, sd.mono hle2, pt, hu1, (fun _ x hx => by rw [hu] at hx; injection hx with hx; subst hx; exact of_decide_eq_true c3), hj0⟩
        · simp only [go_sem, Nat.reduceBEq, t0, t1, t2, t3, t4, t12, t13, wi]
          exact ⟨k, by omega, rfl, sd.mono hle2, pt.dn (by omega) hu (ck.anti _ huL _ hvL huv (of_decide_eq_false c3)), fun h => hu1 (by omega), by omega⟩
      · have c2' := of_decide_eq_false c2
        simp only [go_sem, Nat.reduceBEq, Array.reduceGetElem?, ↓reduceIte, t0, t1, t2, t3, t4, t12, t13, c2]
        exact ⟨j, rfl, sd, pt, hu1, (fun h => by omega), hj0⟩
    · simp only [go_sem, t0, t1, t2, t3, t4, t12, t13]
      exact ⟨sd, pt, hx1⟩
    · rintro ts g' ⟨j, t0, t1, t2, t3, t4, t12, t13, sd, pt, hx1, hx2, hj0⟩
      have hml := sd.len
      have pb := pt.jb
      have pij := pt.ij
      have pai := pt.ai
      have paj := pt.aj
      have sgl := sg1.len
      simp only [go_sem, Nat.reduceBEq, t12, t13]
      refine ifK_intro (fun c5 => ?_) (fun c5 => ?_)
      · have c5' := of_decide_eq_true c5
        obtain ⟨u, x, hu, huL, lx, sx, _⟩ := sd.ld (i := j) (by omega)
        obtain ⟨v, y, hv, hvL, ly, sy, _⟩ := sd.ld (i := a) (by omega)
        obtain ⟨h3, h4, s3a, s4a, sd2⟩ := sd.swap hu hv sx sy
        obtain ⟨gx, ox, cx, rfl, hxx, _⟩ := id sx
        obtain ⟨gy, oy, cy, rfl, hyy, _⟩ := id sy
        have e2 : ((j : Nat) : Int) < L.length := by omega
        have e3 : ((a : Nat) : Int) < L.length := by omega
        simp only [go_sem, Nat.reduceBEq, Array.reduceGetElem?, ↓reduceIte, t0, t1, t13, c5, lx, ly, e2, e3, Nat.zero_add, s3a, s4a, pl138]
        exact ⟨swp M1 j a, j, true, sd2, sg1.trans (swp_seg (by omega) (by omega) (by omega) (by omega) (by omega)), pt.fin (by omega) (by omega), rfl⟩
      · have c5' := of_decide_eq_false c5
        obtain ⟨k, rfl⟩ : ∃ k, j = k + 1 := ⟨j - 1, by omega⟩
        have wi : IntKind.i64.wrap ((i : Int) + 1) = ((i + 1 : Nat) : Int) := wrap_i64 (by omega) (by omega)
        have wj : IntKind.i64.wrap (((k + 1 : Nat) : Int) - 1) = (k : Int) := by rw [wrap_i64 (by omega) (by omega)]; omega
        obtain ⟨u, x, hu, huL, lx, sx, _⟩ := sd.ld (i := i) (by omega)
        obtain ⟨v, y, hv, hvL, ly, sy, _⟩ := sd.ld (i := k + 1) (by omega)
        obtain ⟨h3, h4, s3a, s4a, sd2⟩ := sd.swap hu hv sx sy
        obtain ⟨gx, ox, cx, rfl, hxx, _⟩ := id sx
        obtain ⟨gy, oy, cy, rfl, hyy, _⟩ := id sy
        have e2 : ((i : Nat) : Int) < L.length := by omega
        have e3 : ((k + 1 : Nat) : Int) < L.length := by omega
        simp only [go_sem, Nat.reduceBEq, Array.reduceGetElem?, ↓reduceIte, t0, t12, t13, lx, ly, e2, e3, Nat.zero_add, s3a, s4a, pl138]
        have ne1 : i ≠ k + 1 := by
          rintro rfl
          exact hx1 (by omega) u hu (hx2 (by omega) u hu)
        have hva := pt.piv
        have pt2 := pt.sw (by omega) (by omega) hu hv (ck.anti _ huL _ (sd.perm.mem_iff.1 (List.mem_of_getElem? hva)) (sd.ne ck.nd (by omega) hu hva) (hx1 (by omega) u hu)) (hx2 (by omega) v hv)
        have sg2 := sg1.trans (swp_seg (L := M1) (i := i) (j := k + 1) (a := a) (b := b) (by omega) (by omega) (by omega) (by omega) (by omega))
        obtain ⟨M2, hM2⟩ : ∃ M2, swp M1 i (k + 1) = M2 := ⟨_, rfl⟩
        rw [hM2] at sd2 pt2 sg2
        obtain ⟨i2, hi2⟩ : ∃ i2, i + 1 = i2 := ⟨_, rfl⟩
        rw [hi2] at wi pt2
        simp only [go_sem]
        refine loopK_post 4 (fun q : Nat × Nat × List (List Rat) => 2000 + q.2.1 - q.1) (fun q ts g' => ts 0 = .slice (some ⟨g, 0, none⟩) L.length c ∧ ts 1 = .int .i64 a ∧ ts 2 = .int .i64 b ∧ ts 3 = .int .i64 p ∧ ts 4 = .func (.func K) #[] #[cv] ∧ ts 12 = .int .i64 q.1 ∧ ts 13 = .int .i64 q.2.1 ∧ Sd H0 g L0 g' q.2.2 ∧ SegP a b L q.2.2 ∧ Pt cmp a b pv q.2.2 q.1 q.2.1) (fun ts g' => ∃ (i j : Nat) (M : List (List Rat)), ts 0 = .slice (some ⟨g, 0, none⟩) L.length c ∧ ts 1 = .int .i64 a ∧ ts 2 = .int .i64 b ∧ ts 3 = .int .i64 p ∧ ts 4 = .func (.func K) #[] #[cv] ∧ ts 12 = .int .i64 i ∧ ts 13 = .int .i64 j ∧ Sd H0 g L0 g' M ∧ SegP a b L M ∧ Pt cmp a b pv M i j ∧ ¬ i ≤ j) ?_ (a0 := (i2, k, M2)) ?_ ?_
        · clear sd sd2 pt2 sg2 hM2 hi2
          rintro ⟨i0, j0, M⟩ ts g' ⟨t0, t1, t2, t3, t4, t12, t13, sd, sg, pt⟩
          have hij0 := pt.ij
          have hjb0 := pt.jb
          dsimp only at t12 t13 sd sg pt hij0 hjb0
          simp only [go_sem]
          refine loopK_post 6 (fun i : Nat => 2000 - i) (fun i ts g' => ts 0 = .slice (some ⟨g, 0, none⟩) L.length c ∧ ts 1 = .int .i64 a ∧ ts 2 = .int .i64 b ∧ ts 3 = .int .i64 p ∧ ts 4 = .func (.func K) #[] #[cv] ∧ ts 12 = .int .i64 i ∧ ts 13 = .int .i64 (j0 : Nat) ∧ Sd H0 g L0 g' M ∧ Pt cmp a b pv M i j0 ∧ i0 ≤ i) (fun ts g' => ∃ i : Nat, ts 0 = .slice (some ⟨g, 0, none⟩) L.length c ∧ ts 1 = .int .i64 a ∧ ts 2 = .int .i64 b ∧ ts 3 = .int .i64 p ∧ ts 4 = .func (.func K) #[] #[cv] ∧ ts 12 = .int .i64 i ∧ ts 13 = .int .i64 (j0 : Nat) ∧ Sd H0 g L0 g' M ∧ Pt cmp a b pv M i j0 ∧ i0 ≤ i ∧ (i ≤ j0 → ∀ x, M[i]? = some x → ¬ cmp x pv < 0)) ?_ (a0 := i0) ?_ ?_
          · rintro i ts g' ⟨t0, t1, t2, t3, t4, t12, t13, sd, pt, hi0⟩
            have hml := sd.len
            have pb := pt.jb
            have pij := pt.ij
            have pai := pt.ai
            simp only [go_sem, Nat.reduceBEq, Array.reduceGetElem?, t12, t13, pl138]
            refine ifK_intro (fun c2 => ?_) (fun c2 => ?_)
            · have c2' := of_decide_eq_true c2
              obtain ⟨u, x, hu, huL, lx, sx, _⟩ := sd.ld (i := i) (by omega)
              obtain ⟨v, y, hv, hvL, ly, sy, _⟩ := sd.ld (i := a) (by omega)
              obtain rfl : pv = v := by have := pt.piv; rw [hv] at this; injection this with this; exact this.symm
              have huv : u ≠ pv := sd.ne ck.nd (by omega) hu hv
              have e2 : (i : Int) < L.length := by omega
              have e3 : (a : Int) < L.length := by omega
              simp only [go_sem, Nat.reduceBEq, Array.reduceGetElem?, ↓reduceIte, t0, t1, t4, t12, c2, lx, ly, e2, e3, Nat.zero_add]
              refine callK_intro (ck.run u huL pv hvL huv x y g' sd.le sx.at sy.at) ?_
              rintro _ h2 ⟨hle2, rfl⟩
              have wi : IntKind.i64.wrap ((i : Int) + 1) = ((i + 1 : Nat) : Int) := wrap_i64 (by omega) (by omega)
              simp only [go_sem, Nat.reduceBEq, Array.reduceGetElem?, ↓reduceIte, c2]
              refine ifK_intro (fun c3 => ?_) (fun c3 => ?_)
              · simp only [go_sem, Nat.reduceBEq, t0, t1, t2, t3, t4, t12, t13, wi]
                exact ⟨i + 1, by omega, rfl, sd.mono hle2, pt.up (by omega) hu (of_decide_eq_true c3), by omega⟩
              · simp only [go_sem, Nat.reduceBEq, t0, t1, t2, t3, t4, t12, t13]
                exact ⟨i, rfl, sd.mono hle2, pt, hi0, fun _ x hx => by rw [hu] at hx; injection hx with hx; subst hx; exact of_decide_eq_false c3⟩
            · have c2' := of_decide_eq_false c2
              simp only [go_sem, Nat.reduceBEq, Array.reduceGetElem?, ↓reduceIte, t0, t1, t2, t3, t4, t12, t13, c2]
              exact ⟨i, rfl, sd, pt, hi0, fun h => by omega⟩
          · simp only [go_sem, t0, t1, t2, t3, t4, t12, t13]
            exact ⟨sd, pt⟩
          · rintro ts g' ⟨i, t0, t1, t2, t3, t4, t12, t13, sd, pt, hi0, hx1⟩
            simp only [go_sem]
            refine loopK_post 8 (fun j : Nat => j) (fun j ts g' => ts 0 = .slice (some ⟨g, 0, none⟩) L.length c ∧ ts 1 = .int .i64 a ∧ ts 2 = .int .i64 b ∧ ts 3 = .int .i64 p ∧ ts 4 = .func (.func K) #[] #[cv] ∧ ts 12 = .int .i64 (i : Nat) ∧ ts 13 = .int .i64 j ∧ Sd H0 g L0 g' M ∧ Pt cmp a b pv M i j ∧ (i ≤ j → ∀ x, M[i]? = some x → ¬ cmp x pv < 0) ∧ j ≤ j0) (fun ts g' => ∃ j : Nat, ts 0 = .slice (some ⟨g, 0, none⟩) L.length c ∧ ts 1 = .int .i64 a ∧ ts 2 = .int .i64 b ∧ ts 3 = .int .i64 p ∧ ts 4 = .func (.func K) #[] #[cv] ∧ ts 12 = .int .i64 (i : Nat) ∧ ts 13 = .int .i64 j ∧ Sd H0 g L0 g' M ∧ Pt cmp a b pv M i j ∧ (i ≤ j → ∀ x, M[i]? = some x → ¬ cmp x pv < 0) ∧ (i ≤ j → ∀ x, M[j]? = some x → cmp x pv < 0) ∧ j ≤ j0) ?_ (a0 := j0) ?_ ?_
            · rintro j ts g' ⟨t0, t1, t2, t3, t4, t12, t13, sd, pt, hu1, hj0⟩
              have hml := sd.len
              have pb := pt.jb
              have pij := pt.ij
              have pai := pt.ai
              simp only [go_sem, Nat.reduceBEq, Array.reduceGetElem?, t12, t13, pl138]
              refine ifK_intro (fun c2 => ?_) (fun c2 => ?_)
              · have c2' := of_decide_eq_true c2
                obtain ⟨k, rfl⟩ : ∃ k, j = k + 1 := ⟨j - 1, by omega⟩
                obtain ⟨u, x, hu, huL, lx, sx, _⟩ := sd.ld (i := k + 1) (by omega)
                obtain ⟨v, y, hv, hvL, ly, sy, _⟩ := sd.ld (i := a) (by omega)
                obtain rfl : pv = v := by have := pt.piv; rw [hv] at this; injection this with this; exact this.symm
                have huv : u ≠ pv := sd.ne ck.nd (by omega) hu hv
                have e2 : ((k + 1 : Nat) : Int) < L.length := by omega
                have e3 : (a : Int) < L.length := by omega
                have wi : IntKind.i64.wrap (((k + 1 : Nat) : Int) - 1) = (k : Int) := by rw [wrap_i64 (by omega) (by omega)]; omega
                simp only [go_sem, Nat.reduceBEq, Array.reduceGetElem?, ↓reduceIte, t0, t1, t4, t13, c2, lx, ly, e2, e3, Nat.zero_add]
                refine callK_intro (ck.run u huL pv hvL huv x y g' sd.le sx.at sy.at) ?_
                rintro _ h2 ⟨hle2, rfl⟩
                simp only [go_sem, Nat.reduceBEq, Array.reduceGetElem?, ↓reduceIte, c2]
                refine ifK_intro (fun c3 => ?_) (fun c3 => ?_)
                · simp only [go_sem, Nat.reduceBEq, t0, t1, t2, t3, t4, t12, t13]
                  exact ⟨k + 1, rfl, sd.mono hle2, pt, hu1, (fun _ x hx => by rw [hu] at hx; injection hx with hx; subst hx; exact of_decide_eq_true c3), hj0⟩
                · simp only [go_sem, Nat.reduceBEq, t0, t1, t2, t3, t4, t12, t13, wi]
                  exact ⟨k, by omega, rfl, sd.mono hle2, pt.dn (by omega) hu (ck.anti _ huL _ hvL huv (of_decide_eq_false c3)), fun h => hu1 (by omega), by omega⟩
              · have c2' := of_decide_eq_false c2
                simp only [go_sem, Nat.reduceBEq, Array.reduceGetElem?, ↓reduceIte, t0, t1, t2, t3, t4, t12, t13, c2]
                exact ⟨j, rfl, sd, pt, hu1, (fun h => by omega), hj0⟩
            · simp only [go_sem, t0, t1, t2, t3, t4, t12, t13]
              exact ⟨sd, pt, hx1⟩
            · rintro ts g' ⟨j, t0, t1, t2, t3, t4, t12, t13, sd, pt, hx1, hx2, hj0⟩
              have hml := sd.len
              have pb := pt.jb
              have pij := pt.ij
              have pai := pt.ai
              have paj := pt.aj
              have sgl := sg.len
              simp only [go_sem, Nat.reduceBEq, t12, t13]
              refine ifK_intro (fun c5 => ?_) (fun c5 => ?_)
              · have c5' := of_decide_eq_true c5
                simp only [go_sem, Nat.reduceBEq, t0, t1, t2, t3, t4, t12, t13]
                exact ⟨i, j, M, rfl, rfl, sd, sg, pt, by omega⟩
              · have c5' := of_decide_eq_false c5
                obtain ⟨k, rfl⟩ : ∃ k, j = k + 1 := ⟨j - 1, by omega⟩
                have wi : IntKind.i64.wrap ((i : Int) + 1) = ((i + 1 : Nat) : Int) := wrap_i64 (by omega) (by omega)
                have wj : IntKind.i64.wrap (((k + 1 : Nat) : Int) - 1) = (k : Int) := by rw [wrap_i64 (by omega) (by omega)]; omega
                obtain ⟨u, x, hu, huL, lx, sx, _⟩ := sd.ld (i := i) (by omega)
                obtain ⟨v, y, hv, hvL, ly, sy, _⟩ := sd.ld (i := k + 1) (by omega)
                obtain ⟨h3, h4, s3a, s4a, sd2⟩ := sd.swap hu hv sx sy
                obtain ⟨gx, ox, cx, rfl, hxx, _⟩ := id sx
                obtain ⟨gy, oy, cy, rfl, hyy, _⟩ := id sy
                have e2 : ((i : Nat) : Int) < L.length := by omega
                have e3 : ((k + 1 : Nat) : Int) < L.length := by omega
                simp only [go_sem, Nat.reduceBEq, Array.reduceGetElem?, ↓reduceIte, t0, t1, t2, t3, t4, t12, t13, lx, ly, e2, e3, Nat.zero_add, s3a, s4a, pl138]
                have ne1 : i ≠ k + 1 := by
                  rintro rfl
                  exact hx1 (by omega) u hu (hx2 (by omega) u hu)
                have hva := pt.piv
                have pt2 := pt.sw (by omega) (by omega) hu hv (ck.anti _ huL _ (sd.perm.mem_iff.1 (List.mem_of_getElem? hva)) (sd.ne ck.nd (by omega) hu hva) (hx1 (by omega) u hu)) (hx2 (by omega) v hv)
                have sg2 := sg.trans (swp_seg (L := M) (i := i) (j := k + 1) (a := a) (b := b) (by omega) (by omega) (by omega) (by omega) (by omega))
                simp only [go_sem, wi, wj]
                exact ⟨(i + 1, k, swp M i (k + 1)), by dsimp only; omega, rfl, rfl, sd2, sg2, pt2⟩
        · simp only [go_sem, Nat.reduceBEq, t0, t1, t2, t3, t4, wi, wj]
          exact ⟨sd2, sg2, pt2⟩
        · clear sd sd2 pt2 sg2 hM2 hi2
          rintro ts g' ⟨i, j, M, t0, t1, t2, t3, t4, t12, t13, sd, sg, pt, hij⟩
          have hml := sd.len
          have pb := pt.jb
          have paj := pt.aj
          have sgl := sg.len
          simp only [go_sem, Nat.reduceBEq, Array.reduceGetElem?, t0, t1, t13, pl138]
          obtain ⟨u, x, hu, huL, lx, sx, _⟩ := sd.ld (i := j) (by omega)
          obtain ⟨v, y, hv, hvL, ly, sy, _⟩ := sd.ld (i := a) (by omega)
          obtain ⟨h3, h4, s3a, s4a, sd2⟩ := sd.swap hu hv sx sy
          obtain ⟨gx, ox, cx, rfl, hxx, _⟩ := id sx
          obtain ⟨gy, oy, cy, rfl, hyy, _⟩ := id sy
          have e2 : ((j : Nat) : Int) < L.length := by omega
          have e3 : ((a : Nat) : Int) < L.length := by omega
          simp only [go_sem, Nat.reduceBEq, Array.reduceGetElem?, ↓reduceIte, t0, t13, lx, ly, e2, e3, Nat.zero_add, s3a, s4a]
          exact ⟨swp M j a, j, false, sd2, sg.trans (swp_seg (by omega) (by omega) (by omega) (by omega) (by omega)), pt.fin hij (by omega), rfl⟩
end Go.Proofs.Gh
namespace Go.Proofs.Gh
open Go Go.Proofs Go.Proofs.Zz
set_option maxRecDepth 10000
set_option linter.unusedSimpArgs false
/-- two ways that meet again -/
theorem ifK_join {P : Program} {E : GE} {pl : Plans} {b : Bool} {x y : Code} {R : TS → GH → Prop} {Q : GQ} {ts : TS} {h : GH} (J : TS → GH → Prop) (hx : b = true → gwp P E pl x (gthen J Q) ts h) (hy : b = false → gwp P E pl y (gthen J Q) ts h) (post : ∀ ts' h', J ts' h' → R ts' h') :
    ifK b (fun _ => gwp P E pl x (gthen R Q) ts h) (fun _ => gwp P E pl y (gthen R Q) ts h) := by
  have key : ∀ e t g, gthen J Q e t g → gthen R Q e t g := by
    intro e t g hg
    cases e with
    | normal => exact post _ _ hg
    | _ => exact hg
  cases b
  · exact gwp_mono y key (hy rfl)
  · exact gwp_mono x key (hx rfl)
theorem c_Next {h : GH} {k : Nat} {x : Int} (u : Uno h k (.int .u64 x)) :
    ∃ r h', GCalls Tryz.prog gE 177 #[.pointer (some ⟨k, 0, none⟩)] h r h' ∧ ∃ y : Int, r = .int .u64 y ∧ h' = h.upd k ⟨[.int .u64 y], true, false⟩ := by
  have st0 : ∀ z : Int, h.store k 0 [.int .u64 z] = some (h.upd k ⟨[.int .u64 z], true, false⟩) := fun z => cells_store (h := h) (g := k) (old := [.int .u64 x]) (vs := [.int .u64 z]) u.lt u.b rfl rfl
  have u1 : ∀ w : Int, Uno (h.upd k ⟨[.int .u64 w], true, false⟩) k (.int .u64 w) := fun w => ⟨u.lt, upd_self _ _ _⟩
  have uu : ∀ w z : Int, (h.upd k ⟨[.int .u64 w], true, false⟩).upd k ⟨[.int .u64 z], true, false⟩ = h.upd k ⟨[.int .u64 z], true, false⟩ := by
    intro w z
    unfold GH.upd
    congr 1
    funext q
    by_cases hq : q = k <;> simp [hq]
  have st1 : ∀ w z : Int, (h.upd k ⟨[.int .u64 w], true, false⟩).store k 0 [.int .u64 z] = some (h.upd k ⟨[.int .u64 z], true, false⟩) := fun w z => by
    rw [cells_store (h := h.upd k ⟨[.int .u64 w], true, false⟩) (g := k) (old := [.int .u64 w]) (vs := [.int .u64 z]) (u1 w).lt (u1 w).b rfl rfl, uu]
  have ld1 : ∀ w : Int, (h.upd k ⟨[.int .u64 w], true, false⟩).load k 0 1 = some [.int .u64 w] := fun w => (u1 w).l
  refine gcalls_in (pl := pl177) [.tmp 2] mixed Tryz.func177 rfl rfl (by exact ok177) ?_
  simp only [go_sem, Nat.reduceBEq, Int.reduceLE, Int.reduceToNat, Array.reduceGetElem?, ↓reduceIte, pl177, u.l, st0, st1, ld1]
  exact ⟨_, rfl, rfl⟩
theorem c_pow2 {h : GH} (n : Nat) (h1 : 1 ≤ n) (hn : n < 1000) :
    ∃ r h', GCalls Tryz.prog gE 176 #[.int .i64 n] h r h' ∧ h.le h' ∧ ∃ z : Nat, r = .int .u64 z ∧ n < z ∧ z ≤ 2 * n := by
  have w1 : IntKind.u64.wrap (n : Int) = n := wrap_u64 (by omega) (by omega)
  refine gcalls_in (pl := noPl) [.tmp 2] mixed Tryz.func176 rfl rfl (by exact ok176) ?_
  simp only [go_sem, Nat.reduceBEq, w1]
  refine callK_intro (c_Len n (by omega)) ?_
  rintro _ h2 ⟨hle2, l, rfl, l1, l2, l3⟩
  simp only [go_sem, ↓reduceIte]
  have hl : l ≠ 0 := by rintro rfl; simp at l1; omega
  obtain ⟨k, rfl⟩ : ∃ k, l = k + 1 := ⟨l - 1, by omega⟩
  have h3 : 2 ^ k ≤ n := by rcases l2 with h | h <;> simp_all
  have h4 : 2 ^ (k + 1) = 2 * 2 ^ k := by rw [Nat.pow_succ]; omega
  have e : (1 : Int) * 2 ^ min (k + 1) 64 = ((2 ^ (k + 1) : Nat) : Int) := by
    rw [Nat.min_eq_left (by omega), Int.one_mul, Int.natCast_pow]; rfl
  rw [e, wrap_u64 (by omega) (by omega)]
  exact ⟨hle2, 2 ^ (k + 1), rfl, l1, by omega⟩
theorem SzN.updU {h : GH} {v w : Value} {l : List Rat} {o : Option Nat} (s : SzN h v l o) {k : Nat} {X : GB} (d : Uno h k w) (hne : l ≠ []) : SzN (h.upd k X) v l o := by
  obtain ⟨g, oo, c, e, s, hg⟩ := s
  refine ⟨g, oo, c, e, ?_, hg⟩
  refine SlAt.leX leX_upd s ?_
  rintro hh
  injection hh with hh
  subst hh
  obtain ⟨q, l', rfl⟩ : ∃ q l', l = q :: l' := List.exists_cons_of_ne_nil hne
  have hl := s.load (i := 0) (x := rc q) rfl
  unfold GH.load at hl
  rw [d.b] at hl
  split at hl
  · rename_i hc
    simp only [Nat.zero_mul, Nat.add_zero, List.length_cons, List.length_nil] at hc
    omega
  · cases hl
theorem Sd.updU {H0 : GH} {g : Nat} {L0 : List (List Rat)} {h : GH} {L : List (List Rat)} (s : Sd H0 g L0 h L) {k : Nat} {w : Value} {X : GB} (d : Uno h k w) (hk : H0.n ≤ k) (hkg : g ≠ k) (hne : ∀ a ∈ L0, a ≠ []) : Sd H0 g L0 (h.upd k X) L := by
  obtain ⟨h1, vs, h2, h3, h4⟩ := s.srt
  refine ⟨s.le.upd hk _, s.hg, s.perm, h1, vs, (upd_ne _ _ hkg).trans h2, h3, fun i l hi => ?_⟩
  obtain ⟨x, k1, k2⟩ := h4 i l hi
  exact ⟨x, k1, k2.updU d (hne l (s.perm.mem_iff.1 (List.mem_of_getElem? hi)))⟩
theorem Sd.swapU {H0 : GH} {g : Nat} {L0 : List (List Rat)} {h : GH} {L : List (List Rat)} (s : Sd H0 g L0 h L) {i j : Nat} {u v : List Rat} {x y : Value} (hu : L[i]? = some u) (hv : L[j]? = some v) (sx : SzN h x u (some g)) (sy : SzN h y v (some g)) :
    ∃ h1 h2, h.store g i [y] = some h1 ∧ h1.store g j [x] = some h2 ∧ Sd H0 g L0 h2 (swp L i j) ∧ ∀ k w, k ≠ g → Uno h k w → Uno h2 k w := by
  obtain ⟨hi, ei⟩ := List.getElem?_eq_some_iff.1 hu
  obtain ⟨hj, ej⟩ := List.getElem?_eq_some_iff.1 hv
  obtain ⟨h3, s3a, s3b, s3c, s3d, s3e⟩ := s.srt.set (i := i) hi sy
  obtain ⟨h4, s4a, s4b, s4c, s4d, s4e⟩ := s3b.set (i := j) (by rw [List.length_set]; exact hj) (sx.leX s3c)
  refine ⟨h3, h4, s3a, s4a, ⟨s4e (s3e s.le s.hg) s.hg, s.hg, (swp_perm hi hj).trans s.perm, ?_⟩, fun k w hk u => ⟨by have := u.lt; omega, ?_⟩⟩
  · have : swp L i j = (L.set i v).set j u := by rw [swp, hu, hv]; rfl
    rw [this]
    exact s4b
  · have := u.lt
    rw [s4c.2 k (by omega) (fun e => by injection e with e; exact hk e), s3c.2 k (by omega) (fun e => by injection e with e; exact hk e)]
    exact u.b
theorem and_le (y : Int) (z : Nat) (hz : z < 18446744073709551616) : ∃ m : Nat, (((BitVec.ofInt 64 y &&& BitVec.ofInt 64 (z : Int)).toNat : Nat) : Int) = m ∧ m ≤ z := by
  refine ⟨_, rfl, ?_⟩
  rw [BitVec.toNat_and]
  refine Nat.le_trans Nat.and_le_right ?_
  rw [BitVec.toNat_ofInt]
  omega
theorem c_break {H0 h : GH} {g c K : Nat} {cv : Value} {L0 L : List (List Rat)} {a b : Nat} (s : Sd H0 g L0 h L) (hne : ∀ a ∈ L0, a ≠ []) (hb : b ≤ L.length) (h12 : a + 12 < b) (hlen : L.length ≤ 40) :
    ∃ r h', GCalls Tryz.prog gE 133 #[.slice (some ⟨g, 0, none⟩) L.length c, .int .i64 a, .int .i64 b, .func (.func K) #[] #[cv]] h r h' ∧ ∃ L', Sd H0 g L0 h' L' ∧ SegP a b L L' := by
  obtain ⟨n, hn⟩ : ∃ n, b = a + n := ⟨b - a, by omega⟩
  subst hn
  obtain ⟨q, hq⟩ : ∃ q, n / 4 = q := ⟨_, rfl⟩
  have w1 : IntKind.i64.wrap (((a + n : Nat) : Int) - a) = n := by rw [wrap_i64 (by omega) (by omega)]; omega
  have k8 : (8 : Int) ≤ n := by omega
  have wn : IntKind.u64.wrap (n : Int) = n := wrap_u64 (by omega) (by omega)
  have l0 : h.le (h.alloc ⟨[.int .u64 0], true, false⟩) := GH.le_alloc _ _
  have u0 : Uno (h.alloc ⟨[.int .u64 n], true, false⟩) h.n (.int .u64 n) := Uno.new _ _
  have st0 : (h.alloc ⟨[.int .u64 0], true, false⟩).store h.n 0 [.int .u64 n] = some (h.alloc ⟨[.int .u64 n], true, false⟩) := by
    rw [cells_store (h := h.alloc ⟨[.int .u64 0], true, false⟩) (g := h.n) (old := [.int .u64 0]) (vs := [.int .u64 n]) (Nat.lt_succ_self _) (alloc_self _ _) rfl rfl, alloc_upd]
  have s1 := s.mono (GH.le_alloc h ⟨[.int .u64 n], true, false⟩)
  have hgn : g < h.n := s.srt.1
  have hH0 : H0.n ≤ h.n := s.le.1
  have q0 : IntKind.i64.wrap ((n : Int).tdiv 4) = (q : Int) := by
    rw [tdiv_lit, hq]; exact wrap_i64 (by omega) (by omega)
  have q1 : IntKind.i64.wrap ((a : Int) + IntKind.i64.wrap ((q : Int) * 2)) = ((a + q * 2 : Nat) : Int) := by rw [wrap_i64 (x := (q : Int) * 2) (by omega) (by omega), wrap_i64 (by omega) (by omega)]; omega
  have q2 : IntKind.i64.wrap (((a + q * 2 : Nat) : Int) - 1) = ((a + q * 2 - 1 : Nat) : Int) := by rw [wrap_i64 (by omega) (by omega)]; omega
  have q3 : IntKind.i64.wrap (((a + q * 2 : Nat) : Int) + 1) = ((a + q * 2 + 1 : Nat) : Int) := by rw [wrap_i64 (by omega) (by omega)]; omega
  refine gcalls_in (pl := pl133) [] mixed Tryz.func133 rfl rfl (by exact ok133) ?_
  simp only [go_sem, Nat.reduceBEq, ↓reduceIte, w1, k8, wn, st0]
  refine callK_intro (c_pow2 n (by omega) (by omega)) ?_
  rintro _ h2 ⟨hle2, z, rfl, z1, z2⟩
  simp only [go_sem, Nat.reduceBEq, Int.reduceEq, ↓reduceIte, q0, q1, q2]
  have w9 : h2.le h2 := GH.le.refl _
  have s2 := s1.mono hle2
  have u2 := u0.mono hle2
  have qn : q * 2 + 1 < n := by omega
  have q1' : 3 ≤ q := by omega
  clear s1 u0 st0 hle2 w9 l0
  refine loopK_inv (α := Nat) (fun i => 2000 - i) (fun i ts g' => ∃ (M : List (List Rat)) (x : Int), ts 0 = .slice (some ⟨g, 0, none⟩) L.length c ∧ ts 1 = .int .i64 a ∧ ts 8 = .int .i64 n ∧ ts 9 = .pointer (some ⟨h.n, 0, none⟩) ∧ ts 10 = .int .u64 z ∧ ts 11 = .int .i64 i ∧ a + q * 2 - 1 ≤ i ∧ i ≤ a + q * 2 + 2 ∧ Uno g' h.n (.int .u64 x) ∧ Sd H0 g L0 g' M ∧ SegP a (a + n) L M) ?_ (a0 := a + q * 2 - 1) ?_
  · rintro i ts g' ⟨M, x, t0, t1, t8, t9, t10, t11, hi1, hi2, u, sd, sg⟩
    have hml := sg.len
    simp only [go_sem, Nat.reduceBEq, Int.reduceEq, ↓reduceIte, t1, t8, t11, q0, q1, q3]
    refine ifK_intro (fun c1 => ?_) (fun c1 => ?_)
    · have c1' := of_decide_eq_true c1
      simp only [go_sem, Nat.reduceBEq, t9, c1]
      refine callK_intro (c_Next u) ?_
      rintro _ h3 ⟨y, rfl, rfl⟩
      have u3 : Uno (g'.upd h.n ⟨[.int .u64 y], true, false⟩) h.n (.int .u64 y) := ⟨u.lt, upd_self _ _ _⟩
      have sd3 := sd.updU (X := ⟨[.int .u64 y], true, false⟩) u hH0 (by omega) hne
      obtain ⟨h3, hh3⟩ : ∃ h3, g'.upd h.n ⟨[.int .u64 y], true, false⟩ = h3 := ⟨_, rfl⟩
      rw [hh3] at u3 sd3
      have wz : IntKind.u64.wrap ((z : Int) - 1) = ((z - 1 : Nat) : Int) := by rw [wrap_u64 (by omega) (by omega)]; omega
      obtain ⟨m, hm, hm2⟩ := and_le y (z - 1) (by omega)
      have wm : IntKind.u64.wrap (m : Int) = m := wrap_u64 (by omega) (by omega)
      have wm2 : IntKind.i64.wrap (m : Int) = m := wrap_i64 (by omega) (by omega)
      simp only [go_sem, Nat.reduceBEq, t8, t10, hh3, wz]
      generalize hE : IntKind.i64.wrap (IntKind.u64.wrap _) = E
      obtain rfl : E = (m : Int) := by
        rw [← hE]
        exact (congrArg (fun q => IntKind.i64.wrap (IntKind.u64.wrap q)) hm).trans (by rw [wm, wm2])
      refine ifK_join (fun ts g2 => ∃ o : Nat, o < n ∧ ts 0 = .slice (some ⟨g, 0, none⟩) L.length c ∧ ts 1 = .int .i64 a ∧ ts 8 = .int .i64 n ∧ ts 9 = .pointer (some ⟨h.n, 0, none⟩) ∧ ts 10 = .int .u64 z ∧ ts 11 = .int .i64 i ∧ ts 12 = .int .i64 o ∧ g2 = h3) ?_ ?_ ?_
      · intro c2
        have c2' := of_decide_eq_true c2
        have wo : IntKind.i64.wrap ((m : Int) - n) = ((m - n : Nat) : Int) := by rw [wrap_i64 (by omega) (by omega)]; omega
        simp only [go_sem, Nat.reduceBEq, t0, t1, t8, t9, t10, t11, wo]
        exact ⟨m - n, by omega, rfl⟩
      · intro c2
        have c2' := of_decide_eq_false c2
        simp only [go_sem, Nat.reduceBEq, t0, t1, t8, t9, t10, t11]
        exact ⟨m, by omega, rfl⟩
      · clear t0 t1 t8 t9 t10 t11
        rintro ts g2 ⟨o, ho, t0, t1, t8, t9, t10, t11, t12, rfl⟩
        obtain ⟨v1, x1, hu, huL, lx, sx, _⟩ := sd3.ld (i := i) (by omega)
        obtain ⟨v2, x2, hv, hvL, ly, sy, _⟩ := sd3.ld (i := a + o) (by omega)
        obtain ⟨h4, h5, s3a, s4a, sd5, uu⟩ := sd3.swapU hu hv sx sy
        obtain ⟨gx, ox, cx, rfl, hxx, _⟩ := id sx
        obtain ⟨gy, oy, cy, rfl, hyy, _⟩ := id sy
        have e2 : (i : Int) < L.length := by omega
        have e3 : ((a + o : Nat) : Int) < L.length := by omega
        have wo : IntKind.i64.wrap ((a : Int) + o) = ((a + o : Nat) : Int) := by rw [wrap_i64 (by omega) (by omega)]; omega
        have wi : IntKind.i64.wrap ((i : Int) + 1) = ((i + 1 : Nat) : Int) := wrap_i64 (by omega) (by omega)
        simp only [go_sem, Nat.reduceBEq, Array.reduceGetElem?, ↓reduceIte, t0, t1, t8, t9, t10, t11, t12, lx, ly, e2, e3, Nat.zero_add, s3a, s4a, wo, wi, pl133]
        exact ⟨i + 1, by omega, _, y, rfl, by omega, by omega, uu _ _ (by omega) u3, sd5, sg.trans (swp_seg (by omega) (by omega) (by omega) (by omega) (by omega))⟩
    · have c1' := of_decide_eq_false c1
      simp only [go_sem]
      exact ⟨M, sd, sg⟩
  · simp only [go_sem, Nat.reduceBEq]
    exact ⟨L, n, by omega, u2, s2, SegP.refl _ _ _⟩
end Go.Proofs.Gh
namespace Go.Proofs.Gh
open Go Go.Proofs Go.Proofs.Zz
set_option maxRecDepth 10000
set_option linter.unusedSimpArgs false
theorem gwp_cut {P : Program} {E : GE} {pl : Plans} {x : Code} {R : TS → GH → Prop} {Q : GQ} {ts : TS} {h : GH} (J : TS → GH → Prop) (hx : gwp P E pl x (gthen J Q) ts h) (post : ∀ ts' h', J ts' h' → R ts' h') : gwp P E pl x (gthen R Q) ts h := by
  refine gwp_mono x ?_ hx
  intro e t g hg
  cases e with
  | normal => exact post _ _ hg
  | _ => exact hg
theorem ifK_joinL {P : Program} {E : GE} {b : Bool} {ops : Array Oper} {l1 l2 : List Oper} {K : TS → GH → Prop} {ts1 ts2 : TS} {h1 h2 : GH} (J : TS → GH → Prop) (hx : b = true → gList P E ops J l1 ts1 h1) (hy : b = false → gList P E ops J l2 ts2 h2) (post : ∀ ts' h', J ts' h' → K ts' h') :
    ifK b (fun _ => gList P E ops K l1 ts1 h1) (fun _ => gList P E ops K l2 ts2 h2) := by
  cases b
  · exact gList_mono post l2 (hy rfl)
  · exact gList_mono post l1 (hx rfl)
/-- what holds around the part that is still to be sorted -/
structure Inv2 (cmp : List Rat → List Rat → Int) (a b : Nat) (M : List (List Rat)) : Prop where
  ab : a ≤ b
  bn : b ≤ M.length
  adj : ∀ k, (k + 1 < a ∨ b ≤ k) → Adj cmp M k
  lo : 0 < a → ∀ i u v, a ≤ i → i ≤ b → M[a - 1]? = some u → M[i]? = some v → cmp u v < 0
  hi : ∀ i u v, a ≤ i → i < b → M[i]? = some u → M[b]? = some v → cmp u v < 0
theorem SegP.adj {cmp : List Rat → List Rat → Int} {a b : Nat} {M M' : List (List Rat)} (s : SegP a b M M') {k : Nat} (hk : k + 1 < a ∨ b ≤ k) (h : Adj cmp M k) : Adj cmp M' k := by
  intro u v hu hv
  rw [s.out k (by omega)] at hu
  rw [s.out (k + 1) (by omega)] at hv
  exact h u v hu hv
theorem SegP.loB {cmp : List Rat → List Rat → Int} {a b : Nat} {M M' : List (List Rat)} (s : SegP a b M M') {w : List Rat} {n : Nat} (h : ∀ i v, a ≤ i → i ≤ n → M[i]? = some v → cmp w v < 0) (hn : b ≤ n + 1) : ∀ i v, a ≤ i → i ≤ n → M'[i]? = some v → cmp w v < 0 := by
  intro i v h1 h2 hv
  by_cases hb : i < b
  · obtain ⟨j, j1, j2, j3⟩ := s.ins i h1 hb
    rw [j3] at hv
    exact h j v j1 (by omega) hv
  · rw [s.out i (by omega)] at hv
    exact h i v h1 h2 hv
theorem Inv2.seg {cmp : List Rat → List Rat → Int} {a b : Nat} {M M' : List (List Rat)} (p : Inv2 cmp a b M) (s : SegP a b M M') : Inv2 cmp a b M' := by
  refine ⟨p.ab, by rw [s.len]; exact p.bn, fun k hk => s.adj hk (p.adj k hk), fun h0 i u v h1 h2 hu hv => ?_, fun i u v h1 h2 hu hv => ?_⟩
  · rw [s.out (a - 1) (by omega)] at hu
    by_cases hb : i < b
    · obtain ⟨j, j1, j2, j3⟩ := s.ins i h1 hb
      rw [j3] at hv
      exact p.lo h0 j u v j1 (by omega) hu hv
    · rw [s.out i (by omega)] at hv
      exact p.lo h0 i u v h1 h2 hu hv
  · rw [s.out b (by omega)] at hv
    obtain ⟨j, j1, j2, j3⟩ := s.ins i h1 h2
    rw [j3] at hu
    exact p.hi j u v j1 j2 hu hv
/-- the part is sorted: all is -/
theorem Inv2.fin {cmp : List Rat → List Rat → Int} {a b : Nat} {M M' : List (List Rat)} (p : Inv2 cmp a b M) (s : SegP a b M M') (h : ∀ k, a ≤ k → k + 1 < b → Adj cmp M' k) : ∀ k, Adj cmp M' k := by
  have q := p.seg s
  have hab := p.ab
  intro k
  by_cases h1 : k + 1 < a ∨ b ≤ k
  · exact q.adj k h1
  · by_cases h2 : k + 1 = a
    · intro u v hu hv
      exact q.lo (by omega) (k + 1) u v (by omega) (by omega) (by rw [show a - 1 = k by omega]; exact hu) hv
    · by_cases h3 : k + 1 < b
      · exact h k (by omega) h3
      · intro u v hu hv
        exact q.hi k u v (by omega) (by omega) hu (by rw [show b = k + 1 by omega]; exact hv)
theorem Inv2.right {cmp : List Rat → List Rat → Int} {a b m : Nat} {M M' : List (List Rat)} (p : Inv2 cmp a b M) (d : Pd cmp a b M m) (s : SegP a m M M') (h : ∀ k, a ≤ k → k + 1 < m → Adj cmp M' k) : Inv2 cmp (m + 1) b M' := by
  have am := d.am
  have mb := d.mb
  have hbn := p.bn
  refine ⟨by omega, by rw [s.len]; exact p.bn, fun k hk => ?_, fun _ i u v h1 h2 hu hv => ?_, fun i u v h1 h2 hu hv => ?_⟩
  · by_cases k1 : k + 1 < a ∨ m ≤ k
    · exact s.adj k1 (p.adj k (by omega))
    · by_cases k2 : k + 1 = a
      · intro u v hu hv
        rw [s.out k (by omega)] at hu
        by_cases k4 : k + 1 < m
        · obtain ⟨j, j1, j2, j3⟩ := s.ins (k + 1) (by omega) k4
          rw [j3] at hv
          exact p.lo (by omega) j u v j1 (by omega) (by rw [show a - 1 = k by omega]; exact hu) hv
        · rw [s.out (k + 1) (by omega)] at hv
          exact p.lo (by omega) (k + 1) u v (by omega) (by omega) (by rw [show a - 1 = k by omega]; exact hu) hv
      · by_cases k3 : k + 1 < m
        · exact h k (by omega) k3
        · intro u v hu hv
          obtain ⟨j, j1, j2, j3⟩ := s.ins k (by omega) (by omega)
          rw [j3] at hu
          rw [s.out (k + 1) (by omega), show k + 1 = m by omega] at hv
          exact d.lo j u v j1 j2 hu hv
  · rw [Nat.add_sub_cancel, s.out m (by omega)] at hu
    rw [s.out i (by omega)] at hv
    by_cases hb : i < b
    · exact d.hi i v u (by omega) hb hv hu
    · rw [show i = b by omega] at hv
      exact p.hi m u v am mb hu hv
  · rw [s.out i (by omega)] at hu
    rw [s.out b (by omega)] at hv
    exact p.hi i u v (by omega) h2 hu hv
theorem Inv2.left {cmp : List Rat → List Rat → Int} {a b m : Nat} {M M' : List (List Rat)} (p : Inv2 cmp a b M) (d : Pd cmp a b M m) (s : SegP (m + 1) b M M') (h : ∀ k, m + 1 ≤ k → k + 1 < b → Adj cmp M' k) : Inv2 cmp a m M' := by
  have am := d.am
  have mb := d.mb
  have hbn := p.bn
  refine ⟨am, by rw [s.len]; omega, fun k hk => ?_, fun h0 i u v h1 h2 hu hv => ?_, fun i u v h1 h2 hu hv => ?_⟩
  · by_cases k1 : k + 1 < m + 1 ∨ b ≤ k
    · exact s.adj k1 (p.adj k (by omega))
    · by_cases k2 : k = m
      · subst k2
        intro u v hu hv
        rw [s.out k (by omega)] at hu
        by_cases k4 : k + 1 < b
        · obtain ⟨j, j1, j2, j3⟩ := s.ins (k + 1) (by omega) k4
          rw [j3] at hv
          exact d.hi j v u (by omega) j2 hv hu
        · rw [s.out (k + 1) (by omega), show k + 1 = b by omega] at hv
          exact p.hi k u v am mb hu hv
      · by_cases k3 : k + 1 < b
        · exact h k (by omega) k3
        · intro u v hu hv
          obtain ⟨j, j1, j2, j3⟩ := s.ins k (by omega) (by omega)
          rw [j3] at hu
          rw [s.out (k + 1) (by omega), show k + 1 = b by omega] at hv
          exact p.hi j u v (by omega) j2 hu hv
  · rw [s.out (a - 1) (by omega)] at hu
    rw [s.out i (by omega)] at hv
    exact p.lo h0 i u v h1 (by omega) hu hv
  · rw [s.out i (by omega)] at hu
    rw [s.out m (by omega)] at hv
    exact d.lo i u v h1 h2 hu hv
theorem c_pdq0 {H0 h : GH} {g c K : Nat} {cv : Value} {L0 L : List (List Rat)} {cmp : List Rat → List Rat → Int} {a b : Nat} (lim : Int) (ck : CmpOk H0 K cv cmp L0) (s : Sd H0 g L0 h L) (hb : b ≤ L.length) (h12 : b ≤ a + 12) (hlen : L.length ≤ 1000) (ha : a ≤ 1000) :
    ∃ r h', GCalls Tryz.prog gE 99 #[.slice (some ⟨g, 0, none⟩) L.length c, .int .i64 a, .int .i64 b, .int .i64 lim, .func (.func K) #[] #[cv]] h r h' ∧ ∃ L', Sd H0 g L0 h' L' ∧ SegP a b L L' ∧ ∀ k, a ≤ k → k + 1 < b → Adj cmp L' k := by
  have w1 : IntKind.i64.wrap ((b : Int) - a) = (b : Int) - a := wrap_i64 (by omega) (by omega)
  have k1 : (b : Int) - a ≤ 12 := by omega
  refine gcalls_in (pl := pl99) [] mixed Tryz.func99 rfl rfl (by exact ok99) ?_
  simp only [go_sem]
  refine loopK_unroll ?_
  simp only [go_sem, Nat.reduceBEq, w1, k1]
  refine callK_intro (c_isrt ck s hb hlen ha) ?_
  rintro r1 h1 ⟨L', p1, p2, p3⟩
  simp only [go_sem]
  exact ⟨L', p1, p2, p3⟩
theorem c_pdq17 {H0 h : GH} {g c K : Nat} {cv : Value} {L0 L : List (List Rat)} {cmp : List Rat → List Rat → Int} {l0 : Nat} (ck : CmpOk H0 K cv cmp L0) (s : Sd H0 g L0 h L) (hne : ∀ a ∈ L0, a ≠ []) (hl : L.length ≤ 12 + l0) (hl2 : l0 ≤ 100) (hlen : L.length ≤ 24) :
    ∃ r h', GCalls Tryz.prog gE 99 #[.slice (some ⟨g, 0, none⟩) L.length c, .int .i64 0, .int .i64 L.length, .int .i64 l0, .func (.func K) #[] #[cv]] h r h' ∧ ∃ L', Sd H0 g L0 h' L' ∧ ∀ k, Adj cmp L' k := by
  refine gcalls_in (pl := pl99) [] mixed Tryz.func99 rfl rfl (by exact ok99) ?_
  simp only [go_sem]
  refine loopK_inv (α := Nat × Nat × Nat × List (List Rat)) (fun q => q.2.1 - q.1) (fun q ts g' => ∃ wb wp : Bool, ts 0 = .slice (some ⟨g, 0, none⟩) L.length c ∧ ts 1 = .int .i64 q.1 ∧ ts 2 = .int .i64 q.2.1 ∧ ts 3 = .int .i64 q.2.2.1 ∧ ts 4 = .func (.func K) #[] #[cv] ∧ ts 10 = .bool wb ∧ ts 11 = .bool wp ∧ Sd H0 g L0 g' q.2.2.2 ∧ Inv2 cmp q.1 q.2.1 q.2.2.2 ∧ q.2.1 ≤ q.1 + 12 + q.2.2.1 ∧ q.2.2.1 ≤ 100) ?_ (a0 := (0, L.length, l0, L)) ?_
  · rintro ⟨a, b, l, M⟩ ts g' ⟨wb, wp, t0, t1, t2, t3, t4, t10, t11, sd, inv, hl, hl2⟩
    dsimp only at t1 t2 t3 sd inv hl hl2
    have hML : M.length = L.length := by rw [sd.len, s.len]
    have hab := inv.ab
    have hbn := inv.bn
    have w1 : IntKind.i64.wrap ((b : Int) - a) = ((b - a : Nat) : Int) := by rw [wrap_i64 (by omega) (by omega)]; omega
    simp only [go_sem, Nat.reduceBEq, t1, t2, w1]
    refine ifK_intro (fun c1 => ?_) (fun c1 => ?_)
    · have c1' := of_decide_eq_true c1
      have hi := c_isrt (c := c) (a := a) (b := b) ck sd hbn (by omega) (by omega)
      rw [hML] at hi
      simp only [go_sem, Nat.reduceBEq, t0, t1, t2, t4]
      refine callK_intro hi ?_
      rintro _ h1 ⟨L', p1, p2, p3⟩
      simp only [go_sem]
      exact ⟨L', p1, inv.fin p2 p3⟩
    · have c1' := of_decide_eq_false c1
      have nl : ¬ ((l : Int) = 0) := by omega
      simp only [go_sem, Nat.reduceBEq, t3, t10, nl]
      refine ifK_join (fun ts g2 => ∃ (l' : Nat) (M' : List (List Rat)), ts 0 = .slice (some ⟨g, 0, none⟩) L.length c ∧ ts 1 = .int .i64 a ∧ ts 2 = .int .i64 b ∧ ts 3 = .int .i64 l' ∧ ts 4 = .func (.func K) #[] #[cv] ∧ ts 10 = .bool wb ∧ ts 11 = .bool wp ∧ ts 12 = .int .i64 ((b - a : Nat) : Int) ∧ Sd H0 g L0 g2 M' ∧ Inv2 cmp a b M' ∧ b ≤ a + 13 + l' ∧ l' ≤ 100) ?_ ?_ ?_
      · intro c2
        simp only [go_sem, Nat.reduceBEq, t0, t1, t2, t3, t4, t10, t11]
        exact ⟨l, M, rfl, sd, inv, by omega, hl2⟩
      · intro c2
        have hi := c_break (c := c) (K := K) (cv := cv) (a := a) (b := b) sd hne hbn (by omega) (by omega)
        rw [hML] at hi
        simp only [go_sem, Nat.reduceBEq, t0, t1, t2, t4]
        refine callK_intro hi ?_
        rintro _ h1 ⟨M', p1, p2⟩
        have wl : IntKind.i64.wrap ((l : Int) - 1) = ((l - 1 : Nat) : Int) := by rw [wrap_i64 (by omega) (by omega)]; omega
        simp only [go_sem, Nat.reduceBEq, t0, t1, t2, t3, t4, t10, t11, wl]
        exact ⟨l - 1, M', rfl, p1, inv.seg p2, by omega, by omega⟩
      · clear t0 t1 t2 t3 t4 t10 t11 sd inv
        rintro ts g2 ⟨l', M', t0, t1, t2, t3, t4, t10, t11, t12, sd, inv, hl', hl2'⟩
        have hML' : M'.length = L.length := by rw [sd.len, s.len]
        have hi := c_choose (c := c) (a := a) (b := b) ck sd (by omega) (by omega) (by omega)
        rw [hML'] at hi
        simp only [go_sem, Nat.reduceBEq, t0, t1, t2, t4]
        refine callK_intro hi ?_
        rintro _ h1 ⟨hle1, p, t, pa, pb, ht, rfl⟩
        have sd1 := sd.mono hle1
        simp only [go_sem, Nat.reduceBEq, Array.reduceGetElem?]
        refine ifK_join (fun ts g2 => ts 0 = .slice (some ⟨g, 0, none⟩) L.length c ∧ ts 1 = .int .i64 a ∧ ts 2 = .int .i64 b ∧ ts 3 = .int .i64 l' ∧ ts 4 = .func (.func K) #[] #[cv] ∧ ts 10 = .bool wb ∧ ts 11 = .bool wp ∧ ts 12 = .int .i64 ((b - a : Nat) : Int) ∧ ts 13 = .int .i64 p ∧ ts 14 = .int .i64 t ∧ h1 = g2) (fun c2 => ?_) (fun c2 => ?_) ?_
        · have := of_decide_eq_true c2
          omega
        · simp only [go_sem, Nat.reduceBEq, t0, t1, t2, t3, t4, t10, t11, t12]
        · clear t0 t1 t2 t3 t4 t10 t11 t12
          rintro ts g2 ⟨t0, t1, t2, t3, t4, t10, t11, t12, t13, t14, rfl⟩
          rw [gwp_seq]
          refine gwp_cut (fun ts g2 => ts 0 = .slice (some ⟨g, 0, none⟩) L.length c ∧ ts 1 = .int .i64 a ∧ ts 2 = .int .i64 b ∧ ts 3 = .int .i64 l' ∧ ts 4 = .func (.func K) #[] #[cv] ∧ ts 12 = .int .i64 ((b - a : Nat) : Int) ∧ ts 13 = .int .i64 p ∧ h1.le g2) ?_ ?_
          · have hi := c_partial (c := c) (a := a) (b := b) ck sd1 (by omega) (by omega) (by omega)
            rw [hML'] at hi
            have t01 : t = 0 ∨ t = 1 := by omega
            cases wb
            · simp only [go_sem, Nat.reduceBEq, Array.reduceGetElem?, ↓reduceIte, t0, t1, t2, t3, t4, t10, t12, t13]
              exact GH.le.refl _
            · cases wp
              · simp only [go_sem, Nat.reduceBEq, Array.reduceGetElem?, ↓reduceIte, t0, t1, t2, t3, t4, t10, t11, t12, t13]
                exact GH.le.refl _
              · rcases t01 with rfl | rfl
                · simp only [go_sem, Nat.reduceBEq, Int.reduceEq, Array.reduceGetElem?, ↓reduceIte, t0, t1, t2, t3, t4, t10, t11, t12, t13, t14]
                  exact GH.le.refl _
                · simp only [go_sem, Nat.reduceBEq, Array.reduceGetElem?, ↓reduceIte, t0, t1, t2, t4, t10, t11, t14]
                  refine callK_intro hi ?_
                  rintro _ h3 ⟨hle3, o, rfl, ho⟩
                  cases o
                  · simp only [go_sem, Nat.reduceBEq, t0, t1, t2, t3, t4, t12, t13]
                    exact hle3
                  · simp only [go_sem]
                    exact ⟨M', sd1.mono hle3, inv.fin (SegP.refl _ _ _) (ho rfl)⟩
          · clear t0 t1 t2 t3 t4 t10 t11 t12 t13 t14
            rintro ts h3 ⟨t0, t1, t2, t3, t4, t12, t13, hle3⟩
            have sd3 := sd1.mono hle3
            rw [gwp_seq]
            refine gwp_cut (fun ts g2 => ts 0 = .slice (some ⟨g, 0, none⟩) L.length c ∧ ts 1 = .int .i64 a ∧ ts 2 = .int .i64 b ∧ ts 3 = .int .i64 l' ∧ ts 4 = .func (.func K) #[] #[cv] ∧ ts 12 = .int .i64 ((b - a : Nat) : Int) ∧ ts 13 = .int .i64 p ∧ h3.le g2) ?_ ?_
            · simp only [go_sem, Array.reduceGetElem?, t1, pl99]
              refine ifK_intro (fun c4 => ?_) (fun c4 => ?_)
              · have c4' := of_decide_eq_true c4
                obtain ⟨u, x, hu, huL, lx, sx, _⟩ := sd3.ld (i := a - 1) (by omega)
                obtain ⟨v, y, hv, hvL, ly, sy, _⟩ := sd3.ld (i := p) (by omega)
                have huv : u ≠ v := sd3.ne ck.nd (by omega) hu hv
                have e1 : IntKind.i64.wrap ((a : Int) - 1) = ((a - 1 : Nat) : Int) := by rw [wrap_i64 (by omega) (by omega)]; omega
                have e2 : ((a - 1 : Nat) : Int) < L.length := by omega
                have e3 : (p : Int) < L.length := by omega
                have e4 := inv.lo (by omega) p u v pa (by omega) hu hv
                simp only [go_sem, Nat.reduceBEq, Array.reduceGetElem?, ↓reduceIte, t0, t1, t4, t13, c4, e1, e2, e3, lx, ly, Nat.zero_add]
                refine callK_intro (ck.run u huL v hvL huv x y h3 sd3.le sx.at sy.at) ?_
                rintro _ h6 ⟨hle6, rfl⟩
                simp only [go_sem, Nat.reduceBEq, Array.reduceGetElem?, ↓reduceIte, t0, t1, t2, t3, t4, t12, t13, c4, e4]
                exact hle6
              · simp only [go_sem, Nat.reduceBEq, Array.reduceGetElem?, ↓reduceIte, t0, t1, t2, t3, t4, t12, t13, c4]
                exact GH.le.refl _
            · clear t0 t1 t2 t3 t4 t12 t13
              rintro ts h4 ⟨t0, t1, t2, t3, t4, t12, t13, hle4⟩
              have sd4 := sd3.mono hle4
              have hi := c_partition (c := c) ck sd4 (by omega) pa pb (by omega)
              rw [hML'] at hi
              simp only [go_sem, Nat.reduceBEq, t0, t1, t2, t4, t13]
              refine callK_intro hi ?_
              rintro _ h5 ⟨M5, m, o, sd5, sg5, pd5, rfl⟩
              have inv5 := inv.seg sg5
              have am := pd5.am
              have mb := pd5.mb
              have hM5 : M5.length = L.length := by rw [sd5.len, s.len]
              have x1 : IntKind.i64.wrap ((m : Int) - a) = ((m - a : Nat) : Int) := by rw [wrap_i64 (by omega) (by omega)]; omega
              have x2 : IntKind.i64.wrap ((b : Int) - m) = ((b - m : Nat) : Int) := by rw [wrap_i64 (by omega) (by omega)]; omega
              have x3 : IntKind.i64.wrap ((m : Int) + 1) = ((m + 1 : Nat) : Int) := by rw [wrap_i64 (by omega) (by omega)]; omega
              simp only [go_sem, Nat.reduceBEq, Int.reduceEq, Array.reduceGetElem?, ↓reduceIte, t1, t2, t12, x1, x2]
              refine ifK_intro (fun c5 => ?_) (fun c5 => ?_)
              · have c5' := of_decide_eq_true c5
                have hr := c_pdq0 (c := c) (a := a) (b := m) l' ck sd5 (by omega) (by omega) (by omega) (by omega)
                rw [hM5] at hr
                simp only [go_sem, Nat.reduceBEq, t0, t1, t3, t4]
                refine callK_intro hr ?_
                rintro _ h6 ⟨M6, p1, p2, p3⟩
                simp only [go_sem, Nat.reduceBEq, t0, t2, t3, t4, x3]
                exact ⟨(m + 1, b, l', M6), by dsimp only; omega, _, _, rfl, rfl, rfl, rfl, rfl, p1, inv5.right pd5 p2 p3, by dsimp only; omega, by dsimp only; omega⟩
              · have c5' := of_decide_eq_false c5
                have hr := c_pdq0 (c := c) (a := m + 1) (b := b) l' ck sd5 (by omega) (by omega) (by omega) (by omega)
                rw [hM5] at hr
                simp only [go_sem, Nat.reduceBEq, t0, t2, t3, t4, x3]
                refine callK_intro hr ?_
                rintro _ h6 ⟨M6, p1, p2, p3⟩
                simp only [go_sem, Nat.reduceBEq, t0, t1, t3, t4]
                exact ⟨(a, m, l', M6), by dsimp only; omega, _, _, rfl, rfl, rfl, rfl, rfl, p1, inv5.left pd5 p2 p3, by dsimp only; omega, by dsimp only; omega⟩
  · simp only [go_sem, Nat.reduceBEq]
    refine ⟨true, true, rfl, rfl, s, ⟨by omega, by omega, fun k hk => ?_, fun h => by omega, fun i u v h1 h2 hu hv => ?_⟩, by omega, hl2⟩
    · intro u v hu hv
      have := (List.getElem?_eq_some_iff.1 hv).1
      omega
    · have := (List.getElem?_eq_some_iff.1 hv).1
      omega
end Go.Proofs.Gh
