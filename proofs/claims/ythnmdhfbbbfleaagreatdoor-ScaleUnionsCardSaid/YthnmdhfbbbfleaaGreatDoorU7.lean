/- Part 7 of a proof: walks of the program in a small memory, plain lemmas. -/
import Derived.Test.YthnmdhfbbbfleaaGreatDoorU6
set_option linter.all false
namespace Go.Proofs.Gh
open Go Go.Proofs Go.Proofs.Zz
set_option maxRecDepth 10000
set_option linter.unusedSimpArgs false
/-- the k-th place of the sum of the first i sizes, each times its factor -/
def ps (L : List (List Rat)) (F : List Rat) (k : Nat) : Nat → Rat
  | 0 => 0
  | i + 1 => ps L F k i + ((L[i]?.getD [])[k]?.getD 0) * (F[i]?.getD 0)
def sumL (n : Nat) (L : List (List Rat)) (F : List Rat) : List Rat := (List.range n).map fun k => ps L F k L.length
theorem sumL_length (n : Nat) (L : List (List Rat)) (F : List Rat) : (sumL n L F).length = n := by simp [sumL]
/-- the row while the i-th size is added, up to its place j -/
def psR (n : Nat) (L : List (List Rat)) (F : List Rat) (i j : Nat) : List Rat := (List.range n).map fun k => ps L F k (if k < j then i + 1 else i)
theorem psR_step {n : Nat} {L : List (List Rat)} {F : List Rat} {i j : Nat} (hj : j < n) : (psR n L F i j).set j (ps L F j (i + 1)) = psR n L F i (j + 1) := by
  apply List.ext_getElem
  · simp [psR]
  · intro k h1 h2
    simp only [psR, List.length_set, List.length_map, List.length_range] at h1
    simp only [psR, List.getElem_set, List.getElem_map, List.getElem_range]
    split
    · rename_i e; subst e; rw [if_pos (by omega)]
    · rename_i e
      by_cases hk : k < j
      · rw [if_pos hk, if_pos (by omega)]
      · rw [if_neg hk, if_neg (by omega)]
theorem sumL_sm {n : Nat} {L : List (List Rat)} {F : List Rat} (hb2 : ∀ (i k : Nat), i ≤ L.length → k < n → SmR (ps L F k i)) : SmL (sumL n L F) := by
  intro q hq
  simp only [sumL, List.mem_map, List.mem_range] at hq
  obtain ⟨k, hk, rfl⟩ := hq
  exact hb2 _ k (Nat.le_refl _) hk
theorem psR_end {n : Nat} {L : List (List Rat)} {F : List Rat} {i : Nat} : psR n L F i n = psR n L F (i + 1) 0 := by
  apply List.ext_getElem
  · simp [psR]
  · intro k h1 h2
    simp only [psR, List.length_map, List.length_range] at h1
    simp only [psR, List.getElem_map, List.getElem_range]
    rw [if_pos h1, if_neg (by omega)]
theorem psR_start {n : Nat} {L : List (List Rat)} {F : List Rat} : psR n L F 0 0 = List.replicate n 0 := by
  apply List.ext_getElem
  · simp [psR]
  · intro k h1 h2
    simp [psR, ps]
theorem psR_get {n : Nat} {L : List (List Rat)} {F : List Rat} {i j : Nat} (hj : j < n) : (psR n L F i j)[j]? = some (ps L F j i) := by
  simp [psR, hj]
theorem sumL_eq {n : Nat} {L : List (List Rat)} {F : List Rat} : sumL n L F = psR n L F L.length 0 := by
  simp [sumL, psR]
theorem c_sum {h : GH} {lv fv : Value} {n : Nat} {L : List (List Rat)} {F : List Rat} (hn : n ≤ 1000) (s : LsAt h lv L) (sf : SzAt h fv F) (hF : F.length = L.length) (hlen : L.length ≤ 100000) (hL : ∀ l ∈ L, l.length = n ∧ SmL l) (hFs : SmL F)
    (hb1 : ∀ (i k : Nat) (l : List Rat) (q f : Rat), L[i]? = some l → F[i]? = some f → l[k]? = some q → SmR (q * f)) (hb2 : ∀ (i k : Nat), i ≤ L.length → k < n → SmR (ps L F k i)) :
    ∃ r h', GCalls Tryz.prog gE 124 #[.int .i64 n, lv, fv] h r h' ∧ h.le h' ∧ SzAt h' r (sumL n L F) := by
  obtain ⟨g, o, c, vs, rfl, s, hv1, hv2⟩ := s
  obtain ⟨fg, fo, fc, rfl, sf⟩ := sf
  refine gcalls_in (pl := pl124) [.tmp 6] mixed Tryz.func124 rfl rfl (by exact ok124) ?_
  simp only [go_sem, Nat.reduceBEq]
  refine callK_intro (c_zero n hn) ?_
  rintro _ h1 ⟨hle1, rfl, hlt1, hrow1⟩
  simp only [go_sem, Nat.reduceBEq]
  refine loopK_inv (α := Nat) (fun i => L.length - i) (fun i ts g' => ts 2 = .slice (some ⟨fg, fo, none⟩) F.length fc ∧ ts 7 = .slice (some ⟨h.n, 0, none⟩) n n ∧ ts 14 = .slice (some ⟨g, o, none⟩) L.length c ∧ ts 15 = .int .i64 L.length ∧ ts 16 = .int .i64 i ∧ i ≤ L.length ∧ h.le g' ∧ h.n < g'.n ∧ g'.b h.n = Row ((psR n L F i 0).map rc)) ?_ (a0 := 0) ?_
  · rintro i ts g' ⟨h2, h7, h14, h15, h16, hi, hle, hlt, hrow⟩
    simp only [go_sem, h15, h16]
    refine ifK_intro (fun c1 => ?_) (fun c1 => ?_)
    · have c1' := of_decide_eq_true c1
      obtain ⟨l, hl⟩ : ∃ l, L[i]? = some l := ⟨_, List.getElem?_eq_getElem (by omega)⟩
      obtain ⟨f, hf⟩ : ∃ f, F[i]? = some f := ⟨_, List.getElem?_eq_getElem (by omega)⟩
      obtain ⟨x, hx, xg, xo, xc, rfl, xs⟩ := hv2 i l hl
      have hl1 := (s.mono hle).load (i := i) (x := [_]) (by rw [List.getElem?_map, hx]; rfl)
      rw [Nat.mul_one] at hl1
      have hsl := hL l (List.mem_of_getElem? hl)
      simp only [go_sem, Nat.reduceBEq, ↓reduceIte, h14, h16, c1', hl1]
      refine loopK_inv (α := Nat) (fun j => n - j) (fun j ts g2 => ts 2 = .slice (some ⟨fg, fo, none⟩) F.length fc ∧ ts 7 = .slice (some ⟨h.n, 0, none⟩) n n ∧ ts 14 = .slice (some ⟨g, o, none⟩) L.length c ∧ ts 15 = .int .i64 L.length ∧ ts 16 = .int .i64 i ∧
        ts 8 = .int .i64 i ∧ ts 21 = .slice (some ⟨xg, xo, none⟩) l.length xc ∧ ts 22 = .int .i64 l.length ∧ ts 23 = .int .i64 j ∧ j ≤ n ∧ h.le g2 ∧ h.n < g2.n ∧ g2.b h.n = Row ((psR n L F i j).map rc)) ?_ (a0 := 0) ?_
      · rintro j ts g2 ⟨h2, h7, h14, h15, h16, h8, h21, h22, h23, hj, hle2, hlt2, hrow2⟩
        simp only [go_sem, h22, h23]
        refine ifK_intro (fun c2 => ?_) (fun c2 => ?_)
        · have c2' := of_decide_eq_true c2
          obtain ⟨q, hq⟩ : ∃ q, l[j]? = some q := ⟨_, List.getElem?_eq_getElem (by omega)⟩
          have hl2 := (xs.mono hle2).load (rats_get hq)
          have c2n : (j : Int) < n := by omega
          have lo := row_load (i := j) (e := 2) (x := [_, _]) (h := g2.alloc (rB q)) (Nat.lt_succ_of_lt hlt2) (((GH.le_alloc _ _).2 _ hlt2).trans hrow2) rc_len (rats_get (psR_get (by omega)))
          have lf := ((sf.mono hle2).mono (GH.le_alloc g2 (rB q))).load (rats_get hf)
          have hfi : (i : Int) < F.length := by omega
          simp only [go_sem, Nat.reduceBEq, Nat.reduceAdd, Array.reduceGetElem?, ↓reduceIte, h2, h7, h8, h21, h23, c2', hl2, c2n, lo, lf, hfi, pl124]
          have r0 := RatAt.new g2 q
          refine callK_intro (c_fMul q f (hsl.2 q (List.mem_of_getElem? hq)) (hFs f (List.mem_of_getElem? hf)) (hb1 i j l q f hl hf hq)) ?_
          rintro _ h3 ⟨hle3, rfl⟩
          have r3 := r0.mono hle3
          have hlt3 : h.n < h3.n := Nat.lt_of_lt_of_le (Nat.lt_succ_of_lt hlt2) hle3.1
          have hle23 := (GH.le_alloc g2 (rB q)).trans hle3
          have hrow3 := (hle23.2 _ hlt2).trans hrow2
          have lo3 := row_load (i := j) (e := 2) (x := [_, _]) hlt3 hrow3 rc_len (rats_get (psR_get (by omega)))
          have lf3 := ((sf.mono hle2).mono hle23).load (rats_get hf)
          have eps : ps L F j i + q * f = ps L F j (i + 1) := by rw [ps, hl, hf]; simp [hq]
          simp only [go_sem, Nat.reduceBEq, Array.reduceGetElem?, c2', lo3]
          refine callK_intro (c_fAdd (ps L F j i) (q * f) (hb2 i j (by omega) (by omega)) (hb1 i j l q f hl hf hq) (by rw [eps]; exact hb2 (i + 1) j (by omega) (by omega))) ?_
          rintro _ h4 ⟨hle4, rfl⟩
          have hlt4 : h.n < h4.n := Nat.lt_of_lt_of_le hlt3 hle4.1
          have hrow4 := (hle4.2 _ hlt3).trans hrow3
          have hst := row_store (e := 2) (i := j) (vs := rc (ps L F j (i + 1))) hlt4 hrow4 rc_len (by simp [psR]; omega) rfl rfl
          rw [← List.map_set, psR_step (by omega)] at hst
          have hst2 : h4.store h.n (j * 2) [.string (enc (ps L F j (i + 1)).num), .string (enc ((ps L F j (i + 1)).den : Int))] = _ := hst
          simp (disch := first | omega | (simp only [List.length_cons, List.length_nil, List.length_set]; omega)) only [go_sem, Nat.reduceBEq, Nat.reduceAdd, Array.reduceGetElem?, ↓reduceIte, h2, h7, h14, h15, h16, h8, h21, h22, h23, c2n, eps, hst2, wrap_i64]
          exact ⟨j + 1, by omega, rfl, by omega, ((hle2.trans hle23).trans hle4).upd (Nat.le_refl _) _, hlt4, upd_self _ _ _⟩
        · have c2' := of_decide_eq_false c2
          simp (disch := first | omega | (simp only [List.length_cons, List.length_nil, List.length_set]; omega)) only [go_sem, Nat.reduceBEq, h2, h7, h14, h15, h16, wrap_i64]
          obtain rfl : j = n := by omega
          exact ⟨i + 1, by omega, rfl, by omega, hle2, hlt2, by rw [hrow2, psR_end]⟩
      · simp only [go_sem, Nat.reduceBEq, h2, h7, h14, h15, h16]
        exact ⟨Nat.zero_le _, hle, hlt, hrow⟩
    · have c1' := of_decide_eq_false c1
      simp only [go_sem, Nat.reduceBEq, h7, c1]
      obtain rfl : i = L.length := by omega
      rw [← sumL_eq] at hrow
      have := row_at (c := n) hlt hrow rc_len ⟨by simp [sumL_length], fun hu => by simp only [unk] at hu; omega⟩
      refine ⟨hle, h.n, 0, n, ?_, this⟩
      rw [sumL_length]
  · simp only [go_sem, Nat.reduceBEq]
    exact ⟨Nat.zero_le _, hle1, hlt1, by rw [hrow1, psR_start]⟩
theorem c_Combine {h : GH} {pv lv fv : Value} {p : List Int} {L : List (List Rat)} {F : List Rat} (hP : Pr p) (hp : PrAt h pv p) (s : LsAt h lv L) (sf : SzAt h fv F) (hF : F.length = L.length) (hlen : L.length ≤ 1000) (hL : ∀ l ∈ L, l.length = p.length ∧ SmL l) (hFs : SmL F)
    (hb1 : ∀ (i k : Nat) (l : List Rat) (q f : Rat), L[i]? = some l → F[i]? = some f → l[k]? = some q → SmR (q * f)) (hb2 : ∀ (i k : Nat), i ≤ L.length → k < p.length → SmR (ps L F k i)) :
    ∃ r h', GCalls Tryz.prog gE 93 #[pv, lv, fv] h r h' ∧ h.le h' ∧ ∃ v, r = .tuple #[v, .int .i64 0] ∧ SzAt h' v (sumL p.length L F) := by
  have hpl := hP.len
  have sf' := sf
  have s' := s
  obtain ⟨pg, po, pc, rfl, hp⟩ := hp
  obtain ⟨g, o, c, vs, rfl, s, hv1, hv2⟩ := s
  obtain ⟨fg, fo, fc, rfl, sf⟩ := sf
  refine gcalls_in (pl := noPl) [.tmp 6, .tmp 7] mixed Tryz.func93 rfl rfl (by exact ok93) ?_
  simp only [go_sem, Nat.reduceBEq]
  refine callK_intro (c_CheckAll hP ⟨pg, po, pc, rfl, hp⟩ s' (by omega) hL) ?_
  rintro _ h1 ⟨hle1, rfl⟩
  simp only [go_sem, Nat.reduceBEq, hF, ne_eq, not_true_eq_false]
  refine callK_intro (c_contRats _ (fun q hq _ => c_com1 q (hFs q hq)) (hF ▸ sf'.mono hle1) (by omega)) ?_
  rintro _ h2 ⟨hle2, rfl⟩
  simp only [go_sem, Nat.reduceBEq, hF]
  have hsum := c_sum (h := h2) (n := p.length) (by omega) (s'.mono (hle1.trans hle2)) (sf'.mono (hle1.trans hle2)) hF (by omega) hL hFs hb1 hb2
  rw [hF] at hsum
  refine callK_intro hsum ?_
  rintro v h3 ⟨hle3, hs3⟩
  simp only [go_sem]
  refine callK_intro (c_result hs3 (by rw [sumL_length]; omega) (sumL_sm hb2)) ?_
  rintro _ h4 ⟨hle4, rfl⟩
  simp only [go_sem, Nat.reduceBEq, Array.reduceGetElem?]
  exact ⟨((hle1.trans hle2).trans hle3).trans hle4, v, rfl, hs3.mono hle4⟩
end Go.Proofs.Gh
namespace Go.Proofs.Gh
open Go Go.Proofs Go.Proofs.Zz
set_option maxRecDepth 10000
set_option linter.unusedSimpArgs false
/-- rows just built -/
theorem LsAt.built1 {h : GH} {v : Value} {l : List Rat} (s : SzAt h v l) : LsAt (h.alloc ⟨[v], true, false⟩) (.slice (some ⟨h.n, 0, none⟩) 1 1) [l] := by
  refine ⟨h.n, 0, 1, [v], rfl, ?_, rfl, ?_⟩
  · exact ⟨Nat.lt_succ_self _, by rw [alloc_self], ⟨[], [], by rw [alloc_self]; rfl, rfl⟩, by simp, Nat.le_refl _, fun hu => by simp [unk] at hu⟩
  · intro i x hi
    match i, hi with
    | 0, hi =>
      injection hi with hi
      subst hi
      exact ⟨v, rfl, s.mono (GH.le_alloc _ _)⟩
theorem LsAt.built2 {h : GH} {v w : Value} {l m : List Rat} (s : SzAt h v l) (t : SzAt h w m) : LsAt (h.alloc ⟨[v, w], true, false⟩) (.slice (some ⟨h.n, 0, none⟩) 2 2) [l, m] := by
  refine ⟨h.n, 0, 2, [v, w], rfl, ?_, rfl, ?_⟩
  · exact ⟨Nat.lt_succ_self _, by rw [alloc_self], ⟨[], [], by rw [alloc_self]; rfl, rfl⟩, by simp, Nat.le_refl _, fun hu => by simp [unk] at hu⟩
  · intro i x hi
    match i, hi with
    | 0, hi =>
      injection hi with hi
      subst hi
      exact ⟨v, rfl, s.mono (GH.le_alloc _ _)⟩
    | 1, hi =>
      injection hi with hi
      subst hi
      exact ⟨w, rfl, t.mono (GH.le_alloc _ _)⟩
theorem SzAt.built1 {h : GH} (q : Rat) : SzAt (h.alloc ⟨[.string (enc q.num), .string (enc (q.den : Int))], true, false⟩) (.slice (some ⟨h.n, 0, none⟩) 1 1) [q] :=
  ⟨h.n, 0, 1, rfl, Nat.lt_succ_self _, by rw [alloc_self], ⟨[], [], by rw [alloc_self]; rfl, rfl⟩, rc_len, Nat.le_refl _, fun hu => by simp [unk] at hu⟩
theorem SzAt.built2 {h : GH} (q r : Rat) : SzAt (h.alloc ⟨[.string (enc q.num), .string (enc (q.den : Int)), .string (enc r.num), .string (enc (r.den : Int))], true, false⟩) (.slice (some ⟨h.n, 0, none⟩) 2 2) [q, r] :=
  ⟨h.n, 0, 2, rfl, Nat.lt_succ_self _, by rw [alloc_self], ⟨[], [], by rw [alloc_self]; rfl, rfl⟩, rc_len, Nat.le_refl _, fun hu => by simp [unk] at hu⟩
/-- sums of sizes -/
def scaleL (a : List Rat) (k : Rat) : List Rat := a.map fun x => x * k
def addL (a b : List Rat) : List Rat := List.zipWith (fun x y => x + y) a b
def subL (a b : List Rat) : List Rat := List.zipWith (fun x y => x - y) a b
theorem sumL_scale {a : List Rat} {k : Rat} : sumL a.length [a] [k] = scaleL a k := by
  apply List.ext_getElem
  · simp [sumL, scaleL]
  · intro i h1 h2
    have hi : i < a.length := by simpa [sumL] using h1
    simp [sumL, scaleL, ps, hi, Rat.zero_add]
theorem sumL_sub {a b : List Rat} (hl : b.length = a.length) : sumL a.length [a, b] [1, -1] = subL a b := by
  apply List.ext_getElem
  · simp [sumL, subL, hl]
  · intro i h1 h2
    have hi : i < a.length := by simpa [sumL] using h1
    have hi2 : i < b.length := by omega
    simp [sumL, subL, ps, hi, hi2, Rat.zero_add]
    grind
theorem sumL_add {a b : List Rat} (hl : b.length = a.length) : sumL a.length [a, b] [1, 1] = addL a b := by
  apply List.ext_getElem
  · simp [sumL, addL, hl]
  · intro i h1 h2
    have hi : i < a.length := by simpa [sumL] using h1
    have hi2 : i < b.length := by omega
    simp [sumL, addL, ps, hi, hi2, Rat.zero_add]
theorem SmR.one : SmR 1 := ⟨by decide, by decide⟩
theorem SmR.neg1 : SmR (-1) := ⟨by decide, by decide⟩
theorem SmR.zero : SmR 0 := ⟨by decide, by decide⟩
theorem c_Scale {h : GH} {pv av : Value} {p : List Int} {a : List Rat} {k : Rat} (hP : Pr p) (hp : PrAt h pv p) (s : SzAt h av a) (hl : a.length = p.length) (ha : SmL a) (hk : SmR k) (hs : SmL (scaleL a k)) :
    ∃ r h', GCalls Tryz.prog gE 52 #[pv, av, rv k] h r h' ∧ h.le h' ∧ ∃ v, r = .tuple #[v, .int .i64 0] ∧ SzAt h' v (scaleL a k) := by
  have hps : ∀ j, j < a.length → ps [a] [k] j 1 = a[j]?.getD 0 * k := fun j hj => by simp [ps, hj, Rat.zero_add]
  have hb : ∀ j x, a[j]? = some x → SmR (x * k) := fun j x hx => hs _ (by simp only [scaleL, List.mem_map]; exact ⟨x, List.mem_of_getElem? hx, rfl⟩)
  have s' := s
  obtain ⟨g, o, c, rfl, s⟩ := s
  have r0 := RatAt.new h k
  refine gcalls_in (pl := noPl) [.tmp 6, .tmp 7] mixed Tryz.func52 rfl rfl (by exact ok52) ?_
  simp only [go_sem, Nat.reduceBEq, Nat.reduceLeDiff, Nat.reduceLT, ↓reduceIte]
  have L1 := LsAt.built1 (s'.mono (GH.le_alloc h (rB k)))
  have r1 := r0.mono (GH.le_alloc _ ⟨[.slice (some ⟨g, o, none⟩) a.length c], true, false⟩)
  simp only [go_sem, Nat.reduceBEq, Nat.reduceAdd, Nat.reduceMul, Nat.reduceLeDiff, Nat.reduceLT, ↓reduceIte, r1.l2]
  have F1 := SzAt.built1 (h := (h.alloc (rB k)).alloc ⟨[.slice (some ⟨g, o, none⟩) a.length c], true, false⟩) k
  have hc := c_Combine hP (hp.mono (((GH.le_alloc h (rB k)).trans (GH.le_alloc _ _)).trans (GH.le_alloc _ _))) (L1.mono (GH.le_alloc _ (rB k))) F1 rfl (by simp) (fun l hl' => by simp at hl'; subst hl'; exact ⟨hl, ha⟩) (fun q hq => by simp at hq; subst hq; exact hk)
    (fun i j l q f h1 h2 h3 => by
      match i, h1, h2 with
      | 0, h1, h2 =>
        injection h1 with h1
        injection h2 with h2
        subst h1 h2
        exact hb j q h3) (fun i j h1 h2 => by
      match i, h1 with
      | 0, _ => exact SmR.zero
      | 1, _ =>
        rw [hps j (by omega)]
        obtain ⟨x, hx⟩ : ∃ x, a[j]? = some x := ⟨_, List.getElem?_eq_getElem (by omega)⟩
        rw [hx]
        exact hb j x hx)
  refine callK_intro hc ?_
  rintro _ h1 ⟨hle1, v, rfl, hv⟩
  simp only [go_sem, Nat.reduceBEq, Array.reduceGetElem?]
  rw [← hl, sumL_scale] at hv
  exact ⟨(((GH.le_alloc h (rB k)).trans (GH.le_alloc _ _)).trans (GH.le_alloc _ _)).trans hle1, v, rfl, hv⟩
/-- two sizes with two factors -/
theorem two_hyps {n : Nat} {a b : List Rat} {x y : Rat} (ha : a.length = n) (hb : b.length = n) (h1 : ∀ (j : Nat) (q : Rat), a[j]? = some q → SmR (q * x)) (h2 : ∀ (j : Nat) (q : Rat), b[j]? = some q → SmR (q * y)) (h3 : ∀ (j : Nat) (q r : Rat), a[j]? = some q → b[j]? = some r → SmR (q * x + r * y)) :
    (∀ (i k : Nat) (l : List Rat) (q f : Rat), [a, b][i]? = some l → [x, y][i]? = some f → l[k]? = some q → SmR (q * f)) ∧ (∀ (i k : Nat), i ≤ [a, b].length → k < n → SmR (ps [a, b] [x, y] k i)) := by
  refine ⟨fun i j l q f k1 k2 k3 => ?_, fun i j k1 k2 => ?_⟩
  · match i, k1, k2 with
    | 0, k1, k2 =>
      injection k1 with k1
      injection k2 with k2
      subst k1 k2
      exact h1 j q k3
    | 1, k1, k2 =>
      injection k1 with k1
      injection k2 with k2
      subst k1 k2
      exact h2 j q k3
  · obtain ⟨q, hq⟩ : ∃ q, a[j]? = some q := ⟨_, List.getElem?_eq_getElem (by omega)⟩
    obtain ⟨r, hr⟩ : ∃ r, b[j]? = some r := ⟨_, List.getElem?_eq_getElem (by omega)⟩
    match i, k1 with
    | 0, _ => exact SmR.zero
    | 1, _ =>
      have : ps [a, b] [x, y] j 1 = q * x := by simp [ps, hq, Rat.zero_add]
      rw [this]
      exact h1 j q hq
    | 2, _ =>
      have : ps [a, b] [x, y] j 2 = q * x + r * y := by simp [ps, hq, hr, Rat.zero_add]
      rw [this]
      exact h3 j q r hq hr
theorem SmR.neg {q : Rat} (h : SmR q) : SmR (q * -1) := by
  have : q * -1 = -q := by grind
  rw [this]
  refine ⟨?_, h.2⟩
  show (-q).num.natAbs < _
  rw [Rat.neg_num, Int.natAbs_neg]
  exact h.1
theorem c_num1 {h : GH} : ∃ r h', GCalls Tryz.prog gE 113 #[.int .i64 1] h r h' ∧ h.le h' ∧ r = rv (1 : Rat) := c_number 1 (by decide)
theorem c_numN1 {h : GH} : ∃ r h', GCalls Tryz.prog gE 113 #[.int .i64 (-1)] h r h' ∧ h.le h' ∧ r = rv (-1 : Rat) := c_number (-1) (by decide)
theorem zip_get {f : Rat → Rat → Rat} {a b : List Rat} {j : Nat} {q r : Rat} (hq : a[j]? = some q) (hr : b[j]? = some r) : f q r ∈ List.zipWith f a b := by
  have : (List.zipWith f a b)[j]? = some (f q r) := by simp [List.getElem?_zipWith, hq, hr]
  exact List.mem_of_getElem? this
theorem c_Sub {h : GH} {pv av bv : Value} {p : List Int} {a b : List Rat} (hP : Pr p) (hp : PrAt h pv p) (s : SzAt h av a) (t : SzAt h bv b) (hl : a.length = p.length) (hl2 : b.length = p.length) (ha : SmL a) (hb : SmL b) (hs : SmL (subL a b)) :
    ∃ r h', GCalls Tryz.prog gE 78 #[pv, av, bv] h r h' ∧ h.le h' ∧ ∃ v, r = .tuple #[v, .int .i64 0] ∧ SzAt h' v (subL a b) := by
  obtain ⟨y1, y2⟩ := two_hyps (x := 1) (y := -1) hl hl2 (fun j q hq => by rw [Rat.mul_one]; exact ha q (List.mem_of_getElem? hq)) (fun j q hq => (hb q (List.mem_of_getElem? hq)).neg)
    (fun j q r hq hr => by
      have : q * 1 + r * -1 = q - r := by grind
      rw [this]
      exact hs _ (zip_get hq hr))
  have s' := s
  have t' := t
  obtain ⟨g, o, c, rfl, s⟩ := s
  obtain ⟨tg, to, tc, rfl, t⟩ := t
  have L1 := LsAt.built2 s' t'
  refine gcalls_in (pl := noPl) [.tmp 6, .tmp 7] mixed Tryz.func78 rfl rfl (by exact ok78) ?_
  simp only [go_sem, Nat.reduceBEq, Nat.reduceAdd, Nat.reduceLeDiff, Nat.reduceLT, ↓reduceIte]
  refine callK_intro (c_num1) ?_
  rintro _ h1 ⟨hle1, rfl⟩
  simp only [go_sem, Int.reduceNeg]
  refine callK_intro (c_numN1) ?_
  rintro _ h2 ⟨hle2, rfl⟩
  simp only [go_sem, Nat.reduceBEq, Nat.reduceAdd, Nat.reduceMul, Nat.reduceLeDiff, Nat.reduceLT, ↓reduceIte]
  have F1 := SzAt.built2 (h := h2) 1 (-1)
  have hle := ((GH.le_alloc h _).trans hle1).trans hle2
  have hc := c_Combine hP (hp.mono (hle.trans (GH.le_alloc h2 _))) (L1.mono ((hle1.trans hle2).trans (GH.le_alloc h2 _))) F1 rfl (by simp) (fun l hl' => by
    rcases List.mem_cons.1 hl' with rfl | hl'
    · exact ⟨hl, ha⟩
    · rw [List.mem_singleton.1 hl']; exact ⟨hl2, hb⟩) (fun q hq => by
    rcases List.mem_cons.1 hq with rfl | hq
    · exact SmR.one
    · rw [List.mem_singleton.1 hq]; exact SmR.neg1) y1 y2
  refine callK_intro hc ?_
  rintro _ h3 ⟨hle3, v, rfl, hv⟩
  simp only [go_sem, Nat.reduceBEq, Array.reduceGetElem?]
  rw [← hl, sumL_sub (by omega)] at hv
  exact ⟨(hle.trans (GH.le_alloc h2 _)).trans hle3, v, rfl, hv⟩
theorem c_sizeAdd {h : GH} {pv av bv : Value} {p : List Int} {a b : List Rat} (hP : Pr p) (hp : PrAt h pv p) (s : SzAt h av a) (t : SzAt h bv b) (hl : a.length = p.length) (hl2 : b.length = p.length) (ha : SmL a) (hb : SmL b) (hs : SmL (addL a b)) :
    ∃ r h', GCalls Tryz.prog gE 114 #[pv, av, bv] h r h' ∧ h.le h' ∧ ∃ v, r = .tuple #[v, .int .i64 0] ∧ SzAt h' v (addL a b) := by
  obtain ⟨y1, y2⟩ := two_hyps (x := 1) (y := 1) hl hl2 (fun j q hq => by rw [Rat.mul_one]; exact ha q (List.mem_of_getElem? hq)) (fun j q hq => by rw [Rat.mul_one]; exact hb q (List.mem_of_getElem? hq))
    (fun j q r hq hr => by
      have : q * 1 + r * 1 = q + r := by grind
      rw [this]
      exact hs _ (zip_get hq hr))
  have s' := s
  have t' := t
  obtain ⟨g, o, c, rfl, s⟩ := s
  obtain ⟨tg, to, tc, rfl, t⟩ := t
  have L1 := LsAt.built2 s' t'
  refine gcalls_in (pl := noPl) [.tmp 6, .tmp 7] mixed Tryz.func114 rfl rfl (by exact ok114) ?_
  simp only [go_sem, Nat.reduceBEq, Nat.reduceAdd, Nat.reduceLeDiff, Nat.reduceLT, ↓reduceIte]
  refine callK_intro (c_num1) ?_
  rintro _ h1 ⟨hle1, rfl⟩
  simp only [go_sem]
  refine callK_intro (c_num1) ?_
  rintro _ h2 ⟨hle2, rfl⟩
  simp only [go_sem, Nat.reduceBEq, Nat.reduceAdd, Nat.reduceMul, Nat.reduceLeDiff, Nat.reduceLT, ↓reduceIte]
  have F1 := SzAt.built2 (h := h2) 1 1
  have hle := ((GH.le_alloc h _).trans hle1).trans hle2
  have hc := c_Combine hP (hp.mono (hle.trans (GH.le_alloc h2 _))) (L1.mono ((hle1.trans hle2).trans (GH.le_alloc h2 _))) F1 rfl (by simp) (fun l hl' => by
    rcases List.mem_cons.1 hl' with rfl | hl'
    · exact ⟨hl, ha⟩
    · rw [List.mem_singleton.1 hl']; exact ⟨hl2, hb⟩) (fun q hq => by
    rcases List.mem_cons.1 hq with rfl | hq
    · exact SmR.one
    · rw [List.mem_singleton.1 hq]; exact SmR.one) y1 y2
  refine callK_intro hc ?_
  rintro _ h3 ⟨hle3, v, rfl, hv⟩
  simp only [go_sem, Nat.reduceBEq, Array.reduceGetElem?]
  rw [← hl, sumL_add (by omega)] at hv
  exact ⟨(hle.trans (GH.le_alloc h2 _)).trans hle3, v, rfl, hv⟩
end Go.Proofs.Gh
namespace Go.Proofs.Gh
open Go Go.Proofs Go.Proofs.Zz
set_option maxRecDepth 10000
set_option linter.unusedSimpArgs false
theorem rat_eq (q r : Rat) : (decide (enc q.num = enc r.num) && decide (enc (q.den : Int) = enc (r.den : Int))) = decide (q = r) := by
  rw [Bool.eq_iff_iff]
  simp only [Bool.and_eq_true, decide_eq_true_eq, enc_inj]
  constructor
  · rintro ⟨h1, h2⟩
    exact Rat.ext h1 (by omega)
  · rintro rfl
    exact ⟨rfl, rfl⟩
theorem c_Equal0 {h : GH} {av bv : Value} {a b : List Rat} (s : SzAt h av a) (t : SzAt h bv b) (hlen : a.length ≤ 1000) :
    ∃ r h', GCalls Tryz.prog gE 75 #[av, bv] h r h' ∧ h.le h' ∧ r = .bool (decide (a = b)) := by
  obtain ⟨g, o, c, rfl, s⟩ := s
  obtain ⟨tg, to, tc, rfl, t⟩ := t
  refine gcalls_in (pl := pl75) [.tmp 4] mixed Tryz.func75 rfl rfl (by exact ok75) ?_
  simp only [go_sem, Nat.reduceBEq]
  refine ifK_intro (fun c0 => ?_) (fun c0 => ?_)
  · have c0' := of_decide_eq_true c0
    simp only [go_sem, c0]
    refine ⟨GH.le.refl _, ?_⟩
    rw [decide_eq_false]
    rintro rfl
    exact c0' rfl
  · have c0' : b.length = a.length := by have := of_decide_eq_false c0; omega
    simp only [go_sem, Nat.reduceBEq, c0]
    refine loopK_inv (α := Nat) (fun i => a.length - i) (fun i ts g' => ts 0 = .slice (some ⟨g, o, none⟩) a.length c ∧ ts 1 = .slice (some ⟨tg, to, none⟩) b.length tc ∧ ts 12 = .int .i64 a.length ∧ ts 13 = .int .i64 i ∧ i ≤ a.length ∧ g' = h ∧ a.take i = b.take i) ?_ (a0 := 0) ?_
    · rintro i ts g' ⟨h0, h1, h12, h13, hi, rfl, he⟩
      simp only [go_sem, h12, h13]
      refine ifK_intro (fun c1 => ?_) (fun c1 => ?_)
      · have c1' := of_decide_eq_true c1
        have c1'' : (i : Int) < b.length := by omega
        obtain ⟨q, hq⟩ : ∃ q, a[i]? = some q := ⟨_, List.getElem?_eq_getElem (by omega)⟩
        obtain ⟨r, hr⟩ : ∃ r, b[i]? = some r := ⟨_, List.getElem?_eq_getElem (by omega)⟩
        have hl1 := s.load (rats_get hq)
        have hl2 := t.load (rats_get hr)
        simp only [go_sem, Nat.reduceBEq, Array.reduceGetElem?, ↓reduceIte, h0, h1, h13, c1', c1'', hl1, hl2, rat_eq, pl75]
        refine ifK_intro (fun c2 => ?_) (fun c2 => ?_)
        · have c2' := of_decide_eq_true c2
          simp (disch := first | omega | (simp only [List.length_cons, List.length_nil, List.length_set]; omega)) only [go_sem, Nat.reduceBEq, h0, h1, h12, h13, wrap_i64]
          refine ⟨i + 1, by omega, rfl, by omega, ?_⟩
          rw [List.take_add_one, List.take_add_one, he, hq, hr, c2']
        · have c2' := of_decide_eq_false c2
          simp only [go_sem, c2]
          refine ⟨GH.le.refl _, ?_⟩
          rw [decide_eq_false]
          rintro rfl
          rw [hq] at hr
          injection hr with hr
          exact c2' hr
      · have c1' := of_decide_eq_false c1
        simp only [go_sem, c1]
        refine ⟨GH.le.refl _, ?_⟩
        obtain rfl : i = a.length := by omega
        rw [List.take_length, List.take_of_length_le (by omega)] at he
        rw [decide_eq_true he]
    · simp only [go_sem, Nat.reduceBEq]
      exact ⟨Nat.zero_le _, by simp⟩
theorem c_Equal {h : GH} {av bv : Value} {a b : List Rat} (s : SzAt h av a) (t : SzAt h bv b) (hlen : a.length ≤ 1000) :
    ∃ r h', GCalls Tryz.prog gE 27 #[av, bv] h r h' ∧ h.le h' ∧ r = .bool (decide (a = b)) := by
  refine gcalls_in (pl := noPl) [.tmp 4] mixed Tryz.func27 rfl rfl (by exact ok27) ?_
  simp only [go_sem, Nat.reduceBEq]
  refine callK_intro (c_Equal0 s t hlen) ?_
  rintro _ h1 ⟨hle1, rfl⟩
  simp only [go_sem]
  exact hle1
end Go.Proofs.Gh
namespace Go.Proofs.Gh
open Go Go.Proofs Go.Proofs.Zz
set_option maxRecDepth 10000
set_option linter.unusedSimpArgs false
/-! the quick logarithms: as the code reckons, raw -/
def wU (a : Int) : Int := IntKind.u64.wrap a
def shU (a : Int) : Int := a.fdiv (2 ^ min 32 64)
def loU (a : Int) : Int := IntKind.u64.wrap ((BitVec.ofInt 64 a &&& BitVec.ofInt 64 4294967295).toNat : Int)
def mulLo (x y : Int) : Int := wU (x * y)
def mulHi (x y : Int) : Int :=
  let t := wU (wU (shU x * loU y) + shU (wU (loU x * loU y)))
  wU (wU (wU (shU x * shU y) + shU t) + shU (wU (loU t + wU (loU x * shU y))))
theorem c_Mul64 {h : GH} (x y : Int) : ∃ r h', GCalls Tryz.prog gE 240 #[.int .u64 x, .int .u64 y] h r h' ∧ h.le h' ∧ r = .tuple #[.int .u64 (mulHi x y), .int .u64 (mulLo x y)] := by
  refine gcalls_in (pl := noPl) [.tmp 4, .tmp 5] mixed Tryz.func240 rfl rfl (by exact ok240) ?_
  simp only [go_sem, Nat.reduceBEq, Int.reduceLE, Int.reduceToNat, ↓reduceIte]
  exact ⟨GH.le.refl _, rfl⟩
theorem c_Len {h : GH} (n : Nat) (hn : n < 4294967296) : ∃ r h', GCalls Tryz.prog gE 100 #[.int .u64 n] h r h' ∧ h.le h' ∧ ∃ L : Nat, r = .int .i64 L ∧ n < 2 ^ L ∧ (n = 0 ∨ 2 ^ (L - 1) ≤ n) ∧ L ≤ 32 := by
  refine gcalls_in (pl := noPl) [.tmp 2] mixed Tryz.func100 rfl rfl (by exact ok100) ?_
  simp only [go_sem, Nat.reduceBEq]
  refine callK_intro (c_len64 n hn) ?_
  rintro _ h1 ⟨hle1, L, rfl, l1, l2, l3⟩
  simp only [go_sem]
  exact ⟨hle1, L, rfl, l1, l2, l3⟩
def sqU (a : Int) : Int := IntKind.u64.wrap ((BitVec.ofInt 64 (IntKind.u64.wrap (mulHi a a * 2 ^ min 2 64)) ||| BitVec.ofInt 64 ((mulLo a a).fdiv (2 ^ min 62 64))).toNat : Int)
def hiU (a : Int) : Int := IntKind.u64.wrap (sqU a + 1)
structure FS where
  low : Int
  high : Int
  out : Int
deriving DecidableEq
def FS.step (s : FS) : FS :=
  if 9223372036854775808 ≤ sqU s.low then ⟨(sqU s.low).fdiv (2 ^ min 1 64), IntKind.u64.wrap ((hiU s.high).fdiv (2 ^ min 1 64) + 1), IntKind.i64.wrap (IntKind.i64.wrap (s.out * 2) + 1)⟩
  else ⟨sqU s.low, hiU s.high, IntKind.i64.wrap (s.out * 2)⟩
def FS.run (s : FS) : Nat → FS
  | 0 => s
  | n + 1 => (FS.run s n).step
def FS.fine (s : FS) : Bool := decide (9223372036854775808 ≤ sqU s.low) || !decide (9223372036854775808 ≤ hiU s.high)
def fs2 : FS := ⟨IntKind.u64.wrap (2 * 2 ^ min 61 64), IntKind.u64.wrap (2 * 2 ^ min 61 64), 1⟩
theorem fs2_fine : ∀ i, i < 26 → (FS.run fs2 i).fine = true := by
  have : ∀ i : Fin 26, (FS.run fs2 i.1).fine = true := by decide +kernel
  intro i h
  exact this ⟨i, h⟩
theorem fs2_out : (FS.run fs2 26).out = 67108864 := by decide +kernel
theorem c_fast2 {h : GH} : ∃ r h', GCalls Tryz.prog gE 213 #[.int .i64 2] h r h' ∧ h.le h' ∧ r = .tuple #[.int .i64 67108864, .bool true] := by
  have e1 : IntKind.u64.wrap 2 = 2 := by decide
  have e2 : IntKind.i64.wrap 1 = 1 := by decide
  have e3 : IntKind.i64.wrap 61 = 61 := by decide
  refine gcalls_in (pl := noPl) [.tmp 2, .tmp 3] mixed Tryz.func213 rfl rfl (by exact ok213) ?_
  simp only [go_sem, Nat.reduceBEq, e1]
  refine callK_intro (c_Len 2 (by decide)) ?_
  rintro _ h1 ⟨hle1, L, rfl, l1, l2, l3⟩
  obtain rfl : L = 2 := by
    rcases Nat.lt_or_ge L 2 with h | h
    · have : 2 ^ L ≤ 2 ^ 1 := Nat.pow_le_pow_right (by decide) (by omega)
      omega
    · rcases Nat.lt_or_ge 2 L with h' | h'
      · have : 2 ^ 2 ≤ 2 ^ (L - 1) := Nat.pow_le_pow_right (by decide) (by omega)
        omega
      · omega
  simp only [go_sem, Nat.reduceBEq, Int.reduceSub, Int.reduceLE, Int.reduceToNat, ↓reduceIte, e1, e2, e3]
  refine loopK_inv (α := Nat) (fun i => 26 - i) (fun i ts g => ts 5 = .int .u64 (FS.run fs2 i).low ∧ ts 6 = .int .u64 (FS.run fs2 i).high ∧ ts 7 = .int .i64 (FS.run fs2 i).out ∧ ts 21 = .int .i64 i ∧ i ≤ 26 ∧ h.le g) ?_ (a0 := 0) ?_
  · rintro i ts g ⟨h5, h6, h7, h21, hi, hle⟩
    have hf := fs2_fine i
    have hs : FS.run fs2 (i + 1) = (FS.run fs2 i).step := rfl
    have ho : i = 26 → (FS.run fs2 i).out = 67108864 := by rintro rfl; exact fs2_out
    generalize FS.run fs2 i = st at h5 h6 h7 hf hs ho
    simp only [go_sem, h21]
    refine ifK_intro (fun c1 => ?_) (fun c1 => ?_)
    · have c1' := of_decide_eq_true c1
      have hf := hf (by omega)
      have wi : IntKind.i64.wrap ((i : Int) + 1) = ((i + 1 : Nat) : Int) := wrap_i64 (by omega) (by omega)
      simp only [go_sem, Nat.reduceBEq, h5, c1]
      refine callK_intro (c_Mul64 st.low st.low) ?_
      rintro _ h2 ⟨hle2, rfl⟩
      simp only [go_sem, Nat.reduceBEq, Int.reduceLE, Int.reduceToNat, Array.reduceGetElem?, ↓reduceIte, h6]
      refine callK_intro (c_Mul64 st.high st.high) ?_
      rintro _ h3 ⟨hle3, rfl⟩
      simp only [go_sem, Nat.reduceBEq, Int.reduceLE, Int.reduceToNat, Array.reduceGetElem?, ↓reduceIte, h7]
      refine ifK_intro (fun c2 => ?_) (fun c2 => ?_)
      · have c2' : 9223372036854775808 ≤ sqU st.low := of_decide_eq_true c2
        rw [FS.step, if_pos c2'] at hs
        simp only [go_sem, Nat.reduceBEq, Int.reduceLE, Int.reduceToNat, ↓reduceIte, h21, wi]
        refine ⟨i + 1, by omega, ?_, ?_, ?_, rfl, by omega, (hle.trans hle2).trans hle3⟩ <;> rw [hs] <;> rfl
      · have c2' : ¬ 9223372036854775808 ≤ sqU st.low := of_decide_eq_false c2
        rw [FS.step, if_neg c2'] at hs
        have c3' : ¬ 9223372036854775808 ≤ hiU st.high := by
          rw [FS.fine, decide_eq_false c2', Bool.false_or, Bool.not_eq_true', decide_eq_false_iff_not] at hf
          exact hf
        simp only [go_sem, Nat.reduceBEq]
        refine ifK_intro (fun c3 => absurd (of_decide_eq_true c3) c3') (fun c3 => ?_)
        simp only [go_sem, Nat.reduceBEq, h21, wi]
        refine ⟨i + 1, by omega, ?_, ?_, ?_, rfl, by omega, (hle.trans hle2).trans hle3⟩ <;> rw [hs] <;> rfl
    · have c1' := of_decide_eq_false c1
      obtain rfl : i = 26 := by omega
      simp only [go_sem, Nat.reduceBEq, Int.reduceLT, h7]
      rw [ho rfl]
      exact ⟨hle, rfl⟩
  · simp only [go_sem, Nat.reduceBEq, Nat.reduceLeDiff]
    exact ⟨rfl, rfl, rfl, hle1⟩
def fs3 : FS := ⟨IntKind.u64.wrap (3 * 2 ^ min 61 64), IntKind.u64.wrap (3 * 2 ^ min 61 64), 1⟩
theorem fs3_fine : ∀ i, i < 26 → (FS.run fs3 i).fine = true := by
  have : ∀ i : Fin 26, (FS.run fs3 i.1).fine = true := by decide +kernel
  intro i h
  exact this ⟨i, h⟩
theorem fs3_out : (FS.run fs3 26).out = 106365032 := by decide +kernel
theorem c_fast3 {h : GH} : ∃ r h', GCalls Tryz.prog gE 213 #[.int .i64 3] h r h' ∧ h.le h' ∧ r = .tuple #[.int .i64 106365032, .bool true] := by
  have e1 : IntKind.u64.wrap 3 = 3 := by decide
  have e2 : IntKind.i64.wrap 1 = 1 := by decide
  have e3 : IntKind.i64.wrap 61 = 61 := by decide
  refine gcalls_in (pl := noPl) [.tmp 2, .tmp 3] mixed Tryz.func213 rfl rfl (by exact ok213) ?_
  simp only [go_sem, Nat.reduceBEq, e1]
  refine callK_intro (c_Len 3 (by decide)) ?_
  rintro _ h1 ⟨hle1, L, rfl, l1, l2, l3⟩
  obtain rfl : L = 2 := by
    rcases Nat.lt_or_ge L 2 with h | h
    · have : 2 ^ L ≤ 2 ^ 1 := Nat.pow_le_pow_right (by decide) (by omega)
      omega
    · rcases Nat.lt_or_ge 2 L with h' | h'
      · have : 2 ^ 2 ≤ 2 ^ (L - 1) := Nat.pow_le_pow_right (by decide) (by omega)
        omega
      · omega
  simp only [go_sem, Nat.reduceBEq, Int.reduceSub, Int.reduceLE, Int.reduceToNat, ↓reduceIte, e1, e2, e3]
  refine loopK_inv (α := Nat) (fun i => 26 - i) (fun i ts g => ts 5 = .int .u64 (FS.run fs3 i).low ∧ ts 6 = .int .u64 (FS.run fs3 i).high ∧ ts 7 = .int .i64 (FS.run fs3 i).out ∧ ts 21 = .int .i64 i ∧ i ≤ 26 ∧ h.le g) ?_ (a0 := 0) ?_
  · rintro i ts g ⟨h5, h6, h7, h21, hi, hle⟩
    have hf := fs3_fine i
    have hs : FS.run fs3 (i + 1) = (FS.run fs3 i).step := rfl
    have ho : i = 26 → (FS.run fs3 i).out = 106365032 := by rintro rfl; exact fs3_out
    generalize FS.run fs3 i = st at h5 h6 h7 hf hs ho
    simp only [go_sem, h21]
    refine ifK_intro (fun c1 => ?_) (fun c1 => ?_)
    · have c1' := of_decide_eq_true c1
      have hf := hf (by omega)
      have wi : IntKind.i64.wrap ((i : Int) + 1) = ((i + 1 : Nat) : Int) := wrap_i64 (by omega) (by omega)
      simp only [go_sem, Nat.reduceBEq, h5, c1]
      refine callK_intro (c_Mul64 st.low st.low) ?_
      rintro _ h2 ⟨hle2, rfl⟩
      simp only [go_sem, Nat.reduceBEq, Int.reduceLE, Int.reduceToNat, Array.reduceGetElem?, ↓reduceIte, h6]
      refine callK_intro (c_Mul64 st.high st.high) ?_
      rintro _ h3 ⟨hle3, rfl⟩
      simp only [go_sem, Nat.reduceBEq, Int.reduceLE, Int.reduceToNat, Array.reduceGetElem?, ↓reduceIte, h7]
      refine ifK_intro (fun c2 => ?_) (fun c2 => ?_)
      · have c2' : 9223372036854775808 ≤ sqU st.low := of_decide_eq_true c2
        rw [FS.step, if_pos c2'] at hs
        simp only [go_sem, Nat.reduceBEq, Int.reduceLE, Int.reduceToNat, ↓reduceIte, h21, wi]
        refine ⟨i + 1, by omega, ?_, ?_, ?_, rfl, by omega, (hle.trans hle2).trans hle3⟩ <;> rw [hs] <;> rfl
      · have c2' : ¬ 9223372036854775808 ≤ sqU st.low := of_decide_eq_false c2
        rw [FS.step, if_neg c2'] at hs
        have c3' : ¬ 9223372036854775808 ≤ hiU st.high := by
          rw [FS.fine, decide_eq_false c2', Bool.false_or, Bool.not_eq_true', decide_eq_false_iff_not] at hf
          exact hf
        simp only [go_sem, Nat.reduceBEq]
        refine ifK_intro (fun c3 => absurd (of_decide_eq_true c3) c3') (fun c3 => ?_)
        simp only [go_sem, Nat.reduceBEq, h21, wi]
        refine ⟨i + 1, by omega, ?_, ?_, ?_, rfl, by omega, (hle.trans hle2).trans hle3⟩ <;> rw [hs] <;> rfl
    · have c1' := of_decide_eq_false c1
      obtain rfl : i = 26 := by omega
      simp only [go_sem, Nat.reduceBEq, Int.reduceLT, h7]
      rw [ho rfl]
      exact ⟨hle, rfl⟩
  · simp only [go_sem, Nat.reduceBEq, Nat.reduceLeDiff]
    exact ⟨rfl, rfl, rfl, hle1⟩
def fs5 : FS := ⟨IntKind.u64.wrap (5 * 2 ^ min 60 64), IntKind.u64.wrap (5 * 2 ^ min 60 64), 2⟩
theorem fs5_fine : ∀ i, i < 26 → (FS.run fs5 i).fine = true := by
  have : ∀ i : Fin 26, (FS.run fs5 i.1).fine = true := by decide +kernel
  intro i h
  exact this ⟨i, h⟩
theorem fs5_out : (FS.run fs5 26).out = 155821956 := by decide +kernel
theorem c_fast5 {h : GH} : ∃ r h', GCalls Tryz.prog gE 213 #[.int .i64 5] h r h' ∧ h.le h' ∧ r = .tuple #[.int .i64 155821956, .bool true] := by
  have e1 : IntKind.u64.wrap 5 = 5 := by decide
  have e2 : IntKind.i64.wrap 2 = 2 := by decide
  have e3 : IntKind.i64.wrap 60 = 60 := by decide
  refine gcalls_in (pl := noPl) [.tmp 2, .tmp 3] mixed Tryz.func213 rfl rfl (by exact ok213) ?_
  simp only [go_sem, Nat.reduceBEq, e1]
  refine callK_intro (c_Len 5 (by decide)) ?_
  rintro _ h1 ⟨hle1, L, rfl, l1, l2, l3⟩
  obtain rfl : L = 3 := by
    rcases Nat.lt_or_ge L 3 with h | h
    · have : 2 ^ L ≤ 2 ^ 2 := Nat.pow_le_pow_right (by decide) (by omega)
      omega
    · rcases Nat.lt_or_ge 3 L with h' | h'
      · have : 2 ^ 3 ≤ 2 ^ (L - 1) := Nat.pow_le_pow_right (by decide) (by omega)
        omega
      · omega
  simp only [go_sem, Nat.reduceBEq, Int.reduceSub, Int.reduceLE, Int.reduceToNat, ↓reduceIte, e1, e2, e3]
  refine loopK_inv (α := Nat) (fun i => 26 - i) (fun i ts g => ts 5 = .int .u64 (FS.run fs5 i).low ∧ ts 6 = .int .u64 (FS.run fs5 i).high ∧ ts 7 = .int .i64 (FS.run fs5 i).out ∧ ts 21 = .int .i64 i ∧ i ≤ 26 ∧ h.le g) ?_ (a0 := 0) ?_
  · rintro i ts g ⟨h5, h6, h7, h21, hi, hle⟩
    have hf := fs5_fine i
    have hs : FS.run fs5 (i + 1) = (FS.run fs5 i).step := rfl
    have ho : i = 26 → (FS.run fs5 i).out = 155821956 := by rintro rfl; exact fs5_out
    generalize FS.run fs5 i = st at h5 h6 h7 hf hs ho
    simp only [go_sem, h21]
    refine ifK_intro (fun c1 => ?_) (fun c1 => ?_)
    · have c1' := of_decide_eq_true c1
      have hf := hf (by omega)
      have wi : IntKind.i64.wrap ((i : Int) + 1) = ((i + 1 : Nat) : Int) := wrap_i64 (by omega) (by omega)
      simp only [go_sem, Nat.reduceBEq, h5, c1]
      refine callK_intro (c_Mul64 st.low st.low) ?_
      rintro _ h2 ⟨hle2, rfl⟩
      simp only [go_sem, Nat.reduceBEq, Int.reduceLE, Int.reduceToNat, Array.reduceGetElem?, ↓reduceIte, h6]
      refine callK_intro (c_Mul64 st.high st.high) ?_
      rintro _ h3 ⟨hle3, rfl⟩
      simp only [go_sem, Nat.reduceBEq, Int.reduceLE, Int.reduceToNat, Array.reduceGetElem?, ↓reduceIte, h7]
      refine ifK_intro (fun c2 => ?_) (fun c2 => ?_)
      · have c2' : 9223372036854775808 ≤ sqU st.low := of_decide_eq_true c2
        rw [FS.step, if_pos c2'] at hs
        simp only [go_sem, Nat.reduceBEq, Int.reduceLE, Int.reduceToNat, ↓reduceIte, h21, wi]
        refine ⟨i + 1, by omega, ?_, ?_, ?_, rfl, by omega, (hle.trans hle2).trans hle3⟩ <;> rw [hs] <;> rfl
      · have c2' : ¬ 9223372036854775808 ≤ sqU st.low := of_decide_eq_false c2
        rw [FS.step, if_neg c2'] at hs
        have c3' : ¬ 9223372036854775808 ≤ hiU st.high := by
          rw [FS.fine, decide_eq_false c2', Bool.false_or, Bool.not_eq_true', decide_eq_false_iff_not] at hf
          exact hf
        simp only [go_sem, Nat.reduceBEq]
        refine ifK_intro (fun c3 => absurd (of_decide_eq_true c3) c3') (fun c3 => ?_)
        simp only [go_sem, Nat.reduceBEq, h21, wi]
        refine ⟨i + 1, by omega, ?_, ?_, ?_, rfl, by omega, (hle.trans hle2).trans hle3⟩ <;> rw [hs] <;> rfl
    · have c1' := of_decide_eq_false c1
      obtain rfl : i = 26 := by omega
      simp only [go_sem, Nat.reduceBEq, Int.reduceLT, h7]
      rw [ho rfl]
      exact ⟨hle, rfl⟩
  · simp only [go_sem, Nat.reduceBEq, Nat.reduceLeDiff]
    exact ⟨rfl, rfl, rfl, hle1⟩
end Go.Proofs.Gh
namespace Go.Proofs.Gh
open Go Go.Proofs Go.Proofs.Zz
/-! rows that grow by append, in blocks of their own above a memory h0 -/
def Own (h0 h : GH) (v : Value) (e : Nat) (els : List (List Value)) (o : Option Nat) : Prop :=
  (v = .slice none 0 0 ∧ els = [] ∧ o = none) ∨ ∃ g, o = some g ∧ v = .slice (some ⟨g, 0, none⟩) els.length (unk + e) ∧ h0.n ≤ g ∧ g < h.n ∧ h.b g = Row els ∧ 0 < els.length
theorem Own.nil (h0 h : GH) (e : Nat) : Own h0 h (.slice none 0 0) e [] none := .inl ⟨rfl, rfl, rfl⟩
theorem Own.keep {h0 h h' : GH} {v : Value} {e : Nat} {els : List (List Value)} {o : Option Nat} (s : Own h0 h v e els o) (hn : h.n ≤ h'.n) (hb : ∀ g, o = some g → g < h.n → h'.b g = h.b g) : Own h0 h' v e els o := by
  rcases s with s | ⟨g, rfl, h1, h2, h3, h4, h5⟩
  · exact .inl s
  · exact .inr ⟨g, rfl, h1, h2, Nat.lt_of_lt_of_le h3 hn, (hb g rfl h3).trans h4, h5⟩
theorem Own.mono {h0 h h' : GH} {v : Value} {e : Nat} {els : List (List Value)} {o : Option Nat} (s : Own h0 h v e els o) (hl : h.le h') : Own h0 h' v e els o :=
  s.keep hl.1 fun g _ hg => hl.2 g hg
theorem Own.one {h0 h : GH} {v : Value} {e : Nat} {els : List (List Value)} {o : Option Nat} (s : Own h0 h v e els o) : Value.oneCell' v = true := by
  rcases s with ⟨rfl, _⟩ | ⟨g, _, rfl, _⟩ <;> rfl
theorem Own.sl {h0 h : GH} {v : Value} {e : Nat} {els : List (List Value)} {o : Option Nat} (s : Own h0 h v e els o) (hl : ∀ y ∈ els, y.length = e) (hlen : els.length < unk) : Sl h v e els := by
  rcases s with ⟨rfl, rfl, _⟩ | ⟨g, _, rfl, _, h3, h4, h5⟩
  · exact .inl ⟨rfl, rfl⟩
  · exact .inr ⟨g, 0, unk + e, rfl, row_at h3 h4 hl ⟨by omega, fun _ => .inr rfl⟩⟩
section
variable {P : Program} {h0 h : GH} {v : Value} {t et e : Nat} {z : Array Value} {b : Bool} {els : List (List Value)} {x : List Value} {o : Option Nat} {g2 o2 c2 : Nat}
/-- one element more -/
theorem Own.append (s : Own h0 h v e els o) (hs : sk P t = some et) (ht : tk P et = some (b, e)) (hz : zk P et = some z) (hze : z.size = e) (hce : P.cellsOf et = e) (he : 0 < e) (hl : ∀ y ∈ els, y.length = e) (hx : x.length = e)
    (hld : h.load g2 o2 e = some x) (hone : x.all Value.oneCell' = true) (hlen : els.length ≤ 1000000) (hby : P.bytesOf et ≤ 1000) (h0n : h0.n ≤ h.n) :
    ∃ h', gAppend P t t v (.slice (some ⟨g2, o2, none⟩) 1 c2) h = some (.slice (some ⟨h.n, 0, none⟩) (els.length + 1) (unk + e), h') ∧ h'.n = h.n + 1 ∧ h'.b h.n = Row (els ++ [x]) ∧ (∀ g, g < h.n → some g ≠ o → h'.b g = h.b g) ∧
      Own h0 h' (.slice (some ⟨h.n, 0, none⟩) (els.length + 1) (unk + e)) e (els ++ [x]) (some h.n) := by
  have hfl := flatten_length hl
  have hld1 : h.load g2 o2 (1 * e) = some x := by rw [Nat.one_mul]; exact hld
  have hx1 : x.length = 1 * e := by omega
  have hb1 : 2 * (els.length + 1) * P.bytesOf et ≤ 281474976710656 := Nat.le_trans (Nat.mul_le_mul (show 2 * (els.length + 1) ≤ 2000002 by omega) hby) (by decide)
  rcases s with ⟨rfl, rfl, rfl⟩ | ⟨g, rfl, rfl, k2, k3, k4, k5⟩
  · refine ⟨h.alloc ⟨x, true, false⟩, append_nil hs ht hz hze hce hld1 (by decide) hx1 hone (by decide) (by simpa using hb1), rfl, by rw [alloc_self]; simp [Row], fun g hg _ => alloc_b_lt _ _ hg, .inr ⟨h.n, rfl, ?_, h0n, Nat.lt_succ_self _, by rw [alloc_self]; simp [Row], by simp⟩⟩
    simp
  · have hold : h.load g 0 (els.length * e) = some els.flatten := load_at (cells := els.flatten) (ro := false) k3 k4 (by omega) (by rw [List.drop_zero, ← hfl, List.take_length])
    refine ⟨(h.upd g dead).alloc ⟨els.flatten ++ x, true, false⟩, append_unk hs ht hz hze hce he hld1 (by decide) hx1 hone (by rw [k4]; rfl) hold (by omega) hb1, rfl, ?_, fun g' hg' hne => ?_, .inr ⟨h.n, rfl, by simp, h0n, Nat.lt_succ_self _, ?_, by simp⟩⟩
    · show ((h.upd g dead).alloc _).b (h.upd g dead).n = _
      rw [alloc_self]; simp [Row]
    · rw [alloc_b_lt _ _ (by exact hg'), upd_ne _ _ (by rintro rfl; exact hne rfl)]
    · show ((h.upd g dead).alloc _).b (h.upd g dead).n = _
      rw [alloc_self]; simp [Row]
end
end Go.Proofs.Gh
namespace Go.Proofs.Gh
open Go Go.Proofs Go.Proofs.Zz
set_option maxRecDepth 10000
set_option linter.unusedSimpArgs false
/-- the common denominator of the first i numbers -/
def lc (l : List Rat) : Nat → Nat
  | 0 => 1
  | i + 1 => (lc l i).lcm (l[i]?.getD 0).den
theorem lc_pos (l : List Rat) : ∀ i, 0 < lc l i
  | 0 => Nat.one_pos
  | i + 1 => Nat.lcm_pos (lc_pos l i) (Rat.den_pos _)
theorem lc_mono (l : List Rat) (i : Nat) : lc l i ∣ lc l (i + 1) := Nat.dvd_lcm_left _ _
theorem lc_den (l : List Rat) {i n : Nat} {q : Rat} (hq : l[i]? = some q) (hn : i < n) : q.den ∣ lc l n := by
  induction n with
  | zero => omega
  | succ n ih =>
    rcases Nat.lt_or_ge i n with h | h
    · exact Nat.dvd_trans (ih h) (lc_mono l n)
    · obtain rfl : i = n := by omega
      rw [lc, hq]
      exact Nat.dvd_lcm_right _ _
/-- the terms: primes and whole factors over the common denominator D -/
def sel (p : List Int) (l : List Rat) (D : Nat) : Nat → List (Int × Int)
  | 0 => []
  | i + 1 => if (l[i]?.getD 0).num = 0 then sel p l D i else sel p l D i ++ [(p[i]?.getD 0, (l[i]?.getD 0).num * ((D : Int) / (l[i]?.getD 0).den))]
/-- rows of integers' texts -/
def strs (l : List Int) : List (List Value) := l.map fun z => [.string (enc z)]
theorem sel_len (p : List Int) (l : List Rat) (D : Nat) : ∀ i, (sel p l D i).length ≤ i
  | 0 => Nat.le_refl _
  | i + 1 => by
    have := sel_len p l D i
    rw [sel]
    split
    · omega
    · simp; omega
theorem ints_one (l : List Int) : ∀ y ∈ ints l, y.length = 1 := by
  intro y hy
  obtain ⟨x, _, rfl⟩ := List.mem_map.1 hy
  rfl
theorem strs_one (l : List Int) : ∀ y ∈ strs l, y.length = 1 := by
  intro y hy
  obtain ⟨x, _, rfl⟩ := List.mem_map.1 hy
  rfl
abbrev tz : List Value := [.slice none 0 0, .slice none 0 0, .string ⟨#[]⟩]
/-- loads and stores in a block of three cells -/
theorem tri {h : GH} {g : Nat} {a b c : Value} (hg : g < h.n) (hb : h.b g = ⟨[a, b, c], true, false⟩) :
    h.load g 0 1 = some [a] ∧ h.load g 1 1 = some [b] ∧ h.load g 2 1 = some [c] ∧ h.load g 0 3 = some [a, b, c] ∧
    (∀ x, Value.oneCell' x = true → h.store g 0 [x] = some (h.upd g ⟨[x, b, c], true, false⟩) ∧ h.store g 1 [x] = some (h.upd g ⟨[a, x, c], true, false⟩) ∧ h.store g 2 [x] = some (h.upd g ⟨[a, b, x], true, false⟩)) ∧
    ∀ x y z, Value.oneCell' x = true → Value.oneCell' y = true → Value.oneCell' z = true → h.store g 0 [x, y, z] = some (h.upd g ⟨[x, y, z], true, false⟩) := by
  refine ⟨load_one_at hg hb rfl, load_one_at hg hb rfl, load_one_at hg hb rfl, load_at hg hb (by simp) rfl, fun x hx => ⟨?_, ?_, ?_⟩, fun x y z hx hy hz => ?_⟩
  · rw [store_at hg hb (by simp) (by simp [hx])]; rfl
  · rw [store_at hg hb (by simp) (by simp [hx])]; rfl
  · rw [store_at hg hb (by simp) (by simp [hx])]; rfl
  · exact cells_store hg hb rfl (by simp [hx, hy, hz])
theorem c_termsOf {h : GH} {pv sv : Value} {p : List Int} {l : List Rat} (hp : PrAt h pv p) (s : SzAt h sv l) (hl : l.length = p.length) (hlen : p.length ≤ 1000) (hs : SmL l) (hD : ∀ i, i ≤ l.length → Sm (lc l i)) (hF : ∀ (i : Nat) (q : Rat), l[i]? = some q → Sm (q.num * ((lc l l.length : Int) / q.den))) :
    ∃ r h', GCalls Tryz.prog gE 115 #[pv, sv] h r h' ∧ h.le h' ∧ ∃ v1 v2, r = .agg #[v1, v2, .string (enc (lc l l.length : Nat))] ∧ Sl h' v1 1 (ints ((sel p l (lc l l.length) l.length).map Prod.fst)) ∧ Sl h' v2 1 (strs ((sel p l (lc l l.length) l.length).map Prod.snd)) := by
  obtain ⟨pg, po, pc, rfl, hp⟩ := hp
  obtain ⟨g, o, c, rfl, s⟩ := s
  obtain ⟨H, hst0, Hn, Ha, Hb, Hle⟩ : ∃ H, ((h.alloc ⟨tz, true, false⟩).alloc ⟨tz, true, false⟩).store (h.n + 1) 0 [.slice none 0 0, .slice none 0 0, .string ⟨#[49]⟩] = some H ∧ H.n = h.n + 2 ∧ H.b h.n = ⟨tz, true, false⟩ ∧ H.b (h.n + 1) = ⟨[.slice none 0 0, .slice none 0 0, .string (enc 1)], true, false⟩ ∧ h.le H :=
    ⟨_, (tri (h := (h.alloc ⟨tz, true, false⟩).alloc ⟨tz, true, false⟩) (Nat.lt_succ_self _) (alloc_self _ _)).2.2.2.2.2 _ _ _ rfl rfl rfl, rfl, by rw [upd_ne _ _ (show h.n ≠ (h.alloc _).n by simp), alloc_b_lt _ _ (Nat.lt_succ_self _), alloc_self], upd_self _ _ _, ((GH.le_alloc _ _).trans (GH.le_alloc _ _)).upd (Nat.le_succ _) _⟩
  refine gcalls_in (pl := pl115) [.cell 4 148] mixed Tryz.func115 rfl rfl (by exact ok115) ?_
  simp only [go_sem, Nat.reduceBEq, Nat.reduceAdd, ↓reduceIte, hst0]
  refine loopK_inv (α := Nat) (fun i => l.length - i) (fun i ts g' => ts 0 = .slice (some ⟨pg, po, none⟩) p.length pc ∧ ts 1 = .slice (some ⟨g, o, none⟩) l.length c ∧ ts 4 = .pointer (some ⟨h.n, 0, none⟩) ∧ ts 5 = .pointer (some ⟨h.n + 1, 0, none⟩) ∧ ts 14 = .slice (some ⟨g, o, none⟩) l.length c ∧ ts 15 = .int .i64 l.length ∧ ts 16 = .int .i64 i ∧ i ≤ l.length ∧ h.le g' ∧ H.n ≤ g'.n ∧ g'.b h.n = ⟨tz, true, false⟩ ∧ g'.b (h.n + 1) = ⟨[.slice none 0 0, .slice none 0 0, .string (enc (lc l i : Nat))], true, false⟩) ?_ (a0 := 0) ?_
  · rintro i ts g' ⟨h0, h1, h4, h5, h14, h15, h16, hi, hle, hn, ha, hb⟩
    simp only [go_sem, h15, h16]
    refine ifK_intro (fun c1 => ?_) (fun c1 => ?_)
    · have c1' := of_decide_eq_true c1
      obtain ⟨q, hq⟩ : ∃ q, l[i]? = some q := ⟨_, List.getElem?_eq_getElem (by omega)⟩
      have hsq := hs q (List.mem_of_getElem? hq)
      have hl1 := (s.mono hle).load (rats_get hq)
      have hb1 : (g'.alloc (rB q)).b (h.n + 1) = _ := (alloc_b_lt _ _ (by omega)).trans hb
      have t1 := tri (h := g'.alloc (rB q)) (show h.n + 1 < g'.n + 1 by omega) hb1
      have elc : lc l (i + 1) = (lc l i).lcm q.den := by rw [lc, hq]; rfl
      simp only [go_sem, Nat.reduceBEq, Nat.reduceAdd, ↓reduceIte, h5, h14, h16, c1', hl1, t1.2.2.1]
      refine callK_intro (c_Lcm (lc l i) q.den (hD i (by omega)) hsq.2 (lc_pos l i) q.den_pos (by rw [← elc]; exact hD (i + 1) (by omega))) ?_
      rintro _ h2 ⟨hle2, rfl⟩
      have hle02 := (GH.le_alloc g' (rB q)).trans hle2
      have lt2 : h.n + 1 < h2.n := Nat.lt_of_lt_of_le (by omega : h.n + 1 < g'.n) hle02.1
      have hb2 := (hle02.2 (h.n + 1) (by omega)).trans hb
      have t2 := tri lt2 hb2
      have w1 : IntKind.i64.wrap ((i : Int) + 1) = ((i + 1 : Nat) : Int) := wrap_i64 (by omega) (by omega)
      simp only [go_sem, Nat.reduceBEq, ↓reduceIte, h0, h1, h4, h5, h14, h15, h16, (t2.2.2.2.2.1 (.string _) rfl).2.2, w1]
      refine ⟨i + 1, by omega, rfl, by omega, (hle.trans hle02).upd (by omega) _, Nat.le_trans hn hle02.1, ?_, ?_⟩
      · rw [upd_ne _ _ (by omega), hle02.2 _ (by omega), ha]
      · rw [upd_self, elc]
    · have c1' := of_decide_eq_false c1
      obtain rfl : i = l.length := by omega
      simp only [go_sem, Nat.reduceBEq, h1, c1]
      obtain ⟨D, hDe⟩ : ∃ D, D = lc l l.length := ⟨_, rfl⟩
      rw [← hDe] at hb
      refine loopK_inv (α := Nat) (fun i => l.length - i) (fun i ts g2 => ∃ v1 v2 o1 o2, ts 0 = .slice (some ⟨pg, po, none⟩) p.length pc ∧ ts 4 = .pointer (some ⟨h.n, 0, none⟩) ∧ ts 5 = .pointer (some ⟨h.n + 1, 0, none⟩) ∧ ts 27 = .slice (some ⟨g, o, none⟩) l.length c ∧ ts 28 = .int .i64 l.length ∧ ts 29 = .int .i64 i ∧ i ≤ l.length ∧ h.le g2 ∧ H.n ≤ g2.n ∧ g2.b h.n = ⟨tz, true, false⟩ ∧ g2.b (h.n + 1) = ⟨[v1, v2, .string (enc (D : Nat))], true, false⟩ ∧
        Own H g2 v1 1 (ints ((sel p l D i).map Prod.fst)) o1 ∧ Own H g2 v2 1 (strs ((sel p l D i).map Prod.snd)) o2 ∧ (∀ k, o1 = some k → o2 ≠ some k)) ?_ (a0 := 0) ?_
      · rintro i ts g2 ⟨v1, v2, o1, o2, h0, h4, h5, h27, h28, h29, hi, hle, hn, ha, hb, w1, w2, hne⟩
        simp only [go_sem, h28, h29]
        refine ifK_intro (fun c2 => ?_) (fun c2 => ?_)
        · have c2' := of_decide_eq_true c2
          obtain ⟨q, hq⟩ : ∃ q, l[i]? = some q := ⟨_, List.getElem?_eq_getElem (by omega)⟩
          obtain ⟨x, hx⟩ : ∃ x, p[i]? = some x := ⟨_, List.getElem?_eq_getElem (by omega)⟩
          have hsq := hs q (List.mem_of_getElem? hq)
          have hl1 := (s.mono hle).load (rats_get hq)
          have hip : (i : Int) < p.length := by omega
          have wi : IntKind.i64.wrap ((i : Int) + 1) = ((i + 1 : Nat) : Int) := wrap_i64 (by omega) (by omega)
          simp only [go_sem, Nat.reduceBEq, Nat.reduceAdd, ↓reduceIte, h27, h29, c2', hl1]
          refine ifK_intro (fun c3 => ?_) (fun c3 => ?_)
          · have c3' : ¬ q.num = 0 := fun hz => of_decide_eq_true c3 (enc_eq_zero.2 hz)
            have es : sel p l D (i + 1) = sel p l D i ++ [(x, q.num * ((D : Int) / q.den))] := by rw [sel, hq, if_neg (by simpa using c3'), hx]; rfl
            have lt0 : h.n + 1 < (g2.alloc (rB q)).n := by show h.n + 1 < g2.n + 1; omega
            have hb0 : (g2.alloc (rB q)).b (h.n + 1) = _ := (alloc_b_lt _ _ (by omega)).trans hb
            have t0 := tri lt0 hb0
            simp only [go_sem, Nat.reduceBEq, h5, c3, t0.2.2.1]
            have r0 := RatAt.new g2 q
            refine callK_intro (c_DivMod D q.den (by rw [hDe]; exact hD _ (Nat.le_refl _)) hsq.2 (by have := q.den_pos; omega)) ?_
            rintro _ h2 ⟨hle2, rfl⟩
            -- the memories m1 .. m6
            have le01 := (GH.le_alloc g2 (rB q)).trans hle2
            have n1 : g2.n < h2.n := hle2.1
            have lt1 : h.n + 1 < h2.n := by omega
            have hb1 := (le01.2 (h.n + 1) (by omega)).trans hb
            have t1 := tri lt1 hb1
            have hpl := (hp.mono (hle.trans le01)).load (ints_get hx)
            rw [Nat.mul_one] at hpl
            have r2 := (r0.mono hle2).mono (GH.le_alloc h2 ⟨[.int .i64 x], true, false⟩)
            have hb2 : (h2.alloc ⟨[.int .i64 x], true, false⟩).b (h.n + 1) = _ := (alloc_b_lt _ _ lt1).trans hb1
            have t2 := tri (Nat.lt_succ_of_lt lt1 : h.n + 1 < (h2.alloc ⟨[.int .i64 x], true, false⟩).n) hb2
            have w1' := w1.mono (le01.trans (GH.le_alloc h2 ⟨[.int .i64 x], true, false⟩))
            obtain ⟨m3, hap, n3, b3, k3, w3⟩ := w1'.append (P := Tryz.prog) (x := [.int .i64 x]) (c2 := 1) ty_sk29 ty_tk3 ty_zk3 rfl ty_ce3 (by decide) (ints_one _) rfl alloc_load1 rfl (by have := sel_len p l D i; simp [ints]; omega) (by rw [ty_be3]; decide) (by show H.n ≤ h2.n + 1; omega)
            have o1ne : ∀ k, k < H.n → some k ≠ o1 := by
              rintro k hk rfl
              rcases w1 with ⟨_, _, h⟩ | ⟨g, h, _, hg, _⟩
              · cases h
              · injection h with h; omega
            have n2 : (h2.alloc ⟨[.int .i64 x], true, false⟩).n = h2.n + 1 := rfl
            have t3 := tri (h := m3) (by omega) ((k3 (h.n + 1) (by omega) (o1ne _ (by omega))).trans hb2)
            have r3 : RatAt m3 g2.n q := ⟨by omega, (k3 g2.n (by omega) (by
              rintro rfl
              rcases w1 with ⟨_, _, h⟩ | ⟨g, h, _, _, hg, _⟩
              · cases h
              · injection h with h; omega)).trans r2.b⟩
            simp only [go_sem, Nat.reduceBEq, Nat.reduceLeDiff, Nat.reduceLT, Array.reduceGetElem?, ↓reduceIte, h0, h5, c3, hip, hpl, t1.1, t2.2.1, r2.l0, hap, t3.2.1, r3.l0, pl115]
            have hDs : Sm (D : Nat) := by rw [hDe]; exact hD _ (Nat.le_refl _)
            have hdq : ((D : Int) / q.den).natAbs ≤ D := Int.natAbs_ediv_le_natAbs _ _
            refine callK_intro (c_Mul q.num ((D : Int) / q.den) hsq.1 (by omega) (by rw [hDe]; exact hF i q hq)) ?_
            rintro _ h9 ⟨hle9, rfl⟩
            have o2ne : ∀ k, k < H.n → some k ≠ o2 := by
              rintro k hk rfl
              rcases w2 with ⟨_, _, h⟩ | ⟨g, h, _, hg, _⟩
              · cases h
              · injection h with h; omega
            have hb3 := (k3 (h.n + 1) (by omega) (o1ne _ (by omega))).trans hb2
            have hb4 := (hle9.2 (h.n + 1) (by omega)).trans hb3
            have ha4 : h9.b h.n = ⟨tz, true, false⟩ := (hle9.2 _ (by omega)).trans ((k3 _ (by omega) (o1ne _ (by omega))).trans ((alloc_b_lt _ _ (by omega)).trans ((le01.2 _ (by omega)).trans ha)))
            have n4 := hle9.1
            have t4 := tri (h := h9) (by omega) hb4
            have w2m : Own H m3 v2 1 _ o2 := (w2.mono (le01.trans (GH.le_alloc h2 ⟨[.int .i64 x], true, false⟩))).keep (by omega) fun k hk hk2 => k3 k hk2 (fun he => hne k he.symm hk)
            have w2' := w2m.mono (hle9.trans (GH.le_alloc h9 ⟨[.string (enc (q.num * ((D : Int) / q.den)))], true, false⟩))
            have w1' := w3.mono (hle9.trans (GH.le_alloc h9 ⟨[.string (enc (q.num * ((D : Int) / q.den)))], true, false⟩))
            obtain ⟨m6, hap2, n6, b6, k6, w6⟩ := w2'.append (P := Tryz.prog) (x := [.string (enc (q.num * ((D : Int) / q.den)))]) (c2 := 1) ty_sk146 ty_tk50 ty_zk50 rfl ty_ce50 (by decide) (strs_one _) rfl alloc_load1 rfl (by have := sel_len p l D i; simp [strs]; omega) (by rw [ty_be50]; decide) (by show H.n ≤ h9.n + 1; omega)
            have n5 : (h9.alloc ⟨[.string (enc (q.num * ((D : Int) / q.den)))], true, false⟩).n = h9.n + 1 := rfl
            have t6 := tri (h := m6) (by omega) ((k6 (h.n + 1) (by omega) (o2ne _ (by omega))).trans ((alloc_b_lt _ _ (by omega)).trans hb4))
            have s6 := (t6.2.2.2.2.1 (.slice (some ⟨h2.n + 1, 0, none⟩) ((ints ((sel p l D i).map Prod.fst)).length + 1) (unk + 1)) rfl).1
            have t7 := tri (h := m6.upd (h.n + 1) ⟨[.slice (some ⟨h2.n + 1, 0, none⟩) ((ints ((sel p l D i).map Prod.fst)).length + 1) (unk + 1), v2, .string (enc (D : Nat))], true, false⟩) (show h.n + 1 < m6.n by omega) (upd_self _ _ _)
            have s7 := (t7.2.2.2.2.1 (.slice (some ⟨h9.n + 1, 0, none⟩) ((strs ((sel p l D i).map Prod.snd)).length + 1) (unk + 1)) rfl).2.1
            simp only [go_sem, Nat.reduceBEq, Nat.reduceLeDiff, Nat.reduceLT, Array.reduceGetElem?, ↓reduceIte, h0, h4, h5, h27, h28, h29, c3, t4.2.1, hap2, s6, s7, wi]
            have hm3 : h.le m3 := ⟨by omega, fun g hg => (k3 g (by omega) (o1ne g (by omega))).trans ((alloc_b_lt _ _ (by omega)).trans ((hle.trans le01).2 g hg))⟩
            have hm9 := hm3.trans hle9
            have hm6 : h.le m6 := ⟨by omega, fun g hg => (k6 g (by omega) (o2ne g (by omega))).trans ((alloc_b_lt _ _ (by omega)).trans (hm9.2 g hg))⟩
            have keepM : ∀ {v e els k}, Own H m6 v e els (some k) → k ≠ h.n + 1 → Own H ((m6.upd (h.n + 1) ⟨[.slice (some ⟨h2.n + 1, 0, none⟩) ((ints ((sel p l D i).map Prod.fst)).length + 1) (unk + 1), v2, .string (enc (D : Nat))], true, false⟩).upd (h.n + 1) ⟨[.slice (some ⟨h2.n + 1, 0, none⟩) ((ints ((sel p l D i).map Prod.fst)).length + 1) (unk + 1), .slice (some ⟨h9.n + 1, 0, none⟩) ((strs ((sel p l D i).map Prod.snd)).length + 1) (unk + 1), .string (enc (D : Nat))], true, false⟩) v e els (some k) := by
              intro v e els k w hk
              refine w.keep (Nat.le_refl _) fun g hg _ => ?_
              injection hg with hg
              rw [upd_ne _ _ (by omega), upd_ne _ _ (by omega)]
            have w16 : Own H m6 _ 1 _ (some (h2.n + 1)) := w1'.keep (by omega) fun k hk hk2 => k6 k hk2 (by
              injection hk with hk
              rintro rfl
              rcases w2 with ⟨_, _, h⟩ | ⟨g, h, _, _, hg, _⟩
              · cases h
              · injection h with h; omega)
            have e1 : ints ((sel p l D (i + 1)).map Prod.fst) = ints ((sel p l D i).map Prod.fst) ++ [[.int .i64 x]] := by rw [es]; simp [ints]
            have e2 : strs ((sel p l D (i + 1)).map Prod.snd) = strs ((sel p l D i).map Prod.snd) ++ [[.string (enc (q.num * ((D : Int) / q.den)))]] := by rw [es]; simp [strs]
            refine ⟨i + 1, by omega, _, _, some (h2.n + 1), some (h9.n + 1), rfl, by omega, (hm6.upd (by omega) _).upd (by omega) _, by show H.n ≤ m6.n; omega, ?_, upd_self _ _ _, by rw [e1]; exact keepM w16 (by omega), by rw [e2]; exact keepM w6 (by omega), fun k hk hk2 => by injection hk with hk; injection hk2 with hk2; omega⟩
            rw [upd_ne _ _ (by omega), upd_ne _ _ (by omega), k6 _ (by omega) (o2ne _ (by omega)), alloc_b_lt _ _ (by omega), ha4]
          · have c3' : q.num = 0 := by
              have := of_decide_eq_false c3
              exact enc_eq_zero.1 (Decidable.not_not.1 this)
            have es : sel p l D (i + 1) = sel p l D i := by rw [sel, hq, if_pos (by simpa using c3')]
            simp only [go_sem, Nat.reduceBEq, h0, h4, h5, h27, h28, h29, wi]
            exact ⟨i + 1, by omega, v1, v2, o1, o2, rfl, by omega, hle.trans (GH.le_alloc _ _), Nat.le_succ_of_le hn, (alloc_b_lt _ _ (by omega)).trans ha, (alloc_b_lt _ _ (by omega)).trans hb, by rw [es]; exact w1.mono (GH.le_alloc _ _), by rw [es]; exact w2.mono (GH.le_alloc _ _), hne⟩
        · have c2' := of_decide_eq_false c2
          obtain rfl : i = l.length := by omega
          have t1 := tri (show h.n + 1 < g2.n by omega) hb
          have t2 := tri (show h.n < g2.n by omega) ha
          have hst := t2.2.2.2.2.2 v1 v2 (.string (enc (D : Nat))) w1.one w2.one rfl
          have t3 := tri (h := g2.upd h.n ⟨[v1, v2, .string (enc (D : Nat))], true, false⟩) (show h.n < g2.n by omega) (upd_self _ _ _)
          simp only [go_sem, Nat.reduceBEq, Nat.reduceAdd, ↓reduceIte, h4, h5, c2, t1.2.2.2.1, hst, t3.2.2.2.1]
          have hln : ∀ i, (sel p l D i).length < unk ∨ 1000 < i := fun i => by
            have := sel_len p l D i
            rcases Nat.lt_or_ge 1000 i with h | h
            · exact .inr h
            · left; simp only [unk]; omega
          have fin : ∀ {v e els o}, Own H g2 v e els o → Own H (g2.upd h.n ⟨[v1, v2, .string (enc (D : Nat))], true, false⟩) v e els o := by
            intro v e els o w
            refine w.keep (Nat.le_refl _) fun k hk _ => upd_ne _ _ ?_
            rintro rfl
            rcases w with ⟨_, _, h⟩ | ⟨g, h, _, hg, _⟩
            · rw [h] at hk; cases hk
            · rw [h] at hk; injection hk with hk; omega
          have hl1000 : (sel p l D l.length).length < unk := by
            rcases hln l.length with h | h
            · exact h
            · omega
          rw [hDe]
          rw [hDe] at w1 w2 fin hl1000
          exact ⟨hle.upd (Nat.le_refl _) _, v1, v2, rfl, (fin w1).sl (ints_one _) (by rw [ints_length, List.length_map]; exact hl1000), (fin w2).sl (strs_one _) (by simp only [strs, List.length_map]; exact hl1000)⟩
      · simp only [go_sem, Nat.reduceBEq, h0, h4, h5]
        exact ⟨_, _, none, none, Nat.zero_le _, hle, hn, ha, hb, Own.nil _ _ _, Own.nil _ _ _, fun k hk => by cases hk⟩
  · simp only [go_sem, Nat.reduceBEq]
    exact ⟨Nat.zero_le _, Hle, Ha, Hb⟩
end Go.Proofs.Gh
namespace Go.Proofs.Gh
open Go Go.Proofs Go.RowKit
/-! a contract without memory, at whatever world where the told variables lie -/
def hG : GH := ⟨6, gE.b⟩
def mu0 : Mu := fun g => if g < 6 then some ⟨g, 0, 0, 0⟩ else none
theorem vr_told {μ ν : Mu} {g : Nat} {v v' : Value} {i : Nat} (hg : (gE.b g).cells[i]? = some v) (h : VR μ v v') : VR ν v v' := by
  have key : flat0 v = true ∨ v = .iface errT (.tuple #[]) := by
    match g with
    | 0 =>
      match i with
      | 0 => injection hg with hg; exact .inr hg.symm
      | i + 1 => cases hg
    | 1 =>
      match i with
      | 0 => injection hg with hg; exact .inr hg.symm
      | i + 1 => cases hg
    | 2 =>
      have : v ∈ pow10s := List.mem_of_getElem? hg
      simp only [pow10s, List.mem_map] at this
      obtain ⟨k, _, rfl⟩ := this
      exact .inl rfl
    | g + 3 => cases hg
  rcases key with key | rfl
  · rw [h.eq0 key]
    exact VR.of_flat0 key
  · cases h with
    | err => exact .err
    | iface h => exact .err
theorem GCalls.pure {P : Program} {f : FuncId} {args : Array Value} {r : Value} {h' : GH} (hc : GCalls P gE f args hG r h') (hf : args.all flat = true) (hr : flat r = true) {w0 : World} {B : Nat} {μ : Mu} {h : GH} {w : World} (hi : Inv w0 B μ h w) (hb : Base gE μ h)
    {W : World} (hW : ∀ k, k < w.heap.size → W.heap[k]? = w.heap[k]?) : Calls P f args W fun e w' => e = .returned r ∧ Below W.heap.size W w' := by
  have inv : Inv W W.heap.size mu0 hG W := by
    refine ⟨Below.refl _ _, Nat.le_refl _, fun g hg => if_neg (by have : hG.n = 6 := rfl; omega), fun g m hm ha => ?_, fun g g' m m' hm hm' hne ha ha' hro => ?_⟩
    · unfold mu0 at hm
      split at hm
      · rename_i hg
        injection hm with hm
        subst hm
        obtain ⟨h1, h2⟩ := hb.2 g hg
        obtain ⟨cs, t, fr, k1, k2, k3, k4⟩ := hi.blk g _ h1 (by rw [h2]; exact ha)
        refine ⟨cs, t, fr, by rw [hW g (Array.getElem?_eq_some_iff.1 k1).1]; exact k1, fun i v hv => ?_, fun v hv => k3 v (by rw [h2]; exact hv), fun hro => absurd hro (by rw [show (hG.b g).ro = (gE.b g).ro from rfl, gE.ro]; simp)⟩
        obtain ⟨v', e1, e2⟩ := k2 i v (by rw [h2]; exact hv)
        exact ⟨v', e1, vr_told hv e2⟩
      · cases hm
    · rw [show (hG.b g).ro = (gE.b g).ro from rfl, gE.ro] at hro
      cases hro
  have base : Base gE mu0 hG := ⟨Nat.le_refl _, fun g hg => ⟨if_pos hg, rfl⟩⟩
  refine (hc.2 W W.heap.size mu0 W args inv base (AR.of_flat hf)).mono ?_
  rintro e w' ⟨μ', res, rfl, k1, k2, k3⟩
  exact ⟨by rw [k2.eq hr], k1.below⟩
theorem Inv.below' {w0 : World} {B : Nat} {μ : Mu} {h : GH} {w w' : World} (hi : Inv w0 B μ h w) (hb : Below w.heap.size w w') : Inv w0 B μ h w' := by
  refine ⟨hi.below.trans (hb.mono hi.hB), Nat.le_trans hi.hB hb.size, hi.dom, fun g m hm ha => ?_, hi.sep⟩
  obtain ⟨cs, t, fr, k1, k2, k3, k4⟩ := hi.blk g m hm ha
  exact ⟨cs, t, fr, by rw [hb.block _ (Array.getElem?_eq_some_iff.1 k1).1]; exact k1, k2, k3, k4⟩
theorem Ext.below' {w0 : World} {B : Nat} {μ : Mu} {h : GH} {w w' : World} (hi : Inv w0 B μ h w) (hb : Below w.heap.size w w') : Ext μ μ h h w w' :=
  ⟨Nat.le_refl _, fun _ _ => rfl, fun g m hg hm => (by rw [hi.dom g hg] at hm; cases hm), fun r hr _ => hb.block r hr, hb.size, fun _ _ _ => rfl, fun _ _ _ => rfl⟩
/-- a row of flat single cells, in the real memory -/
theorem real_row {w0 : World} {B : Nat} {μ : Mu} {h : GH} {w : World} (hi : Inv w0 B μ h w) {g o c : Nat} {els : List Value} (s : SlAt h g o c 1 (els.map fun v => [v])) (hf : ∀ v ∈ els, flat0 v = true) {v' : Value} (hv : VR μ (.slice (some ⟨g, o, none⟩) els.length c) v') (hpos : 0 < els.length) :
    ∃ b off cap, v' = .slice (some ⟨b, off, none⟩) els.length cap ∧ b < w.heap.size ∧ ∀ j v, els[j]? = some v → w.cell? ⟨b, off + j, none⟩ = some v := by
  generalize hlen : els.length = n at hv hpos
  cases hv with
  | slice0 _ _ => omega
  | @slice _ _ m _ _ c' hm _ _ =>
    have key : ∀ j v, els[j]? = some v → w.cell? ⟨m.r, m.s + o + j, none⟩ = some v := by
      intro j v hj
      have hl := s.load (i := j) (x := [v]) (by simp [hj])
      rw [Nat.mul_one] at hl
      obtain ⟨_, l', hlr, hc⟩ := hi.load hl hm
      have h1 : l'.length = 1 := hlr.1.symm
      match l', h1, hlr, hc with
      | [x], _, hlr, hc =>
        have := hlr.2 0 (by simp) (by simp)
        have hx : x = v := this.eq0 (hf v (List.mem_of_getElem? hj))
        have := hc 0 x rfl
        rw [Nat.add_zero, hx] at this
        rw [← Nat.add_assoc] at this
        exact this
    refine ⟨m.r, m.s + o, c', rfl, ?_, key⟩
    obtain ⟨v, hv⟩ : ∃ v, els[0]? = some v := ⟨_, List.getElem?_eq_getElem (by omega)⟩
    exact World.block_lt_of_cell? _ _ (key 0 v hv)
end Go.Proofs.Gh
