/- Part 10 of a proof: walks of the program in a small memory, plain lemmas. -/
import Derived.Test.YthnmdhfbbbfleaaGreatDoorU9
set_option linter.all false
namespace Go.Proofs.Gh
open Go Go.Proofs Go.Proofs.Zz
set_option maxRecDepth 10000
set_option linter.unusedSimpArgs false
theorem c_lOf {h : GH} {z : Int} {n : Nat} (hz : Sm z) (hn : Sm n) (h0 : 0 < n) (hq : SmR (mkRat z n)) : ∃ r h', GCalls Tryz.prog gE 50 #[.int .i64 z, .int .i64 n] h r h' ∧ h.le h' ∧ r = rv (mkRat z n) := by
  have d0 := Duo.new h (.string ⟨#[]⟩) (.string ⟨#[]⟩)
  refine gcalls_in (pl := noPl) [.cell 4 60] mixed Tryz.func50 rfl rfl (by exact ok50) ?_
  simp only [go_sem, Nat.reduceBEq]
  refine callK_intro (c_Frac hz hn h0 hq) ?_
  rintro _ h1 ⟨hle1, rfl⟩
  have d1 := d0.mono hle1
  have hst := d1.s2 (v := .string (enc (mkRat z n).num)) (w := .string (enc ((mkRat z n).den : Int))) rfl rfl
  have dd : Duo (h1.upd h.n ⟨[.string (enc (mkRat z n).num), .string (enc ((mkRat z n).den : Int))], true, false⟩) h.n (.string (enc (mkRat z n).num)) (.string (enc ((mkRat z n).den : Int))) := Duo.up d1.lt
  simp only [go_sem, Nat.reduceBEq, Nat.reduceAdd, ↓reduceIte, hst, dd.l2]
  exact ((GH.le_alloc _ _).trans hle1).upd (Nat.le_refl _) _
theorem mkRat_one' (z : Int) : mkRat z 1 = (z : Rat) := Rat.mkRat_one z
theorem c_lOf1 {h : GH} {z : Int} (hz : Sm z) : ∃ r h', GCalls Tryz.prog gE 50 #[.int .i64 z, .int .i64 1] h r h' ∧ h.le h' ∧ r = rv (z : Rat) := by
  have := c_lOf (h := h) (z := z) (n := 1) hz (by decide) (by decide) (by rw [mkRat_one']; exact ⟨by rw [Rat.num_intCast]; exact hz, by show Sm 1; decide⟩)
  rw [mkRat_one'] at this
  exact this
/-- a size in a block that is new since h0 -/
def SzF (h0 h : GH) (v : Value) (l : List Rat) : Prop := ∃ g o c, v = .slice (some ⟨g, o, none⟩) l.length c ∧ SlAt h g o c 2 (l.map rc) ∧ h0.n ≤ g
theorem SzF.at {h0 h : GH} {v : Value} {l : List Rat} (s : SzF h0 h v l) : SzAt h v l := by
  obtain ⟨g, o, c, e, s, _⟩ := s
  exact ⟨g, o, c, e, s⟩
theorem SzF.mono {h0 h h' : GH} {v : Value} {l : List Rat} (s : SzF h0 h v l) (hl : h.le h') : SzF h0 h' v l := by
  obtain ⟨g, o, c, e, s, k⟩ := s
  exact ⟨g, o, c, e, s.mono hl, k⟩
theorem SzF.weak {h0 h1 h : GH} {v : Value} {l : List Rat} (s : SzF h1 h v l) (hl : h0.le h1) : SzF h0 h v l := by
  obtain ⟨g, o, c, e, s, k⟩ := s
  exact ⟨g, o, c, e, s, Nat.le_trans hl.1 k⟩
theorem Own.szF {h0 h : GH} {v : Value} {l : List Rat} {o : Option Nat} (s : Own h0 h v 2 (l.map rc) o) (hne : l ≠ []) (hlen : l.length ≤ 1000) : SzF h0 h v l := by
  rcases s with ⟨_, e, _⟩ | ⟨g, rfl, rfl, h2, h3, h4, h5⟩
  · exact absurd (List.map_eq_nil_iff.1 e) hne
  · exact ⟨g, 0, _, by rw [List.length_map], row_at h3 h4 rc_len ⟨by rw [List.length_map]; simp only [unk]; omega, fun _ => .inr rfl⟩, h2⟩
/-- one fraction more in a size of one's own -/
theorem Own.app2 {h0 h : GH} {v : Value} {l : List Rat} {o : Option Nat} (s : Own h0 h v 2 (l.map rc) o) (hle : h0.le h) (hlen : l.length ≤ 1000) (q : Rat) :
    ∃ v' h' o', gAppend Tryz.prog 32 32 v (.slice (some ⟨h.n, 0, none⟩) 1 1) (h.alloc ⟨[.string (enc q.num), .string (enc (q.den : Int))], true, false⟩) = some (v', h') ∧ h0.le h' ∧ Own h0 h' v' 2 ((l ++ [q]).map rc) o' := by
  have s' := s.mono (GH.le_alloc h ⟨[.string (enc q.num), .string (enc (q.den : Int))], true, false⟩)
  obtain ⟨h', e1, e2, e3, e4, e5⟩ := s'.append (P := Tryz.prog) (t := 32) (x := [.string (enc q.num), .string (enc (q.den : Int))]) (c2 := 1) ty_sk32 ty_tk60 ty_zk60 rfl ty_ce60 (by decide) rc_len rfl alloc_load22 rfl (by simp; omega) (by rw [ty_be60]; decide) (Nat.le_succ_of_le hle.1)
  refine ⟨_, h', _, e1, ⟨by rw [e2]; exact Nat.le_succ_of_le (Nat.le_succ_of_le hle.1), fun g hg => ?_⟩, by rw [List.map_append]; exact e5⟩
  have hgn : g < h.n := Nat.lt_of_lt_of_le hg hle.1
  rw [e4 g (Nat.lt_succ_of_lt hgn) ?_, alloc_b_lt _ _ hgn, hle.2 g hg]
  rintro rfl
  rcases s with ⟨_, _, h⟩ | ⟨g', h, _, h2, _⟩
  · cases h
  · injection h with h
    omega
theorem c_whole {h : GH} {v : Value} {l : List Int} (s : Sl h v 1 (ints l)) (hne : l ≠ []) (hlen : l.length ≤ 1000) (hs : ∀ z ∈ l, Sm z) :
    ∃ r h', GCalls Tryz.prog gE 48 #[v] h r h' ∧ h.le h' ∧ ∃ o, Own h h' r 2 ((l.map fun z : Int => (z : Rat)).map rc) o := by
  rcases s with ⟨_, e⟩ | ⟨g, o, c, rfl, s⟩
  · exact absurd (List.map_eq_nil_iff.1 e) hne
  rw [ints_length]
  refine gcalls_in (pl := noPl) [.tmp 2] mixed Tryz.func48 rfl rfl (by exact ok48) ?_
  simp only [go_sem, Nat.reduceBEq]
  refine loopK_inv (α := Nat) (fun i => l.length - i) (fun i ts g' => ts 6 = .slice (some ⟨g, o, none⟩) l.length c ∧ ts 7 = .int .i64 l.length ∧ ts 8 = .int .i64 i ∧ i ≤ l.length ∧ h.le g' ∧ ∃ o, Own h g' (ts 3) 2 (((l.take i).map fun z : Int => (z : Rat)).map rc) o) ?_ (a0 := 0) ?_
  · rintro i ts g' ⟨h6, h7, h8, hi, hle, o', w⟩
    simp only [go_sem, h7, h8]
    refine ifK_intro (fun c1 => ?_) (fun c1 => ?_)
    · have c1' := of_decide_eq_true c1
      obtain ⟨z, hz⟩ : ∃ z, l[i]? = some z := ⟨_, List.getElem?_eq_getElem (by omega)⟩
      have hl1 := (s.mono hle).load (ints_get hz)
      rw [Nat.mul_one] at hl1
      have wi : IntKind.i64.wrap ((i : Int) + 1) = ((i + 1 : Nat) : Int) := wrap_i64 (by omega) (by omega)
      simp only [go_sem, Nat.reduceBEq, ↓reduceIte, h6, h8, c1', hl1]
      refine callK_intro (c_lOf1 (hs z (List.mem_of_getElem? hz))) ?_
      rintro _ h2 ⟨hle2, rfl⟩
      obtain ⟨v', h', o2, e1, e2, e3⟩ := (w.mono hle2).app2 (hle.trans hle2) (by rw [List.length_map, List.length_take]; omega) (z : Rat)
      simp only [go_sem, Nat.reduceBEq, Nat.reduceAdd, Nat.reduceMul, Nat.reduceLeDiff, Nat.reduceLT, ↓reduceIte, h6, h7, h8, c1', e1, wi]
      refine ⟨i + 1, by omega, rfl, by omega, e2, o2, ?_⟩
      rw [List.take_add_one, hz, List.map_append]
      exact e3
    · have c1' := of_decide_eq_false c1
      obtain rfl : i = l.length := by omega
      rw [List.take_length] at w
      simp only [go_sem, Nat.reduceBEq, c1]
      exact ⟨hle, o', w⟩
  · simp only [go_sem, Nat.reduceBEq]
    exact ⟨Nat.zero_le _, GH.le.refl _, none, Own.nil _ _ _⟩
theorem c_times {h : GH} {av : Value} {a : List Rat} {k : Rat} (s : SzAt h av a) (hne : a ≠ []) (hlen : a.length ≤ 1000) (ha : ∀ q ∈ a, Ti q) (hk : Ti k) (hs : SmL (scaleL a k)) :
    ∃ r h', GCalls Tryz.prog gE 62 #[av, rv k] h r h' ∧ h.le h' ∧ SzF h h' r (scaleL a k) := by
  obtain ⟨g, o, c, rfl, s⟩ := s
  have d0 := Duo.new h (.string (enc k.num)) (.string (enc (k.den : Int)))
  have hle0 := GH.le_alloc h ⟨[.string (enc k.num), .string (enc (k.den : Int))], true, false⟩
  obtain ⟨H, hH⟩ : ∃ H, h.alloc ⟨[.string (enc k.num), .string (enc (k.den : Int))], true, false⟩ = H := ⟨_, rfl⟩
  rw [hH] at d0 hle0
  refine gcalls_in (pl := pl62) [.tmp 4] mixed Tryz.func62 rfl rfl (by exact ok62) ?_
  simp only [go_sem, Nat.reduceBEq, ↓reduceIte, hH]
  refine loopK_inv (α := Nat) (fun i => a.length - i) (fun i ts g' => ts 0 = .slice (some ⟨g, o, none⟩) a.length c ∧ ts 3 = .pointer (some ⟨h.n, 0, none⟩) ∧ ts 8 = .int .i64 a.length ∧ ts 9 = .int .i64 i ∧ i ≤ a.length ∧ H.le g' ∧ ∃ o, Own H g' (ts 5) 2 ((scaleL (a.take i) k).map rc) o) ?_ (a0 := 0) ?_
  · rintro i ts g' ⟨h0, h3, h8, h9, hi, hle, o', w⟩
    simp only [go_sem, h8, h9]
    refine ifK_intro (fun c1 => ?_) (fun c1 => ?_)
    · have c1' := of_decide_eq_true c1
      obtain ⟨q, hq⟩ : ∃ q, a[i]? = some q := ⟨_, List.getElem?_eq_getElem (by omega)⟩
      have hqm := List.mem_of_getElem? hq
      have hl1 := (s.mono (hle0.trans hle)).load (rats_get hq)
      have wi : IntKind.i64.wrap ((i : Int) + 1) = ((i + 1 : Nat) : Int) := wrap_i64 (by omega) (by omega)
      simp only [go_sem, Nat.reduceBEq, Array.reduceGetElem?, ↓reduceIte, h0, h3, h9, c1', hl1, (d0.mono hle).l2, pl62]
      refine callK_intro (c_rMul q k (ha q hqm) hk (hs _ (List.mem_map.2 ⟨q, hqm, rfl⟩))) ?_
      rintro _ h2 ⟨hle2, rfl⟩
      obtain ⟨v', h', o2, e1, e2, e3⟩ := (w.mono hle2).app2 (hle.trans hle2) (by rw [scaleL, List.length_map, List.length_take]; omega) (q * k)
      simp only [go_sem, Nat.reduceBEq, Nat.reduceAdd, Nat.reduceMul, Nat.reduceLeDiff, Nat.reduceLT, Array.reduceGetElem?, ↓reduceIte, h0, h3, h8, h9, c1', e1, wi]
      refine ⟨i + 1, by omega, rfl, by omega, e2, o2, ?_⟩
      rw [List.take_add_one, hq, scaleL, List.map_append]
      exact e3
    · have c1' := of_decide_eq_false c1
      obtain rfl : i = a.length := by omega
      rw [List.take_length] at w
      simp only [go_sem, Nat.reduceBEq, c1]
      exact ⟨hle0.trans hle, ((w.szF (by simpa [scaleL] using hne) (by simpa [scaleL] using hlen)).weak hle0)⟩
  · simp only [go_sem, Nat.reduceBEq]
    exact ⟨Nat.zero_le _, GH.le.refl _, none, Own.nil _ _ _⟩
theorem addL_snoc {a b : List Rat} {i : Nat} {x y : Rat} (hx : a[i]? = some x) (hy : b[i]? = some y) : addL (a.take (i + 1)) (b.take (i + 1)) = addL (a.take i) (b.take i) ++ [x + y] := by
  have h1 := (List.getElem?_eq_some_iff.1 hx).1
  have h2 := (List.getElem?_eq_some_iff.1 hy).1
  rw [List.take_add_one, List.take_add_one, hx, hy, addL, addL, Option.toList, Option.toList, List.zipWith_append (by rw [List.length_take, List.length_take]; omega)]
  rfl
theorem addL_length (a b : List Rat) (hb : b.length = a.length) : (addL a b).length = a.length := by simp [addL, hb]
theorem c_lAdd {h : GH} {av bv : Value} {a b : List Rat} (s : SzAt h av a) (t : SzAt h bv b) (hne : a ≠ []) (hlen : a.length ≤ 1000) (hb : b.length = a.length) (ha : ∀ q ∈ a, Ti q) (hbt : ∀ q ∈ b, Ti q) (hs : SmL (addL a b)) :
    ∃ r h', GCalls Tryz.prog gE 47 #[av, bv] h r h' ∧ h.le h' ∧ SzF h h' r (addL a b) := by
  obtain ⟨g, o, c, rfl, s⟩ := s
  obtain ⟨g2, o2, c2, rfl, t⟩ := t
  refine gcalls_in (pl := pl47) [.tmp 4] mixed Tryz.func47 rfl rfl (by exact ok47) ?_
  simp only [go_sem, Nat.reduceBEq]
  refine loopK_inv (α := Nat) (fun i => a.length - i) (fun i ts g' => ts 0 = .slice (some ⟨g, o, none⟩) a.length c ∧ ts 1 = .slice (some ⟨g2, o2, none⟩) b.length c2 ∧ ts 8 = .int .i64 a.length ∧ ts 9 = .int .i64 i ∧ i ≤ a.length ∧ h.le g' ∧ ∃ o, Own h g' (ts 5) 2 ((addL (a.take i) (b.take i)).map rc) o) ?_ (a0 := 0) ?_
  · rintro i ts g' ⟨h0, h1, h8, h9, hi, hle, o', w⟩
    simp only [go_sem, h8, h9]
    refine ifK_intro (fun c1 => ?_) (fun c1 => ?_)
    · have c1' := of_decide_eq_true c1
      have c1'' : (i : Int) < b.length := by omega
      obtain ⟨q, hq⟩ : ∃ q, a[i]? = some q := ⟨_, List.getElem?_eq_getElem (by omega)⟩
      obtain ⟨q', hq'⟩ : ∃ q, b[i]? = some q := ⟨_, List.getElem?_eq_getElem (by omega)⟩
      have hqm := List.mem_of_getElem? hq
      have hqm' := List.mem_of_getElem? hq'
      have hl1 := (s.mono hle).load (rats_get hq)
      have hl2 := (t.mono hle).load (rats_get hq')
      have wi : IntKind.i64.wrap ((i : Int) + 1) = ((i + 1 : Nat) : Int) := wrap_i64 (by omega) (by omega)
      have e0 := addL_snoc hq hq'
      simp only [go_sem, Nat.reduceBEq, Array.reduceGetElem?, ↓reduceIte, h0, h1, h9, c1', c1'', hl1, hl2, pl47]
      refine callK_intro (c_rAdd q q' (ha q hqm) (hbt q' hqm') (hs _ (zip_get (f := fun x y => x + y) hq hq'))) ?_
      rintro _ h2 ⟨hle2, rfl⟩
      obtain ⟨v', h', o2', e1, e2, e3⟩ := (w.mono hle2).app2 (hle.trans hle2) (by simp [addL]; omega) (q + q')
      simp only [go_sem, Nat.reduceBEq, Nat.reduceAdd, Nat.reduceMul, Nat.reduceLeDiff, Nat.reduceLT, Array.reduceGetElem?, ↓reduceIte, h0, h1, h8, h9, c1', e1, wi]
      refine ⟨i + 1, by omega, rfl, by omega, e2, o2', ?_⟩
      rw [e0]
      exact e3
    · have c1' := of_decide_eq_false c1
      obtain rfl : i = a.length := by omega
      rw [List.take_length, ← hb, List.take_length] at w
      simp only [go_sem, Nat.reduceBEq, c1]
      have hl := addL_length a b hb
      exact ⟨hle, w.szF (by rw [← List.length_pos_iff, hl]; exact List.length_pos_iff.2 hne) (by omega)⟩
  · simp only [go_sem, Nat.reduceBEq]
    exact ⟨Nat.zero_le _, GH.le.refl _, none, Own.nil _ _ _⟩
theorem neg1_ti : Ti (-1) := ⟨by decide, by decide⟩
theorem ti_neg {q : Rat} (h : Ti q) : Ti (q * -1) := by
  have e : q * -1 = -q := by rw [Rat.mul_neg, Rat.mul_one]
  rw [e]
  exact ⟨by rw [Rat.neg_num, Int.natAbs_neg]; exact h.1, by rw [Rat.neg_den]; exact h.2⟩
theorem addL_neg {a b : List Rat} : addL a (scaleL b (-1)) = subL a b := by
  unfold addL scaleL subL
  rw [List.zipWith_map_right]
  congr 1
  funext x y
  rw [Rat.mul_neg, Rat.mul_one, Rat.sub_eq_add_neg]
theorem c_less {h : GH} {av bv : Value} {a b : List Rat} (s : SzAt h av a) (t : SzAt h bv b) (hne : a ≠ []) (hlen : a.length ≤ 1000) (hb : b.length = a.length) (ha : ∀ q ∈ a, Ti q) (hbt : ∀ q ∈ b, Ti q) (hs : SmL (subL a b)) :
    ∃ r h', GCalls Tryz.prog gE 29 #[av, bv] h r h' ∧ h.le h' ∧ SzF h h' r (subL a b) := by
  refine gcalls_in (pl := noPl) [.tmp 4] mixed Tryz.func29 rfl rfl (by exact ok29) ?_
  simp only [go_sem, Nat.reduceBEq, Int.reduceNeg]
  refine callK_intro (c_lOf1 (z := -1) (by decide)) ?_
  rintro _ h1 ⟨hle1, rfl⟩
  simp only [go_sem, Nat.reduceBEq, Int.reduceNeg]
  have e1 : ((-1 : Int) : Rat) = -1 := rfl
  rw [e1]
  refine callK_intro (c_times (t.mono hle1) (by rw [← List.length_pos_iff, hb]; exact List.length_pos_iff.2 hne) (by omega) hbt neg1_ti (fun q hq => ?_)) ?_
  · obtain ⟨y, hy, rfl⟩ := List.mem_map.1 hq
    exact (ti_neg (hbt y hy)).sm
  rintro v2 h2 ⟨hle2, hv2⟩
  simp only [go_sem, Nat.reduceBEq]
  refine callK_intro (c_lAdd (s.mono (hle1.trans hle2)) hv2.at hne hlen (by rw [scaleL, List.length_map]; exact hb) ha (fun q hq => ?_) (by rw [addL_neg]; exact hs)) ?_
  · obtain ⟨y, hy, rfl⟩ := List.mem_map.1 hq
    exact ti_neg (hbt y hy)
  rintro v3 h3 ⟨hle3, hv3⟩
  simp only [go_sem]
  rw [addL_neg] at hv3
  exact ⟨(hle1.trans hle2).trans hle3, hv3.weak (hle1.trans hle2)⟩
end Go.Proofs.Gh
namespace Go.Proofs.Gh
open Go Go.Proofs Go.Proofs.Zz
set_option maxRecDepth 10000
set_option linter.unusedSimpArgs false
theorem oct_ti (n : Nat) : ∀ q ∈ oct n, Ti q := by
  intro q hq
  rcases List.mem_cons.1 hq with rfl | hq
  · exact ⟨by decide, by decide⟩
  · rw [(List.mem_replicate.1 hq).2]; exact ⟨by decide, by decide⟩
theorem c_octave {h : GH} {pv : Value} {p : List Int} (hP : Pr p) (hp : PrAt h pv p) : ∃ r h', GCalls Tryz.prog gE 14 #[pv] h r h' ∧ h.le h' ∧ SzF h h' r (oct p.length) := by
  obtain ⟨pg, po, pc, rfl, hp⟩ := hp
  rcases hP with rfl | rfl
  all_goals
    refine gcalls_in (pl := noPl) [.tmp 2] mixed Tryz.func14 rfl rfl (by exact ok14) ?_
    simp only [go_sem, Nat.reduceBEq, Nat.reduceAdd, mk2, mk3, List.length_cons, List.length_nil]
  case' inl =>
    have rowG := mkrow (h := h) (l := [0, 0]) (by decide)
    simp only [List.map_cons, List.map_nil] at rowG
    have leG := GH.le_alloc h ⟨[.int .i64 0, .int .i64 0], true, false⟩
    refine callK_intro (c_whole (l := [0, 0]) (.inr ⟨_, _, _, rfl, rowG⟩) (by decide) (by decide) (by decide)) ?_
  case' inr =>
    have rowG := mkrow (h := h) (l := [0, 0, 0]) (by decide)
    simp only [List.map_cons, List.map_nil] at rowG
    have leG := GH.le_alloc h ⟨[.int .i64 0, .int .i64 0, .int .i64 0], true, false⟩
    refine callK_intro (c_whole (l := [0, 0, 0]) (.inr ⟨_, _, _, rfl, rowG⟩) (by decide) (by decide) (by decide)) ?_
  all_goals
    rintro v1 h1 ⟨hle1, o1, w1⟩
    rcases w1 with ⟨_, e, _⟩ | ⟨g, rfl, rfl, k2, k3, k4, k5⟩
    · simp at e
    simp only [go_sem, Nat.reduceAdd]
    refine callK_intro (c_lOf1 (z := 1) (by decide)) ?_
    rintro _ h2 ⟨hle2, rfl⟩
    have k4' := (hle2.2 g k3).trans k4
    have k3' := Nat.lt_of_lt_of_le k3 hle2.1
    have hst := row_store (i := 0) k3' k4' rc_len (vs := rc 1) (by simp) rfl rfl
    rw [Nat.zero_mul] at hst
    have hst' : h2.store g 0 [.string (enc (((1 : Int) : Rat)).num), .string (enc ((((1 : Int) : Rat)).den : Int))] = _ := hst
    simp only [go_sem, Nat.reduceBEq, Nat.reduceAdd, Nat.reduceMul, Int.reduceLT, Int.reduceLE, Int.reduceToNat, ↓reduceIte, hst', List.length_cons, List.length_nil, List.map_cons, List.map_nil]
    refine ⟨((leG.trans hle1).trans hle2).upd (Nat.le_trans leG.1 k2) _, g, 0, _, rfl, ?_, Nat.le_trans leG.1 k2⟩
    first
    | exact row_at (h := h2.upd g (Row ((oct 2).map rc))) (els := (oct 2).map rc) (c := unk + 2) k3' (upd_self _ _ _) rc_len ⟨by simp [oct]; try decide, fun _ => .inr rfl⟩
    | exact row_at (h := h2.upd g (Row ((oct 3).map rc))) (els := (oct 3).map rc) (c := unk + 2) k3' (upd_self _ _ _) rc_len ⟨by simp [oct]; try decide, fun _ => .inr rfl⟩
theorem enc_ne_nil (z : Int) : (enc z = ⟨#[]⟩) = False := by
  rw [eq_iff_iff, iff_false]
  intro h
  have := enc_size_pos z
  rw [h] at this
  exact absurd this (by decide)
theorem red_sub {p : List Int} {a : List Rat} : subL a (scaleL (oct a.length) (flQ p a : Rat)) = redQ p a := by
  unfold redQ subL addL scaleL
  rw [List.zipWith_map_right, List.zipWith_map_right]
  congr 1
  funext x y
  rw [Rat.sub_eq_add_neg, ← Rat.mul_neg]
theorem c_lReduce {h : GH} {pv av bv : Value} {p : List Int} {a : List Rat} (hP : Pr p) (hp : PrAt h pv p) (s : SzAt h av a) (t : SzAt h bv (oct p.length)) (f : FlOk p a) (ha : ∀ q ∈ a, Ti q) (hf : Ti (flQ p a : Rat)) (hr : SmL (redQ p a)) :
    ∃ r h', GCalls Tryz.prog gE 24 #[pv, bv, av] h r h' ∧ h.le h' ∧ ∃ v, r = .tuple #[v, istr (flQ p a)] ∧ SzF h h' v (redQ p a) := by
  have hal := f.fit.len
  have hpl := hP.len
  refine gcalls_in (pl := noPl) [.tmp 6, .tmp 7] mixed Tryz.func24 rfl rfl (by exact ok24) ?_
  simp only [go_sem, Nat.reduceBEq]
  refine callK_intro (c_sizeFloor hP hp s t f) ?_
  rintro _ h1 ⟨hle1, rfl⟩
  simp only [go_sem, Nat.reduceBEq, Nat.reduceAdd, Nat.reduceLeDiff, Array.reduceGetElem?, ↓reduceIte, enc_ne_nil]
  have hso : ∀ q ∈ scaleL (oct p.length) (flQ p a : Rat), Ti q := by
    intro q hq
    obtain ⟨y, hy, rfl⟩ := List.mem_map.1 hq
    rcases List.mem_cons.1 hy with rfl | hy
    · rw [Rat.one_mul]; exact hf
    · rw [(List.mem_replicate.1 hy).2, Rat.zero_mul]; exact ⟨by decide, by decide⟩
  have hol : (oct p.length).length = p.length := oct_length (by omega)
  refine callK_intro (c_times (k := (flQ p a : Rat)) (t.mono hle1) (by rw [← List.length_pos_iff, hol]; omega) (by omega) (oct_ti _) hf (fun q hq => (hso q hq).sm)) ?_
  rintro v2 h2 ⟨hle2, hv2⟩
  simp only [go_sem, Nat.reduceBEq]
  refine callK_intro (c_less (s.mono (hle1.trans hle2)) hv2.at (by rw [← List.length_pos_iff]; omega) (by omega) (by rw [scaleL, List.length_map, hol, hal]) ha hso (by rw [← hal, red_sub]; exact hr)) ?_
  rintro v3 h3 ⟨hle3, hv3⟩
  simp only [go_sem, Nat.reduceBEq]
  rw [← hal, red_sub] at hv3
  exact ⟨(hle1.trans hle2).trans hle3, v3, rfl, hv3.weak (hle1.trans hle2)⟩
theorem c_order {h : GH} {pv av bv : Value} {p : List Int} {a b : List Rat} (hP : Pr p) (hp : PrAt h pv p) (s : SzAt h av a) (t : SzAt h bv b) (hl : a.length = p.length) (hl2 : b.length = p.length) (ha : SmL a) (hb : SmL b) (f : Fit 9999999 p (subL a b)) (hd : Dec p (subL a b)) :
    ∃ r h', GCalls Tryz.prog gE 61 #[pv, av, bv] h r h' ∧ h.le h' ∧ r = .int .i64 (sgn p (subL a b)) := by
  refine gcalls_in (pl := noPl) [.tmp 6] mixed Tryz.func61 rfl rfl (by exact ok61) ?_
  simp only [go_sem, Nat.reduceBEq]
  refine callK_intro (c_Compare hP hp s t hl hl2 ha hb f hd) ?_
  rintro _ h1 ⟨hle1, rfl⟩
  simp only [go_sem, Nat.reduceBEq, Array.reduceGetElem?]
  exact hle1
end Go.Proofs.Gh
namespace Go.Proofs.Gh
open Go Go.Proofs Go.Proofs.Zz
set_option maxRecDepth 10000
set_option linter.unusedSimpArgs false
/-- a size in a block other than o -/
def SzN (h : GH) (v : Value) (l : List Rat) (o : Option Nat) : Prop := ∃ g oo c, v = .slice (some ⟨g, oo, none⟩) l.length c ∧ SlAt h g oo c 2 (l.map rc) ∧ some g ≠ o
theorem SzN.at {h : GH} {v : Value} {l : List Rat} {o : Option Nat} (s : SzN h v l o) : SzAt h v l := by
  obtain ⟨g, oo, c, e, s, _⟩ := s
  exact ⟨g, oo, c, e, s⟩
theorem SzN.mono {h h' : GH} {v : Value} {l : List Rat} {o : Option Nat} (s : SzN h v l o) (hl : h.le h') : SzN h' v l o := by
  obtain ⟨g, oo, c, e, s, k⟩ := s
  exact ⟨g, oo, c, e, s.mono hl, k⟩
theorem SzN.one {h : GH} {v : Value} {l : List Rat} {o : Option Nat} (s : SzN h v l o) : Value.oneCell' v = true := by
  obtain ⟨g, oo, c, rfl, _⟩ := s
  rfl
/-- what grows, but for one block -/
def leX (o : Option Nat) (h h' : GH) : Prop := h.n ≤ h'.n ∧ ∀ g, g < h.n → some g ≠ o → h'.b g = h.b g
theorem SlAt.leX {h h' : GH} {o : Option Nat} (hl : leX o h h') {g oo c e : Nat} {els : List (List Value)} (s : SlAt h g oo c e els) (hg : some g ≠ o) : SlAt h' g oo c e els := by
  obtain ⟨h1, h2, h3, h4, h5⟩ := s
  exact ⟨Nat.lt_of_lt_of_le h1 hl.1, by rw [hl.2 g h1 hg]; exact h2, by rw [hl.2 g h1 hg]; exact h3, h4, h5⟩
/-- a size that came after h and lies in no block of o -/
theorem SzF.n {h0 h : GH} {v : Value} {l : List Rat} (s : SzF h0 h v l) {o : Option Nat} (ho : ∀ g, o = some g → g < h0.n) : SzN h v l o := by
  obtain ⟨g, oo, c, e, s, k⟩ := s
  refine ⟨g, oo, c, e, s, ?_⟩
  rintro rfl
  have := ho g rfl
  omega
/-- a row of sizes of one's own -/
def LsO (h0 h : GH) (v : Value) (L : List (List Rat)) (o : Option Nat) : Prop := ∃ vs : List Value, Own h0 h v 1 (vs.map fun x => [x]) o ∧ vs.length = L.length ∧ ∀ (i : Nat) (l : List Rat), L[i]? = some l → ∃ x, vs[i]? = some x ∧ SzN h x l o
theorem LsO.mono {h0 h h' : GH} {v : Value} {L : List (List Rat)} {o : Option Nat} (s : LsO h0 h v L o) (hl : h.le h') : LsO h0 h' v L o := by
  obtain ⟨vs, w, h1, h2⟩ := s
  refine ⟨vs, w.mono hl, h1, fun i l hi => ?_⟩
  obtain ⟨x, k1, k2⟩ := h2 i l hi
  exact ⟨x, k1, k2.mono hl⟩
theorem LsO.nil (h0 h : GH) : LsO h0 h (.slice none 0 0) [] none := ⟨[], Own.nil _ _ _, rfl, fun i l h => by simp at h⟩
theorem LsO.lt {h0 h : GH} {v : Value} {L : List (List Rat)} {o : Option Nat} (s : LsO h0 h v L o) : ∀ g, o = some g → h0.n ≤ g ∧ g < h.n := by
  rintro g rfl
  obtain ⟨vs, w, _⟩ := s
  rcases w with ⟨_, _, h⟩ | ⟨g', h, _, h2, h3, _⟩
  · cases h
  · injection h with h; omega
theorem one_len (vs : List Value) : ∀ y ∈ vs.map (fun x => [x]), y.length = 1 := by
  intro y hy
  obtain ⟨x, _, rfl⟩ := List.mem_map.1 hy
  rfl
theorem LsO.ls {h0 h : GH} {v : Value} {L : List (List Rat)} {o : Option Nat} (s : LsO h0 h v L o) (hne : L ≠ []) (hlen : L.length ≤ 100000) : LsAt h v L := by
  obtain ⟨vs, w, h1, h2⟩ := s
  rcases w with ⟨_, e, _⟩ | ⟨g, rfl, rfl, k2, k3, k4, k5⟩
  · have : vs = [] := List.map_eq_nil_iff.1 e
    rw [this] at h1
    exact absurd (List.length_eq_zero_iff.1 h1.symm) hne
  · refine ⟨g, 0, unk + 1, vs, by rw [List.length_map, h1], row_at k3 k4 (one_len vs) ⟨by rw [List.length_map, h1]; simp only [unk]; omega, fun _ => .inr rfl⟩, h1, fun i l hi => ?_⟩
    obtain ⟨x, e1, e2⟩ := h2 i l hi
    exact ⟨x, e1, e2.at⟩
theorem LsO.app {h0 h : GH} {v y : Value} {L : List (List Rat)} {l : List Rat} {o : Option Nat} (s : LsO h0 h v L o) (hle : h0.le h) (hlen : L.length ≤ 100000) (sy : SzN h y l o) :
    ∃ v' h' o', gAppend Tryz.prog 34 34 v (.slice (some ⟨h.n, 0, none⟩) 1 1) (h.alloc ⟨[y], true, false⟩) = some (v', h') ∧ h0.le h' ∧ LsO h0 h' v' (L ++ [l]) o' ∧ leX o h h' := by
  obtain ⟨vs, w, h1, h2⟩ := s
  have w' := w.mono (GH.le_alloc h ⟨[y], true, false⟩)
  obtain ⟨h', e1, e2, e3, e4, e5⟩ := w'.append (P := Tryz.prog) (t := 34) (x := [y]) (c2 := 1) ty_sk34 ty_tk32 ty_zk32 rfl ty_ce32 (by decide) (one_len vs) rfl alloc_load1 (by simp [sy.one]) (by rw [List.length_map, h1]; omega) (by rw [ty_be32]; decide) (Nat.le_succ_of_le hle.1)
  have hX : Gh.leX o h h' := ⟨by rw [e2]; exact Nat.le_succ_of_le (Nat.le_succ _), fun g hg hgo => by rw [e4 g (Nat.lt_succ_of_lt hg) hgo, alloc_b_lt _ _ hg]⟩
  have hO : ∀ g, o = some g → h0.n ≤ g := by
    rintro g rfl
    rcases w with ⟨_, _, h⟩ | ⟨g', h, _, h2, h3, _⟩
    · cases h
    · injection h with h; omega
  have fresh : ∀ {x l}, SzN h x l o → SzN h' x l (some (h.alloc ⟨[y], true, false⟩).n) := by
    rintro x l ⟨g, oo, c, e, k, kn⟩
    have hgl := k.lt
    refine ⟨g, oo, c, e, k.leX hX kn, fun hh => ?_⟩
    injection hh with hh
    have : (h.alloc ⟨[y], true, false⟩).n = h.n + 1 := rfl
    omega
  refine ⟨_, h', some _, e1, ⟨Nat.le_trans hle.1 hX.1, fun g hg => ?_⟩, ⟨vs ++ [y], by rw [List.map_append]; exact e5, by simp [h1], fun i m hi => ?_⟩, hX⟩
  · rw [hX.2 g (Nat.lt_of_lt_of_le hg hle.1) (fun hh => by have := hO g hh.symm; omega), hle.2 g hg]
  · rcases Nat.lt_or_ge i L.length with hlt | hge
    · rw [List.getElem?_append_left hlt] at hi
      obtain ⟨x, k1, k2⟩ := h2 i m hi
      exact ⟨x, by rw [List.getElem?_append_left (by omega)]; exact k1, fresh k2⟩
    · rw [List.getElem?_append_right hge] at hi
      have hi0 : i - L.length = 0 := by
        rcases Nat.eq_zero_or_pos (i - L.length) with h | h
        · exact h
        · rw [List.getElem?_eq_none (by simp; omega)] at hi; cases hi
      rw [hi0, List.getElem?_cons_zero] at hi
      injection hi with hi
      subst hi
      exact ⟨y, by rw [List.getElem?_append_right (by omega), show i - vs.length = 0 by omega]; rfl, fresh sy⟩
def mulL (a : List Rat) (k0 : Int) (n : Nat) : List (List Rat) := (List.range n).map fun i : Nat => scaleL a (((k0 + (i : Int) : Int) : Rat))
theorem mulL_succ (a : List Rat) (k0 : Int) (n : Nat) : mulL a k0 (n + 1) = mulL a k0 n ++ [scaleL a (((k0 + (n : Int) : Int) : Rat))] := by simp [mulL, List.range_succ]
theorem c_multiples {h : GH} {av : Value} {a : List Rat} {k0 : Int} {n : Nat} (s : SzAt h av a) (hne : a ≠ []) (hlen : a.length ≤ 1000) (ha : ∀ q ∈ a, Ti q) (hk0 : k0.natAbs ≤ 1000) (hn : n ≤ 2000) (hs : ∀ i : Nat, i < n → SmL (scaleL a (((k0 + (i : Int) : Int) : Rat)))) :
    ∃ r h', GCalls Tryz.prog gE 17 #[av, .int .i64 k0, .int .i64 (k0 + n - 1)] h r h' ∧ h.le h' ∧ ∃ o, LsO h h' r (mulL a k0 n) o := by
  refine gcalls_in (pl := noPl) [.tmp 6] mixed Tryz.func17 rfl rfl (by exact ok17) ?_
  simp only [go_sem, Nat.reduceBEq]
  refine loopK_inv (α := Nat) (fun i => n - i) (fun i ts g' => ts 0 = av ∧ ts 2 = .int .i64 (k0 + n - 1) ∧ ts 8 = .int .i64 (k0 + i) ∧ i ≤ n ∧ h.le g' ∧ ∃ o, LsO h g' (ts 7) (mulL a k0 i) o) ?_ (a0 := 0) ?_
  · rintro i ts g' ⟨t0, t2, t8, hi, hle, o', w⟩
    simp only [go_sem, Nat.reduceBEq, t2, t8]
    refine ifK_intro (fun c1 => ?_) (fun c1 => ?_)
    · have c1' := of_decide_eq_true c1
      have wi : IntKind.i64.wrap (k0 + (i : Int) + 1) = k0 + ((i + 1 : Nat) : Int) := by rw [wrap_i64 (by omega) (by omega)]; omega
      simp only [go_sem, Nat.reduceBEq, t0, t8, c1']
      refine callK_intro (c_lOf1 (z := k0 + (i : Int)) (show Int.natAbs _ < _ by omega)) ?_
      rintro _ h2 ⟨hle2, rfl⟩
      simp only [go_sem, Nat.reduceBEq, c1']
      refine callK_intro (c_times (k := ((k0 + (i : Int) : Int) : Rat)) (s.mono (hle.trans hle2)) hne hlen ha ⟨by rw [Rat.num_intCast]; omega, by show 1 < 15000; decide⟩ (hs i (by omega))) ?_
      rintro v3 h3 ⟨hle3, hv3⟩
      have w3 := w.mono (hle2.trans hle3)
      have hv3' := hv3
      obtain ⟨g3, o3, c3, rfl, _, _⟩ := hv3'
      obtain ⟨v', h', o2, e1, e2, e3, e4⟩ := w3.app ((hle.trans hle2).trans hle3) (by simp [mulL]; omega) (hv3.n fun g hg => Nat.lt_of_lt_of_le (w.lt g hg).2 hle2.1)
      simp only [go_sem, Nat.reduceBEq, Nat.reduceLeDiff, Nat.reduceLT, ↓reduceIte, t0, t2, t8, c1', e1, wi]
      exact ⟨i + 1, by omega, rfl, by omega, e2, o2, by rw [mulL_succ]; exact e3⟩
    · have c1' := of_decide_eq_false c1
      obtain rfl : i = n := by omega
      simp only [go_sem, Nat.reduceBEq, c1]
      exact ⟨hle, o', w⟩
  · simp only [go_sem, Nat.reduceBEq]
    exact ⟨by simp, Nat.zero_le _, GH.le.refl _, none, LsO.nil _ _⟩
end Go.Proofs.Gh
namespace Go.Proofs.Gh
open Go Go.Proofs Go.Proofs.Zz
set_option maxRecDepth 10000
set_option linter.unusedSimpArgs false
/-- the cells of a world -/
def wCells (b : Bool) (kd nm : Int) (xs : List Int) : List Value := .bool b :: .int .u8 kd :: .int .u8 nm :: xs.map fun x => .int .i8 x
def wV (b : Bool) (kd nm : Int) (xs : List Int) : Value := .agg (wCells b kd nm xs).toArray
theorem wCells_length {b : Bool} {kd nm : Int} {xs : List Int} (h : xs.length = 24) : (wCells b kd nm xs).length = 27 := by simp [wCells, h]
theorem wCells_one {b : Bool} {kd nm : Int} {xs : List Int} : (wCells b kd nm xs).all Value.oneCell' = true := by
  simp only [wCells, List.all_cons, List.all_map]
  simp [Value.oneCell', Function.comp_def]
def prW (b : Bool) : List Int := if b then [2, 3, 5] else [2, 3]
theorem prW_pr (b : Bool) : Pr (prW b) := by cases b <;> simp [prW, Pr]
theorem c_primes {h : GH} {b : Bool} {kd nm : Int} {xs : List Int} (hx : xs.length = 24) : ∃ r h', GCalls Tryz.prog gE 11 #[wV b kd nm xs] h r h' ∧ h.le h' ∧ PrAt h' r (prW b) := by
  have hcl := wCells_length (b := b) (kd := kd) (nm := nm) hx
  have hl0 : (h.alloc ⟨wCells b kd nm xs, true, false⟩).load h.n 0 1 = some [.bool b] := load_one_at (Nat.lt_succ_self _) (alloc_self _ _) rfl
  refine gcalls_in (pl := noPl) [.tmp 2] mixed Tryz.func11 rfl rfl (by exact ok11) ?_
  simp only [go_sem, Nat.reduceBEq, ↓reduceIte, wV, hl0, wCells_one]
  cases b
  · simp only [go_sem, Nat.reduceAdd, Nat.reduceLeDiff, Nat.reduceLT, ↓reduceIte]
    refine ⟨(GH.le_alloc _ _).trans (GH.le_alloc _ _), _, _, _, rfl, ?_⟩
    exact mkrow (l := [2, 3]) (by decide)
  · simp only [go_sem, Nat.reduceAdd, Nat.reduceLeDiff, Nat.reduceLT, ↓reduceIte]
    refine ⟨(GH.le_alloc _ _).trans (GH.le_alloc _ _), _, _, _, rfl, ?_⟩
    exact mkrow (l := [2, 3, 5]) (by decide)
/-- an entry of a small size -/
def szE (i : Nat) (x : Int) : Rat := mkRat (x.tmod 9) (1 + i % 2 * (if x < 0 then 1 else 0))
def szL (n : Nat) (xs : List Int) : List Rat := (List.range n).map fun i => szE i (xs[i]?.getD 0)
theorem u8_top {e : Int} (h1 : -128 ≤ e) (h2 : e ≤ 127) : (IntKind.u8.wrap e).fdiv (2 ^ min 7 8) = if e < 0 then 1 else 0 := by
  have hp : ((2 : Int) ^ min 7 8) = 128 := by decide
  rw [hp, Int.fdiv_eq_ediv_of_nonneg _ (by decide)]
  by_cases h : e < 0
  · have hw : IntKind.u8.wrap e = e + 256 := by
      have : IntKind.u8.wrap e = IntKind.u8.wrap (e + 256) := by
        unfold IntKind.wrap
        simp only [IntKind.bits, IntKind.signed]
        simp
      rw [this, wrap_u8 (by omega) (by omega)]
    rw [hw, if_pos h]; omega
  · rw [wrap_u8 (by omega) (by omega), if_neg h]; omega
theorem c_Size {h : GH} {pv : Value} {p : List Int} {x y z : Int} (hP : Pr p) (hp : PrAt h pv p) (hx : -128 ≤ x ∧ x ≤ 127) (hy : -128 ≤ y ∧ y ≤ 127) (hz : -128 ≤ z ∧ z ≤ 127) :
    ∃ r h', GCalls Tryz.prog gE 12 #[pv, .agg #[.int .i8 x, .int .i8 y, .int .i8 z]] h r h' ∧ h.le h' ∧ SzF h h' r (szL p.length [x, y, z]) := by
  obtain ⟨pg, po, pc, rfl, hp⟩ := hp
  have hpl := hP.len
  have hle0 := GH.le_alloc h ⟨[.int .i8 x, .int .i8 y, .int .i8 z], true, false⟩
  obtain ⟨H, hH⟩ : ∃ H, h.alloc ⟨[.int .i8 x, .int .i8 y, .int .i8 z], true, false⟩ = H := ⟨_, rfl⟩
  have hb : H.b h.n = ⟨[.int .i8 x, .int .i8 y, .int .i8 z], true, false⟩ := by rw [← hH, alloc_self]
  have hbl : h.n < H.n := by rw [← hH]; exact Nat.lt_succ_self _
  rw [hH] at hle0
  refine gcalls_in (pl := noPl) [.tmp 4] mixed Tryz.func12 rfl rfl (by exact ok12) ?_
  simp only [go_sem, Nat.reduceBEq, ↓reduceIte, hH]
  refine loopK_inv (α := Nat) (fun i => p.length - i) (fun i ts g' => ts 0 = .slice (some ⟨pg, po, none⟩) p.length pc ∧ ts 3 = .pointer (some ⟨h.n, 0, none⟩) ∧ ts 9 = .int .i64 p.length ∧ ts 10 = .int .i64 i ∧ i ≤ p.length ∧ H.le g' ∧ ∃ o, Own H g' (ts 5) 2 ((szL i [x, y, z]).map rc) o) ?_ (a0 := 0) ?_
  · rintro i ts g' ⟨t0, t3, t9, t10, hi, hle, o', w⟩
    simp only [go_sem, t9, t10]
    refine ifK_intro (fun c1 => ?_) (fun c1 => ?_)
    · have c1' := of_decide_eq_true c1
      obtain ⟨e, he, he1, he2⟩ : ∃ e, ([x, y, z] : List Int)[i]? = some e ∧ -128 ≤ e ∧ e ≤ 127 := by
        match i, (show i < 3 by omega) with
        | 0, _ => exact ⟨x, rfl, hx⟩
        | 1, _ => exact ⟨y, rfl, hy⟩
        | 2, _ => exact ⟨z, rfl, hz⟩
      have hl1 : g'.load h.n i 1 = some [.int .i8 e] := le_load hle hbl (load_one_at hbl hb (by
        match i, (show i < 3 by omega), he with
        | 0, _, he => simp at he; simp [he]
        | 1, _, he => simp at he; simp [he]
        | 2, _, he => simp at he; simp [he]))
      have hi3 : (i : Int) < 3 := by omega
      have wi : IntKind.i64.wrap ((i : Int) + 1) = ((i + 1 : Nat) : Int) := wrap_i64 (by omega) (by omega)
      have wd : IntKind.i64.wrap (1 + IntKind.i64.wrap (((i : Nat) : Int).tmod 2 * IntKind.i64.wrap ((IntKind.u8.wrap e).fdiv (2 ^ min 7 8)))) = ((1 + i % 2 * (if e < 0 then 1 else 0) : Nat) : Int) := by
        rw [u8_top he1 he2, tmod_lit]
        by_cases h0 : e < 0
        · simp only [h0, if_true]
          rw [wrap_i64 (x := (1 : Int)) (by decide) (by decide), Int.mul_one, wrap_i64 (x := ((i % 2 : Nat) : Int)) (by omega) (by omega), wrap_i64 (by omega) (by omega)]; omega
        · simp only [h0, if_false]
          rw [wrap_i64 (x := (0 : Int)) (by decide) (by decide), Int.mul_zero, wrap_i64 (x := (0 : Int)) (by decide) (by decide)]; rfl
      have w8 : IntKind.i64.wrap e = e := wrap_i64 (by omega) (by omega)
      have h9 : (e.tmod 9).natAbs < 9 := by rw [Int.natAbs_tmod]; exact Nat.mod_lt _ (by decide)
      have hd2 : 1 + i % 2 * (if e < 0 then 1 else 0) ≤ 2 := by split <;> omega
      have hbd : Bd (1 + i % 2 * (if e < 0 then 1 else 0)) 8 (szE i e) := ⟨e.tmod 9, rfl, by omega⟩
      have hnum := hbd.num (by omega)
      have hden := hbd.den_le (by omega)
      have hsm : SmR (szE i e) := ⟨show Int.natAbs _ < _ by omega, show Int.natAbs _ < _ by omega⟩
      simp only [go_sem, Nat.reduceBEq, Int.reduceLE, Int.reduceEq, Int.reduceToNat, ↓reduceIte, t3, t10, c1', hl1, hi3, w8, wd]
      refine callK_intro (c_lOf (z := e.tmod 9) (n := 1 + i % 2 * (if e < 0 then 1 else 0)) (show Int.natAbs _ < _ by omega) (show Int.natAbs _ < _ by omega) (by omega) hsm) ?_
      rintro _ h2 ⟨hle2, rfl⟩
      obtain ⟨v', h', o2, e1, e2, e3⟩ := (w.mono hle2).app2 (hle.trans hle2) (by simp [szL]; omega) (szE i e)
      have e1' := e1
      simp only [szE] at e1'
      simp only [go_sem, Nat.reduceBEq, Nat.reduceAdd, Nat.reduceMul, Nat.reduceLeDiff, Nat.reduceLT, ↓reduceIte, t0, t3, t9, t10, c1', e1', wi]
      refine ⟨i + 1, by omega, rfl, by omega, e2, o2, ?_⟩
      have : szL (i + 1) [x, y, z] = szL i [x, y, z] ++ [szE i e] := by simp only [szL, List.range_succ, List.map_append, List.map_cons, List.map_nil, he, Option.getD_some]
      rw [this]
      exact e3
    · have c1' := of_decide_eq_false c1
      obtain rfl : i = p.length := by omega
      simp only [go_sem, Nat.reduceBEq, c1]
      exact ⟨hle0.trans hle, (w.szF (by rw [← List.length_pos_iff]; simp [szL]; omega) (by simp [szL]; omega)).weak hle0⟩
  · simp only [go_sem, Nat.reduceBEq]
    exact ⟨Nat.zero_le _, GH.le.refl _, none, Own.nil _ _ _⟩
theorem load_lt {h : GH} {g o n : Nat} {x : List Value} (e : h.load g o n = some x) : g < h.n := by
  unfold GH.load at e
  split at e
  · rename_i hc; exact hc.1
  · cases e
theorem load_mono {h h' : GH} (hl : h.le h') {g o n : Nat} {x : List Value} (e : h.load g o n = some x) : h'.load g o n = some x := le_load hl (load_lt e) e
theorem c_lNote {h : GH} {sv : Value} {p : List Int} {N : List (List Rat)} {n : Nat} (s : ScAt h sv p N) (hpos : 0 < N.length) (hlen : N.length ≤ 1000) (hn2 : n < 1000000) (hp0 : 0 < p.length ∧ p.length ≤ 1000) (hl : ∀ x ∈ N, x.length = p.length) (hs : ∀ x ∈ N, ∀ q ∈ x, Ti q) (hk : Ti (((n / N.length : Nat) : Int) : Rat)) (hq : ∀ q ∈ scaleL (perN N) ((n / N.length : Nat) : Int), Ti q) (hr : SmL (noteL N n)) :
    ∃ r h', GCalls Tryz.prog gE 32 #[sv, .int .i64 n] h r h' ∧ h.le h' ∧ SzF h h' r (noteL N n) := by
  obtain ⟨g, o, c, g2, o2, c2, rfl, hp, hn⟩ := s.form
  have hk0 : ¬ ((N.length : Int) = 0) := by omega
  have hq1 := Nat.div_le_self n N.length
  have hr1 := Nat.mod_lt n hpos
  have z1 : (0 : Int) ≤ ((n / N.length : Nat) : Int) := Int.natCast_nonneg _
  have z2 : (0 : Int) ≤ ((n % N.length : Nat) : Int) := Int.natCast_nonneg _
  have z3 : ((n / N.length : Nat) : Int).natAbs < 1000000 := by rw [Int.natAbs_natCast]; omega
  have w2 : IntKind.i64.wrap ((n / N.length : Nat) : Int) = ((n / N.length : Nat) : Int) := wrap_i64 (by omega) (by omega)
  have w1 : IntKind.i64.wrap ((N.length : Int) - 1) = ((N.length - 1 : Nat) : Int) := by rw [wrap_i64 (by omega) (by omega)]; omega
  have k1 : ¬ ((n % N.length : Nat) : Int) < 0 := by omega
  have k2 : ((N.length - 1 : Nat) : Int) < N.length := by omega
  have d0 := Duo.new h (.slice (some ⟨g, o, none⟩) p.length c) (.slice (some ⟨g2, o2, none⟩) N.length c2)
  have e0 := GH.le_alloc h ⟨[.slice (some ⟨g, o, none⟩) p.length c, .slice (some ⟨g2, o2, none⟩) N.length c2], true, false⟩
  obtain ⟨H, hH⟩ : ∃ H, h.alloc ⟨[.slice (some ⟨g, o, none⟩) p.length c, .slice (some ⟨g2, o2, none⟩) N.length c2], true, false⟩ = H := ⟨_, rfl⟩
  rw [hH] at d0 e0
  obtain ⟨per, hper⟩ : ∃ x, N[N.length - 1]? = some x := ⟨_, List.getElem?_eq_getElem (by omega)⟩
  have hpm := List.mem_of_getElem? hper
  have hpe : perN N = per := by rw [perN, hper]; rfl
  obtain ⟨_, pv, hl1, hps, _⟩ := (hn.mono e0).get hper
  have hperl := hl per hpm
  refine gcalls_in (pl := pl32) [.tmp 4] mixed Tryz.func32 rfl rfl (by exact ok32) ?_
  simp only [go_sem, Nat.reduceBEq, Array.reduceGetElem?, ↓reduceIte, pl32, hH, d0.l1, tdiv_nat, tmod_nat, hk0, w1, w2, k1, k2, hl1]
  refine callK_intro (c_lOf1 (z := ((n / N.length : Nat) : Int)) (show Int.natAbs _ < 10000000 by omega)) ?_
  rintro _ h1 ⟨hle1, rfl⟩
  have d1 := d0.mono hle1
  have hl1' := load_mono hle1 hl1
  simp only [go_sem, Nat.reduceBEq, Array.reduceGetElem?, d1.l1, hl1']
  rw [hpe] at hq
  refine callK_intro (c_times (k := ((n / N.length : Nat) : Int)) (hps.mono hle1) (by rw [← List.length_pos_iff]; omega) (by omega) (hs per hpm) hk (fun q hq' => (hq q hq').sm)) ?_
  rintro ov h2 ⟨hle2, ho⟩
  have d2 := d1.mono hle2
  have hl1'' := load_mono hle2 hl1'
  simp only [go_sem, Nat.reduceBEq, Array.reduceGetElem?]
  refine ifK_intro (fun c1 => ?_) (fun c1 => ?_)
  · have c1' : ¬ n % N.length = 0 := by have := of_decide_eq_true c1; omega
    rw [noteL, if_neg c1', hpe] at hr
    obtain ⟨x, hx⟩ : ∃ x, N[n % N.length - 1]? = some x := ⟨_, List.getElem?_eq_getElem (by omega)⟩
    have hxm := List.mem_of_getElem? hx
    obtain ⟨_, xv, hl2, hxs, _⟩ := (hn.mono ((e0.trans hle1).trans hle2)).get hx
    rw [hx] at hr
    have w3 : IntKind.i64.wrap (((n % N.length : Nat) : Int) - 1) = ((n % N.length - 1 : Nat) : Int) := by rw [wrap_i64 (by omega) (by omega)]; omega
    have k3 : ((n % N.length - 1 : Nat) : Int) < N.length := by omega
    simp only [go_sem, Nat.reduceBEq, ↓reduceIte, d2.l1, w3, k3, hl2]
    refine callK_intro (c_lAdd ho.at hxs (by rw [← List.length_pos_iff, scaleL, List.length_map]; omega) (by rw [scaleL, List.length_map]; omega) (by rw [scaleL, List.length_map, hl x hxm, hperl]) hq (hs x hxm) hr) ?_
    rintro rv' h3 ⟨hle3, hrv⟩
    simp only [go_sem]
    refine ⟨((e0.trans hle1).trans hle2).trans hle3, ?_⟩
    rw [noteL, if_neg c1', hpe, hx]
    exact hrv.weak ((e0.trans hle1).trans hle2)
  · have c1' : n % N.length = 0 := by have := of_decide_eq_false c1; omega
    simp only [go_sem, Nat.reduceBEq]
    refine ⟨(e0.trans hle1).trans hle2, ?_⟩
    rw [noteL, if_pos c1', hpe]
    exact ho.weak (e0.trans hle1)
end Go.Proofs.Gh
namespace Go.Proofs.Gh
open Go Go.Proofs Go.Proofs.Zz
set_option maxRecDepth 10000
set_option linter.unusedSimpArgs false
/-- a row of sizes, or none -/
def LsE (h : GH) (v : Value) (L : List (List Rat)) : Prop := LsAt h v L ∨ (L = [] ∧ v = .slice none 0 0)
theorem LsE.mono {h h' : GH} {v : Value} {L : List (List Rat)} (s : LsE h v L) (hl : h.le h') : LsE h' v L := by
  rcases s with s | s
  · exact .inl (s.mono hl)
  · exact .inr s
theorem LsE.form {h : GH} {v : Value} {L : List (List Rat)} (s : LsE h v L) : ∃ p c, v = .slice p L.length c ∧ ∀ (i : Nat) (l : List Rat), L[i]? = some l → ∃ g o x, p = some ⟨g, o, none⟩ ∧ h.load g (o + i) 1 = some [x] ∧ SzAt h x l ∧ Value.oneCell' x = true := by
  rcases s with s | ⟨rfl, rfl⟩
  · have s' := s
    obtain ⟨g, o, c, vs, rfl, k1, k2, k3⟩ := s
    refine ⟨_, _, rfl, fun i l hi => ?_⟩
    obtain ⟨_, x, e1, e2, e3⟩ := s'.get hi
    exact ⟨g, o, x, rfl, e1, e2, e3⟩
  · exact ⟨_, _, rfl, fun i l h => by simp at h⟩
theorem LsO.lsE {h0 h : GH} {v : Value} {L : List (List Rat)} {o : Option Nat} (s : LsO h0 h v L o) (hlen : L.length ≤ 100000) : LsE h v L := by
  by_cases hne : L = []
  · obtain ⟨vs, w, h1, h2⟩ := s
    rcases w with ⟨e, _, _⟩ | ⟨g, rfl, rfl, k2, k3, k4, k5⟩
    · exact .inr ⟨hne, e⟩
    · rw [List.length_map, h1, hne] at k5
      exact absurd k5 (by decide)
  · exact .inl (s.ls hne hlen)
/-- a cell of its own -/
structure Uno (h : GH) (g : Nat) (a : Value) : Prop where
  lt : g < h.n
  b : h.b g = ⟨[a], true, false⟩
theorem Uno.mono {h h' : GH} {g : Nat} {a : Value} (t : Uno h g a) (hl : h.le h') : Uno h' g a := ⟨Nat.lt_of_lt_of_le t.lt hl.1, (hl.2 g t.lt).trans t.b⟩
theorem Uno.new (h : GH) (a : Value) : Uno (h.alloc ⟨[a], true, false⟩) h.n a := ⟨Nat.lt_succ_self _, alloc_self _ _⟩
theorem Uno.l {h : GH} {g : Nat} {a : Value} (t : Uno h g a) : h.load g 0 1 = some [a] := load_one_at t.lt t.b rfl
theorem c_col1 {h : GH} {yv rv' : Value} {a b : List Rat} {bx : Nat} (u : Uno h bx rv') (s : SzAt h rv' a) (t : SzAt h yv b) (hlen : a.length ≤ 1000) :
    ∃ r h', GCalls Tryz.prog gE 58 #[yv, .pointer (some ⟨bx, 0, none⟩)] h r h' ∧ h.le h' ∧ r = .bool (decide (a = b)) := by
  refine gcalls_in (pl := noPl) [.tmp 3] mixed Tryz.func58 rfl rfl (by exact ok58) ?_
  simp only [go_sem, Nat.reduceBEq, u.l]
  refine callK_intro (c_Equal s t hlen) ?_
  rintro _ h1 ⟨hle1, rfl⟩
  simp only [go_sem]
  exact hle1
def idxI (L : List (List Rat)) (a : List Rat) : Int := if a ∈ L then (L.idxOf a : Int) else -1
theorem c_idxLs {h : GH} {lv cv : Value} {L : List (List Rat)} {a : List Rat} (K : Nat) (s : LsE h lv L) (hlen : L.length ≤ 1000) (hK : ∀ b ∈ L, ∀ yv h1, h.le h1 → SzAt h1 yv b → ∃ r h', GCalls Tryz.prog gE K #[yv, cv] h1 r h' ∧ h1.le h' ∧ r = .bool (decide (a = b))) :
    ∃ r h', GCalls Tryz.prog gE 28 #[lv, .func (.func K) #[] #[cv]] h r h' ∧ h.le h' ∧ r = .int .i64 (idxI L a) := by
  obtain ⟨p, c, rfl, hs⟩ := s.form
  refine gcalls_in (pl := noPl) [.tmp 4] mixed Tryz.func28 rfl rfl (by exact ok28) ?_
  simp only [go_sem, Nat.reduceBEq]
  refine loopK_inv (α := Nat) (fun i => L.length - i) (fun i ts g' => ts 0 = .slice p L.length c ∧ ts 1 = .func (.func K) #[] #[cv] ∧ ts 7 = .int .i64 L.length ∧ ts 8 = .int .i64 i ∧ i ≤ L.length ∧ h.le g' ∧ ∀ b ∈ L.take i, a ≠ b) ?_ (a0 := 0) ?_
  · rintro i ts g' ⟨t0, t1, t7, t8, hi, hle, hno⟩
    simp only [go_sem, t7, t8]
    refine ifK_intro (fun c1 => ?_) (fun c1 => ?_)
    · have c1' := of_decide_eq_true c1
      obtain ⟨b, hb⟩ : ∃ b, L[i]? = some b := ⟨_, List.getElem?_eq_getElem (by omega)⟩
      obtain ⟨g, o, x, rfl, l1, sx, _⟩ := hs i b hb
      have l1 := load_mono hle l1
      have wi : IntKind.i64.wrap ((i : Int) + 1) = ((i + 1 : Nat) : Int) := wrap_i64 (by omega) (by omega)
      simp only [go_sem, Nat.reduceBEq, ↓reduceIte, t0, t1, t8, c1', l1]
      refine callK_intro (hK b (List.mem_of_getElem? hb) x g' hle (sx.mono hle)) ?_
      rintro _ h2 ⟨hle2, rfl⟩
      simp only [go_sem]
      refine ifK_intro (fun c2 => ?_) (fun c2 => ?_)
      · have c2' := of_decide_eq_true c2
        subst c2'
        simp only [go_sem, Nat.reduceBEq]
        refine ⟨hle.trans hle2, ?_⟩
        rw [idxI, if_pos (List.mem_of_getElem? hb)]
        congr 2
        have h1 := (List.getElem?_eq_some_iff.1 hb)
        have : L.idxOf a = i := by
          obtain ⟨h2, h3⟩ := h1
          have hL : L = L.take i ++ (a :: L.drop (i + 1)) := by
            rw [← h3, List.getElem_cons_drop, List.take_append_drop]
          have hni : a ∉ L.take i := fun hm => hno a hm rfl
          conv => lhs; rw [hL]
          rw [List.idxOf_append, if_neg hni, List.idxOf_cons_self, List.length_take]
          omega
        rw [this]
      · have c2' := of_decide_eq_false c2
        simp only [go_sem, Nat.reduceBEq, t0, t1, t7, t8, wi]
        refine ⟨i + 1, by omega, rfl, by omega, hle.trans hle2, fun b' hb' => ?_⟩
        rw [List.take_add_one, hb] at hb'
        rcases List.mem_append.1 hb' with hb' | hb'
        · exact hno b' hb'
        · rw [List.mem_singleton.1 hb']; exact c2'
    · have c1' := of_decide_eq_false c1
      obtain rfl : i = L.length := by omega
      rw [List.take_length] at hno
      simp only [go_sem, Int.reduceNeg, c1]
      refine ⟨hle, ?_⟩
      rw [idxI, if_neg (fun hm => hno a hm rfl)]
  · simp only [go_sem, Nat.reduceBEq]
    exact ⟨Nat.zero_le _, GH.le.refl _, fun b hb => by simp at hb⟩
theorem c_contLs {h : GH} {lv cv : Value} {L : List (List Rat)} {a : List Rat} (K : Nat) (s : LsE h lv L) (hlen : L.length ≤ 1000) (hK : ∀ b ∈ L, ∀ yv h1, h.le h1 → SzAt h1 yv b → ∃ r h', GCalls Tryz.prog gE K #[yv, cv] h1 r h' ∧ h1.le h' ∧ r = .bool (decide (a = b))) :
    ∃ r h', GCalls Tryz.prog gE 57 #[lv, .func (.func K) #[] #[cv]] h r h' ∧ h.le h' ∧ r = .bool (decide (a ∈ L)) := by
  refine gcalls_in (pl := noPl) [.tmp 4] mixed Tryz.func57 rfl rfl (by exact ok57) ?_
  simp only [go_sem, Nat.reduceBEq]
  refine callK_intro (c_idxLs K s hlen hK) ?_
  rintro _ h1 ⟨hle1, rfl⟩
  by_cases hm : a ∈ L
  · have e : (0 : Int) ≤ idxI L a := by rw [idxI, if_pos hm]; omega
    simp only [go_sem, e]
    refine ⟨hle1, ?_⟩
    rw [decide_eq_true hm]
  · have e : ¬ (0 : Int) ≤ idxI L a := by rw [idxI, if_neg hm]; omega
    simp only [go_sem, e]
    refine ⟨hle1, ?_⟩
    rw [decide_eq_false hm]
end Go.Proofs.Gh
namespace Go.Proofs.Gh
open Go Go.Proofs Go.Proofs.Zz
set_option maxRecDepth 10000
set_option linter.unusedSimpArgs false
theorem load_all {h : GH} {g o c e : Nat} {els : List (List Value)} (s : SlAt h g o c e els) : h.load g o (els.length * e) = some els.flatten := by
  obtain ⟨h1, h2, ⟨pre, post, h3, h4⟩, h5, h6⟩ := s
  have hfl := flatten_length h5
  unfold GH.load
  rw [if_pos ⟨h1, h2, by rw [h3]; simp only [List.length_append, hfl, h4]; omega⟩, h3, List.append_assoc, ← h4, List.drop_append, List.drop_length, List.nil_append, Nat.sub_self, List.drop_zero, List.take_append, ← hfl, List.take_of_length_le (Nat.le_refl _), Nat.sub_self, List.take_zero, List.append_nil]
theorem rep0 (x : List Value) : rep 0 x = [] := rfl
theorem all_one_rc (l : List Rat) : (l.map rc).flatten.all Value.oneCell' = true := by
  rw [List.all_eq_true]
  intro x hx
  obtain ⟨y, hy, hx⟩ := List.mem_flatten.1 hx
  obtain ⟨q, _, rfl⟩ := List.mem_map.1 hy
  exact List.all_eq_true.1 (rc_one q) x hx
theorem all_one_ints (l : List Int) : (ints l).flatten.all Value.oneCell' = true := by
  rw [List.all_eq_true]
  intro x hx
  obtain ⟨y, hy, hx⟩ := List.mem_flatten.1 hx
  obtain ⟨q, _, rfl⟩ := List.mem_map.1 hy
  rw [List.mem_singleton.1 hx]; rfl
theorem c_cloneSize {h : GH} {sv : Value} {l : List Rat} (s : SzAt h sv l) (hne : l ≠ []) (hlen : l.length ≤ 1000) : ∃ r h', GCalls Tryz.prog gE 79 #[sv] h r h' ∧ h.le h' ∧ SzF h h' r l := by
  obtain ⟨g, o, c, rfl, s⟩ := s
  have hpos : 0 < l.length := List.length_pos_iff.2 hne
  have s1 := s.mono (GH.le_alloc h ⟨[], true, false⟩)
  have hld := load_all s1
  have hfl : ((l.map rc).flatten).length = l.length * 2 := by rw [flatten_length (e := 2) rc_len, List.length_map]
  have hap := append_over (P := Tryz.prog) (h := h.alloc ⟨[], true, false⟩) (g := h.n) (o := 0) (len := 0) (c := 0) (g2 := g) (o2 := o) (c2 := c) (t := 32) (old := []) (n := l.length) ty_sk32 ty_tk60 ty_zk60 rfl ty_ce60 (by rw [List.length_map] at hld; exact hld) hpos hfl (all_one_rc l) (by decide) (by omega) rfl (by omega) (by rw [ty_be60]; omega)
  refine gcalls_in (pl := noPl) [.tmp 2] mixed Tryz.func79 rfl rfl (by exact ok79) ?_
  simp only [go_sem, Nat.reduceBEq, Nat.reduceAdd, Nat.reduceMul, Nat.reduceLeDiff, Nat.reduceLT, ↓reduceIte, Option.isNone_some, rep0, List.all_nil, hap]
  refine ⟨(GH.le_alloc _ _).trans (GH.le_alloc _ _), h.n + 1, 0, unk + 2, rfl, ?_, Nat.le_succ _⟩
  exact row_at (els := l.map rc) (Nat.lt_succ_self _) (alloc_self (h.alloc ⟨[], true, false⟩) _) rc_len ⟨by rw [List.length_map]; simp only [unk]; omega, fun _ => .inr rfl⟩
theorem c_clonePrimes {h : GH} {sv : Value} {l : List Int} (s : PrAt h sv l) (hne : l ≠ []) (hlen : l.length ≤ 1000) : ∃ r h', GCalls Tryz.prog gE 81 #[sv] h r h' ∧ h.le h' ∧ PrAt h' r l := by
  obtain ⟨g, o, c, rfl, s⟩ := s
  have hpos : 0 < l.length := List.length_pos_iff.2 hne
  have s1 := s.mono (GH.le_alloc h ⟨[], true, false⟩)
  have hld := load_all s1
  have hfl : ((ints l).flatten).length = l.length * 1 := by rw [flatten_length (e := 1) (ints_one l), ints_length]
  have hap := append_over (P := Tryz.prog) (h := h.alloc ⟨[], true, false⟩) (g := h.n) (o := 0) (len := 0) (c := 0) (g2 := g) (o2 := o) (c2 := c) (t := 29) (old := []) (n := l.length) ty_sk29 ty_tk3 ty_zk3 rfl ty_ce3 (by rw [ints_length] at hld; exact hld) hpos hfl (all_one_ints l) (by decide) (by omega) rfl (by omega) (by rw [ty_be3]; omega)
  refine gcalls_in (pl := noPl) [.tmp 2] mixed Tryz.func81 rfl rfl (by exact ok81) ?_
  simp only [go_sem, Nat.reduceBEq, Nat.reduceLeDiff, Nat.reduceLT, ↓reduceIte, Option.isNone_some, rep0, List.all_nil, hap]
  refine ⟨(GH.le_alloc _ _).trans (GH.le_alloc _ _), h.n + 1, 0, unk + 1, rfl, ?_⟩
  exact row_at (els := ints l) (Nat.lt_succ_self _) (alloc_self (h.alloc ⟨[], true, false⟩) _) (ints_one l) ⟨by rw [ints_length]; simp only [unk]; omega, fun _ => .inr rfl⟩
/-- a clone of numbers: none with no room, or a row of its own -/
def RI (h0 h : GH) (v : Value) (l : List Int) : Prop := (l = [] ∧ ∃ g, v = .slice (some ⟨g, 0, none⟩) 0 0) ∨ ∃ g, Own h0 h v 1 (ints l) (some g)
theorem RI.mono {h0 h h' : GH} {v : Value} {l : List Int} (s : RI h0 h v l) (hl : h.le h') : RI h0 h' v l := by
  rcases s with s | ⟨g, s⟩
  · exact .inl s
  · exact .inr ⟨g, s.mono hl⟩
theorem c_cloneInts {h : GH} {g o c : Nat} {l : List Int} (s : SlAt h g o c 1 (ints l)) (hlen : l.length ≤ 1000) : ∃ r h', GCalls Tryz.prog gE 36 #[.slice (some ⟨g, o, none⟩) l.length c] h r h' ∧ h.le h' ∧ RI h h' r l := by
  by_cases hne : l = []
  · subst hne
    have hap : gAppend Tryz.prog 28 28 (.slice (some ⟨h.n, 0, none⟩) 0 0) (.slice (some ⟨g, o, none⟩) 0 c) (h.alloc ⟨[], true, false⟩) = some (.slice (some ⟨h.n, 0, none⟩) 0 0, h.alloc ⟨[], true, false⟩) := by
      simp only [gAppend, gAppendS, gNews, ty_sk28, ty_zk3, ty_ce3]
      rfl
    refine gcalls_in (pl := noPl) [.tmp 2] mixed Tryz.func36 rfl rfl (by exact ok36) ?_
    simp only [go_sem, Nat.reduceBEq, Nat.reduceLeDiff, Nat.reduceLT, ↓reduceIte, Option.isNone_some, rep0, List.all_nil, List.length_nil, hap]
    exact ⟨GH.le_alloc _ _, .inl ⟨rfl, _, rfl⟩⟩
  · have hpos : 0 < l.length := List.length_pos_iff.2 hne
    have s1 := s.mono (GH.le_alloc h ⟨[], true, false⟩)
    have hld := load_all s1
    have hfl : ((ints l).flatten).length = l.length * 1 := by rw [flatten_length (e := 1) (ints_one l), ints_length]
    have hap := append_over (P := Tryz.prog) (h := h.alloc ⟨[], true, false⟩) (g := h.n) (o := 0) (len := 0) (c := 0) (g2 := g) (o2 := o) (c2 := c) (t := 28) (old := []) (n := l.length) ty_sk28 ty_tk3 ty_zk3 rfl ty_ce3 (by rw [ints_length] at hld; exact hld) hpos hfl (all_one_ints l) (by decide) (by omega) rfl (by omega) (by rw [ty_be3]; omega)
    refine gcalls_in (pl := noPl) [.tmp 2] mixed Tryz.func36 rfl rfl (by exact ok36) ?_
    simp only [go_sem, Nat.reduceBEq, Nat.reduceLeDiff, Nat.reduceLT, ↓reduceIte, Option.isNone_some, rep0, List.all_nil, hap]
    exact ⟨(GH.le_alloc _ _).trans (GH.le_alloc _ _), .inr ⟨h.n + 1, .inr ⟨h.n + 1, rfl, by rw [ints_length], Nat.le_succ _, Nat.lt_succ_self _, alloc_self (h.alloc ⟨[], true, false⟩) _, by rw [ints_length]; exact hpos⟩⟩⟩
/-- one number more -/
theorem RI.app {h0 h : GH} {v : Value} {l : List Int} (s : RI h0 h v l) (hle : h0.le h) (hlen : l.length ≤ 1000) (x : Int) :
    ∃ v' h', gAppend Tryz.prog 28 28 v (.slice (some ⟨h.n, 0, none⟩) 1 1) (h.alloc ⟨[.int .i64 x], true, false⟩) = some (v', h') ∧ h0.le h' ∧ ∃ g c, v' = .slice (some ⟨g, 0, none⟩) (l.length + 1) c ∧ SlAt h' g 0 c 1 (ints (l ++ [x])) := by
  rcases s with ⟨rfl, g, rfl⟩ | ⟨g, w⟩
  · refine ⟨_, _, append_over (P := Tryz.prog) (len := 0) (c := 0) (old := []) (n := 1) ty_sk28 ty_tk3 ty_zk3 rfl ty_ce3 (by rw [Nat.mul_one]; exact alloc_load1) (by decide) rfl rfl (by decide) (by decide) rfl (by decide) (by rw [ty_be3]; decide), (hle.trans (GH.le_alloc _ _)).trans (GH.le_alloc _ _), _, _, rfl, ?_⟩
    exact row_at (els := ints [x]) (Nat.lt_succ_self _) (alloc_self (h.alloc ⟨[.int .i64 x], true, false⟩) _) (ints_one _) ⟨by simp [ints], fun _ => .inr rfl⟩
  · have w' := w.mono (GH.le_alloc h ⟨[.int .i64 x], true, false⟩)
    have hg := w
    obtain ⟨h', e1, e2, e3, e4, e5⟩ := w'.append (P := Tryz.prog) (t := 28) (x := [.int .i64 x]) (c2 := 1) ty_sk28 ty_tk3 ty_zk3 rfl ty_ce3 (by decide) (ints_one l) rfl alloc_load1 rfl (by rw [ints_length]; omega) (by rw [ty_be3]; decide) (Nat.le_succ_of_le hle.1)
    rw [ints_length] at e1
    refine ⟨_, h', e1, ⟨by rw [e2]; exact Nat.le_succ_of_le (Nat.le_succ_of_le hle.1), fun k hk => ?_⟩, _, _, rfl, ?_⟩
    · have hkn : k < h.n := Nat.lt_of_lt_of_le hk hle.1
      rw [e4 k (Nat.lt_succ_of_lt hkn) ?_, alloc_b_lt _ _ hkn, hle.2 k hk]
      intro hh
      injection hh with hh
      subst hh
      rcases hg with ⟨_, _, h⟩ | ⟨g', h, _, h2, _⟩
      · cases h
      · injection h with h; omega
    · have e3' : h'.b (h.alloc ⟨[.int .i64 x], true, false⟩).n = Row (ints (l ++ [x])) := by rw [e3]; simp [ints]
      exact row_at (els := ints (l ++ [x])) (by rw [e2]; exact Nat.lt_succ_self _) e3' (ints_one _) ⟨by rw [ints_length]; simp only [unk, List.length_append, List.length_cons, List.length_nil]; omega, fun _ => .inr rfl⟩
theorem c_eqPrimes {h : GH} {av bv : Value} {a b : List Int} (s : PrAt h av a) (t : PrAt h bv b) (hlen : a.length ≤ 1000) :
    ∃ r h', GCalls Tryz.prog gE 39 #[av, bv] h r h' ∧ h.le h' ∧ r = .bool (decide (a = b)) := by
  obtain ⟨g, o, c, rfl, s⟩ := s
  obtain ⟨tg, to, tc, rfl, t⟩ := t
  refine gcalls_in (pl := pl39) [.tmp 4] mixed Tryz.func39 rfl rfl (by exact ok39) ?_
  simp only [go_sem, Nat.reduceBEq]
  refine ifK_intro (fun c0 => ?_) (fun c0 => ?_)
  · have c0' := of_decide_eq_true c0
    simp only [go_sem, c0]
    refine ⟨GH.le.refl _, ?_⟩
    rw [decide_eq_false]
    rintro rfl
    exact c0' rfl
  · have c0' : b.length = a.length := by have := of_decide_eq_false c0; omega
    simp only [go_sem, Nat.reduceBEq, c0]
    refine loopK_inv (α := Nat) (fun i => a.length - i) (fun i ts g' => ts 0 = .slice (some ⟨g, o, none⟩) a.length c ∧ ts 1 = .slice (some ⟨tg, to, none⟩) b.length tc ∧ ts 12 = .int .i64 a.length ∧ ts 13 = .int .i64 i ∧ i ≤ a.length ∧ g' = h ∧ a.take i = b.take i) ?_ (a0 := 0) ?_
    · rintro i ts g' ⟨h0, h1, h12, h13, hi, rfl, he⟩
      simp only [go_sem, h12, h13]
      refine ifK_intro (fun c1 => ?_) (fun c1 => ?_)
      · have c1' := of_decide_eq_true c1
        have c1'' : (i : Int) < b.length := by omega
        obtain ⟨q, hq⟩ : ∃ q, a[i]? = some q := ⟨_, List.getElem?_eq_getElem (by omega)⟩
        obtain ⟨r, hr⟩ : ∃ r, b[i]? = some r := ⟨_, List.getElem?_eq_getElem (by omega)⟩
        have hl1 := s.load (ints_get hq)
        have hl2 := t.load (ints_get hr)
        rw [Nat.mul_one] at hl1 hl2
        simp only [go_sem, Nat.reduceBEq, Array.reduceGetElem?, ↓reduceIte, h0, h1, h13, c1', c1'', hl1, hl2, pl39]
        refine ifK_intro (fun c2 => ?_) (fun c2 => ?_)
        · have c2' := of_decide_eq_true c2
          simp only [go_sem, c2]
          refine ⟨GH.le.refl _, ?_⟩
          rw [decide_eq_false]
          rintro rfl
          rw [hq] at hr
          injection hr with hr
          exact c2' hr
        · have c2' := Decidable.not_not.1 (of_decide_eq_false c2)
          simp (disch := first | omega | (simp only [List.length_cons, List.length_nil, List.length_set]; omega)) only [go_sem, Nat.reduceBEq, h0, h1, h12, h13, wrap_i64]
          refine ⟨i + 1, by omega, rfl, by omega, ?_⟩
          rw [List.take_add_one, List.take_add_one, he, hq, hr, c2']
      · have c1' := of_decide_eq_false c1
        simp only [go_sem, c1]
        refine ⟨GH.le.refl _, ?_⟩
        obtain rfl : i = a.length := by omega
        rw [List.take_length, List.take_of_length_le (by omega)] at he
        rw [decide_eq_true he]
    · simp only [go_sem, Nat.reduceBEq]
      exact ⟨Nat.zero_le _, by simp⟩
theorem c_eqLs {h : GH} {lv mv : Value} {L M : List (List Rat)} (s : LsE h lv L) (t : LsE h mv M) (hlen : L.length ≤ 1000) (hL : ∀ l ∈ L, l.length ≤ 1000) :
    ∃ r h', GCalls Tryz.prog gE 63 #[lv, mv, .func (.func 27) #[] #[]] h r h' ∧ h.le h' ∧ r = .bool (decide (L = M)) := by
  obtain ⟨p, c, rfl, hs⟩ := s.form
  obtain ⟨p2, c2, rfl, ht⟩ := t.form
  refine gcalls_in (pl := noPl) [.tmp 6] mixed Tryz.func63 rfl rfl (by exact ok63) ?_
  simp only [go_sem, Nat.reduceBEq]
  refine ifK_intro (fun c0 => ?_) (fun c0 => ?_)
  · have c0' := of_decide_eq_true c0
    simp only [go_sem, c0]
    refine ⟨GH.le.refl _, ?_⟩
    rw [decide_eq_false]
    rintro rfl
    exact c0' rfl
  · have c0' : M.length = L.length := by have := of_decide_eq_false c0; omega
    simp only [go_sem, Nat.reduceBEq, c0]
    refine loopK_inv (α := Nat) (fun i => L.length - i) (fun i ts g' => ts 1 = .slice p2 M.length c2 ∧ ts 2 = .func (.func 27) #[] #[] ∧ ts 15 = .slice p L.length c ∧ ts 16 = .int .i64 L.length ∧ ts 17 = .int .i64 i ∧ i ≤ L.length ∧ h.le g' ∧ L.take i = M.take i) ?_ (a0 := 0) ?_
    · rintro i ts g' ⟨h1, h2, h15, h16, h17, hi, hle, he⟩
      simp only [go_sem, h16, h17]
      refine ifK_intro (fun c1 => ?_) (fun c1 => ?_)
      · have c1' := of_decide_eq_true c1
        have c1'' : (i : Int) < M.length := by omega
        obtain ⟨a, ha⟩ : ∃ q, L[i]? = some q := ⟨_, List.getElem?_eq_getElem (by omega)⟩
        obtain ⟨b, hb⟩ : ∃ r, M[i]? = some r := ⟨_, List.getElem?_eq_getElem (by omega)⟩
        obtain ⟨g, o, x, rfl, l1, sx, _⟩ := hs i a ha
        obtain ⟨g2, o2, y, rfl, l2, sy, _⟩ := ht i b hb
        have l1 := load_mono hle l1
        have l2 := load_mono hle l2
        have wi : IntKind.i64.wrap ((i : Int) + 1) = ((i + 1 : Nat) : Int) := wrap_i64 (by omega) (by omega)
        simp only [go_sem, Nat.reduceBEq, ↓reduceIte, h1, h2, h15, h17, c1', c1'', l1, l2]
        refine callK_intro (c_Equal (sx.mono hle) (sy.mono hle) (hL a (List.mem_of_getElem? ha))) ?_
        rintro _ h3 ⟨hle3, rfl⟩
        simp only [go_sem]
        refine ifK_intro (fun c2 => ?_) (fun c2 => ?_)
        · have c2' := of_decide_eq_true c2
          simp only [go_sem, Nat.reduceBEq, h1, h2, h15, h16, h17, wi]
          refine ⟨i + 1, by omega, rfl, by omega, hle.trans hle3, ?_⟩
          rw [List.take_add_one, List.take_add_one, he, ha, hb, c2']
        · have c2' := of_decide_eq_false c2
          simp only [go_sem]
          refine ⟨hle.trans hle3, ?_⟩
          rw [decide_eq_false]
          rintro rfl
          rw [ha] at hb
          injection hb with hb
          exact c2' hb
      · have c1' := of_decide_eq_false c1
        simp only [go_sem, c1]
        refine ⟨hle, ?_⟩
        obtain rfl : i = L.length := by omega
        rw [List.take_length, List.take_of_length_le (by omega)] at he
        rw [decide_eq_true he]
    · simp only [go_sem, Nat.reduceBEq]
      exact ⟨Nat.zero_le _, GH.le.refl _, by simp⟩
theorem c_same {h : GH} {sv tv : Value} {p q : List Int} {L M : List (List Rat)} {pv qv lv mv : Value} (hp : PrAt h pv p) (hq : PrAt h qv q) (s : LsE h lv L) (t : LsE h mv M) (hs : sv = .agg #[pv, lv]) (ht : tv = .agg #[qv, mv]) (hpl : p.length ≤ 1000) (hlen : L.length ≤ 1000) (hL : ∀ l ∈ L, l.length ≤ 1000) :
    ∃ r h', GCalls Tryz.prog gE 18 #[sv, tv] h r h' ∧ h.le h' ∧ r = .bool (decide (p = q) && decide (L = M)) := by
  subst hs ht
  obtain ⟨pg, po, pc, rfl, hp'⟩ := id hp
  obtain ⟨qg, qo, qc, rfl, hq'⟩ := id hq
  obtain ⟨p3, c3, rfl, _⟩ := s.form
  obtain ⟨p4, c4, rfl, _⟩ := t.form
  obtain ⟨H, hH, d1, d2, hle, hHn⟩ := Duo.two h (.slice (some ⟨pg, po, none⟩) p.length pc) (.slice p3 L.length c3) (.slice (some ⟨qg, qo, none⟩) q.length qc) (.slice p4 M.length c4)
  refine gcalls_in (pl := noPl) [.tmp 4] mixed Tryz.func18 rfl rfl (by exact ok18) ?_
  simp only [go_sem, Nat.reduceBEq, ↓reduceIte, hH, d1.l0, d2.l0]
  refine callK_intro (c_eqPrimes (hp.mono hle) (hq.mono hle) hpl) ?_
  rintro _ h1 ⟨hle1, rfl⟩
  have d1' := d1.mono hle1
  have d2' := d2.mono hle1
  by_cases hpq : p = q
  · simp only [go_sem, Nat.reduceBEq, Array.reduceGetElem?, decide_eq_true hpq, d1'.l1, d2'.l1]
    refine callK_intro (c_eqLs ((s.mono hle).mono hle1) ((t.mono hle).mono hle1) hlen hL) ?_
    rintro _ h2 ⟨hle2, rfl⟩
    simp only [go_sem, Nat.reduceBEq, ↓reduceIte]
    exact ⟨(hle.trans hle1).trans hle2, by rw [decide_eq_true hpq, Bool.true_and]⟩
  · simp only [go_sem, Nat.reduceBEq, Array.reduceGetElem?, ↓reduceIte, decide_eq_false hpq]
    exact hle.trans hle1
end Go.Proofs.Gh
namespace Go.Proofs.Gh
open Go Go.Proofs Go.Proofs.Zz
set_option maxRecDepth 10000
set_option linter.unusedSimpArgs false
/-- a block that holds a row of sizes -/
def Srt (h : GH) (g : Nat) (L : List (List Rat)) : Prop := g < h.n ∧ ∃ vs : List Value, h.b g = Row (vs.map fun x => [x]) ∧ vs.length = L.length ∧ ∀ (i : Nat) (l : List Rat), L[i]? = some l → ∃ x, vs[i]? = some x ∧ SzN h x l (some g)
theorem Srt.mono {h h' : GH} {g : Nat} {L : List (List Rat)} (s : Srt h g L) (hl : h.le h') : Srt h' g L := by
  obtain ⟨h1, vs, h2, h3, h4⟩ := s
  refine ⟨Nat.lt_of_lt_of_le h1 hl.1, vs, (hl.2 g h1).trans h2, h3, fun i l hi => ?_⟩
  obtain ⟨x, k1, k2⟩ := h4 i l hi
  exact ⟨x, k1, k2.mono hl⟩
theorem Srt.load {h : GH} {g : Nat} {L : List (List Rat)} (s : Srt h g L) {i : Nat} {l : List Rat} (hi : L[i]? = some l) : ∃ x, h.load g i 1 = some [x] ∧ SzN h x l (some g) := by
  obtain ⟨h1, vs, h2, h3, h4⟩ := s
  obtain ⟨x, k1, k2⟩ := h4 i l hi
  have := row_load (e := 1) (i := i) (x := [x]) h1 h2 (one_len vs) (by simp [k1])
  rw [Nat.mul_one] at this
  exact ⟨x, this, k2⟩
theorem SzN.leX {h h' : GH} {x : Value} {l : List Rat} {o : Option Nat} (s : SzN h x l o) (hl : Gh.leX o h h') : SzN h' x l o := by
  obtain ⟨g, oo, c, e, s, k⟩ := s
  exact ⟨g, oo, c, e, s.leX hl k, k⟩
theorem Srt.set {h : GH} {g : Nat} {L : List (List Rat)} (s : Srt h g L) {i : Nat} {l : List Rat} {y : Value} (hi : i < L.length) (sy : SzN h y l (some g)) : ∃ h', h.store g i [y] = some h' ∧ Srt h' g (L.set i l) ∧ leX (some g) h h' ∧ h'.n = h.n ∧ ∀ {H0 : GH}, H0.le h → H0.n ≤ g → H0.le h' := by
  obtain ⟨h1, vs, h2, h3, h4⟩ := s
  have hst := row_store (e := 1) (i := i) (vs := [y]) h1 h2 (one_len vs) (by rw [List.length_map]; omega) rfl (by simp [sy.one])
  rw [Nat.mul_one] at hst
  have hX : Gh.leX (some g) h (h.upd g (Row ((vs.map fun x => [x]).set i [y]))) := ⟨Nat.le_refl _, fun k hk hne => upd_ne _ _ (by rintro rfl; exact hne rfl)⟩
  refine ⟨_, hst, ⟨h1, vs.set i y, ?_, by simp [h3], fun k m hk => ?_⟩, hX, rfl, fun hl hg => hl.upd hg _⟩
  · rw [upd_self, List.map_set]
  · rw [List.getElem?_set] at hk ⊢
    by_cases hik : i = k
    · subst hik
      rw [if_pos rfl, if_pos hi] at hk
      injection hk with hk
      subst hk
      exact ⟨y, by rw [if_pos rfl, if_pos (by omega)], sy.leX hX⟩
    · rw [if_neg hik] at hk
      obtain ⟨x, k1, k2⟩ := h4 k m hk
      exact ⟨x, by rw [if_neg hik]; exact k1, k2.leX hX⟩
/-- two neighbours in order -/
def Adj (cmp : List Rat → List Rat → Int) (L : List (List Rat)) (k : Nat) : Prop := ∀ a b, L[k]? = some a → L[k + 1]? = some b → cmp a b < 0
theorem c_isort {H0 h : GH} {g c K : Nat} {cv : Value} {L : List (List Rat)} (cmp : List Rat → List Rat → Int) (hle0 : H0.le h) (hg : H0.n ≤ g) (s : Srt h g L) (hpos : 0 < L.length) (hlen : L.length ≤ 1000) (nd : L.Nodup)
    (anti : ∀ a ∈ L, ∀ b ∈ L, a ≠ b → ¬ cmp a b < 0 → cmp b a < 0)
    (hK : ∀ a ∈ L, ∀ b ∈ L, a ≠ b → ∀ av bv h1, H0.le h1 → SzAt h1 av a → SzAt h1 bv b → ∃ r h', GCalls Tryz.prog gE K #[av, bv, cv] h1 r h' ∧ h1.le h' ∧ r = .int .i64 (cmp a b)) :
    ∃ r h', GCalls Tryz.prog gE 131 #[.slice (some ⟨g, 0, none⟩) L.length c, .int .i64 0, .int .i64 L.length, .func (.func K) #[] #[cv]] h r h' ∧ H0.le h' ∧ leX (some g) h h' ∧ ∃ L', L'.Perm L ∧ (∀ k, Adj cmp L' k) ∧ Srt h' g L' := by
  have w1 : IntKind.i64.wrap (0 + 1) = 1 := by decide
  refine gcalls_in (pl := pl131) [] mixed Tryz.func131 rfl rfl (by exact ok131) ?_
  simp only [go_sem, Int.reduceAdd]
  refine loopK_inv (α := Nat) (fun i => L.length - i) (fun i ts g' => ∃ M : List (List Rat), ts 0 = .slice (some ⟨g, 0, none⟩) L.length c ∧ ts 1 = .int .i64 0 ∧ ts 2 = .int .i64 L.length ∧ ts 3 = .func (.func K) #[] #[cv] ∧ ts 8 = .int .i64 i ∧ 1 ≤ i ∧ i ≤ L.length ∧ H0.le g' ∧ leX (some g) h g' ∧ M.Perm L ∧ Srt g' g M ∧ ∀ k, k + 1 < i → Adj cmp M k) ?_ (a0 := 1) ?_
  · rintro i ts g' ⟨M, t0, t1, t2, t3, t8, hi1, hi, hle, hX, hp, st, hs⟩
    simp only [go_sem, Nat.reduceBEq, t2, t8]
    refine ifK_intro (fun c1 => ?_) (fun c1 => ?_)
    · have c1' := of_decide_eq_true c1
      simp only [go_sem, Nat.reduceBEq, t8]
      refine loopK_inv (α := Nat) id (fun j ts g' => ∃ M : List (List Rat), ts 0 = .slice (some ⟨g, 0, none⟩) L.length c ∧ ts 1 = .int .i64 0 ∧ ts 2 = .int .i64 L.length ∧ ts 3 = .func (.func K) #[] #[cv] ∧ ts 8 = .int .i64 i ∧ ts 9 = .int .i64 j ∧ j ≤ i ∧ H0.le g' ∧ leX (some g) h g' ∧ M.Perm L ∧ Srt g' g M ∧ (∀ k, k + 1 ≤ i → k + 1 ≠ j → Adj cmp M k) ∧ (0 < j → j < i → ∀ a b, M[j - 1]? = some a → M[j + 1]? = some b → cmp a b < 0)) ?_ (a0 := i) ?_
      · clear t0 t1 t2 t3 t8 hle hX hp st hs M
        rintro j ts g' ⟨M, t0, t1, t2, t3, t8, t9, hj, hle, hX, hp, st, hs, hs2⟩
        simp only [go_sem, Nat.reduceBEq, Array.reduceGetElem?, t1, t9, pl131]
        refine ifK_intro (fun c2 => ?_) (fun c2 => ?_)
        · have c2' := of_decide_eq_true c2
          obtain ⟨k, rfl⟩ : ∃ k, j = k + 1 := ⟨j - 1, by omega⟩
          have hml := hp.length_eq
          obtain ⟨a, ha⟩ : ∃ a, M[k + 1]? = some a := ⟨_, List.getElem?_eq_getElem (by omega)⟩
          obtain ⟨b, hb⟩ : ∃ b, M[k]? = some b := ⟨_, List.getElem?_eq_getElem (by omega)⟩
          have haL : a ∈ L := hp.mem_iff.1 (List.mem_of_getElem? ha)
          have hbL : b ∈ L := hp.mem_iff.1 (List.mem_of_getElem? hb)
          have hab : a ≠ b := by
            intro h
            subst h
            have h1 := (List.getElem?_eq_some_iff.1 ha)
            have h2 := (List.getElem?_eq_some_iff.1 hb)
            obtain ⟨h1, h3⟩ := h1
            obtain ⟨h2, h4⟩ := h2
            have := (List.getElem_inj (hp.nodup_iff.2 nd)).1 (h3.trans h4.symm)
            omega
          obtain ⟨x, lx, sx⟩ := st.load ha
          obtain ⟨y, ly, sy⟩ := st.load hb
          have e1 : IntKind.i64.wrap (((k + 1 : Nat) : Int) - 1) = (k : Int) := by rw [wrap_i64 (by omega) (by omega)]; omega
          have e2 : ((k + 1 : Nat) : Int) < L.length := by omega
          have e3 : (k : Int) < L.length := by omega
          simp only [go_sem, Nat.reduceBEq, Array.reduceGetElem?, ↓reduceIte, t0, t3, t9, c2, lx, ly, e1, e2, e3, Nat.zero_add]
          refine callK_intro (hK a haL b hbL hab x y g' hle sx.at sy.at) ?_
          rintro _ h2 ⟨hle2, rfl⟩
          simp only [go_sem, Nat.reduceBEq, Array.reduceGetElem?, ↓reduceIte, c2]
          have wi : IntKind.i64.wrap ((i : Int) + 1) = ((i + 1 : Nat) : Int) := wrap_i64 (by omega) (by omega)
          have hX2 : leX (some g) h h2 := ⟨Nat.le_trans hX.1 hle2.1, fun q hq hne => (hle2.2 q (Nat.lt_of_lt_of_le hq hX.1)).trans (hX.2 q hq hne)⟩
          refine ifK_intro (fun c3 => ?_) (fun c3 => ?_)
          · have c3' := of_decide_eq_true c3
            have st2 := st.mono hle2
            have sx2 := sx.mono hle2
            have sy2 := sy.mono hle2
            obtain ⟨h3, s3a, s3b, s3c, s3d, s3e⟩ := st2.set (i := k + 1) (by omega) sy2
            obtain ⟨h4, s4a, s4b, s4c, s4d, s4e⟩ := s3b.set (i := k) (by rw [List.length_set]; omega) (sx2.leX s3c)
            have hle4 : H0.le h4 := s4e (s3e (hle.trans hle2) hg) hg
            obtain ⟨gx, ox, cx, rfl, hxx, _⟩ := id sx
            obtain ⟨gy, oy, cy, rfl, hyy, _⟩ := id sy
            simp only [go_sem, Nat.reduceBEq, Array.reduceGetElem?, ↓reduceIte, t0, t1, t2, t3, t8, t9, load_mono hle2 lx, load_mono hle2 ly, e1, e2, e3, Nat.zero_add, s3a, s4a, pl131]
            have hMk : ∀ t, ((M.set (k + 1) b).set k a)[t]? = if t = k then some a else if t = k + 1 then some b else M[t]? := by
              intro t
              rw [List.getElem?_set, List.getElem?_set, List.length_set]
              by_cases h1 : t = k
              · subst h1
                simp [show t < M.length by omega]
              · by_cases h2 : t = k + 1
                · subst h2
                  simp [show k + 1 < M.length by omega]
                · simp [h1, h2, Ne.symm h1, Ne.symm h2]
            have hperm : ((M.set (k + 1) b).set k a).Perm L := by
              have hka := (List.getElem?_eq_some_iff.1 ha)
              have hkb := (List.getElem?_eq_some_iff.1 hb)
              obtain ⟨ka, ka2⟩ := hka
              obtain ⟨kb, kb2⟩ := hkb
              have := @List.set_set_perm _ M _ _ ka kb
              rw [ka2, kb2] at this
              exact this.trans hp
            refine ⟨k, Nat.lt_succ_self k, _, rfl, by omega, hle4, ⟨Nat.le_trans hX2.1 (Nat.le_trans s3c.1 s4c.1), fun q hq hne => by rw [s4c.2 q (by have := hX2.1; omega) hne, s3c.2 q (by have := hX2.1; omega) hne, hX2.2 q hq hne]⟩, hperm, s4b, ?_, ?_⟩
            · intro t h1 h2 u v hu hv
              rw [hMk] at hu hv
              by_cases htk : t = k
              · subst htk
                rw [if_pos rfl] at hu
                rw [if_neg (by omega), if_pos rfl] at hv
                injection hu with hu
                injection hv with hv
                subst hu hv
                exact c3'
              · by_cases htk1 : t = k + 1
                · subst htk1
                  rw [if_neg (by omega), if_pos rfl] at hu
                  rw [if_neg (by omega), if_neg (by omega)] at hv
                  injection hu with hu
                  subst hu
                  exact hs2 (by omega) (by omega) _ _ (by rw [Nat.add_sub_cancel]; exact hb) hv
                · rw [if_neg htk, if_neg htk1] at hu
                  rw [if_neg (by omega), if_neg (by omega)] at hv
                  exact hs t h1 (by omega) u v hu hv
            · intro h1 h2 u v hu hv
              rw [hMk] at hu hv
              rw [if_neg (by omega), if_neg (by omega)] at hu
              rw [if_neg (by omega), if_pos rfl] at hv
              injection hv with hv
              subst hv
              exact hs (k - 1) (by omega) (by omega) u b hu (by rw [show k - 1 + 1 = k by omega]; exact hb)
          · have c3' := of_decide_eq_false c3
            simp only [go_sem, Nat.reduceBEq, t0, t1, t2, t3, t8, wi]
            refine ⟨i + 1, by omega, M, rfl, by omega, by omega, hle.trans hle2, hX2, hp, st.mono hle2, fun t ht => ?_⟩
            by_cases htk : t = k
            · subst htk
              intro u v hu hv
              rw [hb] at hu
              rw [ha] at hv
              injection hu with hu
              injection hv with hv
              subst hu hv
              exact anti _ haL _ hbL hab c3'
            · exact hs t (by omega) (by omega)
        · have c2' := of_decide_eq_false c2
          have wi : IntKind.i64.wrap ((i : Int) + 1) = ((i + 1 : Nat) : Int) := wrap_i64 (by omega) (by omega)
          simp only [go_sem, Nat.reduceBEq, Array.reduceGetElem?, ↓reduceIte, t0, t1, t2, t3, t8, c2, wi]
          exact ⟨i + 1, by omega, M, rfl, by omega, by omega, hle, hX, hp, st, fun t ht => hs t (by omega) (by omega)⟩
      · simp only [go_sem, Nat.reduceBEq, t0, t1, t2, t3, t8]
        exact ⟨M, hle, hX, hp, st, fun k h1 h2 => hs k (by omega), fun h1 h2 => by omega⟩
    · have c1' := of_decide_eq_false c1
      simp only [go_sem]
      exact ⟨hle, hX, M, hp, fun k a b ha hb => hs k (by have := (List.getElem?_eq_some_iff.1 hb).1; have := hp.length_eq; omega) a b ha hb, st⟩
  · simp only [go_sem, Nat.reduceBEq]
    exact ⟨L, rfl, hpos, hle0, ⟨Nat.le_refl _, fun _ _ _ => rfl⟩, List.Perm.refl _, s, fun k hk => by omega⟩
theorem c_pdq {H0 h : GH} {g c K : Nat} {cv : Value} {L : List (List Rat)} (lim : Int) (cmp : List Rat → List Rat → Int) (hle0 : H0.le h) (hg : H0.n ≤ g) (s : Srt h g L) (hpos : 0 < L.length) (hlen : L.length ≤ 12) (nd : L.Nodup)
    (anti : ∀ a ∈ L, ∀ b ∈ L, a ≠ b → ¬ cmp a b < 0 → cmp b a < 0)
    (hK : ∀ a ∈ L, ∀ b ∈ L, a ≠ b → ∀ av bv h1, H0.le h1 → SzAt h1 av a → SzAt h1 bv b → ∃ r h', GCalls Tryz.prog gE K #[av, bv, cv] h1 r h' ∧ h1.le h' ∧ r = .int .i64 (cmp a b)) :
    ∃ r h', GCalls Tryz.prog gE 99 #[.slice (some ⟨g, 0, none⟩) L.length c, .int .i64 0, .int .i64 L.length, .int .i64 lim, .func (.func K) #[] #[cv]] h r h' ∧ H0.le h' ∧ leX (some g) h h' ∧ ∃ L', L'.Perm L ∧ (∀ k, Adj cmp L' k) ∧ Srt h' g L' := by
  have w1 : IntKind.i64.wrap ((L.length : Int) - 0) = L.length := by rw [Int.sub_zero]; exact wrap_i64 (by omega) (by omega)
  have k1 : (L.length : Int) ≤ 12 := by omega
  refine gcalls_in (pl := pl99) [] mixed Tryz.func99 rfl rfl (by exact ok99) ?_
  simp only [go_sem]
  refine loopK_unroll ?_
  simp only [go_sem, Nat.reduceBEq, w1, k1]
  refine callK_intro (c_isort cmp hle0 hg s hpos (by omega) nd anti hK) ?_
  rintro r1 h1 ⟨hle1, hX1, L', p1, p2, p3⟩
  simp only [go_sem]
  exact ⟨hle1, hX1, L', p1, p2, p3⟩
theorem c_sortFunc {H0 h : GH} {g c K : Nat} {cv : Value} {L : List (List Rat)} (cmp : List Rat → List Rat → Int) (hle0 : H0.le h) (hg : H0.n ≤ g) (s : Srt h g L) (hpos : 0 < L.length) (hlen : L.length ≤ 12) (nd : L.Nodup)
    (anti : ∀ a ∈ L, ∀ b ∈ L, a ≠ b → ¬ cmp a b < 0 → cmp b a < 0)
    (hK : ∀ a ∈ L, ∀ b ∈ L, a ≠ b → ∀ av bv h1, H0.le h1 → SzAt h1 av a → SzAt h1 bv b → ∃ r h', GCalls Tryz.prog gE K #[av, bv, cv] h1 r h' ∧ h1.le h' ∧ r = .int .i64 (cmp a b)) :
    ∃ r h', GCalls Tryz.prog gE 59 #[.slice (some ⟨g, 0, none⟩) L.length c, .func (.func K) #[] #[cv]] h r h' ∧ H0.le h' ∧ leX (some g) h h' ∧ ∃ L', L'.Perm L ∧ (∀ k, Adj cmp L' k) ∧ Srt h' g L' := by
  have w1 : IntKind.u64.wrap (L.length : Int) = L.length := wrap_u64 (by omega) (by omega)
  refine gcalls_in (pl := noPl) [] mixed Tryz.func59 rfl rfl (by exact ok59) ?_
  simp only [go_sem, Nat.reduceBEq, w1]
  refine callK_intro (c_Len L.length (by omega)) ?_
  rintro _ h1 ⟨hle1, lim, rfl, _⟩
  simp only [go_sem, Nat.reduceBEq]
  refine callK_intro (c_pdq lim cmp (hle0.trans hle1) hg (s.mono hle1) hpos hlen nd anti hK) ?_
  rintro r2 h2 ⟨hle2, hX2, L', p1, p2, p3⟩
  simp only [go_sem]
  exact ⟨hle2, ⟨Nat.le_trans hle1.1 hX2.1, fun q hq hne => (hX2.2 q (Nat.lt_of_lt_of_le hq hle1.1) hne).trans (hle1.2 q hq)⟩, L', p1, p2, p3⟩
theorem c_col2 {h : GH} {pv av bv : Value} {p : List Int} {a b : List Rat} {bx : Nat} (hP : Pr p) (u : Uno h bx pv) (hp : PrAt h pv p) (s : SzAt h av a) (t : SzAt h bv b) (hl : a.length = p.length) (hl2 : b.length = p.length) (ha : SmL a) (hb : SmL b) (f : Fit 9999999 p (subL a b)) (hd : Dec p (subL a b)) :
    ∃ r h', GCalls Tryz.prog gE 60 #[av, bv, .pointer (some ⟨bx, 0, none⟩)] h r h' ∧ h.le h' ∧ r = .int .i64 (sgn p (subL a b)) := by
  obtain ⟨pg, po, pc, rfl, hp'⟩ := id hp
  refine gcalls_in (pl := noPl) [.tmp 5] mixed Tryz.func60 rfl rfl (by exact ok60) ?_
  simp only [go_sem, Nat.reduceBEq, u.l]
  refine callK_intro (c_order hP hp s t hl hl2 ha hb f hd) ?_
  rintro _ h1 ⟨hle1, rfl⟩
  simp only [go_sem]
  exact hle1
end Go.Proofs.Gh
namespace Go.Proofs.Gh
open Go Go.Proofs Go.Proofs.Zz
set_option maxRecDepth 10000
set_option linter.unusedSimpArgs false
/-- notes that grow: a row in one block -/
def Nts (H0 h : GH) (v : Value) (L : List (List Rat)) (g : Nat) : Prop := ∃ c, v = .slice (some ⟨g, 0, none⟩) L.length c ∧ Srt h g L ∧ H0.n ≤ g ∧ (c = unk + 1 ∨ c = L.length)
theorem Nts.mono {H0 h h' : GH} {v : Value} {L : List (List Rat)} {g : Nat} (s : Nts H0 h v L g) (hl : h.le h') : Nts H0 h' v L g := by
  obtain ⟨c, e, s, h1, h2⟩ := s
  exact ⟨c, e, s.mono hl, h1, h2⟩
theorem Srt.at {h : GH} {g c : Nat} {L : List (List Rat)} (s : Srt h g L) (hc : c = unk + 1 ∨ c = L.length) (hlen : L.length ≤ 100000) : LsAt h (.slice (some ⟨g, 0, none⟩) L.length c) L := by
  obtain ⟨h1, vs, h2, h3, h4⟩ := s
  refine ⟨g, 0, c, vs, rfl, row_at h1 h2 (one_len vs) ?_, h3, fun i l hi => ?_⟩
  · rw [List.length_map, h3]
    rcases hc with rfl | rfl
    · exact ⟨by simp only [unk]; omega, fun _ => .inr rfl⟩
    · exact ⟨Nat.le_refl _, fun h => by simp only [unk] at h; omega⟩
  · obtain ⟨x, e1, e2⟩ := h4 i l hi
    exact ⟨x, e1, e2.at⟩
theorem one_cells (vs : List Value) : (vs.map fun x => [x]).flatten = vs := by
  induction vs with
  | nil => rfl
  | cons a l ih => simp [ih]
theorem Nts.app {H0 h : GH} {v y : Value} {L : List (List Rat)} {l : List Rat} {g : Nat} (s : Nts H0 h v L g) (hle : H0.le h) (hpos : 0 < L.length) (hlen : L.length ≤ 100000) (sy : SzN h y l (some g)) :
    ∃ v' h' g', gAppend Tryz.prog 34 34 v (.slice (some ⟨h.n, 0, none⟩) 1 1) (h.alloc ⟨[y], true, false⟩) = some (v', h') ∧ H0.le h' ∧ Nts H0 h' v' (L ++ [l]) g' ∧ leX (some g) h h' := by
  obtain ⟨c, rfl, ⟨h1, vs, h2, h3, h4⟩, hg, hc⟩ := s
  have hb1 : (h.alloc ⟨[y], true, false⟩).b g = Row (vs.map fun x => [x]) := (alloc_b_lt _ _ h1).trans h2
  have h1' : g < (h.alloc ⟨[y], true, false⟩).n := Nat.lt_succ_of_lt h1
  have hold : (h.alloc ⟨[y], true, false⟩).load g 0 (L.length * 1) = some vs := load_at (cells := vs) (ro := false) h1' (by rw [hb1, Row, one_cells]) (by omega) (by rw [List.drop_zero, Nat.mul_one, ← h3, List.take_length])
  have fin : ∀ h', leX (some g) h h' → h'.n = h.n + 2 → h'.b (h.n + 1) = ⟨vs ++ [y], true, false⟩ → H0.le h' ∧ Nts H0 h' (.slice (some ⟨h.n + 1, 0, none⟩) (L.length + 1) (unk + 1)) (L ++ [l]) (h.n + 1) ∧ leX (some g) h h' := by
    intro h' hX hn hb
    have fresh : ∀ {x l}, SzN h x l (some g) → SzN h' x l (some (h.n + 1)) := by
      rintro x l ⟨k, oo, c, e, kk, kn⟩
      have hgl := kk.lt
      refine ⟨k, oo, c, e, kk.leX hX kn, fun hh => ?_⟩
      injection hh with hh
      omega
    refine ⟨⟨Nat.le_trans hle.1 hX.1, fun q hq => ?_⟩, ⟨unk + 1, by simp, ⟨by omega, vs ++ [y], by rw [hb, Row, one_cells], by simp [h3], fun i m hi => ?_⟩, by have := hle.1; omega, .inl rfl⟩, hX⟩
    · rw [hX.2 q (Nat.lt_of_lt_of_le hq hle.1) (fun hh => by injection hh with hh; omega), hle.2 q hq]
    · rcases Nat.lt_or_ge i L.length with hlt | hge
      · rw [List.getElem?_append_left hlt] at hi
        obtain ⟨x, k1, k2⟩ := h4 i m hi
        exact ⟨x, by rw [List.getElem?_append_left (by omega)]; exact k1, fresh k2⟩
      · rw [List.getElem?_append_right hge] at hi
        have hi0 : i - L.length = 0 := by
          rcases Nat.eq_zero_or_pos (i - L.length) with h | h
          · exact h
          · rw [List.getElem?_eq_none (by simp; omega)] at hi; cases hi
        rw [hi0, List.getElem?_cons_zero] at hi
        injection hi with hi
        subst hi
        exact ⟨y, by rw [List.getElem?_append_right (by omega), show i - vs.length = 0 by omega]; rfl, fresh sy⟩
  rcases hc with rfl | rfl
  · have hap := append_unk (P := Tryz.prog) (h := h.alloc ⟨[y], true, false⟩) (g := g) (o := 0) (len := L.length) (g2 := h.n) (o2 := 0) (c2 := 1) (n := 1) (old := vs) (t := 34) ty_sk34 ty_tk32 ty_zk32 rfl ty_ce32 (by decide) (by rw [Nat.mul_one]; exact alloc_load1) (by decide) rfl (by simp [sy.one]) (by rw [hb1]; rfl) hold (by omega) (by rw [ty_be32]; omega)
    exact ⟨_, _, _, hap, fin _ ⟨Nat.le_succ_of_le (Nat.le_succ _), fun q hq hne => by
      rw [alloc_b_lt _ _ (show q < ((h.alloc ⟨[y], true, false⟩).upd g dead).n from Nat.lt_succ_of_lt hq), upd_ne _ _ (by rintro rfl; exact hne rfl), alloc_b_lt _ _ hq]⟩ rfl (alloc_self ((h.alloc ⟨[y], true, false⟩).upd g dead) _)⟩
  · have hap := append_over (P := Tryz.prog) (h := h.alloc ⟨[y], true, false⟩) (g := g) (o := 0) (len := L.length) (c := L.length) (g2 := h.n) (o2 := 0) (c2 := 1) (n := 1) (old := vs) (t := 34) ty_sk34 ty_tk32 ty_zk32 rfl ty_ce32 (by rw [Nat.mul_one]; exact alloc_load1) (by decide) rfl (by simp [sy.one]) (by simp only [unk]; omega) (by omega) (by rw [if_neg (by omega)]; exact hold) (by omega) (by rw [ty_be32]; omega)
    exact ⟨_, _, _, hap, fin _ ⟨Nat.le_succ_of_le (Nat.le_succ _), fun q hq hne => by
      rw [alloc_b_lt _ _ (Nat.lt_succ_of_lt hq), alloc_b_lt _ _ hq]⟩ rfl (alloc_self (h.alloc ⟨[y], true, false⟩) _)⟩
/-- the notes that the model collects, before they are sorted -/
def colF (p : List Int) (l : List (List Rat)) : List (List Rat) := l.foldl (fun N x => if redQ p x ≠ subL (redQ p x) (redQ p x) ∧ redQ p x ∉ N then N ++ [redQ p x] else N) [oct p.length]
theorem colF_snoc (p : List Int) (l : List (List Rat)) (x : List Rat) : colF p (l ++ [x]) = if redQ p x ≠ subL (redQ p x) (redQ p x) ∧ redQ p x ∉ colF p l then colF p l ++ [redQ p x] else colF p l := by unfold colF; rw [List.foldl_append]; rfl
theorem colF_len (p : List Int) : ∀ n (l : List (List Rat)), l.length = n → 1 ≤ (colF p l).length ∧ (colF p l).length ≤ n + 1 := by
  intro n
  induction n with
  | zero => intro l hl; rw [List.length_eq_zero_iff.1 hl]; simp [colF]
  | succ n ih =>
    intro l hl
    have hne : l ≠ [] := by rintro rfl; simp at hl
    obtain ⟨m, x, rfl⟩ : ∃ m x, l = m ++ [x] := ⟨_, _, (List.dropLast_concat_getLast hne).symm⟩
    have := ih m (by simpa using hl)
    rw [colF_snoc]
    split
    · simp; omega
    · omega
/-- a size that the model's collect takes -/
structure XOk (p : List Int) (x : List Rat) : Prop where
  fl : FlOk p x
  ti : ∀ q ∈ x, Ti q
  tf : Ti (flQ p x : Rat)
  rt : ∀ q ∈ redQ p x, Ti q
theorem subL_self (a : List Rat) : subL a a = List.replicate a.length 0 := by
  unfold subL
  induction a with
  | nil => rfl
  | cons x a ih => rw [List.zipWith_cons_cons, ih, Rat.sub_self]; rfl
theorem redQ_length {p : List Int} {x : List Rat} (h : 0 < x.length) : (redQ p x).length = x.length := by simp [redQ, addL, scaleL, oct_length h]
theorem colF_pre (p : List Int) (l : List (List Rat)) (i : Nat) : ∃ t, colF p l = colF p (l.take i) ++ t := by
  have key : ∀ (m k : List (List Rat)), ∃ t, colF p (m ++ k) = colF p m ++ t := by
    intro m k
    induction k generalizing m with
    | nil => exact ⟨[], by simp⟩
    | cons x k ih =>
      obtain ⟨t, ht⟩ := ih (m ++ [x])
      rw [List.append_assoc, List.singleton_append] at ht
      rw [ht, colF_snoc]
      split
      · exact ⟨redQ p x :: t, by simp⟩
      · exact ⟨t, rfl⟩
  have := key (l.take i) (l.drop i)
  rwa [List.take_append_drop] at this
theorem leX_upd {h : GH} {k : Nat} {X : GB} : Gh.leX (some k) h (h.upd k X) := ⟨Nat.le_refl _, fun q _ hk => upd_ne _ _ (fun e => hk (by rw [e]))⟩
theorem SzN.upd {h : GH} {v : Value} {l : List Rat} {o : Option Nat} (s : SzN h v l o) {k : Nat} {X : GB} (d : Duo h k (.slice none 0 0) (.slice none 0 0)) (hne : l ≠ []) : SzN (h.upd k X) v l o := by
  obtain ⟨g, oo, c, e, s, hg⟩ := s
  refine ⟨g, oo, c, e, ?_, hg⟩
  refine SlAt.leX leX_upd s ?_
  rintro hh
  injection hh with hh
  subst hh
  obtain ⟨q, l', rfl⟩ : ∃ q l', l = q :: l' := List.exists_cons_of_ne_nil hne
  have hl := s.load (i := 0) (x := rc q) rfl
  unfold GH.load at hl
  rw [d.b] at hl
  split at hl
  · rename_i hc
    simp only [Nat.zero_mul, Nat.add_zero, List.length_cons, List.length_nil] at hc
    have : oo = 0 := by omega
    subst this
    simp [rc] at hl
  · cases hl
theorem alloc_store1s {h : GH} {a : Value} {p : Option Addr} {n c : Nat} : (h.alloc ⟨[a], true, false⟩).store h.n 0 [.slice p n c] = some (h.alloc ⟨[.slice p n c], true, false⟩) := by
  rw [cells_store (h := h.alloc ⟨[a], true, false⟩) (g := h.n) (old := [a]) (vs := [.slice p n c]) (Nat.lt_succ_self _) (alloc_self _ _) rfl rfl, alloc_upd]
theorem c_lCollect {h : GH} {pv ov lv : Value} {p : List Int} {l : List (List Rat)} (hP : Pr p) (hp : PrAt h pv p) (ho : SzAt h ov (oct p.length)) (hl : LsE h lv l) (hlen : l.length ≤ 11) (hx : ∀ x ∈ l, XOk p x)
    (hnd : (colF p l).Nodup) (hsm : ∀ a ∈ colF p l, a.length = p.length ∧ SmL a) (hpair : ∀ a ∈ colF p l, ∀ b ∈ colF p l, a ≠ b → Fit 9999999 p (subL a b) ∧ Dec p (subL a b))
    (anti : ∀ a ∈ colF p l, ∀ b ∈ colF p l, a ≠ b → ¬ sgn p (subL a b) < 0 → sgn p (subL b a) < 0) :
    ∃ r h', GCalls Tryz.prog gE 16 #[pv, ov, lv] h r h' ∧ h.le h' ∧ ∃ L', L'.Perm (colF p l) ∧ (∀ k, Adj (fun a b => sgn p (subL a b)) L' k) ∧ ScAt h' r p L' := by
  obtain ⟨pg, po, pc, rfl, hp'⟩ := id hp
  obtain ⟨og, oo, oc, rfl, ho'⟩ := id ho
  obtain ⟨lp, lc', rfl, hlf⟩ := hl.form
  have hpl := hP.len
  obtain ⟨H, hH⟩ : ∃ H, (h.alloc ⟨[.slice (some ⟨pg, po, none⟩) p.length pc], true, false⟩).alloc ⟨[.slice none 0 0, .slice none 0 0], true, false⟩ = H := ⟨_, rfl⟩
  have uH : Uno H h.n (.slice (some ⟨pg, po, none⟩) p.length pc) := by rw [← hH]; exact (Uno.new _ _).mono (GH.le_alloc _ _)
  have dH : Duo H (h.n + 1) (.slice none 0 0) (.slice none 0 0) := by rw [← hH]; exact Duo.new _ _ _
  have hle0 : h.le H := by rw [← hH]; exact (GH.le_alloc _ _).trans (GH.le_alloc _ _)
  have hHn : H.n = h.n + 2 := by rw [← hH]; rfl
  have N0 : Nts H (H.alloc ⟨[.slice (some ⟨og, oo, none⟩) (oct p.length).length oc], true, false⟩) (.slice (some ⟨H.n, 0, none⟩) 1 1) (colF p (l.take 0)) H.n := by
    refine ⟨1, rfl, ⟨Nat.lt_succ_self _, [.slice (some ⟨og, oo, none⟩) (oct p.length).length oc], alloc_self _ _, rfl, fun i m hi => ?_⟩, Nat.le_refl _, .inr rfl⟩
    have : colF p (l.take 0) = [oct p.length] := rfl
    rw [this] at hi
    match i with
    | 0 =>
      injection hi with hi
      subst hi
      refine ⟨_, rfl, og, oo, oc, rfl, (ho'.mono hle0).mono (GH.le_alloc _ _), ?_⟩
      intro hh
      injection hh with hh
      have := (ho'.mono hle0).lt
      omega
    | i + 1 => simp at hi
  refine gcalls_in (pl := pl16) [.cell 6 36] mixed Tryz.func16 rfl rfl (by exact ok16) ?_
  simp only [go_sem, Nat.reduceBEq, Nat.reduceLeDiff, Nat.reduceLT, ↓reduceIte, hH]
  refine loopK_inv (α := Nat) (fun i => l.length - i) (fun i ts g' => ∃ g, ts 1 = .slice (some ⟨og, oo, none⟩) (oct p.length).length oc ∧ ts 3 = .pointer (some ⟨h.n, 0, none⟩) ∧ ts 6 = .pointer (some ⟨h.n + 1, 0, none⟩) ∧ ts 14 = .slice lp l.length lc' ∧ ts 15 = .int .i64 l.length ∧ ts 16 = .int .i64 i ∧ i ≤ l.length ∧ H.le g' ∧ Nts H g' (ts 7) (colF p (l.take i)) g) ?_ (a0 := 0) ?_
  · rintro i ts g' ⟨g, t1, t3, t6, t14, t15, t16, hi, hle, hN⟩
    have uG := uH.mono hle
    simp only [go_sem, t15, t16]
    refine ifK_intro (fun c1 => ?_) (fun c1 => ?_)
    · have c1' := of_decide_eq_true c1
      obtain ⟨x, hxx⟩ : ∃ q, l[i]? = some q := ⟨_, List.getElem?_eq_getElem (by omega)⟩
      have xo := hx x (List.mem_of_getElem? hxx)
      have hxl := xo.fl.fit.len
      obtain ⟨lg, lo, xv, rfl, l1, sx, _⟩ := hlf i x hxx
      have l1 := load_mono (hle0.trans hle) l1
      have wi : IntKind.i64.wrap ((i : Int) + 1) = ((i + 1 : Nat) : Int) := wrap_i64 (by omega) (by omega)
      have hrl : (redQ p x).length = x.length := redQ_length (by omega)
      simp only [go_sem, Nat.reduceBEq, ↓reduceIte, t1, t3, t14, t16, c1', l1, uG.l]
      refine callK_intro (c_lReduce hP ((hp.mono hle0).mono hle) ((sx.mono hle0).mono hle) ((ho.mono hle0).mono hle) xo.fl xo.ti xo.tf (fun q hq => (xo.rt q hq).sm)) ?_
      rintro _ h2 ⟨hle2, rv2, rfl, hrv⟩
      have hN2 := hN.mono hle2
      obtain ⟨rg, ro, rcc, rfl, hr', hrg⟩ := id hrv
      have u3 := Uno.new h2 (.slice (some ⟨rg, ro, none⟩) (redQ p x).length rcc)
      have le3 := GH.le_alloc h2 ⟨[.slice (some ⟨rg, ro, none⟩) (redQ p x).length rcc], true, false⟩
      have u2 := uG.mono hle2
      simp only [go_sem, Nat.reduceBEq, Array.reduceGetElem?, ↓reduceIte, alloc_store1s, u3.l, pl16]
      have hrm := hrv.at.mono le3
      have hrn : redQ p x ≠ [] := by rw [← List.length_pos_iff]; omega
      refine callK_intro (c_less hrm hrm hrn (by omega) rfl xo.rt xo.rt (fun q hq => by
        rw [subL_self] at hq; rw [(List.mem_replicate.1 hq).2]; exact SmR.zero)) ?_
      rintro zv h4 ⟨hle4, hzv⟩
      have u4 := u3.mono hle4
      obtain ⟨zg, zo, zc, rfl, _, _⟩ := id hzv
      simp only [go_sem, Nat.reduceBEq, Array.reduceGetElem?, u4.l]
      refine callK_intro (c_Equal (hrm.mono hle4) hzv.at (by omega)) ?_
      rintro _ h5 ⟨hle5, rfl⟩
      have u5 := u4.mono hle5
      have hleB : g'.le h5 := ((hle2.trans le3).trans hle4).trans hle5
      have hN5 := hN.mono hleB
      have esn : colF p (l.take (i + 1)) = if redQ p x ≠ subL (redQ p x) (redQ p x) ∧ redQ p x ∉ colF p (l.take i) then colF p (l.take i) ++ [redQ p x] else colF p (l.take i) := by
        rw [List.take_add_one, hxx]; exact colF_snoc p _ x
      have hcl := colF_len p _ (l.take i) rfl
      have htl : (l.take i).length ≤ 11 := by rw [List.length_take]; omega
      by_cases hz : redQ p x = subL (redQ p x) (redQ p x)
      · simp only [go_sem, Nat.reduceBEq, Array.reduceGetElem?, ↓reduceIte, decide_eq_true hz, t1, t3, t6, t14, t15, t16, wi]
        exact ⟨i + 1, by omega, g, rfl, by omega, hle.trans hleB, by rw [esn, if_neg (fun hh => hh.1 hz)]; exact hN5⟩
      · obtain ⟨gc, gv, gs, gn, gcc⟩ := id hN5
        simp only [go_sem, Nat.reduceBEq, Array.reduceGetElem?, decide_eq_false hz, List.map_toArray, List.map_cons, List.map_nil, gv]
        refine callK_intro (c_contLs (a := redQ p x) 58 (.inl (gs.at gcc (by omega))) (by omega) (fun b hb yv h6 hle6 sy => c_col1 (u5.mono hle6) (((hrm.mono hle4).mono hle5).mono hle6) sy (by omega))) ?_
        rintro _ h6 ⟨hle6, rfl⟩
        have u6 := u5.mono hle6
        by_cases hm : redQ p x ∈ colF p (l.take i)
        · simp only [go_sem, Nat.reduceBEq, Array.reduceGetElem?, ↓reduceIte, decide_eq_true hm, t1, t3, t6, t14, t15, t16, wi]
          exact ⟨i + 1, by omega, g, rfl, by omega, (hle.trans hleB).trans hle6, by rw [esn, if_neg (fun hh => hh.2 hm)]; exact hN5.mono hle6⟩
        · simp only [go_sem, Nat.reduceBEq, Nat.reduceLeDiff, Nat.reduceLT, Array.reduceGetElem?, ↓reduceIte, decide_eq_false hm, u6.l]
          obtain ⟨v', h', g2, e1, e2, e3, e4⟩ := (hN5.mono hle6).app ((hle.trans hleB).trans hle6) (by omega) (by omega) ((((hrv.mono le3).mono hle4).mono hle5).mono hle6 |>.n (o := some g) (fun k hk => by injection hk with hk; subst hk; obtain ⟨_, _, ⟨q, _⟩, _, _⟩ := hN; exact q))
          rw [gv] at e1
          simp only [go_sem, Nat.reduceBEq, t1, t3, t6, t14, t15, t16, wi, gv, e1]
          exact ⟨i + 1, by omega, g2, rfl, by omega, e2, by rw [esn, if_pos ⟨hz, hm⟩]; exact e3⟩
    · have c1' := of_decide_eq_false c1
      obtain rfl : i = l.length := by omega
      rw [List.take_length] at hN
      obtain ⟨gc, gv, gs, gn, gcc⟩ := hN
      simp only [go_sem, Nat.reduceBEq, t3, c1, List.map_toArray, List.map_cons, List.map_nil, gv]
      have hcl := colF_len p _ l rfl
      refine callK_intro (c_sortFunc (H0 := H) (fun a b => sgn p (subL a b)) hle gn gs (by omega) (by omega) hnd anti (fun a ha b hb hab av bv h1 hle1 sa sb => c_col2 hP (uH.mono hle1) ((hp.mono hle0).mono hle1) sa sb (hsm a ha).1 (hsm b hb).1 (hsm a ha).2 (hsm b hb).2 (hpair a ha b hb hab).1 (hpair a ha b hb hab).2)) ?_
      rintro r5 h5 ⟨hle5, hX5, L', p1, p2, p3⟩
      have u5 := uH.mono hle5
      have d5 := dH.mono hle5
      have hst := d5.s2 (v := .slice (some ⟨pg, po, none⟩) p.length pc) (w := .slice (some ⟨g, 0, none⟩) (colF p l).length gc) rfl rfl
      have dd : Duo (h5.upd (h.n + 1) ⟨[.slice (some ⟨pg, po, none⟩) p.length pc, .slice (some ⟨g, 0, none⟩) (colF p l).length gc], true, false⟩) (h.n + 1) (.slice (some ⟨pg, po, none⟩) p.length pc) (.slice (some ⟨g, 0, none⟩) (colF p l).length gc) := Duo.up d5.lt
      simp only [go_sem, Nat.reduceBEq, Nat.reduceAdd, Nat.reduceLeDiff, ↓reduceIte, t3, t6, gv, u5.l, hst, dd.l2]
      refine ⟨(hle0.trans hle5).upd (by omega) _, L', p1, p2, _, _, rfl, ⟨_, _, _, rfl, ?_⟩, ?_⟩
      · exact SlAt.leX leX_upd ((hp'.mono hle0).mono hle5) (fun hh => by injection hh with hh; have := hp'.lt; omega)
      · obtain ⟨q1, vs, q2, q3, q4⟩ := p3
        have hgn : g ≠ h.n + 1 := by omega
        rw [← p1.length_eq]
        refine Srt.at (g := g) ⟨q1, vs, (upd_ne _ _ hgn).trans q2, q3, fun i m hi => ?_⟩ (by rw [p1.length_eq]; exact gcc) (by rw [p1.length_eq]; omega)
        obtain ⟨x, k1, k2⟩ := q4 i m hi
        refine ⟨x, k1, k2.upd d5 ?_⟩
        have := (hsm m (p1.mem_iff.1 (List.mem_of_getElem? hi))).1
        rw [← List.length_pos_iff]; omega
  · simp only [go_sem, Nat.reduceBEq]
    exact ⟨H.n, Nat.zero_le _, GH.le_alloc _ _, N0⟩
end Go.Proofs.Gh
namespace Go.Proofs.Gh
open Go Go.Proofs Go.Proofs.Zz
set_option maxRecDepth 10000
set_option linter.unusedSimpArgs false
/-- all that the model's collect asks of a list of sizes -/
structure ColOk (p : List Int) (l : List (List Rat)) : Prop where
  len : l.length ≤ 11
  x : ∀ x ∈ l, XOk p x
  nd : (colF p l).Nodup
  sm : ∀ a ∈ colF p l, a.length = p.length ∧ SmL a
  pair : ∀ a ∈ colF p l, ∀ b ∈ colF p l, a ≠ b → Fit 9999999 p (subL a b) ∧ Dec p (subL a b)
  anti : ∀ a ∈ colF p l, ∀ b ∈ colF p l, a ≠ b → ¬ sgn p (subL a b) < 0 → sgn p (subL b a) < 0
/-- a sorted scale -/
def Scl (p : List Int) (l N : List (List Rat)) : Prop := N.Perm (colF p l) ∧ ∀ k, Adj (fun a b => sgn p (subL a b)) N k
theorem c_lCollect' {h : GH} {pv ov lv : Value} {p : List Int} {l : List (List Rat)} (hP : Pr p) (hp : PrAt h pv p) (ho : SzAt h ov (oct p.length)) (hl : LsE h lv l) (k : ColOk p l) :
    ∃ r h', GCalls Tryz.prog gE 16 #[pv, ov, lv] h r h' ∧ h.le h' ∧ ∃ N, Scl p l N ∧ ScAt h' r p N := by
  obtain ⟨r, h', h1, h2, L', h3, h4, h5⟩ := c_lCollect hP hp ho hl k.len k.x k.nd k.sm k.pair k.anti
  exact ⟨r, h', h1, h2, L', ⟨h3, h4⟩, h5⟩
/-- the sizes that a world describes -/
def wSz (n : Nat) (xs : List Int) (i : Nat) : List Rat := szL n [xs[3 * i]?.getD 0, xs[3 * i + 1]?.getD 0, xs[3 * i + 2]?.getD 0]
def wList (b : Bool) (kd nm : Nat) (xs : List Int) : List (List Rat) :=
  if kd % 3 = 0 then mulL (scaleL (oct (prW b).length) (mkRat 1 (1 + nm % 9))) 1 (1 + nm % 9)
  else if kd % 3 = 1 then mulL (wSz (prW b).length xs 0) 0 (1 + nm % 9)
  else (List.range (min (1 + nm % 9) 8)).map (wSz (prW b).length xs)
theorem SzAt.upd {h : GH} {v : Value} {l : List Rat} (s : SzAt h v l) {k : Nat} {X : GB} (d : Duo h k (.slice none 0 0) (.slice none 0 0)) (hne : l ≠ []) : SzAt (h.upd k X) v l := by
  obtain ⟨g, oo, c, e, s⟩ := s
  have : SzN h v l none := ⟨g, oo, c, e, s, by simp⟩
  exact (this.upd d hne).at
theorem duo_load {h : GH} {k o : Nat} {x : Value} (d : Duo h k (.slice none 0 0) (.slice none 0 0)) (hl : h.load k o 1 = some [x]) : x = .slice none 0 0 := by
  unfold GH.load at hl
  rw [d.b] at hl
  split at hl
  · rename_i hc
    simp only [List.length_cons, List.length_nil] at hc
    match o, hc with
    | 0, _ => simp at hl; exact hl.symm
    | 1, _ => simp at hl; exact hl.symm
    | o + 2, hc => omega
  · cases hl
theorem ScAt.upd {h : GH} {v : Value} {p : List Int} {N : List (List Rat)} (s : ScAt h v p N) {k : Nat} {X : GB} (d : Duo h k (.slice none 0 0) (.slice none 0 0)) (hp : p ≠ []) (hN : N ≠ []) (hne : ∀ a ∈ N, a ≠ []) : ScAt (h.upd k X) v p N := by
  obtain ⟨pv, nv, e, ⟨g, o, c, e1, s1⟩, ⟨g2, o2, c2, vs, e2, s2, e3, e4⟩⟩ := s
  refine ⟨pv, nv, e, ⟨g, o, c, e1, SlAt.leX leX_upd s1 ?_⟩, ⟨g2, o2, c2, vs, e2, SlAt.leX leX_upd s2 ?_, e3, fun i l hi => ?_⟩⟩
  · intro hh
    injection hh with hh
    subst hh
    obtain ⟨x, l', rfl⟩ := List.exists_cons_of_ne_nil hp
    have hl := s1.load (i := 0) (x := [.int .i64 x]) rfl
    have := duo_load d hl
    cases this
  · intro hh
    injection hh with hh
    subst hh
    obtain ⟨a, l', rfl⟩ := List.exists_cons_of_ne_nil hN
    obtain ⟨x, k1, k2⟩ := e4 0 a rfl
    have hl := s2.load (i := 0) (x := [x]) (by simp [k1])
    have := duo_load d hl
    subst this
    obtain ⟨_, _, _, h, _⟩ := k2
    cases h
  · obtain ⟨x, k1, k2⟩ := e4 i l hi
    exact ⟨x, k1, k2.upd d (hne l (List.mem_of_getElem? hi))⟩
theorem Scl.nice {p : List Int} {l N : List (List Rat)} (hP : Pr p) (s : Scl p l N) (k : ColOk p l) : N ≠ [] ∧ N.length ≤ 12 ∧ ∀ a ∈ N, a.length = p.length ∧ a ≠ [] ∧ SmL a := by
  have h1 := colF_len p _ l rfl
  have h2 := s.1.length_eq
  have h3 := k.len
  have hpl := hP.len
  refine ⟨by rw [← List.length_pos_iff]; omega, by omega, fun a ha => ?_⟩
  have := k.sm a (s.1.mem_iff.1 ha)
  exact ⟨this.1, by rw [← List.length_pos_iff]; omega, this.2⟩
theorem Pr.ne {p : List Int} (h : Pr p) : p ≠ [] := by rcases h with rfl | rfl <;> simp
theorem c_Make {h : GH} {b : Bool} {kd nm : Nat} {xs : List Int} (hkd : kd < 256) (hnm : nm < 256) (hx : xs.length = 24) (hxs : ∀ x ∈ xs, -128 ≤ x ∧ x ≤ 127) (ok : ColOk (prW b) (wList b kd nm xs)) :
    ∃ r h', GCalls Tryz.prog gE 20 #[wV b kd nm xs] h r h' ∧ h.le h' ∧ ∃ N, Scl (prW b) (wList b kd nm xs) N ∧ ScAt h' r (prW b) N := by
  have hcl := wCells_length (b := b) (kd := kd) (nm := nm) hx
  have hP := prW_pr b
  have hpl := hP.len
  obtain ⟨H, hH⟩ : ∃ H, (h.alloc ⟨wCells b kd nm xs, true, false⟩).alloc ⟨[.slice none 0 0, .slice none 0 0], true, false⟩ = H := ⟨_, rfl⟩
  have wlt : h.n < H.n := by rw [← hH]; exact Nat.lt_succ_of_lt (Nat.lt_succ_self _)
  have wb : H.b h.n = ⟨wCells b kd nm xs, true, false⟩ := by rw [← hH, alloc_b_lt _ _ (Nat.lt_succ_self _), alloc_self]
  have dH : Duo H (h.n + 1) (.slice none 0 0) (.slice none 0 0) := by rw [← hH]; exact Duo.new _ _ _
  have hle0 : h.le H := by rw [← hH]; exact (GH.le_alloc _ _).trans (GH.le_alloc _ _)
  have hHn : H.n = h.n + 2 := by rw [← hH]; rfl
  have wl : H.load h.n 0 27 = some (wCells b kd nm xs) := load_at wlt wb (by omega) (by rw [List.drop_zero, ← hcl, List.take_length])
  have wl1 : H.load h.n 1 1 = some [.int .u8 kd] := load_one_at wlt wb rfl
  have wl2 : H.load h.n 2 1 = some [.int .u8 nm] := load_one_at wlt wb rfl
  have wl3 : ∀ i, i < 8 → H.load h.n (3 + i * 3) 3 = some [.int .i8 (xs[3 * i]?.getD 0), .int .i8 (xs[3 * i + 1]?.getD 0), .int .i8 (xs[3 * i + 2]?.getD 0)] := by
    intro i hi
    refine load_at wlt wb (by omega) ?_
    refine List.ext_getElem? fun j => ?_
    rw [List.getElem?_take, List.getElem?_drop]
    have hg : ∀ j : Nat, (wCells b kd nm xs)[3 + i * 3 + j]? = (xs[3 * i + j]?).map fun x => Value.int .i8 x := by
      intro j
      rw [show 3 + i * 3 + j = (3 * i + j) + 1 + 1 + 1 by omega]
      simp only [wCells, List.getElem?_cons_succ, List.getElem?_map]
    have hs : ∀ k : Nat, k < 24 → xs[k]? = some (xs[k]?.getD 0) := by
      intro k hk
      rw [List.getElem?_eq_getElem (by omega)]; rfl
    rw [hg]
    match j with
    | 0 => rw [if_pos (by decide), Nat.add_zero, hs (3 * i) (by omega)]; rfl
    | 1 => rw [if_pos (by decide), hs (3 * i + 1) (by omega)]; rfl
    | 2 => rw [if_pos (by decide), hs (3 * i + 2) (by omega)]; rfl
    | j + 3 => rw [if_neg (by omega), List.getElem?_eq_none (by simp)]
  have hxb : ∀ k : Nat, -128 ≤ xs[k]?.getD 0 ∧ xs[k]?.getD 0 ≤ 127 := by
    intro k
    cases hk : xs[k]? with
    | none => exact ⟨by decide, by decide⟩
    | some x => exact hxs x (List.mem_of_getElem? hk)
  have szb : ∀ i : Nat, ∀ a ∈ wSz (prW b).length xs i, Bd 2 16 a := by
    intro i a ha
    obtain ⟨j, hj, rfl⟩ := List.mem_map.1 ha
    have h9 : ∀ x : Int, (x.tmod 9).natAbs < 9 := fun x => by rw [Int.natAbs_tmod]; exact Nat.mod_lt _ (by decide)
    have hb : ∀ (x : Int), Bd 2 16 (szE j x) := by
      intro x
      have := h9 x
      unfold szE
      have hd : 1 + j % 2 * (if x < 0 then 1 else 0) = 1 ∨ 1 + j % 2 * (if x < 0 then 1 else 0) = 2 := by split <;> omega
      rcases hd with hd | hd <;> rw [hd]
      · exact ⟨x.tmod 9 * 2, (Rat.mkRat_mul_right (d := 1) (by decide)).symm, by omega⟩
      · exact ⟨x.tmod 9, rfl, by omega⟩
    exact hb _
  have szt : ∀ i : Nat, ∀ a ∈ wSz (prW b).length xs i, Ti a := fun i a ha => ⟨by have := (szb i a ha).num (by omega); omega, by have := (szb i a ha).den_le (by omega); omega⟩
  have szl : ∀ i : Nat, (wSz (prW b).length xs i).length = (prW b).length := by intro i; simp [wSz, szL]
  have e9 : IntKind.i64.wrap (((nm % 9 : Nat) : Int)) = ((nm % 9 : Nat) : Int) := wrap_i64 (by omega) (by omega)
  have e1 : IntKind.i64.wrap (1 + ((nm % 9 : Nat) : Int)) = ((1 + nm % 9 : Nat) : Int) := by rw [wrap_i64 (by omega) (by omega)]; omega
  obtain ⟨n, hn⟩ : ∃ n, 1 + nm % 9 = n := ⟨_, rfl⟩
  have hn9 : 1 ≤ n ∧ n ≤ 9 := by omega
  refine gcalls_in (pl := pl20) [.cell 2 36] mixed Tryz.func20 rfl rfl (by exact ok20) ?_
  simp only [go_sem, Nat.reduceBEq, ↓reduceIte, wV, wCells_one, hH, wl]
  refine callK_intro (c_primes hx) ?_
  rintro pv h1 ⟨hle1, hpv⟩
  obtain ⟨pg, po, pc, rfl, _⟩ := id hpv
  simp only [go_sem, Nat.reduceBEq, Int.reduceEq, ↓reduceIte, load_mono hle1 wl2, load_mono hle1 wl1, tmod_lit, e9, e1, hn]
  have octs : SmL (oct (prW b).length) := oct_sm _
  have hol : (oct (prW b).length).length = (prW b).length := oct_length (by omega)
  have one : ∀ a ∈ scaleL (oct (prW b).length) (mkRat 1 n), Bd n 1 a := by
    intro a ha
    obtain ⟨y, hy, rfl⟩ := List.mem_map.1 ha
    rcases List.mem_cons.1 hy with rfl | hy
    · rw [Rat.one_mul]; exact ⟨1, rfl, by decide⟩
    · rw [(List.mem_replicate.1 hy).2, Rat.zero_mul]; exact Bd.zero
  have one' : ∀ a ∈ scaleL (oct (prW b).length) (mkRat 1 n), Ti a := fun a ha => ⟨by have := (one a ha).num (by omega); omega, by have := (one a ha).den_le (by omega); omega⟩
  have mk1 : Bd n 1 (mkRat 1 n) := ⟨1, rfl, by decide⟩
  refine ifK_intro (fun c1 => ?_) (fun c1 => ?_)
  · have c1' : kd % 3 = 0 := by have := of_decide_eq_true c1; omega
    have hw : wList b kd nm xs = mulL (scaleL (oct (prW b).length) (mkRat 1 n)) 1 n := by rw [wList, if_pos c1', hn]
    rw [hw] at ok ⊢
    simp only [go_sem, Nat.reduceBEq]
    refine callK_intro (c_octave hP hpv) ?_
    rintro v2 h2 ⟨hle2, hv2⟩
    obtain ⟨_, _, _, rfl, _⟩ := id hv2
    simp only [go_sem, Nat.reduceBEq]
    refine callK_intro (c_octave hP (hpv.mono hle2)) ?_
    rintro v3 h3 ⟨hle3, hv3⟩
    obtain ⟨_, _, _, rfl, _⟩ := id hv3
    simp only [go_sem, Nat.reduceBEq]
    refine callK_intro (c_lOf (z := 1) (n := n) (by decide) (show Int.natAbs _ < _ by omega) (by omega) ⟨show Int.natAbs _ < _ by have := mk1.num (by omega); omega, show Int.natAbs _ < _ by have := mk1.den_le (by omega); omega⟩) ?_
    rintro _ h4 ⟨hle4, rfl⟩
    simp only [go_sem, Nat.reduceBEq]
    refine callK_intro (c_times (hv3.at.mono hle4) (by rw [← List.length_pos_iff]; omega) (by omega) (oct_ti _) ⟨by have := mk1.num (by omega); omega, by have := mk1.den_le (by omega); omega⟩ (fun q hq => (one' q hq).sm)) ?_
    rintro v5 h5 ⟨hle5, hv5⟩
    obtain ⟨_, _, _, rfl, _⟩ := id hv5
    simp only [go_sem, Nat.reduceBEq]
    have hmul := c_multiples (k0 := 1) (n := n) hv5.at (by rw [← List.length_pos_iff, scaleL, List.length_map]; omega) (by rw [scaleL, List.length_map]; omega) one' (by decide) (by omega) (fun i hi q hq => by
      obtain ⟨y, hy, rfl⟩ := List.mem_map.1 hq
      have hb := (one y hy).mul_int (by omega) (1 + (i : Int))
      have h1 := hb.num (by omega)
      have h2 := hb.den_le (by omega)
      exact ⟨show Int.natAbs _ < _ by omega, show Int.natAbs _ < _ by omega⟩)
    rw [show (1 : Int) + (n : Int) - 1 = (n : Int) by omega] at hmul
    refine callK_intro hmul ?_
    rintro v6 h6 ⟨hle6, o6, hv6⟩
    simp only [go_sem, Nat.reduceBEq]
    refine callK_intro (c_lCollect' hP ((((((hpv.mono hle2).mono hle3).mono hle4).mono hle5).mono hle6)) (((((hv2.at.mono hle3).mono hle4).mono hle5).mono hle6)) (hv6.lsE (by simp [mulL]; omega)) ok) ?_
    rintro r9 h9 ⟨hle9, N, hN, hs⟩
    obtain ⟨n1, n2, n3⟩ := hN.nice hP ok
    obtain ⟨q1, q2, q3, q4, q5, q6, rfl, _, _⟩ := hs.form
    have hleF : H.le h9 := (((((hle1.trans hle2).trans hle3).trans hle4).trans hle5).trans hle6).trans hle9
    have d9 := dH.mono hleF
    have hst := d9.s2 (v := .slice (some ⟨q1, q2, none⟩) (prW b).length q3) (w := .slice (some ⟨q4, q5, none⟩) N.length q6) rfl rfl
    have dd : Duo (h9.upd (h.n + 1) ⟨[.slice (some ⟨q1, q2, none⟩) (prW b).length q3, .slice (some ⟨q4, q5, none⟩) N.length q6], true, false⟩) (h.n + 1) (.slice (some ⟨q1, q2, none⟩) (prW b).length q3) (.slice (some ⟨q4, q5, none⟩) N.length q6) := Duo.up d9.lt
    simp only [go_sem, Nat.reduceBEq, Nat.reduceAdd, ↓reduceIte, hst, dd.l2]
    exact ⟨(hle0.trans hleF).upd (by omega) _, N, hN, hs.upd d9 hP.ne n1 (fun a ha => (n3 a ha).2.1)⟩
  · have c1' : ¬ kd % 3 = 0 := by have := of_decide_eq_false c1; omega
    simp only [go_sem, Nat.reduceBEq]
    refine ifK_intro (fun c2 => ?_) (fun c2 => ?_)
    · have c2' : kd % 3 = 1 := by have := of_decide_eq_true c2; omega
      have hw : wList b kd nm xs = mulL (wSz (prW b).length xs 0) 0 n := by rw [wList, if_neg c1', if_pos c2', hn]
      rw [hw] at ok ⊢
      have w1 := load_mono hle1 (wl3 0 (by decide))
      simp only [Nat.zero_mul, Nat.add_zero, Nat.mul_zero, Nat.zero_add] at w1
      simp only [go_sem, Nat.reduceBEq, Nat.reduceMul, Int.reduceLT, Int.reduceLE, Int.reduceToNat, Array.reduceGetElem?, ↓reduceIte, w1, pl20]
      refine callK_intro (c_octave hP hpv) ?_
      rintro v2 h2 ⟨hle2, hv2⟩
      obtain ⟨_, _, _, rfl, _⟩ := id hv2
      have w2 := load_mono hle2 w1
      simp only [go_sem, Nat.reduceBEq, Array.reduceGetElem?, w2]
      refine callK_intro (c_Size hP (hpv.mono hle2) (hxb 0) (hxb 1) (hxb 2)) ?_
      rintro v3 h3 ⟨hle3, hv3⟩
      have hv3 : SzF h2 h3 v3 (wSz (prW b).length xs 0) := hv3
      obtain ⟨_, _, _, rfl, _⟩ := id hv3
      have w3 := load_mono hle3 w2
      have e8 : IntKind.i64.wrap ((n : Int) - 1) = (n : Int) - 1 := wrap_i64 (by omega) (by omega)
      simp only [go_sem, Nat.reduceBEq, Array.reduceGetElem?, e8]
      have hmul := c_multiples (k0 := 0) (n := n) hv3.at (by rw [← List.length_pos_iff, szl]; omega) (by rw [szl]; omega) (szt 0) (by decide) (by omega) (fun i hi q hq => by
        obtain ⟨y, hy, rfl⟩ := List.mem_map.1 hq
        have hb := (szb 0 y hy).mul_int (by omega) (0 + (i : Int))
        have h1 := hb.num (by omega)
        have h2 := hb.den_le (by omega)
        exact ⟨show Int.natAbs _ < _ by omega, show Int.natAbs _ < _ by omega⟩)
      rw [show (0 : Int) + (n : Int) - 1 = (n : Int) - 1 by omega] at hmul
      refine callK_intro hmul ?_
      rintro v6 h6 ⟨hle6, o6, hv6⟩
      have w6 := load_mono hle6 w3
      simp only [go_sem, Nat.reduceBEq, Array.reduceGetElem?, e8]
      refine callK_intro (c_lCollect' hP (((hpv.mono hle2).mono hle3).mono hle6) ((hv2.at.mono hle3).mono hle6) (hv6.lsE (by simp [mulL]; omega)) ok) ?_
      rintro r9 h9 ⟨hle9, N, hN, hs⟩
      obtain ⟨n1, n2, n3⟩ := hN.nice hP ok
      obtain ⟨q1, q2, q3, q4, q5, q6, rfl, _, _⟩ := hs.form
      have hleF : H.le h9 := (((hle1.trans hle2).trans hle3).trans hle6).trans hle9
      have d9 := dH.mono hleF
      have hst := d9.s2 (v := .slice (some ⟨q1, q2, none⟩) (prW b).length q3) (w := .slice (some ⟨q4, q5, none⟩) N.length q6) rfl rfl
      have dd : Duo (h9.upd (h.n + 1) ⟨[.slice (some ⟨q1, q2, none⟩) (prW b).length q3, .slice (some ⟨q4, q5, none⟩) N.length q6], true, false⟩) (h.n + 1) (.slice (some ⟨q1, q2, none⟩) (prW b).length q3) (.slice (some ⟨q4, q5, none⟩) N.length q6) := Duo.up d9.lt
      simp only [go_sem, Nat.reduceBEq, Nat.reduceAdd, Array.reduceGetElem?, ↓reduceIte, hst, dd.l2, e8]
      exact ⟨(hle0.trans hleF).upd (by omega) _, N, hN, hs.upd d9 hP.ne n1 (fun a ha => (n3 a ha).2.1)⟩
    · have c2' : ¬ kd % 3 = 1 := by have := of_decide_eq_false c2; omega
      have hw : wList b kd nm xs = (List.range (min n 8)).map (wSz (prW b).length xs) := by rw [wList, if_neg c1', if_neg c2', hn]
      rw [hw] at ok ⊢
      have e8 : (if 8 < (n : Int) then 8 else (n : Int)) = ((min n 8 : Nat) : Int) := by split <;> omega
      simp only [go_sem, Nat.reduceBEq, e8]
      obtain ⟨m, hm⟩ : ∃ m, min n 8 = m := ⟨_, rfl⟩
      rw [hm] at e8 ok ⊢
      refine loopK_inv (α := Nat) (fun i => m - i) (fun i ts g' => ts 1 = .pointer (some ⟨h.n, 0, none⟩) ∧ ts 2 = .pointer (some ⟨h.n + 1, 0, none⟩) ∧ ts 3 = .slice (some ⟨pg, po, none⟩) (prW b).length pc ∧ ts 45 = .int .i64 m ∧ ts 46 = .int .i64 i ∧ i ≤ m ∧ h1.le g' ∧ ∃ o, LsO h1 g' (ts 5) ((List.range i).map (wSz (prW b).length xs)) o) ?_ (a0 := 0) ?_
      · rintro i ts g' ⟨t1, t2, t3, t45, t46, hi, hle, o', w⟩
        simp only [go_sem, t45, t46]
        refine ifK_intro (fun c3 => ?_) (fun c3 => ?_)
        · have c3' := of_decide_eq_true c3
          have wi : IntKind.i64.wrap ((i : Int) + 1) = ((i + 1 : Nat) : Int) := wrap_i64 (by omega) (by omega)
          have i8 : (i : Int) < 8 := by omega
          have w1 := load_mono (hle1.trans hle) (wl3 i (by omega))
          simp only [go_sem, Nat.reduceBEq, ↓reduceIte, t1, t3, t46, i8, w1]
          refine callK_intro (c_Size hP (hpv.mono hle) (hxb (3 * i)) (hxb (3 * i + 1)) (hxb (3 * i + 2))) ?_
          rintro v3 h3 ⟨hle3, hv3⟩
          have hv3 : SzF g' h3 v3 (wSz (prW b).length xs i) := hv3
          have hv3' := hv3
          obtain ⟨_, _, _, rfl, _⟩ := hv3'
          obtain ⟨v', h', o2, e1, e2, e3, e4⟩ := (w.mono hle3).app (hle.trans hle3) (by simp; omega) (hv3.n fun g hg => (w.lt g hg).2)
          simp only [go_sem, Nat.reduceBEq, Nat.reduceLeDiff, Nat.reduceLT, ↓reduceIte, t1, t2, t3, t45, t46, e1, wi]
          exact ⟨i + 1, by omega, rfl, by omega, e2, o2, by rw [List.range_succ, List.map_append]; exact e3⟩
        · have c3' := of_decide_eq_false c3
          obtain rfl : i = m := by omega
          simp only [go_sem, Nat.reduceBEq, t3, c3]
          refine callK_intro (c_octave hP (hpv.mono hle)) ?_
          rintro v8 h8 ⟨hle8, hv8⟩
          obtain ⟨_, _, _, rfl, _⟩ := id hv8
          simp only [go_sem, Nat.reduceBEq]
          refine callK_intro (c_lCollect' hP ((hpv.mono hle).mono hle8) hv8.at ((w.mono hle8).lsE (by simp; omega)) ok) ?_
          rintro r9 h9 ⟨hle9, N, hN, hs⟩
          obtain ⟨n1, n2, n3⟩ := hN.nice hP ok
          obtain ⟨q1, q2, q3, q4, q5, q6, rfl, _, _⟩ := hs.form
          have hleF : H.le h9 := ((hle1.trans hle).trans hle8).trans hle9
          have d9 := dH.mono hleF
          have hst := d9.s2 (v := .slice (some ⟨q1, q2, none⟩) (prW b).length q3) (w := .slice (some ⟨q4, q5, none⟩) N.length q6) rfl rfl
          have dd : Duo (h9.upd (h.n + 1) ⟨[.slice (some ⟨q1, q2, none⟩) (prW b).length q3, .slice (some ⟨q4, q5, none⟩) N.length q6], true, false⟩) (h.n + 1) (.slice (some ⟨q1, q2, none⟩) (prW b).length q3) (.slice (some ⟨q4, q5, none⟩) N.length q6) := Duo.up d9.lt
          simp only [go_sem, Nat.reduceBEq, Nat.reduceAdd, ↓reduceIte, t2, hst, dd.l2]
          exact ⟨(hle0.trans hleF).upd (by omega) _, N, hN, hs.upd d9 hP.ne n1 (fun a ha => (n3 a ha).2.1)⟩
      · simp only [go_sem, Nat.reduceBEq]
        exact ⟨Nat.zero_le _, GH.le.refl _, none, LsO.nil _ _⟩
end Go.Proofs.Gh
namespace Go.Proofs.Zz
/-! The linear forms in the logarithms of 2, 3 and 5, by the bounds at 26 binary digits: plain numbers. -/
def loB (b c : Int) : Int := min (b * 106365032) (b * 106365033) + min (c * 155821956) (c * 155821957)
def hiB (b c : Int) : Int := max (b * 106365032) (b * 106365033) + max (c * 155821956) (c * 155821957)
/-- no whole number between the bounds -/
def Fine (b c : Int) : Prop := ∃ k : Int, k * 67108864 < loB b c ∧ hiB b c < (k + 1) * 67108864
theorem Fine.neg {b c : Int} (h : Fine b c) : Fine (-b) (-c) := by
  obtain ⟨k, h1, h2⟩ := h
  refine ⟨-k - 1, ?_, ?_⟩ <;> simp only [loB, hiB] at * <;> omega
def chkP (b c : Nat) : Bool := Nat.blt 0 ((b * 106365032 + c * 155821956) % 67108864) && Nat.blt ((b * 106365032 + c * 155821956) % 67108864 + (b + c)) 67108864
def chkN (b d : Nat) : Bool := Nat.blt 0 ((b * 106365032 + 67108864000000 - d * 155821957) % 67108864) && Nat.blt ((b * 106365032 + 67108864000000 - d * 155821957) % 67108864 + (b + d)) 67108864
theorem blt_lt {a b : Nat} (h : Nat.blt a b = true) : a < b := by rw [Nat.blt_eq] at h; exact h
theorem fine_P {b c : Nat} (h : chkP b c = true) : Fine b c := by
  rw [chkP, Bool.and_eq_true] at h
  have h1 := blt_lt h.1
  have h2 := blt_lt h.2
  refine ⟨(((b * 106365032 + c * 155821956) / 67108864 : Nat) : Int), ?_, ?_⟩ <;> simp only [loB, hiB] <;> omega
theorem fine_N {b d : Nat} (hd : d ≤ 400000) (h : chkN b d = true) : Fine b (-(d : Int)) := by
  rw [chkN, Bool.and_eq_true] at h
  have h1 := blt_lt h.1
  have h2 := blt_lt h.2
  refine ⟨(((b * 106365032 + 67108864000000 - d * 155821957) / 67108864 : Nat) : Int) - 1000000, ?_, ?_⟩ <;> simp only [loB, hiB] <;> omega
def allN (f : Nat → Bool) : Nat → Bool
  | 0 => true
  | n + 1 => f n && allN f n
theorem allN_at {f : Nat → Bool} : ∀ {n : Nat}, allN f n = true → ∀ {i : Nat}, i < n → f i = true
  | 0, _, i, hi => absurd hi (Nat.not_lt_zero _)
  | n + 1, h, i, hi => by
    rw [allN, Bool.and_eq_true] at h
    rcases Nat.lt_or_ge i n with h' | h'
    · exact allN_at h.2 h'
    · obtain rfl : i = n := by omega
      exact h.1
/-- the first number at most 192, the second one even, at most 256 -/
def rectOk : Bool := allN (fun b => allN (fun c => (Nat.beq b 0 && Nat.beq c 0) || (chkP b (2 * c) && chkN b (2 * c))) 129) 193
theorem rect_ok : rectOk = true := by decide +kernel
theorem fine_rect {b c : Int} (hb : b.natAbs ≤ 192) (hc : c.natAbs ≤ 128) (h : ¬ (b = 0 ∧ c = 0)) : Fine b (2 * c) := by
  have key : ∀ (b : Nat) (c : Int), b ≤ 192 → c.natAbs ≤ 128 → ¬ (b = 0 ∧ c = 0) → Fine b (2 * c) := by
    intro b c hb hc h
    have h1 := allN_at (allN_at rect_ok (i := b) (by omega)) (i := c.natAbs) (by omega)
    rw [Bool.or_eq_true, Bool.and_eq_true, Bool.and_eq_true] at h1
    rcases h1 with h1 | h1
    · have e1 := Nat.eq_of_beq_eq_true h1.1
      have e2 := Nat.eq_of_beq_eq_true h1.2
      omega
    · rcases Int.lt_or_le c 0 with hn | hn
      · have := fine_N (by omega) h1.2
        rwa [show -((2 * c.natAbs : Nat) : Int) = 2 * c by omega] at this
      · have := fine_P h1.1
        rwa [show ((2 * c.natAbs : Nat) : Int) = 2 * c by omega] at this
  rcases Int.lt_or_le b 0 with hn | hn
  · have := (key b.natAbs (-c) hb (by omega) (by omega)).neg
    rwa [show -(b.natAbs : Int) = b by omega, show -(2 * -c) = 2 * c by omega] at this
  · have := key b.natAbs c hb hc (by omega)
    rwa [show (b.natAbs : Int) = b by omega] at this
end Go.Proofs.Zz
namespace Go.Proofs.Gh
open Go Go.Proofs Go.Proofs.Zz
set_option maxRecDepth 10000
/-- the number at a place, over the common denominator -/
def cf (D : Nat) (l : List Rat) (i : Nat) : Int := ov D (l[i]?.getD 0)
/-- a size that the bounds at 26 digits decide -/
structure Good (p : List Int) (D : Nat) (l : List Rat) : Prop where
  len : l.length = p.length
  pos : 0 < D
  le : D ≤ 100
  bd : ∀ q ∈ l, Bd D 90000 q
  fine : (cf D l 1 = 0 ∧ cf D l 2 = 0) ∨ Fine (cf D l 1) (cf D l 2)
theorem lc_dvd {l : List Rat} {D : Nat} (h : ∀ q ∈ l, q.den ∣ D) : ∀ i, lc l i ∣ D
  | 0 => Nat.one_dvd _
  | i + 1 => by
    rw [lc]
    refine Nat.lcm_dvd (lc_dvd h i) ?_
    rcases Nat.lt_or_ge i l.length with hi | hi
    · rw [List.getElem?_eq_getElem hi]
      exact h _ (List.getElem_mem hi)
    · rw [List.getElem?_eq_none hi]
      exact Nat.one_dvd _
theorem ov_zero (D : Nat) : ov D 0 = 0 := by simp [ov]
theorem num_ov {q : Rat} {L D e : Nat} (h1 : q.den ∣ L) (h2 : D = L * e) : q.num * ((L : Int) / q.den) * e = ov D q := by
  obtain ⟨a, rfl⟩ := h1
  subst h2
  have hd := q.den_pos
  rw [ov, Nat.mul_assoc, Nat.mul_div_cancel_left _ hd, Int.natCast_mul, Int.mul_ediv_cancel_left _ (by omega), Int.natCast_mul, Int.mul_assoc]
theorem loT_snoc (a : List (Int × Int)) (t : Int × Int) : loT (a ++ [t]) = loT a + min (t.2 * lgA t.1) (t.2 * lgB t.1) := by
  induction a with
  | nil => simp [loT]
  | cons x a ih => simp only [List.cons_append, loT, ih]; omega
theorem hiT_snoc (a : List (Int × Int)) (t : Int × Int) : hiT (a ++ [t]) = hiT a + max (t.2 * lgA t.1) (t.2 * lgB t.1) := by
  induction a with
  | nil => simp [hiT]
  | cons x a ih => simp only [List.cons_append, hiT, ih]; omega
theorem mul_min' {e : Nat} {a b : Int} : min a b * e = min (a * e) (b * e) := by
  rcases Int.le_total a b with h | h
  · rw [Int.min_eq_left h, Int.min_eq_left (Int.mul_le_mul_of_nonneg_right h (Int.natCast_nonneg _))]
  · rw [Int.min_eq_right h, Int.min_eq_right (Int.mul_le_mul_of_nonneg_right h (Int.natCast_nonneg _))]
theorem mul_max' {e : Nat} {a b : Int} : max a b * e = max (a * e) (b * e) := by
  rcases Int.le_total a b with h | h
  · rw [Int.max_eq_right h, Int.max_eq_right (Int.mul_le_mul_of_nonneg_right h (Int.natCast_nonneg _))]
  · rw [Int.max_eq_left h, Int.max_eq_left (Int.mul_le_mul_of_nonneg_right h (Int.natCast_nonneg _))]
theorem sel_lohi {p : List Int} {l : List Rat} {L e : Nat} (hL : ∀ q ∈ l, q.den ∣ L) (i : Nat) (hi : i < l.length) :
    loT (sel p l L (i + 1)) * e = loT (sel p l L i) * e + min (cf (L * e) l i * lgA (p[i]?.getD 0)) (cf (L * e) l i * lgB (p[i]?.getD 0)) ∧
    hiT (sel p l L (i + 1)) * e = hiT (sel p l L i) * e + max (cf (L * e) l i * lgA (p[i]?.getD 0)) (cf (L * e) l i * lgB (p[i]?.getD 0)) := by
  have hq : l[i]? = some l[i] := List.getElem?_eq_getElem hi
  have key := num_ov (hL _ (List.getElem_mem hi)) (D := L * e) rfl
  rw [sel]
  simp only [cf, hq, Option.getD_some]
  split
  · rename_i h0
    rw [h0] at key
    rw [← key]
    simp
  · rw [loT_snoc, hiT_snoc, Int.add_mul, Int.add_mul, mul_min', mul_max']
    simp only [Int.mul_right_comm _ (lgA _) (e : Int), Int.mul_right_comm _ (lgB _) (e : Int), key]
    exact ⟨trivial, trivial⟩
theorem Good.forms {p : List Int} {D : Nat} {l : List Rat} (hP : Pr p) (g : Good p D l) : ∃ e : Nat, 0 < e ∧ D = lc l l.length * e ∧
    loT (tsOf p l) * e = cf D l 0 * 67108864 + loB (cf D l 1) (cf D l 2) ∧ hiT (tsOf p l) * e = cf D l 0 * 67108864 + hiB (cf D l 1) (cf D l 2) := by
  have hden : ∀ q ∈ l, q.den ∣ D := fun q hq => (g.bd q hq).den g.pos
  obtain ⟨e, he⟩ := lc_dvd hden l.length
  have hpos : 0 < e := by
    rcases Nat.eq_zero_or_pos e with h | h
    · subst h; have := g.pos; omega
    · exact h
  have hL : ∀ q ∈ l, q.den ∣ lc l l.length := by
    intro q hq
    obtain ⟨i, hi, rfl⟩ := List.getElem_of_mem hq
    exact lc_den l (List.getElem?_eq_getElem hi) hi
  refine ⟨e, hpos, he, ?_⟩
  have hlen := g.len
  unfold tsOf
  generalize lc l l.length = L at *
  have s0 : sel p l L 0 = [] := rfl
  rcases hP with rfl | rfl
  · have hl2 : l.length = 2 := hlen
    have h0 := sel_lohi (p := [2, 3]) (e := e) hL 0 (by omega)
    have h1 := sel_lohi (p := [2, 3]) (e := e) hL 1 (by omega)
    rw [← he] at h0 h1
    have c2 : cf D l 2 = 0 := by rw [cf, List.getElem?_eq_none (by omega)]; exact ov_zero _
    rw [s0] at h0
    rw [hl2, h1.1, h1.2, h0.1, h0.2, c2]
    simp only [loT, hiT, lgA, lgB, loB, hiB, List.getElem?_cons_zero, List.getElem?_cons_succ, Option.getD_some]
    constructor <;> simp <;> omega
  · have hl2 : l.length = 3 := hlen
    have h0 := sel_lohi (p := [2, 3, 5]) (e := e) hL 0 (by omega)
    have h1 := sel_lohi (p := [2, 3, 5]) (e := e) hL 1 (by omega)
    have h2 := sel_lohi (p := [2, 3, 5]) (e := e) hL 2 (by omega)
    rw [← he] at h0 h1 h2
    rw [s0] at h0
    rw [hl2, h2.1, h2.2, h1.1, h1.2, h0.1, h0.2]
    simp only [loT, hiT, lgA, lgB, loB, hiB, List.getElem?_cons_zero, List.getElem?_cons_succ, Option.getD_some]
    constructor <;> simp <;> omega
/-- the value of a size, between the bounds -/
def vl (l : List Rat) : Rat := (l[0]?.getD 0) * 67108864 + (l[1]?.getD 0) * (212730065 / 2) + (l[2]?.getD 0) * (311643913 / 2)
def wt (D : Nat) (l : List Rat) : Int := cf D l 0 * 134217728 + cf D l 1 * 212730065 + cf D l 2 * 311643913
theorem cf_rat {D : Nat} {l : List Rat} (hD : 0 < D) (h : ∀ q ∈ l, ∃ B, Bd D B q) (i : Nat) : ((cf D l i : Int) : Rat) = (l[i]?.getD 0) * (D : Rat) := by
  have hD' : (D : Rat) ≠ 0 := by
    have : ((D : Int) : Rat) ≠ ((0 : Int) : Rat) := by rw [ne_eq, Rat.intCast_inj]; omega
    simpa using this
  unfold cf
  rcases Nat.lt_or_ge i l.length with hi | hi
  · rw [List.getElem?_eq_getElem hi]
    obtain ⟨B, hb⟩ := h _ (List.getElem_mem hi)
    have e := (hb.ov hD).1
    rw [Option.getD_some]
    conv => rhs; rw [e]
    rw [Rat.mkRat_eq_div]
    grind
  · rw [List.getElem?_eq_none hi, Option.getD_none, ov_zero]
    grind
theorem wt_vl {D : Nat} {l : List Rat} (hD : 0 < D) (h : ∀ q ∈ l, ∃ B, Bd D B q) : ((wt D l : Int) : Rat) = vl l * (2 * (D : Rat)) := by
  have h0 := cf_rat hD h 0
  have h1 := cf_rat hD h 1
  have h2 := cf_rat hD h 2
  unfold wt vl
  rw [Rat.intCast_add, Rat.intCast_add, Rat.intCast_mul, Rat.intCast_mul, Rat.intCast_mul, h0, h1, h2]
  grind
theorem natq_pos {D : Nat} (hD : 0 < D) : (0 : Rat) < (D : Rat) := by
  have : ((0 : Int) : Rat) < ((D : Int) : Rat) := by rw [Rat.intCast_lt_intCast]; omega
  rwa [Rat.intCast_natCast] at this
end Go.Proofs.Gh
namespace Go.Proofs.Gh
open Go Go.Proofs Go.Proofs.Zz
set_option maxRecDepth 10000
theorem Good.fit {p : List Int} {D : Nat} {l : List Rat} (g : Good p D l) : Fit 100000 p l := by
  have hden : ∀ q ∈ l, q.den ∣ D := fun q hq => (g.bd q hq).den g.pos
  have hD := g.pos
  have hD2 := g.le
  refine ⟨g.len, fun q hq => ⟨?_, ?_⟩, fun i _ => ?_, fun i q hq => ?_⟩
  · have := (g.bd q hq).num hD
    show Int.natAbs _ < _
    omega
  · have := (g.bd q hq).den_le hD
    show Int.natAbs _ < _
    omega
  · have := Nat.le_of_dvd hD (lc_dvd hden i)
    show Int.natAbs _ < _
    omega
  · obtain ⟨e, he⟩ := lc_dvd hden l.length
    have hpos : 0 < e := by
      rcases Nat.eq_zero_or_pos e with h | h
      · subst h; omega
      · exact h
    have hqm := List.mem_of_getElem? hq
    obtain ⟨hi, _⟩ := List.getElem?_eq_some_iff.1 hq
    have key := num_ov (lc_den l hq hi) he
    have hb := ((g.bd q hqm).ov hD).2
    rw [← key, Int.natAbs_mul] at hb
    have := Nat.le_mul_of_pos_right (q.num * ((lc l l.length : Int) / q.den)).natAbs (show 0 < Int.natAbs (e : Int) by omega)
    omega
theorem lohi_wt (b c : Int) : 2 * loB b c ≤ b * 212730065 + c * 311643913 ∧ b * 212730065 + c * 311643913 ≤ 2 * hiB b c := by
  simp only [loB, hiB]
  omega
/-- a whole number of octaves, or strictly between two of them -/
theorem Good.cases {p : List Int} {D : Nat} {l : List Rat} (hP : Pr p) (g : Good p D l) : ∃ e : Nat, 0 < e ∧ D = lc l l.length * e ∧
    ((cf D l 1 = 0 ∧ cf D l 2 = 0 ∧ loT (tsOf p l) * e = cf D l 0 * 67108864 ∧ hiT (tsOf p l) * e = cf D l 0 * 67108864 ∧ wt D l = cf D l 0 * 134217728) ∨
    ¬ (cf D l 1 = 0 ∧ cf D l 2 = 0) ∧ ∃ k : Int, k * 67108864 < loT (tsOf p l) * e ∧ hiT (tsOf p l) * e < (k + 1) * 67108864 ∧ k * 134217728 < wt D l ∧ wt D l < (k + 1) * 134217728) := by
  obtain ⟨e, h1, h2, h3, h4⟩ := g.forms hP
  refine ⟨e, h1, h2, ?_⟩
  by_cases h0 : cf D l 1 = 0 ∧ cf D l 2 = 0
  · left
    rw [h0.1, h0.2] at h3 h4
    simp only [loB, hiB] at h3 h4
    refine ⟨h0.1, h0.2, by omega, by omega, ?_⟩
    rw [wt, h0.1, h0.2]
    omega
  · right
    obtain ⟨k, k1, k2⟩ := g.fine.resolve_left h0
    have := lohi_wt (cf D l 1) (cf D l 2)
    refine ⟨h0, cf D l 0 + k, ?_⟩
    rw [h3, h4, wt]
    omega
theorem mul_sgn {x : Int} {e : Nat} (he : 0 < e) : (0 ≤ x * e ↔ 0 ≤ x) ∧ (x * e ≤ 0 ↔ x ≤ 0) := by
  have he' : (0 : Int) < e := by omega
  refine ⟨⟨fun h => ?_, fun h => Int.mul_nonneg h (by omega)⟩, ⟨fun h => ?_, fun h => Int.mul_nonpos_of_nonpos_of_nonneg h (by omega)⟩⟩
  · rcases Int.lt_or_le x 0 with hx | hx
    · have := Int.mul_neg_of_neg_of_pos hx he'; omega
    · exact hx
  · rcases Int.lt_or_le 0 x with hx | hx
    · have := Int.mul_pos hx he'; omega
    · exact hx
theorem Good.dec {p : List Int} {D : Nat} {l : List Rat} (hP : Pr p) (g : Good p D l) : Dec p l := by
  obtain ⟨e, h1, h2, h3⟩ := g.cases hP
  show 0 ≤ loT _ ∨ hiT _ ≤ 0
  rw [← (mul_sgn h1).1, ← (mul_sgn h1).2]
  rcases h3 with ⟨_, _, a, b, _⟩ | ⟨_, k, a, b, _, _⟩
  · omega
  · omega
theorem Good.sgn_pos {p : List Int} {D : Nat} {l : List Rat} (hP : Pr p) (g : Good p D l) (h : 0 < wt D l) : sgn p l = 1 := by
  obtain ⟨e, h1, h2, h3⟩ := g.cases hP
  have hne : tsOf p l ≠ [] := by
    intro h0
    rw [h0] at h3
    simp only [loT, hiT, Int.zero_mul] at h3
    rcases h3 with ⟨_, _, a, b, c⟩ | ⟨_, k, a, b, c, d⟩ <;> omega
  have hlo : 0 ≤ loT (tsOf p l) := by
    rw [← (mul_sgn h1).1]
    rcases h3 with ⟨_, _, a, b, c⟩ | ⟨_, k, a, b, c, d⟩ <;> omega
  rw [sgn, sgnT, if_neg hne, if_pos hlo]
theorem Good.sgn_neg {p : List Int} {D : Nat} {l : List Rat} (hP : Pr p) (g : Good p D l) (h : wt D l < 0) : sgn p l = -1 := by
  obtain ⟨e, h1, h2, h3⟩ := g.cases hP
  have le3 := Int.mul_le_mul_of_nonneg_right (lo_bd (g.fit.ts hP)).2.1 (show (0 : Int) ≤ e by omega)
  have hlo : ¬ 0 ≤ loT (tsOf p l) := by
    rw [← (mul_sgn h1).1]
    rcases h3 with ⟨_, _, a, b, c⟩ | ⟨_, k, a, b, c, d⟩ <;> omega
  have hne : tsOf p l ≠ [] := by
    intro h0
    rw [h0] at hlo
    exact hlo (Int.le_refl _)
  rw [sgn, sgnT, if_neg hne, if_neg hlo]
theorem ov_eq_zero {D B : Nat} {q : Rat} (hD : 0 < D) (h : Bd D B q) (h0 : ov D q = 0) : q = 0 := by
  rw [(h.ov hD).1, h0]
  simp
theorem Good.wt_zero {p : List Int} {D : Nat} {l : List Rat} (hP : Pr p) (g : Good p D l) (h : wt D l = 0) : l = zeroL p.length := by
  obtain ⟨e, h1, h2, h3⟩ := g.cases hP
  have hz : cf D l 0 = 0 ∧ cf D l 1 = 0 ∧ cf D l 2 = 0 := by
    rcases h3 with ⟨a1, a2, a, b, c⟩ | ⟨_, k, a, b, c, d⟩ <;> omega
  have hlen := g.len
  have hpl := hP.len
  unfold zeroL
  rw [List.eq_replicate_iff]
  refine ⟨hlen, fun q hq => ?_⟩
  obtain ⟨i, hi, rfl⟩ := List.getElem_of_mem hq
  have hq' : cf D l i = ov D l[i] := by rw [cf, List.getElem?_eq_getElem hi]; rfl
  refine ov_eq_zero g.pos (g.bd _ hq) ?_
  rw [← hq']
  match i with
  | 0 => exact hz.1
  | 1 => exact hz.2.1
  | 2 => exact hz.2.2
  | i + 3 => omega
theorem Good.flat {p : List Int} {D : Nat} {l : List Rat} (g : Good p D l) (h : cf D l 1 = 0 ∧ cf D l 2 = 0) (hl : l.length ≤ 3) : flat0L l = true := by
  refine flat0L_true fun i q hi hq => ?_
  have hqm := List.mem_of_getElem? hq
  have hq' : cf D l i = ov D q := by rw [cf, hq]; rfl
  refine ov_eq_zero g.pos (g.bd _ hqm) ?_
  rw [← hq']
  obtain ⟨hi', _⟩ := List.getElem?_eq_some_iff.1 hq
  match i with
  | 0 => omega
  | 1 => exact h.1
  | 2 => exact h.2
  | i + 3 => omega
theorem Good.flat' {D : Nat} {l : List Rat} (h : flat0L l = true) : cf D l 1 = 0 ∧ cf D l 2 = 0 := by
  have key : ∀ i, 0 < i → cf D l i = 0 := by
    intro i hi
    rw [cf]
    rcases hq : l[i]? with _ | q
    · exact ov_zero D
    · rcases Decidable.em (q = 0) with h0 | h0
      · rw [h0]; exact ov_zero D
      · rw [flat0L_false hi hq h0] at h; cases h
  exact ⟨key 1 (by decide), key 2 (by decide)⟩
theorem ediv_of {x y n : Int} (hy : 0 < y) (h1 : n * y ≤ x) (h2 : x < (n + 1) * y) : x / y = n :=
  Int.le_antisymm (Int.lt_add_one_iff.1 (Int.ediv_lt_of_lt_mul hy h2)) (Int.le_ediv_of_mul_le hy h1)
theorem Good.flI {p : List Int} {D : Nat} {l : List Rat} (hP : Pr p) (g : Good p D l) :
    flQ p l * D * 134217728 ≤ wt D l ∧ wt D l < (flQ p l * D + D) * 134217728 ∧ (flat0L l = false → loT (tsOf p l) / (67108864 * (lc l l.length : Nat)) = hiT (tsOf p l) / (67108864 * (lc l l.length : Nat))) := by
  obtain ⟨e, h1, h2, h3⟩ := g.cases hP
  have hpl := hP.len
  have hlen := g.len
  have hD := g.pos
  by_cases hf : flat0L l = true
  · obtain ⟨f1, f2⟩ := Good.flat' (D := D) hf
    rcases h3 with ⟨_, _, _, _, c⟩ | ⟨a, _⟩
    case inr => exact absurd ⟨f1, f2⟩ a
    rw [c, flQ, if_pos hf]
    obtain ⟨q, hq⟩ : ∃ q, l[0]? = some q := ⟨_, List.getElem?_eq_getElem (by omega)⟩
    have hqm := List.mem_of_getElem? hq
    rw [hq, Option.getD_some, cf, hq, Option.getD_some, Rat.floor_def, ov]
    obtain ⟨a, ha⟩ := (g.bd q hqm).den hD
    have hd := q.den_pos
    have ha0 : 0 < a := by
      rcases Nat.eq_zero_or_pos a with h | h
      · subst h; omega
      · exact h
    have hd' : (0 : Int) < q.den := by omega
    have k1 := Int.ediv_mul_le q.num (b := (q.den : Int)) (by omega)
    have k2 := Int.lt_ediv_add_one_mul_self q.num hd'
    subst ha
    rw [Nat.mul_div_cancel_left _ hd, Int.natCast_mul]
    have m1 := Int.mul_le_mul_of_nonneg_right k1 (show (0 : Int) ≤ a by omega)
    have m2 := Int.mul_lt_mul_of_pos_right k2 (show (0 : Int) < a by omega)
    rw [Int.mul_assoc] at m1
    rw [Int.mul_assoc, Int.add_mul, Int.one_mul] at m2
    refine ⟨by omega, by omega, fun h => by rw [hf] at h; cases h⟩
  · have hf' : flat0L l = false := by cases h : flat0L l with
      | true => exact absurd h hf
      | false => rfl
    rcases h3 with ⟨a1, a2, _⟩ | ⟨_, k, a, b, c, d⟩
    · exact absurd (g.flat ⟨a1, a2⟩ (by omega)) hf
    have hL : 0 < lc l l.length := lc_pos l _
    obtain ⟨n, hn⟩ : ∃ n : Int, k / D = n := ⟨_, rfl⟩
    have hD' : (0 : Int) < D := by omega
    have k1 := Int.ediv_mul_le k (b := (D : Int)) (by omega)
    have k2 := Int.lt_ediv_add_one_mul_self k hD'
    rw [hn] at k1 k2
    rw [Int.add_mul, Int.one_mul] at k2
    have he : (0 : Int) < e := by omega
    have eD : (D : Int) = (lc l l.length : Nat) * e := by rw [h2]; exact Int.natCast_mul _ _
    have b1 : ∀ x : Int, k * 67108864 < x * e → n * (67108864 * (lc l l.length : Nat)) ≤ x := by
      intro x hx
      refine Int.le_of_mul_le_mul_right ?_ he
      have : n * (67108864 * (lc l l.length : Nat)) * e = n * D * 67108864 := by rw [eD]; grind
      omega
    have b2 : ∀ x : Int, x * e < (k + 1) * 67108864 → x < (n + 1) * (67108864 * (lc l l.length : Nat)) := by
      intro x hx
      refine Int.lt_of_mul_lt_mul_right ?_ (Int.le_of_lt he)
      have : (n + 1) * (67108864 * (lc l l.length : Nat)) * e = (n * D + D) * 67108864 := by rw [eD]; grind
      omega
    obtain ⟨le1, le2⟩ : loT (tsOf p l) ≤ hiT (tsOf p l) ∧ True := ⟨(lo_bd (g.fit.ts hP)).2.1, trivial⟩
    have le3 := Int.mul_le_mul_of_nonneg_right le1 (show (0 : Int) ≤ e by omega)
    have q1 := ediv_of (show (0 : Int) < 67108864 * (lc l l.length : Nat) by omega) (b1 _ a) (b2 _ (by omega))
    have q2 := ediv_of (show (0 : Int) < 67108864 * (lc l l.length : Nat) by omega) (b1 _ (by omega)) (b2 _ b)
    rw [flQ, if_neg hf, q1]
    exact ⟨by omega, by omega, fun _ => q2.symm⟩
end Go.Proofs.Gh
namespace Go.Proofs.Gh
open Go Go.Proofs Go.Proofs.Zz
set_option maxRecDepth 10000
abbrev at' (l : List Rat) (i : Nat) : Rat := l[i]?.getD 0
theorem at_add {a b : List Rat} (h : b.length = a.length) (i : Nat) : at' (addL a b) i = at' a i + at' b i := by
  unfold at' addL
  rw [List.getElem?_zipWith]
  rcases Nat.lt_or_ge i a.length with hi | hi
  · rw [List.getElem?_eq_getElem hi, List.getElem?_eq_getElem (by omega)]; rfl
  · rw [List.getElem?_eq_none hi, List.getElem?_eq_none (by omega)]; simp [Rat.zero_add]
theorem at_sub {a b : List Rat} (h : b.length = a.length) (i : Nat) : at' (subL a b) i = at' a i - at' b i := by
  unfold at' subL
  rw [List.getElem?_zipWith]
  rcases Nat.lt_or_ge i a.length with hi | hi
  · rw [List.getElem?_eq_getElem hi, List.getElem?_eq_getElem (by omega)]; rfl
  · rw [List.getElem?_eq_none hi, List.getElem?_eq_none (by omega)]; simp [Rat.sub_self]
theorem at_scale (a : List Rat) (k : Rat) (i : Nat) : at' (scaleL a k) i = at' a i * k := by
  unfold at' scaleL
  rw [List.getElem?_map]
  cases a[i]? with
  | none => simp [Rat.zero_mul]
  | some x => rfl
theorem at_oct {n : Nat} (hn : 0 < n) (i : Nat) : at' (oct n) i = if i = 0 then 1 else 0 := by
  unfold at'
  rcases Nat.lt_or_ge i n with hi | hi
  · rw [oct_at hi]; rfl
  · rw [List.getElem?_eq_none (by rw [oct_length hn]; exact hi), if_neg (by omega)]; rfl
theorem at_zero (n i : Nat) : at' (zeroL n) i = 0 := by
  unfold at' zeroL
  rw [List.getElem?_replicate]
  split <;> rfl
theorem at_ext {a b : List Rat} (h : a.length = b.length) (he : ∀ i, at' a i = at' b i) : a = b := by
  apply List.ext_getElem h
  intro i h1 h2
  have := he i
  unfold at' at this
  rwa [List.getElem?_eq_getElem h1, List.getElem?_eq_getElem h2] at this
theorem subL_length (a b : List Rat) (h : b.length = a.length) : (subL a b).length = a.length := by simp [subL, h]
theorem scaleL_length (a : List Rat) (k : Rat) : (scaleL a k).length = a.length := by simp [scaleL]
theorem vl_at (l : List Rat) : vl l = at' l 0 * 67108864 + at' l 1 * (212730065 / 2) + at' l 2 * (311643913 / 2) := rfl
theorem vl_add {a b : List Rat} (h : b.length = a.length) : vl (addL a b) = vl a + vl b := by
  rw [vl_at, vl_at, vl_at, at_add h, at_add h, at_add h]; grind
theorem vl_sub {a b : List Rat} (h : b.length = a.length) : vl (subL a b) = vl a - vl b := by
  rw [vl_at, vl_at, vl_at, at_sub h, at_sub h, at_sub h]; grind
theorem vl_scale (a : List Rat) (k : Rat) : vl (scaleL a k) = vl a * k := by
  rw [vl_at, vl_at, at_scale, at_scale, at_scale]; grind
theorem vl_oct {n : Nat} (hn : 0 < n) : vl (oct n) = 67108864 := by
  rw [vl_at, at_oct hn, at_oct hn, at_oct hn, if_pos rfl, if_neg (by decide), if_neg (by decide)]; grind
theorem vl_zero (n : Nat) : vl (zeroL n) = 0 := by
  rw [vl_at, at_zero, at_zero, at_zero]; grind
theorem _root_.Go.Proofs.Zz.Bd.neg {D B : Nat} {q : Rat} (h : Bd D B q) : Bd D B (-q) := by
  obtain ⟨z, rfl, hz⟩ := h
  exact ⟨-z, by rw [Rat.neg_mkRat], by omega⟩
theorem _root_.Go.Proofs.Zz.Bd.sub {D B B' : Nat} {q r : Rat} (hD : 0 < D) (h : Bd D B q) (h' : Bd D B' r) : Bd D (B + B') (q - r) := by
  rw [Rat.sub_eq_add_neg]
  exact h.add hD h'.neg
theorem ov_rat {D B : Nat} {q : Rat} (hD : 0 < D) (h : Bd D B q) : ((ov D q : Int) : Rat) = q * (D : Rat) := by
  have hD' : (D : Rat) ≠ 0 := by
    have := natq_pos hD
    grind
  conv => rhs; rw [(h.ov hD).1]
  rw [Rat.mkRat_eq_div]
  grind
theorem ov_sub {D B B' : Nat} {q r : Rat} (hD : 0 < D) (h : Bd D B q) (h' : Bd D B' r) : ov D (q - r) = ov D q - ov D r := by
  rw [← Rat.intCast_inj, Rat.intCast_sub, ov_rat hD (h.sub hD h'), ov_rat hD h, ov_rat hD h']
  grind
theorem cf_at (D : Nat) (l : List Rat) (i : Nat) : cf D l i = ov D (at' l i) := rfl
/-- what a scale's notes are made of -/
structure Fam (p : List Int) (D : Nat) (l : List (List Rat)) : Prop where
  pos : 0 < D
  le : D ≤ 100
  len : ∀ x ∈ l, x.length = p.length
  bd : ∀ x ∈ l, ∀ i, Bd D 1200 (at' x i)
  pair : ∀ x ∈ l, ∀ y ∈ l, (cf D x 1 = cf D y 1 ∧ cf D x 2 = cf D y 2) ∨ Fine (cf D x 1 - cf D y 1) (cf D x 2 - cf D y 2)
  zero : zeroL p.length ∈ l
/-- a note: a size of the family, moved by some octaves -/
structure Nd (p : List Int) (D : Nat) (l : List (List Rat)) (a : List Rat) : Prop where
  len : a.length = p.length
  bd : ∀ i, Bd D 9200 (at' a i)
  src : ∃ s ∈ l, cf D a 1 = cf D s 1 ∧ cf D a 2 = cf D s 2
theorem bd_mem {D B : Nat} {l : List Rat} (h : ∀ i, Bd D B (at' l i)) : ∀ q ∈ l, Bd D B q := by
  intro q hq
  obtain ⟨i, hi, rfl⟩ := List.getElem_of_mem hq
  have := h i
  unfold at' at this
  rwa [List.getElem?_eq_getElem hi] at this
theorem Nd.good {p : List Int} {D : Nat} {l : List (List Rat)} {a b : List Rat} (F : Fam p D l) (ha : Nd p D l a) (hb : Nd p D l b) : Good p D (subL a b) := by
  have hl : b.length = a.length := by rw [ha.len, hb.len]
  have e : ∀ i, cf D (subL a b) i = cf D a i - cf D b i := by
    intro i
    rw [cf_at, at_sub hl, ov_sub F.pos (ha.bd i) (hb.bd i)]; rfl
  refine ⟨by rw [subL_length _ _ hl, ha.len], F.pos, F.le, bd_mem fun i => ?_, ?_⟩
  · rw [at_sub hl]
    exact ((ha.bd i).sub F.pos (hb.bd i)).mono (by decide)
  · obtain ⟨s, hs, s1, s2⟩ := ha.src
    obtain ⟨t, ht, t1, t2⟩ := hb.src
    rw [e, e, s1, s2, t1, t2]
    rcases F.pair s hs t ht with ⟨h1, h2⟩ | h
    · left; omega
    · exact .inr h
theorem Nd.zero {p : List Int} {D : Nat} {l : List (List Rat)} (F : Fam p D l) : Nd p D l (zeroL p.length) :=
  ⟨by simp [zeroL], fun i => by rw [at_zero]; exact Bd.zero, _, F.zero, rfl, rfl⟩
theorem Nd.src' {p : List Int} {D : Nat} {l : List (List Rat)} {x : List Rat} (F : Fam p D l) (hx : x ∈ l) : Nd p D l x :=
  ⟨F.len x hx, fun i => (F.bd x hx i).mono (by decide), x, hx, rfl, rfl⟩
theorem cf_zero (D n i : Nat) : cf D (zeroL n) i = 0 := by rw [cf_at, at_zero, ov_zero]
theorem subL_zero {a : List Rat} {n : Nat} (h : a.length = n) : subL a (zeroL n) = a := by
  refine at_ext (by rw [subL_length _ _ (by simp [zeroL, h])]) fun i => ?_
  rw [at_sub (by simp [zeroL, h]), at_zero, Rat.sub_eq_add_neg]
  grind
theorem Nd.good0 {p : List Int} {D : Nat} {l : List (List Rat)} {a : List Rat} (F : Fam p D l) (ha : Nd p D l a) : Good p D a := by
  have := Nd.good F ha (Nd.zero F)
  rwa [subL_zero ha.len] at this
theorem oct7 {D n : Nat} (hD : 0 < D) (hD2 : D ≤ 100) (hp : 0 < n) (i : Nat) : Bd D 7200 (at' (Gh.oct n) i) := by
  have h1 : Bd D 7200 1 := ⟨D, by
    have : mkRat (D : Int) D = 1 := by rw [Rat.mkRat_eq_iff (by omega) (by decide : (1:Nat) ≠ 0) |>.2 (show (D : Int) * (1 : Nat) = 1 * D by omega)]; rfl
    exact this.symm, by omega⟩
  rw [at_oct hp]; split
  · exact h1
  · exact Bd.zero
theorem Nd.oct {p : List Int} {D : Nat} {l : List (List Rat)} (hP : Pr p) (F : Fam p D l) : Nd p D l (Gh.oct p.length) := by
  have hp : 0 < p.length := by have := hP.len; omega
  refine ⟨oct_length hp, fun i => (oct7 F.pos F.le hp i).mono (by decide), _, F.zero, ?_, ?_⟩
  · rw [cf_zero, cf_at, at_oct hp, if_neg (by decide), ov_zero]
  · rw [cf_zero, cf_at, at_oct hp, if_neg (by decide), ov_zero]
end Go.Proofs.Gh
namespace Go.Proofs.Gh
open Go Go.Proofs Go.Proofs.Zz
set_option maxRecDepth 10000
theorem Good.cf_bd {p : List Int} {D : Nat} {l : List Rat} (g : Good p D l) {B : Nat} (h : ∀ i, Bd D B (at' l i)) (i : Nat) : (cf D l i).natAbs ≤ B := ((h i).ov g.pos).2
theorem bd_at {p : List Int} {D : Nat} {l : List Rat} (g : Good p D l) (i : Nat) : Bd D 90000 (at' l i) := by
  unfold at'
  rcases hq : l[i]? with _ | q
  · exact Bd.zero
  · exact g.bd q (List.mem_of_getElem? hq)
theorem abs_mul_pos {n : Int} {D : Nat} (hD : 0 < D) : n.natAbs ≤ (n * D).natAbs := by
  rw [Int.natAbs_mul]
  exact Nat.le_mul_of_pos_right _ (by omega)
theorem Good.flOk {p : List Int} {D : Nat} {l : List Rat} (hP : Pr p) (g : Good p D l) : FlOk p l := by
  have hD := g.pos
  have hD2 := g.le
  obtain ⟨h1, h2, h3⟩ := g.flI hP
  refine ⟨g.fit, ?_, h3, ?_⟩
  · have := Nat.le_of_dvd hD (lc_dvd (fun q hq => (g.bd q hq).den hD) l.length)
    omega
  · have b0 := g.cf_bd (bd_at g) 0
    have b1 := g.cf_bd (bd_at g) 1
    have b2 := g.cf_bd (bd_at g) 2
    have := abs_mul_pos (n := flQ p l) hD
    unfold wt at h1 h2
    show Int.natAbs _ < _
    omega
theorem rat_lt_or_ge (a b : Rat) : a < b ∨ b ≤ a := by
  by_cases h : a < b
  · exact .inl h
  · exact .inr (Rat.not_lt.1 h)
theorem rat_le_of {a b c : Rat} (hc : 0 < c) (h : a * c ≤ b * c) : a ≤ b := by
  rcases rat_lt_or_ge b a with h' | h'
  · have := Rat.mul_lt_mul_of_pos_right h' hc
    grind
  · exact h'
theorem rat_lt_of {a b c : Rat} (hc : 0 < c) (h : a * c < b * c) : a < b := by
  rcases rat_lt_or_ge a b with h' | h'
  · exact h'
  · have := Rat.mul_le_mul_of_nonneg_right h' (Rat.le_of_lt hc)
    grind
theorem Good.wt_rat {p : List Int} {D : Nat} {l : List Rat} (g : Good p D l) : ((wt D l : Int) : Rat) = vl l * (2 * (D : Rat)) := wt_vl g.pos fun q hq => ⟨_, g.bd q hq⟩
theorem two_pos {D : Nat} (hD : 0 < D) : (0 : Rat) < 2 * (D : Rat) := by
  have := natq_pos hD
  grind
theorem Good.fl_vl {p : List Int} {D : Nat} {l : List Rat} (hP : Pr p) (g : Good p D l) : (flQ p l : Rat) * 67108864 ≤ vl l ∧ vl l < ((flQ p l : Rat) + 1) * 67108864 := by
  obtain ⟨h1, h2, _⟩ := g.flI hP
  have h0 := g.wt_rat
  have hp := two_pos g.pos
  rw [← Rat.intCast_le_intCast, h0] at h1
  rw [← Rat.intCast_lt_intCast, h0] at h2
  simp only [Rat.intCast_mul, Rat.intCast_add, Rat.intCast_natCast, Rat.intCast_ofNat] at h1 h2
  refine ⟨rat_le_of hp ?_, rat_lt_of hp ?_⟩ <;> grind
theorem Good.pos_iff {p : List Int} {D : Nat} {l : List Rat} (g : Good p D l) : 0 < wt D l ↔ 0 < vl l := by
  have h0 := g.wt_rat
  have hp := two_pos g.pos
  rw [← Rat.intCast_lt_intCast, h0, show ((0 : Int) : Rat) = 0 by rfl]
  constructor
  · intro h
    exact rat_lt_of hp (by grind)
  · intro h
    have := Rat.mul_lt_mul_of_pos_right h hp
    grind
theorem Good.neg_iff {p : List Int} {D : Nat} {l : List Rat} (g : Good p D l) : wt D l < 0 ↔ vl l < 0 := by
  have h0 := g.wt_rat
  have hp := two_pos g.pos
  rw [← Rat.intCast_lt_intCast, h0, show ((0 : Int) : Rat) = 0 by rfl]
  constructor
  · intro h
    exact rat_lt_of hp (by grind)
  · intro h
    have := Rat.mul_lt_mul_of_pos_right h hp
    grind
theorem Good.vl_pos {p : List Int} {D : Nat} {l : List Rat} (hP : Pr p) (g : Good p D l) (h : 0 < vl l) : sgn p l = 1 := g.sgn_pos hP (g.pos_iff.2 h)
theorem Good.vl_neg {p : List Int} {D : Nat} {l : List Rat} (hP : Pr p) (g : Good p D l) (h : vl l < 0) : sgn p l = -1 := g.sgn_neg hP (g.neg_iff.2 h)
theorem Good.vl_eq {p : List Int} {D : Nat} {l : List Rat} (hP : Pr p) (g : Good p D l) (h : vl l = 0) : l = zeroL p.length := by
  refine g.wt_zero hP ?_
  have h1 := g.pos_iff
  have h2 := g.neg_iff
  rw [h] at h1 h2
  have a1 : ¬ 0 < wt D l := fun hh => absurd (h1.1 hh) (Rat.lt_irrefl)
  have a2 : ¬ wt D l < 0 := fun hh => absurd (h2.1 hh) (Rat.lt_irrefl)
  omega
theorem sgn_zero (p : List Int) (n : Nat) : sgn p (zeroL n) = 0 := by
  have : ∀ L i, sel p (zeroL n) L i = [] := by
    intro L i
    induction i with
    | zero => rfl
    | succ i ih =>
      rw [sel, if_pos, ih]
      have := at_zero n i
      unfold at' at this
      rw [this]
      rfl
  rw [sgn, tsOf, this]
  rfl
theorem Good.neg_vl {p : List Int} {D : Nat} {l : List Rat} (hP : Pr p) (g : Good p D l) (h : sgn p l < 0) : vl l < 0 := by
  rcases rat_lt_or_ge (vl l) 0 with h1 | h1
  · exact h1
  · rcases Rat.le_iff_lt_or_eq.1 h1 with h2 | h2
    · rw [g.vl_pos hP h2] at h; omega
    · rw [g.vl_eq hP h2.symm, sgn_zero] at h; omega
/-- the rest -/
theorem redQ_at {p : List Int} {x : List Rat} (h : 0 < x.length) (i : Nat) : at' (redQ p x) i = at' x i + (if i = 0 then 1 else 0) * (-(flQ p x : Rat)) := by
  rw [redQ, at_add (by rw [scaleL_length, oct_length h]), at_scale, at_oct h]
theorem vl_red {p : List Int} {x : List Rat} (h : 0 < x.length) : vl (redQ p x) = vl x - (flQ p x : Rat) * 67108864 := by
  rw [redQ, vl_add (by rw [scaleL_length, oct_length h]), vl_scale, vl_oct h]; grind
theorem bd_int {D : Nat} (hD : 0 < D) (k : Int) : Bd D (k * D).natAbs (k : Rat) := by
  refine ⟨k * D, ?_, Nat.le_refl _⟩
  rw [Rat.mkRat_eq_div, Rat.intCast_mul, Rat.intCast_natCast]
  have := natq_pos hD
  grind
theorem red_bd {p : List Int} {D B B' : Nat} {x : List Rat} (hD : 0 < D) (h : 0 < x.length) (hb : ∀ i, Bd D B (at' x i)) (hf : (flQ p x * D).natAbs ≤ B') (i : Nat) : Bd D (B + B') (at' (redQ p x) i) := by
  rw [redQ_at h]
  refine (hb i).add hD ?_
  split
  · rw [Rat.one_mul]
    exact ((bd_int hD _).mono hf).neg
  · rw [Rat.zero_mul]
    exact Bd.zero
theorem xOk {p : List Int} {D : Nat} {x : List Rat} (hP : Pr p) (g : Good p D x) {B B' : Nat} (hb : ∀ i, Bd D B (at' x i)) (hf : (flQ p x * D).natAbs ≤ B') (hB : B + B' ≤ 14999) : XOk p x := by
  have hD := g.pos
  have hD2 := g.le
  have hpl := hP.len
  have hlen := g.len
  have ti : ∀ {q : Rat}, Bd D 14999 q → Ti q := fun hq => ⟨by have := hq.num hD; omega, by have := hq.den_le hD; omega⟩
  refine ⟨g.flOk hP, fun q hq => ti ((bd_mem hb q hq).mono (by omega)), ti ((bd_int hD _).mono (by omega)), fun q hq => ti ?_⟩
  exact (bd_mem (red_bd hD (by omega) hb hf) q hq).mono hB
theorem Fam.fl_bd {p : List Int} {D : Nat} {L : List (List Rat)} (hP : Pr p) (F : Fam p D L) {x : List Rat} (hx : x ∈ L) : (flQ p x * D).natAbs ≤ 5999 := by
  have g := (Nd.src' F hx).good0 F
  obtain ⟨h1, h2, _⟩ := g.flI hP
  have b0 := g.cf_bd (F.bd x hx) 0
  have b1 := g.cf_bd (F.bd x hx) 1
  have b2 := g.cf_bd (F.bd x hx) 2
  have := F.le
  unfold wt at h1 h2
  omega
theorem Fam.xOk {p : List Int} {D : Nat} {L : List (List Rat)} (hP : Pr p) (F : Fam p D L) {x : List Rat} (hx : x ∈ L) : XOk p x :=
  Gh.xOk hP ((Nd.src' F hx).good0 F) (F.bd x hx) (F.fl_bd hP hx) (by decide)
theorem Fam.red {p : List Int} {D : Nat} {L : List (List Rat)} (hP : Pr p) (F : Fam p D L) {x : List Rat} (hx : x ∈ L) : Nd p D L (redQ p x) := by
  have hpl := hP.len
  have hlen := F.len x hx
  have h0 : 0 < x.length := by omega
  refine ⟨by rw [redQ_length h0, hlen], fun i => (red_bd F.pos h0 (F.bd x hx) (F.fl_bd hP hx) i).mono (by decide), x, hx, ?_, ?_⟩
  · rw [cf_at, redQ_at h0, if_neg (by decide), Rat.zero_mul, Rat.add_zero]; rfl
  · rw [cf_at, redQ_at h0, if_neg (by decide), Rat.zero_mul, Rat.add_zero]; rfl
theorem Fam.red7 {p : List Int} {D : Nat} {L : List (List Rat)} (hP : Pr p) (F : Fam p D L) {x : List Rat} (hx : x ∈ L) (i : Nat) : Bd D 7200 (at' (redQ p x) i) := by
  have hpl := hP.len
  have hlen := F.len x hx
  exact (red_bd F.pos (by omega) (F.bd x hx) (F.fl_bd hP hx) i).mono (by decide)
theorem Good.red_vl {p : List Int} {D : Nat} {x : List Rat} (hP : Pr p) (g : Good p D x) : 0 ≤ vl (redQ p x) ∧ vl (redQ p x) < 67108864 := by
  have hpl := hP.len
  have hlen := g.len
  obtain ⟨h1, h2⟩ := g.fl_vl hP
  rw [vl_red (by omega)]
  constructor <;> grind
end Go.Proofs.Gh
