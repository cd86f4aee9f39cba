/- Part 9 of a proof: walks of the program in a small memory, plain lemmas. -/
import Derived.Test.YthnmdhfbbbfleaaGreatDoorU7
import Derived.Test.YthnmdhfbbbfleaaGreatDoorU8
set_option linter.all false
namespace Go.Proofs.Gh
open Go Go.Proofs Go.Proofs.Zz Go.RowKit
set_option maxRecDepth 10000
set_option linter.unusedSimpArgs false
/-- the quick logarithms' lower and upper ends, times 2 to the power 26 -/
def lgA (p : Int) : Int := if p = 2 then 67108864 else if p = 3 then 106365032 else 155821956
def lgB (p : Int) : Int := if p = 2 then 67108864 else lgA p + 1
def loT : List (Int × Int) → Int
  | [] => 0
  | t :: l => min (t.2 * lgA t.1) (t.2 * lgB t.1) + loT l
def hiT : List (Int × Int) → Int
  | [] => 0
  | t :: l => max (t.2 * lgA t.1) (t.2 * lgB t.1) + hiT l
/-- terms that the quick bounds take -/
def TsOk (most : Int) (ts : List (Int × Int)) : Prop := ∀ t ∈ ts, (t.1 = 2 ∨ t.1 = 3 ∨ t.1 = 5) ∧ -most ≤ t.2 ∧ t.2 ≤ most
@[go_sem] theorem alloc_load33 {h : GH} {a b c : Value} {ro : Bool} : (h.alloc ⟨[a, b, c], true, ro⟩).load h.n 0 3 = some [a, b, c] := load_at (Nat.lt_succ_self _) (alloc_self _ _) (by simp) rfl
@[go_sem] theorem alloc_load30 {h : GH} {a b c : Value} {ro : Bool} : (h.alloc ⟨[a, b, c], true, ro⟩).load h.n 0 1 = some [a] := load_one_at (Nat.lt_succ_self _) (alloc_self _ _) rfl
@[go_sem] theorem alloc_load32 {h : GH} {a b c : Value} {ro : Bool} : (h.alloc ⟨[a, b, c], true, ro⟩).load h.n 2 1 = some [c] := load_one_at (Nat.lt_succ_self _) (alloc_self _ _) rfl
/-- a value that is a list of terms over a denominator -/
def TmAt (h : GH) (v : Value) (D : Int) (ts : List (Int × Int)) : Prop := ∃ v1 v2, v = .agg #[v1, v2, .string (enc D)] ∧ Sl h v1 1 (ints (ts.map Prod.fst)) ∧ Sl h v2 1 (strs (ts.map Prod.snd))
theorem TmAt.mono {h h' : GH} {v : Value} {D : Int} {ts : List (Int × Int)} (t : TmAt h v D ts) (hl : h.le h') : TmAt h' v D ts := by
  obtain ⟨v1, v2, e, s1, s2⟩ := t
  exact ⟨v1, v2, e, s1.mono hl, s2.mono hl⟩
theorem VR.agg3 {μ : Mu} {a b c v' : Value} (h : VR μ (.agg #[a, b, c]) v') : ∃ a' b' c', v' = .agg #[a', b', c'] ∧ VR μ a a' ∧ VR μ b b' ∧ VR μ c c' := by
  cases h with
  | @agg _ cs' hs hr =>
    match cs' with
    | ⟨[x, y, z]⟩ => exact ⟨x, y, z, rfl, hr 0 (by simp) (by simp), hr 1 (by simp) (by simp), hr 2 (by simp) (by simp)⟩
    | ⟨[]⟩ => simp at hs
    | ⟨[_]⟩ => simp at hs
    | ⟨[_, _]⟩ => simp at hs
    | ⟨_ :: _ :: _ :: _ :: _⟩ => simp at hs
theorem AR.two {μ : Mu} {a b : Value} {args : Array Value} (h : AR μ #[a, b] args) : ∃ a' b', args = #[a', b'] ∧ VR μ a a' ∧ VR μ b b' := by
  obtain ⟨hs, hr⟩ := h
  match args with
  | ⟨[x, y]⟩ => exact ⟨x, y, rfl, hr 0 (by simp) (by simp), hr 1 (by simp) (by simp)⟩
  | ⟨[]⟩ => simp at hs
  | ⟨[_]⟩ => simp at hs
  | ⟨_ :: _ :: _ :: _⟩ => simp at hs
theorem SlAt.flat1 {h : GH} {v : Value} {els : List Value} (hne : els ≠ []) (s : Sl h v 1 (els.map fun v => [v])) : ∃ g o c, v = .slice (some ⟨g, o, none⟩) els.length c ∧ SlAt h g o c 1 (els.map fun v => [v]) := by
  rcases s with ⟨_, h2⟩ | ⟨g, o, c, rfl, s⟩
  · exact absurd (List.map_eq_nil_iff.1 h2) hne
  · exact ⟨g, o, c, by rw [List.length_map], s⟩
def ntOf (t : Int × Int) : Go.Proofs.Nr.NT := ⟨t.1, enc t.2, t.2, lgA t.1⟩
theorem w64id {z : Int} (h1 : -9223372036854775808 ≤ z) (h2 : z ≤ 9223372036854775807) : wrap64 z = z := by
  rw [← Go.Proofs.Nr.w64]; exact wrap_i64 (by omega) (by omega)
theorem lg_bdN {p : Int} (h : p = 2 ∨ p = 3 ∨ p = 5) : 67108864 ≤ lgA p ∧ lgA p ≤ 155821956 ∧ lgA p ≤ lgB p ∧ lgB p ≤ 155821957 ∧ (if p = 2 then lgA p else wrap64 (lgA p + 1)) = lgB p := by
  rcases h with rfl | rfl | rfl
  · exact ⟨by decide, by decide, by decide, by decide, by simp [lgB, lgA]⟩
  · exact ⟨by decide, by decide, by decide, by decide, by simp only [lgB, lgA]; rw [if_neg (by decide), if_neg (by decide)]; exact w64id (by decide) (by decide)⟩
  · exact ⟨by decide, by decide, by decide, by decide, by simp only [lgB, lgA]; rw [if_neg (by decide), if_neg (by decide)]; exact w64id (by decide) (by decide)⟩
theorem mul_bdN {n a : Int} (h1 : -10000000 ≤ n) (h2 : n ≤ 10000000) (ha : 0 ≤ a) (hb : a ≤ 155821957) : -1558219570000000 ≤ n * a ∧ n * a ≤ 1558219570000000 := by
  constructor
  · have := Int.mul_le_mul_of_nonneg_right h1 ha; omega
  · have := Int.mul_le_mul_of_nonneg_right h2 ha; omega
theorem lohi_go {m : Int} (hm : m ≤ 9999999) : ∀ (ts : List (Int × Int)) (s u : Int) (k : Nat), TsOk m ts → k + ts.length ≤ 5000 → -(k * 1558219570000000 : Int) ≤ s → s ≤ k * 1558219570000000 → -(k * 1558219570000000 : Int) ≤ u → u ≤ k * 1558219570000000 →
    (ts.map ntOf).foldl (fun s x => wrap64 (s + min (wrap64 (x.n * x.a)) (wrap64 (x.n * (if x.p = 2 then x.a else wrap64 (x.a + 1)))))) s = s + loT ts ∧
    (ts.map ntOf).foldl (fun s x => wrap64 (s + max (wrap64 (x.n * x.a)) (wrap64 (x.n * (if x.p = 2 then x.a else wrap64 (x.a + 1)))))) u = u + hiT ts := by
  intro ts
  induction ts with
  | nil => intro s u k _ _ _ _ _ _; simp [loT, hiT]
  | cons t ts ih =>
    intro s u k ht hk h1 h2 h3 h4
    obtain ⟨hp, hn1, hn2⟩ := ht t (by simp)
    obtain ⟨b1, b2, b3, b4, b5⟩ := lg_bdN hp
    have m1 := mul_bdN (n := t.2) (a := lgA t.1) (by omega) (by omega) (by omega) (by omega)
    have m2 := mul_bdN (n := t.2) (a := lgB t.1) (by omega) (by omega) (by omega) (by omega)
    simp only [List.length_cons] at hk
    have e1 : wrap64 (t.2 * lgA t.1) = t.2 * lgA t.1 := w64id (by omega) (by omega)
    have e2 : wrap64 (t.2 * lgB t.1) = t.2 * lgB t.1 := w64id (by omega) (by omega)
    simp only [List.map_cons, List.foldl_cons, ntOf, b5, e1, e2]
    generalize hx : t.2 * lgA t.1 = x at *
    generalize hy : t.2 * lgB t.1 = y at *
    have hb1 : -1558219570000000 ≤ min x y ∧ min x y ≤ 1558219570000000 := by omega
    have hb2 : -1558219570000000 ≤ max x y ∧ max x y ≤ 1558219570000000 := by omega
    have hkk : ((k + 1 : Nat) : Int) * 1558219570000000 = k * 1558219570000000 + 1558219570000000 := by omega
    rw [w64id (z := s + min x y) (by omega) (by omega), w64id (z := u + max x y) (by omega) (by omega)]
    have ih := ih (s + min x y) (u + max x y) (k + 1) (fun t' h' => ht t' (by simp [h'])) (by omega) (by omega) (by omega) (by omega) (by omega)
    rw [show (List.map ntOf ts) = List.map (fun t : Int × Int => (⟨t.1, enc t.2, t.2, lgA t.1⟩ : Go.Proofs.Nr.NT)) ts from rfl] at ih
    rw [show (List.map ntOf ts) = List.map (fun t : Int × Int => (⟨t.1, enc t.2, t.2, lgA t.1⟩ : Go.Proofs.Nr.NT)) ts from rfl, ih.1, ih.2]
    simp only [loT, hiT, hx, hy]
    constructor <;> omega
theorem c_near {h : GH} {v : Value} {D : Int} {m most : Int} {ts : List (Int × Int)} (hm : m ≤ most) (hm2 : m ≤ 9999999) (hm3 : most ≤ 10000000) (hts : TsOk m ts) (hne : ts ≠ []) (hlen : ts.length ≤ 1000) (s : TmAt h v D ts) :
    ∃ r h', GCalls Tryz.prog gE 188 #[v, .int .i64 most] h r h' ∧ h.le h' ∧ r = .tuple #[.int .i64 (loT ts), .int .i64 (hiT ts), .bool true] := by
  refine ⟨_, h, ⟨by decide +kernel, ?_⟩, GH.le.refl _, rfl⟩
  intro w0 B μ w args hi hb har
  obtain ⟨v1, v2, rfl, s1, s2⟩ := s
  obtain ⟨a', b', rfl, hva, hvb⟩ := AR.two har
  obtain ⟨x1, x2, x3, rfl, hx1, hx2, hx3⟩ := VR.agg3 hva
  have hmb : b' = .int .i64 most := VR.eq0 hvb rfl
  subst hmb
  have i1 : ints (ts.map Prod.fst) = (ts.map fun t => Value.int .i64 t.1).map fun v => [v] := by simp [ints]
  have i2 : strs (ts.map Prod.snd) = (ts.map fun t => Value.string (enc t.2)).map fun v => [v] := by simp [strs]
  rw [i1] at s1
  rw [i2] at s2
  obtain ⟨g, o, c, rfl, p1⟩ := SlAt.flat1 (by simpa using hne) s1
  obtain ⟨g2, o2, c2, rfl, p2⟩ := SlAt.flat1 (by simpa using hne) s2
  have hpos : 0 < ts.length := List.length_pos_iff.2 hne
  obtain ⟨b, off, cap, rfl, hb1, hc1⟩ := real_row hi p1 (fun v hv => by obtain ⟨t, _, rfl⟩ := List.mem_map.1 hv; rfl) hx1 (by simpa using hpos)
  obtain ⟨b2, off2, cap2, rfl, hb2, hc2⟩ := real_row hi p2 (fun v hv => by obtain ⟨t, _, rfl⟩ := List.mem_map.1 hv; rfl) hx2 (by simpa using hpos)
  have nok : ∀ t ∈ ts, Go.Proofs.Nr.NOk w most (ntOf t) := by
    intro t ht
    obtain ⟨hp, hn1, hn2⟩ := hts t ht
    refine ⟨fun W hW => ?_, fun W hW => ?_, by show ¬ most < t.2; omega, ?_⟩
    · obtain ⟨r, h', hk, _, rfl⟩ := c_wSmall (h := hG) t.2 (show t.2.natAbs < 10000000 by omega)
      exact hk.pure (by simp [flat, flat1, flat0]) (by simp [flat, flat1, flat0]) hi hb (fun k hk => hW.block k hk)
    · show Calls _ _ #[.int .i64 t.1] W fun e w' => e = .returned (.tuple #[.int .i64 (lgA t.1), .bool true]) ∧ _
      rcases hp with hp | hp | hp
      · rw [hp]
        obtain ⟨r, h', hk, _, rfl⟩ := c_fast2 (h := hG)
        exact hk.pure (by simp [flat, flat1, flat0]) (by simp [flat, flat1, flat0]) hi hb (fun k hk => hW.block k hk)
      · rw [hp]
        obtain ⟨r, h', hk, _, rfl⟩ := c_fast3 (h := hG)
        exact hk.pure (by simp [flat, flat1, flat0]) (by simp [flat, flat1, flat0]) hi hb (fun k hk => hW.block k hk)
      · rw [hp]
        obtain ⟨r, h', hk, _, rfl⟩ := c_fast5 (h := hG)
        exact hk.pure (by simp [flat, flat1, flat0]) (by simp [flat, flat1, flat0]) hi hb (fun k hk => hW.block k hk)
    · rw [w64id (z := -most) (by omega) (by omega)]
      show ¬ t.2 < -most
      omega
  obtain ⟨t0, ht0⟩ := List.exists_mem_of_ne_nil ts hne
  let xs : List {x : Go.Proofs.Nr.NT // Go.Proofs.Nr.NOk w most x} := ts.attach.map fun t => ⟨ntOf t.1, nok t.1 t.2⟩
  have hxs : xs.map Subtype.val = ts.map ntOf := by
    show (ts.attach.map fun t => _).map Subtype.val = _
    rw [List.map_map]
    exact List.attach_map_val (l := ts) (f := ntOf)
  have hxl : xs.length = ts.length := by simp [xs]
  have hget : ∀ j, (hj : j < ts.length) → (xs[j]?.getD ⟨ntOf t0, nok t0 ht0⟩).1 = ntOf ts[j] := by
    intro j hj
    simp [xs, hj]
  simp only [List.length_map] at hc1 hc2 hx1 hx2 ⊢
  have key := Go.Proofs.Nr.near_calls most w b off cap b2 off2 cap2 x3 ⟨ntOf t0, nok t0 ht0⟩ xs (by omega) hb1 hb2
    (fun j hj => by rw [hget j (by omega)]; exact hc1 j _ (by simp [ntOf, hxl ▸ hj])) (fun j hj => by rw [hget j (by omega)]; exact hc2 j _ (by simp [ntOf, hxl ▸ hj]))
  rw [hxl] at key
  have lh := lohi_go hm2 ts 0 0 0 hts (by omega) (by simp) (by simp) (by simp) (by simp)
  rw [hxs, Go.Proofs.Nr.lowOf, Go.Proofs.Nr.highOf, lh.1, lh.2, Int.zero_add, Int.zero_add] at key
  refine key.mono ?_
  rintro e w' ⟨rfl, hbel⟩
  exact ⟨μ, _, rfl, hi.below' hbel, VR.of_flat (by simp [flat, flat1, flat0]), Ext.below' hi hbel⟩
end Go.Proofs.Gh
namespace Go.Proofs.Gh
open Go Go.Proofs Go.Proofs.Zz
set_option maxRecDepth 10000
set_option linter.unusedSimpArgs false
/-- terms as cells -/
theorem TmAt.form {h : GH} {v : Value} {D : Int} {ts : List (Int × Int)} (t : TmAt h v D ts) (hne : ts ≠ []) : ∃ g o c g2 o2 c2, v = .agg #[.slice (some ⟨g, o, none⟩) ts.length c, .slice (some ⟨g2, o2, none⟩) ts.length c2, .string (enc D)] := by
  obtain ⟨v1, v2, rfl, s1, s2⟩ := t
  rcases s1 with ⟨_, h2⟩ | ⟨g, o, c, rfl, _⟩
  · exact absurd (by simpa [ints] using h2) hne
  · rcases s2 with ⟨_, h2⟩ | ⟨g2, o2, c2, rfl, _⟩
    · exact absurd (by simpa [strs] using h2) hne
    · exact ⟨g, o, c, g2, o2, c2, by simp [ints, strs]⟩
theorem TmAt.empty {h : GH} {v : Value} {D : Int} (t : TmAt h v D []) : ∃ v1 v2 , v = .agg #[v1, v2, .string (enc D)] ∧ (v1 = .slice none 0 0 ∨ ∃ g o c, v1 = .slice (some ⟨g, o, none⟩) 0 c) ∧ (v2 = .slice none 0 0 ∨ ∃ g o c, v2 = .slice (some ⟨g, o, none⟩) 0 c) := by
  obtain ⟨v1, v2, rfl, s1, s2⟩ := t
  refine ⟨v1, v2, rfl, ?_, ?_⟩
  · rcases s1 with ⟨rfl, h2⟩ | ⟨g, o, c, rfl, _⟩
    · exact .inl rfl
    · exact .inr ⟨g, o, c, rfl⟩
  · rcases s2 with ⟨rfl, h2⟩ | ⟨g, o, c, rfl, _⟩
    · exact .inl rfl
    · exact .inr ⟨g, o, c, rfl⟩
theorem c_quick {h : GH} {v : Value} {D : Int} {ts : List (Int × Int)} (hts : TsOk 9999999 ts) (hne : ts ≠ []) (hlen : ts.length ≤ 1000) (s : TmAt h v D ts) :
    ∃ r h', GCalls Tryz.prog gE 158 #[v] h r h' ∧ h.le h' ∧ r = .int .i64 (if 0 ≤ loT ts then 1 else if hiT ts ≤ 0 then -1 else 0) := by
  have s' := s
  obtain ⟨g, o, c, g2, o2, c2, rfl⟩ := s.form hne
  refine gcalls_in (pl := noPl) [.tmp 2] mixed Tryz.func158 rfl rfl (by exact ok158) ?_
  simp only [go_sem, Nat.reduceBEq, ↓reduceIte]
  refine callK_intro (c_near (m := 9999999) (by decide) (by decide) (by decide) hts hne hlen (s'.mono (GH.le_alloc _ _))) ?_
  rintro _ h1 ⟨hle1, rfl⟩
  simp only [go_sem, Nat.reduceBEq, Array.reduceGetElem?]
  have hle := (GH.le_alloc h ⟨[.slice (some ⟨g, o, none⟩) ts.length c, .slice (some ⟨g2, o2, none⟩) ts.length c2, .string (enc D)], true, false⟩).trans hle1
  refine ifK_intro (fun c1 => ?_) (fun c1 => ?_)
  · simp only [go_sem, Int.reduceNeg, c1]
    exact ⟨hle, by rw [if_pos (of_decide_eq_true c1)]⟩
  · simp only [go_sem, Nat.reduceBEq]
    refine ifK_intro (fun c3 => ?_) (fun c3 => ?_)
    · simp only [go_sem, Int.reduceNeg, c1, c3]
      exact ⟨hle, by rw [if_neg (of_decide_eq_false c1), if_pos (of_decide_eq_true c3)]⟩
    · simp only [go_sem, Int.reduceNeg, c1, c3]
      exact ⟨hle, by rw [if_neg (of_decide_eq_false c1), if_neg (of_decide_eq_false c3)]⟩
/-- the quick bounds tell the sign -/
def DecT (ts : List (Int × Int)) : Prop := 0 ≤ loT ts ∨ hiT ts ≤ 0
def sgnT (ts : List (Int × Int)) : Int := if ts = [] then 0 else if 0 ≤ loT ts then 1 else -1
theorem c_sign {h : GH} {v : Value} {D : Int} {ts : List (Int × Int)} (hts : TsOk 9999999 ts) (hd : DecT ts) (hlen : ts.length ≤ 1000) (s : TmAt h v D ts) :
    ∃ r h', GCalls Tryz.prog gE 116 #[v] h r h' ∧ h.le h' ∧ r = .int .i64 (sgnT ts) := by
  by_cases hne : ts = []
  · subst hne
    obtain ⟨v1, v2, rfl, e1, e2⟩ := s.empty
    rcases e1 with rfl | ⟨g, o, c, rfl⟩ <;> rcases e2 with rfl | ⟨g2, o2, c2, rfl⟩
    all_goals
      refine gcalls_in (pl := noPl) [.tmp 2] mixed Tryz.func116 rfl rfl (by exact ok116) ?_
      simp only [go_sem, Nat.reduceBEq, ↓reduceIte]
      exact ⟨GH.le_alloc _ _, rfl⟩
  · have s' := s
    obtain ⟨g, o, c, g2, o2, c2, rfl⟩ := s.form hne
    have hl0 : 0 < ts.length := List.length_pos_iff.2 hne
    have k1 : ¬ ((ts.length : Int) = 0) := by omega
    refine gcalls_in (pl := noPl) [.tmp 2] mixed Tryz.func116 rfl rfl (by exact ok116) ?_
    simp only [go_sem, Nat.reduceBEq, ↓reduceIte, k1]
    refine callK_intro (c_quick hts hne hlen (s'.mono (GH.le_alloc _ _))) ?_
    rintro _ h1 ⟨hle1, rfl⟩
    have hle := (GH.le_alloc h ⟨[.slice (some ⟨g, o, none⟩) ts.length c, .slice (some ⟨g2, o2, none⟩) ts.length c2, .string (enc D)], true, false⟩).trans hle1
    by_cases c1 : 0 ≤ loT ts
    · rw [if_pos c1]
      simp only [go_sem, Nat.reduceBEq, Int.reduceNe]
      exact ⟨hle, by rw [sgnT, if_neg hne, if_pos c1]⟩
    · rw [if_neg c1, if_pos (hd.resolve_left c1)]
      simp only [go_sem, Nat.reduceBEq, Int.reduceNeg, Int.reduceNe]
      exact ⟨hle, by rw [sgnT, if_neg hne, if_neg c1]⟩
/-- a size that the quick bounds take -/
structure Fit (m : Int) (p : List Int) (l : List Rat) : Prop where
  len : l.length = p.length
  sm : SmL l
  lcm : ∀ i, i ≤ l.length → Sm (lc l i)
  fac : ∀ (i : Nat) (q : Rat), l[i]? = some q → -m ≤ q.num * ((lc l l.length : Int) / q.den) ∧ q.num * ((lc l l.length : Int) / q.den) ≤ m
def tsOf (p : List Int) (l : List Rat) : List (Int × Int) := sel p l (lc l l.length) l.length
theorem sel_mem (p : List Int) (l : List Rat) (D : Nat) : ∀ n, ∀ t ∈ sel p l D n, ∃ (i : Nat) (q : Rat), i < n ∧ (q = l[i]?.getD 0) ∧ t = (p[i]?.getD 0, q.num * ((D : Int) / q.den))
  | 0, t, ht => by cases ht
  | n + 1, t, ht => by
    rw [sel] at ht
    split at ht
    · obtain ⟨i, q, h1, h2, h3⟩ := sel_mem p l D n t ht
      exact ⟨i, q, by omega, h2, h3⟩
    · rcases List.mem_append.1 ht with ht | ht
      · obtain ⟨i, q, h1, h2, h3⟩ := sel_mem p l D n t ht
        exact ⟨i, q, by omega, h2, h3⟩
      · rw [List.mem_singleton] at ht
        exact ⟨n, _, by omega, rfl, ht⟩
theorem Fit.ts {m : Int} {p : List Int} {l : List Rat} (hP : Pr p) (f : Fit m p l) : TsOk m (tsOf p l) := by
  intro t ht
  obtain ⟨i, q, h1, rfl, rfl⟩ := sel_mem p l _ _ t ht
  obtain ⟨x, hx, hx2, _⟩ := hP.at (i := i) (by have := f.len; omega)
  have hq : l[i]? = some (l[i]?.getD 0) := by
    rw [List.getElem?_eq_getElem h1]; rfl
  have := f.fac i _ hq
  rw [hx]
  exact ⟨hx2, this.1, this.2⟩
theorem Fit.mono {m m' : Int} {p : List Int} {l : List Rat} (f : Fit m p l) (h : m ≤ m') : Fit m' p l :=
  ⟨f.len, f.sm, f.lcm, fun i q hq => ⟨by have := (f.fac i q hq).1; omega, by have := (f.fac i q hq).2; omega⟩⟩
theorem c_termsOf' {h : GH} {pv sv : Value} {p : List Int} {l : List Rat} {m : Int} (hP : Pr p) (hp : PrAt h pv p) (s : SzAt h sv l) (hm : m ≤ 9999999) (f : Fit m p l) :
    ∃ r h', GCalls Tryz.prog gE 115 #[pv, sv] h r h' ∧ h.le h' ∧ TmAt h' r (lc l l.length : Nat) (tsOf p l) := by
  have hpl := hP.len
  obtain ⟨r, h', k1, k2, v1, v2, k3, k4, k5⟩ := c_termsOf hp s f.len (by omega) f.sm f.lcm (fun i q hq => by
    have := f.fac i q hq
    show Int.natAbs _ < _
    omega)
  exact ⟨r, h', k1, k2, v1, v2, k3, k4, k5⟩
def sgn (p : List Int) (l : List Rat) : Int := sgnT (tsOf p l)
def Dec (p : List Int) (l : List Rat) : Prop := DecT (tsOf p l)
theorem tsOf_len (p : List Int) (l : List Rat) : (tsOf p l).length ≤ l.length := sel_len _ _ _ _
theorem c_sizeSign {h : GH} {pv sv : Value} {p : List Int} {l : List Rat} (hP : Pr p) (hp : PrAt h pv p) (s : SzAt h sv l) (f : Fit 9999999 p l) (hd : Dec p l) :
    ∃ r h', GCalls Tryz.prog gE 90 #[pv, sv] h r h' ∧ h.le h' ∧ r = .tuple #[.int .i64 (sgn p l), .int .i64 0] := by
  have hpl := hP.len
  refine gcalls_in (pl := noPl) [.tmp 4, .tmp 5] mixed Tryz.func90 rfl rfl (by exact ok90) ?_
  simp only [go_sem, Nat.reduceBEq]
  refine callK_intro (c_Check hP hp s f.len f.sm) ?_
  rintro _ h1 ⟨hle1, rfl⟩
  simp only [go_sem, Nat.reduceBEq, Int.reduceNe]
  refine callK_intro (c_termsOf' hP (hp.mono hle1) (s.mono hle1) (Int.le_refl _) f) ?_
  rintro v h2 ⟨hle2, ht⟩
  simp only [go_sem]
  refine callK_intro (c_sign (f.ts hP) hd (by have := tsOf_len p l; have := f.len; omega) ht) ?_
  rintro _ h3 ⟨hle3, rfl⟩
  simp only [go_sem, Nat.reduceBEq]
  exact ⟨(hle1.trans hle2).trans hle3, rfl⟩
end Go.Proofs.Gh
namespace Go.Proofs.Gh
open Go Go.Proofs Go.Proofs.Zz
set_option maxRecDepth 10000
set_option linter.unusedSimpArgs false
theorem sub_hyps {n : Nat} {a b : List Rat} (hl : a.length = n) (hl2 : b.length = n) (ha : SmL a) (hb : SmL b) (hs : SmL (subL a b)) :
    (∀ (i k : Nat) (l : List Rat) (q f : Rat), [a, b][i]? = some l → [(1 : Rat), -1][i]? = some f → l[k]? = some q → SmR (q * f)) ∧ (∀ (i k : Nat), i ≤ [a, b].length → k < n → SmR (ps [a, b] [1, -1] k i)) :=
  two_hyps (x := 1) (y := -1) hl hl2 (fun j q hq => by rw [Rat.mul_one]; exact ha q (List.mem_of_getElem? hq)) (fun j q hq => (hb q (List.mem_of_getElem? hq)).neg)
    (fun j q r hq hr => by
      have : q * 1 + r * -1 = q - r := by grind
      rw [this]
      exact hs _ (zip_get hq hr))
theorem one_neg1 : SmL [1, -1] := fun q hq => by
    rcases List.mem_cons.1 hq with rfl | hq
    · exact SmR.one
    · rw [List.mem_singleton.1 hq]; exact SmR.neg1
theorem pair_len {n : Nat} {a b : List Rat} (hl : a.length = n) (hl2 : b.length = n) (ha : SmL a) (hb : SmL b) : ∀ l ∈ [a, b], l.length = n ∧ SmL l := fun l hl' => by
    rcases List.mem_cons.1 hl' with rfl | hl'
    · exact ⟨hl, ha⟩
    · rw [List.mem_singleton.1 hl']; exact ⟨hl2, hb⟩
theorem c_compare {h : GH} {pv av bv : Value} {p : List Int} {a b : List Rat} (hP : Pr p) (hp : PrAt h pv p) (s : SzAt h av a) (t : SzAt h bv b) (hl : a.length = p.length) (hl2 : b.length = p.length) (ha : SmL a) (hb : SmL b) (f : Fit 9999999 p (subL a b)) (hd : Dec p (subL a b)) :
    ∃ r h', GCalls Tryz.prog gE 128 #[pv, av, bv] h r h' ∧ h.le h' ∧ r = .int .i64 (sgn p (subL a b)) := by
  have hpl := hP.len
  obtain ⟨y1, y2⟩ := sub_hyps hl hl2 ha hb f.sm
  have s' := s
  have t' := t
  have hp' := hp
  obtain ⟨pg, po, pc, rfl, hp⟩ := hp
  obtain ⟨g, o, c, rfl, s⟩ := s
  obtain ⟨tg, to, tc, rfl, t⟩ := t
  have L1 := LsAt.built2 s' t'
  refine gcalls_in (pl := noPl) [.tmp 6] mixed Tryz.func128 rfl rfl (by exact ok128) ?_
  simp only [go_sem, Nat.reduceBEq, Nat.reduceAdd, Nat.reduceLeDiff, Nat.reduceLT, ↓reduceIte]
  refine callK_intro (c_num1) ?_
  rintro _ h1 ⟨hle1, rfl⟩
  simp only [go_sem, Int.reduceNeg]
  refine callK_intro (c_numN1) ?_
  rintro _ h2 ⟨hle2, rfl⟩
  simp only [go_sem, Nat.reduceBEq, Nat.reduceAdd, Nat.reduceMul, Nat.reduceLeDiff, Nat.reduceLT, ↓reduceIte]
  have F1 := SzAt.built2 (h := h2) 1 (-1)
  have hle := (((GH.le_alloc h _).trans hle1).trans hle2).trans (GH.le_alloc h2 ⟨[.string (enc (1 : Rat).num), .string (enc ((1 : Rat).den : Int)), .string (enc (-1 : Rat).num), .string (enc ((-1 : Rat).den : Int))], true, false⟩)
  refine callK_intro (c_sum (n := p.length) (by omega) (L1.mono ((hle1.trans hle2).trans (GH.le_alloc h2 _))) F1 rfl (by simp) (pair_len hl hl2 ha hb) one_neg1 y1 y2) ?_
  rintro v h3 ⟨hle3, hv⟩
  rw [← hl, sumL_sub (by omega)] at hv
  simp only [go_sem, Nat.reduceBEq]
  refine callK_intro (c_termsOf' hP (hp'.mono (hle.trans hle3)) hv (Int.le_refl _) f) ?_
  rintro w h4 ⟨hle4, ht⟩
  simp only [go_sem]
  refine callK_intro (c_sign (f.ts hP) hd (by have := tsOf_len p (subL a b); have := f.len; omega) ht) ?_
  rintro _ h5 ⟨hle5, rfl⟩
  simp only [go_sem]
  exact ⟨((hle.trans hle3).trans hle4).trans hle5, rfl⟩
theorem c_Compare {h : GH} {pv av bv : Value} {p : List Int} {a b : List Rat} (hP : Pr p) (hp : PrAt h pv p) (s : SzAt h av a) (t : SzAt h bv b) (hl : a.length = p.length) (hl2 : b.length = p.length) (ha : SmL a) (hb : SmL b) (f : Fit 9999999 p (subL a b)) (hd : Dec p (subL a b)) :
    ∃ r h', GCalls Tryz.prog gE 101 #[pv, av, bv] h r h' ∧ h.le h' ∧ r = .tuple #[.int .i64 (sgn p (subL a b)), .int .i64 0] := by
  have s' := s
  have t' := t
  have hp' := hp
  obtain ⟨pg, po, pc, rfl, hp⟩ := hp
  obtain ⟨g, o, c, rfl, s⟩ := s
  obtain ⟨tg, to, tc, rfl, t⟩ := t
  have L1 := LsAt.built2 s' t'
  refine gcalls_in (pl := noPl) [.tmp 6, .tmp 7] mixed Tryz.func101 rfl rfl (by exact ok101) ?_
  simp only [go_sem, Nat.reduceBEq, Nat.reduceAdd, Nat.reduceLeDiff, Nat.reduceLT, ↓reduceIte]
  refine callK_intro (c_CheckAll hP (hp'.mono (GH.le_alloc _ _)) L1 (by simp) (pair_len hl hl2 ha hb)) ?_
  rintro _ h1 ⟨hle1, rfl⟩
  simp only [go_sem, Nat.reduceBEq, Int.reduceNe]
  have hle := (GH.le_alloc h ⟨[.slice (some ⟨g, o, none⟩) a.length c, .slice (some ⟨tg, to, none⟩) b.length tc], true, false⟩).trans hle1
  refine callK_intro (c_compare hP (hp'.mono hle) (s'.mono hle) (t'.mono hle) hl hl2 ha hb f hd) ?_
  rintro _ h2 ⟨hle2, rfl⟩
  simp only [go_sem, Nat.reduceBEq]
  exact hle.trans hle2
theorem c_downward {h : GH} (a b : Int) (hb : 0 < b) (hb2 : b ≤ 1000000000000000) (ha : a.natAbs ≤ 1000000000000000000) : ∃ r h', GCalls Tryz.prog gE 189 #[.int .i64 a, .int .i64 b] h r h' ∧ h.le h' ∧ r = .int .i64 (a / b) := by
  have hne : ¬ b = 0 := by omega
  refine gcalls_in (pl := noPl) [.tmp 4] mixed Tryz.func189 rfl rfl (by exact ok189) ?_
  simp only [go_sem, Nat.reduceBEq]
  refine ifK_intro (fun c1 => ?_) (fun c1 => ?_)
  · have c1' := of_decide_eq_true c1
    have w1 : IntKind.i64.wrap (0 - a) = -a := by rw [wrap_i64 (by omega) (by omega)]; omega
    have w2 : IntKind.i64.wrap (-a + b) = -a + b := wrap_i64 (by omega) (by omega)
    have w3 : IntKind.i64.wrap (-a + b - 1) = -a + b - 1 := wrap_i64 (by omega) (by omega)
    have e1 : (-a + b - 1).tdiv b = -(a / b) := by
      rw [Int.tdiv_eq_ediv_of_nonneg (by omega)]
      have h1 := Int.mul_ediv_add_emod a b
      have h2 := Int.emod_nonneg a hne
      have h3 := Int.emod_lt_of_pos a hb
      have h4 : -a + b - 1 = b * (-(a / b)) + (b - 1 - a % b) := by rw [Int.mul_neg]; omega
      rw [h4, Int.add_comm, Int.add_mul_ediv_left _ _ hne, Int.ediv_eq_zero_of_lt (by omega) (by omega)]
      omega
    have hq : (a / b).natAbs ≤ a.natAbs := Int.natAbs_ediv_le_natAbs _ _
    have w4 : IntKind.i64.wrap (-(a / b)) = -(a / b) := wrap_i64 (by omega) (by omega)
    have w5 : IntKind.i64.wrap (0 - -(a / b)) = a / b := by rw [wrap_i64 (by omega) (by omega)]; omega
    simp only [go_sem, Nat.reduceBEq, ↓reduceIte, c1, w1, w2, w3, e1, w4, w5, hne]
    exact GH.le.refl _
  · have c1' := of_decide_eq_false c1
    have hq : (a / b).natAbs ≤ a.natAbs := Int.natAbs_ediv_le_natAbs _ _
    have e1 : a.tdiv b = a / b := Int.tdiv_eq_ediv_of_nonneg (by omega)
    have w4 : IntKind.i64.wrap (a / b) = a / b := wrap_i64 (by omega) (by omega)
    simp only [go_sem, Nat.reduceBEq, ↓reduceIte, c1, e1, w4, hne]
    exact GH.le.refl _
/-- three cells in a block -/
structure Tri (h : GH) (g : Nat) (a b c : Value) : Prop where
  lt : g < h.n
  b : h.b g = ⟨[a, b, c], true, false⟩
theorem Tri.mono {h h' : GH} {g : Nat} {a b c : Value} (t : Tri h g a b c) (hl : h.le h') : Tri h' g a b c := ⟨Nat.lt_of_lt_of_le t.lt hl.1, (hl.2 g t.lt).trans t.b⟩
section
variable {h : GH} {g : Nat} {a b c : Value}
theorem Tri.l0 (t : Tri h g a b c) : h.load g 0 1 = some [a] := (tri t.lt t.b).1
theorem Tri.l1 (t : Tri h g a b c) : h.load g 1 1 = some [b] := (tri t.lt t.b).2.1
theorem Tri.l2 (t : Tri h g a b c) : h.load g 2 1 = some [c] := (tri t.lt t.b).2.2.1
theorem Tri.l3 (t : Tri h g a b c) : h.load g 0 3 = some [a, b, c] := (tri t.lt t.b).2.2.2.1
end
theorem Tri.two (h : GH) (a b c x y z : Value) : ∃ H, (h.alloc ⟨[a, b, c], true, false⟩).alloc ⟨[x, y, z], true, false⟩ = H ∧ Tri H h.n a b c ∧ Tri H (h.n + 1) x y z ∧ h.le H :=
  ⟨_, rfl, Tri.mono (⟨Nat.lt_succ_self _, alloc_self _ _⟩ : Tri (h.alloc ⟨[a, b, c], true, false⟩) h.n a b c) (GH.le_alloc _ _), ⟨Nat.lt_succ_self _, alloc_self _ _⟩, (GH.le_alloc _ _).trans (GH.le_alloc _ _)⟩
theorem c_quotient {h : GH} {xv yv : Value} {D : Nat} {ts : List (Int × Int)} (hts : TsOk 100000 ts) (hne : ts ≠ []) (hlen : ts.length ≤ 10) (hD : 0 < D) (hD2 : D ≤ 10000) (s : TmAt h xv D ts) (t : TmAt h yv 1 [(2, 1)]) (hq : loT ts / (67108864 * D) = hiT ts / (67108864 * D))
    (hb : (loT ts).natAbs ≤ 1000000000000000 ∧ (hiT ts).natAbs ≤ 1000000000000000) :
    ∃ r h', GCalls Tryz.prog gE 149 #[xv, yv] h r h' ∧ h.le h' ∧ r = .tuple #[.int .i64 (loT ts / (67108864 * D)), .bool true] := by
  have s' := s
  have t' := t
  obtain ⟨g, o, c, g2, o2, c2, rfl⟩ := s.form hne
  obtain ⟨yg, yo, yc, yg2, yo2, yc2, rfl⟩ := t.form (by simp)
  have hy1 : loT [(2, 1)] = 67108864 := rfl
  have hy2 : hiT [(2, 1)] = 67108864 := rfl
  have hDs : Sm (D : Int) := Sm.nat (by omega)
  have k1 : ¬ (10000 : Int) < D := by omega
  have w1 : IntKind.i64.wrap (67108864 * (D : Int)) = 67108864 * D := wrap_i64 (by omega) (by omega)
  have w2 : IntKind.i64.wrap (loT ts) = loT ts := wrap_i64 (by omega) (by omega)
  have w3 : IntKind.i64.wrap (hiT ts) = hiT ts := wrap_i64 (by omega) (by omega)
  obtain ⟨H, hH, tx, ty, hle⟩ := Tri.two h (.slice (some ⟨g, o, none⟩) ts.length c) (.slice (some ⟨g2, o2, none⟩) ts.length c2) (.string (enc D)) (.slice (some ⟨yg, yo, none⟩) 1 yc) (.slice (some ⟨yg2, yo2, none⟩) 1 yc2) (.string (enc 1))
  have yok : TsOk 100000 [(2, 1)] := by
    intro u hu
    rw [List.mem_singleton.1 hu]
    exact ⟨.inl rfl, by decide, by decide⟩
  refine gcalls_in (pl := noPl) [.tmp 4, .tmp 5] mixed Tryz.func149 rfl rfl (by exact ok149) ?_
  simp only [go_sem, Nat.reduceBEq, ↓reduceIte, hH, List.length_cons, List.length_nil, tx.l3]
  refine callK_intro (c_near (m := 100000) (by decide) (by decide) (by decide) hts hne (by omega) (s'.mono hle)) ?_
  rintro _ h1 ⟨hle1, rfl⟩
  simp only [go_sem, Nat.reduceBEq, Array.reduceGetElem?, (ty.mono hle1).l3]
  refine callK_intro (c_near (m := 100000) (by decide) (by decide) (by decide) yok (by simp) (by simp) (t'.mono (hle.trans hle1))) ?_
  rintro _ h2 ⟨hle2, rfl⟩
  simp only [go_sem, Nat.reduceBEq, Array.reduceGetElem?, (tx.mono (hle1.trans hle2)).l2]
  refine callK_intro (c_wSmall D hDs) ?_
  rintro _ h3 ⟨hle3, rfl⟩
  simp only [go_sem, Nat.reduceBEq, Array.reduceGetElem?, (ty.mono ((hle1.trans hle2).trans hle3)).l2]
  refine callK_intro (c_wSmall 1 (by decide)) ?_
  rintro _ h4 ⟨hle4, rfl⟩
  simp only [go_sem, Nat.reduceBEq, Int.reduceLT, Int.reduceLE, Array.reduceGetElem?, ↓reduceIte, k1, hy1, hy2]
  have h4le := (((hle.trans hle1).trans hle2).trans hle3).trans hle4
  have mm1 : IntKind.i64.wrap (loT ts * 1) = loT ts := by rw [Int.mul_one]; exact w2
  have mm2 : IntKind.i64.wrap (hiT ts * 1) = hiT ts := by rw [Int.mul_one]; exact w3
  refine ifK_intro (fun c1 => ?_) (fun c1 => ?_)
  all_goals
    simp only [go_sem, Nat.reduceBEq]
    refine ifK_intro (fun c2 => ?_) (fun c2 => ?_)
    all_goals
      simp only [go_sem, Nat.reduceBEq, c1, c2, mm1, hy1, hy2, w1]
      refine callK_intro (c_downward (loT ts) (67108864 * D) (by omega) (by omega) (by omega)) ?_
      rintro _ h5 ⟨hle5, rfl⟩
      simp only [go_sem, Nat.reduceBEq, c1, c2, mm2, hy1, hy2, w1]
      refine callK_intro (c_downward (hiT ts) (67108864 * D) (by omega) (by omega) (by omega)) ?_
      rintro _ h6 ⟨hle6, rfl⟩
      simp only [go_sem, Nat.reduceBEq, c1, c2, ← hq]
      exact (h4le.trans hle5).trans hle6
theorem c_lowest {h : GH} (q : Rat) (hq : SmR q) : ∃ r h', GCalls Tryz.prog gE 204 #[.string (enc q.num), .string (enc (q.den : Int))] h r h' ∧ h.le h' ∧ r = rv q := by
  have hd := q.den_pos
  have e1 : (if (q.den : Int) = 0 then (0 : Int) else if (q.den : Int) < 0 then -1 else 1) = 1 := by rw [if_neg (by omega), if_neg (by omega)]
  have e2 : enc ((q.num.natAbs.gcd (q.den : Int).natAbs : Nat) : Int) = ⟨#[49]⟩ := by
    rw [Int.natAbs_natCast, q.reduced]; rfl
  refine gcalls_in (pl := noPl) [.cell 4 60] mixed Tryz.func204 rfl rfl (by exact ok204) ?_
  simp only [go_sem, Nat.reduceBEq]
  refine callK_intro (c_Sign q.den) ?_
  rintro _ h1 ⟨hle1, rfl⟩
  simp only [go_sem, Nat.reduceBEq, Int.reduceNeg, Int.reduceLT, e1]
  refine callK_intro (c_Gcd q.num q.den hq.1 hq.2) ?_
  rintro _ h2 ⟨hle2, rfl⟩
  have hle := ((GH.le_alloc h zB).trans hle1).trans hle2
  have g2 : h.n < h2.n := Nat.lt_of_lt_of_le (Nat.lt_succ_self _) (hle1.trans hle2).1
  have b2 : h2.b h.n = zB := by rw [(hle1.trans hle2).2 _ (Nat.lt_succ_self _), alloc_self]
  simp only [go_sem, Nat.reduceBEq, Nat.reduceAdd, Nat.reduceLeDiff, Int.reduceNeg, ↓reduceIte, e2, ne_eq, not_true_eq_false, cell2_store g2 b2, cell2_load g2]
  exact hle.upd (Nat.le_refl _) _
theorem c_fDiv1 {h : GH} (q : Rat) (hq : SmR q) : ∃ r h', GCalls Tryz.prog gE 187 #[rv q, rv 1] h r h' ∧ h.le h' ∧ r = .tuple #[rv q, .int .i64 0] := by
  obtain ⟨H, hH, p0, q0, hl, ext⟩ := rat3 h q 1
  have m1 : Sm (q.num * ((1 : Rat).den : Int)) := by show Sm (q.num * 1); rw [Int.mul_one]; exact hq.1
  have m2 : Sm ((q.den : Int) * (1 : Rat).num) := by show Sm ((q.den : Int) * 1); rw [Int.mul_one]; exact hq.2
  refine gcalls_in (pl := pl187) [.cell 4 60, .tmp 5] mixed Tryz.func187 rfl rfl (by exact ok187) ?_
  simp only [go_sem, Nat.reduceBEq, ↓reduceIte, hH, q0.l2]
  refine callK_intro (c_fSign 1) ?_
  rintro _ h1 ⟨hle1, rfl⟩
  have p1 := p0.mono hle1
  have q1 := q0.mono hle1
  have em1 : q.num * ((1 : Rat).den : Int) = q.num := Int.mul_one _
  have em2 : (q.den : Int) * (1 : Rat).num = q.den := Int.mul_one _
  have en : ¬ ((if (1 : Rat).num = 0 then (0 : Int) else if (1 : Rat).num < 0 then -1 else 1) = 0) := by decide
  simp only [go_sem, Nat.reduceBEq, Int.reduceNeg, Array.reduceGetElem?, en, p1.l0, p1.l1, q1.l0, q1.l1, pl187]
  refine callK_intro (c_Mul q.num ((1 : Rat).den : Int) hq.1 (by decide) m1) ?_
  rintro _ h2 ⟨hle2, rfl⟩
  have p2 := p1.mono hle2
  have q2 := q1.mono hle2
  simp only [go_sem, Nat.reduceBEq, Int.reduceNeg, Array.reduceGetElem?, p2.l1, q2.l0, em1]
  refine callK_intro (c_Mul (q.den : Int) (1 : Rat).num hq.2 (by decide) m2) ?_
  rintro _ h3 ⟨hle3, rfl⟩
  have p3 := p2.mono hle3
  have q3 := q2.mono hle3
  simp only [go_sem, Nat.reduceBEq, Int.reduceNeg, Array.reduceGetElem?, em1, em2]
  refine callK_intro (c_lowest q hq) ?_
  rintro _ h4 ⟨hle4, rfl⟩
  have p4 := p3.mono hle4
  have q4 := q3.mono hle4
  obtain ⟨g4, b4, k4⟩ := ext (((hle1.trans hle2).trans hle3).trans hle4)
  simp only [go_sem, Nat.reduceBEq, Nat.reduceAdd, Int.reduceNeg, Array.reduceGetElem?, ↓reduceIte, cell2_store g4 b4, cell2_load g4]
  exact k4 _
end Go.Proofs.Gh
namespace Go.Proofs.Gh
open Go Go.Proofs Go.Proofs.Zz
set_option maxRecDepth 10000
set_option linter.unusedSimpArgs false
/-- the octave over n primes -/
def oct (n : Nat) : List Rat := 1 :: List.replicate (n - 1) 0
theorem oct_length {n : Nat} (h : 0 < n) : (oct n).length = n := by simp [oct]; omega
theorem oct_at {n i : Nat} (hi : i < n) : (oct n)[i]? = some (if i = 0 then 1 else 0) := by
  cases i with
  | zero => rfl
  | succ i =>
    have h2 : i < n - 1 := by omega
    simp [oct, h2]
theorem oct_sm (n : Nat) : SmL (oct n) := by
  intro q hq
  rcases List.mem_cons.1 hq with rfl | hq
  · exact SmR.one
  · rw [(List.mem_replicate.1 hq).2]; exact SmR.zero
/-- only the first number is not 0 -/
def flat0L (a : List Rat) : Bool := (a.drop 1).all fun q => decide (q = 0)
theorem flat0L_false {a : List Rat} {i : Nat} {q : Rat} (hi : 0 < i) (hq : a[i]? = some q) (h : q ≠ 0) : flat0L a = false := by
  rw [flat0L, List.all_eq_false]
  refine ⟨q, ?_, by simpa using h⟩
  have : (a.drop 1)[i - 1]? = some q := by rw [List.getElem?_drop, show 1 + (i - 1) = i by omega, hq]
  exact List.mem_of_getElem? this
theorem flat0L_true {a : List Rat} (h : ∀ (i : Nat) (q : Rat), 0 < i → a[i]? = some q → q = 0) : flat0L a = true := by
  rw [flat0L, List.all_eq_true]
  intro q hq
  obtain ⟨i, hi⟩ := List.getElem?_of_mem hq
  rw [List.getElem?_drop] at hi
  simpa using h (1 + i) q (by omega) hi
theorem c_ratio {h : GH} {av bv : Value} {a : List Rat} {x : Rat} (hx : a[0]? = some x) (hlen : a.length ≤ 1000) (ha : SmL a) (s : SzAt h av a) (t : SzAt h bv (oct a.length)) :
    ∃ r h', GCalls Tryz.prog gE 147 #[av, bv] h r h' ∧ h.le h' ∧ r = .tuple #[rv x, .bool (flat0L a)] := by
  have hpos : 0 < a.length := (List.getElem?_eq_some_iff.1 hx).1
  have hol := oct_length hpos
  have hsx := ha x (List.mem_of_getElem? hx)
  obtain ⟨g, o, c, rfl, s⟩ := s
  obtain ⟨tg, to, tc, rfl, t⟩ := t
  rw [hol]
  refine gcalls_in (pl := pl147) [.cell 4 60, .tmp 5] mixed Tryz.func147 rfl rfl (by exact ok147) ?_
  simp only [go_sem]
  refine callK_intro (c_num0) ?_
  rintro _ h1 ⟨hle1, rfl⟩
  simp only [go_sem, Nat.reduceBEq, Nat.reduceAdd, ↓reduceIte]
  have hle1' := (GH.le_alloc h zB).trans hle1
  have hn1 : h.n < h1.n := Nat.lt_of_lt_of_le (Nat.lt_succ_self _) hle1.1
  have hb1 : h1.b h.n = zB := by rw [hle1.2 _ (Nat.lt_succ_self _), alloc_self]
  refine loopK_inv (α := Nat) (fun i => a.length - i) (fun i ts g' => ts 0 = .slice (some ⟨g, o, none⟩) a.length c ∧ ts 1 = .slice (some ⟨tg, to, none⟩) a.length tc ∧ ts 4 = .pointer (some ⟨h.n, 0, none⟩) ∧ ts 6 = .pointer (some ⟨h1.n, 0, none⟩) ∧ ts 12 = .slice (some ⟨tg, to, none⟩) a.length tc ∧ ts 13 = .int .i64 a.length ∧ ts 14 = .int .i64 i ∧ i ≤ a.length ∧ h.le g' ∧ h1.n < g'.n ∧ g'.b h.n = zB ∧ g'.b h1.n = rB (if i = 0 then 0 else x)) ?_ (a0 := 0) ?_
  · rintro i ts g' ⟨h0, hb0, h4, h6, h12, h13, h14, hi, hle, hn, hz, hk⟩
    simp only [go_sem, h13, h14]
    refine ifK_intro (fun c1 => ?_) (fun c1 => ?_)
    · have c1' := of_decide_eq_true c1
      have wi : IntKind.i64.wrap ((i : Int) + 1) = ((i + 1 : Nat) : Int) := wrap_i64 (by omega) (by omega)
      have hl1 := (t.mono hle).load (rats_get (oct_at (n := a.length) (i := i) (by omega)))
      rcases Nat.eq_zero_or_pos i with h00 | h00
      · subst h00
        rw [if_pos rfl] at hl1 hk
        have hl2 := ((s.mono hle).mono (GH.le_alloc g' (rB 1))).load (rats_get hx)
        rw [Nat.zero_mul, Nat.add_zero] at hl1 hl2
        have en : ¬ ((1 : Rat).num = 0) := by decide
        have hp0 : (0 : Int) < a.length := by omega
        simp only [go_sem, Nat.reduceBEq, Nat.reduceAdd, Nat.reduceMul, Int.reduceLE, Int.reduceToNat, Array.reduceGetElem?, ↓reduceIte, h0, h12, h14, hl1, ne_eq, not_false_eq_true, enc_eq_zero, en, hp0, pl147]
        have r0 := RatAt.new g' 1
        simp only [go_sem, Nat.reduceBEq, Array.reduceGetElem?, hl2, hp0, r0.l2]
        refine callK_intro (c_fDiv1 x hsx) ?_
        rintro _ h2 ⟨hle2, rfl⟩
        have le02 := (GH.le_alloc g' (rB 1)).trans hle2
        have l2 := ((s.mono hle).mono le02).load (rats_get hx)
        rw [Nat.zero_mul, Nat.add_zero] at l2
        have k2 : h1.n < h2.n := Nat.lt_of_lt_of_le hn le02.1
        have b2 : h2.b h1.n = zB ∨ True := .inr trivial
        have st := cells_store (vs := [.string (enc x.num), .string (enc (x.den : Int))]) k2 ((le02.2 _ hn).trans hk) rfl rfl
        simp only [go_sem, Nat.reduceBEq, Nat.reduceAdd, Int.reduceAdd, Array.reduceGetElem?, ↓reduceIte, h0, hb0, h4, h6, h12, h13, h14, st]
        refine ⟨1, by omega, ?_, by omega, (hle.trans le02).upd (by omega) _, k2, ?_, ?_⟩
        · rw [show IntKind.i64.wrap 1 = 1 by decide]; rfl
        · rw [upd_ne _ _ (by omega), le02.2 _ (by omega), hz]
        · rw [upd_self]; rfl
      · rw [if_neg (by omega)] at hl1 hk
        have en : ((0 : Rat).num = 0) := rfl
        have en2 : enc 0 = ⟨#[48]⟩ := rfl
        simp only [go_sem, Nat.reduceBEq, Nat.reduceAdd, ↓reduceIte, h0, hb0, h4, h6, h12, h13, h14, c1', hl1, ne_eq, not_true_eq_false, en2, en, wi]
        exact ⟨i + 1, by omega, rfl, by omega, hle.trans (GH.le_alloc _ _), by omega, (alloc_b_lt _ _ (by omega)).trans hz, by rw [if_neg (by omega)]; exact (alloc_b_lt _ _ hn).trans hk⟩
    · have c1' := of_decide_eq_false c1
      obtain rfl : i = a.length := by omega
      rw [if_neg (by omega)] at hk
      simp only [go_sem, Nat.reduceBEq, hb0, c1]
      refine loopK_inv (α := Nat) (fun i => a.length - i) (fun i ts g2 => ts 0 = .slice (some ⟨g, o, none⟩) a.length c ∧ ts 4 = .pointer (some ⟨h.n, 0, none⟩) ∧ ts 6 = .pointer (some ⟨h1.n, 0, none⟩) ∧ ts 32 = .slice (some ⟨tg, to, none⟩) a.length tc ∧ ts 33 = .int .i64 a.length ∧ ts 34 = .int .i64 i ∧ i ≤ a.length ∧ h.le g2 ∧ h1.n < g2.n ∧ g2.b h.n = zB ∧ g2.b h1.n = rB x ∧ ∀ (j : Nat) (q : Rat), 0 < j → j < i → a[j]? = some q → q = 0) ?_ (a0 := 0) ?_
      · rintro i ts g2 ⟨h0, h4, h6, h32, h33, h34, hi, hle, hn, hz, hk, hal⟩
        have t6 := (⟨hn, hk⟩ : RatAt g2 h1.n x)
        simp only [go_sem, h33, h34]
        refine ifK_intro (fun c2 => ?_) (fun c2 => ?_)
        · have c2' := of_decide_eq_true c2
          have wi : IntKind.i64.wrap ((i : Int) + 1) = ((i + 1 : Nat) : Int) := wrap_i64 (by omega) (by omega)
          obtain ⟨q, hq⟩ : ∃ q, a[i]? = some q := ⟨_, List.getElem?_eq_getElem (by omega)⟩
          obtain ⟨e, he⟩ : ∃ e : Rat, e = if i = 0 then 1 else 0 := ⟨_, rfl⟩
          have hl1 := (t.mono hle).load (rats_get (oct_at (n := a.length) (i := i) (by omega)))
          rw [← he] at hl1
          have r0 := RatAt.new g2 e
          have t60 := t6.mono (GH.le_alloc g2 (rB e))
          have hse : SmR e ∧ SmR (x * e) := by
            subst he
            split
            · rw [Rat.mul_one]; exact ⟨SmR.one, hsx⟩
            · rw [Rat.mul_zero]; exact ⟨SmR.zero, SmR.zero⟩
          have hl0 := ((s.mono hle).mono (GH.le_alloc g2 (rB e))).load (rats_get hq)
          simp only [go_sem, Nat.reduceBEq, Nat.reduceAdd, Array.reduceGetElem?, ↓reduceIte, h0, h6, h32, h34, c2', hl1, t60.l2, r0.l2, hl0, pl147]
          refine callK_intro (c_fMul x e hsx hse.1 hse.2) ?_
          rintro _ h3 ⟨hle3, rfl⟩
          have le3 := (GH.le_alloc g2 (rB e)).trans hle3
          have hl3 := ((s.mono hle).mono le3).load (rats_get hq)
          simp only [go_sem, Nat.reduceBEq, Array.reduceGetElem?, ↓reduceIte, hl3, rat_eq]
          have le3n := le3.1
          refine ifK_intro (fun c3 => ?_) (fun c3 => ?_)
          · have c3' := of_decide_eq_true c3
            simp only [go_sem, Nat.reduceBEq, h0, h4, h6, h32, h33, h34, wi]
            refine ⟨i + 1, by omega, rfl, by omega, hle.trans le3, by omega, (le3.2 _ (by omega)).trans hz, (le3.2 _ hn).trans hk, fun j q' k1 k2 k3 => ?_⟩
            rcases Nat.lt_or_ge j i with hji | hji
            · exact hal j q' k1 hji k3
            · obtain rfl : j = i := by omega
              rw [hq] at k3
              injection k3 with k3
              rw [← k3, ← c3', he, if_neg (by omega), Rat.mul_zero]
          · have c3' := of_decide_eq_false c3
            have g3 : h.n < h3.n := by omega
            have st := cell2_store g3 ((le3.2 _ (by omega)).trans hz) (x := enc x.num) (y := enc (x.den : Int))
            have hi0 : 0 < i := by
              rcases Nat.eq_zero_or_pos i with h | h
              · subst h
                rw [if_pos rfl] at he
                rw [hx] at hq
                injection hq with hq
                exact absurd (by rw [he, Rat.mul_one, hq]) c3'
              · exact h
            have hfl := flat0L_false hi0 hq (by
              rintro rfl
              exact c3' (by rw [he, if_neg (by omega), Rat.mul_zero]))
            simp only [go_sem, Nat.reduceBEq, Nat.reduceAdd, ↓reduceIte, h4, h6, c3, (t60.mono hle3).l2, st, cell2_load g3]
            exact ⟨(hle.trans le3).upd (Nat.le_refl _) _, by rw [hfl]⟩
        · have c2' := of_decide_eq_false c2
          obtain rfl : i = a.length := by omega
          have hfl := flat0L_true (a := a) fun j q h1 h2 => hal j q h1 (List.getElem?_eq_some_iff.1 h2).1 h2
          have g1 : h.n < g2.n := by omega
          have st := cell2_store g1 hz (x := enc x.num) (y := enc (x.den : Int))
          simp only [go_sem, Nat.reduceBEq, Nat.reduceAdd, ↓reduceIte, h4, h6, c2, t6.l2, st, cell2_load g1]
          exact ⟨hle.upd (Nat.le_refl _) _, by rw [hfl]⟩
      · simp only [go_sem, Nat.reduceBEq, h0, h4, h6]
        exact ⟨Nat.zero_le _, hle, hn, hz, hk, fun j q h1 h2 => absurd h2 (by omega)⟩
  · simp only [go_sem, Nat.reduceBEq, ↓reduceIte]
    exact ⟨Nat.zero_le _, hle1'.trans (GH.le_alloc _ _), Nat.lt_succ_self _, (alloc_b_lt _ _ hn1).trans hb1, alloc_self _ _⟩
end Go.Proofs.Gh
namespace Go.Proofs.Gh
open Go Go.Proofs Go.Proofs.Zz
set_option maxRecDepth 10000
set_option linter.unusedSimpArgs false
theorem mul_bd {n A m : Int} (h1 : -m ≤ n) (h2 : n ≤ m) (hA : 0 ≤ A) (hA2 : A ≤ 155821957) : -(m * 155821957) ≤ n * A ∧ n * A ≤ m * 155821957 := by
  have hm : 0 ≤ m := by omega
  have e1 : n * A ≤ m * A := Int.mul_le_mul_of_nonneg_right h2 hA
  have e2 : -m * A ≤ n * A := Int.mul_le_mul_of_nonneg_right h1 hA
  have e3 : m * A ≤ m * 155821957 := Int.mul_le_mul_of_nonneg_left hA2 hm
  rw [Int.neg_mul] at e2
  omega
theorem lg_bd (p : Int) : 0 ≤ lgA p ∧ lgA p ≤ 155821957 ∧ 0 ≤ lgB p ∧ lgB p ≤ 155821957 ∧ lgA p ≤ lgB p := by
  unfold lgB lgA
  split
  · omega
  · split <;> omega
theorem lo_bd {m : Int} : ∀ {ts : List (Int × Int)}, TsOk m ts → -((ts.length : Int) * (m * 155821957)) ≤ loT ts ∧ loT ts ≤ hiT ts ∧ hiT ts ≤ (ts.length : Int) * (m * 155821957)
  | [], _ => by simp [loT, hiT]
  | t :: ts, h => by
    obtain ⟨_, h2, h3⟩ := h t List.mem_cons_self
    obtain ⟨i1, i2, i3⟩ := lo_bd (ts := ts) fun u hu => h u (List.mem_cons_of_mem _ hu)
    obtain ⟨a1, a2, a3, a4, _⟩ := lg_bd t.1
    have b1 := mul_bd h2 h3 a1 a2
    have b2 := mul_bd h2 h3 a3 a4
    have e : ((t :: ts).length : Int) * (m * 155821957) = (ts.length : Int) * (m * 155821957) + m * 155821957 := by
      rw [List.length_cons, Int.natCast_add, Int.add_mul]; simp
    rw [loT, hiT, e]
    omega
def flQ (p : List Int) (a : List Rat) : Int := if flat0L a then (a[0]?.getD 0).floor else loT (tsOf p a) / (67108864 * (lc a a.length : Nat))
/-- a size whose quotient by the octave the quick bounds tell -/
structure FlOk (p : List Int) (a : List Rat) : Prop where
  fit : Fit 100000 p a
  den : lc a a.length ≤ 10000
  same : flat0L a = false → loT (tsOf p a) / (67108864 * (lc a a.length : Nat)) = hiT (tsOf p a) / (67108864 * (lc a a.length : Nat))
  sm : Sm (flQ p a)
theorem sel_ne {p : List Int} {l : List Rat} {D : Nat} {i : Nat} {q : Rat} (hq : l[i]? = some q) (h0 : q ≠ 0) : ∀ {n : Nat}, i < n → sel p l D n ≠ []
  | n + 1, hi => by
    rw [sel]
    rcases Nat.lt_or_ge i n with h | h
    · split
      · exact sel_ne hq h0 h
      · simp
    · obtain rfl : i = n := by omega
      rw [hq]
      rw [if_neg (by
        show ¬ q.num = 0
        intro hz
        exact h0 (Rat.num_eq_zero.1 hz))]
      simp
theorem ts_ne {p : List Int} {a : List Rat} (h : flat0L a = false) : tsOf p a ≠ [] := by
  rw [flat0L, List.all_eq_false] at h
  obtain ⟨q, hq, h0⟩ := h
  obtain ⟨i, hi⟩ := List.getElem?_of_mem hq
  rw [List.getElem?_drop] at hi
  exact sel_ne hi (by simpa using h0) (List.getElem?_eq_some_iff.1 hi).1
theorem oct_ts {p : List Int} (hP : Pr p) : tsOf p (oct p.length) = [(2, 1)] ∧ lc (oct p.length) (oct p.length).length = 1 := by
  rcases hP with rfl | rfl <;> decide +kernel
theorem oct_fit {p : List Int} (hP : Pr p) : Fit 100000 p (oct p.length) := by
  have hpl := hP.len
  refine ⟨oct_length (by omega), oct_sm _, ?_, ?_⟩
  · rcases hP with rfl | rfl
    · have : ∀ i : Fin 3, lc (oct 2) i.1 = 1 := by decide +kernel
      intro i hi
      have e : lc (oct 2) i = 1 := this ⟨i, by simp [oct] at hi; omega⟩
      show Sm ((lc (oct 2) i : Nat) : Int)
      rw [e]; decide
    · have : ∀ i : Fin 4, lc (oct 3) i.1 = 1 := by decide +kernel
      intro i hi
      have e : lc (oct 3) i = 1 := this ⟨i, by simp [oct] at hi; omega⟩
      show Sm ((lc (oct 3) i : Nat) : Int)
      rw [e]; decide
  · intro i q hq
    rw [(oct_ts hP).2]
    have hi := (List.getElem?_eq_some_iff.1 hq).1
    rw [oct_length (by omega)] at hi
    rw [oct_at hi] at hq
    injection hq with hq
    subst hq
    split <;> decide
/-- two blocks of three cells, laid and then filled -/
theorem two_tri {h : GH} {g1 o1 n1 c1 g2 o2 n2 c2 g3 o3 n3 c3 g4 o4 n4 c4 : Nat} {s1 s2 : ByteArray} : ∃ H1 H, ((h.alloc ⟨tz, true, false⟩).alloc ⟨tz, true, false⟩).store h.n 0 [.slice (some ⟨g1, o1, none⟩) n1 c1, .slice (some ⟨g2, o2, none⟩) n2 c2, .string s1] = some H1 ∧
    H1.store (h.n + 1) 0 [.slice (some ⟨g3, o3, none⟩) n3 c3, .slice (some ⟨g4, o4, none⟩) n4 c4, .string s2] = some H ∧ h.le H ∧
    Tri H h.n (.slice (some ⟨g1, o1, none⟩) n1 c1) (.slice (some ⟨g2, o2, none⟩) n2 c2) (.string s1) ∧ Tri H (h.n + 1) (.slice (some ⟨g3, o3, none⟩) n3 c3) (.slice (some ⟨g4, o4, none⟩) n4 c4) (.string s2) := by
  have b0 : ((h.alloc ⟨tz, true, false⟩).alloc ⟨tz, true, false⟩).b h.n = ⟨tz, true, false⟩ := by rw [alloc_b_lt _ _ (Nat.lt_succ_self _), alloc_self]
  have b1 : ((h.alloc ⟨tz, true, false⟩).alloc ⟨tz, true, false⟩).b (h.n + 1) = ⟨tz, true, false⟩ := alloc_self (h.alloc ⟨tz, true, false⟩) _
  have n0 : h.n < ((h.alloc ⟨tz, true, false⟩).alloc ⟨tz, true, false⟩).n := by show h.n < h.n + 1 + 1; omega
  have n1 : h.n + 1 < ((h.alloc ⟨tz, true, false⟩).alloc ⟨tz, true, false⟩).n := by show h.n + 1 < h.n + 1 + 1; omega
  refine ⟨_, _, cells_store n0 b0 rfl rfl, cells_store n1 ((upd_ne _ _ (by omega)).trans b1) rfl rfl, ((((GH.le_alloc _ _).trans (GH.le_alloc _ _)).upd (Nat.le_refl _) _).upd (by omega) _), ⟨n0, ?_⟩, ⟨n1, upd_self _ _ _⟩⟩
  rw [upd_ne _ _ (by omega), upd_self]
theorem c_floor {h : GH} {pv av bv : Value} {p : List Int} {a : List Rat} (hP : Pr p) (hp : PrAt h pv p) (s : SzAt h av a) (t : SzAt h bv (oct p.length)) (f : FlOk p a) :
    ∃ r h', GCalls Tryz.prog gE 110 #[pv, av, bv] h r h' ∧ h.le h' ∧ r = istr (flQ p a) := by
  have hpl := hP.len
  have hal := f.fit.len
  obtain ⟨x, hx⟩ : ∃ x, a[0]? = some x := ⟨_, List.getElem?_eq_getElem (by omega)⟩
  have hsx := f.fit.sm x (List.mem_of_getElem? hx)
  refine gcalls_in (pl := pl110) [.tmp 6] mixed Tryz.func110 rfl rfl (by exact ok110) ?_
  simp only [go_sem, Nat.reduceBEq]
  refine callK_intro (c_ratio hx (by omega) f.fit.sm s (hal ▸ t)) ?_
  rintro _ h1 ⟨hle1, rfl⟩
  simp only [go_sem, Nat.reduceBEq, Nat.reduceAdd, Array.reduceGetElem?, ↓reduceIte]
  refine ifK_intro (fun c1 => ?_) (fun c1 => ?_)
  · simp only [go_sem, Nat.reduceBEq, c1]
    refine callK_intro (c_fFloor x hsx) ?_
    rintro _ h2 ⟨hle2, rfl⟩
    simp only [go_sem]
    exact ⟨(hle1.trans (GH.le_alloc _ _)).trans hle2, by rw [flQ, if_pos c1, hx]; rfl⟩
  · have le2 := hle1.trans (GH.le_alloc h1 (rB x))
    simp only [go_sem, Nat.reduceBEq, c1]
    refine callK_intro (c_termsOf' hP (hp.mono le2) (s.mono le2) (by decide) f.fit) ?_
    rintro tv h2 ⟨hle2, ht⟩
    have le3 := le2.trans hle2
    simp only [go_sem, Nat.reduceBEq, c1]
    refine callK_intro (c_termsOf' hP (hp.mono le3) (t.mono le3) (by decide) (oct_fit hP)) ?_
    rintro ov h3 ⟨hle3, ho⟩
    rw [(oct_ts hP).1, (oct_ts hP).2] at ho
    have hne := ts_ne (p := p) c1
    obtain ⟨g1, o1, c1', g2, o2, c2', rfl⟩ := ht.form hne
    obtain ⟨g3, o3, c3', g4, o4, c4', rfl⟩ := ho.form (by simp)
    obtain ⟨H1, H, st1, st2, hleH, tr1, tr2⟩ := two_tri (h := h3) (g1 := g1) (o1 := o1) (n1 := (tsOf p a).length) (c1 := c1') (g2 := g2) (o2 := o2) (n2 := (tsOf p a).length) (c2 := c2') (g3 := g3) (o3 := o3) (n3 := 1) (c3 := c3') (g4 := g4) (o4 := o4) (n4 := 1) (c4 := c4') (s1 := enc (lc a a.length : Nat)) (s2 := enc 1)
    have hbd := lo_bd (f.fit.ts hP)
    have htl := tsOf_len p a
    have htl2 : ((tsOf p a).length : Int) * (100000 * 155821957) ≤ 3 * (100000 * 155821957) := Int.mul_le_mul_of_nonneg_right (by omega) (by decide)
    simp only [go_sem, Nat.reduceBEq, Nat.reduceAdd, ↓reduceIte, c1, List.length_cons, List.length_nil, st1, st2, tr1.l3, tr2.l3]
    refine callK_intro (c_quotient (f.fit.ts hP) hne (by omega) (lc_pos _ _) f.den (ht.mono (hle3.trans hleH)) (ho.mono hleH) (f.same c1) ⟨by omega, by omega⟩) ?_
    rintro _ h5 ⟨hle5, rfl⟩
    simp only [go_sem, Nat.reduceBEq, Array.reduceGetElem?]
    have hfl : flQ p a = loT (tsOf p a) / (67108864 * (lc a a.length : Nat)) := by rw [flQ, c1]; rfl
    rw [← hfl]
    refine callK_intro (c_wholeOf (flQ p a) f.sm) ?_
    rintro _ h6 ⟨hle6, rfl⟩
    simp only [go_sem]
    exact ((le3.trans hle3).trans hleH).trans (hle5.trans hle6)
end Go.Proofs.Gh
namespace Go.Proofs.Gh
open Go Go.Proofs Go.Proofs.Zz
set_option maxRecDepth 10000
set_option linter.unusedSimpArgs false
theorem c_checkQ {h : GH} {pv av bv : Value} {p : List Int} {a : List Rat} (hP : Pr p) (hp : PrAt h pv p) (s : SzAt h av a) (t : SzAt h bv (oct p.length)) (hl : a.length = p.length) (ha : SmL a) :
    ∃ r h', GCalls Tryz.prog gE 109 #[pv, av, bv] h r h' ∧ h.le h' ∧ r = .int .i64 0 := by
  have hpl := hP.len
  have s' := s
  have t' := t
  obtain ⟨g, o, c, rfl, s⟩ := s
  obtain ⟨tg, to, tc, rfl, t⟩ := t
  have L1 := LsAt.built2 s' t'
  have hol := oct_length (n := p.length) (by omega)
  refine gcalls_in (pl := noPl) [.tmp 6] mixed Tryz.func109 rfl rfl (by exact ok109) ?_
  simp only [go_sem, Nat.reduceBEq, Nat.reduceAdd, Nat.reduceLeDiff, Nat.reduceLT, ↓reduceIte]
  refine callK_intro (c_CheckAll hP (hp.mono (GH.le_alloc _ _)) L1 (by simp) (pair_len hl hol ha (oct_sm _))) ?_
  rintro _ h1 ⟨hle1, rfl⟩
  have le1 := (GH.le_alloc h ⟨[.slice (some ⟨g, o, none⟩) a.length c, .slice (some ⟨tg, to, none⟩) (oct p.length).length tc], true, false⟩).trans hle1
  simp only [go_sem, Nat.reduceBEq, Int.reduceNe]
  refine callK_intro (c_termsOf' hP (hp.mono le1) (t'.mono le1) (by decide) (oct_fit hP)) ?_
  rintro ov h2 ⟨hle2, ho⟩
  rw [(oct_ts hP).1, (oct_ts hP).2] at ho
  obtain ⟨g3, o3, c3', g4, o4, c4', rfl⟩ := ho.form (by simp)
  simp only [go_sem, Int.reduceEq, Array.reduceGetElem?, List.length_cons, List.length_nil]
  exact le1.trans hle2
theorem c_sizeFloor {h : GH} {pv av bv : Value} {p : List Int} {a : List Rat} (hP : Pr p) (hp : PrAt h pv p) (s : SzAt h av a) (t : SzAt h bv (oct p.length)) (f : FlOk p a) :
    ∃ r h', GCalls Tryz.prog gE 73 #[pv, av, bv] h r h' ∧ h.le h' ∧ r = .tuple #[istr (flQ p a), .int .i64 0] := by
  refine gcalls_in (pl := noPl) [.tmp 6, .tmp 7] mixed Tryz.func73 rfl rfl (by exact ok73) ?_
  simp only [go_sem, Nat.reduceBEq]
  refine callK_intro (c_checkQ hP hp s t f.fit.len f.fit.sm) ?_
  rintro _ h1 ⟨hle1, rfl⟩
  simp only [go_sem, Nat.reduceBEq, Int.reduceNe]
  refine callK_intro (c_floor hP (hp.mono hle1) (s.mono hle1) (t.mono hle1) f) ?_
  rintro _ h2 ⟨hle2, rfl⟩
  simp only [go_sem, Nat.reduceBEq]
  exact hle1.trans hle2
/-- the rest modulo the octave -/
def redQ (p : List Int) (a : List Rat) : List Rat := addL a (scaleL (oct a.length) (-(flQ p a : Rat)))
theorem sumL_red {a b : List Rat} {y : Rat} (hl : b.length = a.length) : sumL a.length [a, b] [1, y] = addL a (scaleL b y) := by
  apply List.ext_getElem
  · simp [sumL, addL, scaleL, hl]
  · intro i h1 h2
    have hi : i < a.length := by simpa [sumL] using h1
    have hi2 : i < b.length := by omega
    simp [sumL, addL, scaleL, ps, hi, hi2, Rat.zero_add]
theorem c_Remainder {h : GH} {pv av bv : Value} {p : List Int} {a : List Rat} (hP : Pr p) (hp : PrAt h pv p) (s : SzAt h av a) (t : SzAt h bv (oct p.length)) (f : FlOk p a) (hr : SmL (redQ p a)) :
    ∃ r h', GCalls Tryz.prog gE 103 #[pv, av, bv] h r h' ∧ h.le h' ∧ ∃ v, r = .tuple #[v, .int .i64 0] ∧ SzAt h' v (redQ p a) := by
  have hpl := hP.len
  have hal := f.fit.len
  have hol := oct_length (n := p.length) (by omega)
  have hk : SmR (-(flQ p a : Rat)) := ⟨by
    show Sm (-(flQ p a : Int))
    show Int.natAbs _ < _
    rw [Int.natAbs_neg]; exact f.sm, by show Sm 1; decide⟩
  obtain ⟨y1, y2⟩ := two_hyps (a := a) (b := oct p.length) (x := 1) (y := -(flQ p a : Rat)) hal hol (fun j q hq => by rw [Rat.mul_one]; exact f.fit.sm q (List.mem_of_getElem? hq)) (fun j q hq => by
      have hj := (List.getElem?_eq_some_iff.1 hq).1
      rw [hol] at hj
      rw [oct_at hj] at hq
      injection hq with hq
      subst hq
      split
      · rw [Rat.one_mul]; exact hk
      · rw [Rat.zero_mul]; exact SmR.zero)
    (fun j q r hq hr2 => by
      rw [Rat.mul_one]
      refine hr _ ?_
      have : (redQ p a)[j]? = some (q + r * -(flQ p a : Rat)) := by
        rw [redQ, addL, scaleL, hal, List.getElem?_zipWith, hq, List.getElem?_map, hr2]
        rfl
      exact List.mem_of_getElem? this)
  have s' := s
  have t' := t
  have hp' := hp
  obtain ⟨pg, po, pc, rfl, hp⟩ := hp
  obtain ⟨g, o, c, rfl, s⟩ := s
  obtain ⟨tg, to, tc, rfl, t⟩ := t
  refine gcalls_in (pl := pl103) [.tmp 6, .tmp 7] mixed Tryz.func103 rfl rfl (by exact ok103) ?_
  simp only [go_sem, Nat.reduceBEq]
  refine callK_intro (c_checkQ hP hp' s' t' hal f.fit.sm) ?_
  rintro _ h1 ⟨hle1, rfl⟩
  simp only [go_sem, Nat.reduceBEq, Int.reduceNe]
  refine callK_intro (c_floor hP (hp'.mono hle1) (s'.mono hle1) (t'.mono hle1) f) ?_
  rintro _ h2 ⟨hle2, rfl⟩
  simp only [go_sem]
  refine callK_intro (c_Neg (flQ p a) f.sm) ?_
  rintro _ h3 ⟨hle3, rfl⟩
  have le3 := (hle1.trans hle2).trans hle3
  simp only [go_sem, Nat.reduceBEq, Nat.reduceAdd, Nat.reduceLeDiff, Nat.reduceLT, Array.reduceGetElem?, ↓reduceIte, pl103]
  obtain ⟨M, hM⟩ : ∃ M, (h3.alloc ⟨[.string (enc (-flQ p a)), .string ⟨#[49]⟩], true, false⟩).alloc ⟨[.slice (some ⟨g, o, none⟩) a.length c, .slice (some ⟨tg, to, none⟩) (oct p.length).length tc], true, false⟩ = M := ⟨_, rfl⟩
  have r0 : RatAt M h3.n (-(flQ p a : Rat)) := by rw [← hM]; exact (RatAt.new h3 (-(flQ p a : Rat))).mono (GH.le_alloc _ _)
  have L1 : LsAt M (.slice (some ⟨h3.n + 1, 0, none⟩) 2 2) [a, oct p.length] := by rw [← hM]; exact LsAt.built2 (h := h3.alloc ⟨[.string (enc (-flQ p a)), .string ⟨#[49]⟩], true, false⟩) ((s'.mono le3).mono (GH.le_alloc _ _)) ((t'.mono le3).mono (GH.le_alloc _ _))
  have leM : h.le M := by rw [← hM]; exact (le3.trans (GH.le_alloc _ _)).trans (GH.le_alloc _ _)
  simp only [go_sem, Array.reduceGetElem?, hM, r0.l2]
  refine callK_intro (c_num1) ?_
  rintro _ h4 ⟨hle4, rfl⟩
  rw [hM] at hle4
  simp only [go_sem, Nat.reduceBEq, Nat.reduceAdd, Nat.reduceMul, Nat.reduceLeDiff, Nat.reduceLT, Array.reduceGetElem?, ↓reduceIte, (r0.mono hle4).l2]
  have F1 := SzAt.built2 (h := h4) 1 (-(flQ p a : Rat))
  have le5 := (leM.trans hle4).trans (GH.le_alloc h4 ⟨[.string (enc (1 : Rat).num), .string (enc ((1 : Rat).den : Int)), .string (enc (-(flQ p a : Rat)).num), .string (enc ((-(flQ p a : Rat)).den : Int))], true, false⟩)
  refine callK_intro (c_sum (n := p.length) (by omega) (L1.mono (hle4.trans (GH.le_alloc h4 _))) F1 rfl (by simp) (pair_len hal hol f.fit.sm (oct_sm _)) (fun q hq => by
    rcases List.mem_cons.1 hq with rfl | hq
    · exact SmR.one
    · rw [List.mem_singleton.1 hq]; exact hk) y1 y2) ?_
  rintro v h5 ⟨hle5, hv⟩
  rw [← hal, sumL_red (oct_length (by omega)), ← redQ] at hv
  simp only [go_sem, Array.reduceGetElem?]
  refine callK_intro (c_result hv (by simp [redQ, addL]; omega) hr) ?_
  rintro _ h6 ⟨hle6, rfl⟩
  simp only [go_sem, Nat.reduceBEq, Array.reduceGetElem?]
  exact ⟨(le5.trans hle5).trans hle6, v, rfl, hv.mono hle6⟩
theorem c_reduce {h : GH} {pv av bv : Value} {p : List Int} {a : List Rat} (hP : Pr p) (hp : PrAt h pv p) (s : SzAt h av a) (t : SzAt h bv (oct p.length)) (f : FlOk p a) (hr : SmL (redQ p a)) :
    ∃ r h', GCalls Tryz.prog gE 66 #[pv, bv, av] h r h' ∧ h.le h' ∧ ∃ v, r = .tuple #[v, istr (flQ p a), .int .i64 0] ∧ SzAt h' v (redQ p a) := by
  refine gcalls_in (pl := noPl) [.tmp 6, .tmp 7, .tmp 8] mixed Tryz.func66 rfl rfl (by exact ok66) ?_
  simp only [go_sem, Nat.reduceBEq]
  refine callK_intro (c_sizeFloor hP hp s t f) ?_
  rintro _ h1 ⟨hle1, rfl⟩
  simp only [go_sem, Nat.reduceBEq, Int.reduceNe, Array.reduceGetElem?]
  refine callK_intro (c_Remainder hP (hp.mono hle1) (s.mono hle1) (t.mono hle1) f hr) ?_
  rintro _ h2 ⟨hle2, v, rfl, hv⟩
  simp only [go_sem, Nat.reduceBEq, Int.reduceNe, Array.reduceGetElem?]
  exact ⟨hle1.trans hle2, v, rfl, hv⟩
theorem c_checkPeriod {h : GH} {pv sv : Value} {p : List Int} {l : List Rat} (hP : Pr p) (hp : PrAt h pv p) (s : SzAt h sv l) (f : Fit 9999999 p l) (hd : Dec p l) (hs : 0 < sgn p l) :
    ∃ r h', GCalls Tryz.prog gE 51 #[pv, sv] h r h' ∧ h.le h' ∧ r = .int .i64 0 := by
  have k1 : ¬ sgn p l ≤ 0 := by omega
  refine gcalls_in (pl := noPl) [.tmp 4] mixed Tryz.func51 rfl rfl (by exact ok51) ?_
  simp only [go_sem, Nat.reduceBEq]
  refine callK_intro (c_sizeSign hP hp s f hd) ?_
  rintro _ h1 ⟨hle1, rfl⟩
  simp only [go_sem, Nat.reduceBEq, Int.reduceNe, Array.reduceGetElem?, k1]
  exact hle1
theorem SzAt.row {h : GH} {g n : Nat} {l : List Rat} (hg : g < h.n) (hb : h.b g = Row (l.map rc)) (hl : l.length = n) (hn : n ≤ 1000) : SzAt h (.slice (some ⟨g, 0, none⟩) n n) l := by
  subst hl
  exact ⟨g, 0, l.length, rfl, row_at hg hb rc_len ⟨by simp, fun hu => by simp only [unk] at hu; omega⟩⟩
def zeroL (n : Nat) : List Rat := List.replicate n 0
theorem c_Zero {h : GH} {pv : Value} {p : List Int} (hP : Pr p) (hp : PrAt h pv p) : ∃ r h', GCalls Tryz.prog gE 68 #[pv] h r h' ∧ h.le h' ∧ ∃ v, r = .tuple #[v, .int .i64 0] ∧ SzAt h' v (zeroL p.length) := by
  have hpl := hP.len
  obtain ⟨pg, po, pc, rfl, hp⟩ := hp
  refine gcalls_in (pl := noPl) [.tmp 2, .tmp 3] mixed Tryz.func68 rfl rfl (by exact ok68) ?_
  simp only [go_sem, Nat.reduceBEq]
  refine callK_intro (c_pCheck hP hp) ?_
  rintro _ h1 ⟨hle1, rfl⟩
  simp only [go_sem, Nat.reduceBEq, Int.reduceNe]
  refine callK_intro (c_zero p.length (by omega)) ?_
  rintro _ h2 ⟨hle2, rfl, hlt, hb⟩
  simp only [go_sem, Nat.reduceBEq]
  exact ⟨hle1.trans hle2, _, rfl, SzAt.row hlt hb (by simp [zeroL]) (by omega)⟩
theorem c_integer {h : GH} (z : Int) (hz : Sm z) : ∃ r h', GCalls Tryz.prog gE 53 #[.int .i64 z] h r h' ∧ h.le h' ∧ r = rv (z : Rat) := by
  refine gcalls_in (pl := noPl) [.cell 2 60] mixed Tryz.func53 rfl rfl (by exact ok53) ?_
  simp only [go_sem, Nat.reduceBEq]
  refine callK_intro (c_wholeOf z hz) ?_
  rintro _ h1 ⟨hle1, rfl⟩
  have g1 : h.n < h1.n := Nat.lt_of_lt_of_le (Nat.lt_succ_self _) hle1.1
  have b1 : h1.b h.n = zB := by rw [hle1.2 _ (Nat.lt_succ_self _), alloc_self]
  simp only [go_sem, Nat.reduceBEq, Nat.reduceAdd, Nat.reduceLeDiff, ↓reduceIte, cell2_store g1 b1, cell2_load g1]
  exact ⟨((GH.le_alloc _ _).trans hle1).upd (Nat.le_refl _) _, rfl⟩
end Go.Proofs.Gh
namespace Go.Proofs.Gh
open Go Go.Proofs Go.Proofs.Zz
set_option maxRecDepth 10000
set_option linter.unusedSimpArgs false
/-- two cells in a block -/
structure Duo (h : GH) (g : Nat) (a b : Value) : Prop where
  lt : g < h.n
  b : h.b g = ⟨[a, b], true, false⟩
theorem Duo.mono {h h' : GH} {g : Nat} {a b : Value} (t : Duo h g a b) (hl : h.le h') : Duo h' g a b := ⟨Nat.lt_of_lt_of_le t.lt hl.1, (hl.2 g t.lt).trans t.b⟩
theorem Duo.new (h : GH) (a b : Value) : Duo (h.alloc ⟨[a, b], true, false⟩) h.n a b := ⟨Nat.lt_succ_self _, alloc_self _ _⟩
section
variable {h : GH} {g : Nat} {a b : Value}
theorem Duo.l0 (t : Duo h g a b) : h.load g 0 1 = some [a] := load_one_at t.lt t.b rfl
theorem Duo.l1 (t : Duo h g a b) : h.load g 1 1 = some [b] := load_one_at t.lt t.b rfl
theorem Duo.l2 (t : Duo h g a b) : h.load g 0 2 = some [a, b] := load_at t.lt t.b (by simp) rfl
end
/-- a scale -/
def ScAt (h : GH) (v : Value) (p : List Int) (N : List (List Rat)) : Prop := ∃ pv nv, v = .agg #[pv, nv] ∧ PrAt h pv p ∧ LsAt h nv N
theorem ScAt.mono {h h' : GH} {v : Value} {p : List Int} {N : List (List Rat)} (t : ScAt h v p N) (hl : h.le h') : ScAt h' v p N := by
  obtain ⟨pv, nv, e, s1, s2⟩ := t
  exact ⟨pv, nv, e, s1.mono hl, s2.mono hl⟩
theorem ScAt.form {h : GH} {v : Value} {p : List Int} {N : List (List Rat)} (t : ScAt h v p N) : ∃ g o c g2 o2 c2, v = .agg #[.slice (some ⟨g, o, none⟩) p.length c, .slice (some ⟨g2, o2, none⟩) N.length c2] ∧ PrAt h (.slice (some ⟨g, o, none⟩) p.length c) p ∧ LsAt h (.slice (some ⟨g2, o2, none⟩) N.length c2) N := by
  obtain ⟨pv, nv, rfl, s1, s2⟩ := t
  have s1' := s1
  have s2' := s2
  obtain ⟨g, o, c, rfl, _⟩ := s1
  obtain ⟨g2, o2, c2, vs, rfl, _⟩ := s2
  exact ⟨g, o, c, g2, o2, c2, rfl, s1', s2'⟩
/-- an element of a list of sizes -/
theorem LsAt.get {h : GH} {g o n c : Nat} {N : List (List Rat)} (t : LsAt h (.slice (some ⟨g, o, none⟩) n c) N) {i : Nat} {l : List Rat} (hl : N[i]? = some l) : n = N.length ∧ ∃ x, h.load g (o + i) 1 = some [x] ∧ SzAt h x l ∧ Value.oneCell' x = true := by
  obtain ⟨g', o', c', vs, e, s, h1, h2⟩ := t
  injection e with e1 e2 e3
  injection e1 with e1
  injection e1 with e1 e4
  subst e1 e2 e3 e4
  obtain ⟨x, hx, sx⟩ := h2 i l hl
  have := s.load (i := i) (x := [x]) (by simp [hx])
  rw [Nat.mul_one] at this
  refine ⟨rfl, x, this, sx, ?_⟩
  obtain ⟨_, _, _, rfl, _⟩ := sx
  rfl
def prevN (n : Nat) (N : List (List Rat)) (i : Nat) : List Rat := if i = 0 then zeroL n else N[i - 1]?.getD []
/-- a scale that is right: the notes grow -/
structure ScOk (p : List Int) (N : List (List Rat)) : Prop where
  pos : 0 < N.length
  few : N.length ≤ 60
  len : ∀ x ∈ N, x.length = p.length
  sm : ∀ x ∈ N, SmL x
  fit : ∀ (i : Nat) (x : List Rat), N[i]? = some x → Fit 9999999 p (subL (prevN p.length N i) x) ∧ Dec p (subL (prevN p.length N i) x) ∧ sgn p (subL (prevN p.length N i) x) < 0
theorem zeroL_sm (n : Nat) : SmL (zeroL n) := by
  intro q hq
  rw [(List.mem_replicate.1 hq).2]; exact SmR.zero
theorem ScOk.prev {p : List Int} {N : List (List Rat)} (s : ScOk p N) {i : Nat} (hi : i ≤ N.length) : (prevN p.length N i).length = p.length ∧ SmL (prevN p.length N i) := by
  unfold prevN
  split
  · exact ⟨by simp [zeroL], zeroL_sm _⟩
  · have : N[i - 1]? = some (N[i - 1]) := List.getElem?_eq_getElem (by omega)
    rw [this]
    exact ⟨s.len _ (List.getElem_mem _), s.sm _ (List.getElem_mem _)⟩
theorem c_pCheck' {h : GH} {pv : Value} {p : List Int} (hp : Pr p) (s : PrAt h pv p) : ∃ r h', GCalls Tryz.prog gE 71 #[pv] h r h' ∧ h.le h' ∧ r = .int .i64 0 := by
  obtain ⟨g, o, c, rfl, s⟩ := s
  exact c_pCheck hp s
theorem c_scCheck {h : GH} {sv : Value} {p : List Int} {N : List (List Rat)} (hP : Pr p) (s : ScAt h sv p N) (ok : ScOk p N) :
    ∃ r h', GCalls Tryz.prog gE 77 #[sv] h r h' ∧ h.le h' ∧ r = .int .i64 0 := by
  have hpl := hP.len
  obtain ⟨g, o, c, g2, o2, c2, rfl, hp, hn⟩ := s.form
  have k1 : ¬ ((N.length : Int) = 0) := by have := ok.pos; omega
  have k2 : ¬ ((60 : Int) < N.length) := by have := ok.few; omega
  have d0 := Duo.new h (.slice (some ⟨g, o, none⟩) p.length c) (.slice (some ⟨g2, o2, none⟩) N.length c2)
  have e0 := GH.le_alloc h ⟨[.slice (some ⟨g, o, none⟩) p.length c, .slice (some ⟨g2, o2, none⟩) N.length c2], true, false⟩
  refine gcalls_in (pl := noPl) [.tmp 2] mixed Tryz.func77 rfl rfl (by exact ok77) ?_
  simp only [go_sem, Nat.reduceBEq, ↓reduceIte]
  refine callK_intro (c_pCheck' hP (hp.mono e0)) ?_
  rintro _ h1 ⟨hle1, rfl⟩
  have d1 := d0.mono hle1
  have e1 := e0.trans hle1
  simp only [go_sem, Nat.reduceBEq, Int.reduceNe, d1.l0, d1.l1, k1, k2]
  refine callK_intro (c_Zero hP (hp.mono e1)) ?_
  rintro _ h2 ⟨hle2, zv, rfl, hz⟩
  have d2 := d1.mono hle2
  have e2 := e1.trans hle2
  obtain ⟨zg, zo, zc, rfl, hzs⟩ := hz
  simp only [go_sem, Nat.reduceBEq, Array.reduceGetElem?, d2.l1]
  refine loopK_inv (α := Nat) (fun i => N.length - i) (fun i ts g' => ts 1 = .pointer (some ⟨h.n, 0, none⟩) ∧ ts 34 = .slice (some ⟨g2, o2, none⟩) N.length c2 ∧ ts 35 = .int .i64 N.length ∧ ts 36 = .int .i64 i ∧ i ≤ N.length ∧ h2.le g' ∧ SzAt g' (ts 4) (prevN p.length N i)) ?_ (a0 := 0) ?_
  · rintro i ts g' ⟨h1', h34, h35, h36, hi, hle, hpv⟩
    have dg := d2.mono hle
    have eg := e2.trans hle
    simp only [go_sem, h35, h36]
    refine ifK_intro (fun c1 => ?_) (fun c1 => ?_)
    · have c1' := of_decide_eq_true c1
      obtain ⟨x, hx⟩ : ∃ x, N[i]? = some x := ⟨_, List.getElem?_eq_getElem (by omega)⟩
      have hxm := List.mem_of_getElem? hx
      obtain ⟨_, xv, hl1, hxs, _⟩ := (hn.mono eg).get hx
      obtain ⟨f1, f2, f3⟩ := ok.fit i x hx
      obtain ⟨q1, q2⟩ := ok.prev (i := i) hi
      have wi : IntKind.i64.wrap ((i : Int) + 1) = ((i + 1 : Nat) : Int) := wrap_i64 (by have := ok.few; omega) (by have := ok.few; omega)
      simp only [go_sem, Nat.reduceBEq, ↓reduceIte, h1', h34, h36, c1', hl1, dg.l0]
      refine callK_intro (c_Check hP (hp.mono eg) hxs (ok.len x hxm) (ok.sm x hxm)) ?_
      rintro _ h3 ⟨hle3, rfl⟩
      simp only [go_sem, Nat.reduceBEq, Int.reduceNe, h1', c1', (dg.mono hle3).l0]
      refine callK_intro (c_Compare hP (hp.mono (eg.trans hle3)) (hpv.mono hle3) (hxs.mono hle3) q1 (ok.len x hxm) q2 (ok.sm x hxm) f1 f2) ?_
      rintro _ h5 ⟨hle5, rfl⟩
      have k3 : ¬ (0 : Int) ≤ sgn p (subL (prevN p.length N i) x) := by omega
      simp only [go_sem, Nat.reduceBEq, Int.reduceNe, Array.reduceGetElem?, h1', h34, h35, h36, k3, wi]
      refine ⟨i + 1, by omega, rfl, by omega, (hle.trans hle3).trans hle5, ?_⟩
      rw [prevN, if_neg (by omega), Nat.add_sub_cancel, hx]
      exact (hxs.mono hle3).mono hle5
    · simp only [go_sem, c1]
      exact eg
  · simp only [go_sem, Nat.reduceBEq]
    exact ⟨Nat.zero_le _, GH.le.refl _, zg, zo, zc, by simp [prevN, zeroL], hzs⟩
end Go.Proofs.Gh
namespace Go.Proofs.Gh
open Go Go.Proofs Go.Proofs.Zz
set_option maxRecDepth 10000
set_option linter.unusedSimpArgs false
def perN (N : List (List Rat)) : List Rat := N[N.length - 1]?.getD []
def noteL (N : List (List Rat)) (n : Nat) : List Rat := if n % N.length = 0 then scaleL (perN N) ((n / N.length : Nat) : Int) else addL (scaleL (perN N) ((n / N.length : Nat) : Int)) (N[n % N.length - 1]?.getD [])
theorem c_period {h : GH} {sv : Value} {p : List Int} {N : List (List Rat)} (s : ScAt h sv p N) (hpos : 0 < N.length) (hlen : N.length ≤ 1000) :
    ∃ r h', GCalls Tryz.prog gE 67 #[sv] h r h' ∧ h.le h' ∧ SzAt h' r (perN N) := by
  obtain ⟨g, o, c, g2, o2, c2, rfl, hp, hn⟩ := s.form
  obtain ⟨x, hx⟩ : ∃ x, N[N.length - 1]? = some x := ⟨_, List.getElem?_eq_getElem (by omega)⟩
  have e0 := GH.le_alloc h ⟨[.slice (some ⟨g, o, none⟩) p.length c, .slice (some ⟨g2, o2, none⟩) N.length c2], true, false⟩
  obtain ⟨_, xv, hl1, hxs, _⟩ := (hn.mono e0).get hx
  have w1 : IntKind.i64.wrap ((N.length : Int) - 1) = ((N.length - 1 : Nat) : Int) := by rw [wrap_i64 (by omega) (by omega)]; omega
  have k1 : ((N.length - 1 : Nat) : Int) < N.length := by omega
  refine gcalls_in (pl := noPl) [.tmp 2] mixed Tryz.func67 rfl rfl (by exact ok67) ?_
  simp only [go_sem, Nat.reduceBEq, ↓reduceIte, w1, k1, hl1]
  refine ⟨e0, ?_⟩
  rw [perN, hx]
  exact hxs
theorem c_note {h : GH} {sv : Value} {p : List Int} {N : List (List Rat)} {n : Nat} (hP : Pr p) (s : ScAt h sv p N) (hpos : 0 < N.length) (hlen : N.length ≤ 1000) (hn2 : n < 1000000) (hl : ∀ x ∈ N, x.length = p.length) (hs : ∀ x ∈ N, SmL x) (hq : SmL (scaleL (perN N) ((n / N.length : Nat) : Int))) (hr : SmL (noteL N n)) :
    ∃ r h', GCalls Tryz.prog gE 80 #[sv, .int .i64 n] h r h' ∧ h.le h' ∧ ∃ v, r = .tuple #[v, .int .i64 0] ∧ SzAt h' v (noteL N n) := by
  obtain ⟨g, o, c, g2, o2, c2, rfl, hp, hn⟩ := s.form
  have hk0 : ¬ ((N.length : Int) = 0) := by omega
  have hq1 := Nat.div_le_self n N.length
  have hr1 := Nat.mod_lt n hpos
  have z1 : (0 : Int) ≤ ((n / N.length : Nat) : Int) := Int.natCast_nonneg _
  have z2 : (0 : Int) ≤ ((n % N.length : Nat) : Int) := Int.natCast_nonneg _
  have w1 : IntKind.i64.wrap ((n % N.length : Nat) : Int) = ((n % N.length : Nat) : Int) := wrap_i64 (by omega) (by omega)
  have w2 : IntKind.i64.wrap ((n / N.length : Nat) : Int) = ((n / N.length : Nat) : Int) := wrap_i64 (by omega) (by omega)
  have k1 : ¬ ((n % N.length : Nat) : Int) < 0 := by omega
  have d0 := Duo.new h (.slice (some ⟨g, o, none⟩) p.length c) (.slice (some ⟨g2, o2, none⟩) N.length c2)
  have e0 := GH.le_alloc h ⟨[.slice (some ⟨g, o, none⟩) p.length c, .slice (some ⟨g2, o2, none⟩) N.length c2], true, false⟩
  have hperl : (perN N).length = p.length ∧ SmL (perN N) := by
    obtain ⟨x, hx⟩ : ∃ x, N[N.length - 1]? = some x := ⟨_, List.getElem?_eq_getElem (by omega)⟩
    rw [perN, hx]
    exact ⟨hl _ (List.mem_of_getElem? hx), hs _ (List.mem_of_getElem? hx)⟩
  refine gcalls_in (pl := pl80) [.tmp 4, .tmp 5] mixed Tryz.func80 rfl rfl (by exact ok80) ?_
  simp only [go_sem, Nat.reduceBEq, Array.reduceGetElem?, ↓reduceIte, pl80, tdiv_nat, tmod_nat, hk0, w2, k1]
  refine callK_intro (c_period (s.mono e0) hpos hlen) ?_
  rintro pv h1 ⟨hle1, hps⟩
  have d1 := d0.mono hle1
  have e1 := e0.trans hle1
  simp only [go_sem, Nat.reduceBEq, Array.reduceGetElem?, d1.l0]
  refine callK_intro (c_integer ((n / N.length : Nat) : Int) (by show Int.natAbs _ < _; omega)) ?_
  rintro _ h2 ⟨hle2, rfl⟩
  have d2 := d1.mono hle2
  have e2 := e1.trans hle2
  simp only [go_sem, Nat.reduceBEq, Array.reduceGetElem?, d2.l0]
  refine callK_intro (c_Scale hP (hp.mono e2) (hps.mono hle2) hperl.1 hperl.2 ⟨by show Int.natAbs _ < _; rw [Rat.num_intCast]; omega, by show Sm 1; decide⟩ hq) ?_
  rintro _ h3 ⟨hle3, ov, rfl, ho⟩
  have d3 := d2.mono hle3
  have e3 := e2.trans hle3
  simp only [go_sem, Nat.reduceBEq, Int.reduceNe, Array.reduceGetElem?, ↓reduceIte]
  refine ifK_intro (fun c1 => ?_) (fun c1 => ?_)
  · have c1' : n % N.length = 0 := by have := of_decide_eq_true c1; omega
    simp only [go_sem, Nat.reduceBEq, c1]
    refine ⟨e3, ov, rfl, ?_⟩
    rw [noteL, if_pos c1']
    exact ho
  · have c1' : ¬ n % N.length = 0 := by have := of_decide_eq_false c1; omega
    rw [noteL, if_neg c1'] at hr
    obtain ⟨x, hx⟩ : ∃ x, N[n % N.length - 1]? = some x := ⟨_, List.getElem?_eq_getElem (by omega)⟩
    have hxm := List.mem_of_getElem? hx
    obtain ⟨_, xv, hl1, hxs, _⟩ := (hn.mono e3).get hx
    rw [hx] at hr
    have w3 : IntKind.i64.wrap (((n % N.length : Nat) : Int) - 1) = ((n % N.length - 1 : Nat) : Int) := by rw [wrap_i64 (by omega) (by omega)]; omega
    have k3 : ((n % N.length - 1 : Nat) : Int) < N.length := by omega
    simp only [go_sem, Nat.reduceBEq, Array.reduceGetElem?, ↓reduceIte, c1, d3.l0, d3.l1, w3, k3, hl1, pl80]
    refine callK_intro (c_sizeAdd hP (hp.mono e3) ho hxs (by rw [scaleL, List.length_map]; exact hperl.1) (hl x hxm) hq (hs x hxm) hr) ?_
    rintro _ h4 ⟨hle4, rv', rfl, hrv⟩
    simp only [go_sem, Nat.reduceBEq, Array.reduceGetElem?]
    refine ⟨e3.trans hle4, rv', rfl, ?_⟩
    rw [noteL, if_neg c1', hx]
    exact hrv
end Go.Proofs.Gh
namespace Go.Proofs.Gh
open Go Go.Proofs Go.Proofs.Zz
set_option maxRecDepth 10000
set_option linter.unusedSimpArgs false
section
variable {h : GH} {g : Nat} {a b v w : Value}
theorem Duo.s1 (t : Duo h g a b) (hv : Value.oneCell' v = true) : h.store g 1 [v] = some (h.upd g ⟨[a, v], true, false⟩) :=
  store_at t.lt t.b (by simp) (by simp [hv])
theorem Duo.s0 (t : Duo h g a b) (hv : Value.oneCell' v = true) : h.store g 0 [v] = some (h.upd g ⟨[v, b], true, false⟩) :=
  store_at t.lt t.b (by simp) (by simp [hv])
theorem Duo.s2 (t : Duo h g a b) (hv : Value.oneCell' v = true) (hw : Value.oneCell' w = true) : h.store g 0 [v, w] = some (h.upd g ⟨[v, w], true, false⟩) :=
  store_at t.lt t.b (by simp) (by simp [hv, hw])
theorem Duo.up (t : g < h.n) : Duo (h.upd g ⟨[v, w], true, false⟩) g v w := ⟨t, upd_self _ _ _⟩
theorem Duo.up_ne (t : Duo h g a b) {g' : Nat} {x : GB} (hne : g ≠ g') : Duo (h.upd g' x) g a b := ⟨t.lt, (upd_ne _ _ hne).trans t.b⟩
end
theorem Duo.two (h : GH) (a b x y : Value) : ∃ H, (h.alloc ⟨[a, b], true, false⟩).alloc ⟨[x, y], true, false⟩ = H ∧ Duo H h.n a b ∧ Duo H (h.n + 1) x y ∧ h.le H ∧ H.n = h.n + 2 :=
  ⟨_, rfl, (Duo.new h a b).mono (GH.le_alloc _ _), Duo.new _ x y, (GH.le_alloc _ _).trans (GH.le_alloc _ _), rfl⟩
theorem oneCell_slice {p : Option Addr} {n c : Nat} : Value.oneCell' (.slice p n c) = true := rfl
theorem oneCell_bool {b : Bool} : Value.oneCell' (.bool b) = true := rfl
/-- trim of a row -/
theorem c_trim {h : GH} {b : Bool} {g o c : Nat} {l : List Int} (s : SlAt h g o c 1 (ints l)) (hlen : l.length ≤ 1000) (k : Nat) (hk : k ≤ l.length) (hz : ∀ j, k ≤ j → j < l.length → l[j]? = some 0) (hnz : ∀ j, k = j + 1 → ∃ x, l[j]? = some x ∧ x ≠ 0) :
    ∃ r h', GCalls Tryz.prog gE 130 #[.agg #[.bool b, .slice (some ⟨g, o, none⟩) l.length c]] h r h' ∧ h.le h' ∧ r = .agg #[.bool (b && decide (0 < k)), .slice (some ⟨g, o, none⟩) k c] := by
  obtain ⟨H, hH, d1, d2, hle, hn⟩ := Duo.two h (.bool b) (.slice (some ⟨g, o, none⟩) l.length c) (.bool false) (.slice none 0 0)
  refine gcalls_in (pl := noPl) [.cell 2 133] mixed Tryz.func130 rfl rfl (by exact ok130) ?_
  simp only [go_sem, ↓reduceIte, hH]
  refine loopK_inv (α := Nat) id (fun i ts g' => ts 1 = .pointer (some ⟨h.n, 0, none⟩) ∧ ts 2 = .pointer (some ⟨h.n + 1, 0, none⟩) ∧ k ≤ i ∧ i ≤ l.length ∧ Duo g' h.n (.bool b) (.slice (some ⟨g, o, none⟩) i c) ∧ Duo g' (h.n + 1) (.bool false) (.slice none 0 0) ∧ h.le g') ?_ (a0 := l.length) ?_
  · rintro i ts g' ⟨h1, h2, hki, hil, e1, e2, hle'⟩
    simp only [go_sem, Array.reduceGetElem?, h1, e1.l1]
    have fin : ∀ {G : GH} {b' : Bool}, Duo G h.n (.bool b') (.slice (some ⟨g, o, none⟩) k c) → Duo G (h.n + 1) (.bool false) (.slice none 0 0) → h.le G →
        ∃ G', G.store (h.n + 1) 0 [.bool b', .slice (some ⟨g, o, none⟩) k c] = some G' ∧ h.le G' ∧ G'.load (h.n + 1) 0 2 = some [.bool b', .slice (some ⟨g, o, none⟩) k c] := by
      intro G b' q1 q2 hG
      exact ⟨_, q2.s2 rfl rfl, hG.upd (by omega) _, (Duo.up q2.lt).l2⟩
    have en := e1.s0 (v := .bool (b && decide (0 < k))) rfl
    by_cases hp : i = 0
    · subst hp
      have hk0 : k = 0 := by omega
      subst hk0
      have ep : Duo (g'.upd h.n ⟨[.bool (b && decide (0 < 0)), .slice (some ⟨g, o, none⟩) 0 c], true, false⟩) h.n (.bool (b && decide (0 < 0))) (.slice (some ⟨g, o, none⟩) 0 c) := Duo.up e1.lt
      have ep2 := e2.up_ne (g' := h.n) (x := ⟨[.bool (b && decide (0 < 0)), .slice (some ⟨g, o, none⟩) 0 c], true, false⟩) (by omega)
      obtain ⟨G', f1, f2, f3⟩ := fin (b' := b && decide (0 < 0)) ep ep2 (hle'.upd (by omega) _)
      cases b
      all_goals
        simp only [decide_false, Bool.and_false, Nat.lt_irrefl] at en ep f1 f3
        simp only [go_sem, Nat.reduceBEq, Nat.reduceAdd, Array.reduceGetElem?, ↓reduceIte, h1, h2, e1.l0, e1.l1, en, Int.natCast_zero, Int.lt_irrefl, ep.l2, f1, f3, Nat.lt_irrefl]
        exact f2
    · obtain ⟨j, rfl⟩ : ∃ j, i = j + 1 := ⟨i - 1, by omega⟩
      obtain ⟨x, hx⟩ : ∃ x, l[j]? = some x := ⟨_, List.getElem?_eq_getElem (by omega)⟩
      have hl := (s.mono hle').load (ints_get hx)
      rw [Nat.mul_one] at hl
      have c1 : (0 : Int) < ((j + 1 : Nat) : Int) := by omega
      have c2 : IntKind.i64.wrap (((j + 1 : Nat) : Int) - 1) = (j : Int) := by rw [wrap_i64 (by omega) (by omega)]; omega
      have c3 : (j : Int) < ((j + 1 : Nat) : Int) := by omega
      have hc : j + 1 ≤ c ∧ (unk ≤ c → c = unk ∨ c = unk + 1) := ⟨by have := s.cap.1; rw [ints_length] at this; omega, s.cap.2⟩
      have e3 := gSlice_head (g := g) (o := o) (kd := .i64) (show sk Tryz.prog 28 = some 3 by rfl) (show tk Tryz.prog 3 = some (false, 1) by rfl) (Nat.le_succ j) hc
      simp only [go_sem, Nat.reduceBEq, Array.reduceGetElem?, ↓reduceIte, h1, e1.l1, c1, c2, c3, hl]
      refine ifK_intro (fun c4 => ?_) (fun c4 => ?_)
      · have c4' := of_decide_eq_true c4
        have es := e1.s1 (v := .slice (some ⟨g, o, none⟩) j c) rfl
        have ep : Duo (g'.upd h.n ⟨[.bool b, .slice (some ⟨g, o, none⟩) j c], true, false⟩) h.n (.bool b) (.slice (some ⟨g, o, none⟩) j c) := Duo.up e1.lt
        have ep2 := e2.up_ne (g' := h.n) (x := ⟨[.bool b, .slice (some ⟨g, o, none⟩) j c], true, false⟩) (by omega)
        simp only [go_sem, Nat.reduceBEq, ↓reduceIte, h1, h2, e1.l1, c1, c2, e3, es, c4]
        refine ⟨j, Nat.lt_succ_self j, ?_, by omega, ep, ep2, hle'.upd (by omega) _⟩
        by_cases hkj : k = j + 1
        · obtain ⟨y, hy, hy0⟩ := hnz j hkj
          rw [hx] at hy
          injection hy with hy
          omega
        · omega
      · have c4' := of_decide_eq_false c4
        have hkj : k = j + 1 := by
          by_cases hkj : k = j + 1
          · exact hkj
          · have := hz j (by omega) (by omega)
            rw [hx] at this
            injection this with this
            omega
        subst hkj
        have ep : Duo (g'.upd h.n ⟨[.bool (b && decide (0 < j + 1)), .slice (some ⟨g, o, none⟩) (j + 1) c], true, false⟩) h.n (.bool (b && decide (0 < j + 1))) (.slice (some ⟨g, o, none⟩) (j + 1) c) := Duo.up e1.lt
        have ep2 := e2.up_ne (g' := h.n) (x := ⟨[.bool (b && decide (0 < j + 1)), .slice (some ⟨g, o, none⟩) (j + 1) c], true, false⟩) (by omega)
        obtain ⟨G', f1, f2, f3⟩ := fin (b' := b && decide (0 < j + 1)) ep ep2 (hle'.upd (by omega) _)
        have e0 : decide (0 < j + 1) = true := decide_eq_true (by omega)
        cases b
        all_goals
          simp only [e0, Bool.and_true] at en ep f1 f3
          simp only [go_sem, Nat.reduceBEq, Nat.reduceAdd, Array.reduceGetElem?, ↓reduceIte, h1, h2, e1.l0, e1.l1, c1, c4, en, ep.l2, f1, f3, e0]
          exact f2
  · simp only [go_sem, Nat.reduceBEq]
    exact ⟨hk, d1, d2, hle⟩
theorem c_trim0 {h : GH} {b : Bool} : ∃ r h', GCalls Tryz.prog gE 130 #[.agg #[.bool b, .slice none 0 0]] h r h' ∧ h.le h' ∧ r = .agg #[.bool false, .slice none 0 0] := by
  obtain ⟨H, hH, d1, d2, hle, hn⟩ := Duo.two h (.bool b) (.slice none 0 0) (.bool false) (.slice none 0 0)
  have en := d1.s0 (v := .bool false) rfl
  have ep : Duo (H.upd h.n ⟨[.bool false, .slice none 0 0], true, false⟩) h.n (.bool false) (.slice none 0 0) := Duo.up d1.lt
  have ep2 := d2.up_ne (g' := h.n) (x := ⟨[.bool false, .slice none 0 0], true, false⟩) (by omega)
  have f1 := ep2.s2 (v := .bool false) (w := .slice none 0 0) rfl rfl
  have f3 : Duo _ (h.n + 1) (.bool false) (.slice none 0 0) := Duo.up (v := .bool false) (w := .slice none 0 0) ep2.lt
  refine gcalls_in (pl := noPl) [.cell 2 133] mixed Tryz.func130 rfl rfl (by exact ok130) ?_
  simp only [go_sem, ↓reduceIte, hH]
  refine loopK_unroll ?_
  simp only [go_sem, Nat.reduceBEq, Int.reduceLT, Array.reduceGetElem?, ↓reduceIte, d1.l0, d1.l1]
  cases b
  all_goals
    simp only [go_sem, Nat.reduceBEq, Nat.reduceAdd, Int.reduceLT, Array.reduceGetElem?, ↓reduceIte, d1.l1, en, ep.l2, f1, f3.l2]
    exact (hle.upd (Nat.le_refl _) _).upd (by omega) _
theorem enc_ge1 (z : Int) : (1 : Int) ≤ ((enc z).size : Int) := by have := enc_size_pos z; omega
theorem enc_pre (z : Int) : (enc z).extract 0 1 = ⟨#[45]⟩ ↔ z < 0 := by
  obtain ⟨c, h1, h2, -⟩ := enc_first z
  rw [← h2]
  have e : (enc z).extract 0 1 = ⟨#[c]⟩ := by
    apply ByteArray.ext
    apply Array.ext'
    rw [ByteArray.data_extract, Array.toList_extract]
    have hl := enc_size_pos z
    match hd : (enc z).data.toList, h1 with
    | x :: l, h1 =>
      simp only [List.getElem?_cons_zero, Option.some.injEq] at h1
      subst h1
      simp [List.extract]
  rw [e]
  constructor
  · intro h
    injection h with h
    injection h with h
    injection h
  · rintro rfl
    rfl
theorem c_hasPre {h : GH} (z : Int) : ∃ r h', GCalls Tryz.prog gE 174 #[istr z, .string ⟨#[45]⟩] h r h' ∧ h.le h' ∧ r = .bool (decide (z < 0)) := by
  have e1 := enc_ge1 z
  have e2 := enc_size_ge z
  refine gcalls_in (pl := noPl) [.tmp 4] mixed Tryz.func174 rfl rfl (by exact ok174) ?_
  simp only [go_sem, Nat.reduceBEq, Nat.reduceLeDiff, Int.reduceLE, Int.reduceToNat, Array.reduceGetElem?, ↓reduceIte, e1, e2, enc_pre]
  exact GH.le.refl _
theorem c_hasPrefix {h : GH} (z : Int) : ∃ r h', GCalls Tryz.prog gE 129 #[istr z, .string ⟨#[45]⟩] h r h' ∧ h.le h' ∧ r = .bool (decide (z < 0)) := by
  refine gcalls_in (pl := noPl) [.tmp 4] mixed Tryz.func129 rfl rfl (by exact ok129) ?_
  simp only [go_sem, Nat.reduceBEq]
  refine callK_intro (c_hasPre z) ?_
  rintro _ h1 ⟨hle1, rfl⟩
  simp only [go_sem]
  exact hle1
theorem c_rInt {h : GH} (z : Int) (hz : Sm z) : ∃ r h', GCalls Tryz.prog gE 167 #[.int .i64 z] h r h' ∧ h.le h' ∧ r = istr z := by
  refine gcalls_in (pl := noPl) [.tmp 2] mixed Tryz.func167 rfl rfl (by exact ok167) ?_
  simp only [go_sem, Nat.reduceBEq]
  refine callK_intro (c_itoa z hz) ?_
  rintro _ h1 ⟨hle1, rfl⟩
  simp only [go_sem]
  exact hle1
/-- the digit of an integer, for a base that is large -/
def dg (z : Int) : List Int := if z = 0 then [] else [(z.natAbs : Int)]
def WAt (h : GH) (v : Value) (z : Int) : Prop := (z = 0 ∧ ∃ a c, v = .agg #[.bool false, .slice a 0 c]) ∨ (z ≠ 0 ∧ ∃ g o c, v = .agg #[.bool (decide (z < 0)), .slice (some ⟨g, o, none⟩) 1 c] ∧ h.load g o 1 = some [.int .i64 z.natAbs] ∧ g < h.n)
theorem le_load {h h' : GH} (hl : h.le h') {g o n : Nat} {x : List Value} (hg : g < h.n) (e : h.load g o n = some x) : h'.load g o n = some x := by
  unfold GH.load at e ⊢
  rw [hl.2 g hg]
  split at e
  · rename_i hc
    rw [if_pos ⟨Nat.lt_of_lt_of_le hc.1 hl.1, hc.2⟩]
    exact e
  · cases e
theorem WAt.mono {h h' : GH} {v : Value} {z : Int} (w : WAt h v z) (hl : h.le h') : WAt h' v z := by
  rcases w with w | ⟨h0, g, o, c, e, l, hg⟩
  · exact .inl w
  · exact .inr ⟨h0, g, o, c, e, le_load hl hg l, Nat.lt_of_lt_of_le hg hl.1⟩
@[go_sem] theorem alloc_store_bs {h : GH} {a b : Value} {x : Bool} {p : Option Addr} {n c : Nat} : (h.alloc ⟨[a, b], true, false⟩).store h.n 0 [.bool x, .slice p n c] = some (h.alloc ⟨[.bool x, .slice p n c], true, false⟩) := by
  rw [cells_store (h := h.alloc ⟨[a, b], true, false⟩) (g := h.n) (old := [a, b]) (vs := [.bool x, .slice p n c]) (Nat.lt_succ_self _) (alloc_self _ _) rfl rfl, alloc_upd]
theorem WAt.form {h : GH} {v : Value} {z : Int} (w : WAt h v z) : ∃ b p n c, v = .agg #[.bool b, .slice p n c] := by
  rcases w with ⟨_, a, c, e⟩ | ⟨_, g, o, c, e, _⟩
  · exact ⟨_, _, _, _, e⟩
  · exact ⟨_, _, _, _, e⟩
/-- a cell without a number in it is changed -/
theorem WAt.upd {h : GH} {v : Value} {z : Int} (w : WAt h v z) {g : Nat} {b : Bool} {X : GB} (d : Duo h g (.bool b) (.slice none 0 0)) : WAt (h.upd g X) v z := by
  rcases w with w | ⟨h0, g1, o, c, e, l, hg⟩
  · exact .inl w
  · refine .inr ⟨h0, g1, o, c, e, ?_, hg⟩
    by_cases hgg : g1 = g
    · subst hgg
      exfalso
      unfold GH.load at l
      rw [d.b] at l
      split at l
      · rename_i hc
        simp only [Option.some.injEq] at l
        match o, hc with
        | 0, _ => simp at l
        | 1, _ => simp at l
        | o + 2, hc => simp at hc
      · cases l
    · unfold GH.load at l ⊢
      rw [upd_ne _ _ hgg]
      exact l
theorem dg_zero : dg 0 = [] := rfl
theorem dg_ne {z : Int} (h : z ≠ 0) : dg z = [(z.natAbs : Int)] := if_neg h
theorem c_trimW {h : GH} {b : Bool} {g o c m : Nat} {l : List Int} {z : Int} (hl : l = dg z ++ List.replicate m 0) (hm : m ≤ 10) (hb : z ≠ 0 → b = decide (z < 0)) (s : SlAt h g o c 1 (ints l)) :
    ∃ r h', GCalls Tryz.prog gE 130 #[.agg #[.bool b, .slice (some ⟨g, o, none⟩) l.length c]] h r h' ∧ h.le h' ∧ WAt h' r z := by
  have hlen : l.length = (dg z).length + m := by rw [hl]; simp
  have hd1 : (dg z).length ≤ 1 := by unfold dg; split <;> simp
  obtain ⟨r, h', hk, hle, rfl⟩ := c_trim (b := b) s (by omega) (dg z).length (by omega) (fun j hj hj2 => by
    rw [hl, List.getElem?_append_right hj, List.getElem?_replicate, if_pos (by omega)]) (fun j hj => by
    by_cases h0 : z = 0
    · subst h0; rw [dg_zero] at hj; simp at hj
    · rw [dg_ne h0] at hj
      simp only [List.length_singleton] at hj
      obtain rfl : j = 0 := by omega
      exact ⟨_, by rw [hl, dg_ne h0]; rfl, by omega⟩)
  refine ⟨_, h', hk, hle, ?_⟩
  by_cases h0 : z = 0
  · subst h0
    exact .inl ⟨rfl, some ⟨g, o, none⟩, c, by simp [dg_zero]⟩
  · refine .inr ⟨h0, g, o, c, by rw [dg_ne h0, hb h0]; simp, ?_, Nat.lt_of_lt_of_le s.lt hle.1⟩
    have := (s.mono hle).load (i := 0) (x := [.int .i64 z.natAbs]) (by rw [hl, dg_ne h0]; rfl)
    simpa using this
theorem one_dg (z : Int) : ∃ m, m ≤ 10 ∧ [(z.natAbs : Int)] = dg z ++ List.replicate m 0 := by
  by_cases h0 : z = 0
  · subst h0; exact ⟨1, by omega, rfl⟩
  · exact ⟨0, by omega, by rw [dg_ne h0]; rfl⟩
theorem c_To {h : GH} (z : Int) (hz : Sm z) : ∃ r h', GCalls Tryz.prog gE 98 #[istr z] h r h' ∧ h.le h' ∧ WAt h' r z := by
  have hz8 := (show Sm z.natAbs from hz).size0
  have hp : (0 : Int) < ((enc (z.natAbs : Int)).size : Int) := by have := enc_size_pos (z.natAbs : Int); omega
  have hm : ¬ (0 : Int) < IntKind.i64.wrap (((enc (z.natAbs : Int)).size : Int) - 9) := by rw [wrap_i64 (by omega) (by omega)]; omega
  have he0 : (enc (z.natAbs : Int)).extract 0 (enc (z.natAbs : Int)).size = enc (z.natAbs : Int) := ByteArray.extract_zero_size
  have hs1 : z < 0 → (enc z).extract 1 (enc z).size = enc (z.natAbs : Int) := fun c => by rw [enc_ext z c, show -z = ((z.natAbs : Nat) : Int) by omega]
  have hs2 : ¬ z < 0 → enc z = enc (z.natAbs : Int) := fun c => by rw [show ((z.natAbs : Nat) : Int) = z by omega]
  have hx0 : decide ((0 : Int) < (((enc (z.natAbs : Int)).extract 0 0).size : Int)) = false := by simp
  refine gcalls_in (pl := noPl) [.cell 2 133] mixed Tryz.func98 rfl rfl (by exact ok98) ?_
  simp only [go_sem, Nat.reduceBEq]
  refine callK_intro (c_hasPrefix z) ?_
  rintro _ h1 ⟨hle1, rfl⟩
  simp only [go_sem, Nat.reduceBEq, Nat.reduceAdd, Nat.reduceLeDiff, ↓reduceIte]
  refine ifK_intro (fun c1 => ?_) (fun c1 => ?_)
  all_goals
    first | have hs := hs1 (of_decide_eq_true c1) | have hs := hs2 (of_decide_eq_false c1)
    simp only [go_sem, Nat.reduceBEq, Int.reduceLE, Int.reduceToNat, ↓reduceIte, c1, hs, enc_size_ge]
    have d1 := Duo.new h1 (.bool (decide (z < 0))) (.slice none 0 0)
    refine loopK_unroll ?_
    simp only [go_sem, Nat.reduceBEq, Int.reduceLE, Int.reduceToNat, ↓reduceIte, hs, hp, hm, he0]
    refine callK_intro (c_atoi z.natAbs (by have : z.natAbs < 10000000 := hz; omega)) ?_
    rintro _ h2 ⟨hle2, rfl⟩
    have d2 := d1.mono hle2
    have d3 := d2.mono (GH.le_alloc h2 ⟨[.int .i64 z.natAbs], true, false⟩)
    have hap := append_nil (P := Tryz.prog) (h := h2.alloc ⟨[.int .i64 z.natAbs], true, false⟩) (g2 := h2.n) (o2 := 0) (c2 := 1) (t := 28) ty_sk28 ty_tk3 ty_zk3 rfl ty_ce3 (n := 1) (by rw [Nat.mul_one]; exact alloc_load1) (by decide) rfl rfl (by decide) (by rw [ty_be3]; decide)
    have d4 := d3.mono (GH.le_alloc (h2.alloc ⟨[.int .i64 z.natAbs], true, false⟩) ⟨[.int .i64 z.natAbs], true, false⟩)
    have rw4 : ((h2.alloc ⟨[.int .i64 z.natAbs], true, false⟩).alloc ⟨[.int .i64 z.natAbs], true, false⟩).b (h2.n + 1) = Row (ints [(z.natAbs : Int)]) := alloc_self (h2.alloc ⟨[.int .i64 z.natAbs], true, false⟩) _
    have le4 : h.le ((h2.alloc ⟨[.int .i64 z.natAbs], true, false⟩).alloc ⟨[.int .i64 z.natAbs], true, false⟩) := ((((GH.le_alloc _ _).trans hle1).trans ((GH.le_alloc _ _).trans hle2)).trans (GH.le_alloc _ _)).trans (GH.le_alloc _ _)
    have nn4 : ((h2.alloc ⟨[.int .i64 z.natAbs], true, false⟩).alloc ⟨[.int .i64 z.natAbs], true, false⟩).n = h2.n + 2 := rfl
    obtain ⟨H4, hH4⟩ : ∃ H4, (h2.alloc ⟨[.int .i64 z.natAbs], true, false⟩).alloc ⟨[.int .i64 z.natAbs], true, false⟩ = H4 := ⟨_, rfl⟩
    rw [hH4] at hap d4 rw4 le4 nn4
    have hst := d4.s1 (v := .slice (some ⟨h2.n + 1, 0, none⟩) 1 (unk + 1)) rfl
    have hn4 : h1.n < h2.n + 1 := by have : h1.n < h2.n := d2.lt; omega
    have dd : Duo (H4.upd h1.n ⟨[.bool (decide (z < 0)), .slice (some ⟨h2.n + 1, 0, none⟩) 1 (unk + 1)], true, false⟩) h1.n (.bool (decide (z < 0))) (.slice (some ⟨h2.n + 1, 0, none⟩) 1 (unk + 1)) := Duo.up d4.lt
    have le5 : h.le (H4.upd h1.n ⟨[.bool (decide (z < 0)), .slice (some ⟨h2.n + 1, 0, none⟩) 1 (unk + 1)], true, false⟩) := le4.upd (by have := hle1.1; show h.n ≤ h1.n; have e : (h.alloc ⟨[.bool false, .slice none 0 0], true, false⟩).n = h.n + 1 := rfl; omega) _
    have s5 : SlAt (H4.upd h1.n ⟨[.bool (decide (z < 0)), .slice (some ⟨h2.n + 1, 0, none⟩) 1 (unk + 1)], true, false⟩) (h2.n + 1) 0 (unk + 1) 1 (ints [(z.natAbs : Int)]) :=
      row_at (by show h2.n + 1 < H4.n; omega) ((upd_ne _ _ (by omega)).trans rw4) (ints_one _) ⟨by simp [ints], fun _ => .inr rfl⟩
    have hld := s5.load (i := 0) rfl
    simp only [go_sem, Nat.reduceBEq, Nat.reduceLeDiff, Nat.reduceLT, Int.reduceLE, Int.reduceToNat, Array.reduceGetElem?, ↓reduceIte, hs, d2.l1, hap, hst]
    refine loopK_unroll ?_
    simp only [go_sem, Nat.reduceBEq, hx0, dd.l2]
    obtain ⟨m, hm1, hm2⟩ := one_dg z
    refine callK_intro (c_trimW hm2 hm1 (fun _ => rfl) s5) ?_
    rintro v h6 ⟨hle6, hv⟩
    obtain ⟨b', p', n', c', rfl⟩ := hv.form
    have d0 := ((((((Duo.new h (.bool false) (.slice none 0 0)).mono hle1).mono (GH.le_alloc _ _)).mono hle2).mono (GH.le_alloc _ ⟨[.int .i64 z.natAbs], true, false⟩)).mono (GH.le_alloc _ ⟨[.int .i64 z.natAbs], true, false⟩)).up_ne (g' := h1.n) (x := ⟨[.bool (decide (z < 0)), .slice (some ⟨h2.n + 1, 0, none⟩) 1 (unk + 1)], true, false⟩) (by have := hle1.1; have e : (h.alloc ⟨[.bool false, .slice none 0 0], true, false⟩).n = h.n + 1 := rfl; omega)
    rw [hH4] at d0
    have d6 := d0.mono hle6
    have hst6 := d6.s2 (v := .bool b') (w := .slice p' n' c') rfl rfl
    have dd6 : Duo (h6.upd h.n ⟨[.bool b', .slice p' n' c'], true, false⟩) h.n (.bool b') (.slice p' n' c') := Duo.up d6.lt
    simp only [go_sem, Nat.reduceBEq, Nat.reduceAdd, ↓reduceIte, hst6, dd6.l2]
    exact ⟨(le5.trans hle6).upd (Nat.le_refl _) _, hv.upd d6⟩
end Go.Proofs.Gh
namespace Go.Proofs.Gh
open Go Go.Proofs Go.Proofs.Zz
set_option maxRecDepth 10000
set_option linter.unusedSimpArgs false
theorem c_rOf {h : GH} (z : Int) (hz : Sm z) : ∃ r h', GCalls Tryz.prog gE 120 #[.int .i64 z] h r h' ∧ h.le h' ∧ WAt h' r z := by
  refine gcalls_in (pl := noPl) [.cell 2 133] mixed Tryz.func120 rfl rfl (by exact ok120) ?_
  simp only [go_sem, Nat.reduceBEq]
  refine callK_intro (c_rInt z hz) ?_
  rintro _ h1 ⟨hle1, rfl⟩
  simp only [go_sem]
  refine callK_intro (c_To z hz) ?_
  rintro v h2 ⟨hle2, hv⟩
  obtain ⟨b, p, n, c, rfl⟩ := hv.form
  have d2 := ((Duo.new h (.bool false) (.slice none 0 0)).mono hle1).mono hle2
  have hst := d2.s2 (v := .bool b) (w := .slice p n c) rfl rfl
  have dd : Duo (h2.upd h.n ⟨[.bool b, .slice p n c], true, false⟩) h.n (.bool b) (.slice p n c) := Duo.up d2.lt
  simp only [go_sem, Nat.reduceBEq, Nat.reduceAdd, ↓reduceIte, hst, dd.l2]
  exact ⟨(((GH.le_alloc _ _).trans hle1).trans hle2).upd (Nat.le_refl _) _, hv.upd d2⟩
def DgS (h : GH) (v : Value) (x : Nat) : Prop := (x = 0 ∧ ∃ p c, v = .slice p 0 c) ∨ (x ≠ 0 ∧ ∃ g o c, v = .slice (some ⟨g, o, none⟩) 1 c ∧ h.load g o 1 = some [.int .i64 x] ∧ g < h.n)
theorem DgS.mono {h h' : GH} {v : Value} {x : Nat} (w : DgS h v x) (hl : h.le h') : DgS h' v x := by
  rcases w with w | ⟨h0, g, o, c, e, l, hg⟩
  · exact .inl w
  · exact .inr ⟨h0, g, o, c, e, le_load hl hg l, Nat.lt_of_lt_of_le hg hl.1⟩
theorem WAt.dg {h : GH} {v : Value} {z : Int} (w : WAt h v z) : ∃ p n c, v = .agg #[.bool (decide (z < 0)), .slice p n c] ∧ DgS h (.slice p n c) z.natAbs := by
  rcases w with ⟨rfl, a, c, rfl⟩ | ⟨h0, g, o, c, rfl, l, hg⟩
  · exact ⟨_, _, _, rfl, .inl ⟨rfl, _, _, rfl⟩⟩
  · exact ⟨_, _, _, rfl, .inr ⟨by omega, _, _, _, rfl, l, hg⟩⟩
/-- a row of one number, as plus and minus give it -/
def RwS (h : GH) (v : Value) (x : Nat) : Prop := (x = 0 ∧ v = .slice none 0 0) ∨ ∃ g o c, v = .slice (some ⟨g, o, none⟩) 1 c ∧ SlAt h g o c 1 (ints [(x : Int)])
theorem RwS.mono {h h' : GH} {v : Value} {x : Nat} (w : RwS h v x) (hl : h.le h') : RwS h' v x := by
  rcases w with w | ⟨g, o, c, e, l⟩
  · exact .inl w
  · exact .inr ⟨g, o, c, e, l.mono hl⟩
theorem ap1 {h : GH} (x : Int) : gAppend Tryz.prog 28 28 (.slice none 0 0) (.slice (some ⟨h.n, 0, none⟩) 1 1) (h.alloc ⟨[.int .i64 x], true, false⟩) = some (.slice (some ⟨h.n + 1, 0, none⟩) 1 (unk + 1), (h.alloc ⟨[.int .i64 x], true, false⟩).alloc ⟨[.int .i64 x], true, false⟩) :=
  append_nil (P := Tryz.prog) (h := h.alloc ⟨[.int .i64 x], true, false⟩) (g2 := h.n) (o2 := 0) (c2 := 1) (t := 28) ty_sk28 ty_tk3 ty_zk3 rfl ty_ce3 (n := 1) (by rw [Nat.mul_one]; exact alloc_load1) (by decide) rfl rfl (by decide) (by rw [ty_be3]; decide)
theorem ap1_row {h : GH} (x : Nat) : RwS ((h.alloc ⟨[.int .i64 x], true, false⟩).alloc ⟨[.int .i64 x], true, false⟩) (.slice (some ⟨h.n + 1, 0, none⟩) 1 (unk + 1)) x :=
  .inr ⟨_, _, _, rfl, row_at (Nat.lt_succ_self _) (els := ints [(x : Int)]) (alloc_self (h.alloc ⟨[.int .i64 x], true, false⟩) ⟨[.int .i64 x], true, false⟩) (ints_one _) ⟨by simp [ints], fun _ => .inr rfl⟩⟩
theorem c_plus {h : GH} {v w : Value} {x y : Nat} (hv : DgS h v x) (hw : DgS h w y) (hs : x + y < 1000000000) : ∃ r h', GCalls Tryz.prog gE 164 #[v, w] h r h' ∧ h.le h' ∧ RwS h' r (x + y) := by
  have e0 : IntKind.i64.wrap (0 + (x : Int)) = (x : Int) := by rw [wrap_i64 (by omega) (by omega)]; omega
  have e1 : IntKind.i64.wrap (0 + (y : Int)) = (y : Int) := by rw [wrap_i64 (by omega) (by omega)]; omega
  have e2 : IntKind.i64.wrap ((x : Int) + (y : Int)) = ((x + y : Nat) : Int) := by rw [wrap_i64 (by omega) (by omega)]; omega
  have m : ∀ k : Nat, k < 1000000000 → (k : Int).tmod 1000000000 = (k : Int) ∧ IntKind.i64.wrap ((k : Int).tdiv 1000000000) = 0 := by
    intro k hk
    rw [tmod_lit, tdiv_lit, Nat.mod_eq_of_lt hk, Nat.div_eq_of_lt hk]
    exact ⟨rfl, rfl⟩
  have mx := m x (by omega)
  have my := m y (by omega)
  have mxy := m (x + y) hs
  rcases hv with ⟨rfl, p, c, rfl⟩ | ⟨hx, g, o, c, rfl, l, hg⟩ <;> rcases hw with ⟨rfl, p2, c2, rfl⟩ | ⟨hy, g2, o2, c2, rfl, l2, hg2⟩
  case inl.inl =>
    refine gcalls_in (pl := noPl) [.tmp 4] mixed Tryz.func164 rfl rfl (by exact ok164) ?_
    simp only [go_sem]
    refine loopK_unroll ?_
    simp only [go_sem, Nat.reduceBEq, Int.reduceLT, Array.reduceGetElem?, ↓reduceIte]
    exact ⟨GH.le.refl _, .inl ⟨rfl, rfl⟩⟩
  case inl.inr =>
    refine gcalls_in (pl := noPl) [.tmp 4] mixed Tryz.func164 rfl rfl (by exact ok164) ?_
    simp only [go_sem]
    refine loopK_unroll ?_
    simp only [go_sem, Nat.reduceBEq, Nat.reduceLeDiff, Nat.reduceLT, Int.reduceAdd, Int.reduceLT, Int.reduceLE, Int.reduceEq, Int.reduceToNat, Array.reduceGetElem?, ↓reduceIte, l2, e1, my, ap1]
    refine loopK_unroll ?_
    simp only [go_sem, Nat.reduceBEq, Array.reduceGetElem?]
    exact ⟨(GH.le_alloc _ _).trans (GH.le_alloc _ _), by rw [Nat.zero_add]; exact ap1_row y⟩
  case inr.inl =>
    refine gcalls_in (pl := noPl) [.tmp 4] mixed Tryz.func164 rfl rfl (by exact ok164) ?_
    simp only [go_sem]
    refine loopK_unroll ?_
    simp only [go_sem, Nat.reduceBEq, Nat.reduceLeDiff, Nat.reduceLT, Int.reduceAdd, Int.reduceLT, Int.reduceLE, Int.reduceEq, Int.reduceToNat, Array.reduceGetElem?, ↓reduceIte, l, e0, mx, ap1]
    refine loopK_unroll ?_
    simp only [go_sem, Nat.reduceBEq, Array.reduceGetElem?]
    exact ⟨(GH.le_alloc _ _).trans (GH.le_alloc _ _), by rw [Nat.add_zero]; exact ap1_row x⟩
  case inr.inr =>
    refine gcalls_in (pl := noPl) [.tmp 4] mixed Tryz.func164 rfl rfl (by exact ok164) ?_
    simp only [go_sem]
    refine loopK_unroll ?_
    simp only [go_sem, Nat.reduceBEq, Nat.reduceLeDiff, Nat.reduceLT, Int.reduceAdd, Int.reduceLT, Int.reduceLE, Int.reduceEq, Int.reduceToNat, Array.reduceGetElem?, ↓reduceIte, l, l2, e0, e2, mxy, ap1]
    refine loopK_unroll ?_
    simp only [go_sem, Nat.reduceBEq, Array.reduceGetElem?]
    exact ⟨(GH.le_alloc _ _).trans (GH.le_alloc _ _), ap1_row (x + y)⟩
theorem c_above {h : GH} {v w : Value} {x y : Nat} (hv : DgS h v x) (hw : DgS h w y) : ∃ r h', GCalls Tryz.prog gE 165 #[v, w] h r h' ∧ h.le h' ∧ r = .int .i64 (if x < y then -1 else if y < x then 1 else 0) := by
  have wn1 : IntKind.i64.wrap (-1) = -1 := by decide
  have wz0 : IntKind.i64.wrap 0 = 0 := by decide
  rcases hv with ⟨rfl, p, c, rfl⟩ | ⟨hx, g, o, c, rfl, l, hg⟩ <;> rcases hw with ⟨rfl, p2, c2, rfl⟩ | ⟨hy, g2, o2, c2, rfl, l2, hg2⟩
  case inl.inl =>
    refine gcalls_in (pl := pl165) [.tmp 4] mixed Tryz.func165 rfl rfl (by exact ok165) ?_
    simp only [go_sem, Nat.reduceBEq, Int.reduceSub, Int.reduceNeg, Int.reduceNe]
    refine loopK_unroll ?_
    simp only [go_sem, Nat.reduceLT, Int.reduceNeg, Int.reduceLE, ↓reduceIte, wn1]
    exact GH.le.refl _
  case inl.inr =>
    refine gcalls_in (pl := pl165) [.tmp 4] mixed Tryz.func165 rfl rfl (by exact ok165) ?_
    simp only [go_sem, Nat.reduceBEq, Int.reduceNeg, Int.reduceLT, Int.reduceNe]
    refine ⟨GH.le.refl _, ?_⟩
    rw [if_pos (by omega)]
  case inr.inl =>
    refine gcalls_in (pl := pl165) [.tmp 4] mixed Tryz.func165 rfl rfl (by exact ok165) ?_
    simp only [go_sem, Nat.reduceBEq, Int.reduceNeg, Int.reduceLT, Int.reduceNe]
    refine ⟨GH.le.refl _, ?_⟩
    rw [if_neg (by omega), if_pos (by omega)]
  case inr.inr =>
    refine gcalls_in (pl := pl165) [.tmp 4] mixed Tryz.func165 rfl rfl (by exact ok165) ?_
    simp only [go_sem, Nat.reduceBEq, Int.reduceSub, Int.reduceNe]
    refine loopK_unroll ?_
    simp only [go_sem, Nat.reduceBEq, Int.reduceLT, Int.reduceLE, Int.reduceToNat, Array.reduceGetElem?, ↓reduceIte, l, l2, wz0, pl165]
    refine ifK_intro (fun c1 => ?_) (fun c1 => ?_)
    · have c1' := of_decide_eq_true c1
      simp only [go_sem, Int.reduceNeg, c1]
      refine ⟨GH.le.refl _, ?_⟩
      rw [if_pos (by omega)]
    · have c1' := of_decide_eq_false c1
      simp only [go_sem, Nat.reduceBEq, Int.reduceLT, Int.reduceLE, Int.reduceToNat, Array.reduceGetElem?, ↓reduceIte, l, l2, wz0, pl165]
      refine ifK_intro (fun c2 => ?_) (fun c2 => ?_)
      · have c2' := of_decide_eq_true c2
        simp only [go_sem, Int.reduceNeg, c2]
        refine ⟨GH.le.refl _, ?_⟩
        rw [if_neg (by omega), if_pos (by omega)]
      · have c2' := of_decide_eq_false c2
        simp only [go_sem, Nat.reduceBEq, Int.reduceSub, Int.reduceNeg, wz0, wn1]
        refine loopK_unroll ?_
        simp only [go_sem, Int.reduceNeg, Int.reduceLE, wz0]
        refine ⟨GH.le.refl _, ?_⟩
        rw [if_neg (by omega), if_neg (by omega)]
theorem c_minus {h : GH} {v w : Value} {x y : Nat} (hv : DgS h v x) (hw : DgS h w y) (hs : x < 1000000000) (hxy : y ≤ x) : ∃ r h', GCalls Tryz.prog gE 166 #[v, w] h r h' ∧ h.le h' ∧ RwS h' r (x - y) := by
  have e0 : IntKind.i64.wrap ((x : Int) - 0) = (x : Int) := by rw [wrap_i64 (by omega) (by omega)]; omega
  have e2 : IntKind.i64.wrap ((x : Int) - (y : Int)) = ((x - y : Nat) : Int) := by rw [wrap_i64 (by omega) (by omega)]; omega
  have k1 : ∀ k : Nat, ¬ (k : Int) < 0 := fun k => by omega
  rcases hv with ⟨rfl, p, c, rfl⟩ | ⟨hx, g, o, c, rfl, l, hg⟩ <;> rcases hw with ⟨rfl, p2, c2, rfl⟩ | ⟨hy, g2, o2, c2, rfl, l2, hg2⟩
  case inl.inl =>
    refine gcalls_in (pl := noPl) [.tmp 4] mixed Tryz.func166 rfl rfl (by exact ok166) ?_
    simp only [go_sem]
    refine loopK_unroll ?_
    simp only [go_sem, Nat.reduceBEq, Nat.reduceSub, Int.reduceLT]
    exact ⟨GH.le.refl _, .inl ⟨rfl, rfl⟩⟩
  case inl.inr => omega
  case inr.inl =>
    refine gcalls_in (pl := noPl) [.tmp 4] mixed Tryz.func166 rfl rfl (by exact ok166) ?_
    simp only [go_sem]
    refine loopK_unroll ?_
    simp only [go_sem, Nat.reduceBEq, Nat.reduceLeDiff, Nat.reduceLT, Int.reduceAdd, Int.reduceLT, Int.reduceLE, Int.reduceToNat, ↓reduceIte, l, e0, k1, ap1]
    refine loopK_unroll ?_
    simp only [go_sem, Nat.reduceBEq]
    exact ⟨(GH.le_alloc _ _).trans (GH.le_alloc _ _), by rw [Nat.sub_zero]; exact ap1_row x⟩
  case inr.inr =>
    refine gcalls_in (pl := noPl) [.tmp 4] mixed Tryz.func166 rfl rfl (by exact ok166) ?_
    simp only [go_sem]
    refine loopK_unroll ?_
    simp only [go_sem, Nat.reduceBEq, Nat.reduceLeDiff, Nat.reduceLT, Int.reduceAdd, Int.reduceLT, Int.reduceLE, Int.reduceToNat, ↓reduceIte, l, l2, e0, e2, k1, ap1]
    refine loopK_unroll ?_
    simp only [go_sem, Nat.reduceBEq]
    exact ⟨(GH.le_alloc _ _).trans (GH.le_alloc _ _), ap1_row (x - y)⟩
theorem DgS.form {h : GH} {v : Value} {x : Nat} (w : DgS h v x) : ∃ p n c, v = .slice p n c := by
  rcases w with ⟨_, p, c, rfl⟩ | ⟨_, g, o, c, rfl, _⟩
  · exact ⟨_, _, _, rfl⟩
  · exact ⟨_, _, _, rfl⟩
/-- trim of what plus and minus give -/
theorem c_trimR {h : GH} {b : Bool} {v : Value} {z : Int} (hb : z ≠ 0 → b = decide (z < 0)) (s : RwS h v z.natAbs) : ∃ r h', GCalls Tryz.prog gE 130 #[.agg #[.bool b, v]] h r h' ∧ h.le h' ∧ WAt h' r z := by
  rcases s with ⟨h0, rfl⟩ | ⟨g, o, c, rfl, s⟩
  · obtain ⟨r, h', k1, k2, rfl⟩ := c_trim0 (h := h) (b := b)
    exact ⟨_, h', k1, k2, .inl ⟨by omega, _, _, rfl⟩⟩
  · obtain ⟨m, hm1, hm2⟩ := one_dg z
    exact c_trimW hm2 hm1 hb s
theorem RwS.form {h : GH} {v : Value} {x : Nat} (w : RwS h v x) : ∃ p n c, v = .slice p n c := by
  rcases w with ⟨_, rfl⟩ | ⟨g, o, c, rfl, _⟩
  · exact ⟨_, _, _, rfl⟩
  · exact ⟨_, _, _, rfl⟩
/-- three boxes of two cells -/
theorem Duo.three (h : GH) (a b x y u w : Value) : ∃ H, ((h.alloc ⟨[a, b], true, false⟩).alloc ⟨[x, y], true, false⟩).alloc ⟨[u, w], true, false⟩ = H ∧ Duo H h.n a b ∧ Duo H (h.n + 1) x y ∧ Duo H (h.n + 2) u w ∧ h.le H ∧ H.n = h.n + 3 :=
  ⟨_, rfl, ((Duo.new h a b).mono (GH.le_alloc _ _)).mono (GH.le_alloc _ _), (Duo.new _ x y).mono (GH.le_alloc _ _), Duo.new _ u w, ((GH.le_alloc _ _).trans (GH.le_alloc _ _)).trans (GH.le_alloc _ _), rfl⟩
theorem c_AddW {h : GH} {v w : Value} {x y : Int} (hv : WAt h v x) (hw : WAt h w y) (hx : x.natAbs < 500000000) (hy : y.natAbs < 500000000) : ∃ r h', GCalls Tryz.prog gE 118 #[v, w] h r h' ∧ h.le h' ∧ WAt h' r (x + y) := by
  obtain ⟨p1, n1, c1, rfl, dv⟩ := hv.dg
  obtain ⟨p2, n2, c2, rfl, dw⟩ := hw.dg
  obtain ⟨H, hH, d1, d2, d3, hle, hn⟩ := Duo.three h (.bool (decide (x < 0))) (.slice p1 n1 c1) (.bool (decide (y < 0))) (.slice p2 n2 c2) (.bool false) (.slice none 0 0)
  refine gcalls_in (pl := pl118) [.cell 4 133] mixed Tryz.func118 rfl rfl (by exact ok118) ?_
  simp only [go_sem, Nat.reduceBEq, ↓reduceIte, hH, d1.l0, d2.l0]
  refine ifK_intro (fun c1 => ?_) (fun c1 => ?_)
  · have c1' : (x < 0) ↔ (y < 0) := by rw [beq_iff_eq] at c1; exact decide_eq_decide.1 c1
    simp only [go_sem, Nat.reduceBEq, Array.reduceGetElem?, d1.l0, d1.l1, d2.l1, pl118]
    refine callK_intro (c_plus (dv.mono hle) (dw.mono hle) (by omega)) ?_
    rintro sv h1 ⟨hle1, hr1⟩
    obtain ⟨p3, n3, c3, rfl⟩ := hr1.form
    simp only [go_sem, Nat.reduceBEq, Nat.reduceAdd, Nat.reduceLeDiff, Array.reduceGetElem?, ↓reduceIte, (d1.mono hle1).l0]
    refine callK_intro (c_trimR (z := x + y) (fun h0 => by rw [decide_eq_decide]; omega) (by rw [show (x + y).natAbs = x.natAbs + y.natAbs by omega]; exact hr1)) ?_
    rintro rv1 h2 ⟨hle2, hr2⟩
    obtain ⟨b', p', n', c', rfl⟩ := hr2.form
    have d3' := (d3.mono hle1).mono hle2
    have hst := d3'.s2 (v := .bool b') (w := .slice p' n' c') rfl rfl
    have dd : Duo (h2.upd (h.n + 2) ⟨[.bool b', .slice p' n' c'], true, false⟩) (h.n + 2) (.bool b') (.slice p' n' c') := Duo.up d3'.lt
    simp only [go_sem, Nat.reduceBEq, Nat.reduceAdd, Array.reduceGetElem?, ↓reduceIte, hst, dd.l2]
    exact ⟨((hle.trans hle1).trans hle2).upd (by omega) _, hr2.upd d3'⟩
  · have c1' : ¬ ((x < 0) ↔ (y < 0)) := by
      intro h0
      have e : decide (x < 0) = decide (y < 0) := decide_eq_decide.2 h0
      rw [e] at c1
      simp at c1
    simp only [go_sem, Nat.reduceBEq, c1, d1.l1, d2.l1]
    refine callK_intro (c_above (dv.mono hle) (dw.mono hle)) ?_
    rintro _ h4 ⟨hle4, rfl⟩
    have d1 := d1.mono hle4
    have d2 := d2.mono hle4
    have d3 := d3.mono hle4
    have dv := (dv.mono hle).mono hle4
    have dw := (dw.mono hle).mono hle4
    have hle := hle.trans hle4
    by_cases c2 : x.natAbs < y.natAbs
    · have k0 : ¬ (0 : Int) ≤ (if x.natAbs < y.natAbs then -1 else if y.natAbs < x.natAbs then 1 else 0) := by rw [if_pos c2]; omega
      simp only [go_sem, Nat.reduceBEq, Int.reduceNeg, Array.reduceGetElem?, k0, d1.l1, d2.l0, d2.l1, pl118]
      refine callK_intro (c_minus dw dv (by omega) (by omega)) ?_
      rintro sv h1 ⟨hle1, hr1⟩
      obtain ⟨p3, n3, c3, rfl⟩ := hr1.form
      simp only [go_sem, Nat.reduceBEq, Nat.reduceAdd, Nat.reduceLeDiff, Int.reduceNeg, Array.reduceGetElem?, ↓reduceIte, (d2.mono hle1).l0]
      refine callK_intro (c_trimR (z := x + y) (fun h0 => by rw [decide_eq_decide]; omega) (by rw [show (x + y).natAbs = y.natAbs - x.natAbs by omega]; exact hr1)) ?_
      rintro rv1 h2 ⟨hle2, hr2⟩
      obtain ⟨b', p', n', c', rfl⟩ := hr2.form
      have d3' := (d3.mono hle1).mono hle2
      have hst := d3'.s2 (v := .bool b') (w := .slice p' n' c') rfl rfl
      have dd : Duo (h2.upd (h.n + 2) ⟨[.bool b', .slice p' n' c'], true, false⟩) (h.n + 2) (.bool b') (.slice p' n' c') := Duo.up d3'.lt
      simp only [go_sem, Nat.reduceBEq, Nat.reduceAdd, Int.reduceNeg, Array.reduceGetElem?, ↓reduceIte, hst, dd.l2]
      exact ⟨((hle.trans hle1).trans hle2).upd (by omega) _, hr2.upd d3'⟩
    · have k0 : (0 : Int) ≤ (if x.natAbs < y.natAbs then -1 else if y.natAbs < x.natAbs then 1 else 0) := by rw [if_neg c2]; split <;> omega
      simp only [go_sem, Nat.reduceBEq, Int.reduceNeg, Array.reduceGetElem?, k0, d1.l0, d1.l1, d2.l1, pl118]
      refine callK_intro (c_minus dv dw (by omega) (by omega)) ?_
      rintro sv h1 ⟨hle1, hr1⟩
      obtain ⟨p3, n3, c3, rfl⟩ := hr1.form
      simp only [go_sem, Nat.reduceBEq, Nat.reduceAdd, Nat.reduceLeDiff, Int.reduceNeg, Array.reduceGetElem?, ↓reduceIte, (d1.mono hle1).l0]
      refine callK_intro (c_trimR (z := x + y) (fun h0 => by rw [decide_eq_decide]; omega) (by rw [show (x + y).natAbs = x.natAbs - y.natAbs by omega]; exact hr1)) ?_
      rintro rv1 h2 ⟨hle2, hr2⟩
      obtain ⟨b', p', n', c', rfl⟩ := hr2.form
      have d3' := (d3.mono hle1).mono hle2
      have hst := d3'.s2 (v := .bool b') (w := .slice p' n' c') rfl rfl
      have dd : Duo (h2.upd (h.n + 2) ⟨[.bool b', .slice p' n' c'], true, false⟩) (h.n + 2) (.bool b') (.slice p' n' c') := Duo.up d3'.lt
      simp only [go_sem, Nat.reduceBEq, Nat.reduceAdd, Int.reduceNeg, Array.reduceGetElem?, ↓reduceIte, hst, dd.l2]
      exact ⟨((hle.trans hle1).trans hle2).upd (by omega) _, hr2.upd d3'⟩
theorem mk1 {h : GH} : gMake Tryz.prog 28 (.int .i64 1) (.int .i64 1) h = some (.slice (some ⟨h.n, 0, none⟩) 1 1, h.alloc ⟨[.int .i64 0], true, false⟩) :=
  gMake_at (P := Tryz.prog) (a := 1) (b := 1) rfl rfl ty_sk28 ty_zk3 ty_ce3 (Nat.le_refl _) (by decide) (by rw [ty_be3]; decide)
theorem mk2 {h : GH} : gMake Tryz.prog 28 (.int .i64 2) (.int .i64 2) h = some (.slice (some ⟨h.n, 0, none⟩) 2 2, h.alloc ⟨[.int .i64 0, .int .i64 0], true, false⟩) :=
  gMake_at (P := Tryz.prog) (a := 2) (b := 2) rfl rfl ty_sk28 ty_zk3 ty_ce3 (Nat.le_refl _) (by decide) (by rw [ty_be3]; decide)
theorem mk3 {h : GH} : gMake Tryz.prog 28 (.int .i64 3) (.int .i64 3) h = some (.slice (some ⟨h.n, 0, none⟩) 3 3, h.alloc ⟨[.int .i64 0, .int .i64 0, .int .i64 0], true, false⟩) :=
  gMake_at (P := Tryz.prog) (a := 3) (b := 3) rfl rfl ty_sk28 ty_zk3 ty_ce3 (Nat.le_refl _) (by decide) (by rw [ty_be3]; decide)
theorem mkrow {h : GH} {l : List Int} (hu : l.length < unk) : SlAt (h.alloc ⟨l.map fun x => .int .i64 x, true, false⟩) h.n 0 l.length 1 (ints l) :=
  row_at (els := ints l) (Nat.lt_succ_self _) (by rw [alloc_self]; simp only [Row, ints]; congr 1; clear hu; induction l with
    | nil => rfl
    | cons a l ih => simp [ih]) (ints_one _) ⟨by simp [ints], fun _ => .inl (by omega)⟩
theorem mul_neg_iff' {x y : Int} (hx : x ≠ 0) (hy : y ≠ 0) : (x * y < 0) ↔ ¬ ((x < 0) ↔ (y < 0)) := by
  rcases Int.lt_or_lt_of_ne hx with h | h <;> rcases Int.lt_or_lt_of_ne hy with k | k
  · have := Int.mul_pos_of_neg_of_neg h k; omega
  · have := Int.mul_neg_of_neg_of_pos h k; omega
  · have := Int.mul_neg_of_pos_of_neg h k; omega
  · have := Int.mul_pos h k; omega
theorem c_MulW {h : GH} {v w : Value} {x y : Int} (hv : WAt h v x) (hw : WAt h w y) (hx : x.natAbs < 30000) (hy : y.natAbs < 30000) : ∃ r h', GCalls Tryz.prog gE 119 #[v, w] h r h' ∧ h.le h' ∧ WAt h' r (x * y) := by
  obtain ⟨p1, n1, c1, rfl, dv⟩ := hv.dg
  obtain ⟨p2, n2, c2, rfl, dw⟩ := hw.dg
  obtain ⟨H, hH, d1, d2, d3, hle, hn⟩ := Duo.three h (.bool (decide (x < 0))) (.slice p1 n1 c1) (.bool (decide (y < 0))) (.slice p2 n2 c2) (.bool false) (.slice none 0 0)
  have w1 : IntKind.i64.wrap 1 = 1 := by decide
  have w2 : IntKind.i64.wrap 2 = 2 := by decide
  have w3 : IntKind.i64.wrap 3 = 3 := by decide
  have w0 : IntKind.i64.wrap 0 = 0 := by decide
  rcases dv with ⟨hx0, p, c, e⟩ | ⟨hx0, g, o, c, e, l, hg⟩ <;> rcases dw with ⟨hy0, p2, c2, e2⟩ | ⟨hy0, g2, o2, c2, e2, l2, hg2⟩
  case inl.inl =>
    injection e with e3 e4 e5
    injection e2 with f3 f4 f5
    subst e3 e4 e5 f3 f4 f5
    have rowG := mkrow (h := H) (l := [0]) (by decide)
    simp only [List.map_cons, List.map_nil] at rowG
    have e1 := d1.mono (GH.le_alloc H ⟨[.int .i64 0], true, false⟩)
    have e2 := d2.mono (GH.le_alloc H ⟨[.int .i64 0], true, false⟩)
    have e3 := d3.mono (GH.le_alloc H ⟨[.int .i64 0], true, false⟩)
    have hleG := hle.trans (GH.le_alloc H ⟨[.int .i64 0], true, false⟩)
    refine gcalls_in (pl := pl119) [.cell 4 133] mixed Tryz.func119 rfl rfl (by exact ok119) ?_
    simp only [go_sem, Nat.reduceBEq, Int.reduceAdd, ↓reduceIte, hH, d1.l1, d2.l1, hn, w0, w1, mk1]
    have hz0 : x * y = 0 := by rw [show x = 0 by omega, Int.zero_mul]
    refine loopK_unroll ?_
    simp only [go_sem, Nat.reduceBEq, Nat.reduceAdd, Nat.reduceLeDiff, Int.reduceLT, ↓reduceIte, e1.l0, e1.l1, e2.l0]
    rw [← hn]
    refine callK_intro (c_trimW (l := [0]) (m := 1) (z := x * y) (by rw [hz0]; rfl) (by decide) (fun h0 => absurd hz0 h0) rowG) ?_
    rintro rv1 h5 ⟨hle5, hr5⟩
    obtain ⟨b', p', n', c', rfl⟩ := hr5.form
    have d3' := e3.mono hle5
    have hst := d3'.s2 (v := .bool b') (w := .slice p' n' c') rfl rfl
    have dd : Duo (h5.upd (h.n + 2) ⟨[.bool b', .slice p' n' c'], true, false⟩) (h.n + 2) (.bool b') (.slice p' n' c') := Duo.up d3'.lt
    simp only [go_sem, Nat.reduceBEq, Nat.reduceAdd, ↓reduceIte, hst, dd.l2]
    exact ⟨(hleG.trans hle5).upd (by omega) _, hr5.upd d3'⟩
  case inl.inr =>
    injection e with e3 e4 e5
    injection e2 with f3 f4 f5
    subst e3 e4 e5 f3 f4 f5
    have rowG := mkrow (h := H) (l := [0, 0]) (by decide)
    simp only [List.map_cons, List.map_nil] at rowG
    have e1 := d1.mono (GH.le_alloc H ⟨[.int .i64 0, .int .i64 0], true, false⟩)
    have e2 := d2.mono (GH.le_alloc H ⟨[.int .i64 0, .int .i64 0], true, false⟩)
    have e3 := d3.mono (GH.le_alloc H ⟨[.int .i64 0, .int .i64 0], true, false⟩)
    have hleG := hle.trans (GH.le_alloc H ⟨[.int .i64 0, .int .i64 0], true, false⟩)
    refine gcalls_in (pl := pl119) [.cell 4 133] mixed Tryz.func119 rfl rfl (by exact ok119) ?_
    simp only [go_sem, Nat.reduceBEq, Int.reduceAdd, ↓reduceIte, hH, d1.l1, d2.l1, hn, w1, w2, mk2]
    have hz0 : x * y = 0 := by rw [show x = 0 by omega, Int.zero_mul]
    refine loopK_unroll ?_
    simp only [go_sem, Nat.reduceBEq, Nat.reduceAdd, Nat.reduceLeDiff, Int.reduceLT, ↓reduceIte, e1.l0, e1.l1, e2.l0]
    rw [← hn]
    refine callK_intro (c_trimW (l := [0, 0]) (m := 2) (z := x * y) (by rw [hz0]; rfl) (by decide) (fun h0 => absurd hz0 h0) rowG) ?_
    rintro rv1 h5 ⟨hle5, hr5⟩
    obtain ⟨b', p', n', c', rfl⟩ := hr5.form
    have d3' := e3.mono hle5
    have hst := d3'.s2 (v := .bool b') (w := .slice p' n' c') rfl rfl
    have dd : Duo (h5.upd (h.n + 2) ⟨[.bool b', .slice p' n' c'], true, false⟩) (h.n + 2) (.bool b') (.slice p' n' c') := Duo.up d3'.lt
    simp only [go_sem, Nat.reduceBEq, Nat.reduceAdd, ↓reduceIte, hst, dd.l2]
    exact ⟨(hleG.trans hle5).upd (by omega) _, hr5.upd d3'⟩
  case inr.inl =>
    injection e with e3 e4 e5
    injection e2 with f3 f4 f5
    subst e3 e4 e5 f3 f4 f5
    have rowG := mkrow (h := H) (l := [0, 0]) (by decide)
    simp only [List.map_cons, List.map_nil] at rowG
    have e1 := d1.mono (GH.le_alloc H ⟨[.int .i64 0, .int .i64 0], true, false⟩)
    have e2 := d2.mono (GH.le_alloc H ⟨[.int .i64 0, .int .i64 0], true, false⟩)
    have e3 := d3.mono (GH.le_alloc H ⟨[.int .i64 0, .int .i64 0], true, false⟩)
    have hleG := hle.trans (GH.le_alloc H ⟨[.int .i64 0, .int .i64 0], true, false⟩)
    refine gcalls_in (pl := pl119) [.cell 4 133] mixed Tryz.func119 rfl rfl (by exact ok119) ?_
    simp only [go_sem, Nat.reduceBEq, Int.reduceAdd, ↓reduceIte, hH, d1.l1, d2.l1, hn, w1, w2, mk2]
    have hz0 : x * y = 0 := by rw [show y = 0 by omega, Int.mul_zero]
    refine loopK_unroll ?_
    simp only [go_sem, Nat.reduceBEq, Int.reduceLT, e1.l1]
    refine loopK_unroll ?_
    simp only [go_sem, Nat.reduceBEq, Int.reduceAdd, Int.reduceLT, Array.reduceGetElem?, ↓reduceIte, e2.l1, w1]
    refine loopK_unroll ?_
    simp only [go_sem, Nat.reduceBEq, Nat.reduceAdd, Nat.reduceLeDiff, Int.reduceLT, ↓reduceIte, e1.l0, e1.l1, e2.l0]
    rw [← hn]
    refine callK_intro (c_trimW (l := [0, 0]) (m := 2) (z := x * y) (by rw [hz0]; rfl) (by decide) (fun h0 => absurd hz0 h0) rowG) ?_
    rintro rv1 h5 ⟨hle5, hr5⟩
    obtain ⟨b', p', n', c', rfl⟩ := hr5.form
    have d3' := e3.mono hle5
    have hst := d3'.s2 (v := .bool b') (w := .slice p' n' c') rfl rfl
    have dd : Duo (h5.upd (h.n + 2) ⟨[.bool b', .slice p' n' c'], true, false⟩) (h.n + 2) (.bool b') (.slice p' n' c') := Duo.up d3'.lt
    simp only [go_sem, Nat.reduceBEq, Nat.reduceAdd, ↓reduceIte, hst, dd.l2]
    exact ⟨(hleG.trans hle5).upd (by omega) _, hr5.upd d3'⟩
  case inr.inr =>
    injection e with e3 e4 e5
    injection e2 with f3 f4 f5
    subst e3 e4 e5 f3 f4 f5
    have e1 := d1.mono (GH.le_alloc H ⟨[.int .i64 0, .int .i64 0, .int .i64 0], true, false⟩)
    have e2 := d2.mono (GH.le_alloc H ⟨[.int .i64 0, .int .i64 0, .int .i64 0], true, false⟩)
    have e3 := d3.mono (GH.le_alloc H ⟨[.int .i64 0, .int .i64 0, .int .i64 0], true, false⟩)
    have hleG := hle.trans (GH.le_alloc H ⟨[.int .i64 0, .int .i64 0, .int .i64 0], true, false⟩)
    have hab : x.natAbs * y.natAbs < 1000000000 := by
      have := Nat.mul_le_mul (Nat.le_of_lt_succ (show x.natAbs < 30000 - 1 + 1 from hx)) (Nat.le_of_lt_succ (show y.natAbs < 30000 - 1 + 1 from hy))
      omega
    have v1 : IntKind.i64.wrap ((x.natAbs : Int) * (y.natAbs : Int)) = ((x.natAbs * y.natAbs : Nat) : Int) := by
      rw [← Int.natCast_mul]; exact wrap_i64 (by omega) (by omega)
    have v2 : IntKind.i64.wrap (0 + ((x.natAbs * y.natAbs : Nat) : Int)) = ((x.natAbs * y.natAbs : Nat) : Int) := by rw [wrap_i64 (by omega) (by omega)]; omega
    have v3 : ((x.natAbs * y.natAbs : Nat) : Int).tmod 1000000000 = ((x.natAbs * y.natAbs : Nat) : Int) := by rw [tmod_lit, Nat.mod_eq_of_lt hab]
    have v4 : IntKind.i64.wrap (((x.natAbs * y.natAbs : Nat) : Int).tdiv 1000000000) = 0 := by rw [tdiv_lit, Nat.div_eq_of_lt hab]; rfl
    have la := le_load (hle.trans (GH.le_alloc H ⟨[.int .i64 0, .int .i64 0, .int .i64 0], true, false⟩)) hg l
    have lb := le_load (hle.trans (GH.le_alloc H ⟨[.int .i64 0, .int .i64 0, .int .i64 0], true, false⟩)) hg2 l2
    generalize hq : x.natAbs * y.natAbs = q at *
    have st := store_at (h := H.alloc ⟨[.int .i64 0, .int .i64 0, .int .i64 0], true, false⟩) (g := H.n) (o := 0) (vs := [.int .i64 q]) (Nat.lt_succ_self _) (alloc_self _ _) (by simp) rfl
    have st2 : (H.alloc ⟨[.int .i64 0, .int .i64 0, .int .i64 0], true, false⟩).store (h.n + 3) 0 [.int .i64 q] = some ((H.alloc ⟨[.int .i64 0, .int .i64 0, .int .i64 0], true, false⟩).upd (h.n + 3) ⟨[.int .i64 q, .int .i64 0, .int .i64 0], true, false⟩) := by rw [← hn]; exact st
    have lr0 : (H.alloc ⟨[.int .i64 0, .int .i64 0, .int .i64 0], true, false⟩).load (h.n + 3) 0 1 = some [.int .i64 0] := by rw [← hn]; exact alloc_load30
    have hlt : h.n + 3 < (H.alloc ⟨[.int .i64 0, .int .i64 0, .int .i64 0], true, false⟩).n := by show _ < H.n + 1; omega
    obtain ⟨G, hG⟩ : ∃ G, H.alloc ⟨[.int .i64 0, .int .i64 0, .int .i64 0], true, false⟩ = G := ⟨_, rfl⟩
    rw [hG] at e1 e2 e3 hleG la lb st2 lr0 hlt
    have i1 := e1.up_ne (g' := h.n + 3) (x := ⟨[.int .i64 q, .int .i64 0, .int .i64 0], true, false⟩) (by omega)
    have i2 := e2.up_ne (g' := h.n + 3) (x := ⟨[.int .i64 q, .int .i64 0, .int .i64 0], true, false⟩) (by omega)
    have i3 := e3.up_ne (g' := h.n + 3) (x := ⟨[.int .i64 q, .int .i64 0, .int .i64 0], true, false⟩) (by omega)
    have hleI := hleG.upd (g := h.n + 3) (by omega) ⟨[.int .i64 q, .int .i64 0, .int .i64 0], true, false⟩
    have rowI : SlAt (G.upd (h.n + 3) ⟨[.int .i64 q, .int .i64 0, .int .i64 0], true, false⟩) (h.n + 3) 0 3 1 (ints [(q : Int), 0, 0]) := row_at (h := G.upd (h.n + 3) ⟨[.int .i64 q, .int .i64 0, .int .i64 0], true, false⟩) (els := ints [(q : Int), 0, 0]) (c := 3) hlt (upd_self _ _ _) (ints_one _) ⟨by simp [ints], fun h => absurd h (by decide)⟩
    have mk3' : gMake Tryz.prog 28 (.int .i64 3) (.int .i64 3) H = some (.slice (some ⟨h.n + 3, 0, none⟩) 3 3, G) := by rw [← hn, ← hG]; exact mk3
    refine gcalls_in (pl := pl119) [.cell 4 133] mixed Tryz.func119 rfl rfl (by exact ok119) ?_
    simp only [go_sem, Nat.reduceBEq, Int.reduceAdd, ↓reduceIte, hH, d1.l1, d2.l1, w2, w3, mk3']
    refine loopK_unroll ?_
    simp only [go_sem, Nat.reduceBEq, Int.reduceLT, e1.l1]
    refine loopK_unroll ?_
    simp only [go_sem, Nat.reduceBEq, Int.reduceAdd, Int.reduceLT, Int.reduceLE, Int.reduceEq, Int.reduceToNat, Array.reduceGetElem?, ↓reduceIte, e1.l1, e2.l1, w0, w1, la, lb, v1, v2, v3, v4, lr0, st2, pl119]
    refine loopK_unroll ?_
    simp only [go_sem, Nat.reduceBEq, Int.reduceAdd, Int.reduceLT, Array.reduceGetElem?, ↓reduceIte, i2.l1, w1]
    refine loopK_unroll ?_
    simp only [go_sem, Nat.reduceBEq, Nat.reduceAdd, Nat.reduceLeDiff, Int.reduceLT, ↓reduceIte, i1.l0, i1.l1, i2.l0]
    refine callK_intro (c_trimW (l := [(q : Int), 0, 0]) (m := 2) (z := x * y) (by rw [dg_ne (by intro h0; rcases Int.mul_eq_zero.1 h0 with h | h <;> omega), Int.natAbs_mul, hq]; rfl) (by decide) (fun h0 => by
      have hsg : (x * y < 0) ↔ ¬ ((x < 0) ↔ (y < 0)) := mul_neg_iff' (by omega) (by omega)
      by_cases c1 : x < 0 <;> by_cases c2 : y < 0 <;> simp [hsg, c1, c2]) rowI) ?_
    rintro rv1 h5 ⟨hle5, hr5⟩
    obtain ⟨b', p', n', c', rfl⟩ := hr5.form
    have d3' := i3.mono hle5
    have hst := d3'.s2 (v := .bool b') (w := .slice p' n' c') rfl rfl
    have dd : Duo (h5.upd (h.n + 2) ⟨[.bool b', .slice p' n' c'], true, false⟩) (h.n + 2) (.bool b') (.slice p' n' c') := Duo.up d3'.lt
    simp only [go_sem, Nat.reduceBEq, Nat.reduceAdd, ↓reduceIte, hst, dd.l2]
    exact ⟨(hleI.trans hle5).upd (by omega) _, hr5.upd d3'⟩
end Go.Proofs.Gh
namespace Go.Proofs.Gh
open Go Go.Proofs Go.Proofs.Zz
set_option maxRecDepth 10000
set_option linter.unusedSimpArgs false
theorem c_SignW {h : GH} {v : Value} {z : Int} (hv : WAt h v z) : ∃ r h', GCalls Tryz.prog gE 97 #[v] h r h' ∧ h.le h' ∧ r = .int .i64 (if z = 0 then 0 else if z < 0 then -1 else 1) := by
  rcases hv with ⟨rfl, a, c, rfl⟩ | ⟨h0, g, o, c, rfl, l, hg⟩
  · have d1 := Duo.new h (.bool false) (.slice a 0 c)
    refine gcalls_in (pl := noPl) [.tmp 2] mixed Tryz.func97 rfl rfl (by exact ok97) ?_
    simp only [go_sem, Nat.reduceBEq, ↓reduceIte, d1.l1]
    exact GH.le_alloc _ _
  · have d1 := Duo.new h (.bool (decide (z < 0))) (.slice (some ⟨g, o, none⟩) 1 c)
    refine gcalls_in (pl := noPl) [.tmp 2] mixed Tryz.func97 rfl rfl (by exact ok97) ?_
    simp only [go_sem, Nat.reduceBEq, Int.reduceEq, ↓reduceIte, d1.l0, d1.l1]
    refine ifK_intro (fun c1 => ?_) (fun c1 => ?_)
    · have c1' := of_decide_eq_true c1
      simp only [go_sem, Int.reduceNeg]
      refine ⟨GH.le_alloc _ _, ?_⟩
      rw [if_neg h0, if_pos c1']
    · have c1' := of_decide_eq_false c1
      simp only [go_sem, Int.reduceNeg]
      refine ⟨GH.le_alloc _ _, ?_⟩
      rw [if_neg h0, if_neg c1']
theorem c_rLittle {h : GH} {v : Value} {z : Int} {n : Nat} (hv : WAt h v z) (hz : z.natAbs < 1000000000) (hn : n < 1000000000) (h0 : 0 < n) (hq : SmR (mkRat z n)) : ∃ r h', GCalls Tryz.prog gE 160 #[v, .int .i64 n] h r h' ∧ h.le h' ∧ r = rv (mkRat z n) := by
  obtain ⟨p1, n1, c1, rfl, dv⟩ := hv.dg
  obtain ⟨H, hH, d1, d2, hle, hHn⟩ := Duo.two h (.bool (decide (z < 0))) (.slice p1 n1 c1) (.string ⟨#[]⟩) (.string ⟨#[]⟩)
  have hg0 : 0 < z.natAbs.gcd n := Nat.gcd_pos_of_pos_right _ h0
  have hden : ((n : Int)).tdiv (z.natAbs.gcd n : Nat) = (((mkRat z n).den : Nat) : Int) := by
    rw [Rat.den_mkRat, if_neg (by omega), Nat.gcd_comm]; rfl
  have hnum0 : (mkRat z n).num = z.tdiv (z.natAbs.gcd n : Nat) := by
    rw [Rat.num_mkRat, if_neg (by omega), Nat.gcd_comm, Int.tdiv_eq_ediv_of_dvd]
    exact Int.ofNat_dvd_left.2 (Nat.gcd_dvd_left _ _)
  have hnum : ((z.natAbs : Nat) : Int).tdiv (z.natAbs.gcd n : Nat) = ((mkRat z n).num.natAbs : Int) := by
    rw [hnum0, Int.natAbs_tdiv]
    rfl
  have hsg : z < 0 → (mkRat z n).num = -((mkRat z n).num.natAbs : Int) := by
    intro hz0
    rw [← hnum, ← Int.neg_tdiv, show -((z.natAbs : Nat) : Int) = z by omega]
    exact hnum0
  have hsg2 : ¬ z < 0 → (mkRat z n).num = ((mkRat z n).num.natAbs : Int) := by
    intro hz0
    rw [← hnum, show ((z.natAbs : Nat) : Int) = z by omega]
    exact hnum0
  have q1 := hq.1
  have q2 := hq.2
  have w1 : IntKind.i64.wrap ((mkRat z n).num.natAbs : Int) = ((mkRat z n).num.natAbs : Int) := wrap_i64 (by have : (mkRat z n).num.natAbs < 10000000 := q1; omega) (by have : (mkRat z n).num.natAbs < 10000000 := q1; omega)
  have w2 : IntKind.i64.wrap (mkRat z n).den = ((mkRat z n).den : Int) := wrap_i64 (by have : (mkRat z n).den < 10000000 := q2; omega) (by have : (mkRat z n).den < 10000000 := q2; omega)
  have hne : ¬ ((z.natAbs.gcd n : Nat) : Int) = 0 := by omega
  have w3 : IntKind.i64.wrap (0 - ((mkRat z n).num.natAbs : Int)) = -((mkRat z n).num.natAbs : Int) := by rw [wrap_i64 (by have : (mkRat z n).num.natAbs < 10000000 := q1; omega) (by have : (mkRat z n).num.natAbs < 10000000 := q1; omega)]; omega
  rcases dv with ⟨hz0, p, c, e⟩ | ⟨hz0, g, o, c, e, l, hg⟩
  all_goals
    injection e with e3 e4 e5
    subst e3 e4 e5
  case inl =>
    refine gcalls_in (pl := pl160) [.cell 4 60] mixed Tryz.func160 rfl rfl (by exact ok160) ?_
    simp only [go_sem, Nat.reduceBEq, Int.reduceLT, ↓reduceIte, hH, d1.l1]
    refine loopK_inv (α := Nat × Nat) (fun p => p.2) (fun p ts g' => ts 1 = .int .i64 n ∧ ts 2 = .pointer (some ⟨h.n, 0, none⟩) ∧ ts 4 = .pointer (some ⟨h.n + 1, 0, none⟩) ∧ ts 5 = .int .i64 z.natAbs ∧ ts 6 = .int .i64 p.1 ∧ ts 7 = .int .i64 p.2 ∧ g' = H ∧ p.1 < 1000000000 ∧ p.2 < 1000000000 ∧ p.1.gcd p.2 = z.natAbs.gcd n) ?_ (a0 := (z.natAbs, n)) ?_
    · rintro ⟨a, b⟩ ts g' ⟨k1, k2, k4, k5, k6, k7, rfl, ha, hb, he⟩
      dsimp only at *
      simp only [go_sem, k7]
      refine ifK_intro (fun c1 => ?_) (fun c1 => ?_)
      · have c1' := of_decide_eq_true c1
        have hb0 : ¬ (b : Int) = 0 := by omega
        have hmod : a % b < b := Nat.mod_lt _ (by omega)
        simp only [go_sem, Nat.reduceBEq, Array.reduceGetElem?, ↓reduceIte, k1, k2, k4, k5, k6, k7, hb0, tmod_nat, pl160]
        exact ⟨(b, a % b), hmod, rfl, rfl, hb, by omega, by rw [← he, gcd_step]⟩
      · have c1' := of_decide_eq_false c1
        obtain rfl : b = 0 := by omega
        rw [Nat.gcd_zero_right] at he
        have w4 : (a : Int) = ((z.natAbs.gcd n : Nat) : Int) := by rw [he]
        simp only [go_sem, Nat.reduceBEq, Array.reduceGetElem?, ↓reduceIte, k1, k2, k5, k6, w4, hne, hnum, hden, w1, w2, d1.l0, pl160]
        refine ifK_intro (fun c2 => ?_) (fun c2 => ?_)
        case' refine_1 =>
          have ee := hsg (of_decide_eq_true c2)
          simp only [go_sem, Nat.reduceBEq, Int.reduceLT, c2, w3, ← ee]
        case' refine_2 =>
          have ee := hsg2 (of_decide_eq_false c2)
          simp only [go_sem, Nat.reduceBEq, Int.reduceLT, c2, ← ee]
        all_goals
          refine callK_intro (c_rInt _ q1) ?_
          rintro _ h1 ⟨hle1, rfl⟩
          simp only [go_sem, Nat.reduceBEq, Int.reduceLT]
          refine callK_intro (c_rInt _ q2) ?_
          rintro _ h2 ⟨hle2, rfl⟩
          have d3 := (d2.mono hle1).mono hle2
          have hst := d3.s2 (v := .string (enc (mkRat z n).num)) (w := .string (enc ((mkRat z n).den : Int))) rfl rfl
          have dd : Duo (h2.upd (h.n + 1) ⟨[.string (enc (mkRat z n).num), .string (enc ((mkRat z n).den : Int))], true, false⟩) (h.n + 1) (.string (enc (mkRat z n).num)) (.string (enc ((mkRat z n).den : Int))) := Duo.up d3.lt
          simp only [go_sem, Nat.reduceBEq, Nat.reduceAdd, Nat.reduceLeDiff, Int.reduceLT, ↓reduceIte, k4, hst, dd.l2]
          exact ((hle.trans hle1).trans hle2).upd (by omega) _
    · simp only [go_sem, Nat.reduceBEq, Nat.reduceLT, hz0]
      exact hn
  case inr =>
    have l := le_load hle hg l
    refine gcalls_in (pl := pl160) [.cell 4 60] mixed Tryz.func160 rfl rfl (by exact ok160) ?_
    simp only [go_sem, Nat.reduceBEq, Int.reduceLT, Int.reduceLE, Int.reduceToNat, ↓reduceIte, hH, d1.l1, l]
    refine loopK_inv (α := Nat × Nat) (fun p => p.2) (fun p ts g' => ts 1 = .int .i64 n ∧ ts 2 = .pointer (some ⟨h.n, 0, none⟩) ∧ ts 4 = .pointer (some ⟨h.n + 1, 0, none⟩) ∧ ts 5 = .int .i64 z.natAbs ∧ ts 6 = .int .i64 p.1 ∧ ts 7 = .int .i64 p.2 ∧ g' = H ∧ p.1 < 1000000000 ∧ p.2 < 1000000000 ∧ p.1.gcd p.2 = z.natAbs.gcd n) ?_ (a0 := (z.natAbs, n)) ?_
    · rintro ⟨a, b⟩ ts g' ⟨k1, k2, k4, k5, k6, k7, rfl, ha, hb, he⟩
      dsimp only at *
      simp only [go_sem, k7]
      refine ifK_intro (fun c1 => ?_) (fun c1 => ?_)
      · have c1' := of_decide_eq_true c1
        have hb0 : ¬ (b : Int) = 0 := by omega
        have hmod : a % b < b := Nat.mod_lt _ (by omega)
        simp only [go_sem, Nat.reduceBEq, Array.reduceGetElem?, ↓reduceIte, k1, k2, k4, k5, k6, k7, hb0, tmod_nat, pl160]
        exact ⟨(b, a % b), hmod, rfl, rfl, hb, by omega, by rw [← he, gcd_step]⟩
      · have c1' := of_decide_eq_false c1
        obtain rfl : b = 0 := by omega
        rw [Nat.gcd_zero_right] at he
        have w4 : (a : Int) = ((z.natAbs.gcd n : Nat) : Int) := by rw [he]
        simp only [go_sem, Nat.reduceBEq, Array.reduceGetElem?, ↓reduceIte, k1, k2, k5, k6, w4, hne, hnum, hden, w1, w2, d1.l0, pl160]
        refine ifK_intro (fun c2 => ?_) (fun c2 => ?_)
        case' refine_1 =>
          have ee := hsg (of_decide_eq_true c2)
          simp only [go_sem, Nat.reduceBEq, Int.reduceLT, c2, w3, ← ee]
        case' refine_2 =>
          have ee := hsg2 (of_decide_eq_false c2)
          simp only [go_sem, Nat.reduceBEq, Int.reduceLT, c2, ← ee]
        all_goals
          refine callK_intro (c_rInt _ q1) ?_
          rintro _ h1 ⟨hle1, rfl⟩
          simp only [go_sem, Nat.reduceBEq, Int.reduceLT]
          refine callK_intro (c_rInt _ q2) ?_
          rintro _ h2 ⟨hle2, rfl⟩
          have d3 := (d2.mono hle1).mono hle2
          have hst := d3.s2 (v := .string (enc (mkRat z n).num)) (w := .string (enc ((mkRat z n).den : Int))) rfl rfl
          have dd : Duo (h2.upd (h.n + 1) ⟨[.string (enc (mkRat z n).num), .string (enc ((mkRat z n).den : Int))], true, false⟩) (h.n + 1) (.string (enc (mkRat z n).num)) (.string (enc ((mkRat z n).den : Int))) := Duo.up d3.lt
          simp only [go_sem, Nat.reduceBEq, Nat.reduceAdd, Nat.reduceLeDiff, Int.reduceLT, ↓reduceIte, k4, hst, dd.l2]
          exact ((hle.trans hle1).trans hle2).upd (by omega) _
    · simp only [go_sem, Nat.reduceBEq]
      exact ⟨hz, hn⟩
theorem c_rMake {h : GH} {v w : Value} {z : Int} {n : Nat} (hv : WAt h v z) (hw : WAt h w n) (hz : z.natAbs < 1000000000) (hn : n < 1000000000) (h0 : 0 < n) (hq : SmR (mkRat z n)) : ∃ r h', GCalls Tryz.prog gE 117 #[v, w] h r h' ∧ h.le h' ∧ r = rv (mkRat z n) := by
  obtain ⟨p1, n1, c1, rfl, dv⟩ := hv.dg
  obtain ⟨p2, n2, c2, rfl, dw⟩ := hw.dg
  have hn0 : ¬ (n : Int) < 0 := by omega
  rcases dw with ⟨hy0, p, c, e⟩ | ⟨hy0, g, o, c, e, l, hg⟩
  · omega
  injection e with e3 e4 e5
  subst e3 e4 e5
  obtain ⟨H, hH, d1, d2, d3, hle, hHn⟩ := Duo.three h (.bool (decide (z < 0))) (.slice p1 n1 c1) (.bool (decide ((n : Int) < 0))) (.slice (some ⟨g, o, none⟩) 1 c2) (.string ⟨#[]⟩) (.string ⟨#[]⟩)
  have hn1 : n1 ≤ 1 := by
    rcases dv with ⟨_, _, _, e⟩ | ⟨_, _, _, _, e, _⟩ <;> injection e <;> omega
  have hn1' : (n1 : Int) ≤ 1 := by omega
  refine gcalls_in (pl := pl117) [.cell 4 60] mixed Tryz.func117 rfl rfl (by exact ok117) ?_
  simp only [go_sem, Nat.reduceBEq, ↓reduceIte, hH, d2.l2]
  refine callK_intro (c_SignW (hw.mono hle)) ?_
  rintro _ h1 ⟨hle1, rfl⟩
  have hs : (if (n : Int) = 0 then (0 : Int) else if (n : Int) < 0 then -1 else 1) = 1 := by rw [if_neg (by omega), if_neg hn0]
  have d1 := d1.mono hle1
  have d2 := d2.mono hle1
  have l1 := le_load (hle.trans hle1) hg l
  rw [Int.natAbs_natCast] at l1
  simp only [go_sem, Nat.reduceBEq, Int.reduceNeg, Int.reduceLT, Int.reduceLE, Int.reduceToNat, Array.reduceGetElem?, ↓reduceIte, hs, d1.l1, d2.l1, d1.l2, hn1', l1, pl117]
  refine callK_intro (c_rLittle ((hv.mono hle).mono hle1) hz hn h0 hq) ?_
  rintro _ h2 ⟨hle2, rfl⟩
  have d3' := (d3.mono hle1).mono hle2
  have hst := d3'.s2 (v := .string (enc (mkRat z n).num)) (w := .string (enc ((mkRat z n).den : Int))) rfl rfl
  have dd : Duo (h2.upd (h.n + 2) ⟨[.string (enc (mkRat z n).num), .string (enc ((mkRat z n).den : Int))], true, false⟩) (h.n + 2) (.string (enc (mkRat z n).num)) (.string (enc ((mkRat z n).den : Int))) := Duo.up d3'.lt
  have d1' := d1.mono hle2
  have d2' := d2.mono hle2
  have l2 := le_load hle2 (Nat.lt_of_lt_of_le hg (hle.trans hle1).1) l1
  simp only [go_sem, Nat.reduceBEq, Nat.reduceAdd, Int.reduceNeg, Array.reduceGetElem?, ↓reduceIte, hs, hst, dd.l2]
  exact ((hle.trans hle1).trans hle2).upd (by omega) _
theorem c_Frac {h : GH} {z : Int} {n : Nat} (hz : Sm z) (hn : Sm n) (h0 : 0 < n) (hq : SmR (mkRat z n)) : ∃ r h', GCalls Tryz.prog gE 92 #[.int .i64 z, .int .i64 n] h r h' ∧ h.le h' ∧ r = rv (mkRat z n) := by
  have hz' : z.natAbs < 10000000 := hz
  have hn' : n < 10000000 := hn
  have d0 := Duo.new h (.string ⟨#[]⟩) (.string ⟨#[]⟩)
  refine gcalls_in (pl := noPl) [.cell 4 60] mixed Tryz.func92 rfl rfl (by exact ok92) ?_
  simp only [go_sem, Nat.reduceBEq]
  refine callK_intro (c_rOf z hz) ?_
  rintro v h1 ⟨hle1, hv⟩
  obtain ⟨b1, p1, n1, c1, rfl⟩ := hv.form
  simp only [go_sem, Nat.reduceBEq]
  refine callK_intro (c_rOf n hn) ?_
  rintro w h2 ⟨hle2, hw⟩
  obtain ⟨b2, p2, n2, c2, rfl⟩ := hw.form
  simp only [go_sem, Nat.reduceBEq]
  refine callK_intro (c_rMake (hv.mono hle2) hw (by omega) (by omega) h0 hq) ?_
  rintro _ h3 ⟨hle3, rfl⟩
  have d3 := ((d0.mono hle1).mono hle2).mono hle3
  have hst := d3.s2 (v := .string (enc (mkRat z n).num)) (w := .string (enc ((mkRat z n).den : Int))) rfl rfl
  have dd : Duo (h3.upd h.n ⟨[.string (enc (mkRat z n).num), .string (enc ((mkRat z n).den : Int))], true, false⟩) h.n (.string (enc (mkRat z n).num)) (.string (enc ((mkRat z n).den : Int))) := Duo.up d3.lt
  simp only [go_sem, Nat.reduceBEq, Nat.reduceAdd, ↓reduceIte, hst, dd.l2]
  exact ((((GH.le_alloc _ _).trans hle1).trans hle2).trans hle3).upd (Nat.le_refl _) _
end Go.Proofs.Gh
namespace Go.Proofs.Gh
open Go Go.Proofs Go.Proofs.Zz
set_option maxRecDepth 10000
set_option linter.unusedSimpArgs false
/-- a tiny fraction -/
def Ti (q : Rat) : Prop := q.num.natAbs < 15000 ∧ q.den < 15000
theorem Ti.sm {q : Rat} (h : Ti q) : SmR q := ⟨show q.num.natAbs < 10000000 by have := h.1; omega, show (Int.natAbs (q.den : Int)) < 10000000 by have := h.2; omega⟩
theorem tmul {a b : Nat} (ha : a < 15000) (hb : b < 15000) : a * b < 225000000 := by
  have := Nat.mul_le_mul (show a ≤ 14999 by omega) (show b ≤ 14999 by omega)
  omega
theorem c_To' {h : GH} (z : Int) (hz : Sm z) : ∃ r h', GCalls Tryz.prog gE 98 #[.string (enc z)] h r h' ∧ h.le h' ∧ WAt h' r z := c_To z hz
theorem c_rAdd {h : GH} (p q : Rat) (hp : Ti p) (hq : Ti q) (hs : SmR (p + q)) : ∃ r h', GCalls Tryz.prog gE 91 #[rv p, rv q] h r h' ∧ h.le h' ∧ r = rv (p + q) := by
  obtain ⟨H, hH, p0, q0, hl, ext⟩ := rat3 h p q
  have hd := p.den_pos
  have he := q.den_pos
  have p1 := hp.1
  have p2 := hp.2
  have q1 := hq.1
  have q2 := hq.2
  have m1 : (p.num * q.den).natAbs < 225000000 := by rw [Int.natAbs_mul]; exact tmul p1 q2
  have m2 : (q.num * p.den).natAbs < 225000000 := by rw [Int.natAbs_mul]; exact tmul q1 p2
  have m3 : p.den * q.den < 225000000 := tmul p2 q2
  have es : mkRat (p.num * q.den + q.num * p.den) (p.den * q.den) = p + q := (Rat.add_def' p q).symm
  have sp := hp.sm
  have sq := hq.sm
  clear p1 p2 q1 q2
  by_cases c0 : p.den = q.den
  · have e0 : (q.den : Int) = (p.den : Int) := by rw [c0]
    have es2 : mkRat (p.num + q.num) p.den = p + q := by
      rw [← es, ← c0, ← Int.add_mul, ← Rat.mkRat_mul_right (by omega : p.den ≠ 0)]
    have n1 : p.num.natAbs < 15000 := hp.1
    have n2 : q.num.natAbs < 15000 := hq.1
    have n3 : p.den < 15000 := hp.2
    have hce : (enc (p.den : Int) = enc (q.den : Int)) = True := by rw [c0]; exact eq_self _
    refine gcalls_in (pl := pl91) [.cell 4 60] mixed Tryz.func91 rfl rfl (by exact ok91) ?_
    simp only [go_sem, Nat.reduceBEq, Array.reduceGetElem?, ↓reduceIte, pl91, hH, p0.l0, p0.l1, q0.l0, q0.l1, hce]
    refine callK_intro (c_To' _ sp.1) ?_
    rintro w1 h1 ⟨hle1, hw1⟩
    obtain ⟨b1, x1, n1, c1, rfl⟩ := hw1.form
    have p1 := p0.mono hle1
    have q1 := q0.mono hle1
    simp only [go_sem, Nat.reduceBEq, Array.reduceGetElem?, p1.l1, q1.l0]
    refine callK_intro (c_To' _ sq.1) ?_
    rintro w2 h2 ⟨hle2, hw2⟩
    obtain ⟨b2, x2, n2, c2, rfl⟩ := hw2.form
    have p2 := p1.mono hle2
    have q2 := q1.mono hle2
    simp only [go_sem, Nat.reduceBEq, Array.reduceGetElem?, p2.l1]
    refine callK_intro (c_AddW (hw1.mono hle2) hw2 (by omega) (by omega)) ?_
    rintro w3 h3 ⟨hle3, hw3⟩
    obtain ⟨b3, x3, n3, c3, rfl⟩ := hw3.form
    have p3 := p2.mono hle3
    have q3 := q2.mono hle3
    simp only [go_sem, Nat.reduceBEq, Array.reduceGetElem?, p3.l1]
    refine callK_intro (c_To' _ sp.2) ?_
    rintro w4 h4 ⟨hle4, hw4⟩
    obtain ⟨b4, x4, n4, c4, rfl⟩ := hw4.form
    have p4 := p3.mono hle4
    have q4 := q3.mono hle4
    simp only [go_sem, Nat.reduceBEq, Array.reduceGetElem?]
    refine callK_intro (es2 ▸ c_rMake (hw3.mono hle4) hw4 (by omega) (by omega) (by omega) (es2 ▸ hs)) ?_
    rintro _ h5 ⟨hle5, rfl⟩
    have p5 := p4.mono hle5
    have q5 := q4.mono hle5
    obtain ⟨g3, bb3, k3⟩ := ext ((((hle1.trans hle2).trans hle3).trans hle4).trans hle5)
    simp only [go_sem, Nat.reduceBEq, Nat.reduceAdd, Array.reduceGetElem?, ↓reduceIte, cell2_store g3 bb3, cell2_load g3]
    exact k3 _
  · have c0' : ¬ (p.den : Int) = (q.den : Int) := by omega
    refine gcalls_in (pl := pl91) [.cell 4 60] mixed Tryz.func91 rfl rfl (by exact ok91) ?_
    simp only [go_sem, Nat.reduceBEq, Array.reduceGetElem?, ↓reduceIte, pl91, hH, p0.l0, p0.l1, q0.l0, q0.l1, enc_inj, c0']
    refine callK_intro (c_To' _ sp.1) ?_
    rintro w1 h1 ⟨hle1, hw1⟩
    obtain ⟨b1, x1, n1, c1, rfl⟩ := hw1.form
    have p1 := p0.mono hle1
    have q1 := q0.mono hle1
    simp only [go_sem, Nat.reduceBEq, Array.reduceGetElem?, p1.l1, q1.l0, q1.l1]
    refine callK_intro (c_To' _ sq.2) ?_
    rintro w2 h2 ⟨hle2, hw2⟩
    obtain ⟨b2, x2, n2, c2, rfl⟩ := hw2.form
    have p2 := p1.mono hle2
    have q2 := q1.mono hle2
    simp only [go_sem, Nat.reduceBEq, Array.reduceGetElem?, p2.l1, q2.l0, q2.l1]
    refine callK_intro (c_MulW (hw1.mono hle2) hw2 (by have := hp.1; omega) (by have := hq.2; omega)) ?_
    rintro w3 h3 ⟨hle3, hw3⟩
    obtain ⟨b3, x3, n3, c3, rfl⟩ := hw3.form
    have p3 := p2.mono hle3
    have q3 := q2.mono hle3
    simp only [go_sem, Nat.reduceBEq, Array.reduceGetElem?, p3.l1, q3.l0, q3.l1]
    refine callK_intro (c_To' _ sq.1) ?_
    rintro w4 h4 ⟨hle4, hw4⟩
    obtain ⟨b4, x4, n4, c4, rfl⟩ := hw4.form
    have p4 := p3.mono hle4
    have q4 := q3.mono hle4
    simp only [go_sem, Nat.reduceBEq, Array.reduceGetElem?, p4.l1, q4.l1]
    refine callK_intro (c_To' _ sp.2) ?_
    rintro w5 h5 ⟨hle5, hw5⟩
    obtain ⟨b5, x5, n5, c5, rfl⟩ := hw5.form
    have p5 := p4.mono hle5
    have q5 := q4.mono hle5
    simp only [go_sem, Nat.reduceBEq, Array.reduceGetElem?, p5.l1, q5.l1]
    refine callK_intro (c_MulW (hw4.mono hle5) hw5 (by have := hq.1; omega) (by have := hp.2; omega)) ?_
    rintro w6 h6 ⟨hle6, hw6⟩
    obtain ⟨b6, x6, n6, c6, rfl⟩ := hw6.form
    have p6 := p5.mono hle6
    have q6 := q5.mono hle6
    simp only [go_sem, Nat.reduceBEq, Array.reduceGetElem?, p6.l1, q6.l1]
    refine callK_intro (c_AddW (((hw3.mono hle4).mono hle5).mono hle6) hw6 (by omega) (by omega)) ?_
    rintro w7 h7 ⟨hle7, hw7⟩
    obtain ⟨b7, x7, n7, c7, rfl⟩ := hw7.form
    have p7 := p6.mono hle7
    have q7 := q6.mono hle7
    simp only [go_sem, Nat.reduceBEq, Array.reduceGetElem?, p7.l1, q7.l1]
    refine callK_intro (c_To' _ sp.2) ?_
    rintro w8 h8 ⟨hle8, hw8⟩
    obtain ⟨b8, x8, n8, c8, rfl⟩ := hw8.form
    have p8 := p7.mono hle8
    have q8 := q7.mono hle8
    simp only [go_sem, Nat.reduceBEq, Array.reduceGetElem?, q8.l1]
    refine callK_intro (c_To' _ sq.2) ?_
    rintro w9 h9 ⟨hle9, hw9⟩
    obtain ⟨b9, x9, n9, c9, rfl⟩ := hw9.form
    have p9 := p8.mono hle9
    have q9 := q8.mono hle9
    simp only [go_sem, Nat.reduceBEq, Array.reduceGetElem?]
    refine callK_intro (c_MulW (hw8.mono hle9) hw9 (by have := hp.2; omega) (by have := hq.2; omega)) ?_
    rintro w10 h10 ⟨hle10, hw10⟩
    obtain ⟨b10, x10, n10, c10, rfl⟩ := hw10.form
    have p10 := p9.mono hle10
    have q10 := q9.mono hle10
    simp only [go_sem, Nat.reduceBEq, Array.reduceGetElem?]
    refine callK_intro (es ▸ c_rMake (((hw7.mono hle8).mono hle9).mono hle10) ((Int.natCast_mul p.den q.den) ▸ hw10) (by omega) (by omega) (Nat.mul_pos hd he) (es ▸ hs)) ?_
    rintro _ h11 ⟨hle11, rfl⟩
    have p11 := p10.mono hle11
    have q11 := q10.mono hle11
    obtain ⟨g3, bb3, k3⟩ := ext ((((((((((hle1.trans hle2).trans hle3).trans hle4).trans hle5).trans hle6).trans hle7).trans hle8).trans hle9).trans hle10).trans hle11)
    simp only [go_sem, Nat.reduceBEq, Nat.reduceAdd, Array.reduceGetElem?, ↓reduceIte, cell2_store g3 bb3, cell2_load g3]
    exact k3 _
theorem c_rMul {h : GH} (p q : Rat) (hp : Ti p) (hq : Ti q) (hs : SmR (p * q)) : ∃ r h', GCalls Tryz.prog gE 102 #[rv p, rv q] h r h' ∧ h.le h' ∧ r = rv (p * q) := by
  obtain ⟨H, hH, p0, q0, hl, ext⟩ := rat3 h p q
  have hd := p.den_pos
  have he := q.den_pos
  have p1 := hp.1
  have p2 := hp.2
  have q1 := hq.1
  have q2 := hq.2
  have m1 : (p.num * q.num).natAbs < 225000000 := by rw [Int.natAbs_mul]; exact tmul p1 q1
  have m3 : p.den * q.den < 225000000 := tmul p2 q2
  have es : mkRat (p.num * q.num) (p.den * q.den) = p * q := (Rat.mul_def' p q).symm
  have sp := hp.sm
  have sq := hq.sm
  clear p1 p2 q1 q2
  refine gcalls_in (pl := pl102) [.cell 4 60] mixed Tryz.func102 rfl rfl (by exact ok102) ?_
  simp only [go_sem, Nat.reduceBEq, Array.reduceGetElem?, ↓reduceIte, pl102, hH, p0.l0, p0.l1, q0.l0, q0.l1]
  refine callK_intro (c_To' _ sp.1) ?_
  rintro w1 h1 ⟨hle1, hw1⟩
  obtain ⟨b1, x1, n1, c1, rfl⟩ := hw1.form
  have p1 := p0.mono hle1
  have q1 := q0.mono hle1
  simp only [go_sem, Nat.reduceBEq, Array.reduceGetElem?, p1.l1, q1.l0, q1.l1]
  refine callK_intro (c_To' _ sq.1) ?_
  rintro w2 h2 ⟨hle2, hw2⟩
  obtain ⟨b2, x2, n2, c2, rfl⟩ := hw2.form
  have p2 := p1.mono hle2
  have q2 := q1.mono hle2
  simp only [go_sem, Nat.reduceBEq, Array.reduceGetElem?, p2.l1, q2.l1]
  refine callK_intro (c_MulW (hw1.mono hle2) hw2 (by have := hp.1; omega) (by have := hq.1; omega)) ?_
  rintro w3 h3 ⟨hle3, hw3⟩
  obtain ⟨b3, x3, n3, c3, rfl⟩ := hw3.form
  have p3 := p2.mono hle3
  have q3 := q2.mono hle3
  simp only [go_sem, Nat.reduceBEq, Array.reduceGetElem?, p3.l1, q3.l1]
  refine callK_intro (c_To' _ sp.2) ?_
  rintro w4 h4 ⟨hle4, hw4⟩
  obtain ⟨b4, x4, n4, c4, rfl⟩ := hw4.form
  have p4 := p3.mono hle4
  have q4 := q3.mono hle4
  simp only [go_sem, Nat.reduceBEq, Array.reduceGetElem?, q4.l1]
  refine callK_intro (c_To' _ sq.2) ?_
  rintro w5 h5 ⟨hle5, hw5⟩
  obtain ⟨b5, x5, n5, c5, rfl⟩ := hw5.form
  have p5 := p4.mono hle5
  have q5 := q4.mono hle5
  simp only [go_sem, Nat.reduceBEq, Array.reduceGetElem?]
  refine callK_intro (c_MulW (hw4.mono hle5) hw5 (by have := hp.2; omega) (by have := hq.2; omega)) ?_
  rintro w6 h6 ⟨hle6, hw6⟩
  obtain ⟨b6, x6, n6, c6, rfl⟩ := hw6.form
  have p6 := p5.mono hle6
  have q6 := q5.mono hle6
  simp only [go_sem, Nat.reduceBEq, Array.reduceGetElem?]
  refine callK_intro (es ▸ c_rMake (((hw3.mono hle4).mono hle5).mono hle6) ((Int.natCast_mul p.den q.den) ▸ hw6) (by omega) (by omega) (Nat.mul_pos hd he) (es ▸ hs)) ?_
  rintro _ h7 ⟨hle7, rfl⟩
  have p7 := p6.mono hle7
  have q7 := q6.mono hle7
  obtain ⟨g3, bb3, k3⟩ := ext ((((((hle1.trans hle2).trans hle3).trans hle4).trans hle5).trans hle6).trans hle7)
  simp only [go_sem, Nat.reduceBEq, Nat.reduceAdd, Array.reduceGetElem?, ↓reduceIte, cell2_store g3 bb3, cell2_load g3]
  exact k3 _
end Go.Proofs.Gh
