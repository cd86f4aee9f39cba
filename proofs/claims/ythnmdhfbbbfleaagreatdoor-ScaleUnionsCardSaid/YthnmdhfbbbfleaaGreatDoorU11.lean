/- Part 11 of a proof: walks of the program in a small memory, plain lemmas. -/
import Derived.Test.YthnmdhfbbbfleaaGreatDoorU10
set_option linter.all false
namespace Go.Proofs.Gh
open Go Go.Proofs Go.Proofs.Zz
set_option maxRecDepth 10000
theorem snoc_ind {α : Type} {P : List α → Prop} (h0 : P []) (h1 : ∀ l x, P l → P (l ++ [x])) (l : List α) : P l := by
  have : ∀ m : List α, P m.reverse := by
    intro m
    induction m with
    | nil => exact h0
    | cons x m ih => rw [List.reverse_cons]; exact h1 _ _ ih
  have h := this l.reverse
  rwa [List.reverse_reverse] at h
theorem redQ_zero {p : List Int} {x : List Rat} (hp : 0 < p.length) (h : x.length = p.length) : subL (redQ p x) (redQ p x) = zeroL p.length := by
  rw [subL_self, redQ_length (by omega), h]; rfl
theorem mem_colF {p : List Int} (hp : 0 < p.length) (l : List (List Rat)) : (∀ x ∈ l, x.length = p.length) → ∀ a, a ∈ colF p l ↔ a = oct p.length ∨ ∃ x ∈ l, a = redQ p x ∧ a ≠ zeroL p.length := by
  refine snoc_ind (P := fun l => (∀ x ∈ l, x.length = p.length) → ∀ a, a ∈ colF p l ↔ a = oct p.length ∨ ∃ x ∈ l, a = redQ p x ∧ a ≠ zeroL p.length) ?_ ?_ l
  · intro _ a
    simp [colF]
  · intro l x ih hx a
    have ih := ih (fun y hy => hx y (List.mem_append_left _ hy)) 
    have hxl := hx x (by simp)
    rw [colF_snoc, redQ_zero hp hxl]
    by_cases hc : redQ p x ≠ zeroL p.length ∧ redQ p x ∉ colF p l
    · rw [if_pos hc, List.mem_append, ih, List.mem_singleton]
      constructor
      · rintro ((h | ⟨y, hy, h⟩) | rfl)
        · exact .inl h
        · exact .inr ⟨y, List.mem_append_left _ hy, h⟩
        · exact .inr ⟨x, by simp, rfl, hc.1⟩
      · rintro (h | ⟨y, hy, h, h2⟩)
        · exact .inl (.inl h)
        · rcases List.mem_append.1 hy with hy | hy
          · exact .inl (.inr ⟨y, hy, h, h2⟩)
          · rw [List.mem_singleton] at hy
            subst hy
            exact .inr h
    · rw [if_neg hc, ih]
      constructor
      · rintro (h | ⟨y, hy, h⟩)
        · exact .inl h
        · exact .inr ⟨y, List.mem_append_left _ hy, h⟩
      · rintro (h | ⟨y, hy, h, h2⟩)
        · exact .inl h
        · rcases List.mem_append.1 hy with hy | hy
          · exact .inr ⟨y, hy, h, h2⟩
          · rw [List.mem_singleton] at hy
            subst hy
            have hm : redQ p y ∈ colF p l := Decidable.not_not.1 (fun hh => hc ⟨h ▸ h2, hh⟩)
            rw [h]
            exact (ih _).1 hm
theorem nodup_colF {p : List Int} (l : List (List Rat)) : (colF p l).Nodup := by
  refine snoc_ind (P := fun l => (colF p l).Nodup) ?_ ?_ l
  · simp [colF]
  · intro l x ih
    rw [colF_snoc]
    split
    · rename_i h
      rw [List.nodup_append]
      exact ⟨ih, by simp, fun a ha b hb => by rw [List.mem_singleton] at hb; subst hb; rintro rfl; exact h.2 ha⟩
    · exact ih
theorem Nd.sm {p : List Int} {D : Nat} {L : List (List Rat)} {a : List Rat} (F : Fam p D L) (n : Nd p D L a) : SmL a := by
  intro q hq
  have hb := bd_mem n.bd q hq
  have h1 := hb.num F.pos
  have h2 := hb.den_le F.pos
  have := F.le
  exact ⟨show Int.natAbs _ < _ by omega, show Int.natAbs _ < _ by omega⟩
theorem Nd.ti {p : List Int} {D : Nat} {L : List (List Rat)} {a : List Rat} (F : Fam p D L) (n : Nd p D L a) : ∀ q ∈ a, Ti q := by
  intro q hq
  have hb := bd_mem n.bd q hq
  have h1 := hb.num F.pos
  have h2 := hb.den_le F.pos
  have := F.le
  exact ⟨by omega, by omega⟩
/-- what is collected -/
theorem colF_nd {p : List Int} {D : Nat} {L l : List (List Rat)} (hP : Pr p) (F : Fam p D L) (hl : ∀ x ∈ l, x ∈ L) : ∀ a ∈ colF p l, Nd p D L a ∧ (∀ i, Bd D 7200 (at' a i)) ∧ 0 < vl a ∧ vl a ≤ 67108864 := by
  have hpl := hP.len
  intro a ha
  rcases (mem_colF (by omega) l (fun x hx => F.len x (hl x hx)) a).1 ha with rfl | ⟨x, hx, rfl, hne⟩
  · refine ⟨Nd.oct hP F, oct7 F.pos F.le (by omega), ?_⟩
    rw [vl_oct (by omega)]
    constructor <;> grind
  · have nd := F.red hP (hl x hx)
    have g := (Nd.src' F (hl x hx)).good0 F
    obtain ⟨h1, h2⟩ := g.red_vl hP
    refine ⟨nd, F.red7 hP (hl x hx), ?_, Rat.le_of_lt h2⟩
    rcases Rat.le_iff_lt_or_eq.1 h1 with h | h
    · exact h
    · exact absurd ((nd.good0 F).vl_eq hP h.symm) hne
theorem Nd.ne {p : List Int} {D : Nat} {L : List (List Rat)} {a b : List Rat} (hP : Pr p) (F : Fam p D L) (ha : Nd p D L a) (hb : Nd p D L b) (h : vl a = vl b) : a = b := by
  have hl : b.length = a.length := by rw [ha.len, hb.len]
  have hz := (Nd.good F ha hb).vl_eq hP (by rw [vl_sub hl, h]; grind)
  refine at_ext hl.symm fun i => ?_
  have := congrArg (fun l => at' l i) hz
  simp only [at_sub hl, at_zero] at this
  grind
theorem Nd.sgn_lt {p : List Int} {D : Nat} {L : List (List Rat)} {a b : List Rat} (hP : Pr p) (F : Fam p D L) (ha : Nd p D L a) (hb : Nd p D L b) : sgn p (subL a b) < 0 ↔ vl a < vl b := by
  have hl : b.length = a.length := by rw [ha.len, hb.len]
  have g := Nd.good F ha hb
  have e := vl_sub hl
  constructor
  · intro h
    have := g.neg_vl hP h
    grind
  · intro h
    rw [g.vl_neg hP (by grind)]
    decide
theorem colOk {p : List Int} {D : Nat} {L l : List (List Rat)} (hP : Pr p) (F : Fam p D L) (hl : ∀ x ∈ l, x ∈ L) (hlen : l.length ≤ 11) : ColOk p l := by
  have nd := colF_nd hP F hl
  refine ⟨hlen, fun x hx => F.xOk hP (hl x hx), nodup_colF l, fun a ha => ⟨(nd a ha).1.len, (nd a ha).1.sm F⟩, fun a ha b hb _ => ?_, fun a ha b hb hne h => ?_⟩
  · have g := Nd.good F (nd a ha).1 (nd b hb).1
    exact ⟨g.fit.mono (by decide), g.dec hP⟩
  · rw [Nd.sgn_lt hP F (nd a ha).1 (nd b hb).1] at h
    rw [Nd.sgn_lt hP F (nd b hb).1 (nd a ha).1]
    have h2 : ¬ vl a = vl b := fun e => hne (Nd.ne hP F (nd a ha).1 (nd b hb).1 e)
    grind
/-- the notes of a scale of a family, in the order of their values -/
structure Sc (p : List Int) (D : Nat) (L N : List (List Rat)) : Prop where
  nd : ∀ a ∈ N, Nd p D L a
  b7 : ∀ a ∈ N, ∀ i, Bd D 7200 (at' a i)
  pos : ∀ a ∈ N, 0 < vl a ∧ vl a ≤ 67108864
  last : N[N.length - 1]? = some (oct p.length)
  inc : ∀ (k : Nat) a b, N[k]? = some a → N[k + 1]? = some b → vl a < vl b
  len : 0 < N.length ∧ N.length ≤ 12
theorem inc_lt {N : List (List Rat)} (h : ∀ (k : Nat) a b, N[k]? = some a → N[k + 1]? = some b → vl a < vl b) : ∀ (j i : Nat) a b, i < j → N[i]? = some a → N[j]? = some b → vl a < vl b := by
  intro j
  induction j with
  | zero => intro i a b hij; omega
  | succ j ih =>
    intro i a b hij ha hb
    rcases Nat.lt_or_ge i j with hlt | hge
    · obtain ⟨hj, _⟩ := List.getElem?_eq_some_iff.1 hb
      have hm : N[j]? = some N[j] := List.getElem?_eq_getElem (by omega)
      have h1 := ih i a N[j] hlt ha hm
      have h2 := h j N[j] b hm hb
      grind
    · obtain rfl : i = j := by omega
      exact h i a b ha hb
theorem Scl.sc {p : List Int} {D : Nat} {L l N : List (List Rat)} (hP : Pr p) (F : Fam p D L) (hl : ∀ x ∈ l, x ∈ L) (hlen : l.length ≤ 11) (s : Scl p l N) : Sc p D L N := by
  obtain ⟨sp, sa⟩ := s
  have hpl := hP.len
  have hn : ∀ a ∈ N, Nd p D L a ∧ (∀ i, Bd D 7200 (at' a i)) ∧ 0 < vl a ∧ vl a ≤ 67108864 := fun a ha => colF_nd hP F hl a (sp.mem_iff.1 ha)
  have inc : ∀ (k : Nat) a b, N[k]? = some a → N[k + 1]? = some b → vl a < vl b := fun k a b ha hb =>
    (Nd.sgn_lt hP F (hn a (List.mem_of_getElem? ha)).1 (hn b (List.mem_of_getElem? hb)).1).1 (sa k a b ha hb)
  have ho : oct p.length ∈ N := sp.mem_iff.2 ((mem_colF (by omega) l (fun x hx => F.len x (hl x hx)) _).2 (.inl rfl))
  have hl2 := colF_len p _ l rfl
  have hle := sp.length_eq
  refine ⟨fun a ha => (hn a ha).1, fun a ha => (hn a ha).2.1, fun a ha => (hn a ha).2.2, ?_, inc, by omega⟩
  obtain ⟨i, hi⟩ := List.mem_iff_getElem?.1 ho
  obtain ⟨hi', _⟩ := List.getElem?_eq_some_iff.1 hi
  rcases Nat.lt_or_ge i (N.length - 1) with h | h
  · have hm : N[N.length - 1]? = some N[N.length - 1] := List.getElem?_eq_getElem (by omega)
    have h1 := inc_lt inc _ _ _ _ h hi hm
    have h2 := (hn _ (List.mem_of_getElem? hm)).2.2.2
    rw [vl_oct (by omega)] at h1
    grind
  · rwa [show N.length - 1 = i by omega]
theorem Sc.scOk {p : List Int} {D : Nat} {L N : List (List Rat)} (hP : Pr p) (F : Fam p D L) (s : Sc p D L N) : ScOk p N := by
  refine ⟨s.len.1, by have := s.len.2; omega, fun x hx => (s.nd x hx).len, fun x hx => (s.nd x hx).sm F, fun i x hx => ?_⟩
  have hxm := List.mem_of_getElem? hx
  obtain ⟨hi, _⟩ := List.getElem?_eq_some_iff.1 hx
  have hp : Nd p D L (prevN p.length N i) ∧ vl (prevN p.length N i) < vl x := by
    unfold prevN
    split
    · exact ⟨Nd.zero F, by rw [vl_zero]; exact (s.pos x hxm).1⟩
    · have hm : N[i - 1]? = some N[i - 1] := List.getElem?_eq_getElem (by omega)
      rw [hm, Option.getD_some]
      refine ⟨s.nd _ (List.mem_of_getElem? hm), s.inc (i - 1) _ _ hm ?_⟩
      rwa [show i - 1 + 1 = i by omega]
  have g := Nd.good F hp.1 (s.nd x hxm)
  exact ⟨g.fit.mono (by decide), g.dec hP, (Nd.sgn_lt hP F hp.1 (s.nd x hxm)).2 hp.2⟩
/-- the notes beyond the octave -/
theorem Sc.per {p : List Int} {D : Nat} {L N : List (List Rat)} (s : Sc p D L N) : perN N = oct p.length := by
  rw [perN, s.last]; rfl
theorem Sc.note_len {p : List Int} {D : Nat} {L N : List (List Rat)} (hP : Pr p) (s : Sc p D L N) (n : Nat) : (noteL N n).length = p.length := by
  have hpl := hP.len
  have hk := s.len
  rw [noteL, s.per]
  split
  · rw [scaleL_length, oct_length (by omega)]
  · have hlt := Nat.mod_lt n hk.1
    have hm : N[n % N.length - 1]? = some N[n % N.length - 1] := List.getElem?_eq_getElem (by omega)
    rw [hm, Option.getD_some, addL_length _ _ (by rw [scaleL_length, oct_length (by omega)]; exact (s.nd _ (List.mem_of_getElem? hm)).len), scaleL_length, oct_length (by omega)]
theorem Sc.note_nd {p : List Int} {D : Nat} {L N : List (List Rat)} (hP : Pr p) (F : Fam p D L) (s : Sc p D L N) {n : Nat} (hn : n ≤ 20 * N.length) : Nd p D L (noteL N n) ∧ ∀ q ∈ scaleL (perN N) ((n / N.length : Nat) : Int), Ti q := by
  have hpl := hP.len
  have hk := s.len
  have hD := F.pos
  have hD2 := F.le
  have hq : n / N.length ≤ 20 := by
    have := Nat.div_le_div_right (c := N.length) hn
    rwa [Nat.mul_div_cancel _ hk.1] at this
  have hb : ∀ i, Bd D 2000 (at' (scaleL (oct p.length) ((n / N.length : Nat) : Int)) i) := by
    intro i
    rw [at_scale, at_oct (by omega)]
    split
    · rw [Rat.one_mul]
      refine (bd_int hD _).mono ?_
      rw [Int.natAbs_mul]
      exact Nat.le_trans (Nat.mul_le_mul (show Int.natAbs _ ≤ 20 by rw [Int.natAbs_natCast]; exact hq) (show Int.natAbs _ ≤ 100 by omega)) (by decide)
    · rw [Rat.zero_mul]
      exact Bd.zero
  have hsc : ∀ i, 0 < i → cf D (scaleL (oct p.length) ((n / N.length : Nat) : Int)) i = 0 := by
    intro i hi
    rw [cf_at, at_scale, at_oct (by omega), if_neg (by omega), Rat.zero_mul, ov_zero]
  have hol : (scaleL (oct p.length) ((n / N.length : Nat) : Int)).length = p.length := by rw [scaleL_length, oct_length (by omega)]
  refine ⟨⟨s.note_len hP n, ?_, ?_⟩, ?_⟩
  · intro i
    rw [noteL, s.per]
    split
    · exact (hb i).mono (by decide)
    · have hlt := Nat.mod_lt n hk.1
      have hm : N[n % N.length - 1]? = some N[n % N.length - 1] := List.getElem?_eq_getElem (by omega)
      have hmm := List.mem_of_getElem? hm
      rw [hm, Option.getD_some, at_add (by rw [hol]; exact (s.nd _ hmm).len)]
      exact ((hb i).add hD (s.b7 _ hmm i)).mono (by decide)
  · rw [noteL, s.per]
    split
    · exact ⟨_, F.zero, by rw [hsc 1 (by decide), cf_zero], by rw [hsc 2 (by decide), cf_zero]⟩
    · have hlt := Nat.mod_lt n hk.1
      have hm : N[n % N.length - 1]? = some N[n % N.length - 1] := List.getElem?_eq_getElem (by omega)
      have hmm := List.mem_of_getElem? hm
      have hl : (N[n % N.length - 1]).length = (scaleL (oct p.length) ((n / N.length : Nat) : Int)).length := by rw [hol]; exact (s.nd _ hmm).len
      obtain ⟨t, ht, t1, t2⟩ := (s.nd _ hmm).src
      have z : ∀ i, 0 < i → cf D (addL (scaleL (oct p.length) ((n / N.length : Nat) : Int)) N[n % N.length - 1]) i = cf D N[n % N.length - 1] i := by
        intro i hi
        rw [cf_at, at_add hl, at_scale, at_oct (by omega), if_neg (by omega), Rat.zero_mul, Rat.zero_add]; rfl
      rw [hm, Option.getD_some]
      exact ⟨t, ht, by rw [z 1 (by decide), t1], by rw [z 2 (by decide), t2]⟩
  · rw [s.per]
    intro q hq'
    have hb' := bd_mem hb q hq'
    exact ⟨by have := hb'.num hD; omega, by have := hb'.den_le hD; omega⟩
end Go.Proofs.Gh
namespace Go.Proofs.Gh
open Go Go.Proofs Go.Proofs.Zz
set_option maxRecDepth 10000
theorem ov_mk {D : Nat} (hD : 0 < D) (z : Int) : ov D (mkRat z D) = z := by
  have h := ov_rat hD (⟨z, rfl, Nat.le_refl _⟩ : Bd D z.natAbs (mkRat z D))
  rw [← Rat.intCast_inj, h, Rat.mkRat_eq_div]
  have := natq_pos hD
  grind
theorem mkRat_up {z : Int} {a n : Nat} (hn : 0 < n) : mkRat z a = mkRat (z * n) (a * n) := (Rat.mkRat_mul_right (by omega)).symm
theorem int_mk (z : Int) : (z : Rat) = mkRat z 1 := by rw [Rat.mkRat_eq_div]; grind
/-- a size of small whole and half numbers -/
def Frm (n : Nat) (x : List Rat) (b c : Int) : Prop := x.length = n ∧ at' x 1 = mkRat b 2 ∧ at' x 2 = (c : Rat) ∧ (∃ a : Int, a.natAbs ≤ 64 ∧ at' x 0 = (a : Rat)) ∧ -64 ≤ b ∧ b ≤ 128 ∧ c.natAbs ≤ 64 ∧ n ≤ 3
theorem at_ge {x : List Rat} {i : Nat} (h : x.length ≤ i) : at' x i = 0 := by unfold at'; rw [List.getElem?_eq_none h]; rfl
theorem Frm.bd {n k : Nat} {x : List Rat} {b c : Int} (f : Frm n x b c) (hk : 0 < k) (hk2 : k ≤ 9) (i : Nat) : Bd (2 * k) 1200 (at' x i) := by
  obtain ⟨h1, h2, h3, ⟨a, h4, h5⟩, h6, h7, h8, h9⟩ := f
  have mul : ∀ (z : Int) (B : Nat), z.natAbs ≤ B → (z * k).natAbs ≤ B * 9 := by
    intro z B hz
    rw [Int.natAbs_mul]
    exact Nat.mul_le_mul hz (by omega)
  match i with
  | 0 =>
    refine ⟨2 * a * k, ?_, ?_⟩
    · rw [h5, int_mk, mkRat_up (n := 2 * k) (by omega), Nat.one_mul, Int.natCast_mul]; congr 1; grind
    · have := mul (2 * a) 128 (by omega); omega
  | 1 =>
    refine ⟨b * k, ?_, ?_⟩
    · rw [h2, mkRat_up (n := k) hk]
    · have := mul b 128 (by omega); omega
  | 2 =>
    refine ⟨2 * c * k, ?_, ?_⟩
    · rw [h3, int_mk, mkRat_up (n := 2 * k) (by omega), Nat.one_mul, Int.natCast_mul]; congr 1; grind
    · have := mul (2 * c) 128 (by omega); omega
  | i + 3 =>
    rw [at_ge (by omega)]
    exact Bd.zero
theorem Frm.cf {n k : Nat} {x : List Rat} {b c : Int} (f : Frm n x b c) (hk : 0 < k) : Gh.cf (2 * k) x 1 = b * k ∧ Gh.cf (2 * k) x 2 = 2 * c * k := by
  obtain ⟨h1, h2, h3, h45, h6, h7, h8⟩ := f
  rw [cf_at, cf_at, h2, h3, mkRat_up (n := k) hk, ov_mk (by omega), int_mk, mkRat_up (n := 2 * k) (by omega), Nat.one_mul, ov_mk (by omega)]
  refine ⟨rfl, ?_⟩
  rw [Int.natCast_mul]
  grind
theorem frm_zero {n : Nat} (hn : n ≤ 3) : Frm n (zeroL n) 0 0 := by
  refine ⟨by simp [zeroL], ?_, ?_, ⟨0, by decide, ?_⟩, by decide, by decide, by decide, hn⟩
  · rw [at_zero]; rfl
  · rw [at_zero]; rfl
  · rw [at_zero]; rfl
theorem sz_frm {n : Nat} (hn : 2 ≤ n ∧ n ≤ 3) {x y z : Int} :
    ∃ b c : Int, (szL n [x, y, z]).length = n ∧ at' (szL n [x, y, z]) 1 = mkRat b 2 ∧ at' (szL n [x, y, z]) 2 = (c : Rat) ∧ (∃ a : Int, a.natAbs ≤ 8 ∧ at' (szL n [x, y, z]) 0 = (a : Rat)) ∧ -8 ≤ b ∧ b ≤ 16 ∧ c.natAbs ≤ 8 := by
  have t : ∀ w : Int, (w.tmod 9).natAbs ≤ 8 := by
    intro w
    rw [Int.natAbs_tmod]
    have := Nat.mod_lt w.natAbs (show 0 < (9 : Int).natAbs by decide)
    simp at this ⊢
    omega
  have e : ∀ i, at' (szL n [x, y, z]) i = if i < n then szE i ([x, y, z][i]?.getD 0) else 0 := by
    intro i
    unfold at' szL
    rw [List.getElem?_map]
    split
    · rename_i h
      rw [List.getElem?_range h]; rfl
    · rename_i h
      rw [List.getElem?_eq_none (by simp; omega)]; rfl
  have e0 : at' (szL n [x, y, z]) 0 = ((x.tmod 9 : Int) : Rat) := by
    rw [e, if_pos (by omega), int_mk]; simp [szE]
  have e2 : at' (szL n [x, y, z]) 2 = (((if n = 3 then z.tmod 9 else 0 : Int)) : Rat) := by
    rw [e]
    by_cases h : n = 3
    · rw [if_pos (by omega), if_pos h, int_mk]; simp [szE]
    · rw [if_neg (by omega), if_neg h]; rfl
  refine ⟨if y < 0 then y.tmod 9 else 2 * y.tmod 9, if n = 3 then z.tmod 9 else 0, by simp [szL], ?_, e2, ⟨_, t x, e0⟩, ?_⟩
  · rw [e, if_pos (by omega)]
    by_cases h : y < 0
    · simp [szE, h]
    · have : mkRat (y.tmod 9) 1 = mkRat (2 * y.tmod 9) 2 := by
        rw [mkRat_up (z := y.tmod 9) (a := 1) (n := 2) (by decide), Nat.one_mul, Int.mul_comm]; rfl
      simpa [szE, h] using this
  · have := t y
    have := t z
    have t1 := fun h => Int.tmod_nonneg (a := y) 9 h
    have t2 : y ≤ 0 → y.tmod 9 ≤ 0 := fun h => by
      have := Int.tmod_nonneg (a := -y) 9 (by omega)
      rw [Int.neg_tmod] at this
      omega
    by_cases h : y < 0
    · rw [if_pos h]
      have := t2 (by omega)
      split <;> simp <;> omega
    · rw [if_neg h]
      have := t1 (by omega)
      split <;> simp <;> omega
end Go.Proofs.Gh
namespace Go.Proofs.Gh
open Go Go.Proofs Go.Proofs.Zz
set_option maxRecDepth 10000
theorem famF {p : List Int} {L : List (List Rat)} (hL : ∀ x ∈ L, ∃ b c, Frm p.length x b c) (hz : zeroL p.length ∈ L) : Fam p 2 L := by
  refine ⟨by decide, by decide, fun x hx => ?_, fun x hx i => ?_, fun x hx y hy => ?_, hz⟩
  · obtain ⟨b, c, f⟩ := hL x hx
    exact f.1
  · obtain ⟨b, c, f⟩ := hL x hx
    exact f.bd (k := 1) (by decide) (by decide) i
  · obtain ⟨b, c, f⟩ := hL x hx
    obtain ⟨b', c', f'⟩ := hL y hy
    obtain ⟨e1, e2⟩ := f.cf (k := 1) (by decide)
    obtain ⟨e3, e4⟩ := f'.cf (k := 1) (by decide)
    rw [show 2 * 1 = 2 from rfl] at *
    rw [e1, e2, e3, e4]
    obtain ⟨_, _, _, _, h1, h2, h3, _⟩ := f
    obtain ⟨_, _, _, _, h4, h5, h6, _⟩ := f'
    by_cases h : b - b' = 0 ∧ c - c' = 0
    · left; omega
    · right
      have := fine_rect (b := b - b') (c := c - c') (by omega) (by omega) h
      rwa [show b * (1 : Nat) - b' * (1 : Nat) = b - b' by omega, show 2 * c * (1 : Nat) - 2 * c' * (1 : Nat) = 2 * (c - c') by omega]
/-- a part of the octave -/
def Flt (n D : Nat) (x : List Rat) : Prop := x.length = n ∧ Bd D 1200 (at' x 0) ∧ ∀ i, 0 < i → at' x i = 0
theorem flt_zero {n D : Nat} : Flt n D (zeroL n) := ⟨by simp [zeroL], by rw [at_zero]; exact Bd.zero, fun i _ => at_zero n i⟩
theorem famE {p : List Int} {D : Nat} {L : List (List Rat)} (hD : 0 < D) (hD2 : D ≤ 100) (hL : ∀ x ∈ L, Flt p.length D x) (hz : zeroL p.length ∈ L) : Fam p D L := by
  have z : ∀ x ∈ L, ∀ i, 0 < i → cf D x i = 0 := fun x hx i hi => by rw [cf_at, (hL x hx).2.2 i hi, ov_zero]
  refine ⟨hD, hD2, fun x hx => (hL x hx).1, fun x hx i => ?_, fun x hx y hy => .inl ?_, hz⟩
  · rcases Nat.eq_zero_or_pos i with h | h
    · rw [h]; exact (hL x hx).2.1
    · rw [(hL x hx).2.2 i h]; exact Bd.zero
  · rw [z x hx 1 (by decide), z x hx 2 (by decide), z y hy 1 (by decide), z y hy 2 (by decide)]
    exact ⟨rfl, rfl⟩
theorem equal_flt {n m i : Nat} (hn : 0 < n) (hm : m ≤ 9) (hi : i < m) : Flt n m (scaleL (scaleL (oct n) (mkRat 1 m)) (((1 + (i : Int) : Int) : Rat))) := by
  refine ⟨by rw [scaleL_length, scaleL_length, oct_length hn], ?_, fun j hj => ?_⟩
  · rw [at_scale, at_scale, at_oct hn, if_pos rfl, Rat.one_mul]
    refine ⟨1 + i, ?_, by omega⟩
    rw [int_mk, Rat.mkRat_mul_mkRat, Int.one_mul, Nat.mul_one]
  · rw [at_scale, at_scale, at_oct hn, if_neg (by omega), Rat.zero_mul, Rat.zero_mul]
theorem chain_frm {n i : Nat} {g : List Rat} {b c : Int} (hn : n ≤ 3) (hi : i ≤ 8) (h1 : g.length = n) (h2 : at' g 1 = mkRat b 2) (h3 : at' g 2 = (c : Rat)) (h4 : ∃ a : Int, a.natAbs ≤ 8 ∧ at' g 0 = (a : Rat)) (h5 : -8 ≤ b) (h6 : b ≤ 16) (h7 : c.natAbs ≤ 8) :
    Frm n (scaleL g (((0 + (i : Int) : Int) : Rat))) (b * i) (c * i) := by
  obtain ⟨a, h8, h9⟩ := h4
  have mul : ∀ (z : Int), z.natAbs ≤ 8 → (z * i).natAbs ≤ 64 := by
    intro z hz
    rw [Int.natAbs_mul]
    exact Nat.mul_le_mul hz (show Int.natAbs _ ≤ 8 by omega)
  refine ⟨by rw [scaleL_length, h1], ?_, ?_, ⟨a * i, mul a h8, ?_⟩, ?_, ?_, mul c h7, hn⟩
  · rw [at_scale, h2, int_mk, Rat.mkRat_mul_mkRat, Nat.mul_one, Int.zero_add]
  · rw [at_scale, h3, Int.zero_add, ← Rat.intCast_mul]
  · rw [at_scale, h9, Int.zero_add, ← Rat.intCast_mul]
  · have := Int.mul_le_mul_of_nonneg_right h5 (show (0 : Int) ≤ i by omega)
    omega
  · have := Int.mul_le_mul_of_nonneg_right h6 (show (0 : Int) ≤ i by omega)
    omega
theorem prW_len (b : Bool) : 2 ≤ (prW b).length ∧ (prW b).length ≤ 3 := by cases b <;> decide
/-- a world's sizes: parts of the octave, or small whole and half numbers -/
theorem wList_form (b : Bool) (kd nm : Nat) (xs : List Int) :
    (kd % 3 = 0 ∧ ∀ x ∈ wList b kd nm xs, Flt (prW b).length (1 + nm % 9) x) ∨ (¬ kd % 3 = 0 ∧ ∀ x ∈ wList b kd nm xs, ∃ β γ, Frm (prW b).length x β γ) := by
  have hp := prW_len b
  by_cases h0 : kd % 3 = 0
  · refine .inl ⟨h0, fun x hx => ?_⟩
    rw [wList, if_pos h0] at hx
    obtain ⟨i, hi, rfl⟩ := List.mem_map.1 hx
    rw [List.mem_range] at hi
    exact equal_flt (by omega) (by omega) hi
  · refine .inr ⟨h0, fun x hx => ?_⟩
    rw [wList, if_neg h0] at hx
    split at hx
    · obtain ⟨i, hi, rfl⟩ := List.mem_map.1 hx
      rw [List.mem_range] at hi
      obtain ⟨β, γ, k1, k2, k3, k4, k5, k6, k7⟩ := sz_frm hp (x := xs[3 * 0]?.getD 0) (y := xs[3 * 0 + 1]?.getD 0) (z := xs[3 * 0 + 2]?.getD 0)
      exact ⟨_, _, chain_frm hp.2 (by omega) k1 k2 k3 k4 k5 k6 k7⟩
    · obtain ⟨i, hi, rfl⟩ := List.mem_map.1 hx
      obtain ⟨β, γ, k1, k2, k3, ⟨a, k4, k5⟩, k6, k7, k8⟩ := sz_frm hp (x := xs[3 * i]?.getD 0) (y := xs[3 * i + 1]?.getD 0) (z := xs[3 * i + 2]?.getD 0)
      exact ⟨β, γ, k1, k2, k3, ⟨a, by omega, k5⟩, by omega, by omega, by omega, hp.2⟩
theorem wList_len (b : Bool) (kd nm : Nat) (xs : List Int) : (wList b kd nm xs).length ≤ 9 := by
  unfold wList
  split
  · simp [mulL]; omega
  · split
    · simp [mulL]; omega
    · simp; omega
/-- each described scale is of a family -/
theorem world_fam (b : Bool) (kd nm : Nat) (xs : List Int) : ∃ D, Fam (prW b) D (zeroL (prW b).length :: wList b kd nm xs) := by
  have hp := prW_len b
  rcases wList_form b kd nm xs with ⟨_, h⟩ | ⟨_, h⟩
  · refine ⟨1 + nm % 9, famE (by omega) (by omega) (fun x hx => ?_) (List.mem_cons_self ..)⟩
    rcases List.mem_cons.1 hx with rfl | hx
    · exact flt_zero
    · exact h x hx
  · refine ⟨2, famF (fun x hx => ?_) (List.mem_cons_self ..)⟩
    rcases List.mem_cons.1 hx with rfl | hx
    · exact ⟨0, 0, frm_zero hp.2⟩
    · exact h x hx
theorem world_col (b : Bool) (kd nm : Nat) (xs : List Int) : ColOk (prW b) (wList b kd nm xs) := by
  obtain ⟨D, F⟩ := world_fam b kd nm xs
  exact colOk (prW_pr b) F (fun x hx => List.mem_cons_of_mem _ hx) (by have := wList_len b kd nm xs; omega)
/-- the scale of a world -/
theorem c_Make' {h : GH} {b : Bool} {kd nm : Nat} {xs : List Int} (hkd : kd < 256) (hnm : nm < 256) (hx : xs.length = 24) (hxs : ∀ x ∈ xs, -128 ≤ x ∧ x ≤ 127) :
    ∃ r h', GCalls Tryz.prog gE 20 #[wV b kd nm xs] h r h' ∧ h.le h' ∧ ∃ N D L, Fam (prW b) D L ∧ Sc (prW b) D L N ∧ Scl (prW b) (wList b kd nm xs) N ∧ ScAt h' r (prW b) N := by
  obtain ⟨r, h', k1, k2, N, k3, k4⟩ := c_Make (h := h) hkd hnm hx hxs (world_col b kd nm xs)
  obtain ⟨D, F⟩ := world_fam b kd nm xs
  exact ⟨r, h', k1, k2, N, D, _, F, k3.sc (prW_pr b) F (fun x hx => List.mem_cons_of_mem _ hx) (by have := wList_len b kd nm xs; omega), k3, k4⟩
end Go.Proofs.Gh
namespace Go.Proofs.Gh
open Go Go.Proofs Go.Proofs.Zz
set_option maxRecDepth 10000
set_option linter.unusedSimpArgs false
/-- a size lies in no block without strings -/
theorem SzAt.n {h : GH} {v : Value} {l : List Rat} {o : Option Nat} (s : SzAt h v l) (hne : l ≠ []) (hk : ∀ k, o = some k → ∀ x ∈ (h.b k).cells, ∀ t, x ≠ .string t) : SzN h v l o := by
  obtain ⟨g, oo, c, e, s⟩ := s
  refine ⟨g, oo, c, e, s, ?_⟩
  rintro rfl
  obtain ⟨q, l', rfl⟩ : ∃ q l', l = q :: l' := List.exists_cons_of_ne_nil hne
  obtain ⟨pre, post, h1, h2⟩ := s.cells
  refine hk g rfl (.string (enc q.num)) ?_ _ rfl
  rw [h1]
  simp [rc]
theorem LsO.cells {h0 h : GH} {v : Value} {L : List (List Rat)} {o : Option Nat} (s : LsO h0 h v L o) : ∀ k, o = some k → ∀ x ∈ (h.b k).cells, ∀ t, x ≠ .string t := by
  rintro k rfl x hx t rfl
  obtain ⟨vs, w, h1, h2⟩ := s
  rcases w with ⟨_, _, h⟩ | ⟨g', h, _, _, _, h4, _⟩
  · cases h
  · injection h with h
    subst h
    rw [h4, Row] at hx
    have hx : Value.string t ∈ (vs.map fun x => [x]).flatten := hx
    rw [one_cells] at hx
    obtain ⟨i, hi, he⟩ := List.getElem_of_mem hx
    obtain ⟨y, k1, k2⟩ := h2 i _ (List.getElem?_eq_getElem (by omega))
    rw [List.getElem?_eq_getElem hi, he] at k1
    injection k1 with k1
    subst k1
    obtain ⟨_, _, _, e, _⟩ := k2
    cases e
theorem Duo.cells {h : GH} {g : Nat} {p p2 : Option Addr} {n c n2 c2 : Nat} (d : Duo h g (.slice p n c) (.slice p2 n2 c2)) : ∀ x ∈ (h.b g).cells, ∀ t, x ≠ .string t := by
  rw [d.b]
  intro x hx t e
  subst e
  simp at hx
theorem SzN.up {h : GH} {v : Value} {l : List Rat} {o : Option Nat} (s : SzN h v l o) (hne : l ≠ []) {k : Nat} (hk : ∀ x ∈ (h.b k).cells, ∀ t, x ≠ .string t) (X : GB) : SzN (h.upd k X) v l o := by
  obtain ⟨g, oo, c, e, s, hg⟩ := s
  refine ⟨g, oo, c, e, ?_, hg⟩
  refine SlAt.leX leX_upd s ?_
  rintro hh
  injection hh with hh
  subst hh
  obtain ⟨q, l', rfl⟩ : ∃ q l', l = q :: l' := List.exists_cons_of_ne_nil hne
  obtain ⟨pre, post, h1, h2⟩ := s.cells
  refine hk (.string (enc q.num)) ?_ _ rfl
  rw [h1]
  simp [rc]
theorem SzAt.up {h : GH} {v : Value} {l : List Rat} (s : SzAt h v l) (hne : l ≠ []) {k : Nat} (hk : ∀ x ∈ (h.b k).cells, ∀ t, x ≠ .string t) (X : GB) : SzAt (h.upd k X) v l :=
  ((s.n (o := none) hne (fun _ h => by cases h)).up hne hk X).at
/-- a row of sizes of one's own, and a write elsewhere -/
theorem LsO.up {h0 h : GH} {v : Value} {L : List (List Rat)} {o : Option Nat} (s : LsO h0 h v L o) (hne : ∀ l ∈ L, l ≠ []) {k : Nat} (hk : ∀ x ∈ (h.b k).cells, ∀ t, x ≠ .string t) (hk0 : k < h0.n) (X : GB) : LsO h0 (h.upd k X) v L o := by
  obtain ⟨vs, w, h1, h2⟩ := s
  refine ⟨vs, ?_, h1, fun i l hi => ?_⟩
  · rcases w with w | ⟨g, e1, e2, k2, k3, k4, k5⟩
    · exact .inl w
    · exact .inr ⟨g, e1, e2, k2, k3, (upd_ne _ _ (by omega)).trans k4, k5⟩
  · obtain ⟨x, k1, k2⟩ := h2 i l hi
    exact ⟨x, k1, k2.up (hne l (List.mem_of_getElem? hi)) hk X⟩
/-- a row of ints, perhaps empty -/
def InAt (h : GH) (v : Value) (l : List Int) : Prop := ∃ p c, v = .slice p l.length c ∧ (l ≠ [] → ∃ g o, p = some ⟨g, o, none⟩ ∧ SlAt h g o c 1 (ints l))
theorem InAt.mono {h h' : GH} {v : Value} {l : List Int} (s : InAt h v l) (hl : h.le h') : InAt h' v l := by
  obtain ⟨p, c, e, s⟩ := s
  refine ⟨p, c, e, fun hne => ?_⟩
  obtain ⟨g, o, e2, s⟩ := s hne
  exact ⟨g, o, e2, s.mono hl⟩
/-- the error of a list of indices -/
def errAt (k : Nat) (l : List Int) (i : Nat) : Int :=
  if l[i]?.getD 0 < 0 ∨ (k : Int) ≤ l[i]?.getD 0 then 3 else if 0 < i ∧ l[i]?.getD 0 ≤ l[i - 1]?.getD 0 then 6 else 0
def errTo (k : Nat) (l : List Int) : Nat → Int
  | 0 => 0
  | i + 1 => if errTo k l i = 0 then errAt k l i else errTo k l i
def errOf (k : Nat) (l : List Int) : Int := if l = [] then 13 else errTo k l l.length
theorem errTo_stop {k : Nat} {l : List Int} {i j : Nat} (hij : i < j) (h0 : errTo k l i = 0) (h : errAt k l i ≠ 0) : errTo k l j = errAt k l i := by
  induction j with
  | zero => omega
  | succ j ih =>
    rw [errTo]
    rcases Nat.lt_or_ge i j with h' | h'
    · rw [ih h', if_neg h]
    · obtain rfl : i = j := by omega
      rw [if_pos h0]
theorem errTo_ok {k : Nat} {l : List Int} : ∀ {j : Nat}, errTo k l j = 0 → ∀ i, i < j → errAt k l i = 0
  | 0, _, i, hi => absurd hi (Nat.not_lt_zero _)
  | j + 1, h, i, hi => by
    rw [errTo] at h
    split at h
    · rename_i h0
      rcases Nat.lt_or_ge i j with h' | h'
      · exact errTo_ok h0 i h'
      · obtain rfl : i = j := by omega
        exact h
    · rename_i h0; exact absurd h h0
def ntI (N : List (List Rat)) (z : Int) : List Rat := noteL N z.toNat
/-- the indices of a subset's notes, and the notes -/
def subI (k : Nat) (l : List Int) : List Int := l.drop 1 ++ [l[0]?.getD 0 + (k : Int)]
def subN (N : List (List Rat)) (l : List Int) : List (List Rat) := (subI N.length l).map fun z => subL (ntI N z) (ntI N (l[0]?.getD 0))
theorem subI_len {k : Nat} {l : List Int} (h : l ≠ []) : (subI k l).length = l.length := by
  have : 0 < l.length := List.length_pos_iff.2 h
  simp [subI]; omega
theorem subI_bd {k : Nat} {l : List Int} (h : errOf k l = 0) : l ≠ [] ∧ (∀ z ∈ l, 0 ≤ z ∧ z < k) ∧ ∀ z ∈ subI k l, 0 ≤ z ∧ z < 2 * k := by
  have hne : l ≠ [] := by rintro rfl; simp [errOf] at h
  rw [errOf, if_neg hne] at h
  have hz : ∀ z ∈ l, 0 ≤ z ∧ z < k := by
    intro z hz
    obtain ⟨i, hi, rfl⟩ := List.getElem_of_mem hz
    have := errTo_ok h i hi
    unfold errAt at this
    rw [List.getElem?_eq_getElem hi, Option.getD_some] at this
    by_cases hh : l[i] < 0 ∨ (k : Int) ≤ l[i]
    · rw [if_pos hh] at this; omega
    · omega
  refine ⟨hne, hz, fun z h1 => ?_⟩
  unfold subI at h1
  rcases List.mem_append.1 h1 with h1 | h1
  · have := hz z (List.mem_of_mem_drop h1); omega
  · rw [List.mem_singleton] at h1
    obtain ⟨a, l', rfl⟩ := List.exists_cons_of_ne_nil hne
    have := hz a (by simp)
    simp at h1
    omega
end Go.Proofs.Gh
namespace Go.Proofs.Gh
open Go Go.Proofs Go.Proofs.Zz
set_option maxRecDepth 10000
set_option linter.unusedSimpArgs false
theorem alloc_store2s {h : GH} {a b v w : Value} (hv : Value.oneCell' v = true) (hw : Value.oneCell' w = true) : (h.alloc ⟨[a, b], true, false⟩).store h.n 0 [v, w] = some (h.alloc ⟨[v, w], true, false⟩) := by
  rw [cells_store (h := h.alloc ⟨[a, b], true, false⟩) (g := h.n) (old := [a, b]) (vs := [v, w]) (Nat.lt_succ_self _) (alloc_self _ _) rfl (by simp [hv, hw]), alloc_upd]
theorem ints_tail {h : GH} {g o c : Nat} {l : List Int} {x : Int} (s : SlAt h g o c 1 (ints (x :: l))) (hlen : l.length ≤ 1000) :
    ∃ c', gSlice Tryz.prog 28 (.slice (some ⟨g, o, none⟩) (l.length + 1) c) (some (.int .i64 1)) none none = some (.slice (some ⟨g, o + 1, none⟩) l.length c') ∧ SlAt h g (o + 1) c' 1 (ints l) := by
  obtain ⟨h1, h2, ⟨pre, post, h3, h4⟩, h5, h6, h7⟩ := s
  rw [ints_length, List.length_cons] at h6
  refine ⟨if unk ≤ c then c else c - 1, ?_, h1, h2, ⟨pre ++ [.int .i64 x], post, by rw [h3]; simp [ints], by simp [h4]⟩, ints_one l, ?_⟩
  · have hm : gBd 0 none = some 0 := rfl
    have hlo : gBd 0 (some (.int .i64 1)) = some 1 := rfl
    have hhi : gBd (l.length + 1) none = some (l.length + 1) := rfl
    simp only [gSlice, ty_sk28, ty_tk3, hlo, hhi, hm]
    rw [if_neg (by simp), if_pos]
    · simp
    · refine ⟨by omega, ?_, h7⟩
      split
      · omega
      · omega
  · rw [ints_length]
    split
    · rename_i hc
      exact ⟨by simp only [unk] at hc; omega, fun _ => h7 hc⟩
    · exact ⟨by omega, fun h => by omega⟩
/-- one number more, that lies somewhere -/
theorem RI.app' {h0 h : GH} {v : Value} {l : List Int} (s : RI h0 h v l) (hle : h0.le h) (hlen : l.length ≤ 1000) {x : Int} {g2 o2 c2 : Nat} (hld : h.load g2 o2 1 = some [.int .i64 x]) :
    ∃ v' h', gAppend Tryz.prog 28 28 v (.slice (some ⟨g2, o2, none⟩) 1 c2) h = some (v', h') ∧ h0.le h' ∧ ∃ g c, v' = .slice (some ⟨g, 0, none⟩) (l.length + 1) c ∧ SlAt h' g 0 c 1 (ints (l ++ [x])) ∧ g = h.n := by
  rcases s with ⟨rfl, g, rfl⟩ | ⟨g, w⟩
  · refine ⟨_, _, append_over (P := Tryz.prog) (len := 0) (c := 0) (old := []) (n := 1) ty_sk28 ty_tk3 ty_zk3 rfl ty_ce3 (by rw [Nat.mul_one]; exact hld) (by decide) rfl rfl (by decide) (by decide) rfl (by decide) (by rw [ty_be3]; decide), hle.trans (GH.le_alloc _ _), _, _, rfl, ?_, rfl⟩
    exact row_at (els := ints [x]) (Nat.lt_succ_self _) (alloc_self h _) (ints_one _) ⟨by simp [ints], fun _ => .inr rfl⟩
  · have hg := w
    obtain ⟨h', e1, e2, e3, e4, e5⟩ := w.append (P := Tryz.prog) (t := 28) (x := [.int .i64 x]) (c2 := c2) ty_sk28 ty_tk3 ty_zk3 rfl ty_ce3 (by decide) (ints_one l) rfl hld rfl (by rw [ints_length]; omega) (by rw [ty_be3]; decide) hle.1
    rw [ints_length] at e1
    refine ⟨_, h', e1, ⟨by rw [e2]; exact Nat.le_succ_of_le hle.1, fun k hk => ?_⟩, _, _, rfl, ?_, rfl⟩
    · have hkn : k < h.n := Nat.lt_of_lt_of_le hk hle.1
      rw [e4 k hkn ?_, hle.2 k hk]
      intro hh
      injection hh with hh
      subst hh
      rcases hg with ⟨_, _, h⟩ | ⟨g', h, _, h2, _⟩
      · cases h
      · injection h with h; omega
    · have e3' : h'.b h.n = Row (ints (l ++ [x])) := by rw [e3]; simp [ints]
      exact row_at (els := ints (l ++ [x])) (by rw [e2]; exact Nat.lt_succ_self _) e3' (ints_one _) ⟨by rw [ints_length]; simp only [unk, List.length_append, List.length_cons, List.length_nil]; omega, fun _ => .inr rfl⟩
theorem LsO.form {h0 h : GH} {v : Value} {L : List (List Rat)} {o : Option Nat} (s : LsO h0 h v L o) : ∃ p c, v = .slice p L.length c := by
  obtain ⟨vs, w, h1, _⟩ := s
  rcases w with ⟨rfl, e, _⟩ | ⟨g, _, rfl, _⟩
  · have : vs = [] := List.map_eq_nil_iff.1 e
    rw [this] at h1
    exact ⟨_, _, by rw [← h1]; rfl⟩
  · exact ⟨_, _, by rw [List.length_map, h1]⟩
theorem LsO.app' {h0 h : GH} {v y : Value} {L : List (List Rat)} {l : List Rat} {o : Option Nat} (s : LsO h0 h v L o) (hle : h0.n ≤ h.n) (hlen : L.length ≤ 100000) (sy : SzN h y l o) :
    ∃ v' h' o', gAppend Tryz.prog 34 34 v (.slice (some ⟨h.n, 0, none⟩) 1 1) (h.alloc ⟨[y], true, false⟩) = some (v', h') ∧ LsO h0 h' v' (L ++ [l]) o' ∧ leX o h h' := by
  obtain ⟨vs, w, h1, h2⟩ := s
  have w' := w.mono (GH.le_alloc h ⟨[y], true, false⟩)
  obtain ⟨h', e1, e2, e3, e4, e5⟩ := w'.append (P := Tryz.prog) (t := 34) (x := [y]) (c2 := 1) ty_sk34 ty_tk32 ty_zk32 rfl ty_ce32 (by decide) (one_len vs) rfl alloc_load1 (by simp [sy.one]) (by rw [List.length_map, h1]; omega) (by rw [ty_be32]; decide) (Nat.le_succ_of_le hle)
  have hX : Gh.leX o h h' := ⟨by rw [e2]; exact Nat.le_succ_of_le (Nat.le_succ _), fun g hg hgo => by rw [e4 g (Nat.lt_succ_of_lt hg) hgo, alloc_b_lt _ _ hg]⟩
  have fresh : ∀ {x l}, SzN h x l o → SzN h' x l (some (h.alloc ⟨[y], true, false⟩).n) := by
    rintro x l ⟨g, oo, c, e, k, kn⟩
    have hgl := k.lt
    refine ⟨g, oo, c, e, k.leX hX kn, fun hh => ?_⟩
    injection hh with hh
    have : (h.alloc ⟨[y], true, false⟩).n = h.n + 1 := rfl
    omega
  refine ⟨_, h', some _, e1, ⟨vs ++ [y], by rw [List.map_append]; exact e5, by simp [h1], fun i m hi => ?_⟩, hX⟩
  · rcases Nat.lt_or_ge i L.length with hlt | hge
    · rw [List.getElem?_append_left hlt] at hi
      obtain ⟨x, k1, k2⟩ := h2 i m hi
      exact ⟨x, by rw [List.getElem?_append_left (by omega)]; exact k1, fresh k2⟩
    · rw [List.getElem?_append_right hge] at hi
      have hi0 : i - L.length = 0 := by
        rcases Nat.eq_zero_or_pos (i - L.length) with h | h
        · exact h
        · rw [List.getElem?_eq_none (by simp; omega)] at hi; cases hi
      rw [hi0, List.getElem?_cons_zero] at hi
      injection hi with hi
      subst hi
      exact ⟨y, by rw [List.getElem?_append_right (by omega), show i - vs.length = 0 by omega]; rfl, fresh sy⟩
theorem Duo.leX {h h' : GH} {g : Nat} {a b : Value} {o : Option Nat} (d : Duo h g a b) (hl : Gh.leX o h h') (hg : some g ≠ o) : Duo h' g a b :=
  ⟨Nat.lt_of_lt_of_le d.lt hl.1, (hl.2 g d.lt hg).trans d.b⟩
theorem leX.le {h0 h h' : GH} {o : Option Nat} (hl : Gh.leX o h h') (h1 : h0.le h) (ho : ∀ g, o = some g → h0.n ≤ g) : h0.le h' :=
  ⟨Nat.le_trans h1.1 hl.1, fun g hg => (hl.2 g (Nat.lt_of_lt_of_le hg h1.1) (fun e => by have := ho g e.symm; omega)).trans (h1.2 g hg)⟩
theorem c_scSubset {h : GH} {sv lv : Value} {p : List Int} {D : Nat} {L N : List (List Rat)} {l : List Int} (hP : Pr p) (F : Fam p D L) (sc : Sc p D L N) (s : ScAt h sv p N) (hl : InAt h lv l) (hlen : l.length ≤ 100) :
    ∃ r h', GCalls Tryz.prog gE 35 #[sv, lv] h r h' ∧ h.le h' ∧
      ((errOf N.length l ≠ 0 ∧ r = .tuple #[.agg #[.slice none 0 0, .slice none 0 0], .int .i64 (errOf N.length l)]) ∨ (errOf N.length l = 0 ∧ ∃ tv, r = .tuple #[tv, .int .i64 0] ∧ ScAt h' tv p (subN N l))) := by
  obtain ⟨g, o, c, g2, o2, c2, rfl, hp, hn⟩ := s.form
  obtain ⟨lp, lc', rfl, hls⟩ := id hl
  have hpl := hP.len
  have hk := sc.len
  obtain ⟨H, hH, d1, d2, hle0, hHn⟩ := Duo.two h (.slice (some ⟨g, o, none⟩) p.length c) (.slice (some ⟨g2, o2, none⟩) N.length c2) (.slice none 0 0) (.slice none 0 0)
  refine gcalls_in (pl := pl35) [.cell 4 36, .tmp 5] mixed Tryz.func35 rfl rfl (by exact ok35) ?_
  simp only [go_sem, Nat.reduceBEq, ↓reduceIte, hH, d1.l2]
  refine callK_intro (c_scCheck hP (s.mono hle0) (sc.scOk hP F)) ?_
  rintro _ h1 ⟨hle1, rfl⟩
  have dA := d1.mono hle1
  have dB := d2.mono hle1
  simp only [go_sem, Nat.reduceBEq, Int.reduceNe]
  have hst := fun h' (d : Duo h' (h.n + 1) (.slice none 0 0) (.slice none 0 0)) => d.s2 (v := .slice none 0 0) (w := .slice none 0 0) rfl rfl
  have dd := fun h' (d : Duo h' (h.n + 1) (.slice none 0 0) (.slice none 0 0)) => Duo.up (v := .slice none 0 0) (w := .slice none 0 0) d.lt
  refine ifK_intro (fun c1 => ?_) (fun c1 => ?_)
  · have c1' : l = [] := List.length_eq_zero_iff.1 (by have := of_decide_eq_true c1; omega)
    simp only [go_sem, Nat.reduceBEq, Nat.reduceAdd, ↓reduceIte, hst _ dB, (dd _ dB).l2]
    exact ⟨(hle0.trans hle1).upd (by omega) _, .inl ⟨by simp [errOf, c1'], by simp [errOf, c1']⟩⟩
  have c1' : l ≠ [] := by rintro rfl; simp at c1
  obtain ⟨lg, lo, rfl, hlr⟩ := hls c1'
  simp only [go_sem, Nat.reduceBEq]
  refine loopK_inv (α := Nat) (fun i => l.length - i) (fun i ts g' => ts 1 = .slice (some ⟨lg, lo, none⟩) l.length lc' ∧ ts 2 = .pointer (some ⟨h.n, 0, none⟩) ∧ ts 4 = .pointer (some ⟨h.n + 1, 0, none⟩) ∧ ts 26 = .slice (some ⟨lg, lo, none⟩) l.length lc' ∧ ts 27 = .int .i64 l.length ∧ ts 28 = .int .i64 i ∧ i ≤ l.length ∧ g' = h1 ∧ errTo N.length l i = 0) ?_ (a0 := 0) ?_
  · rintro i ts g' ⟨t1, t2, t4, t26, t27, t28, hi, rfl, he⟩
    simp only [go_sem, t27, t28]
    refine ifK_intro (fun c2 => ?_) (fun c2 => ?_)
    · have c2' := of_decide_eq_true c2
      have hll := (hlr.mono (hle0.trans hle1)).load (ints_get (i := i) (x := l[i]?.getD 0) (by rw [List.getElem?_eq_getElem (by omega)]; rfl))
      rw [Nat.mul_one] at hll
      have wi : IntKind.i64.wrap ((i : Int) + 1) = ((i + 1 : Nat) : Int) := wrap_i64 (by omega) (by omega)
      simp only [go_sem, Nat.reduceBEq, Array.reduceGetElem?, ↓reduceIte, t26, t28, c2', hll]
      have hx : ∃ x, l[i]?.getD 0 = x := ⟨_, rfl⟩
      obtain ⟨x, hx⟩ := hx
      have fin : ∀ e : Int, e ≠ 0 → errAt N.length l i = e → errOf N.length l = e := by
        intro e h0 h1
        rw [errOf, if_neg c1', errTo_stop (show i < l.length by omega) he (by rw [h1]; exact h0), h1]
      have big : (x < 0 ∨ (N.length : Int) ≤ x) → errOf N.length l = 3 := fun hh => fin 3 (by decide) (by rw [errAt, hx, if_pos hh])
      rw [hx]
      refine ifK_intro (fun c3 => ?_) (fun c3 => ?_)
      · have c3' := of_decide_eq_true c3
        simp only [go_sem, Nat.reduceBEq, Nat.reduceAdd, Array.reduceGetElem?, ↓reduceIte, t4, c3, hst _ dB, (dd _ dB).l2]
        exact ⟨(hle0.trans hle1).upd (by omega) _, .inl ⟨by rw [big (.inl c3')]; decide, by rw [big (.inl c3')]⟩⟩
      · have c3' := of_decide_eq_false c3
        simp only [go_sem, Nat.reduceBEq, Array.reduceGetElem?, ↓reduceIte, t2, c3, dA.l1]
        refine ifK_intro (fun c4 => ?_) (fun c4 => ?_)
        · have c4' := of_decide_eq_true c4
          simp only [go_sem, Nat.reduceBEq, Nat.reduceAdd, ↓reduceIte, t4, c3, c4, hst _ dB, (dd _ dB).l2]
          exact ⟨(hle0.trans hle1).upd (by omega) _, .inl ⟨by rw [big (.inr c4')]; decide, by rw [big (.inr c4')]⟩⟩
        · have c4' := of_decide_eq_false c4
          have hn3 : ¬ (x < 0 ∨ (N.length : Int) ≤ x) := by omega
          simp only [go_sem, Nat.reduceBEq, Array.reduceGetElem?, c3, c4]
          refine ifK_intro (fun c5 => ?_) (fun c5 => ?_)
          · have c5' := of_decide_eq_true c5
            have wm : IntKind.i64.wrap ((i : Int) - 1) = ((i - 1 : Nat) : Int) := by rw [wrap_i64 (by omega) (by omega)]; omega
            have hm : ((i - 1 : Nat) : Int) < l.length := by omega
            have hll2 := (hlr.mono (hle0.trans hle1)).load (ints_get (i := i - 1) (x := l[i - 1]?.getD 0) (by rw [List.getElem?_eq_getElem (by omega)]; rfl))
            rw [Nat.mul_one] at hll2
            obtain ⟨y, hy⟩ : ∃ y, l[i - 1]?.getD 0 = y := ⟨_, rfl⟩
            rw [hy] at hll2
            simp only [go_sem, Nat.reduceBEq, Array.reduceGetElem?, ↓reduceIte, t1, c5, wm, hm, hll2]
            refine ifK_intro (fun c6 => ?_) (fun c6 => ?_)
            · have c6' := of_decide_eq_true c6
              have e6 : errOf N.length l = 6 := fin 6 (by decide) (by rw [errAt, hx, hy, if_neg hn3, if_pos ⟨by omega, c6'⟩])
              simp only [go_sem, Nat.reduceBEq, Nat.reduceAdd, ↓reduceIte, t4, c6, hst _ dB, (dd _ dB).l2]
              exact ⟨(hle0.trans hle1).upd (by omega) _, .inl ⟨by rw [e6]; decide, by rw [e6]⟩⟩
            · have c6' := of_decide_eq_false c6
              simp only [go_sem, Nat.reduceBEq, t1, t2, t4, t26, t27, t28, wi]
              exact ⟨i + 1, by omega, rfl, by omega, by rw [errTo, if_pos he, errAt, hx, hy, if_neg hn3, if_neg (by omega)]⟩
          · have c5' := of_decide_eq_false c5
            simp only [go_sem, Nat.reduceBEq, Array.reduceGetElem?, ↓reduceIte, t1, t2, t4, t26, t27, t28, c5, wi]
            exact ⟨i + 1, by omega, rfl, by omega, by rw [errTo, if_pos he, errAt, hx, if_neg hn3, if_neg (by omega)]⟩
    · have c2' := of_decide_eq_false c2
      obtain rfl : i = l.length := by omega
      simp only [go_sem, Nat.reduceBEq, Array.reduceGetElem?, t2, pl35]
      have hle := hle0.trans hle1
      have e0 : errOf N.length l = 0 := by rw [errOf, if_neg c1']; exact he
      obtain ⟨_, hz, hz2⟩ := subI_bd e0
      obtain ⟨x0, l', rfl⟩ := List.exists_cons_of_ne_nil c1'
      obtain ⟨n0, rfl⟩ : ∃ n0 : Nat, x0 = n0 := ⟨x0.toNat, by have := hz x0 (by simp); omega⟩
      have hn0 := hz (n0 : Int) (by simp)
      have i0 : ((0 : Int) < ((l'.length + 1 : Nat) : Int)) := by omega
      have hl0 : ∀ {h'}, h.le h' → h'.load lg lo 1 = some [.int .i64 n0] := fun hl => by
        have := (hlr.mono hl).load (ints_get (i := 0) (x := (n0 : Int)) rfl)
        rwa [Nat.zero_mul, Nat.add_zero] at this
      have nd0 := sc.note_nd hP F (n := n0) (by omega)
      have hl1 := hl0 hle
      simp only [go_sem, Nat.reduceBEq, Int.reduceLE, Int.reduceToNat, Array.reduceGetElem?, ↓reduceIte, t1, dA.l2, List.length_cons, i0, hl1]
      refine callK_intro (c_note hP (s.mono hle) hk.1 (by omega) (by omega) (fun x hx => (sc.nd x hx).len) (fun x hx => (sc.nd x hx).sm F) (fun q hq => (nd0.2 q hq).sm) (nd0.1.sm F)) ?_
      rintro _ h2 ⟨hle2, fv, rfl, hfv⟩
      have dA2 := dA.mono hle2
      have dB2 := dB.mono hle2
      have hl2 := hl0 (hle.trans hle2)
      simp only [go_sem, Nat.reduceBEq, Int.reduceNe, Array.reduceGetElem?, t2, List.length_cons, dA2.l0]
      refine callK_intro (c_clonePrimes ((hp.mono hle).mono hle2) hP.ne (by omega)) ?_
      rintro cv h3 ⟨hle3, hcv⟩
      obtain ⟨cg, co, cc, rfl, hcs⟩ := id hcv
      have hle03 := (hle.trans hle2).trans hle3
      obtain ⟨G, hG⟩ : ∃ G, h3.alloc ⟨[.slice (some ⟨cg, co, none⟩) p.length cc, .slice none 0 0], true, false⟩ = G := ⟨_, rfl⟩
      have dG : Duo G h3.n (.slice (some ⟨cg, co, none⟩) p.length cc) (.slice none 0 0) := by rw [← hG]; exact Duo.new _ _ _
      have hleG : h3.le G := by rw [← hG]; exact GH.le_alloc _ _
      have hGn : G.n = h3.n + 1 := by rw [← hG]; rfl
      have hl3 := hl0 (hle03.trans hleG)
      obtain ⟨c', et1, et2⟩ := ints_tail (hlr.mono (hle03.trans hleG)) (by simp only [List.length_cons] at hlen; omega)
      have dA3 := (dA2.mono hle3).mono hleG
      simp only [go_sem, Nat.reduceBEq, Nat.reduceAdd, Nat.reduceLeDiff, Nat.reduceLT, Int.reduceLE, Int.reduceToNat, Array.reduceGetElem?, ↓reduceIte, t1, t2, List.length_cons, i0, hl3, alloc_store2s (h := h3) (a := .slice none 0 0) (b := .slice none 0 0) (v := .slice (some ⟨cg, co, none⟩) p.length cc) (w := .slice none 0 0) rfl rfl, hG, et1, dA3.l1, pl35]
      have wz : IntKind.i64.wrap ((n0 : Int) + (N.length : Int)) = (n0 : Int) + (N.length : Int) := wrap_i64 (by omega) (by omega)
      rw [wz]
      obtain ⟨G1, hG1⟩ : ∃ G1, G.alloc ⟨[.int .i64 ((n0 : Int) + (N.length : Int))], true, false⟩ = G1 := ⟨_, rfl⟩
      have hleG1 : G.le G1 := by rw [← hG1]; exact GH.le_alloc _ _
      have hG1n : G1.n = G.n + 1 := by rw [← hG1]; rfl
      have hld1 : G1.load G.n 0 1 = some [.int .i64 ((n0 : Int) + (N.length : Int))] := by rw [← hG1]; exact alloc_load1
      rw [hG1]
      have hlen' : l'.length ≤ 99 := by simp only [List.length_cons] at hlen; omega
      refine callK_intro (c_cloneInts (et2.mono hleG1) (by omega)) ?_
      rintro v4 h4 ⟨hle4, hri⟩
      have dA4 := (dA3.mono hleG1).mono hle4
      have hl4 := hl0 (((hle03.trans hleG).trans hleG1).trans hle4)
      have hld4 := load_mono hle4 hld1
      obtain ⟨iv, h5, ap1, hle5, ig, ic, rfl, his, hig⟩ := hri.app' (c2 := 1) hle4 (by omega) hld4
      have hri2 : ∃ p n c, v4 = .slice p n c := by
        rcases hri with ⟨_, g, rfl⟩ | ⟨g, w⟩
        · exact ⟨_, _, _, rfl⟩
        · rcases w with ⟨rfl, _⟩ | ⟨g', _, rfl, _⟩
          · exact ⟨_, _, _, rfl⟩
          · exact ⟨_, _, _, rfl⟩
      obtain ⟨_, _, _, rfl⟩ := hri2
      simp only [go_sem, Nat.reduceBEq, Array.reduceGetElem?, List.length_cons, hl4, dA4.l1, ap1]
      have hG15 : G.n < h5.n := by have := hleG1.1; have := hle5.1; omega
      have hig3 : h3.n < ig := by have := hleG1.1; have := hle4.1; omega
      have hle35 : h3.le h5 := (hleG.trans hleG1).trans hle5
      have hIl : (subI N.length ((n0 : Int) :: l')).length = l'.length + 1 := by rw [subI_len (by simp)]; rfl
      have his' : SlAt h5 ig 0 ic 1 (ints (subI N.length ((n0 : Int) :: l'))) := his
      have i4 := his'.lt
      have dG5 : Duo h5 h3.n (.slice (some ⟨cg, co, none⟩) p.length cc) (.slice none 0 0) := (dG.mono hleG1).mono hle5
      have hsne : ∀ i, ∀ x ∈ (subN N ((n0 : Int) :: l')).take i, x ≠ [] := by
        intro i x hx
        obtain ⟨z, hzm, rfl⟩ := List.mem_map.1 (List.mem_of_mem_take hx)
        rw [← List.length_pos_iff, subL_length _ _ (by rw [ntI, ntI, sc.note_len hP, sc.note_len hP]), ntI, sc.note_len hP]
        omega
      refine loopK_inv (α := Nat) (fun i => l'.length + 1 - i) (fun i ts g' => ts 2 = .pointer (some ⟨h.n, 0, none⟩) ∧ ts 4 = .pointer (some ⟨h.n + 1, 0, none⟩) ∧ ts 9 = fv ∧ ts 11 = .pointer (some ⟨h3.n, 0, none⟩) ∧ ts 83 = .slice (some ⟨ig, 0, none⟩) (l'.length + 1) ic ∧ ts 84 = .int .i64 ((l'.length + 1 : Nat) : Int) ∧ ts 85 = .int .i64 i ∧ i ≤ l'.length + 1 ∧ h3.le g' ∧ SlAt g' ig 0 ic 1 (ints (subI N.length ((n0 : Int) :: l'))) ∧ h5.n ≤ g'.n ∧ ∃ v o, Duo g' h3.n (.slice (some ⟨cg, co, none⟩) p.length cc) v ∧ LsO h5 g' v ((subN N ((n0 : Int) :: l')).take i) o) ?_ (a0 := 0) ?_
      · rintro i ts g' ⟨t2, t4, t9, t11, t83, t84, t85, hi, hle', hiv, hn5, v, o', dv, hv⟩
        simp only [go_sem, t84, t85]
        refine ifK_intro (fun c3 => ?_) (fun c3 => ?_)
        · have c3' := of_decide_eq_true c3
          have c3'' : (i : Int) < ((l'.length + 1 : Nat) : Int) := by omega
          obtain ⟨z, hzi⟩ : ∃ z, (subI N.length ((n0 : Int) :: l'))[i]? = some z := ⟨_, List.getElem?_eq_getElem (by omega)⟩
          have hzb := hz2 z (List.mem_of_getElem? hzi)
          obtain ⟨m, rfl⟩ : ∃ m : Nat, z = m := ⟨z.toNat, by omega⟩
          have hil := hiv.load (ints_get hzi)
          rw [Nat.mul_one, Nat.zero_add] at hil
          have dA' := dA2.mono (hle3.trans hle')
          have ndm := sc.note_nd hP F (n := m) (by omega)
          simp only [go_sem, Nat.reduceBEq, ↓reduceIte, t2, t83, t85, c3'', hil, dA'.l2]
          refine callK_intro (c_note hP ((s.mono hle03).mono hle') hk.1 (by omega) (by omega) (fun x hx => (sc.nd x hx).len) (fun x hx => (sc.nd x hx).sm F) (fun q hq => (ndm.2 q hq).sm) (ndm.1.sm F)) ?_
          rintro _ h6 ⟨hle6, nv, rfl, hnv⟩
          have dA6 := dA'.mono hle6
          simp only [go_sem, Nat.reduceBEq, Int.reduceNe, Array.reduceGetElem?, t2, t9, dA6.l0]
          refine callK_intro (c_Sub hP (((hp.mono hle03).mono hle').mono hle6) hnv (((hfv.mono hle3).mono hle').mono hle6) ndm.1.len nd0.1.len (ndm.1.sm F) (nd0.1.sm F) (by
            have g := Nd.good F ndm.1 nd0.1
            exact g.fit.sm)) ?_
          rintro _ h7 ⟨hle7, dv', rfl, hdv⟩
          have dv7 := (dv.mono hle6).mono hle7
          have hv7 := (hv.mono hle6).mono hle7
          have hsl : (subN N ((n0 : Int) :: l')).take (i + 1) = (subN N ((n0 : Int) :: l')).take i ++ [subL (noteL N m) (noteL N n0)] := by
            rw [List.take_add_one, subN, List.getElem?_map, hzi]; rfl
          have hne7 : subL (noteL N m) (noteL N n0) ≠ [] := by
            rw [← List.length_pos_iff, subL_length _ _ (by rw [ndm.1.len, nd0.1.len]), ndm.1.len]; omega
          obtain ⟨v', h8, o2, ap, hv8, hX8⟩ := hv7.app' (Nat.le_trans hn5 (Nat.le_trans hle6.1 hle7.1)) (by rw [List.length_take]; simp [subN, hIl]; omega) (hdv.n hne7 hv7.cells)
          obtain ⟨vp, vc, rfl⟩ := hv7.form
          obtain ⟨vp', vc', rfl⟩ := hv8.form
          obtain ⟨dg, do', dc, rfl, _⟩ := id hdv
          have ho7 := hv7.lt
          have dv8 := dv7.leX hX8 (fun e => by have := ho7 _ e.symm; omega)
          have st8 := dv8.s1 (v := .slice vp' ((subN N ((n0 : Int) :: l')).take i ++ [subL (noteL N m) (noteL N n0)]).length vc') rfl
          have wi : IntKind.i64.wrap ((i : Int) + 1) = ((i + 1 : Nat) : Int) := wrap_i64 (by omega) (by omega)
          simp only [go_sem, Nat.reduceBEq, Nat.reduceLeDiff, Nat.reduceLT, Int.reduceNe, Array.reduceGetElem?, ↓reduceIte, t2, t4, t9, t11, t83, t84, t85, dv7.l1, ap, st8, wi]
          have hle9 : h3.le (h8.upd h3.n ⟨[.slice (some ⟨cg, co, none⟩) p.length cc, .slice vp' ((subN N ((n0 : Int) :: l')).take i ++ [subL (noteL N m) (noteL N n0)]).length vc'], true, false⟩) :=
            (leX.le hX8 ((hle'.trans hle6).trans hle7) (fun g hg => by have := ho7 g hg; omega)).upd (Nat.le_refl _) _
          have his8 := SlAt.leX hX8 ((hiv.mono hle6).mono hle7) (fun e => by have := ho7 _ e.symm; omega)
          refine ⟨i + 1, by omega, rfl, by omega, hle9, SlAt.leX leX_upd his8 (fun e => by injection e with e; omega), ?_, _, o2, Duo.up dv8.lt, ?_⟩
          · show h5.n ≤ h8.n
            have := hX8.1; have := hle6.1; have := hle7.1; omega
          · rw [hsl]
            exact hv8.up (fun x hx => hsne (i + 1) x (by rw [hsl]; exact hx)) dv8.cells (by omega) _
        · have c3' := of_decide_eq_false c3
          obtain rfl : i = l'.length + 1 := by omega
          rw [List.take_of_length_le (by simp [subN, hIl])] at hv
          obtain ⟨vp, vc, rfl⟩ := hv.form
          have dB9 := (dB2.mono hle3).mono hle'
          have hst9 := dB9.s2 (v := .slice (some ⟨cg, co, none⟩) p.length cc) (w := .slice vp (subN N ((n0 : Int) :: l')).length vc) rfl rfl
          have dd9 := Duo.up (v := .slice (some ⟨cg, co, none⟩) p.length cc) (w := .slice vp (subN N ((n0 : Int) :: l')).length vc) dB9.lt
          simp only [go_sem, Nat.reduceBEq, Nat.reduceAdd, ↓reduceIte, t4, t11, c3, dv.l2, hst9, dd9.l2]
          have hsn : subN N ((n0 : Int) :: l') ≠ [] := by simp [subN, subI]
          refine ⟨(hle03.trans hle').upd (by omega) _, .inr ⟨e0, _, rfl, ?_⟩⟩
          refine ScAt.upd ⟨_, _, rfl, hcv.mono hle', hv.ls hsn (by simp [subN, hIl]; omega)⟩ dB9 hP.ne hsn (fun a ha => hsne (l'.length + 1) a ?_)
          rw [List.take_of_length_le (by simp [subN, hIl])]
          exact ha
      · simp only [go_sem, Nat.reduceBEq, Nat.reduceLeDiff, t2, t4]
        exact ⟨hle35, his', _, none, dG5, LsO.nil _ _⟩
  · simp only [go_sem, Nat.reduceBEq]
    exact ⟨Nat.zero_le _, rfl⟩
end Go.Proofs.Gh
namespace Go.Proofs.Gh
open Go Go.Proofs Go.Proofs.Zz
set_option maxRecDepth 10000
set_option linter.unusedSimpArgs false
/-- a row of ints in a block of its own -/
def RowI (h : GH) (g : Nat) (L : List Int) : Prop := g < h.n ∧ h.b g = Row (ints L)
theorem RowI.mono {h h' : GH} {g : Nat} {L : List Int} (s : RowI h g L) (hl : h.le h') : RowI h' g L := ⟨Nat.lt_of_lt_of_le s.1 hl.1, (hl.2 g s.1).trans s.2⟩
theorem RowI.load {h : GH} {g : Nat} {L : List Int} (s : RowI h g L) {i : Nat} {x : Int} (hi : L[i]? = some x) : h.load g i 1 = some [.int .i64 x] := by
  have := row_load s.1 s.2 (ints_one L) (ints_get hi)
  rwa [Nat.mul_one] at this
theorem ints_set (L : List Int) (i : Nat) (x : Int) : (ints L).set i [.int .i64 x] = ints (L.set i x) := by simp [ints, List.map_set]
theorem RowI.set {h : GH} {g : Nat} {L : List Int} (s : RowI h g L) {i : Nat} {x : Int} (hi : i < L.length) : ∃ h', h.store g i [.int .i64 x] = some h' ∧ RowI h' g (L.set i x) ∧ leX (some g) h h' ∧ h'.n = h.n ∧ ∀ {H0 : GH}, H0.le h → H0.n ≤ g → H0.le h' := by
  have hst := row_store (i := i) (vs := [.int .i64 x]) s.1 s.2 (ints_one L) (by rw [ints_length]; exact hi) rfl rfl
  rw [Nat.mul_one, ints_set] at hst
  exact ⟨_, hst, ⟨s.1, upd_self _ _ _⟩, leX_upd, rfl, fun hl hg => hl.upd hg _⟩
def AdjI (cmp : Int → Int → Int) (L : List Int) (k : Nat) : Prop := ∀ a b, L[k]? = some a → L[k + 1]? = some b → cmp a b < 0
theorem c_isortI {H0 h : GH} {g c K : Nat} {cw : Value × Value} {L : List Int} (cmp : Int → Int → Int) (hle0 : H0.le h) (hg : H0.n ≤ g) (s : RowI h g L) (hpos : 0 < L.length) (hlen : L.length ≤ 1000) (nd : L.Nodup)
    (anti : ∀ a ∈ L, ∀ b ∈ L, a ≠ b → ¬ cmp a b < 0 → cmp b a < 0)
    (hK : ∀ a ∈ L, ∀ b ∈ L, a ≠ b → ∀ h1, H0.le h1 → ∃ r h', GCalls Tryz.prog gE K #[.int .i64 a, .int .i64 b, cw.1, cw.2] h1 r h' ∧ h1.le h' ∧ r = .int .i64 (cmp a b)) :
    ∃ r h', GCalls Tryz.prog gE 206 #[.slice (some ⟨g, 0, none⟩) L.length c, .int .i64 0, .int .i64 L.length, .func (.func K) #[] #[cw.1, cw.2]] h r h' ∧ H0.le h' ∧ leX (some g) h h' ∧ ∃ L', L'.Perm L ∧ (∀ k, AdjI cmp L' k) ∧ RowI h' g L' := by
  have w1 : IntKind.i64.wrap (0 + 1) = 1 := by decide
  refine gcalls_in (pl := pl206) [] mixed Tryz.func206 rfl rfl (by exact ok206) ?_
  simp only [go_sem, Int.reduceAdd]
  refine loopK_inv (α := Nat) (fun i => L.length - i) (fun i ts g' => ∃ M : List Int, ts 0 = .slice (some ⟨g, 0, none⟩) L.length c ∧ ts 1 = .int .i64 0 ∧ ts 2 = .int .i64 L.length ∧ ts 3 = .func (.func K) #[] #[cw.1, cw.2] ∧ ts 8 = .int .i64 i ∧ 1 ≤ i ∧ i ≤ L.length ∧ H0.le g' ∧ leX (some g) h g' ∧ M.Perm L ∧ RowI g' g M ∧ ∀ k, k + 1 < i → AdjI cmp M k) ?_ (a0 := 1) ?_
  · rintro i ts g' ⟨M, t0, t1, t2, t3, t8, hi1, hi, hle, hX, hp, st, hs⟩
    simp only [go_sem, Nat.reduceBEq, t2, t8]
    refine ifK_intro (fun c1 => ?_) (fun c1 => ?_)
    · have c1' := of_decide_eq_true c1
      simp only [go_sem, Nat.reduceBEq, t8]
      refine loopK_inv (α := Nat) id (fun j ts g' => ∃ M : List Int, ts 0 = .slice (some ⟨g, 0, none⟩) L.length c ∧ ts 1 = .int .i64 0 ∧ ts 2 = .int .i64 L.length ∧ ts 3 = .func (.func K) #[] #[cw.1, cw.2] ∧ ts 8 = .int .i64 i ∧ ts 9 = .int .i64 j ∧ j ≤ i ∧ H0.le g' ∧ leX (some g) h g' ∧ M.Perm L ∧ RowI g' g M ∧ (∀ k, k + 1 ≤ i → k + 1 ≠ j → AdjI cmp M k) ∧ (0 < j → j < i → ∀ a b, M[j - 1]? = some a → M[j + 1]? = some b → cmp a b < 0)) ?_ (a0 := i) ?_
      · clear t0 t1 t2 t3 t8 hle hX hp st hs M
        rintro j ts g' ⟨M, t0, t1, t2, t3, t8, t9, hj, hle, hX, hp, st, hs, hs2⟩
        simp only [go_sem, Nat.reduceBEq, Array.reduceGetElem?, t1, t9, pl206]
        refine ifK_intro (fun c2 => ?_) (fun c2 => ?_)
        · have c2' := of_decide_eq_true c2
          obtain ⟨k, rfl⟩ : ∃ k, j = k + 1 := ⟨j - 1, by omega⟩
          have hml := hp.length_eq
          obtain ⟨a, ha⟩ : ∃ a, M[k + 1]? = some a := ⟨_, List.getElem?_eq_getElem (by omega)⟩
          obtain ⟨b, hb⟩ : ∃ b, M[k]? = some b := ⟨_, List.getElem?_eq_getElem (by omega)⟩
          have haL : a ∈ L := hp.mem_iff.1 (List.mem_of_getElem? ha)
          have hbL : b ∈ L := hp.mem_iff.1 (List.mem_of_getElem? hb)
          have hab : a ≠ b := by
            intro h
            subst h
            have h1 := (List.getElem?_eq_some_iff.1 ha)
            have h2 := (List.getElem?_eq_some_iff.1 hb)
            obtain ⟨h1, h3⟩ := h1
            obtain ⟨h2, h4⟩ := h2
            have := (List.getElem_inj (hp.nodup_iff.2 nd)).1 (h3.trans h4.symm)
            omega
          have lx := st.load ha
          have ly := st.load hb
          have e1 : IntKind.i64.wrap (((k + 1 : Nat) : Int) - 1) = (k : Int) := by rw [wrap_i64 (by omega) (by omega)]; omega
          have e2 : ((k + 1 : Nat) : Int) < L.length := by omega
          have e3 : (k : Int) < L.length := by omega
          simp only [go_sem, Nat.reduceBEq, Array.reduceGetElem?, ↓reduceIte, t0, t3, t9, c2, lx, ly, e1, e2, e3, Nat.zero_add]
          refine callK_intro (hK a haL b hbL hab g' hle) ?_
          rintro _ h2 ⟨hle2, rfl⟩
          simp only [go_sem, Nat.reduceBEq, Array.reduceGetElem?, ↓reduceIte, c2]
          have wi : IntKind.i64.wrap ((i : Int) + 1) = ((i + 1 : Nat) : Int) := wrap_i64 (by omega) (by omega)
          have hX2 : leX (some g) h h2 := ⟨Nat.le_trans hX.1 hle2.1, fun q hq hne => (hle2.2 q (Nat.lt_of_lt_of_le hq hX.1)).trans (hX.2 q hq hne)⟩
          refine ifK_intro (fun c3 => ?_) (fun c3 => ?_)
          · have c3' := of_decide_eq_true c3
            have st2 := st.mono hle2
            obtain ⟨h3, s3a, s3b, s3c, s3d, s3e⟩ := st2.set (i := k + 1) (x := b) (by omega)
            obtain ⟨h4, s4a, s4b, s4c, s4d, s4e⟩ := s3b.set (i := k) (x := a) (by rw [List.length_set]; omega)
            have hle4 : H0.le h4 := s4e (s3e (hle.trans hle2) hg) hg
            simp only [go_sem, Nat.reduceBEq, Array.reduceGetElem?, ↓reduceIte, t0, t1, t2, t3, t8, t9, load_mono hle2 lx, load_mono hle2 ly, e1, e2, e3, Nat.zero_add, s3a, s4a, pl206]
            have hMk : ∀ t, ((M.set (k + 1) b).set k a)[t]? = if t = k then some a else if t = k + 1 then some b else M[t]? := by
              intro t
              rw [List.getElem?_set, List.getElem?_set, List.length_set]
              by_cases h1 : t = k
              · subst h1
                simp [show t < M.length by omega]
              · by_cases h2 : t = k + 1
                · subst h2
                  simp [show k + 1 < M.length by omega]
                · simp [h1, h2, Ne.symm h1, Ne.symm h2]
            have hperm : ((M.set (k + 1) b).set k a).Perm L := by
              have hka := (List.getElem?_eq_some_iff.1 ha)
              have hkb := (List.getElem?_eq_some_iff.1 hb)
              obtain ⟨ka, ka2⟩ := hka
              obtain ⟨kb, kb2⟩ := hkb
              have := @List.set_set_perm _ M _ _ ka kb
              rw [ka2, kb2] at this
              exact this.trans hp
            refine ⟨k, Nat.lt_succ_self k, _, rfl, by omega, hle4, ⟨Nat.le_trans hX2.1 (Nat.le_trans s3c.1 s4c.1), fun q hq hne => by rw [s4c.2 q (by have := hX2.1; omega) hne, s3c.2 q (by have := hX2.1; omega) hne, hX2.2 q hq hne]⟩, hperm, s4b, ?_, ?_⟩
            · intro t h1 h2 u v hu hv
              rw [hMk] at hu hv
              by_cases htk : t = k
              · subst htk
                rw [if_pos rfl] at hu
                rw [if_neg (by omega), if_pos rfl] at hv
                injection hu with hu
                injection hv with hv
                subst hu hv
                exact c3'
              · by_cases htk1 : t = k + 1
                · subst htk1
                  rw [if_neg (by omega), if_pos rfl] at hu
                  rw [if_neg (by omega), if_neg (by omega)] at hv
                  injection hu with hu
                  subst hu
                  exact hs2 (by omega) (by omega) _ _ (by rw [Nat.add_sub_cancel]; exact hb) hv
                · rw [if_neg htk, if_neg htk1] at hu
                  rw [if_neg (by omega), if_neg (by omega)] at hv
                  exact hs t h1 (by omega) u v hu hv
            · intro h1 h2 u v hu hv
              rw [hMk] at hu hv
              rw [if_neg (by omega), if_neg (by omega)] at hu
              rw [if_neg (by omega), if_pos rfl] at hv
              injection hv with hv
              subst hv
              exact hs (k - 1) (by omega) (by omega) u b hu (by rw [show k - 1 + 1 = k by omega]; exact hb)
          · have c3' := of_decide_eq_false c3
            simp only [go_sem, Nat.reduceBEq, t0, t1, t2, t3, t8, wi]
            refine ⟨i + 1, by omega, M, rfl, by omega, by omega, hle.trans hle2, hX2, hp, st.mono hle2, fun t ht => ?_⟩
            by_cases htk : t = k
            · subst htk
              intro u v hu hv
              rw [hb] at hu
              rw [ha] at hv
              injection hu with hu
              injection hv with hv
              subst hu hv
              exact anti _ haL _ hbL hab c3'
            · exact hs t (by omega) (by omega)
        · have c2' := of_decide_eq_false c2
          have wi : IntKind.i64.wrap ((i : Int) + 1) = ((i + 1 : Nat) : Int) := wrap_i64 (by omega) (by omega)
          simp only [go_sem, Nat.reduceBEq, Array.reduceGetElem?, ↓reduceIte, t0, t1, t2, t3, t8, c2, wi]
          exact ⟨i + 1, by omega, M, rfl, by omega, by omega, hle, hX, hp, st, fun t ht => hs t (by omega) (by omega)⟩
      · simp only [go_sem, Nat.reduceBEq, t0, t1, t2, t3, t8]
        exact ⟨M, hle, hX, hp, st, fun k h1 h2 => hs k (by omega), fun h1 h2 => by omega⟩
    · have c1' := of_decide_eq_false c1
      simp only [go_sem]
      exact ⟨hle, hX, M, hp, fun k a b ha hb => hs k (by have := (List.getElem?_eq_some_iff.1 hb).1; have := hp.length_eq; omega) a b ha hb, st⟩
  · simp only [go_sem, Nat.reduceBEq]
    exact ⟨L, rfl, hpos, hle0, ⟨Nat.le_refl _, fun _ _ _ => rfl⟩, List.Perm.refl _, s, fun k hk => by omega⟩
theorem c_stable {H0 h : GH} {g c K : Nat} {cw : Value × Value} {L : List Int} (cmp : Int → Int → Int) (hle0 : H0.le h) (hg : H0.n ≤ g) (s : RowI h g L) (hpos : 0 < L.length) (hlen : L.length < 20) (nd : L.Nodup)
    (anti : ∀ a ∈ L, ∀ b ∈ L, a ≠ b → ¬ cmp a b < 0 → cmp b a < 0)
    (hK : ∀ a ∈ L, ∀ b ∈ L, a ≠ b → ∀ h1, H0.le h1 → ∃ r h', GCalls Tryz.prog gE K #[.int .i64 a, .int .i64 b, cw.1, cw.2] h1 r h' ∧ h1.le h' ∧ r = .int .i64 (cmp a b)) :
    ∃ r h', GCalls Tryz.prog gE 173 #[.slice (some ⟨g, 0, none⟩) L.length c, .int .i64 L.length, .func (.func K) #[] #[cw.1, cw.2]] h r h' ∧ H0.le h' ∧ leX (some g) h h' ∧ ∃ L', L'.Perm L ∧ (∀ k, AdjI cmp L' k) ∧ RowI h' g L' := by
  have k1 : ¬ (20 : Int) ≤ L.length := by omega
  have k2 : ¬ (20 : Int) < L.length := by omega
  refine gcalls_in (pl := noPl) [] mixed Tryz.func173 rfl rfl (by exact ok173) ?_
  simp only [go_sem, Nat.reduceBEq]
  refine loopK_unroll ?_
  simp only [go_sem, Nat.reduceBEq, k1]
  refine callK_intro (c_isortI cmp hle0 hg s hpos (by omega) nd anti hK) ?_
  rintro r1 h1 ⟨hle1, hX1, L', p1, p2, p3⟩
  simp only [go_sem]
  refine loopK_unroll ?_
  simp only [go_sem, Nat.reduceBEq, k2]
  exact ⟨hle1, hX1, L', p1, p2, p3⟩
theorem c_sortStable {H0 h : GH} {g c K : Nat} {cw : Value × Value} {L : List Int} (cmp : Int → Int → Int) (hle0 : H0.le h) (hg : H0.n ≤ g) (s : RowI h g L) (hpos : 0 < L.length) (hlen : L.length < 20) (nd : L.Nodup)
    (anti : ∀ a ∈ L, ∀ b ∈ L, a ≠ b → ¬ cmp a b < 0 → cmp b a < 0)
    (hK : ∀ a ∈ L, ∀ b ∈ L, a ≠ b → ∀ h1, H0.le h1 → ∃ r h', GCalls Tryz.prog gE K #[.int .i64 a, .int .i64 b, cw.1, cw.2] h1 r h' ∧ h1.le h' ∧ r = .int .i64 (cmp a b)) :
    ∃ r h', GCalls Tryz.prog gE 126 #[.slice (some ⟨g, 0, none⟩) L.length c, .func (.func K) #[] #[cw.1, cw.2]] h r h' ∧ H0.le h' ∧ leX (some g) h h' ∧ ∃ L', L'.Perm L ∧ (∀ k, AdjI cmp L' k) ∧ RowI h' g L' := by
  refine gcalls_in (pl := noPl) [] mixed Tryz.func126 rfl rfl (by exact ok126) ?_
  simp only [go_sem, Nat.reduceBEq]
  refine callK_intro (c_stable cmp hle0 hg s hpos hlen nd anti hK) ?_
  rintro r1 h1 ⟨hle1, hX1, L', p1, p2, p3⟩
  simp only [go_sem]
  exact ⟨hle1, hX1, L', p1, p2, p3⟩
end Go.Proofs.Gh
namespace Go.Proofs.Gh
open Go Go.Proofs Go.Proofs.Zz
set_option maxRecDepth 10000
set_option linter.unusedSimpArgs false
theorem c_CheckAllE {h : GH} {pv lv : Value} {p : List Int} {L : List (List Rat)} (hP : Pr p) (hp : PrAt h pv p) (s : LsE h lv L) (hlen : L.length ≤ 100000) (hs : ∀ l ∈ L, l.length = p.length ∧ SmL l) :
    ∃ r h', GCalls Tryz.prog gE 89 #[pv, lv] h r h' ∧ h.le h' ∧ r = .int .i64 0 := by
  rcases s with s | ⟨rfl, rfl⟩
  · exact c_CheckAll hP hp s hlen hs
  · obtain ⟨pg, po, pc, rfl, hp⟩ := hp
    refine gcalls_in (pl := noPl) [.tmp 4] mixed Tryz.func89 rfl rfl (by exact ok89) ?_
    simp only [go_sem, Nat.reduceBEq]
    refine callK_intro (c_pCheck hP hp) ?_
    rintro _ h1 ⟨hle1, rfl⟩
    simp only [go_sem, Nat.reduceBEq, Int.reduceNe]
    refine loopK_unroll ?_
    simp only [go_sem, Nat.reduceBEq, Int.reduceLT]
    exact hle1
/-- the order of two of a row's sizes -/
def cmpI (p : List Int) (L : List (List Rat)) (i k : Int) : Int := sgn p (subL (L[i.toNat]?.getD []) (L[k.toNat]?.getD []))
theorem c_sort1 {h : GH} {pv lv : Value} {p : List Int} {L : List (List Rat)} {b1 b2 i k : Nat} {a b : List Rat} (hP : Pr p) (u1 : Uno h b1 pv) (u2 : Uno h b2 lv) (hp : PrAt h pv p) (s : LsE h lv L) (hi : L[i]? = some a) (hk : L[k]? = some b) (hlen : L.length ≤ 100000)
    (hl : a.length = p.length) (hl2 : b.length = p.length) (ha : SmL a) (hb : SmL b) (f : Fit 9999999 p (subL a b)) (hd : Dec p (subL a b)) :
    ∃ r h', GCalls Tryz.prog gE 127 #[.int .i64 i, .int .i64 k, .pointer (some ⟨b1, 0, none⟩), .pointer (some ⟨b2, 0, none⟩)] h r h' ∧ h.le h' ∧ r = .int .i64 (sgn p (subL a b)) := by
  obtain ⟨pg, po, pc, rfl, hp'⟩ := id hp
  obtain ⟨lp, lc', rfl, hlf⟩ := s.form
  obtain ⟨g, o, x, rfl, l1, s1, o1⟩ := hlf i a hi
  obtain ⟨g', o', y, e, l2, s2, o2⟩ := hlf k b hk
  injection e with e
  injection e with e1 e2 e3
  subst e1 e2
  have hi' := (List.getElem?_eq_some_iff.1 hi).1
  have hk' := (List.getElem?_eq_some_iff.1 hk).1
  have k1 : (i : Int) < L.length := by omega
  have k2 : (k : Int) < L.length := by omega
  refine gcalls_in (pl := pl127) [.tmp 6] mixed Tryz.func127 rfl rfl (by exact ok127) ?_
  simp only [go_sem, Nat.reduceBEq, Array.reduceGetElem?, ↓reduceIte, pl127, u1.l, u2.l, k1, k2, l1, l2]
  refine callK_intro (c_compare hP hp s1 s2 hl hl2 ha hb f hd) ?_
  rintro _ h1 ⟨hle1, rfl⟩
  simp only [go_sem, Array.reduceGetElem?]
  exact hle1
theorem Own.appI {h0 h : GH} {v : Value} {l : List Int} {o : Option Nat} (s : Own h0 h v 1 (ints l) o) (hle : h0.le h) (hlen : l.length ≤ 1000) (x : Int) :
    ∃ v' h' o', gAppend Tryz.prog 28 28 v (.slice (some ⟨h.n, 0, none⟩) 1 1) (h.alloc ⟨[.int .i64 x], true, false⟩) = some (v', h') ∧ h0.le h' ∧ Own h0 h' v' 1 (ints (l ++ [x])) o' := by
  have w' := s.mono (GH.le_alloc h ⟨[.int .i64 x], true, false⟩)
  obtain ⟨h', e1, e2, e3, e4, e5⟩ := w'.append (P := Tryz.prog) (t := 28) (x := [.int .i64 x]) (c2 := 1) ty_sk28 ty_tk3 ty_zk3 rfl ty_ce3 (by decide) (ints_one l) rfl alloc_load1 rfl (by rw [ints_length]; omega) (by rw [ty_be3]; decide) (Nat.le_succ_of_le hle.1)
  have hi : ints (l ++ [x]) = ints l ++ [[Value.int .i64 x]] := by simp [ints]
  rw [ints_length] at e1
  refine ⟨_, h', _, e1, ⟨by rw [e2]; exact Nat.le_succ_of_le (Nat.le_succ_of_le hle.1), fun k hk => ?_⟩, by rw [hi]; rw [ints_length] at e5; exact e5⟩
  have hkn : k < h.n := Nat.lt_of_lt_of_le hk hle.1
  rw [e4 k (Nat.lt_succ_of_lt hkn) ?_, alloc_b_lt _ _ hkn, hle.2 k hk]
  intro hh
  subst hh
  rcases s with ⟨_, _, h⟩ | ⟨g', h, _, h2, _⟩
  · cases h
  · injection h with h; omega
def rng (n : Nat) : List Int := (List.range n).map fun i : Nat => (i : Int)
theorem rng_succ (n : Nat) : rng (n + 1) = rng n ++ [(n : Int)] := by simp [rng, List.range_succ]
theorem rng_len (n : Nat) : (rng n).length = n := by simp [rng]
/-- a row of ints, or nil -/
def InO (h : GH) (v : Value) (I : List Int) : Prop := (I = [] ∧ v = .slice none 0 0) ∨ ∃ g c, v = .slice (some ⟨g, 0, none⟩) I.length c ∧ SlAt h g 0 c 1 (ints I)
theorem InO.mono {h h' : GH} {v : Value} {I : List Int} (s : InO h v I) (hl : h.le h') : InO h' v I := by
  rcases s with s | ⟨g, c, e, s⟩
  · exact .inl s
  · exact .inr ⟨g, c, e, s.mono hl⟩
structure SoOk (p : List Int) (L : List (List Rat)) : Prop where
  len : L.length < 20
  nd : L.Nodup
  sm : ∀ a ∈ L, a.length = p.length ∧ SmL a
  pair : ∀ a ∈ L, ∀ b ∈ L, a ≠ b → Fit 9999999 p (subL a b) ∧ Dec p (subL a b)
  anti : ∀ a ∈ L, ∀ b ∈ L, a ≠ b → ¬ sgn p (subL a b) < 0 → sgn p (subL b a) < 0
theorem rng_map (L : List (List Rat)) : (rng L.length).map (fun i => L[i.toNat]?.getD []) = L := by
  apply List.ext_getElem?
  intro i
  rw [List.getElem?_map, rng, List.getElem?_map]
  rcases Nat.lt_or_ge i L.length with h | h
  · rw [List.getElem?_range h, List.getElem?_eq_getElem h]
    simp [h]
  · rw [List.getElem?_eq_none (by simp; exact h), List.getElem?_eq_none h]; rfl
theorem c_Sort {h : GH} {pv lv : Value} {p : List Int} {L : List (List Rat)} (hP : Pr p) (hp : PrAt h pv p) (s : LsE h lv L) (k : SoOk p L) :
    ∃ r h', GCalls Tryz.prog gE 96 #[pv, lv] h r h' ∧ h.le h' ∧ ∃ ov I, r = .tuple #[ov, .int .i64 0] ∧ InO h' ov I ∧ (∀ i ∈ I, 0 ≤ i ∧ i < L.length) ∧ (I.map fun i => L[i.toNat]?.getD []).Perm L ∧ ∀ k, Adj (fun a b => sgn p (subL a b)) (I.map fun i => L[i.toNat]?.getD []) k := by
  obtain ⟨pg, po, pc, rfl, hp'⟩ := id hp
  obtain ⟨lp, lc', rfl, hlf⟩ := s.form
  have hlen := k.len
  obtain ⟨H, hH⟩ : ∃ H, (h.alloc ⟨[.slice (some ⟨pg, po, none⟩) p.length pc], true, false⟩).alloc ⟨[.slice lp L.length lc'], true, false⟩ = H := ⟨_, rfl⟩
  have u1 : Uno H h.n (.slice (some ⟨pg, po, none⟩) p.length pc) := by rw [← hH]; exact (Uno.new _ _).mono (GH.le_alloc _ _)
  have u2 : Uno H (h.n + 1) (.slice lp L.length lc') := by rw [← hH]; exact Uno.new _ _
  have hle0 : h.le H := by rw [← hH]; exact (GH.le_alloc _ _).trans (GH.le_alloc _ _)
  have hHn : H.n = h.n + 2 := by rw [← hH]; rfl
  refine gcalls_in (pl := noPl) [.tmp 4, .tmp 5] mixed Tryz.func96 rfl rfl (by exact ok96) ?_
  simp only [go_sem, Nat.reduceBEq, ↓reduceIte, hH, u1.l, u2.l]
  refine callK_intro (c_CheckAllE hP (hp.mono hle0) (s.mono hle0) (by omega) k.sm) ?_
  rintro _ h1 ⟨hle1, rfl⟩
  have v1 := u1.mono hle1
  have v2 := u2.mono hle1
  simp only [go_sem, Nat.reduceBEq, Int.reduceNe, v2.l]
  refine loopK_inv (α := Nat) (fun i => L.length - i) (fun i ts g' => ts 2 = .pointer (some ⟨h.n, 0, none⟩) ∧ ts 3 = .pointer (some ⟨h.n + 1, 0, none⟩) ∧ ts 16 = .int .i64 L.length ∧ ts 17 = .int .i64 i ∧ i ≤ L.length ∧ h1.le g' ∧ ∃ o, Own h1 g' (ts 7) 1 (ints (rng i)) o) ?_ (a0 := 0) ?_
  · rintro i ts g' ⟨t2, t3, t16, t17, hi, hle, o, w⟩
    simp only [go_sem, t16, t17]
    refine ifK_intro (fun c1 => ?_) (fun c1 => ?_)
    · have c1' := of_decide_eq_true c1
      have wi : IntKind.i64.wrap ((i : Int) + 1) = ((i + 1 : Nat) : Int) := wrap_i64 (by omega) (by omega)
      obtain ⟨v', h', o', e1, e2, e3⟩ := w.appI hle (by rw [rng_len]; omega) (i : Int)
      simp only [go_sem, Nat.reduceBEq, Nat.reduceLeDiff, Nat.reduceLT, ↓reduceIte, t2, t3, t16, t17, e1, wi]
      exact ⟨i + 1, by omega, rfl, by omega, e2, o', by rw [rng_succ]; exact e3⟩
    · have c1' := of_decide_eq_false c1
      obtain rfl : i = L.length := by omega
      rcases w with ⟨w1, w2, w3⟩ | ⟨g, rfl, w2, w3, w4, w5, w6⟩
      · have hz : L.length = 0 := by rw [← rng_len L.length, ← ints_length, w2]; rfl
        have hz2 : L = [] := List.length_eq_zero_iff.1 hz
        subst hz2
        simp only [go_sem, Nat.reduceBEq, Int.reduceLT, t2, t3, w1, List.map_toArray, List.map_cons, List.map_nil]
        have hS : ∃ r h', GCalls Tryz.prog gE 126 #[.slice none 0 0, .func (.func 127) #[] #[.pointer (some ⟨h.n, 0, none⟩), .pointer (some ⟨h.n + 1, 0, none⟩)]] g' r h' ∧ g'.le h' := by
          refine gcalls_in (pl := noPl) [] mixed Tryz.func126 rfl rfl (by exact ok126) ?_
          simp only [go_sem, Nat.reduceBEq]
          have hT : ∃ r h', GCalls Tryz.prog gE 173 #[.slice none 0 0, .int .i64 0, .func (.func 127) #[] #[.pointer (some ⟨h.n, 0, none⟩), .pointer (some ⟨h.n + 1, 0, none⟩)]] g' r h' ∧ g'.le h' := by
            refine gcalls_in (pl := noPl) [] mixed Tryz.func173 rfl rfl (by exact ok173) ?_
            simp only [go_sem, Nat.reduceBEq]
            refine loopK_unroll ?_
            simp only [go_sem, Nat.reduceBEq, Int.reduceLE]
            have hU : ∃ r h', GCalls Tryz.prog gE 206 #[.slice none 0 0, .int .i64 0, .int .i64 0, .func (.func 127) #[] #[.pointer (some ⟨h.n, 0, none⟩), .pointer (some ⟨h.n + 1, 0, none⟩)]] g' r h' ∧ g'.le h' := by
              have w1 : IntKind.i64.wrap (0 + 1) = 1 := by decide
              refine gcalls_in (pl := pl206) [] mixed Tryz.func206 rfl rfl (by exact ok206) ?_
              simp only [go_sem, Int.reduceAdd]
              refine loopK_unroll ?_
              simp only [go_sem, Nat.reduceBEq]
              exact GH.le.refl _
            refine callK_intro hU ?_
            rintro r2 h2 hle2
            simp only [go_sem]
            refine loopK_unroll ?_
            simp only [go_sem, Nat.reduceBEq, Int.reduceLT]
            exact hle2
          refine callK_intro hT ?_
          rintro r2 h2 hle2
          simp only [go_sem]
          exact hle2
        refine callK_intro hS ?_
        rintro r2 h2 hle2
        simp only [go_sem, Nat.reduceBEq, Int.reduceLT, w1]
        exact ⟨((hle0.trans hle1).trans hle).trans hle2, _, [], rfl, .inl ⟨rfl, rfl⟩, by simp, by simp, fun k a b ha => by simp at ha⟩
      · rw [ints_length, rng_len] at w2 w6
        simp only [go_sem, Nat.reduceBEq, t2, t3, c1, w2, List.map_toArray, List.map_cons, List.map_nil]
        have hrow : RowI g' g (rng L.length) := ⟨w4, w5⟩
        have hnd : (rng L.length).Nodup := by
          have hn := List.nodup_range (n := L.length)
          exact List.Pairwise.map _ (fun a b (hab : a ≠ b) => by omega) hn
        have hat : ∀ i ∈ rng L.length, ∃ (n : Nat) (a : List Rat), i = n ∧ L[n]? = some a ∧ a ∈ L ∧ L[i.toNat]?.getD [] = a := by
          intro i hi
          obtain ⟨n, hn, rfl⟩ := List.mem_map.1 hi
          rw [List.mem_range] at hn
          refine ⟨n, L[n], rfl, List.getElem?_eq_getElem hn, List.getElem_mem hn, ?_⟩
          rw [Int.toNat_natCast, List.getElem?_eq_getElem hn]; rfl
        have hne : ∀ {i j : Nat} {a b : List Rat}, L[i]? = some a → L[j]? = some b → (i : Int) ≠ j → a ≠ b := by
          rintro i j a b hi hj hij rfl
          obtain ⟨i1, i2⟩ := List.getElem?_eq_some_iff.1 hi
          obtain ⟨j1, j2⟩ := List.getElem?_eq_some_iff.1 hj
          exact hij (congrArg _ ((List.getElem_inj k.nd).1 (i2.trans j2.symm)))
        have hst := c_sortStable (H0 := h1) (c := unk + 1) (K := 127) (cw := (.pointer (some ⟨h.n, 0, none⟩), .pointer (some ⟨h.n + 1, 0, none⟩))) (cmpI p L) hle w3 hrow (by rw [rng_len]; exact w6) (by rw [rng_len]; exact hlen) hnd (fun i hi j hj hij h0 => by
          obtain ⟨n, a, rfl, ha, ham, ea⟩ := hat i hi
          obtain ⟨m, b, rfl, hb, hbm, eb⟩ := hat j hj
          rw [cmpI, ea, eb] at h0
          rw [cmpI, ea, eb]
          exact k.anti a ham b hbm (hne ha hb hij) h0) (fun i hi j hj hij h2 hle2 => by
          obtain ⟨n, a, rfl, ha, ham, ea⟩ := hat i hi
          obtain ⟨m, b, rfl, hb, hbm, eb⟩ := hat j hj
          rw [cmpI, ea, eb]
          obtain ⟨f, d⟩ := k.pair a ham b hbm (hne ha hb hij)
          exact c_sort1 hP (v1.mono hle2) (v2.mono hle2) (((hp.mono hle0).mono hle1).mono hle2) (((s.mono hle0).mono hle1).mono hle2) ha hb (by omega) (k.sm a ham).1 (k.sm b hbm).1 (k.sm a ham).2 (k.sm b hbm).2 f d)
        rw [rng_len] at hst
        refine callK_intro hst ?_
        rintro r2 h2 ⟨hle2, _, I, q1, q2, q3⟩
        simp only [go_sem, Nat.reduceBEq, w2]
        have hI : I.length = L.length := by rw [q1.length_eq, rng_len]
        refine ⟨(hle0.trans hle1).trans hle2, _, I, rfl, .inr ⟨g, unk + 1, by rw [hI], row_at q3.1 q3.2 (ints_one I) ⟨by rw [ints_length]; simp only [unk]; omega, fun _ => .inr rfl⟩⟩, fun i hi => ?_, ?_, fun t a b ha hb => ?_⟩
        · obtain ⟨n, hn, rfl⟩ := List.mem_map.1 (q1.mem_iff.1 hi)
          rw [List.mem_range] at hn
          omega
        · have := q1.map (fun i : Int => L[i.toNat]?.getD [])
          rwa [rng_map] at this
        · rw [List.getElem?_map] at ha hb
          obtain ⟨i, hi, rfl⟩ := Option.map_eq_some_iff.1 ha
          obtain ⟨j, hj, rfl⟩ := Option.map_eq_some_iff.1 hb
          exact q2 t i j hi hj
  · simp only [go_sem, Nat.reduceBEq]
    exact ⟨Nat.zero_le _, GH.le.refl _, none, Own.nil _ _ _⟩
end Go.Proofs.Gh
namespace Go.Proofs.Gh
open Go Go.Proofs Go.Proofs.Zz
set_option maxRecDepth 10000
set_option linter.unusedSimpArgs false
/-- the notes that the program collects, before they are sorted -/
def colS (p : List Int) (l : List (List Rat)) : List (List Rat) := l.foldl (fun N x => if redQ p x ≠ zeroL p.length ∧ redQ p x ∉ N then N ++ [redQ p x] else N) []
theorem colS_snoc (p : List Int) (l : List (List Rat)) (x : List Rat) : colS p (l ++ [x]) = if redQ p x ≠ zeroL p.length ∧ redQ p x ∉ colS p l then colS p l ++ [redQ p x] else colS p l := by unfold colS; rw [List.foldl_append]; rfl
theorem colS_pre (p : List Int) (l : List (List Rat)) (i : Nat) : ∃ t, colS p l = colS p (l.take i) ++ t := by
  have key : ∀ (m k : List (List Rat)), ∃ t, colS p (m ++ k) = colS p m ++ t := by
    intro m k
    induction k generalizing m with
    | nil => exact ⟨[], by simp⟩
    | cons x k ih =>
      obtain ⟨t, ht⟩ := ih (m ++ [x])
      rw [List.append_assoc, List.singleton_append] at ht
      rw [ht, colS_snoc]
      split
      · exact ⟨redQ p x :: t, by simp⟩
      · exact ⟨t, rfl⟩
  have := key (l.take i) (l.drop i)
  rwa [List.take_append_drop] at this
theorem colS_len (p : List Int) (l : List (List Rat)) : (colS p l).length ≤ l.length := by
  refine snoc_ind (P := fun l => (colS p l).length ≤ l.length) ?_ ?_ l
  · simp [colS]
  · intro l x ih
    rw [colS_snoc]
    split <;> simp <;> omega
theorem c_scCol1 {h : GH} {yv rv' : Value} {a b : List Rat} {bx : Nat} (u : Uno h bx rv') (s : SzAt h rv' a) (t : SzAt h yv b) (hlen : a.length ≤ 1000) :
    ∃ r h', GCalls Tryz.prog gE 95 #[yv, .pointer (some ⟨bx, 0, none⟩)] h r h' ∧ h.le h' ∧ r = .bool (decide (a = b)) := by
  obtain ⟨g, o, c, rfl, s'⟩ := id s
  obtain ⟨tg, to, tc, rfl, t'⟩ := id t
  refine gcalls_in (pl := noPl) [.tmp 3] mixed Tryz.func95 rfl rfl (by exact ok95) ?_
  simp only [go_sem, Nat.reduceBEq, u.l]
  refine callK_intro (c_Equal s t hlen) ?_
  rintro _ h1 ⟨hle1, rfl⟩
  simp only [go_sem]
  exact hle1
theorem c_scCollect {h : GH} {pv ov lv : Value} {p : List Int} {l : List (List Rat)} (hP : Pr p) (hp : PrAt h pv p) (ho : SzAt h ov (oct p.length)) (hl : LsE h lv l) (hlen : l.length ≤ 10000) (hx : ∀ x ∈ l, x.length = p.length ∧ FlOk p x ∧ SmL (redQ p x)) (k : SoOk p (colS p l)) :
    ∃ r h', GCalls Tryz.prog gE 54 #[pv, ov, lv] h r h' ∧ h.le h' ∧ ∃ sv N, r = .tuple #[sv, .int .i64 0] ∧ N.Perm (colS p l) ∧ (∀ k, Adj (fun a b => sgn p (subL a b)) N k) ∧ ScAt h' sv p (N ++ [oct p.length]) := by
  obtain ⟨pg, po, pc, rfl, hp'⟩ := id hp
  obtain ⟨og, oo, oc, rfl, ho'⟩ := id ho
  obtain ⟨lp, lc', rfl, hlf⟩ := hl.form
  have hpl := hP.len
  obtain ⟨H, hH⟩ : ∃ H, h.alloc ⟨[.slice none 0 0, .slice none 0 0], true, false⟩ = H := ⟨_, rfl⟩
  have dH : Duo H h.n (.slice none 0 0) (.slice none 0 0) := by rw [← hH]; exact Duo.new _ _ _
  have hle0 : h.le H := by rw [← hH]; exact GH.le_alloc _ _
  have hHn : H.n = h.n + 1 := by rw [← hH]; rfl
  refine gcalls_in (pl := pl54) [.cell 6 36, .tmp 7] mixed Tryz.func54 rfl rfl (by exact ok54) ?_
  simp only [go_sem, Nat.reduceBEq, hH]
  refine callK_intro (c_Zero hP (hp.mono hle0)) ?_
  rintro _ h1 ⟨hle1, zv, rfl, hz⟩
  obtain ⟨zg, zo, zc, rfl, _⟩ := id hz
  have hle01 := hle0.trans hle1
  simp only [go_sem, Nat.reduceBEq, Array.reduceGetElem?]
  refine loopK_inv (α := Nat) (fun i => l.length - i) (fun i ts g' => ts 0 = .slice (some ⟨pg, po, none⟩) p.length pc ∧ ts 1 = .slice (some ⟨og, oo, none⟩) (oct p.length).length oc ∧ ts 6 = .pointer (some ⟨h.n, 0, none⟩) ∧ ts 8 = .slice (some ⟨zg, zo, none⟩) (zeroL p.length).length zc ∧ ts 26 = .slice lp l.length lc' ∧ ts 27 = .int .i64 l.length ∧ ts 28 = .int .i64 i ∧ i ≤ l.length ∧ h1.le g' ∧ ∃ o, LsO h1 g' (ts 10) (colS p (l.take i)) o) ?_ (a0 := 0) ?_
  · rintro i ts g' ⟨t0, t1, t6, t8, t26, t27, t28, hi, hle, o, hN⟩
    obtain ⟨np, nc, en⟩ := hN.form
    simp only [go_sem, t27, t28]
    refine ifK_intro (fun c1 => ?_) (fun c1 => ?_)
    · have c1' := of_decide_eq_true c1
      obtain ⟨x, hxx⟩ : ∃ q, l[i]? = some q := ⟨_, List.getElem?_eq_getElem (by omega)⟩
      obtain ⟨hxl, hfx, hrx⟩ := hx x (List.mem_of_getElem? hxx)
      obtain ⟨lg, lo, xv, rfl, l1, sx, _⟩ := hlf i x hxx
      have l1 := load_mono (hle01.trans hle) l1
      have wi : IntKind.i64.wrap ((i : Int) + 1) = ((i + 1 : Nat) : Int) := wrap_i64 (by omega) (by omega)
      have hrl : (redQ p x).length = x.length := redQ_length (by omega)
      have hrne : redQ p x ≠ [] := by rw [← List.length_pos_iff]; omega
      simp only [go_sem, Nat.reduceBEq, ↓reduceIte, t0, t1, t26, t28, c1', l1]
      refine callK_intro (c_reduce hP ((hp.mono hle01).mono hle) ((sx.mono hle01).mono hle) ((ho.mono hle01).mono hle) hfx hrx) ?_
      rintro _ h2 ⟨hle2, rv2, rfl, hrv⟩
      obtain ⟨rg, ro, rcc, rfl, hr'⟩ := id hrv
      have u3 := Uno.new h2 (.slice (some ⟨rg, ro, none⟩) (redQ p x).length rcc)
      have le3 := GH.le_alloc h2 ⟨[.slice (some ⟨rg, ro, none⟩) (redQ p x).length rcc], true, false⟩
      simp only [go_sem, Nat.reduceBEq, Int.reduceNe, Array.reduceGetElem?, ↓reduceIte, t8, alloc_store1s, u3.l]
      have hrm := hrv.mono le3
      have hzm := (((hz.mono hle).mono hle2).mono le3)
      refine callK_intro (c_Equal hrm hzm (by omega)) ?_
      rintro _ h5 ⟨hle5, rfl⟩
      have u5 := u3.mono hle5
      have hleB : g'.le h5 := (hle2.trans le3).trans hle5
      have hN5 := hN.mono hleB
      have esn : colS p (l.take (i + 1)) = if redQ p x ≠ zeroL p.length ∧ redQ p x ∉ colS p (l.take i) then colS p (l.take i) ++ [redQ p x] else colS p (l.take i) := by
        rw [List.take_add_one, hxx]; exact colS_snoc p _ x
      have hcl := colS_len p (l.take i)
      have htl : (l.take i).length ≤ 10000 := by rw [List.length_take]; omega
      have hklen := k.len
      have hcl2 : (colS p (l.take i)).length < 20 := by
        obtain ⟨t, ht⟩ := colS_pre p l i
        rw [ht, List.length_append] at hklen
        omega
      by_cases hzz : redQ p x = zeroL p.length
      · simp only [go_sem, Nat.reduceBEq, Array.reduceGetElem?, ↓reduceIte, decide_eq_true hzz, t0, t1, t6, t8, t26, t27, t28, wi]
        exact ⟨i + 1, by omega, rfl, by omega, hle.trans hleB, o, by rw [esn, if_neg (fun hh => hh.1 hzz)]; exact hN5⟩
      · simp only [go_sem, Nat.reduceBEq, Array.reduceGetElem?, decide_eq_false hzz, List.map_toArray, List.map_cons, List.map_nil]
        refine callK_intro (c_contLs (a := redQ p x) 95 (hN5.lsE (by omega)) (by omega) (fun b hb yv h6 hle6 sy => c_scCol1 (u5.mono hle6) ((hrm.mono hle5).mono hle6) sy (by omega))) ?_
        rintro _ h6 ⟨hle6, rfl⟩
        have u6 := u5.mono hle6
        by_cases hm : redQ p x ∈ colS p (l.take i)
        · simp only [go_sem, Nat.reduceBEq, Array.reduceGetElem?, ↓reduceIte, decide_eq_true hm, t0, t1, t6, t8, t26, t27, t28, wi]
          exact ⟨i + 1, by omega, rfl, by omega, (hle.trans hleB).trans hle6, o, by rw [esn, if_neg (fun hh => hh.2 hm)]; exact hN5.mono hle6⟩
        · simp only [go_sem, Nat.reduceBEq, Nat.reduceLeDiff, Nat.reduceLT, Array.reduceGetElem?, ↓reduceIte, decide_eq_false hm, u6.l]
          have hN6 := hN5.mono hle6
          obtain ⟨v', h', o2, e1, e2, e3, e4⟩ := hN6.app ((hle.trans hleB).trans hle6) (by omega) (((hrm.mono hle5).mono hle6).n hrne hN6.cells)
          simp only [go_sem, Nat.reduceBEq, t0, t1, t6, t8, t26, t27, t28, wi, e1]
          exact ⟨i + 1, by omega, rfl, by omega, e2, o2, by rw [esn, if_pos ⟨hzz, hm⟩]; exact e3⟩
    · have c1' := of_decide_eq_false c1
      obtain rfl : i = l.length := by omega
      rw [List.take_length] at hN en
      have hklen := k.len
      have k60 : ¬ (60 : Int) ≤ (colS p l).length := by omega
      simp only [go_sem, Nat.reduceBEq, t0, c1, en, k60]
      have hNE := hN.lsE (by omega)
      rw [en] at hNE
      have hle1' := hle01.trans hle
      refine callK_intro (c_Sort hP (hp.mono hle1') hNE k) ?_
      rintro _ h2 ⟨hle2, iv, I, rfl, hI, hIb, hIp, hIs⟩
      have hIl : I.length = (colS p l).length := by rw [← List.length_map (f := fun i : Int => (colS p l)[i.toNat]?.getD []), hIp.length_eq]
      have hIv : ∃ ip ic, iv = .slice ip I.length ic := by
        rcases hI with ⟨rfl, rfl⟩ | ⟨g, c, rfl, _⟩
        · exact ⟨_, _, rfl⟩
        · exact ⟨_, _, rfl⟩
      obtain ⟨ip, ic, rfl⟩ := hIv
      simp only [go_sem, Nat.reduceBEq, Int.reduceNe, Array.reduceGetElem?, t0]
      refine callK_intro (c_clonePrimes ((hp.mono hle1').mono hle2) hP.ne (by omega)) ?_
      rintro cv h3 ⟨hle3, hcv⟩
      obtain ⟨cg, co, cc, rfl, hcs⟩ := id hcv
      have hle03 := (hle1'.trans hle2).trans hle3
      obtain ⟨G, hG⟩ : ∃ G, h3.alloc ⟨[.slice (some ⟨cg, co, none⟩) p.length cc, .slice none 0 0], true, false⟩ = G := ⟨_, rfl⟩
      have dG : Duo G h3.n (.slice (some ⟨cg, co, none⟩) p.length cc) (.slice none 0 0) := by rw [← hG]; exact Duo.new _ _ _
      have hleG : h3.le G := by rw [← hG]; exact GH.le_alloc _ _
      have hGn : G.n = h3.n + 1 := by rw [← hG]; rfl
      have dB3 := (((dH.mono hle1).mono hle).mono hle2).mono hle3
      have hNE3 := (hNE.mono hle2).mono hle3
      have hI3 := hI.mono hle3
      generalize hF : (fun i : Int => (colS p l)[i.toNat]?.getD []) = f at hIp hIs
      have hfm : ∀ i ∈ I, f i ∈ colS p l := fun i hi => hIp.mem_iff.1 (List.mem_map_of_mem hi)
      have hne : ∀ a ∈ colS p l, a ≠ [] := fun a ha => by rw [← List.length_pos_iff, (k.sm a ha).1]; omega
      have htne : ∀ i, ∀ a ∈ (I.map f).take i, a ≠ [] := fun i a ha => hne a (hIp.mem_iff.1 (List.mem_of_mem_take ha))
      simp only [go_sem, Nat.reduceBEq, Nat.reduceAdd, Nat.reduceLeDiff, ↓reduceIte, alloc_store2s (h := h3) (a := .slice none 0 0) (b := .slice none 0 0) (v := .slice (some ⟨cg, co, none⟩) p.length cc) (w := .slice none 0 0) rfl rfl, hG]
      refine loopK_inv (α := Nat) (fun i => I.length - i) (fun i ts g' => ts 1 = .slice (some ⟨og, oo, none⟩) (oct p.length).length oc ∧ ts 6 = .pointer (some ⟨h.n, 0, none⟩) ∧ ts 10 = .slice np (colS p l).length nc ∧ ts 18 = .pointer (some ⟨h3.n, 0, none⟩) ∧ ts 76 = .slice ip I.length ic ∧ ts 77 = .int .i64 I.length ∧ ts 78 = .int .i64 i ∧ i ≤ I.length ∧ h3.le g' ∧ G.n ≤ g'.n ∧ ∃ v o, Duo g' h3.n (.slice (some ⟨cg, co, none⟩) p.length cc) v ∧ LsO G g' v ((I.map f).take i) o) ?_ (a0 := 0) ?_
      · clear t0 t1 t6 t8 t26 t27 t28
        rintro i ts g' ⟨t1, t6, t10, t18, t76, t77, t78, hi, hle', hGg, v, o', dv, hv⟩
        obtain ⟨vp, vc, rfl⟩ := hv.form
        simp only [go_sem, t77, t78]
        refine ifK_intro (fun c3 => ?_) (fun c3 => ?_)
        · have c3' := of_decide_eq_true c3
          obtain ⟨z, hzi⟩ : ∃ z, I[i]? = some z := ⟨_, List.getElem?_eq_getElem (by omega)⟩
          have hzm := List.mem_of_getElem? hzi
          have hzb := hIb z hzm
          obtain ⟨m, rfl⟩ : ∃ m : Nat, z = m := ⟨z.toNat, by omega⟩
          obtain ⟨ig, rfl, hil⟩ : ∃ ig, ip = some ⟨ig, 0, none⟩ ∧ g'.load ig i 1 = some [.int .i64 (m : Int)] := by
            rcases hI3 with ⟨rfl, _⟩ | ⟨g, c, e, sI⟩
            · simp at hzi
            · injection e with e1 e2 e3
              have := (sI.mono hle').load (ints_get hzi)
              rw [Nat.mul_one, Nat.zero_add] at this
              exact ⟨g, e1, this⟩
          obtain ⟨a, ha⟩ : ∃ a, (colS p l)[m]? = some a := ⟨_, List.getElem?_eq_getElem (by omega)⟩
          have hfa : f m = a := by rw [← hF]; show (colS p l)[((m : Nat) : Int).toNat]?.getD [] = a; rw [Int.toNat_natCast, ha]; rfl
          obtain ⟨_, nc', en', hnf⟩ := hNE3.form
          injection en' with en1 en2 en3
          subst en1
          obtain ⟨ng, no, x, rfl, hnl, hns, hx1⟩ := hnf m a ha
          have hnl := load_mono hle' hnl
          have hns := hns.mono hle'
          have hmb : (m : Int) < (colS p l).length := by omega
          have wi : IntKind.i64.wrap ((i : Int) + 1) = ((i + 1 : Nat) : Int) := wrap_i64 (by omega) (by omega)
          obtain ⟨xg, xo, xc, rfl, _⟩ := id hns
          obtain ⟨v', h8, o2, ap, hv8, hX8⟩ := hv.app' hGg (by rw [List.length_take, List.length_map]; omega) (hns.n (hne a (List.mem_of_getElem? ha)) hv.cells)
          obtain ⟨vp', vc', rfl⟩ := hv8.form
          have ho7 := hv.lt
          have dv8 := dv.leX hX8 (fun e => by have := ho7 _ e.symm; omega)
          have st8 := dv8.s1 (v := .slice vp' ((I.map f).take i ++ [a]).length vc') rfl
          simp only [go_sem, Nat.reduceBEq, Nat.reduceLeDiff, Nat.reduceLT, Array.reduceGetElem?, ↓reduceIte, t1, t6, t10, t18, t76, t77, t78, c3', hil, hmb, hnl, dv.l1, ap, st8, wi, pl54]
          have hle9 : h3.le (h8.upd h3.n ⟨[.slice (some ⟨cg, co, none⟩) p.length cc, .slice vp' ((I.map f).take i ++ [a]).length vc'], true, false⟩) :=
            (leX.le hX8 hle' (fun g hg => by have := ho7 g hg; omega)).upd (Nat.le_refl _) _
          have hsl : (I.map f).take (i + 1) = (I.map f).take i ++ [a] := by
            rw [List.take_add_one, List.getElem?_map, hzi, Option.map_some, hfa]; rfl
          refine ⟨i + 1, by omega, rfl, by omega, hle9, ?_, _, o2, Duo.up dv8.lt, ?_⟩
          · show G.n ≤ h8.n
            have := hX8.1; omega
          · rw [hsl]
            exact hv8.up (fun x hx => htne (i + 1) x (by rw [hsl]; exact hx)) dv8.cells (by omega) _
        · have c3' := of_decide_eq_false c3
          obtain rfl : i = I.length := by omega
          rw [show (I.map f).take I.length = I.map f from List.take_of_length_le (by simp)] at hv dv
          simp only [go_sem, Nat.reduceBEq, Array.reduceGetElem?, t1, t18, c3, dv.l1, pl54]
          refine callK_intro (c_cloneSize ((ho.mono hle03).mono hle') (by rw [← List.length_pos_iff, oct_length (by omega)]; omega) (by rw [oct_length (by omega)]; omega)) ?_
          rintro pv' h6 ⟨hle6, hpv'⟩
          obtain ⟨xg, xo, xc, rfl, _⟩ := id hpv'
          have hv6 := hv.mono hle6
          have dv6 := dv.mono hle6
          obtain ⟨v', h8, o2, ap, hv8, hX8⟩ := hv6.app' (Nat.le_trans hGg hle6.1) (by simp; omega) (hpv'.at.n (by rw [← List.length_pos_iff, oct_length (by omega)]; omega) hv6.cells)
          obtain ⟨vp', vc', rfl⟩ := hv8.form
          have ho7 := hv6.lt
          have dv8 := dv6.leX hX8 (fun e => by have := ho7 _ e.symm; omega)
          have st8 := dv8.s1 (v := .slice vp' (I.map f ++ [oct p.length]).length vc') rfl
          have dv9 : Duo (h8.upd h3.n ⟨[.slice (some ⟨cg, co, none⟩) p.length cc, .slice vp' (I.map f ++ [oct p.length]).length vc'], true, false⟩) h3.n (.slice (some ⟨cg, co, none⟩) p.length cc) (.slice vp' (I.map f ++ [oct p.length]).length vc') := Duo.up dv8.lt
          have hle9 : h3.le (h8.upd h3.n ⟨[.slice (some ⟨cg, co, none⟩) p.length cc, .slice vp' (I.map f ++ [oct p.length]).length vc'], true, false⟩) :=
            (leX.le hX8 (hle'.trans hle6) (fun g hg => by have := ho7 g hg; omega)).upd (Nat.le_refl _) _
          have dB9 := dB3.mono hle9
          have hst9 := dB9.s2 (v := .slice (some ⟨cg, co, none⟩) p.length cc) (w := .slice vp' (I.map f ++ [oct p.length]).length vc') rfl rfl
          have dd9 := Duo.up (v := .slice (some ⟨cg, co, none⟩) p.length cc) (w := .slice vp' (I.map f ++ [oct p.length]).length vc') dB9.lt
          simp only [go_sem, Nat.reduceBEq, Nat.reduceAdd, Nat.reduceLeDiff, Nat.reduceLT, Array.reduceGetElem?, ↓reduceIte, t6, t18, dv6.l1, ap, st8, dv9.l2, hst9, dd9.l2]
          have hane : ∀ a ∈ I.map f ++ [oct p.length], a ≠ [] := by
            intro a ha
            rcases List.mem_append.1 ha with ha | ha
            · exact hne a (hIp.mem_iff.1 ha)
            · rw [List.mem_singleton] at ha
              rw [← List.length_pos_iff, ha, oct_length (by omega)]; omega
          have hv9 := hv8.up hane dv8.cells (by omega) ⟨[.slice (some ⟨cg, co, none⟩) p.length cc, .slice vp' (I.map f ++ [oct p.length]).length vc'], true, false⟩
          refine ⟨(hle03.trans hle9).upd (by omega) _, _, I.map f, rfl, hIp, hIs, ?_⟩
          exact ScAt.upd ⟨_, _, rfl, hcv.mono hle9, hv9.ls (by simp) (by simp; omega)⟩ dB9 hP.ne (by simp) hane
      · simp only [go_sem, Nat.reduceBEq, t1, t6, en]
        exact ⟨Nat.zero_le _, hleG, _, none, dG, LsO.nil _ _⟩
  · simp only [go_sem, Nat.reduceBEq]
    exact ⟨Nat.zero_le _, GH.le.refl _, none, LsO.nil _ _⟩
end Go.Proofs.Gh
namespace Go.Proofs.Gh
open Go Go.Proofs Go.Proofs.Zz
set_option maxRecDepth 10000
set_option linter.unusedSimpArgs false
theorem c_Chain {h : GH} {pv ov gv : Value} {p : List Int} {a : List Rat} {k0 : Int} {n : Nat} (hP : Pr p) (hp : PrAt h pv p) (ho : SzAt h ov (oct p.length)) (hg : SzAt h gv a) (hal : a.length = p.length) (ha : SmL a) (h0 : -1000 ≤ k0 ∧ k0 ≤ 0) (hn : 1 ≤ k0 + n ∧ k0 + n ≤ 1001)
    (hs : ∀ i : Nat, i < n → SmL (scaleL a (((k0 + (i : Int) : Int) : Rat)))) (hx : ∀ x ∈ mulL a k0 n, FlOk p x ∧ SmL (redQ p x)) (k : SoOk p (colS p (mulL a k0 n))) :
    ∃ r h', GCalls Tryz.prog gE 13 #[.agg #[pv, ov, gv, .int .i64 k0, .int .i64 (k0 + n - 1)]] h r h' ∧ h.le h' ∧ ∃ sv N, r = .tuple #[sv, .int .i64 0] ∧ N.Perm (colS p (mulL a k0 n)) ∧ (∀ k, Adj (fun a b => sgn p (subL a b)) N k) ∧ ScAt h' sv p (N ++ [oct p.length]) := by
  obtain ⟨pg, po, pc, rfl, hp'⟩ := id hp
  obtain ⟨og, oo, oc, rfl, ho'⟩ := id ho
  obtain ⟨gg, go, gc, rfl, hg'⟩ := id hg
  have hpl := hP.len
  obtain ⟨H, hH⟩ : ∃ H, (h.alloc ⟨[.slice (some ⟨pg, po, none⟩) p.length pc, .slice (some ⟨og, oo, none⟩) (oct p.length).length oc, .slice (some ⟨gg, go, none⟩) a.length gc, .int .i64 k0, .int .i64 (k0 + n - 1)], true, false⟩).alloc ⟨[.slice none 0 0, .slice none 0 0], true, false⟩ = H := ⟨_, rfl⟩
  have dH : Duo H (h.n + 1) (.slice none 0 0) (.slice none 0 0) := by rw [← hH]; exact Duo.new _ _ _
  have hle0 : h.le H := by rw [← hH]; exact (GH.le_alloc _ _).trans (GH.le_alloc _ _)
  have hHn : H.n = h.n + 2 := by rw [← hH]; rfl
  have hld : ∀ {h'}, H.le h' → h'.load h.n 0 1 = some [.slice (some ⟨pg, po, none⟩) p.length pc] ∧ h'.load h.n 1 1 = some [.slice (some ⟨og, oo, none⟩) (oct p.length).length oc] ∧ h'.load h.n 2 1 = some [.slice (some ⟨gg, go, none⟩) a.length gc] ∧ h'.load h.n 3 1 = some [.int .i64 k0] ∧ h'.load h.n 4 1 = some [.int .i64 (k0 + n - 1)] := by
    intro h' hl
    have hb : H.b h.n = ⟨[.slice (some ⟨pg, po, none⟩) p.length pc, .slice (some ⟨og, oo, none⟩) (oct p.length).length oc, .slice (some ⟨gg, go, none⟩) a.length gc, .int .i64 k0, .int .i64 (k0 + n - 1)], true, false⟩ := by
      rw [← hH, alloc_b_lt _ _ (show h.n < (h.alloc _).n from Nat.lt_succ_self _), alloc_self]
    refine ⟨load_mono hl ?_, load_mono hl ?_, load_mono hl ?_, load_mono hl ?_, load_mono hl ?_⟩
    · exact load_one_at (by omega) hb rfl
    · exact load_one_at (by omega) hb rfl
    · exact load_one_at (by omega) hb rfl
    · exact load_one_at (by omega) hb rfl
    · exact load_one_at (by omega) hb rfl
  obtain ⟨l0, l1, l2, l3, l4⟩ := hld (GH.le.refl H)
  refine gcalls_in (pl := pl13) [.cell 2 36, .tmp 3] mixed Tryz.func13 rfl rfl (by exact ok13) ?_
  simp only [go_sem, Nat.reduceBEq, ↓reduceIte, hH, l0, l1]
  have go : Good p 1 (oct p.length) := by
    refine ⟨oct_length (by omega), by decide, by decide, fun q hq => ?_, .inl ?_⟩
    · exact (bd_mem (oct7 (D := 1) (by decide) (by decide) (by omega)) q hq).mono (by decide)
    · rw [cf_at, cf_at, at_oct (by omega), at_oct (by omega), if_neg (by decide), if_neg (by decide), ov_zero]; exact ⟨rfl, rfl⟩
  refine callK_intro (c_checkPeriod hP (hp.mono hle0) (ho.mono hle0) (go.fit.mono (by decide)) (go.dec hP) (by rw [go.vl_pos hP (by rw [vl_oct (by omega)]; grind)]; decide)) ?_
  rintro _ h1 ⟨hle1, rfl⟩
  obtain ⟨l0, l1, l2, l3, l4⟩ := hld hle1
  simp only [go_sem, Nat.reduceBEq, Int.reduceNe, l0, l2]
  refine callK_intro (c_Check hP ((hp.mono hle0).mono hle1) ((hg.mono hle0).mono hle1) hal ha) ?_
  rintro _ h2 ⟨hle2, rfl⟩
  obtain ⟨l0, l1, l2, l3, l4⟩ := hld (hle1.trans hle2)
  have n1 : ¬ k0 < -1000 := by omega
  have n2 : ¬ 0 < k0 := by omega
  have n3 : ¬ k0 + (n : Int) - 1 < 0 := by omega
  have n4 : ¬ 1000 < k0 + (n : Int) - 1 := by omega
  simp only [go_sem, Nat.reduceBEq, Int.reduceNeg, Int.reduceNe, Array.reduceGetElem?, ↓reduceIte, l3, l4, n1, n2, n3, n4]
  have hle02 := (hle0.trans hle1).trans hle2
  refine loopK_inv (α := Nat) (fun i => n - i) (fun i ts g' => ts 1 = .pointer (some ⟨h.n, 0, none⟩) ∧ ts 2 = .pointer (some ⟨h.n + 1, 0, none⟩) ∧ ts 7 = .int .i64 (k0 + i) ∧ i ≤ n ∧ h2.le g' ∧ ∃ o, LsO h2 g' (ts 6) (mulL a k0 i) o) ?_ (a0 := 0) ?_
  · rintro i ts g' ⟨t1, t2, t7, hi, hle, o', w⟩
    have hleH := (hle1.trans hle2).trans hle
    obtain ⟨l0, l1, l2, l3, l4⟩ := hld hleH
    simp only [go_sem, Nat.reduceBEq, t1, t7, l4]
    refine ifK_intro (fun c1 => ?_) (fun c1 => ?_)
    · have c1' := of_decide_eq_true c1
      have wi : IntKind.i64.wrap (k0 + (i : Int) + 1) = k0 + ((i + 1 : Nat) : Int) := by rw [wrap_i64 (by omega) (by omega)]; omega
      simp only [go_sem, Nat.reduceBEq, Array.reduceGetElem?, t1, t7, l0, l2, pl13]
      refine callK_intro (c_integer (k0 + (i : Int)) (show Int.natAbs _ < _ by omega)) ?_
      rintro _ h3 ⟨hle3, rfl⟩
      obtain ⟨l0, l1, l2, l3, l4⟩ := hld (hleH.trans hle3)
      simp only [go_sem, Nat.reduceBEq, Array.reduceGetElem?, l0, l2]
      have hle03 := hle0.trans (hleH.trans hle3)
      refine callK_intro (c_Scale hP (hp.mono hle03) (hg.mono hle03) hal ha ⟨by rw [Rat.num_intCast]; show Int.natAbs _ < _; omega, by show Sm 1; decide⟩ (hs i (by omega))) ?_
      rintro _ h4 ⟨hle4, xv, rfl, hxv⟩
      obtain ⟨l0, l1, l2, l3, l4⟩ := hld ((hleH.trans hle3).trans hle4)
      have w4 := w.mono (hle3.trans hle4)
      obtain ⟨xg, xo, xc, rfl, _⟩ := id hxv
      obtain ⟨v', h', o2, e1, e2, e3, e4⟩ := w4.app ((hle.trans hle3).trans hle4) (by simp [mulL]; omega) (hxv.n (by rw [← List.length_pos_iff, scaleL_length]; omega) w4.cells)
      simp only [go_sem, Nat.reduceBEq, Nat.reduceLeDiff, Nat.reduceLT, Int.reduceNe, Array.reduceGetElem?, ↓reduceIte, t1, t2, t7, e1, wi]
      exact ⟨i + 1, by omega, rfl, by omega, e2, o2, by rw [mulL_succ]; exact e3⟩
    · have c1' := of_decide_eq_false c1
      obtain rfl : i = n := by omega
      obtain ⟨wp, wc, ew⟩ := w.form
      simp only [go_sem, Nat.reduceBEq, t1, l0, l1, ew]
      rw [ew] at w
      have hml : (mulL a k0 i).length = i := by simp [mulL]
      refine callK_intro (c_scCollect hP ((hp.mono hle02).mono hle) ((ho.mono hle02).mono hle) (w.lsE (by omega)) (by omega) (fun x hxm => ⟨?_, (hx x hxm).1, (hx x hxm).2⟩) k) ?_
      · obtain ⟨j, _, rfl⟩ := List.mem_map.1 hxm
        rw [scaleL_length, hal]
      rintro _ h5 ⟨hle5, sv, N, rfl, q1, q2, q3⟩
      obtain ⟨s1, s2, s3, s4, s5, s6, rfl, _, _⟩ := q3.form
      have dB9 := dH.mono (hleH.trans hle5)
      have hst9 := dB9.s2 (v := .slice (some ⟨s1, s2, none⟩) p.length s3) (w := .slice (some ⟨s4, s5, none⟩) (N ++ [oct p.length]).length s6) rfl rfl
      have dd9 := Duo.up (v := .slice (some ⟨s1, s2, none⟩) p.length s3) (w := .slice (some ⟨s4, s5, none⟩) (N ++ [oct p.length]).length s6) dB9.lt
      simp only [go_sem, Nat.reduceBEq, Nat.reduceAdd, Array.reduceGetElem?, ↓reduceIte, t2, hst9, dd9.l2]
      refine ⟨(hle0.trans (hleH.trans hle5)).upd (by omega) _, _, N, rfl, q1, q2, q3.upd dB9 hP.ne (by simp) ?_⟩
      intro b hb
      rcases List.mem_append.1 hb with hb | hb
      · rw [← List.length_pos_iff, (k.sm b (q1.mem_iff.1 hb)).1]; omega
      · rw [List.mem_singleton] at hb
        rw [← List.length_pos_iff, hb, oct_length (by omega)]; omega
  · simp only [go_sem, Nat.reduceBEq]
    exact ⟨by simp, Nat.zero_le _, GH.le.refl _, none, LsO.nil _ _⟩
end Go.Proofs.Gh
namespace Go.Proofs.Gh
open Go Go.Proofs Go.Proofs.Zz
set_option maxRecDepth 10000
set_option linter.unusedSimpArgs false
def stepL (N : List (List Rat)) (i : Nat) : List Rat := if i = 0 then N[0]?.getD [] else subL (N[i]?.getD []) (N[i - 1]?.getD [])
def stepsL (N : List (List Rat)) : List (List Rat) := (List.range N.length).map (stepL N)
theorem c_Steps {h : GH} {sv : Value} {p : List Int} {N : List (List Rat)} (hP : Pr p) (s : ScAt h sv p N) (ok : ScOk p N) (hs : ∀ i, i < N.length → SmL (stepL N i)) :
    ∃ r h', GCalls Tryz.prog gE 33 #[sv] h r h' ∧ h.le h' ∧ ∃ lv, r = .tuple #[lv, .int .i64 0] ∧ LsAt h' lv (stepsL N) := by
  obtain ⟨g, o, c, g2, o2, c2, rfl, hp, hn⟩ := s.form
  have hpl := hP.len
  have hk := ok.pos
  have hk2 := ok.few
  have d1 := Duo.new h (.slice (some ⟨g, o, none⟩) p.length c) (.slice (some ⟨g2, o2, none⟩) N.length c2)
  have hle0 := GH.le_alloc h ⟨[.slice (some ⟨g, o, none⟩) p.length c, .slice (some ⟨g2, o2, none⟩) N.length c2], true, false⟩
  refine gcalls_in (pl := pl33) [.tmp 2, .tmp 3] mixed Tryz.func33 rfl rfl (by exact ok33) ?_
  simp only [go_sem, Nat.reduceBEq, ↓reduceIte]
  refine callK_intro (c_scCheck hP (s.mono hle0) ok) ?_
  rintro _ h1 ⟨hle1, rfl⟩
  have dA := d1.mono hle1
  simp only [go_sem, Nat.reduceBEq, Int.reduceNe, dA.l1]
  have hle01 := hle0.trans hle1
  refine loopK_inv (α := Nat) (fun i => N.length - i) (fun i ts g' => ts 1 = .pointer (some ⟨h.n, 0, none⟩) ∧ ts 15 = .slice (some ⟨g2, o2, none⟩) N.length c2 ∧ ts 16 = .int .i64 N.length ∧ ts 17 = .int .i64 i ∧ i ≤ N.length ∧ h1.le g' ∧ ∃ o, LsO h1 g' (ts 5) ((List.range i).map (stepL N)) o) ?_ (a0 := 0) ?_
  · rintro i ts g' ⟨t1, t15, t16, t17, hi, hle, o', w⟩
    simp only [go_sem, t16, t17]
    refine ifK_intro (fun c1 => ?_) (fun c1 => ?_)
    · have c1' := of_decide_eq_true c1
      obtain ⟨x, hxi⟩ : ∃ x, N[i]? = some x := ⟨_, List.getElem?_eq_getElem (by omega)⟩
      obtain ⟨_, xv, hl1, hxs, ho1⟩ := (hn.mono (hle01.trans hle)).get hxi
      have wi : IntKind.i64.wrap ((i : Int) + 1) = ((i + 1 : Nat) : Int) := wrap_i64 (by omega) (by omega)
      have dG := dA.mono hle
      simp only [go_sem, Nat.reduceBEq, ↓reduceIte, t15, t17, c1', hl1]
      have hsi := hs i (by omega)
      have hx0 : x.length = p.length := ok.len x (List.mem_of_getElem? hxi)
      refine ifK_intro (fun c2 => ?_) (fun c2 => ?_)
      · have c2' := of_decide_eq_true c2
        obtain ⟨y, hyi⟩ : ∃ y, N[i - 1]? = some y := ⟨_, List.getElem?_eq_getElem (by omega)⟩
        obtain ⟨_, yv, hl2, hys, ho2⟩ := (hn.mono (hle01.trans hle)).get hyi
        have wm : IntKind.i64.wrap ((i : Int) - 1) = ((i - 1 : Nat) : Int) := by rw [wrap_i64 (by omega) (by omega)]; omega
        have hm : ((i - 1 : Nat) : Int) < N.length := by omega
        have hy0 : y.length = p.length := ok.len y (List.mem_of_getElem? hyi)
        have est : stepL N i = subL x y := by rw [stepL, if_neg (by omega), hxi, hyi]; rfl
        rw [est] at hsi
        simp only [go_sem, Nat.reduceBEq, Array.reduceGetElem?, ↓reduceIte, t1, dG.l0, dG.l1, wm, hm, hl2, pl33]
        refine callK_intro (c_Sub hP (hp.mono (hle01.trans hle)) hxs hys hx0 hy0 (ok.sm x (List.mem_of_getElem? hxi)) (ok.sm y (List.mem_of_getElem? hyi)) hsi) ?_
        rintro _ h3 ⟨hle3, dv, rfl, hdv⟩
        have dG3 := dG.mono hle3
        simp only [go_sem, Nat.reduceBEq, Int.reduceNe, Array.reduceGetElem?]
        have hsl : (subL x y).length = p.length := by rw [subL_length _ _ (by omega), hx0]
        refine callK_intro (c_cloneSize hdv (by rw [← List.length_pos_iff]; omega) (by omega)) ?_
        rintro cv h4 ⟨hle4, hcv⟩
        have w4 := w.mono (hle3.trans hle4)
        obtain ⟨cg, co, cc, rfl, _⟩ := id hcv
        obtain ⟨v', h', o3, e1, e2, e3, e4⟩ := w4.app ((hle.trans hle3).trans hle4) (by simp; omega) (hcv.n fun k hk => Nat.lt_of_lt_of_le (w.lt k hk).2 hle3.1)
        simp only [go_sem, Nat.reduceBEq, Nat.reduceLeDiff, Nat.reduceLT, ↓reduceIte, t1, t15, t16, t17, e1, wi]
        exact ⟨i + 1, by omega, rfl, by omega, e2, o3, by rw [List.range_succ, List.map_append, List.map_cons, List.map_nil, est]; exact e3⟩
      · have c2' := of_decide_eq_false c2
        obtain rfl : i = 0 := by omega
        have est : stepL N 0 = x := by rw [stepL, if_pos rfl, hxi]; rfl
        simp only [go_sem, Nat.reduceBEq, Int.reduceLT]
        refine callK_intro (c_cloneSize hxs (by rw [← List.length_pos_iff]; omega) (by omega)) ?_
        rintro cv h4 ⟨hle4, hcv⟩
        have w4 := w.mono hle4
        obtain ⟨cg, co, cc, rfl, _⟩ := id hcv
        obtain ⟨v', h', o3, e1, e2, e3, e4⟩ := w4.app (hle.trans hle4) (by simp) (hcv.n fun k hk => (w.lt k hk).2)
        simp only [go_sem, Nat.reduceBEq, Nat.reduceLeDiff, Nat.reduceLT, Int.reduceAdd, Int.reduceLT, ↓reduceIte, t1, t15, t16, t17, e1]
        exact ⟨1, by omega, rfl, by omega, e2, o3, by rw [show (1 : Nat) = 0 + 1 from rfl, List.range_succ, List.map_append, List.map_cons, List.map_nil, est]; exact e3⟩
    · have c1' := of_decide_eq_false c1
      obtain rfl : i = N.length := by omega
      simp only [go_sem, Nat.reduceBEq, c1]
      exact ⟨hle01.trans hle, _, rfl, w.ls (by rw [← List.length_pos_iff]; simp; omega) (by simp; omega)⟩
  · simp only [go_sem, Nat.reduceBEq]
    exact ⟨Nat.zero_le _, GH.le.refl _, none, LsO.nil _ _⟩
theorem c_open {h : GH} {sv xv : Value} {p : List Int} {N : List (List Rat)} {x : List Rat} (hP : Pr p) (s : ScAt h sv p N) (ok : ScOk p N) (t : SzAt h xv x) (hx : x.length = p.length) (hs : SmL x) :
    ∃ r h', GCalls Tryz.prog gE 65 #[sv, xv] h r h' ∧ h.le h' ∧ r = .int .i64 0 := by
  obtain ⟨g, o, c, g2, o2, c2, rfl, hp, hn⟩ := s.form
  have d1 := Duo.new h (.slice (some ⟨g, o, none⟩) p.length c) (.slice (some ⟨g2, o2, none⟩) N.length c2)
  have hle0 := GH.le_alloc h ⟨[.slice (some ⟨g, o, none⟩) p.length c, .slice (some ⟨g2, o2, none⟩) N.length c2], true, false⟩
  refine gcalls_in (pl := noPl) [.tmp 4] mixed Tryz.func65 rfl rfl (by exact ok65) ?_
  simp only [go_sem, Nat.reduceBEq, ↓reduceIte]
  refine callK_intro (c_scCheck hP (s.mono hle0) ok) ?_
  rintro _ h1 ⟨hle1, rfl⟩
  have dA := d1.mono hle1
  simp only [go_sem, Nat.reduceBEq, Int.reduceNe, dA.l0]
  refine callK_intro (c_Check hP ((hp.mono hle0).mono hle1) ((t.mono hle0).mono hle1) hx hs) ?_
  rintro _ h2 ⟨hle2, rfl⟩
  simp only [go_sem]
  exact (hle0.trans hle1).trans hle2
theorem c_Reduce {h : GH} {sv xv : Value} {p : List Int} {N : List (List Rat)} {x : List Rat} (hP : Pr p) (s : ScAt h sv p N) (ok : ScOk p N) (hper : perN N = oct p.length) (t : SzAt h xv x) (f : FlOk p x) (hs : SmL x) (hr : SmL (redQ p x)) :
    ∃ r h', GCalls Tryz.prog gE 21 #[sv, xv] h r h' ∧ h.le h' ∧ ∃ v, r = .tuple #[v, istr (flQ p x), .int .i64 0] ∧ SzAt h' v (redQ p x) := by
  obtain ⟨g, o, c, g2, o2, c2, rfl, hp, hn⟩ := s.form
  have hk2 := ok.few
  have d1 := Duo.new h (.slice (some ⟨g, o, none⟩) p.length c) (.slice (some ⟨g2, o2, none⟩) N.length c2)
  have hle0 := GH.le_alloc h ⟨[.slice (some ⟨g, o, none⟩) p.length c, .slice (some ⟨g2, o2, none⟩) N.length c2], true, false⟩
  refine gcalls_in (pl := pl21) [.tmp 4, .tmp 5, .tmp 6] mixed Tryz.func21 rfl rfl (by exact ok21) ?_
  simp only [go_sem, Nat.reduceBEq, ↓reduceIte]
  refine callK_intro (c_open hP (s.mono hle0) ok (t.mono hle0) f.fit.len hs) ?_
  rintro _ h1 ⟨hle1, rfl⟩
  have dA := d1.mono hle1
  have hle01 := hle0.trans hle1
  simp only [go_sem, Nat.reduceBEq, Int.reduceNe, Array.reduceGetElem?, dA.l0, dA.l2, pl21]
  refine callK_intro (c_period (s.mono hle01) ok.pos (by omega)) ?_
  rintro pv h2 ⟨hle2, hps⟩
  have dB := dA.mono hle2
  rw [hper] at hps
  simp only [go_sem, Nat.reduceBEq, Array.reduceGetElem?, dB.l0]
  refine callK_intro (c_reduce hP ((hp.mono hle01).mono hle2) ((t.mono hle01).mono hle2) hps f hr) ?_
  rintro _ h3 ⟨hle3, v, rfl, hv⟩
  have dC := dB.mono hle3
  simp only [go_sem, Nat.reduceBEq, Array.reduceGetElem?]
  exact ⟨(hle01.trans hle2).trans hle3, v, rfl, hv⟩
end Go.Proofs.Gh
namespace Go.Proofs.Gh
open Go Go.Proofs Go.Proofs.Zz
set_option maxRecDepth 10000
def majL : List (List Rat) := [[-3, 2], [-6, 4], [2, -1], [-1, 1], [-4, 3], [-7, 5], [1, 0]]
theorem maj_col : colS [2, 3] (mulL [-1, 1] (-1) 7) = [[2, -1], [-1, 1], [-3, 2], [-4, 3], [-6, 4], [-7, 5]] := by decide +kernel
theorem maj_inc : ∀ i, i < 6 → vl (majL[i]?.getD []) < vl (majL[i + 1]?.getD []) := by decide +kernel
theorem maj_red : redQ [2, 3] [0, -1] = [2, -1] ∧ flQ [2, 3] [0, -1] = -2 := by decide +kernel
theorem maj_steps : stepsL majL = [[-3, 2], [-3, 2], [8, -5], [-3, 2], [-3, 2], [-3, 2], [8, -5]] := by decide +kernel
end Go.Proofs.Gh
namespace Go.Proofs.Gh
open Go Go.Proofs Go.Proofs.Zz
set_option maxRecDepth 10000
set_option linter.unusedSimpArgs false
theorem mem_colS {p : List Int} (l : List (List Rat)) : ∀ a, a ∈ colS p l ↔ ∃ x ∈ l, a = redQ p x ∧ a ≠ zeroL p.length := by
  refine snoc_ind (P := fun l => ∀ a, a ∈ colS p l ↔ ∃ x ∈ l, a = redQ p x ∧ a ≠ zeroL p.length) ?_ ?_ l
  · intro a
    simp [colS]
  · intro l x ih a
    rw [colS_snoc]
    by_cases hc : redQ p x ≠ zeroL p.length ∧ redQ p x ∉ colS p l
    · rw [if_pos hc, List.mem_append, ih, List.mem_singleton]
      constructor
      · rintro (⟨y, hy, h⟩ | rfl)
        · exact ⟨y, List.mem_append_left _ hy, h⟩
        · exact ⟨x, by simp, rfl, hc.1⟩
      · rintro ⟨y, hy, h, h2⟩
        rcases List.mem_append.1 hy with hy | hy
        · exact .inl ⟨y, hy, h, h2⟩
        · rw [List.mem_singleton] at hy
          subst hy
          exact .inr h
    · rw [if_neg hc, ih]
      constructor
      · rintro ⟨y, hy, h⟩
        exact ⟨y, List.mem_append_left _ hy, h⟩
      · rintro ⟨y, hy, h, h2⟩
        rcases List.mem_append.1 hy with hy | hy
        · exact ⟨y, hy, h, h2⟩
        · rw [List.mem_singleton] at hy
          subst hy
          have hm : redQ p y ∈ colS p l := Decidable.not_not.1 (fun hh => hc ⟨h ▸ h2, hh⟩)
          rw [h]
          exact (ih _).1 hm
theorem nodup_colS {p : List Int} (l : List (List Rat)) : (colS p l).Nodup := by
  refine snoc_ind (P := fun l => (colS p l).Nodup) ?_ ?_ l
  · simp [colS]
  · intro l x ih
    rw [colS_snoc]
    split
    · rename_i h
      rw [List.nodup_append]
      exact ⟨ih, by simp, fun a ha b hb => by rw [List.mem_singleton] at hb; subst hb; rintro rfl; exact h.2 ha⟩
    · exact ih
/-- nodes that are sorted -/
theorem soOk_of {p : List Int} {D : Nat} {L M : List (List Rat)} (hP : Pr p) (F : Fam p D L) (nd : ∀ a ∈ M, Nd p D L a) (hnd : M.Nodup) (hlen : M.length < 20) : SoOk p M := by
  refine ⟨hlen, hnd, fun a ha => ⟨(nd a ha).len, (nd a ha).sm F⟩, fun a ha b hb _ => ?_, fun a ha b hb hne h => ?_⟩
  · have g := Nd.good F (nd a ha) (nd b hb)
    exact ⟨g.fit.mono (by decide), g.dec hP⟩
  · rw [Nd.sgn_lt hP F (nd a ha) (nd b hb)] at h
    rw [Nd.sgn_lt hP F (nd b hb) (nd a ha)]
    have h2 : ¬ vl a = vl b := fun e => hne (Nd.ne hP F (nd a ha) (nd b hb) e)
    grind
theorem soOk {p : List Int} {D : Nat} {L l : List (List Rat)} (hP : Pr p) (F : Fam p D L) (hl : ∀ x ∈ l, x ∈ L) (hlen : l.length < 20) : SoOk p (colS p l) := by
  refine soOk_of hP F (fun a ha => ?_) (nodup_colS l) (by have := colS_len p l; omega)
  obtain ⟨x, hx, rfl, _⟩ := (mem_colS l a).1 ha
  exact F.red hP (hl x hx)
/-- in the order of values -/
def Inc (N : List (List Rat)) : Prop := ∀ (k : Nat) a b, N[k]? = some a → N[k + 1]? = some b → vl a < vl b
theorem Inc.pw {N : List (List Rat)} (h : Inc N) : N.Pairwise (fun a b => vl a < vl b) := by
  rw [List.pairwise_iff_getElem]
  intro i j hi hj hij
  exact inc_lt h j i _ _ hij (List.getElem?_eq_getElem hi) (List.getElem?_eq_getElem hj)
theorem Inc.unique {N M : List (List Rat)} (hN : Inc N) (hM : Inc M) (h : N.Perm M) : N = M := by
  refine List.Perm.eq_of_pairwise (le := fun a b => vl a < vl b) (fun a b _ _ h1 h2 => ?_) hN.pw hM.pw h
  have : vl a < vl a := by grind
  grind
theorem Inc.of_adj {p : List Int} {D : Nat} {L N : List (List Rat)} (hP : Pr p) (F : Fam p D L) (nd : ∀ a ∈ N, Nd p D L a) (h : ∀ k, Adj (fun a b => sgn p (subL a b)) N k) : Inc N := fun k a b ha hb =>
  (Nd.sgn_lt hP F (nd a (List.mem_of_getElem? ha)) (nd b (List.mem_of_getElem? hb))).1 (h k a b ha hb)
theorem LsAt.built {h : GH} {vs : List Value} {L : List (List Rat)} (hl : vs.length = L.length) (hu : L.length ≤ 100000) (s : ∀ (i : Nat) (l : List Rat), L[i]? = some l → ∃ x, vs[i]? = some x ∧ SzAt h x l) : LsAt (h.alloc ⟨vs, true, false⟩) (.slice (some ⟨h.n, 0, none⟩) L.length L.length) L := by
  refine ⟨h.n, 0, L.length, vs, rfl, ?_, hl, fun i l hi => ?_⟩
  · refine row_at (Nat.lt_succ_self _) (by rw [alloc_self, Row, one_cells]) (one_len vs) ⟨by rw [List.length_map, hl]; exact Nat.le_refl _, fun hc => by simp only [unk] at hc; omega⟩
  · obtain ⟨x, k1, k2⟩ := s i l hi
    exact ⟨x, k1, k2.mono (GH.le_alloc _ _)⟩
/-- a size of two ints, that are built -/
theorem c_whole2 {h : GH} (a b : Int) (ha : Sm a) (hb : Sm b) : ∃ r h', GCalls Tryz.prog gE 48 #[.slice (some ⟨h.n, 0, none⟩) 2 2] (h.alloc ⟨[.int .i64 a, .int .i64 b], true, false⟩) r h' ∧ h.le h' ∧ ∃ g o c, r = .slice (some ⟨g, o, none⟩) 2 c ∧ SzAt h' (.slice (some ⟨g, o, none⟩) 2 c) [(a : Rat), (b : Rat)] := by
  have s : Sl (h.alloc ⟨[.int .i64 a, .int .i64 b], true, false⟩) (.slice (some ⟨h.n, 0, none⟩) 2 2) 1 (ints [a, b]) := .inr ⟨h.n, 0, 2, rfl, mkrow (l := [a, b]) (by simp [unk])⟩
  obtain ⟨r, h', k1, k2, o, k3⟩ := c_whole s (by simp) (by simp) (by
    intro z hz
    rcases List.mem_cons.1 hz with rfl | hz
    · exact ha
    · rw [List.mem_singleton] at hz; subst hz; exact hb)
  obtain ⟨g, oo, c, e, _⟩ := id (k3.szF (by simp) (by simp))
  subst e
  exact ⟨_, h', k1, (GH.le_alloc _ _).trans k2, g, oo, c, rfl, (k3.szF (by simp) (by simp)).at⟩
theorem c_Major {h : GH} : ∃ r h', GCalls Tryz.prog gE 49 #[] h r h' ∧ h.le h' ∧ ScAt h' r [2, 3] majL := by
  obtain ⟨H, hH⟩ : ∃ H, h.alloc ⟨[.slice none 0 0, .slice none 0 0], true, false⟩ = H := ⟨_, rfl⟩
  have dH : Duo H h.n (.slice none 0 0) (.slice none 0 0) := by rw [← hH]; exact Duo.new _ _ _
  have hle0 : h.le H := by rw [← hH]; exact GH.le_alloc _ _
  have hp0 : PrAt (H.alloc ⟨[.int .i64 2, .int .i64 3], true, false⟩) (.slice (some ⟨H.n, 0, none⟩) 2 2) [2, 3] := ⟨_, _, _, rfl, mkrow (l := [2, 3]) (by decide)⟩
  obtain ⟨h0, hh0⟩ : ∃ h0, H.alloc ⟨[.int .i64 2, .int .i64 3], true, false⟩ = h0 := ⟨_, rfl⟩
  have hle00 : H.le h0 := by rw [← hh0]; exact GH.le_alloc _ _
  rw [hh0] at hp0
  refine gcalls_in (pl := noPl) [.cell 0 36] mixed Tryz.func49 rfl rfl (by exact ok49) ?_
  simp only [go_sem, Nat.reduceAdd, Nat.reduceLeDiff, Nat.reduceLT, Int.reduceNeg, ↓reduceIte, hH, hh0]
  refine callK_intro (c_whole2 (-3) (2) (by decide) (by decide)) ?_
  rintro _ h1 ⟨hle1, g1, o1, c1, rfl, s1⟩
  simp only [go_sem, Nat.reduceAdd, Nat.reduceLeDiff, Nat.reduceLT, Int.reduceNeg, ↓reduceIte]
  refine callK_intro (c_whole2 (-6) (4) (by decide) (by decide)) ?_
  rintro _ h2 ⟨hle2, g2, o2, c2, rfl, s2⟩
  simp only [go_sem, Nat.reduceAdd, Nat.reduceLeDiff, Nat.reduceLT, Int.reduceNeg, ↓reduceIte]
  refine callK_intro (c_whole2 (2) (-1) (by decide) (by decide)) ?_
  rintro _ h3 ⟨hle3, g3, o3, c3, rfl, s3⟩
  simp only [go_sem, Nat.reduceAdd, Nat.reduceLeDiff, Nat.reduceLT, Int.reduceNeg, ↓reduceIte]
  refine callK_intro (c_whole2 (-1) (1) (by decide) (by decide)) ?_
  rintro _ h4 ⟨hle4, g4, o4, c4, rfl, s4⟩
  simp only [go_sem, Nat.reduceAdd, Nat.reduceLeDiff, Nat.reduceLT, Int.reduceNeg, ↓reduceIte]
  refine callK_intro (c_whole2 (-4) (3) (by decide) (by decide)) ?_
  rintro _ h5 ⟨hle5, g5, o5, c5, rfl, s5⟩
  simp only [go_sem, Nat.reduceAdd, Nat.reduceLeDiff, Nat.reduceLT, Int.reduceNeg, ↓reduceIte]
  refine callK_intro (c_whole2 (-7) (5) (by decide) (by decide)) ?_
  rintro _ h6 ⟨hle6, g6, o6, c6, rfl, s6⟩
  simp only [go_sem, Nat.reduceAdd, Nat.reduceLeDiff, Nat.reduceLT, ↓reduceIte]
  refine callK_intro (c_whole2 (1) (0) (by decide) (by decide)) ?_
  rintro _ h7 ⟨hle7, g7, o7, c7, rfl, s7⟩
  have hL : LsAt (h7.alloc ⟨[.slice (some ⟨g1, o1, none⟩) 2 c1, .slice (some ⟨g2, o2, none⟩) 2 c2, .slice (some ⟨g3, o3, none⟩) 2 c3, .slice (some ⟨g4, o4, none⟩) 2 c4, .slice (some ⟨g5, o5, none⟩) 2 c5, .slice (some ⟨g6, o6, none⟩) 2 c6, .slice (some ⟨g7, o7, none⟩) 2 c7], true, false⟩) (.slice (some ⟨h7.n, 0, none⟩) 7 7) majL := by
    refine LsAt.built (L := majL) rfl (by decide) (fun i l hi => ?_)
    match i, hi with
    | 0, hi => injection hi with hi; subst hi; exact ⟨_, rfl, ((((((s1.mono hle2).mono hle3).mono hle4).mono hle5).mono hle6).mono hle7)⟩
    | 1, hi => injection hi with hi; subst hi; exact ⟨_, rfl, (((((s2.mono hle3).mono hle4).mono hle5).mono hle6).mono hle7)⟩
    | 2, hi => injection hi with hi; subst hi; exact ⟨_, rfl, ((((s3.mono hle4).mono hle5).mono hle6).mono hle7)⟩
    | 3, hi => injection hi with hi; subst hi; exact ⟨_, rfl, (((s4.mono hle5).mono hle6).mono hle7)⟩
    | 4, hi => injection hi with hi; subst hi; exact ⟨_, rfl, ((s5.mono hle6).mono hle7)⟩
    | 5, hi => injection hi with hi; subst hi; exact ⟨_, rfl, (s6.mono hle7)⟩
    | 6, hi => injection hi with hi; subst hi; exact ⟨_, rfl, s7⟩
  have hleF := (((((((hle00.trans hle1).trans hle2).trans hle3).trans hle4).trans hle5).trans hle6).trans hle7).trans (GH.le_alloc h7 ⟨[.slice (some ⟨g1, o1, none⟩) 2 c1, .slice (some ⟨g2, o2, none⟩) 2 c2, .slice (some ⟨g3, o3, none⟩) 2 c3, .slice (some ⟨g4, o4, none⟩) 2 c4, .slice (some ⟨g5, o5, none⟩) 2 c5, .slice (some ⟨g6, o6, none⟩) 2 c6, .slice (some ⟨g7, o7, none⟩) 2 c7], true, false⟩)
  have d7 := dH.mono hleF
  have hst := d7.s2 (v := .slice (some ⟨H.n, 0, none⟩) 2 2) (w := .slice (some ⟨h7.n, 0, none⟩) 7 7) rfl rfl
  have dd := Duo.up (v := .slice (some ⟨H.n, 0, none⟩) 2 2) (w := .slice (some ⟨h7.n, 0, none⟩) 7 7) d7.lt
  simp only [go_sem, Nat.reduceBEq, Nat.reduceAdd, Nat.reduceLeDiff, Nat.reduceLT, ↓reduceIte, hst, dd.l2]
  refine ⟨(hle0.trans hleF).upd (Nat.le_refl _) _, ?_⟩
  refine ScAt.upd (p := [2, 3]) (N := majL) ⟨_, _, rfl, ?_, hL⟩ d7 (by simp) (by simp [majL]) (by decide)
  have := (((((((hp0.mono hle1).mono hle2).mono hle3).mono hle4).mono hle5).mono hle6).mono hle7).mono (GH.le_alloc h7 ⟨[.slice (some ⟨g1, o1, none⟩) 2 c1, .slice (some ⟨g2, o2, none⟩) 2 c2, .slice (some ⟨g3, o3, none⟩) 2 c3, .slice (some ⟨g4, o4, none⟩) 2 c4, .slice (some ⟨g5, o5, none⟩) 2 c5, .slice (some ⟨g6, o6, none⟩) 2 c6, .slice (some ⟨g7, o7, none⟩) 2 c7], true, false⟩)
  exact this
end Go.Proofs.Gh
namespace Go.Proofs.Gh
open Go Go.Proofs Go.Proofs.Zz
set_option maxRecDepth 10000
set_option linter.unusedSimpArgs false
theorem prM : Pr [2, 3] := .inl rfl
def majF : List (List Rat) := zeroL 2 :: mulL [-1, 1] (-1) 7
theorem maj_fam : Fam [2, 3] 2 majF := by
  refine famF (fun x hx => ?_) (List.mem_cons_self ..)
  rcases List.mem_cons.1 hx with rfl | hx
  · exact ⟨0, 0, frm_zero (by decide)⟩
  · obtain ⟨i, hi, rfl⟩ := List.mem_map.1 hx
    rw [List.mem_range] at hi
    have e0 : at' [-1, 1] 0 = ((-1 : Int) : Rat) := by decide
    have e1 : at' [-1, 1] 1 = ((1 : Int) : Rat) := by decide
    refine ⟨2 * (-1 + (i : Int)), 0, by rw [scaleL_length]; rfl, ?_, ?_, ⟨1 - (i : Int), by omega, ?_⟩, by omega, by omega, by decide, by decide⟩
    · rw [at_scale, e1, ← Rat.intCast_mul, Int.one_mul, int_mk, mkRat_up (z := -1 + (i : Int)) (a := 1) (n := 2) (by decide), Nat.one_mul, Int.mul_comm]; rfl
    · rw [at_scale, at_ge (by decide), Rat.zero_mul]; rfl
    · rw [at_scale, e0, ← Rat.intCast_mul]; congr 1; omega
theorem maj_sc : Sc [2, 3] 2 majF majL := by
  have hm : ∀ a ∈ majL, a ∈ colS [2, 3] (mulL [-1, 1] (-1) 7) ∨ a = oct 2 := by decide +kernel
  have hin : ∀ x ∈ mulL [-1, 1] (-1) 7, x ∈ majF := fun x hx => List.mem_cons_of_mem _ hx
  have key : ∀ a ∈ majL, Nd [2, 3] 2 majF a ∧ (∀ i, Bd 2 7200 (at' a i)) := by
    intro a ha
    rcases hm a ha with h | rfl
    · obtain ⟨x, hx, rfl, _⟩ := (mem_colS _ a).1 h
      exact ⟨maj_fam.red prM (hin x hx), maj_fam.red7 prM (hin x hx)⟩
    · exact ⟨Nd.oct prM maj_fam, oct7 (by decide) (by decide) (by decide)⟩
  refine ⟨fun a ha => (key a ha).1, fun a ha => (key a ha).2, ?_, by decide, fun k a b ha hb => ?_, by decide⟩
  · have : ∀ a ∈ majL, 0 < vl a ∧ vl a ≤ 67108864 := by decide +kernel
    exact this
  · have hk := (List.getElem?_eq_some_iff.1 hb).1
    have := maj_inc k (by simp only [majL, List.length_cons, List.length_nil] at hk; omega)
    rwa [ha, hb] at this
theorem maj_chain {N : List (List Rat)} (h1 : N.Perm (colS [2, 3] (mulL [-1, 1] (-1) 7))) (h2 : ∀ k, Adj (fun a b => sgn [2, 3] (subL a b)) N k) : N ++ [oct 2] = majL := by
  have hnd : ∀ a ∈ N, Nd [2, 3] 2 majF a := by
    intro a ha
    obtain ⟨x, hx, rfl, _⟩ := (mem_colS _ a).1 (h1.mem_iff.1 ha)
    exact maj_fam.red prM (List.mem_cons_of_mem _ hx)
  have i1 := Inc.of_adj prM maj_fam hnd h2
  have i2 : Inc (majL.take 6) := by
    intro k a b ha hb
    have hk := (List.getElem?_eq_some_iff.1 hb).1
    rw [List.getElem?_take] at ha hb
    split at ha
    · split at hb
      · exact maj_sc.inc k a b ha hb
      · cases hb
    · cases ha
  have hp : (colS [2, 3] (mulL [-1, 1] (-1) 7)).Perm (majL.take 6) := by decide +kernel
  rw [Inc.unique i1 i2 (h1.trans hp)]
  decide
theorem Sc.steps_sm {p : List Int} {D : Nat} {L N : List (List Rat)} (F : Fam p D L) (s : Sc p D L N) (i : Nat) (hi : i < N.length) : SmL (stepL N i) := by
  unfold stepL
  have hm : ∀ j, j < N.length → Nd p D L (N[j]?.getD []) := by
    intro j hj
    rw [List.getElem?_eq_getElem hj]
    exact s.nd _ (List.getElem_mem hj)
  split
  · exact (hm 0 (by omega)).sm F
  · exact (Nd.good F (hm i hi) (hm (i - 1) (by omega))).fit.sm
theorem third_fam : Fam [2, 3] 2 [zeroL 2, [0, -1]] := by
  refine famF (fun x hx => ?_) (List.mem_cons_self ..)
  rcases List.mem_cons.1 hx with rfl | hx
  · exact ⟨0, 0, frm_zero (by decide)⟩
  · rw [List.mem_singleton] at hx
    subst hx
    exact ⟨-2, 0, rfl, by decide, by decide, ⟨0, by decide, by decide⟩, by decide, by decide, by decide, by decide⟩
theorem c_known {h : GH} : ∃ r h', GCalls Tryz.prog gE 10 #[] h r h' ∧ h.le h' ∧ r = .bool true := by
  have hp0 : PrAt (h.alloc ⟨[.int .i64 2, .int .i64 3], true, false⟩) (.slice (some ⟨h.n, 0, none⟩) 2 2) [2, 3] := ⟨_, _, _, rfl, mkrow (l := [2, 3]) (by decide)⟩
  obtain ⟨h0, hh0⟩ : ∃ h0, h.alloc ⟨[.int .i64 2, .int .i64 3], true, false⟩ = h0 := ⟨_, rfl⟩
  have hle0 : h.le h0 := by rw [← hh0]; exact GH.le_alloc _ _
  rw [hh0] at hp0
  refine gcalls_in (pl := pl10) [.tmp 0] mixed Tryz.func10 rfl rfl (by exact ok10) ?_
  simp only [go_sem, Nat.reduceAdd, Nat.reduceLeDiff, Nat.reduceLT, ↓reduceIte, hh0]
  refine callK_intro (c_whole2 1 0 (by decide) (by decide)) ?_
  rintro _ h1 ⟨hle1, g1, o1, c1, rfl, s1⟩
  simp only [go_sem, Nat.reduceAdd, Nat.reduceLeDiff, Nat.reduceLT, Int.reduceNeg, ↓reduceIte]
  refine callK_intro (c_whole2 (-1) 1 (by decide) (by decide)) ?_
  rintro _ h2 ⟨hle2, g2, o2, c2, rfl, s2⟩
  simp only [go_sem, Nat.reduceBEq, Nat.reduceAdd, Nat.reduceLeDiff, Int.reduceNeg, ↓reduceIte]
  have F := maj_fam
  have hin : ∀ x ∈ mulL [-1, 1] (-1) 7, x ∈ majF := fun x hx => List.mem_cons_of_mem _ hx
  have hch := c_Chain (k0 := -1) (n := 7) (a := [-1, 1]) prM ((hp0.mono hle1).mono hle2) (s1.mono hle2) s2 rfl (show ∀ q ∈ ([-1, 1] : List Rat), q.num.natAbs < 10000000 ∧ Int.natAbs (q.den : Int) < 10000000 from by decide) (by decide) (by decide) (fun i hi q hq => by
    have hmm : scaleL [-1, 1] (((-1 + (i : Int) : Int)) : Rat) ∈ mulL [-1, 1] (-1) 7 := List.mem_map.2 ⟨i, List.mem_range.2 hi, rfl⟩
    exact (Nd.src' F (hin _ hmm)).sm F q hq) (fun x hx => ⟨(F.xOk prM (hin x hx)).fl, (F.red prM (hin x hx)).sm F⟩) (soOk prM F hin (by decide))
  rw [show (-1 : Int) + (7 : Nat) - 1 = 5 from rfl] at hch
  refine callK_intro hch ?_
  rintro _ h3 ⟨hle3, sv, N, rfl, q1, q2, q3⟩
  have q3 : ScAt h3 sv [2, 3] majL := by rw [← maj_chain q1 q2]; exact q3
  obtain ⟨x1, x2, x3, x4, x5, x6, rfl, q4, q5⟩ := q3.form
  simp only [go_sem, Nat.reduceBEq, Nat.reduceAdd, Array.reduceGetElem?, ↓reduceIte]
  obtain ⟨G, hG⟩ : ∃ G, h3.alloc ⟨[.slice (some ⟨x1, x2, none⟩) 2 x3, .slice (some ⟨x4, x5, none⟩) majL.length x6], true, false⟩ = G := ⟨_, rfl⟩
  have dG : Duo G h3.n (.slice (some ⟨x1, x2, none⟩) 2 x3) (.slice (some ⟨x4, x5, none⟩) majL.length x6) := by rw [← hG]; exact Duo.new _ _ _
  have hleG : h3.le G := by rw [← hG]; exact GH.le_alloc _ _
  have ok := maj_sc.scOk prM F
  simp only [go_sem, Nat.reduceBEq, Nat.reduceAdd, Int.reduceNeg, alloc_store2s (h := h3) (a := .slice none 0 0) (b := .slice none 0 0) (v := .slice (some ⟨x1, x2, none⟩) 2 x3) (w := .slice (some ⟨x4, x5, none⟩) majL.length x6) rfl rfl, hG, dG.l2]
  refine callK_intro (c_Steps prM (q3.mono hleG) ok (fun i hi => maj_sc.steps_sm F i hi)) ?_
  rintro _ h4 ⟨hle4, lv, rfl, hlv⟩
  obtain ⟨lg, lo, lc', lvs, rfl, lq1, lq2, lq3⟩ := id hlv
  have dG4 := dG.mono hle4
  have hsl : (stepsL majL).length = 7 := by decide
  simp only [go_sem, Nat.reduceBEq, Nat.reduceAdd, Int.reduceNeg, Array.reduceGetElem?]
  refine callK_intro c_Major ?_
  rintro mv h5 ⟨hle5, hmv⟩
  obtain ⟨m1, m2, m3, m4, m5, m6, rfl, hm1, hm2⟩ := hmv.form
  simp only [go_sem, Nat.reduceAdd, Nat.reduceLeDiff, Nat.reduceLT, Int.reduceNeg, ↓reduceIte]
  refine callK_intro (c_whole2 0 (-1) (by decide) (by decide)) ?_
  rintro _ h6 ⟨hle6, g6, o6, c6, rfl, s6⟩
  have F3 := third_fam
  have n3 := Nd.src' F3 (x := [0, -1]) (by simp)
  simp only [go_sem, Nat.reduceBEq, Nat.reduceAdd, Int.reduceNeg]
  refine callK_intro (c_Reduce prM (hmv.mono hle6) ok maj_sc.per s6 ((n3.good0 F3).flOk prM) (n3.sm F3) ((F3.red prM (x := [0, -1]) (by simp)).sm F3)) ?_
  rintro _ h7 ⟨hle7, rv7, rfl, hr7⟩
  obtain ⟨r1, r2, r3, rfl, hr7'⟩ := id hr7
  have e0 : ((0 : Int) : Rat) = 0 := rfl
  have e1 : ((-1 : Int) : Rat) = -1 := rfl
  rw [e0, e1] at hr7
  rw [e0, e1, maj_red.1]
  rw [maj_red.1] at hr7
  have dG7 := ((dG4.mono hle5).mono hle6).mono hle7
  simp only [go_sem, Nat.reduceBEq, Nat.reduceAdd, Int.reduceNeg, Array.reduceGetElem?, ↓reduceIte, dG7.l2, hsl, pl10]
  refine callK_intro c_Major ?_
  rintro mv2 h8 ⟨hle8, hmv2⟩
  obtain ⟨k1, k2, k3, k4, k5, k6, rfl, hk1, hk2⟩ := hmv2.form
  have dG8 := dG7.mono hle8
  have hle38 := ((((hleG.trans hle4).trans hle5).trans hle6).trans hle7).trans hle8
  have hl8 := ((((hlv.mono hle5).mono hle6).mono hle7).mono hle8)
  obtain ⟨_, x, hx1, hx2, hx3⟩ := hl8.get (i := 2) (l := [8, -5]) (by rw [maj_steps]; rfl)
  obtain ⟨y1, y2, y3, rfl, _⟩ := id hx2
  simp only [go_sem, Nat.reduceBEq, Nat.reduceAdd, Int.reduceNeg, Array.reduceGetElem?, dG8.l2, hsl]
  refine callK_intro (c_same (q4.mono hle38) hk1 (.inl (q5.mono hle38)) (.inl hk2) rfl rfl (by decide) (by decide) (by decide)) ?_
  rintro _ h9 ⟨hle9, rfl⟩
  have dG9 := dG8.mono hle9
  have hx9 := load_mono hle9 hx1
  simp only [go_sem, Nat.reduceBEq, Nat.reduceAdd, Nat.reduceLeDiff, Nat.reduceLT, Int.reduceNeg, Int.reduceLT, Int.reduceLE, Int.reduceToNat, Array.reduceGetElem?, ↓reduceIte, hsl, hx9]
  refine callK_intro (c_whole2 8 (-5) (by decide) (by decide)) ?_
  rintro _ h10 ⟨hle10, g10, o10, c10, rfl, s10⟩
  have dG10 := dG9.mono hle10
  have hx10 := load_mono hle10 hx9
  simp only [go_sem, Nat.reduceBEq, Nat.reduceAdd, Int.reduceNeg, Array.reduceGetElem?, hsl, hx10]
  have e8 : ((8 : Int) : Rat) = 8 := rfl
  have e5 : ((-5 : Int) : Rat) = -5 := rfl
  rw [e8, e5] at s10
  refine callK_intro (c_Equal ((hx2.mono hle9).mono hle10) s10 (by decide)) ?_
  rintro _ h11 ⟨hle11, rfl⟩
  have dG11 := dG10.mono hle11
  have hx11 := load_mono hle11 hx10
  simp only [go_sem, Nat.reduceBEq, Nat.reduceAdd, Nat.reduceLeDiff, Nat.reduceLT, Int.reduceNeg, Array.reduceGetElem?, ↓reduceIte, hsl]
  refine callK_intro (c_whole2 2 (-1) (by decide) (by decide)) ?_
  rintro _ h12 ⟨hle12, g12, o12, c12, rfl, s12⟩
  have dG12 := dG11.mono hle12
  have hx12 := load_mono hle12 hx11
  simp only [go_sem, Nat.reduceBEq, Nat.reduceAdd, Int.reduceNeg, Array.reduceGetElem?, hsl]
  have e2 : ((2 : Int) : Rat) = 2 := rfl
  rw [e2, e1] at s12
  have hr12 := ((((hr7.mono hle8).mono hle9).mono hle10).mono hle11).mono hle12
  refine callK_intro (c_Equal hr12 s12 (by decide)) ?_
  rintro _ h13 ⟨hle13, rfl⟩
  have dG13 := dG12.mono hle13
  have hx13 := load_mono hle13 hx12
  have ee : enc (-2) = ⟨#[45, 50]⟩ := by decide
  simp only [go_sem, Nat.reduceBEq, Nat.reduceAdd, Int.reduceNeg, Array.reduceGetElem?, ↓reduceIte, hsl, maj_red.2, ee]
  exact (((((((((hle0.trans hle1).trans hle2).trans hle3).trans hle38).trans hle9).trans hle10).trans hle11).trans hle12).trans hle13)
end Go.Proofs.Gh
