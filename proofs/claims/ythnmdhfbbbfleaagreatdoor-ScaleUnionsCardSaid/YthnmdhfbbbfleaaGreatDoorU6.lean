/- Part 6 of a proof: walks of the program in a small memory, plain lemmas. -/
import Derived.Attr
import Derived.Test.YthnmdhfbbbfleaaGreatDoorU3
import Derived.Test.YthnmdhfbbbfleaaGreatDoorU4
import Derived.Test.YthnmdhfbbbfleaaGreatDoorU5
set_option linter.all false
namespace Go.Proofs.Gh
attribute [go_sem] Nat.le_refl List.getElem?_cons_zero List.getElem?_cons_succ Bool.or_true Bool.or_false Bool.true_or Bool.false_or Bool.and_true Bool.and_false Bool.true_and Bool.false_and decide_true decide_false Int.cast_ofNat_Int
end Go.Proofs.Gh
namespace Go.Proofs.Zz
/-! Texts of small integers. -/
theorem enc_toList (z : Int) : (enc z).data.toList = encL z := by rw [enc, bs_toList]
theorem enc_size (z : Int) : (enc z).size = (encL z).length := by rw [enc, bs_size]
theorem encL_neg {z : Int} (h : z < 0) : encL z = 45 :: digs z.natAbs := by rw [encL, if_pos h]
theorem encL_pos {z : Int} (h : 0 ≤ z) : encL z = digs z.natAbs := by rw [encL, if_neg (by omega)]
theorem encL_len {z : Int} {k : Nat} (hk : 0 < k) (h : z.natAbs < 10 ^ k) : (encL z).length ≤ k + 1 := by
  have := (digs_length_le (n := z.natAbs) hk).2 h
  unfold encL
  split
  · simp; omega
  · omega
theorem encL_len0 {z : Int} {k : Nat} (hk : 0 < k) (hz : 0 ≤ z) (h : z.natAbs < 10 ^ k) : (encL z).length ≤ k := by
  rw [encL_pos hz]
  exact (digs_length_le hk).2 h
theorem enc_size_le {z : Int} {k : Nat} (hk : 0 < k) (h : z.natAbs < 10 ^ k) : (enc z).size ≤ k + 1 := by rw [enc_size]; exact encL_len hk h
theorem enc_size_le0 {z : Int} {k : Nat} (hk : 0 < k) (hz : 0 ≤ z) (h : z.natAbs < 10 ^ k) : (enc z).size ≤ k := by rw [enc_size]; exact encL_len0 hk hz h
/-- the first byte -/
theorem enc_first (z : Int) : ∃ c, (enc z).data.toList[0]? = some c ∧ (c = 45 ↔ z < 0) ∧ (0 ≤ z → 48 ≤ c.toNat ∧ c.toNat ≤ 57) := by
  rw [enc_toList]
  unfold encL
  split
  · exact ⟨45, rfl, by simp [*], by omega⟩
  · cases hd : digs z.natAbs with
    | nil => exact absurd hd (digs_ne_nil _)
    | cons c l =>
      have := digs_all z.natAbs c (by rw [hd]; exact List.mem_cons_self)
      refine ⟨c, rfl, ?_, fun _ => this⟩
      constructor
      · rintro rfl; simp at this
      · intro h; omega
theorem enc_head (z : Int) : ∃ c, (enc z).data.toList[0]? = some c ∧ decide ((c.toNat : Int) = 45) = decide (z < 0) ∧ (0 ≤ z → 48 ≤ c.toNat ∧ c.toNat ≤ 57) := by
  obtain ⟨c, h1, h2, h3⟩ := enc_first z
  refine ⟨c, h1, ?_, h3⟩
  rw [decide_eq_decide, ← h2, ← UInt8.toNat_inj]
  show _ ↔ c.toNat = 45
  omega
theorem enc_pos_d (z : Int) : decide ((0 : Int) < ((enc z).size : Int)) = true := by
  have := enc_size_pos z
  rw [decide_eq_true_iff]
  omega
theorem enc_size_ge (z : Int) : 1 ≤ (enc z).size := enc_size_pos z
theorem enc_eq_zero {z : Int} : enc z = ⟨#[48]⟩ ↔ z = 0 := by rw [← enc_zero, enc_inj]
theorem enc_eq_one {z : Int} : enc z = ⟨#[49]⟩ ↔ z = 1 := by rw [← enc_one, enc_inj]
theorem enc_ext (z : Int) (h : z < 0) : (enc z).extract 1 (enc z).size = enc (-z) := by
  have e1 : encL z = 45 :: encL (-z) := by
    rw [encL_neg h, encL_pos (by omega), Int.natAbs_neg]
  apply ByteArray.ext
  apply Array.ext'
  rw [ByteArray.data_extract, Array.toList_extract, List.extract_eq_take_drop, enc_toList, enc_toList, enc_size, e1]
  simp
theorem enc_minus {n : Nat} (h : 0 < n) : ByteArray.mk #[45] ++ enc (n : Int) = enc (-(n : Int)) := by
  apply ByteArray.ext
  apply Array.ext'
  rw [ByteArray.data_append, Array.toList_append, enc_toList, enc_toList, encL_neg (z := -(n : Int)) (by omega), encL_pos (by omega)]
  simp
theorem minus_size {n : Nat} (h : (enc n).size ≤ 1000000000000) : (ByteArray.mk #[45]).size + (enc n).size ≤ 4611686018427387904 := by
  have : (ByteArray.mk #[45]).size = 1 := rfl
  omega
end Go.Proofs.Zz
namespace Go.Proofs.Zz
/-! Rational numbers with a common denominator. -/
def Bd (D B : Nat) (q : Rat) : Prop := ∃ z : Int, q = mkRat z D ∧ z.natAbs ≤ B
variable {D B : Nat} {q r : Rat}
theorem Bd.mono {B' : Nat} (h : Bd D B q) (hb : B ≤ B') : Bd D B' q := by
  obtain ⟨z, rfl, hz⟩ := h
  exact ⟨z, rfl, Nat.le_trans hz hb⟩
theorem Bd.den (hD : 0 < D) (h : Bd D B q) : q.den ∣ D := by
  obtain ⟨z, rfl, _⟩ := h
  rw [Rat.den_mkRat, if_neg (by omega)]
  exact Nat.div_dvd_of_dvd (Nat.gcd_dvd_left _ _)
theorem Bd.den_le (hD : 0 < D) (h : Bd D B q) : q.den ≤ D := Nat.le_of_dvd hD (h.den hD)
theorem Bd.num (hD : 0 < D) (h : Bd D B q) : q.num.natAbs ≤ B := by
  obtain ⟨z, rfl, hz⟩ := h
  rw [Rat.num_mkRat, if_neg (by omega)]
  have : (z / (D.gcd z.natAbs : Nat)).natAbs ≤ z.natAbs := Int.natAbs_ediv_le_natAbs _ _
  omega
theorem Bd.add {B' : Nat} (hD : 0 < D) (h : Bd D B q) (h' : Bd D B' r) : Bd D (B + B') (q + r) := by
  obtain ⟨z, rfl, hz⟩ := h
  obtain ⟨y, rfl, hy⟩ := h'
  refine ⟨z + y, ?_, by omega⟩
  rw [Rat.mkRat_add_mkRat _ _ (by omega) (by omega), ← Int.add_mul, Rat.mkRat_mul_right (by omega)]
theorem Bd.mul_int (hD : 0 < D) (h : Bd D B q) (k : Int) : Bd D (B * k.natAbs) (q * (k : Rat)) := by
  obtain ⟨z, rfl, hz⟩ := h
  refine ⟨z * k, ?_, by rw [Int.natAbs_mul]; exact Nat.mul_le_mul_right _ hz⟩
  have : (k : Rat) = mkRat k 1 := by rw [← Rat.mkRat_self (k : Rat)]; rfl
  rw [this, Rat.mkRat_mul_mkRat, Nat.mul_one]
theorem Bd.zero : Bd D B 0 := ⟨0, by simp, by simp⟩
/-- the number over the common denominator -/
def ov (D : Nat) (q : Rat) : Int := q.num * (D / q.den : Nat)
theorem Bd.ov (hD : 0 < D) (h : Bd D B q) : q = mkRat (ov D q) D ∧ (ov D q).natAbs ≤ B := by
  obtain ⟨z, rfl, hz⟩ := h
  have e : Zz.ov D (mkRat z D) = z := by
    unfold Zz.ov
    rw [Rat.num_mkRat, Rat.den_mkRat, if_neg (by omega), if_neg (by omega)]
    have hg : 0 < D.gcd z.natAbs := Nat.gcd_pos_of_pos_left _ hD
    obtain ⟨a, ha⟩ := Nat.gcd_dvd_left D z.natAbs
    obtain ⟨b, hb⟩ : ((D.gcd z.natAbs : Nat) : Int) ∣ z := Int.ofNat_dvd_left.2 (Nat.gcd_dvd_right D z.natAbs)
    generalize D.gcd z.natAbs = g at *
    have ha0 : 0 < a := by rcases Nat.eq_zero_or_pos a with h | h
                           · subst h; omega
                           · exact h
    subst ha
    rw [Nat.mul_div_cancel_left _ hg, Nat.mul_div_cancel _ ha0]
    subst hb
    rw [Int.mul_ediv_cancel_left _ (by omega), Int.mul_comm]
  rw [e]
  exact ⟨rfl, hz⟩
end Go.Proofs.Zz
namespace Go.Proofs.Gh
open Go Go.Proofs Go.Proofs.Zz
theorem tdiv_lit (a b : Nat) : ((a : Nat) : Int).tdiv (no_index (OfNat.ofNat b)) = ((a / OfNat.ofNat b : Nat) : Int) := rfl
theorem tmod_lit (a b : Nat) : ((a : Nat) : Int).tmod (no_index (OfNat.ofNat b)) = ((a % OfNat.ofNat b : Nat) : Int) := rfl
theorem setL_full : ∀ {vs old : List Value}, vs.length = old.length → setL old 0 vs = vs := by
  have key : ∀ (vs pre old : List Value), vs.length = old.length → setL (pre ++ old) pre.length vs = pre ++ vs := by
    intro vs
    induction vs with
    | nil => intro pre old h; cases old with
      | nil => rfl
      | cons _ _ => cases h
    | cons v vs ih =>
      intro pre old h
      cases old with
      | nil => cases h
      | cons o old =>
        have := ih (pre ++ [v]) old (by simpa using h)
        simp only [setL, set_mid]
        rw [List.append_assoc, List.length_append] at this
        simpa using this
  intro vs old h
  exact key vs [] old h
section
variable {P : Program} {E : GE} {pl : Plans} {c : Code} {Q : GQ} {ts : TS} {h : GH}
/-- a loop, one round taken -/
theorem loopK_unroll (hs : gwp P E pl c (gthen (fun ts' h' => loopK P E pl c Q ts' h') Q) ts h) : loopK P E pl c Q ts h := by
  obtain ⟨e, t, g, h1, h2⟩ := gwp_det c hs
  cases e with
  | normal =>
    obtain ⟨n, hn⟩ : loopK P E pl c Q t g := h1
    refine ⟨n + 1, gwp_mono c ?_ h2⟩
    rintro e' t' g' ⟨rfl, rfl, rfl⟩
    exact hn
  | _ =>
    refine ⟨1, gwp_mono c ?_ h2⟩
    rintro e' t' g' ⟨rfl, rfl, rfl⟩
    exact h1
/-- the value of an operation -/
theorem optK_intro {x : Option Value} {K : Value → Prop} {v : Value} (hx : x = some v) (hk : K v) : optK x K := by subst hx; exact hk
/-- a block whose middle is written cell by cell -/
def Blk (pre l post : List Value) : GB := ⟨pre ++ l ++ post, true, false⟩
theorem GH.ext' {h h' : GH} (hn : h.n = h'.n) (hb : ∀ g, h.b g = h'.b g) : h = h' := by
  cases h
  cases h'
  simp only [GH.mk.injEq] at *
  exact ⟨hn, funext hb⟩
theorem upd_upd (h : GH) (g : Nat) (x y : GB) : (h.upd g x).upd g y = h.upd g y := by
  apply GH.ext'
  · rfl
  · intro g'
    rw [GH.upd_b, GH.upd_b, GH.upd_b]
    split <;> rfl
theorem upd_id {h : GH} {g : Nat} {x : GB} (hx : h.b g = x) : h.upd g x = h := by
  apply GH.ext'
  · rfl
  · intro g'
    rw [GH.upd_b]
    split
    · rename_i e; rw [e, hx]
    · rfl
theorem store_blk {g j : Nat} {pre l post : List Value} {v : Value} (hg : g < h.n) (hj : j < l.length) (hv : Value.oneCell' v = true) :
    (h.upd g (Blk pre l post)).store g (pre.length + j) [v] = some (h.upd g (Blk pre (l.set j v) post)) := by
  unfold Blk
  rw [store_at (cells := pre ++ l ++ post) (by exact hg) (upd_self _ _ _) (by simp; omega) (by simp [hv]), upd_upd, setL_one]
  rw [List.append_assoc, List.set_append_right _ _ (by omega), Nat.add_sub_cancel_left, List.set_append_left _ _ hj, List.append_assoc]
theorem store_blk_int {g j : Nat} {pre l post : List Value} {k : IntKind} {x : Int} (hg : g < h.n) (hj : j < l.length) :
    (h.upd g (Blk pre l post)).store g (pre.length + j) [.int k x] = some (h.upd g (Blk pre (l.set j (.int k x)) post)) := store_blk hg hj rfl
theorem store_blk_int0 {g : Nat} {pre l post : List Value} {a : Value} {k : IntKind} {x : Int} (hg : g < h.n) :
    (h.upd g (Blk pre (a :: l) post)).store g pre.length [.int k x] = some (h.upd g (Blk pre (.int k x :: l) post)) := store_blk (j := 0) hg (by simp) rfl
theorem load_blk {g j : Nat} {pre l post : List Value} {v : Value} (hg : g < h.n) (hv : l[j]? = some v) :
    (h.upd g (Blk pre l post)).load g (pre.length + j) 1 = some [v] := by
  have hj := (List.getElem?_eq_some_iff.1 hv).1
  refine load_one_at (cells := pre ++ l ++ post) hg (upd_self _ _ _) ?_
  rw [List.append_assoc, List.getElem?_append_right (by omega), Nat.add_sub_cancel_left, List.getElem?_append_left hj, hv]
theorem cells_store {g : Nat} {old vs : List Value} (hg : g < h.n) (hb : h.b g = ⟨old, true, false⟩) (hl : vs.length = old.length) (hv : vs.all Value.oneCell' = true) : h.store g 0 vs = some (h.upd g ⟨vs, true, false⟩) := by
  rw [store_at hg hb (by omega) hv, setL_full hl]
theorem cells_load {g n : Nat} {vs : List Value} (hg : g < h.n) (hn : n = vs.length) : (h.upd g ⟨vs, true, false⟩).load g 0 n = some vs := by
  subst hn
  exact load_at (cells := vs) (ro := false) hg (upd_self _ _ _) (by omega) (by simp)
theorem cell2_store {g : Nat} {a b : Value} {x y : ByteArray} (hg : g < h.n) (hb : h.b g = ⟨[a, b], true, false⟩) : h.store g 0 [.string x, .string y] = some (h.upd g ⟨[.string x, .string y], true, false⟩) := cells_store hg hb rfl rfl
theorem cell2_load {g : Nat} {x y : ByteArray} (hg : g < h.n) : (h.upd g ⟨[.string x, .string y], true, false⟩).load g 0 2 = some [.string x, .string y] := cells_load hg rfl
theorem alloc_upd (x y : GB) : (h.alloc x).upd h.n y = h.alloc y := by
  apply GH.ext'
  · rfl
  · intro g
    rw [GH.upd_b, GH.alloc_b, GH.alloc_b]
    split <;> rfl
@[go_sem] theorem alloc_store2 {a b : Value} {x y : ByteArray} : (h.alloc ⟨[a, b], true, false⟩).store h.n 0 [.string x, .string y] = some (h.alloc ⟨[.string x, .string y], true, false⟩) := by
  rw [cell2_store (Nat.lt_succ_self _) (alloc_self _ _), alloc_upd]
@[go_sem] theorem alloc_load20 {a b : Value} {ro : Bool} : (h.alloc ⟨[a, b], true, ro⟩).load h.n 0 1 = some [a] := load_one_at (Nat.lt_succ_self _) (alloc_self _ _) rfl
@[go_sem] theorem alloc_load21 {a b : Value} {ro : Bool} : (h.alloc ⟨[a, b], true, ro⟩).load h.n 1 1 = some [b] := load_one_at (Nat.lt_succ_self _) (alloc_self _ _) rfl
@[go_sem] theorem alloc_load22 {a b : Value} {ro : Bool} : (h.alloc ⟨[a, b], true, ro⟩).load h.n 0 2 = some [a, b] := load_at (Nat.lt_succ_self _) (alloc_self _ _) (by simp) rfl
@[go_sem] theorem alloc_load1 {a : Value} {ro : Bool} : (h.alloc ⟨[a], true, ro⟩).load h.n 0 1 = some [a] := load_one_at (Nat.lt_succ_self _) (alloc_self _ _) rfl
theorem gSlice_arr {t e len w l u g o : Nat} {b : Bool} {lo hi : Option Value} (ha : ak P t = some (len, e)) (ht : tk P e = some (b, w)) (hl : gBd 0 lo = some l) (hu : gBd len hi = some u) (h1 : l ≤ u) (h2 : u ≤ len) (h3 : len < unk) :
    gSlice P t (.pointer (some ⟨g, o, none⟩)) lo hi none = some (.slice (some ⟨g, o + l * w, none⟩) (u - l) (len - l)) := by
  simp only [gSlice, ha, ht, hl, hu]
  rw [if_pos ⟨h1, h2, h3⟩]
theorem bytesV_map (l : List UInt8) : bytesV (l.map fun c => Value.int .u8 (c.toNat : Int)) = some l := by
  induction l with
  | nil => rfl
  | cons c l ih =>
    rw [List.map_cons]
    simp only [bytesV, ih, Option.map_some, Int.toNat_natCast, UInt8.ofNat_toNat]
theorem gConv_str {s d e g o n c : Nat} {l : List UInt8} (hs : P.underlying s = some (.slice e)) (hd : P.underlying d = some .string) (he : P.underlying e = some (.int .u8)) (hn : n ≠ 0) (hl : h.load g o n = some (l.map fun c => Value.int .u8 (c.toNat : Int))) :
    gConv P s d (.slice (some ⟨g, o, none⟩) n c) h = some (.string (bs l), h) := by
  simp only [gConv, hs, hd, he, hl, bytesV_map]
  rw [if_neg hn]
  rfl
theorem load_blk_n {g : Nat} {pre l post : List Value} (hg : g < h.n) (hb : h.b g = Blk pre l post) : h.load g pre.length l.length = some l := by
  refine load_at (cells := pre ++ l ++ post) (ro := false) hg hb (by simp) ?_
  rw [List.append_assoc, List.drop_left, List.take_left]
end
end Go.Proofs.Gh
namespace Go.Proofs.Gh
open Go Go.Proofs Go.Proofs.Zz
set_option maxRecDepth 10000
set_option linter.unusedSimpArgs false
theorem mixed : Tryz.prog.follows .mixedOrders = true := by decide +kernel
/-- the told variables lie in the ghost's memory -/
def Gl (h : GH) : Prop := gE.n ≤ h.n ∧ ∀ g, g < gE.n → h.b g = gE.b g
theorem Gl.mono {h h' : GH} (g : Gl h) (hl : h.le h') : Gl h' :=
  ⟨Nat.le_trans g.1 hl.1, fun k hk => (hl.2 k (Nat.lt_of_lt_of_le hk g.1)).trans (g.2 k hk)⟩
theorem gl_elim {P : Program} {f : FuncId} {args : Array Value} {h : GH} {Φ : Value → GH → Prop} (he : ent P f = true) (hx : Gl h → ∃ r h', GCalls P gE f args h r h' ∧ Φ r h') (hn : ∃ r h', Φ r h') : ∃ r h', GCalls P gE f args h r h' ∧ Φ r h' := by
  by_cases hg : Gl h
  · exact hx hg
  · obtain ⟨r, h', hp⟩ := hn
    exact ⟨r, h', ⟨he, fun w0 B μ w args hi hb => absurd ⟨hb.1, fun g hg => (hb.2 g hg).2⟩ hg⟩, hp⟩
/-- the text of an integer -/
abbrev istr (z : Int) : Value := .string (enc z)
theorem c_split {h : GH} (z : Int) : ∃ r h', GCalls Tryz.prog gE 180 #[istr z] h r h' ∧ h.le h' ∧ r = .tuple #[.bool (decide (z < 0)), istr z.natAbs] := by
  obtain ⟨c, hc, hd, -⟩ := enc_head z
  refine gcalls_in (pl := pl180) [.tmp 2, .tmp 3] mixed Tryz.func180 rfl rfl (by exact ok180) ?_
  simp only [go_sem, Nat.reduceBEq, Int.reduceLE, Int.reduceToNat, Array.reduceGetElem?, ↓reduceIte, enc_pos_d, hc, hd]
  refine ifK_intro ?_ ?_
  · intro h1
    have h1' := of_decide_eq_true h1
    have hs := enc_ext z h1'
    simp only [go_sem, Nat.reduceBEq, Int.reduceLE, Int.reduceToNat, Array.reduceGetElem?, ↓reduceIte, h1, hs, enc_size_ge, pl180]
    refine ⟨GH.le.refl _, ?_⟩
    rw [show ((z.natAbs : Nat) : Int) = -z by omega]
  · intro h1
    simp only [go_sem, Nat.reduceBEq, h1]
    have h1' := of_decide_eq_false h1
    refine ⟨GH.le.refl _, ?_⟩
    rw [show ((z.natAbs : Nat) : Int) = z by omega]
theorem c_join {h : GH} (b : Bool) (n : Nat) (hn : (enc n).size ≤ 1000000000000) : ∃ r h', GCalls Tryz.prog gE 181 #[.bool b, istr n] h r h' ∧ h.le h' ∧ r = istr (if b then -n else n) := by
  refine gcalls_in (pl := noPl) [.tmp 4] mixed Tryz.func181 rfl rfl (by exact ok181) ?_
  simp only [go_sem, Nat.reduceBEq, Array.reduceGetElem?]
  refine ifK_intro ?_ ?_
  · rintro rfl
    simp only [go_sem, Nat.reduceBEq, Array.reduceGetElem?, ↓reduceIte]
    refine ifK_intro ?_ ?_
    · intro h1
      have h0 : 0 < n := by
        have := of_decide_eq_true h1
        rcases Nat.eq_zero_or_pos n with h | h
        · subst h; exact absurd enc_zero this
        · exact h
      simp only [go_sem, Nat.reduceBEq, ↓reduceIte, h1, minus_size hn, enc_minus h0]
      exact GH.le.refl _
    · intro h1
      simp only [go_sem, Nat.reduceBEq, ↓reduceIte, h1]
      have h0 : (n : Int) = 0 := enc_eq_zero.1 (Decidable.not_not.1 (of_decide_eq_false h1))
      refine ⟨GH.le.refl _, ?_⟩
      rw [h0]; rfl
  · rintro rfl
    simp only [go_sem, Nat.reduceBEq, Array.reduceGetElem?, ↓reduceIte]
    exact GH.le.refl _
end Go.Proofs.Gh
namespace Go.Proofs.Gh
open Go Go.Proofs Go.Proofs.Zz
set_option maxRecDepth 10000
set_option linter.unusedSimpArgs false
/-! tables in texts -/
def smallsB : ByteArray := bs ((List.range 100).flatMap fun k => [UInt8.ofNat (48 + k / 10), UInt8.ofNat (48 + k % 10)])
def digitsB : ByteArray := bs [48, 49, 50, 51, 52, 53, 54, 55, 56, 57, 97, 98, 99, 100, 101, 102, 103, 104, 105, 106, 107, 108, 109, 110, 111, 112, 113, 114, 115, 116, 117, 118, 119, 120, 121, 122]
theorem sliT_intro {B B' : ByteArray} {a z : Nat} {zo : Option Nat} {K : Value → Prop} (hB : B = B') (hz : zo = some z) (haz : a ≤ z) (hzs : z ≤ B'.size) (hk : K (.string (B'.extract a z))) : optK (gSliT (some .string) B (some a) zo) K := by
  subst hB hz
  rw [gSliT_str, if_pos ⟨haz, hzs⟩]
  exact hk
theorem smalls_ext : ∀ n, n < 100 → 10 ≤ n → smallsB.extract (2 * n) (2 * n + 2) = enc n := by
  have : ∀ n : Fin 100, 10 ≤ n.1 → smallsB.extract (2 * n.1) (2 * n.1 + 2) = enc n.1 := by decide +kernel
  intro n h1 h2
  exact this ⟨n, h1⟩ h2
theorem digits_ext : ∀ n, n < 10 → digitsB.extract n (n + 1) = enc n := by
  have : ∀ n : Fin 10, digitsB.extract n.1 (n.1 + 1) = enc n.1 := by decide +kernel
  intro n h1
  exact this ⟨n, h1⟩
theorem smalls_size : smallsB.size = 200 := by decide +kernel
theorem digits_size : digitsB.size = 36 := by decide +kernel
theorem c_smallS {h : GH} (n : Nat) (hn : n < 100) : ∃ r h', GCalls Tryz.prog gE 235 #[.int .i64 n] h r h' ∧ h.le h' ∧ r = .string (enc n) := by
  refine gcalls_in (pl := noPl) [.tmp 2] mixed Tryz.func235 rfl rfl (by exact ok235) ?_
  simp only [go_sem, Nat.reduceBEq]
  refine ifK_intro ?_ ?_
  · intro h1
    have h1' := of_decide_eq_true h1
    have e : (if (0 : Int) ≤ IntKind.i64.wrap ((n : Int) + 1) then some (IntKind.i64.wrap ((n : Int) + 1)).toNat else none) = some (n + 1) := by
      rw [wrap_i64 (by omega) (by omega), if_pos (by omega)]
      rfl
    simp only [go_sem, Nat.reduceBEq, ↓reduceIte, h1]
    refine sliT_intro (B' := digitsB) rfl e (by omega) (by rw [digits_size]; omega) ?_
    simp only [go_sem, h1]
    exact ⟨GH.le.refl _, by rw [digits_ext n (by omega)]⟩
  · intro h1
    have h1' := of_decide_eq_false h1
    have ha : ((n : Int) * 2).toNat = 2 * n := by omega
    have ha2 : ((n : Int) * 2 + 2).toNat = 2 * n + 2 := by omega
    have ha3 : (0 : Int) ≤ (n : Int) * 2 + 2 := by omega
    have ha4 : (0 : Int) ≤ (n : Int) * 2 := by omega
    simp (disch := first | omega | (simp only [List.length_cons, List.length_nil, List.length_set]; omega)) only [go_sem, Nat.reduceBEq, ↓reduceIte, h1, wrap_i64, ha, ha2, ha3, ha4]
    refine sliT_intro (B' := smallsB) rfl rfl (by omega) (by rw [smalls_size]; omega) ?_
    simp only [go_sem, h1]
    exact ⟨GH.le.refl _, by rw [smalls_ext n hn (by omega)]⟩
/-- the lengths of bytes in binary digits -/
def len8B : ByteArray := bs ((List.range 256).map fun k => UInt8.ofNat (if k = 0 then 0 else Nat.log2 k + 1))
theorem len8_at {n : Nat} (h : n < 256) : ∃ c, len8B.data.toList[n]? = some c ∧ n < 2 ^ c.toNat ∧ (n = 0 ∨ 2 ^ (c.toNat - 1) ≤ n) ∧ c.toNat ≤ 8 := by
  have : ∀ n : Fin 256, ∃ c, len8B.data.toList[n.1]? = some c ∧ n.1 < 2 ^ c.toNat ∧ (n.1 = 0 ∨ 2 ^ (c.toNat - 1) ≤ n.1) ∧ c.toNat ≤ 8 := by
    intro n
    have h : ∀ n : Fin 256, (match len8B.data.toList[n.1]? with | some c => decide (n.1 < 2 ^ c.toNat) && (decide (n.1 = 0) || decide (2 ^ (c.toNat - 1) ≤ n.1)) && decide (c.toNat ≤ 8) | none => false) = true := by decide +kernel
    have := h n
    split at this
    · rename_i c hc
      simp only [Bool.and_eq_true, Bool.or_eq_true, decide_eq_true_eq] at this
      exact ⟨c, hc, this.1.1, this.1.2, this.2⟩
    · cases this
  exact this ⟨n, h⟩
theorem idxT_intro {B : List UInt8} {B' : ByteArray} {i : Nat} {c : UInt8} {K : Value → Prop} (hB : B = B'.data.toList) (hc : B'.data.toList[i]? = some c) (hk : K (.int .u8 c.toNat)) :
    optK (Option.map (fun b => Value.int .u8 (b.toNat : Int)) B[i]?) K := by
  subst hB
  rw [hc]
  exact hk
theorem len_up {n m L s : Nat} (hm : m = n / 2 ^ s) (h1 : m < 2 ^ L) (h2 : 2 ^ (L - 1) ≤ m) (h0 : 0 < m) : n < 2 ^ (L + s) ∧ 2 ^ (L + s - 1) ≤ n := by
  subst hm
  have hL : 0 < L := by
    rcases Nat.eq_zero_or_pos L with h | h
    · subst h; rw [Nat.pow_zero] at h1; omega
    · exact h
  constructor
  · rw [Nat.pow_add]
    exact (Nat.div_lt_iff_lt_mul (Nat.pow_pos (by decide))).1 h1
  · rw [show L + s - 1 = (L - 1) + s by omega, Nat.pow_add]
    exact (Nat.le_div_iff_mul_le (Nat.pow_pos (by decide))).1 h2
theorem shr_nat (n k : Nat) (hk : min k 64 = k) : (n : Int).fdiv (2 ^ min k 64) = ((n / 2 ^ k : Nat) : Int) := by
  rw [hk, Int.fdiv_eq_ediv_of_nonneg _ (Int.le_of_lt (Int.pow_pos (by decide)))]
  norm_cast
theorem c_len64 {h : GH} (n : Nat) (hn : n < 4294967296) : ∃ r h', GCalls Tryz.prog gE 140 #[.int .u64 n] h r h' ∧ h.le h' ∧ ∃ L : Nat, r = .int .i64 L ∧ n < 2 ^ L ∧ (n = 0 ∨ 2 ^ (L - 1) ≤ n) ∧ L ≤ 32 := by
  have h0 : ¬ (4294967296 : Int) ≤ n := by omega
  refine gcalls_in (pl := noPl) [.tmp 2] mixed Tryz.func140 rfl rfl (by exact ok140) ?_
  simp only [go_sem, Nat.reduceBEq, h0, decide_false]
  refine ifK_intro ?_ ?_
  · intro h1
    have e1 : (n : Int).fdiv (2 ^ min 16 64) = ((n / 65536 : Nat) : Int) := shr_nat n 16 rfl
    have h1' := of_decide_eq_true h1
    simp only [go_sem, Nat.reduceBEq, Int.reduceAdd, Int.reduceLE, Int.reduceToNat, ↓reduceIte, e1]
    refine ifK_intro ?_ ?_
    · intro h2
      have h2' := of_decide_eq_true h2
      have e2 : ((n / 65536 : Nat) : Int).fdiv (2 ^ min 8 64) = ((n / 65536 / 256 : Nat) : Int) := shr_nat _ 8 rfl
      obtain ⟨c, hc, k1, k2, k3⟩ := len8_at (n := n / 65536 / 256) (by omega)
      simp (disch := first | omega | (simp only [List.length_cons, List.length_nil, List.length_set]; omega)) only [go_sem, Nat.reduceBEq, Int.reduceAdd, Int.reduceLE, Int.reduceToNat, ↓reduceIte, e2, wrap_u8, wrap_i64]
      refine idxT_intro (B' := len8B) rfl hc ?_
      simp (disch := first | omega | (simp only [List.length_cons, List.length_nil, List.length_set]; omega)) only [go_sem, Nat.reduceBEq, h1, h2, wrap_i64]
      have := len_up (s := 24) (n := n) (by omega) k1 (by omega) (by omega)
      exact ⟨GH.le.refl _, c.toNat + 24, by congr 1; omega, this.1, .inr this.2, by omega⟩
    · intro h2
      have h2' := of_decide_eq_false h2
      obtain ⟨c, hc, k1, k2, k3⟩ := len8_at (n := n / 65536) (by omega)
      simp (disch := first | omega | (simp only [List.length_cons, List.length_nil, List.length_set]; omega)) only [go_sem, Nat.reduceBEq, ↓reduceIte, wrap_u8, wrap_i64]
      refine idxT_intro (B' := len8B) rfl hc ?_
      simp (disch := first | omega | (simp only [List.length_cons, List.length_nil, List.length_set]; omega)) only [go_sem, Nat.reduceBEq, h1, h2, wrap_i64]
      have := len_up (s := 16) (n := n) (by omega) k1 (by omega) (by omega)
      exact ⟨GH.le.refl _, c.toNat + 16, by congr 1; omega, this.1, .inr this.2, by omega⟩
  · intro h1
    have h1' := of_decide_eq_false h1
    simp only [go_sem, Nat.reduceBEq]
    refine ifK_intro ?_ ?_
    · intro h2
      have h2' := of_decide_eq_true h2
      have e2 : (n : Int).fdiv (2 ^ min 8 64) = ((n / 256 : Nat) : Int) := shr_nat _ 8 rfl
      obtain ⟨c, hc, k1, k2, k3⟩ := len8_at (n := n / 256) (by omega)
      simp (disch := first | omega | (simp only [List.length_cons, List.length_nil, List.length_set]; omega)) only [go_sem, Nat.reduceBEq, Int.reduceAdd, Int.reduceLE, Int.reduceToNat, ↓reduceIte, e2, wrap_u8, wrap_i64]
      refine idxT_intro (B' := len8B) rfl hc ?_
      simp (disch := first | omega | (simp only [List.length_cons, List.length_nil, List.length_set]; omega)) only [go_sem, Nat.reduceBEq, h1, h2, wrap_i64]
      have := len_up (s := 8) (n := n) (by omega) k1 (by omega) (by omega)
      exact ⟨GH.le.refl _, c.toNat + 8, by congr 1; omega, this.1, .inr this.2, by omega⟩
    · intro h2
      have h2' := of_decide_eq_false h2
      obtain ⟨c, hc, k1, k2, k3⟩ := len8_at (n := n) (by omega)
      simp (disch := first | omega | (simp only [List.length_cons, List.length_nil, List.length_set]; omega)) only [go_sem, Nat.reduceBEq, ↓reduceIte, wrap_u8]
      refine idxT_intro (B' := len8B) rfl hc ?_
      simp (disch := first | omega | (simp only [List.length_cons, List.length_nil, List.length_set]; omega)) only [go_sem, Nat.reduceBEq, h1, h2, wrap_i64]
      exact ⟨GH.le.refl _, c.toNat, by congr 1; omega, k1, k2, by omega⟩
theorem c_log10Pow2 {h : GH} (x : Nat) (hx : x ≤ 100) : ∃ r h', GCalls Tryz.prog gE 250 #[.int .i64 x] h r h' ∧ h.le h' ∧ r = .int .i64 (x * 78913 / 262144 : Nat) := by
  have e : ((x : Int) * 78913).fdiv (2 ^ min 18 64) = ((x * 78913 / 262144 : Nat) : Int) := shr_nat (x * 78913) 18 rfl
  refine gcalls_in (pl := noPl) [.tmp 2] mixed Tryz.func250 rfl rfl (by exact ok250) ?_
  simp (disch := first | omega | (simp only [List.length_cons, List.length_nil, List.length_set]; omega)) only [go_sem, Nat.reduceBEq, Int.reduceLE, Int.reduceToNat, ↓reduceIte, wrap_i64, e]
  exact GH.le.refl _
theorem c_bool2 {h : GH} (b : Bool) : ∃ r h', GCalls Tryz.prog gE 251 #[.bool b] h r h' ∧ h.le h' ∧ r = .int .i64 (if b then 1 else 0) := by
  refine gcalls_in (pl := noPl) [.tmp 2] mixed Tryz.func251 rfl rfl (by exact ok251) ?_
  simp only [go_sem, Nat.reduceBEq]
  refine ifK_intro ?_ ?_
  · rintro rfl
    simp only [go_sem, ↓reduceIte]
    exact GH.le.refl _
  · rintro rfl
    simp only [go_sem, ↓reduceIte]
    exact GH.le.refl _
theorem pow10_at {h : GH} (g : Gl h) {k : Nat} (hk : k < 20) : h.load 2 k 1 = some [.int .u64 ((10 ^ k : Nat) : Int)] := by
  refine load_one_at (Nat.lt_of_lt_of_le (by decide) g.1) (g.2 2 (by decide)) ?_
  simp [pow10s, hk]
theorem numDig {n L : Nat} (h0 : 0 < n) (hn : n < 10000000) (l1 : n < 2 ^ L) (l2 : 2 ^ (L - 1) ≤ n) (l3 : L ≤ 32) :
    ((L * 78913 / 262144 : Nat) : Int) + (if decide (((10 ^ (L * 78913 / 262144) : Nat) : Int) ≤ n) then 1 else 0) = ((digs n).length : Int) := by
  have hL : L ≤ 24 := by
    rcases Nat.lt_or_ge 24 L with h | h
    · have : 2 ^ 24 ≤ 2 ^ (L - 1) := Nat.pow_le_pow_right (by decide) (by omega)
      omega
    · exact h
  have key : ∀ t, 10 ^ t ≤ n → n < 10 ^ (t + 1) → (digs n).length = t + 1 := by
    intro t h1 h2
    apply Nat.le_antisymm
    · exact (digs_length_le (by omega)).2 h2
    · rcases Nat.lt_or_ge (digs n).length (t + 1) with h | h
      · rcases Nat.eq_zero_or_pos t with ht | ht
        · have := digs_length_pos n; omega
        · have := (digs_length_le (n := n) ht).1 (by omega)
          omega
      · exact h
  have cs : L = 0 ∨ L = 1 ∨ L = 2 ∨ L = 3 ∨ L = 4 ∨ L = 5 ∨ L = 6 ∨ L = 7 ∨ L = 8 ∨ L = 9 ∨ L = 10 ∨ L = 11 ∨ L = 12 ∨ L = 13 ∨ L = 14 ∨ L = 15 ∨ L = 16 ∨ L = 17 ∨ L = 18 ∨ L = 19 ∨ L = 20 ∨ L = 21 ∨ L = 22 ∨ L = 23 ∨ L = 24 := by omega
  rcases cs with h | h | h | h | h | h | h | h | h | h | h | h | h | h | h | h | h | h | h | h | h | h | h | h | h <;> subst h <;> simp only [Nat.reduceMul, Nat.reduceDiv, Nat.reducePow, Nat.reduceSub, decide_eq_true_eq] at l1 l2 ⊢ <;> split
  all_goals first
    | omega
    | (have := key 0 (by omega) (by omega); omega)
    | (have := key 1 (by omega) (by omega); omega)
    | (have := key 2 (by omega) (by omega); omega)
    | (have := key 3 (by omega) (by omega); omega)
    | (have := key 4 (by omega) (by omega); omega)
    | (have := key 5 (by omega) (by omega); omega)
    | (have := key 6 (by omega) (by omega); omega)
theorem c_numDigits {h : GH} (n : Nat) (h0 : 0 < n) (hn : n < 10000000) : ∃ r h', GCalls Tryz.prog gE 236 #[.int .u64 n] h r h' ∧ h.le h' ∧ r = .int .i64 (digs n).length := by
  refine gl_elim (by decide +kernel) (fun hg => ?_) ⟨_, h, GH.le.refl _, rfl⟩
  refine gcalls_in (pl := noPl) [.tmp 2] mixed Tryz.func236 rfl rfl (by exact ok236) ?_
  simp only [go_sem, Nat.reduceBEq]
  refine callK_intro (c_len64 n (by omega)) ?_
  rintro _ h1 ⟨hle1, L, rfl, l1, l2, l3⟩
  simp only [go_sem]
  refine callK_intro (c_log10Pow2 L (by omega)) ?_
  rintro _ h2 ⟨hle2, rfl⟩
  have ht : ((L * 78913 / 262144 : Nat) : Int) < 20 := by omega
  have hld := pow10_at (hg.mono (hle1.trans hle2)) (k := L * 78913 / 262144) (by omega)
  simp only [go_sem, Nat.reduceBEq, ↓reduceIte, ht, hld]
  refine callK_intro (c_bool2 _) ?_
  rintro _ h3 ⟨hle3, rfl⟩
  have := numDig h0 hn l1 (by omega) l3
  have hw : (if decide (((10 ^ (L * 78913 / 262144) : Nat) : Int) ≤ n) = true then (1 : Int) else 0) = ((digs n).length : Int) - ((L * 78913 / 262144 : Nat) : Int) := by omega
  have hd := (digs_length_le (n := n) (k := 7) (by decide)).2 hn
  simp (disch := first | omega | (simp only [List.length_cons, List.length_nil, List.length_set]; omega)) only [go_sem, Nat.reduceBEq, hw, wrap_i64]
  exact ⟨(hle1.trans hle2).trans hle3, by congr 1; omega⟩
end Go.Proofs.Gh
namespace Go.Proofs.Gh
open Go Go.Proofs Go.Proofs.Zz
set_option maxRecDepth 10000
set_option linter.unusedSimpArgs false
theorem smalls_at {k : Nat} (h : k < 100) : smallsB.data.toList[2 * k]? = some (UInt8.ofNat (48 + k / 10)) ∧ smallsB.data.toList[2 * k + 1]? = some (UInt8.ofNat (48 + k % 10)) := by
  have : ∀ k : Fin 100, smallsB.data.toList[2 * k.1]? = some (UInt8.ofNat (48 + k.1 / 10)) ∧ smallsB.data.toList[2 * k.1 + 1]? = some (UInt8.ofNat (48 + k.1 % 10)) := by decide +kernel
  exact this ⟨k, h⟩
/-- the digit cells -/
def dc (d : Nat) : Value := .int .u8 ((UInt8.ofNat (48 + d)).toNat : Int)
def dcs (n : Nat) : List Value := (digs n).map fun c => .int .u8 (c.toNat : Int)
theorem dcs_ge {n : Nat} (h : 10 ≤ n) : dcs n = dcs (n / 10) ++ [dc (n % 10)] := by
  rw [dcs, digs_ge h, List.map_append]; rfl
theorem dcs_lt {n : Nat} (h : n < 10) : dcs n = [dc n] := by rw [dcs, digs_lt h]; rfl
theorem idxI_intro {B : List UInt8} {x : Int} {i : Nat} {c : UInt8} {K : Value → Prop} (B' : ByteArray) (hB : B = B'.data.toList) (hx : x = i) (hc : B'.data.toList[i]? = some c) (hk : K (.int .u8 c.toNat)) :
    optK (if 0 ≤ x then Option.map (fun b => Value.int .u8 (b.toNat : Int)) B[x.toNat]? else none) K := by
  subst hB hx
  rw [if_pos (by omega), Int.toNat_natCast, hc]
  exact hk
theorem c_fmt10_1 {h : GH} {g c n : Nat} {pre post : List Value} {a0 : Value} (hg : g < h.n) (h1 : 1 ≤ n) (h2 : n < 10) (hb : h.b g = Blk pre [a0] post) :
    ∃ r h', GCalls Tryz.prog gE 237 #[.slice (some ⟨g, pre.length, none⟩) 1 c, .int .u64 n] h r h' ∧ h' = h.upd g (Blk pre (dcs n) post) := by
  rw [← upd_id hb]
  refine gcalls_in (pl := pl237) [] mixed Tryz.func237 rfl rfl (by exact ok237) ?_
  simp only [go_sem]
  refine loopK_unroll ?_
  simp (disch := first | omega | (simp only [List.length_cons, List.length_nil, List.length_set]; omega)) only [go_sem, Nat.reduceBEq, Int.reduceLT, Int.reduceLE, Int.reduceToNat, ↓reduceIte, wrap_u32, wrap_u8, store_blk_int0]
  rw [dcs_lt (n := n) (by omega)]
  simp only [upd_upd, dc]
  rw [show ((UInt8.ofNat (48 + n)).toNat : Int) = 48 + ((n : Nat) : Int) by rw [toNat_dig (by omega)]; omega]

theorem c_fmt10_2 {h : GH} {g c n : Nat} {pre post : List Value} {a0 a1 : Value} (hg : g < h.n) (h1 : 10 ≤ n) (h2 : n < 100) (hb : h.b g = Blk pre [a0, a1] post) :
    ∃ r h', GCalls Tryz.prog gE 237 #[.slice (some ⟨g, pre.length, none⟩) 2 c, .int .u64 n] h r h' ∧ h' = h.upd g (Blk pre (dcs n) post) := by
  rw [← upd_id hb]
  refine gcalls_in (pl := pl237) [] mixed Tryz.func237 rfl rfl (by exact ok237) ?_
  simp only [go_sem]
  refine loopK_unroll ?_
  simp (disch := first | omega | (simp only [List.length_cons, List.length_nil, List.length_set]; omega)) only [go_sem, Nat.reduceBEq, Int.reduceSub, Int.reduceLE, Int.reduceEq, Array.reduceGetElem?, ↓reduceIte, wrap_u32, wrap_i64, tdiv_lit, tmod_lit, pl237]
  refine idxI_intro smallsB rfl (i := 2 * (n % 100) + 1) (by omega) (smalls_at (by omega)).2 ?_
  simp (disch := first | omega | (simp only [List.length_cons, List.length_nil, List.length_set]; omega)) only [go_sem, Nat.reduceBEq, Array.reduceGetElem?]
  refine idxI_intro smallsB rfl (i := 2 * (n % 100)) (by omega) (smalls_at (by omega)).1 ?_
  simp (disch := first | omega | (simp only [List.length_cons, List.length_nil, List.length_set]; omega)) only [go_sem, Nat.reduceBEq, Int.reduceSub, Int.reduceLT, Int.reduceLE, Int.reduceToNat, Array.reduceGetElem?, ↓reduceIte, wrap_i64, store_blk_int, store_blk_int0, List.set_cons_zero, List.set_cons_succ]
  rw [dcs_ge (n := n) (by omega), dcs_lt (n := n / 10) (by omega)]
  simp only [upd_upd, List.cons_append, List.nil_append, dc, show n / 10 = n % 100 / 10 by omega, show n % 10 = n % 100 % 10 by omega]

theorem c_fmt10_3 {h : GH} {g c n : Nat} {pre post : List Value} {a0 a1 a2 : Value} (hg : g < h.n) (h1 : 100 ≤ n) (h2 : n < 1000) (hb : h.b g = Blk pre [a0, a1, a2] post) :
    ∃ r h', GCalls Tryz.prog gE 237 #[.slice (some ⟨g, pre.length, none⟩) 3 c, .int .u64 n] h r h' ∧ h' = h.upd g (Blk pre (dcs n) post) := by
  rw [← upd_id hb]
  refine gcalls_in (pl := pl237) [] mixed Tryz.func237 rfl rfl (by exact ok237) ?_
  simp only [go_sem]
  refine loopK_unroll ?_
  simp (disch := first | omega | (simp only [List.length_cons, List.length_nil, List.length_set]; omega)) only [go_sem, Nat.reduceBEq, Int.reduceSub, Int.reduceLE, Int.reduceEq, Array.reduceGetElem?, ↓reduceIte, wrap_u32, wrap_i64, tdiv_lit, tmod_lit, pl237]
  refine idxI_intro smallsB rfl (i := 2 * (n % 100) + 1) (by omega) (smalls_at (by omega)).2 ?_
  simp (disch := first | omega | (simp only [List.length_cons, List.length_nil, List.length_set]; omega)) only [go_sem, Nat.reduceBEq, Array.reduceGetElem?]
  refine idxI_intro smallsB rfl (i := 2 * (n % 100)) (by omega) (smalls_at (by omega)).1 ?_
  simp (disch := first | omega | (simp only [List.length_cons, List.length_nil, List.length_set]; omega)) only [go_sem, Nat.reduceBEq, Int.reduceSub, Int.reduceLT, Int.reduceLE, Int.reduceToNat, Array.reduceGetElem?, ↓reduceIte, wrap_u32, wrap_i64, wrap_u8, store_blk_int, store_blk_int0, List.set_cons_zero, List.set_cons_succ]
  rw [dcs_ge (n := n) (by omega), dcs_ge (n := n / 10) (by omega), dcs_lt (n := n / 10 / 10) (by omega)]
  simp only [upd_upd, List.cons_append, List.nil_append, dc, show n / 10 / 10 = n / 100 by omega, show n / 10 % 10 = n % 100 / 10 by omega, show n % 10 = n % 100 % 10 by omega]
  rw [show ((UInt8.ofNat (48 + n / 100)).toNat : Int) = 48 + ((n / 100 : Nat) : Int) by rw [toNat_dig (by omega)]; omega]

theorem c_fmt10_4 {h : GH} {g c n : Nat} {pre post : List Value} {a0 a1 a2 a3 : Value} (hg : g < h.n) (h1 : 1000 ≤ n) (h2 : n < 10000) (hb : h.b g = Blk pre [a0, a1, a2, a3] post) :
    ∃ r h', GCalls Tryz.prog gE 237 #[.slice (some ⟨g, pre.length, none⟩) 4 c, .int .u64 n] h r h' ∧ h' = h.upd g (Blk pre (dcs n) post) := by
  rw [← upd_id hb]
  refine gcalls_in (pl := pl237) [] mixed Tryz.func237 rfl rfl (by exact ok237) ?_
  simp only [go_sem]
  refine loopK_unroll ?_
  simp (disch := first | omega | (simp only [List.length_cons, List.length_nil, List.length_set]; omega)) only [go_sem, Nat.reduceBEq, Int.reduceSub, Int.reduceLE, Int.reduceEq, Array.reduceGetElem?, ↓reduceIte, wrap_u32, wrap_i64, tdiv_lit, tmod_lit, pl237]
  refine idxI_intro smallsB rfl (i := 2 * (n % 10000 % 100) + 1) (by omega) (smalls_at (by omega)).2 ?_
  simp (disch := first | omega | (simp only [List.length_cons, List.length_nil, List.length_set]; omega)) only [go_sem, Nat.reduceBEq, Array.reduceGetElem?]
  refine idxI_intro smallsB rfl (i := 2 * (n % 10000 % 100)) (by omega) (smalls_at (by omega)).1 ?_
  simp (disch := first | omega | (simp only [List.length_cons, List.length_nil, List.length_set]; omega)) only [go_sem, Nat.reduceBEq, Int.reduceSub, Int.reduceLT, Int.reduceLE, Int.reduceToNat, Array.reduceGetElem?, ↓reduceIte, wrap_u32, wrap_i64, store_blk_int, List.set_cons_zero, List.set_cons_succ, pl237]
  refine idxI_intro smallsB rfl (i := 2 * (n % 10000 / 100) + 1) (by omega) (smalls_at (by omega)).2 ?_
  simp (disch := first | omega | (simp only [List.length_cons, List.length_nil, List.length_set]; omega)) only [go_sem, Nat.reduceBEq, Array.reduceGetElem?]
  refine idxI_intro smallsB rfl (i := 2 * (n % 10000 / 100)) (by omega) (smalls_at (by omega)).1 ?_
  simp (disch := first | omega | (simp only [List.length_cons, List.length_nil, List.length_set]; omega)) only [go_sem, Nat.reduceBEq, Int.reduceSub, Int.reduceLT, Int.reduceLE, Int.reduceToNat, Array.reduceGetElem?, ↓reduceIte, wrap_i64, store_blk_int, store_blk_int0, List.set_cons_zero, List.set_cons_succ]
  rw [dcs_ge (n := n) (by omega), dcs_ge (n := n / 10) (by omega), dcs_ge (n := n / 10 / 10) (by omega), dcs_lt (n := n / 10 / 10 / 10) (by omega)]
  simp only [upd_upd, List.cons_append, List.nil_append, dc, show n / 10 / 10 / 10 = n % 10000 / 100 / 10 by omega, show n / 10 / 10 % 10 = n % 10000 / 100 % 10 by omega, show n / 10 % 10 = n % 10000 % 100 / 10 by omega, show n % 10 = n % 10000 % 100 % 10 by omega]

theorem c_fmt10_5 {h : GH} {g c n : Nat} {pre post : List Value} {a0 a1 a2 a3 a4 : Value} (hg : g < h.n) (h1 : 10000 ≤ n) (h2 : n < 100000) (hb : h.b g = Blk pre [a0, a1, a2, a3, a4] post) :
    ∃ r h', GCalls Tryz.prog gE 237 #[.slice (some ⟨g, pre.length, none⟩) 5 c, .int .u64 n] h r h' ∧ h' = h.upd g (Blk pre (dcs n) post) := by
  rw [← upd_id hb]
  refine gcalls_in (pl := pl237) [] mixed Tryz.func237 rfl rfl (by exact ok237) ?_
  simp only [go_sem]
  refine loopK_unroll ?_
  simp (disch := first | omega | (simp only [List.length_cons, List.length_nil, List.length_set]; omega)) only [go_sem, Nat.reduceBEq, Int.reduceSub, Int.reduceLE, Int.reduceEq, Array.reduceGetElem?, ↓reduceIte, wrap_u32, wrap_i64, tdiv_lit, tmod_lit, pl237]
  refine idxI_intro smallsB rfl (i := 2 * (n % 10000 % 100) + 1) (by omega) (smalls_at (by omega)).2 ?_
  simp (disch := first | omega | (simp only [List.length_cons, List.length_nil, List.length_set]; omega)) only [go_sem, Nat.reduceBEq, Array.reduceGetElem?]
  refine idxI_intro smallsB rfl (i := 2 * (n % 10000 % 100)) (by omega) (smalls_at (by omega)).1 ?_
  simp (disch := first | omega | (simp only [List.length_cons, List.length_nil, List.length_set]; omega)) only [go_sem, Nat.reduceBEq, Int.reduceSub, Int.reduceLT, Int.reduceLE, Int.reduceToNat, Array.reduceGetElem?, ↓reduceIte, wrap_u32, wrap_i64, store_blk_int, List.set_cons_zero, List.set_cons_succ, pl237]
  refine idxI_intro smallsB rfl (i := 2 * (n % 10000 / 100) + 1) (by omega) (smalls_at (by omega)).2 ?_
  simp (disch := first | omega | (simp only [List.length_cons, List.length_nil, List.length_set]; omega)) only [go_sem, Nat.reduceBEq, Array.reduceGetElem?]
  refine idxI_intro smallsB rfl (i := 2 * (n % 10000 / 100)) (by omega) (smalls_at (by omega)).1 ?_
  simp (disch := first | omega | (simp only [List.length_cons, List.length_nil, List.length_set]; omega)) only [go_sem, Nat.reduceBEq, Int.reduceSub, Int.reduceLT, Int.reduceLE, Int.reduceToNat, Array.reduceGetElem?, ↓reduceIte, wrap_u32, wrap_i64, wrap_u8, store_blk_int, store_blk_int0, List.set_cons_zero, List.set_cons_succ]
  rw [dcs_ge (n := n) (by omega), dcs_ge (n := n / 10) (by omega), dcs_ge (n := n / 10 / 10) (by omega), dcs_ge (n := n / 10 / 10 / 10) (by omega), dcs_lt (n := n / 10 / 10 / 10 / 10) (by omega)]
  simp only [upd_upd, List.cons_append, List.nil_append, dc, show n / 10 / 10 / 10 / 10 = n / 10000 by omega, show n / 10 / 10 / 10 % 10 = n % 10000 / 100 / 10 by omega, show n / 10 / 10 % 10 = n % 10000 / 100 % 10 by omega, show n / 10 % 10 = n % 10000 % 100 / 10 by omega, show n % 10 = n % 10000 % 100 % 10 by omega]
  rw [show ((UInt8.ofNat (48 + n / 10000)).toNat : Int) = 48 + ((n / 10000 : Nat) : Int) by rw [toNat_dig (by omega)]; omega]

theorem c_fmt10_6 {h : GH} {g c n : Nat} {pre post : List Value} {a0 a1 a2 a3 a4 a5 : Value} (hg : g < h.n) (h1 : 100000 ≤ n) (h2 : n < 1000000) (hb : h.b g = Blk pre [a0, a1, a2, a3, a4, a5] post) :
    ∃ r h', GCalls Tryz.prog gE 237 #[.slice (some ⟨g, pre.length, none⟩) 6 c, .int .u64 n] h r h' ∧ h' = h.upd g (Blk pre (dcs n) post) := by
  rw [← upd_id hb]
  refine gcalls_in (pl := pl237) [] mixed Tryz.func237 rfl rfl (by exact ok237) ?_
  simp only [go_sem]
  refine loopK_unroll ?_
  simp (disch := first | omega | (simp only [List.length_cons, List.length_nil, List.length_set]; omega)) only [go_sem, Nat.reduceBEq, Int.reduceSub, Int.reduceLE, Int.reduceEq, Array.reduceGetElem?, ↓reduceIte, wrap_u32, wrap_i64, tdiv_lit, tmod_lit, pl237]
  refine idxI_intro smallsB rfl (i := 2 * (n % 10000 % 100) + 1) (by omega) (smalls_at (by omega)).2 ?_
  simp (disch := first | omega | (simp only [List.length_cons, List.length_nil, List.length_set]; omega)) only [go_sem, Nat.reduceBEq, Array.reduceGetElem?]
  refine idxI_intro smallsB rfl (i := 2 * (n % 10000 % 100)) (by omega) (smalls_at (by omega)).1 ?_
  simp (disch := first | omega | (simp only [List.length_cons, List.length_nil, List.length_set]; omega)) only [go_sem, Nat.reduceBEq, Int.reduceSub, Int.reduceLT, Int.reduceLE, Int.reduceToNat, Array.reduceGetElem?, ↓reduceIte, wrap_u32, wrap_i64, store_blk_int, List.set_cons_zero, List.set_cons_succ, pl237]
  refine idxI_intro smallsB rfl (i := 2 * (n % 10000 / 100) + 1) (by omega) (smalls_at (by omega)).2 ?_
  simp (disch := first | omega | (simp only [List.length_cons, List.length_nil, List.length_set]; omega)) only [go_sem, Nat.reduceBEq, Array.reduceGetElem?]
  refine idxI_intro smallsB rfl (i := 2 * (n % 10000 / 100)) (by omega) (smalls_at (by omega)).1 ?_
  simp (disch := first | omega | (simp only [List.length_cons, List.length_nil, List.length_set]; omega)) only [go_sem, Nat.reduceBEq, Int.reduceSub, Int.reduceLT, Int.reduceLE, Int.reduceEq, Int.reduceToNat, Array.reduceGetElem?, ↓reduceIte, wrap_u32, wrap_i64, tdiv_lit, tmod_lit, store_blk_int, List.set_cons_zero, List.set_cons_succ, pl237]
  refine idxI_intro smallsB rfl (i := 2 * (n / 10000 % 100) + 1) (by omega) (smalls_at (by omega)).2 ?_
  simp (disch := first | omega | (simp only [List.length_cons, List.length_nil, List.length_set]; omega)) only [go_sem, Nat.reduceBEq, Array.reduceGetElem?]
  refine idxI_intro smallsB rfl (i := 2 * (n / 10000 % 100)) (by omega) (smalls_at (by omega)).1 ?_
  simp (disch := first | omega | (simp only [List.length_cons, List.length_nil, List.length_set]; omega)) only [go_sem, Nat.reduceBEq, Int.reduceSub, Int.reduceLT, Int.reduceLE, Int.reduceToNat, Array.reduceGetElem?, ↓reduceIte, wrap_i64, store_blk_int, store_blk_int0, List.set_cons_zero, List.set_cons_succ]
  rw [dcs_ge (n := n) (by omega), dcs_ge (n := n / 10) (by omega), dcs_ge (n := n / 10 / 10) (by omega), dcs_ge (n := n / 10 / 10 / 10) (by omega), dcs_ge (n := n / 10 / 10 / 10 / 10) (by omega), dcs_lt (n := n / 10 / 10 / 10 / 10 / 10) (by omega)]
  simp only [upd_upd, List.cons_append, List.nil_append, dc, show n / 10 / 10 / 10 / 10 / 10 = n / 10000 % 100 / 10 by omega, show n / 10 / 10 / 10 / 10 % 10 = n / 10000 % 100 % 10 by omega, show n / 10 / 10 / 10 % 10 = n % 10000 / 100 / 10 by omega, show n / 10 / 10 % 10 = n % 10000 / 100 % 10 by omega, show n / 10 % 10 = n % 10000 % 100 / 10 by omega, show n % 10 = n % 10000 % 100 % 10 by omega]

theorem c_fmt10_7 {h : GH} {g c n : Nat} {pre post : List Value} {a0 a1 a2 a3 a4 a5 a6 : Value} (hg : g < h.n) (h1 : 1000000 ≤ n) (h2 : n < 10000000) (hb : h.b g = Blk pre [a0, a1, a2, a3, a4, a5, a6] post) :
    ∃ r h', GCalls Tryz.prog gE 237 #[.slice (some ⟨g, pre.length, none⟩) 7 c, .int .u64 n] h r h' ∧ h' = h.upd g (Blk pre (dcs n) post) := by
  rw [← upd_id hb]
  refine gcalls_in (pl := pl237) [] mixed Tryz.func237 rfl rfl (by exact ok237) ?_
  simp only [go_sem]
  refine loopK_unroll ?_
  simp (disch := first | omega | (simp only [List.length_cons, List.length_nil, List.length_set]; omega)) only [go_sem, Nat.reduceBEq, Int.reduceSub, Int.reduceLE, Int.reduceEq, Array.reduceGetElem?, ↓reduceIte, wrap_u32, wrap_i64, tdiv_lit, tmod_lit, pl237]
  refine idxI_intro smallsB rfl (i := 2 * (n % 10000 % 100) + 1) (by omega) (smalls_at (by omega)).2 ?_
  simp (disch := first | omega | (simp only [List.length_cons, List.length_nil, List.length_set]; omega)) only [go_sem, Nat.reduceBEq, Array.reduceGetElem?]
  refine idxI_intro smallsB rfl (i := 2 * (n % 10000 % 100)) (by omega) (smalls_at (by omega)).1 ?_
  simp (disch := first | omega | (simp only [List.length_cons, List.length_nil, List.length_set]; omega)) only [go_sem, Nat.reduceBEq, Int.reduceSub, Int.reduceLT, Int.reduceLE, Int.reduceToNat, Array.reduceGetElem?, ↓reduceIte, wrap_u32, wrap_i64, store_blk_int, List.set_cons_zero, List.set_cons_succ, pl237]
  refine idxI_intro smallsB rfl (i := 2 * (n % 10000 / 100) + 1) (by omega) (smalls_at (by omega)).2 ?_
  simp (disch := first | omega | (simp only [List.length_cons, List.length_nil, List.length_set]; omega)) only [go_sem, Nat.reduceBEq, Array.reduceGetElem?]
  refine idxI_intro smallsB rfl (i := 2 * (n % 10000 / 100)) (by omega) (smalls_at (by omega)).1 ?_
  simp (disch := first | omega | (simp only [List.length_cons, List.length_nil, List.length_set]; omega)) only [go_sem, Nat.reduceBEq, Int.reduceSub, Int.reduceLT, Int.reduceLE, Int.reduceEq, Int.reduceToNat, Array.reduceGetElem?, ↓reduceIte, wrap_u32, wrap_i64, tdiv_lit, tmod_lit, store_blk_int, List.set_cons_zero, List.set_cons_succ, pl237]
  refine idxI_intro smallsB rfl (i := 2 * (n / 10000 % 100) + 1) (by omega) (smalls_at (by omega)).2 ?_
  simp (disch := first | omega | (simp only [List.length_cons, List.length_nil, List.length_set]; omega)) only [go_sem, Nat.reduceBEq, Array.reduceGetElem?]
  refine idxI_intro smallsB rfl (i := 2 * (n / 10000 % 100)) (by omega) (smalls_at (by omega)).1 ?_
  simp (disch := first | omega | (simp only [List.length_cons, List.length_nil, List.length_set]; omega)) only [go_sem, Nat.reduceBEq, Int.reduceSub, Int.reduceLT, Int.reduceLE, Int.reduceToNat, Array.reduceGetElem?, ↓reduceIte, wrap_u32, wrap_i64, wrap_u8, store_blk_int, store_blk_int0, List.set_cons_zero, List.set_cons_succ]
  rw [dcs_ge (n := n) (by omega), dcs_ge (n := n / 10) (by omega), dcs_ge (n := n / 10 / 10) (by omega), dcs_ge (n := n / 10 / 10 / 10) (by omega), dcs_ge (n := n / 10 / 10 / 10 / 10) (by omega), dcs_ge (n := n / 10 / 10 / 10 / 10 / 10) (by omega), dcs_lt (n := n / 10 / 10 / 10 / 10 / 10 / 10) (by omega)]
  simp only [upd_upd, List.cons_append, List.nil_append, dc, show n / 10 / 10 / 10 / 10 / 10 / 10 = n / 10000 / 100 by omega, show n / 10 / 10 / 10 / 10 / 10 % 10 = n / 10000 % 100 / 10 by omega, show n / 10 / 10 / 10 / 10 % 10 = n / 10000 % 100 % 10 by omega, show n / 10 / 10 / 10 % 10 = n % 10000 / 100 / 10 by omega, show n / 10 / 10 % 10 = n % 10000 / 100 % 10 by omega, show n / 10 % 10 = n % 10000 % 100 / 10 by omega, show n % 10 = n % 10000 % 100 % 10 by omega]
  rw [show ((UInt8.ofNat (48 + n / 10000 / 100)).toNat : Int) = 48 + ((n / 10000 / 100 : Nat) : Int) by rw [toNat_dig (by omega)]; omega]

end Go.Proofs.Gh
namespace Go.Proofs.Gh
open Go Go.Proofs Go.Proofs.Zz
set_option maxRecDepth 10000
set_option linter.unusedSimpArgs false
theorem digs_len_ge {n k : Nat} (h : k + 1 ≤ (digs n).length) (hk : 0 < k) : 10 ^ k ≤ n := by
  rcases Nat.lt_or_ge n (10 ^ k) with h1 | h1
  · have := (digs_length_le hk).2 h1; omega
  · exact h1
theorem c_fmt10 {h : GH} {g o k c n : Nat} {pre old post : List Value} (hpo : pre.length = o) (hk : k = (digs n).length) (hg : g < h.n) (h0 : 0 < n) (hn : n < 10000000) (ho : old.length = (digs n).length) (hb : h.b g = Blk pre old post) :
    ∃ r h', GCalls Tryz.prog gE 237 #[.slice (some ⟨g, o, none⟩) k c, .int .u64 n] h r h' ∧ h' = h.upd g (Blk pre (dcs n) post) := by
  subst hpo hk
  have h7 := (digs_length_le (n := n) (k := 7) (by decide)).2 hn
  have hp := digs_length_pos n
  have up : ∀ k, 0 < k → (digs n).length ≤ k → n < 10 ^ k := fun k hk h => (digs_length_le hk).1 h
  have dn : ∀ k, 0 < k → k + 1 ≤ (digs n).length → 10 ^ k ≤ n := fun k hk h => digs_len_ge h hk
  match old, ho with
  | [a0], ho => simp only [List.length_cons, List.length_nil] at ho; rw [← ho]; exact c_fmt10_1 hg (by omega) (by have := up 1 (by omega) (by omega); omega) hb
  | [a0, a1], ho => simp only [List.length_cons, List.length_nil] at ho; rw [← ho]; exact c_fmt10_2 hg (by have := dn 1 (by omega) (by omega); omega) (by have := up 2 (by omega) (by omega); omega) hb
  | [a0, a1, a2], ho => simp only [List.length_cons, List.length_nil] at ho; rw [← ho]; exact c_fmt10_3 hg (by have := dn 2 (by omega) (by omega); omega) (by have := up 3 (by omega) (by omega); omega) hb
  | [a0, a1, a2, a3], ho => simp only [List.length_cons, List.length_nil] at ho; rw [← ho]; exact c_fmt10_4 hg (by have := dn 3 (by omega) (by omega); omega) (by have := up 4 (by omega) (by omega); omega) hb
  | [a0, a1, a2, a3, a4], ho => simp only [List.length_cons, List.length_nil] at ho; rw [← ho]; exact c_fmt10_5 hg (by have := dn 4 (by omega) (by omega); omega) (by have := up 5 (by omega) (by omega); omega) hb
  | [a0, a1, a2, a3, a4, a5], ho => simp only [List.length_cons, List.length_nil] at ho; rw [← ho]; exact c_fmt10_6 hg (by have := dn 5 (by omega) (by omega); omega) (by have := up 6 (by omega) (by omega); omega) hb
  | [a0, a1, a2, a3, a4, a5, a6], ho => simp only [List.length_cons, List.length_nil] at ho; rw [← ho]; exact c_fmt10_7 hg (by have := dn 6 (by omega) (by omega); omega) (by have := up 7 (by omega) (by omega); omega) hb
  | [], ho => simp only [List.length_nil] at ho; omega
  | _ :: _ :: _ :: _ :: _ :: _ :: _ :: _ :: _, ho => simp only [List.length_cons] at ho; omega
theorem gBd_int {x : Int} {n len : Nat} {k : IntKind} (h : x = n) : gBd len (some (.int k x)) = some n := by subst h; simp [gBd]
abbrev z24 : List Value := List.replicate 24 (.int .u8 0)
theorem dcs_length (n : Nat) : (dcs n).length = (digs n).length := by simp [dcs]
theorem blk24 {h h3 : GH} {k : Nat} (hk : k ≤ 23) (hle3 : (h.alloc ⟨z24, true, false⟩).le h3) : h3.b h.n = Blk [.int .u8 0] (List.replicate k (.int .u8 0)) (List.replicate (23 - k) (.int .u8 0)) := by
  rw [hle3.2 _ (by simp), alloc_self]
  simp only [Blk, z24, GB.mk.injEq, and_true, List.append_assoc, List.replicate_append_replicate]
  rw [show k + (23 - k) = 23 by omega]
  rfl
theorem c_formatInt {h : GH} (z : Int) (hz : z.natAbs < 10000000) : ∃ r h', GCalls Tryz.prog gE 205 #[.int .i64 z, .int .i64 10] h r h' ∧ h.le h' ∧ r = istr z := by
  refine gcalls_in (pl := noPl) [.tmp 4] mixed Tryz.func205 rfl rfl (by exact ok205) ?_
  simp only [go_sem, Nat.reduceBEq, Array.reduceGetElem?]
  refine ifK_intro ?_ ?_
  · intro h1
    have h1' := of_decide_eq_true h1
    simp only [go_sem, Nat.reduceBEq, Array.reduceGetElem?, ↓reduceIte, h1]
    refine ifK_intro ?_ ?_
    · intro h2
      have h2' := of_decide_eq_true h2
      simp only [go_sem, Nat.reduceBEq, h2]
      refine callK_intro (h := h) (args := #[.int .i64 z]) (by
        have := c_smallS (h := h) z.natAbs (by omega)
        rw [show ((z.natAbs : Nat) : Int) = z by omega] at this
        exact this) ?_
      rintro _ h3 ⟨hle3, rfl⟩
      simp only [go_sem]
      exact hle3
    · intro h2
      obtain ⟨n, rfl⟩ : ∃ n : Nat, z = n := ⟨z.toNat, by omega⟩
      have h2' := of_decide_eq_false h2
      have hlt : ¬ (n : Int) < 0 := by omega
      have hd := (digs_length_le (n := n) (k := 7) (by decide)).2 (by omega)
      have hdp := digs_length_pos n
      simp (disch := first | omega | (simp only [List.length_cons, List.length_nil, List.length_set]; omega)) only [go_sem, Nat.reduceBEq, h2, hlt, wrap_u64]
      refine callK_intro (c_numDigits n (by omega) (by omega)) ?_
      rintro _ h3 ⟨hle3, rfl⟩
      simp (disch := first | omega | (simp only [List.length_cons, List.length_nil, List.length_set]; omega)) only [go_sem, Nat.reduceBEq, h2, wrap_i64]
      refine optK_intro (gSlice_arr ty_ak269 ty_tk5 (l := 1) (u := 1 + (digs n).length) rfl (gBd_int (by omega)) (by omega) (by omega) (by decide)) ?_
      simp (disch := first | omega | (simp only [List.length_cons, List.length_nil, List.length_set]; omega)) only [go_sem, Nat.reduceBEq, Nat.reduceSub, h2]
      have hb3 := blk24 (k := (digs n).length) (by omega) hle3
      have hg3 : h.n < h3.n := Nat.lt_of_lt_of_le (by simp) hle3.1
      refine callK_intro (c_fmt10 (pre := [.int .u8 0]) rfl (by omega) hg3 (by omega) (by omega) (by simp) hb3) ?_
      rintro r h4 rfl
      simp (disch := first | omega | (simp only [List.length_cons, List.length_nil, List.length_set]; omega)) only [go_sem, Nat.reduceBEq, Nat.reduceSub, h2, hlt, wrap_i64]
      refine optK_intro (gSlice_arr ty_ak269 ty_tk5 (l := 1) (u := 1 + (digs n).length) rfl (gBd_int (by omega)) (by omega) (by omega) (by decide)) ?_
      have hld := load_blk_n (h := h3.upd h.n (Blk [.int .u8 0] (dcs n) (List.replicate (23 - (digs n).length) (.int .u8 0)))) hg3 (upd_self _ _ _)
      have hne : ¬ (1 + (digs n).length - 1 = 0) := by omega
      rw [dcs_length] at hld
      have hl2 : (h3.upd h.n (Blk [.int .u8 0] (dcs n) (List.replicate (23 - (digs n).length) (.int .u8 0)))).load h.n 1 (1 + (digs n).length - 1) = some (dcs n) := by
        rw [show 1 + (digs n).length - 1 = (digs n).length by omega]; exact hld
      simp (disch := first | omega | (simp only [List.length_cons, List.length_nil, List.length_set]; omega)) only [go_sem, Nat.reduceSub, ↓reduceIte, hne, hl2, show bytesV (dcs n) = some (digs n) from bytesV_map _]
      refine ⟨((GH.le_alloc _ _).trans hle3).upd (Nat.le_refl _) _, by show _ = Value.string (enc _); rw [enc_nat]; rfl⟩
  · intro h1
    have h1' := of_decide_eq_false h1
    obtain ⟨n, rfl⟩ : ∃ n : Nat, z = -(n : Int) := ⟨z.natAbs, by omega⟩
    have hlt : (-(n : Int)) < 0 := by omega
    have hd := (digs_length_le (n := n) (k := 7) (by decide)).2 (by omega)
    have hdp := digs_length_pos n
    have hw : IntKind.u64.wrap (0 - IntKind.u64.wrap (-(n : Int))) = n := by
      simp only [IntKind.wrap, IntKind.bits, IntKind.signed, Bool.false_and, Bool.false_eq_true, if_false]
      omega
    simp (disch := first | omega | (simp only [List.length_cons, List.length_nil, List.length_set]; omega)) only [go_sem, Nat.reduceBEq, Array.reduceGetElem?, ↓reduceIte, h1, hlt, hw]
    refine callK_intro (c_numDigits n (by omega) (by omega)) ?_
    rintro _ h3 ⟨hle3, rfl⟩
    simp (disch := first | omega | (simp only [List.length_cons, List.length_nil, List.length_set]; omega)) only [go_sem, Nat.reduceBEq, h1, wrap_i64]
    refine optK_intro (gSlice_arr ty_ak269 ty_tk5 (l := 1) (u := 1 + (digs n).length) rfl (gBd_int (by omega)) (by omega) (by omega) (by decide)) ?_
    simp (disch := first | omega | (simp only [List.length_cons, List.length_nil, List.length_set]; omega)) only [go_sem, Nat.reduceBEq, Nat.reduceSub, h1]
    have hb3 := blk24 (k := (digs n).length) (by omega) hle3
    have hg3 : h.n < h3.n := Nat.lt_of_lt_of_le (by simp) hle3.1
    refine callK_intro (c_fmt10 (pre := [.int .u8 0]) rfl (by omega) hg3 (by omega) (by omega) (by simp) hb3) ?_
    rintro r h4 rfl
    have hst : (h3.upd h.n (Blk [.int .u8 0] (dcs n) (List.replicate (23 - (digs n).length) (.int .u8 0)))).store h.n 0 [.int .u8 45] = some (h3.upd h.n (Blk [] (.int .u8 45 :: dcs n) (List.replicate (23 - (digs n).length) (.int .u8 0)))) := by
      have := store_blk_int0 (h := h3) (g := h.n) (pre := []) (a := .int .u8 0) (l := dcs n) (post := List.replicate (23 - (digs n).length) (.int .u8 0)) (k := .u8) (x := 45) hg3
      exact this
    simp (disch := first | omega | (simp only [List.length_cons, List.length_nil, List.length_set]; omega)) only [go_sem, Nat.reduceBEq, Nat.reduceSub, Int.reduceLT, Int.reduceLE, Int.reduceToNat, ↓reduceIte, h1, hlt, wrap_i64, hst]
    refine optK_intro (gSlice_arr ty_ak269 ty_tk5 (l := 0) (u := 1 + (digs n).length) rfl (gBd_int (by omega)) (by omega) (by omega) (by decide)) ?_
    have hld := load_blk_n (h := h3.upd h.n (Blk [] (.int .u8 45 :: dcs n) (List.replicate (23 - (digs n).length) (.int .u8 0)))) hg3 (upd_self _ _ _)
    have hne : ¬ (1 + (digs n).length - 0 = 0) := by omega
    rw [List.length_cons, dcs_length] at hld
    have hl2 : (h3.upd h.n (Blk [] (.int .u8 45 :: dcs n) (List.replicate (23 - (digs n).length) (.int .u8 0)))).load h.n 0 (1 + (digs n).length - 0) = some (.int .u8 45 :: dcs n) := by
      rw [show 1 + (digs n).length - 0 = (digs n).length + 1 by omega]; exact hld
    simp (disch := first | omega | (simp only [List.length_cons, List.length_nil, List.length_set]; omega)) only [go_sem, Nat.reduceSub, ↓reduceIte, hne, hl2, show bytesV (.int .u8 45 :: dcs n) = some (45 :: digs n) from bytesV_map (45 :: digs n)]
    refine ⟨((GH.le_alloc _ _).trans hle3).upd (Nat.le_refl _) _, ?_⟩
    show _ = Value.string (enc _)
    rw [enc, encL_neg (by omega), Int.natAbs_neg, Int.natAbs_natCast]; rfl
theorem c_itoa0 {h : GH} (z : Int) (hz : z.natAbs < 10000000) : ∃ r h', GCalls Tryz.prog gE 172 #[.int .i64 z] h r h' ∧ h.le h' ∧ r = istr z := by
  refine gcalls_in (pl := noPl) [.tmp 2] mixed Tryz.func172 rfl rfl (by exact ok172) ?_
  simp only [go_sem, Nat.reduceBEq]
  refine callK_intro (c_formatInt z hz) ?_
  rintro _ h1 ⟨hle1, rfl⟩
  simp only [go_sem]
  exact hle1
theorem c_itoa {h : GH} (z : Int) (hz : z.natAbs < 10000000) : ∃ r h', GCalls Tryz.prog gE 125 #[.int .i64 z] h r h' ∧ h.le h' ∧ r = istr z := by
  refine gcalls_in (pl := noPl) [.tmp 2] mixed Tryz.func125 rfl rfl (by exact ok125) ?_
  simp only [go_sem, Nat.reduceBEq]
  refine callK_intro (c_itoa0 z hz) ?_
  rintro _ h1 ⟨hle1, rfl⟩
  simp only [go_sem]
  exact hle1
theorem c_wholeOf {h : GH} (z : Int) (hz : z.natAbs < 10000000) : ∃ r h', GCalls Tryz.prog gE 94 #[.int .i64 z] h r h' ∧ h.le h' ∧ r = istr z := by
  refine gcalls_in (pl := noPl) [.tmp 2] mixed Tryz.func94 rfl rfl (by exact ok94) ?_
  simp only [go_sem, Nat.reduceBEq]
  refine callK_intro (c_itoa z hz) ?_
  rintro _ h1 ⟨hle1, rfl⟩
  simp only [go_sem]
  exact hle1
end Go.Proofs.Gh
namespace Go.Proofs.Gh
open Go Go.Proofs Go.Proofs.Zz
set_option maxRecDepth 10000
set_option linter.unusedSimpArgs false
/-- a byte of a number's text, and the value so far -/
theorem enc_step (n : Nat) {i : Nat} (hi : i < (enc (n : Int)).size) : ∃ c : UInt8, (enc (n : Int)).data.toList[i]? = some c ∧ 48 ≤ c.toNat ∧ c.toNat ≤ 57 ∧
    val ((digs n).take (i + 1)) = 10 * val ((digs n).take i) + (c.toNat - 48) ∧ val ((digs n).take (i + 1)) ≤ n := by
  have e : (enc (n : Int)).data.toList = digs n := by rw [enc_toList, encL_pos (by omega), Int.natAbs_natCast]
  have hs : (enc (n : Int)).size = (digs n).length := by rw [enc_size, encL_pos (by omega), Int.natAbs_natCast]
  rw [hs] at hi
  refine ⟨(digs n)[i], by rw [e, List.getElem?_eq_getElem hi], (digs_all n _ (List.getElem_mem hi)).1, (digs_all n _ (List.getElem_mem hi)).2, ?_, ?_⟩
  · rw [List.take_add_one, List.getElem?_eq_getElem hi]
    exact val_snoc _ _
  · have := val_append ((digs n).take (i + 1)) ((digs n).drop (i + 1))
    rw [List.take_append_drop, val_digs] at this
    have h1 : val ((digs n).take (i + 1)) * 1 ≤ val ((digs n).take (i + 1)) * 10 ^ ((digs n).drop (i + 1)).length := Nat.mul_le_mul_left _ (Nat.pow_pos (by decide))
    omega
theorem enc_nsize (n : Nat) : (enc (n : Int)).size = (digs n).length := by rw [enc_size, encL_pos (by omega), Int.natAbs_natCast]
theorem c_atoi0 {h : GH} (z : Int) (hz : z.natAbs < 100000000000000000) : ∃ r h', GCalls Tryz.prog gE 111 #[istr z] h r h' ∧ h.le h' ∧ r = .tuple #[.int .i64 z, .nilIface] := by
  have hsz := enc_size_le (k := 17) (by decide) hz
  have h19 : ((enc z).size : Int) < 19 := by omega
  have hpos := enc_size_pos z
  have hp0 : (0 : Int) < ((enc z).size : Int) := by omega
  obtain ⟨c, hc, hd, hdd⟩ := enc_head z
  obtain ⟨n, hn⟩ : ∃ n : Nat, n = z.natAbs := ⟨_, rfl⟩
  have hnp := enc_size_pos n
  have hns := enc_nsize n
  have hsn := enc_size_le0 (z := n) (k := 17) (by decide) (by omega) (by omega)
  have hv : val (digs n) = n := val_digs n
  obtain ⟨zz, hzz⟩ : ∃ zz : Int, zz = z := ⟨_, rfl⟩
  have hnp1 : ¬ ((enc (n : Int)).size : Int) < 1 := by omega
  refine gcalls_in (pl := noPl) [.tmp 2, .tmp 3] mixed Tryz.func111 rfl rfl (by exact ok111) ?_
  simp only [go_sem, Nat.reduceBEq, Int.reduceLE, Int.reduceToNat, Array.reduceGetElem?, ↓reduceIte, h19, hp0, hc, hd]
  refine ifK_intro (fun h1 => ?_) (fun h1 => ?_)
  case' refine_1 =>
    have h1' := of_decide_eq_true h1
    have hs := enc_ext z h1'
    rw [show -z = (n : Int) by omega] at hs
    simp only [go_sem, Nat.reduceBEq, Int.reduceLE, Int.reduceToNat, Array.reduceGetElem?, ↓reduceIte, h1, hs, enc_size_ge, hnp1]
  case' refine_2 =>
    have h1' := of_decide_eq_false h1
    have hc43 : ¬ ((c.toNat : Int) = 43) := by have := hdd (by omega); omega
    obtain rfl : z = n := by omega
    simp only [go_sem, Nat.reduceBEq, Int.reduceLE, Int.reduceToNat, Array.reduceGetElem?, ↓reduceIte, h1, hc, hc43]
  all_goals
    refine loopK_inv (α := Nat) (fun i => (enc (n : Int)).size - i) (fun i ts g => ts 5 = istr zz ∧ ts 47 = .slice (some ⟨h.n, 0, none⟩) (enc (n : Int)).size (unk + 1) ∧ ts 48 = .int .i64 (enc (n : Int)).size ∧ ts 49 = .int .i64 i ∧ ts 6 = .int .i64 (val ((digs n).take i)) ∧ i ≤ (enc (n : Int)).size ∧ g = h.alloc ⟨byteCells (enc (n : Int)), true, false⟩) ?_ (a0 := 0) ?_
    · rintro i ts g ⟨h5, h47, h48, h49, h6, hi, rfl⟩
      simp only [go_sem, h48, h49]
      refine ifK_intro (fun hc1 => ?_) (fun hc1 => ?_)
      · have hc1' := of_decide_eq_true hc1
        obtain ⟨d, hd1, hd2, hd3, hd4, hd5⟩ := enc_step n (i := i) (by omega)
        have hl : (h.alloc ⟨byteCells (enc (n : Int)), true, false⟩).load h.n i 1 = some [.int .u8 d.toNat] :=
          load_one_at (Nat.lt_succ_self _) (alloc_self _ _) (by rw [byteCells_get, hd1]; rfl)
        have h9 : ¬ (9 : Int) < (d.toNat : Int) - 48 := by omega
        simp (disch := first | omega | (simp only [List.length_cons, List.length_nil, List.length_set]; omega)) only [go_sem, Nat.reduceBEq, ↓reduceIte, h5, h47, h48, h49, h6, hc1', hl, wrap_u8, h9, wrap_i64]
        exact ⟨i + 1, by omega, rfl, by congr 1; omega, by omega⟩
      · have hc1' := of_decide_eq_false hc1
        have hi' : i = (digs n).length := by omega
        rw [hi', List.take_length, hv] at h6
        rw [← hzz] at hc hd
        simp (disch := first | omega | (simp only [List.length_cons, List.length_nil, List.length_set]; omega)) only [go_sem, Nat.reduceBEq, Int.reduceLE, Int.reduceToNat, ↓reduceIte, h5, hc, hd]
        refine ifK_intro (fun h2 => ?_) (fun h2 => ?_)
        · have h2' := of_decide_eq_true h2
          have ez : 0 - (n : Int) = zz := by omega
          simp (disch := first | omega | (simp only [List.length_cons, List.length_nil, List.length_set]; omega)) only [go_sem, Nat.reduceBEq, h6, h2, wrap_i64, ez]
          refine ⟨GH.le_alloc _ _, ?_⟩
          rw [hzz]
        · have h2' := of_decide_eq_false h2
          have ez : (n : Int) = zz := by omega
          simp (disch := first | omega | (simp only [List.length_cons, List.length_nil, List.length_set]; omega)) only [go_sem, Nat.reduceBEq, h6, h2, ez]
          first
            | exact GH.le_alloc _ _
            | exact ⟨GH.le_alloc _ _, by rw [hzz]⟩
    · simp only [go_sem, Nat.reduceBEq]
      rw [hzz]
      exact ⟨rfl, by simp [val_nil], by omega⟩
theorem c_atoi {h : GH} (z : Int) (hz : z.natAbs < 100000000000000000) : ∃ r h', GCalls Tryz.prog gE 76 #[istr z] h r h' ∧ h.le h' ∧ r = .tuple #[.int .i64 z, .nilIface] := by
  refine gcalls_in (pl := noPl) [.tmp 2, .tmp 3] mixed Tryz.func76 rfl rfl (by exact ok76) ?_
  simp only [go_sem, Nat.reduceBEq]
  refine callK_intro (c_atoi0 z hz) ?_
  rintro _ h1 ⟨hle1, rfl⟩
  simp only [go_sem, Nat.reduceBEq, Array.reduceGetElem?, ↓reduceIte]
  exact hle1
theorem c_parseUint0 {h : GH} (n : Nat) (hn : n < 1000000000000000000) : ∃ r h', GCalls Tryz.prog gE 182 #[istr n, .int .i64 10, .int .i64 64] h r h' ∧ h.le h' ∧ r = .tuple #[.int .u64 n, .nilIface] := by
  have hnp := enc_size_pos n
  have hns := enc_nsize n
  have hsn := enc_size_le0 (z := n) (k := 18) (by decide) (by omega) (by omega)
  have hne : ¬ (enc (n : Int) = ⟨#[]⟩) := by
    intro he
    rw [he] at hnp
    exact absurd hnp (by decide)
  have e1 : (0 : Int) ≤ IntKind.u64.wrap 64 := by decide
  have e2 : IntKind.u64.wrap (1 * 2 ^ min (IntKind.u64.wrap 64).toNat 64) = 0 := by decide +kernel
  have e3 : IntKind.u64.wrap (-1) = 18446744073709551615 := by decide
  have hv : val (digs n) = n := val_digs n
  refine gcalls_in (pl := noPl) [.tmp 6, .tmp 7] mixed Tryz.func182 rfl rfl (by exact ok182) ?_
  simp only [go_sem, Nat.reduceBEq, Int.reduceSub, Int.reduceLT, Int.reduceLE, Int.reduceEq, Array.reduceGetElem?, ↓reduceIte, hne, e1, e2, e3]
  refine loopK_inv (α := Nat) (fun i => (enc (n : Int)).size - i) (fun i ts g => ts 1 = .int .i64 10 ∧ ts 8 = .bool false ∧ ts 10 = .int .u64 1844674407370955162 ∧ ts 11 = .int .u64 18446744073709551615 ∧ ts 12 = .bool false ∧ ts 99 = .slice (some ⟨h.n, 0, none⟩) (enc (n : Int)).size (unk + 1) ∧ ts 100 = .int .i64 (enc (n : Int)).size ∧ ts 101 = .int .i64 i ∧ ts 13 = .int .u64 (val ((digs n).take i)) ∧ i ≤ (enc (n : Int)).size ∧ g = h.alloc ⟨byteCells (enc (n : Int)), true, false⟩) ?_ (a0 := 0) ?_
  · rintro i ts g ⟨h1, h8, h10, h11, h12, h99, h100, h101, h13, hi, rfl⟩
    simp only [go_sem, h100, h101]
    refine ifK_intro (fun hc1 => ?_) (fun hc1 => ?_)
    · have hc1' := of_decide_eq_true hc1
      obtain ⟨d, hd1, hd2, hd3, hd4, hd5⟩ := enc_step n (i := i) (by omega)
      have hl : (h.alloc ⟨byteCells (enc (n : Int)), true, false⟩).load h.n i 1 = some [.int .u8 d.toNat] :=
        load_one_at (Nat.lt_succ_self _) (alloc_self _ _) (by rw [byteCells_get, hd1]; rfl)
      have k1 : ¬ (d.toNat : Int) = 95 := by omega
      have k2 : (48 : Int) ≤ (d.toNat : Int) := by omega
      have k3 : (d.toNat : Int) ≤ 57 := by omega
      have k4 : ¬ (10 : Int) ≤ (d.toNat : Int) - 48 := by omega
      have k5 : ¬ (1844674407370955162 : Int) ≤ (val ((digs n).take i) : Int) := by omega
      have k6 : ¬ ((val ((digs n).take i) : Int) * 10 + ((d.toNat : Int) - 48) < (val ((digs n).take i) : Int) * 10) := by omega
      have k7 : ¬ ((18446744073709551615 : Int) < (val ((digs n).take i) : Int) * 10 + ((d.toNat : Int) - 48)) := by omega
      simp (disch := first | omega | (simp only [List.length_cons, List.length_nil, List.length_set]; omega)) only [go_sem, Nat.reduceBEq, Array.reduceGetElem?, ↓reduceIte, h1, h8, h10, h11, h12, h99, h100, h101, h13, hc1', hl, k1, k2, k3, k4, k5, k6, k7, wrap_u8, wrap_i64, wrap_u64]
      exact ⟨i + 1, by omega, rfl, by congr 1; omega, by omega⟩
    · have hc1' := of_decide_eq_false hc1
      have hi' : i = (digs n).length := by omega
      rw [hi', List.take_length, hv] at h13
      simp (disch := first | omega | (simp only [List.length_cons, List.length_nil, List.length_set]; omega)) only [go_sem, Nat.reduceBEq, Array.reduceGetElem?, ↓reduceIte, h12, h13]
      exact GH.le_alloc _ _
  · simp only [go_sem, Nat.reduceBEq]
    exact ⟨by simp [val_nil], by omega⟩
theorem c_parseUint {h : GH} (n : Nat) (hn : n < 1000000000000000000) : ∃ r h', GCalls Tryz.prog gE 256 #[istr n, .int .i64 10, .int .i64 64] h r h' ∧ h.le h' ∧ r = .tuple #[.int .u64 n, .nilIface] := by
  refine gcalls_in (pl := noPl) [.tmp 6, .tmp 7] mixed Tryz.func256 rfl rfl (by exact ok256) ?_
  simp only [go_sem, Nat.reduceBEq]
  refine callK_intro (c_parseUint0 n hn) ?_
  rintro _ h1 ⟨hle1, rfl⟩
  simp only [go_sem, Nat.reduceBEq, Array.reduceGetElem?, ↓reduceIte]
  exact hle1
theorem c_parseInt0 {h : GH} (z : Int) (hz : z.natAbs < 100000000000000000) : ∃ r h', GCalls Tryz.prog gE 142 #[istr z, .int .i64 10, .int .i64 64] h r h' ∧ h.le h' ∧ r = .tuple #[.int .i64 z, .nilIface] := by
  obtain ⟨c, hc, hd, hdd⟩ := enc_head z
  have hpos := enc_size_pos z
  have hne : ¬ (enc z = ⟨#[]⟩) := by
    intro he
    rw [he] at hpos
    exact absurd hpos (by decide)
  obtain ⟨n, hn⟩ : ∃ n : Nat, n = z.natAbs := ⟨_, rfl⟩
  have hc43 : ¬ ((c.toNat : Int) = 43) := by
    intro h43
    rcases Int.lt_or_le z 0 with h | h
    · rw [decide_eq_true h] at hd
      have := of_decide_eq_true hd
      omega
    · have := hdd h; omega
  refine gcalls_in (pl := noPl) [.tmp 6, .tmp 7] mixed Tryz.func142 rfl rfl (by exact ok142) ?_
  simp only [go_sem, Nat.reduceBEq, Int.reduceLE, Int.reduceToNat, ↓reduceIte, hne, hc, hc43, hd]
  refine ifK_intro (fun h1 => ?_) (fun h1 => ?_)
  case' refine_1 =>
    have h1' := of_decide_eq_true h1
    have hs := enc_ext z h1'
    rw [show -z = (n : Int) by omega] at hs
    simp only [go_sem, Nat.reduceBEq, Int.reduceLE, Int.reduceToNat, ↓reduceIte, h1, hs, enc_size_ge]
  case' refine_2 =>
    have h1' := of_decide_eq_false h1
    obtain rfl : z = n := by omega
    simp only [go_sem, Nat.reduceBEq, h1]
  all_goals
    refine callK_intro (c_parseUint0 n (by omega)) ?_
    rintro _ h2 ⟨hle2, rfl⟩
    have e1 : (0 : Int) ≤ IntKind.u64.wrap 63 := by decide
    have e2 : IntKind.u64.wrap (1 * 2 ^ min (IntKind.u64.wrap 63).toNat 64) = 9223372036854775808 := by decide +kernel
    have k1 : ¬ (9223372036854775808 : Int) ≤ (n : Int) := by omega
    have k2 : ¬ (9223372036854775808 : Int) < (n : Int) := by omega
    simp (disch := first | omega | (simp only [List.length_cons, List.length_nil, List.length_set]; omega)) only [go_sem, Nat.reduceBEq, Int.reduceSub, Int.reduceEq, Array.reduceGetElem?, ↓reduceIte, wrap_i64, e1, e2, k1, k2]
  case refine_1 =>
    rw [show 0 - (n : Int) = z by omega]
    exact ⟨hle2, rfl⟩
  case refine_2 =>
    exact hle2
theorem c_parseInt {h : GH} (z : Int) (hz : z.natAbs < 100000000000000000) : ∃ r h', GCalls Tryz.prog gE 105 #[istr z, .int .i64 10, .int .i64 64] h r h' ∧ h.le h' ∧ r = .tuple #[.int .i64 z, .nilIface] := by
  refine gcalls_in (pl := noPl) [.tmp 6, .tmp 7] mixed Tryz.func105 rfl rfl (by exact ok105) ?_
  simp only [go_sem, Nat.reduceBEq]
  refine callK_intro (c_parseInt0 z hz) ?_
  rintro _ h1 ⟨hle1, rfl⟩
  simp only [go_sem, Nat.reduceBEq, Array.reduceGetElem?, ↓reduceIte]
  exact hle1
theorem blk24' {h h3 : GH} {k : Nat} (hk : k ≤ 24) (hle3 : (h.alloc ⟨z24, true, false⟩).le h3) : h3.b h.n = Blk [] (List.replicate k (.int .u8 0)) (List.replicate (24 - k) (.int .u8 0)) := by
  rw [hle3.2 _ (by simp), alloc_self]
  simp only [Blk, z24, GB.mk.injEq, and_true, List.nil_append, List.replicate_append_replicate]
  rw [show k + (24 - k) = 24 by omega]
theorem c_formatUint0 {h : GH} (n : Nat) (hz : n < 10000000) : ∃ r h', GCalls Tryz.prog gE 257 #[.int .u64 n, .int .i64 10] h r h' ∧ h.le h' ∧ r = istr n := by
  refine gcalls_in (pl := noPl) [.tmp 4] mixed Tryz.func257 rfl rfl (by exact ok257) ?_
  simp only [go_sem, Nat.reduceBEq]
  refine ifK_intro (fun h2 => ?_) (fun h2 => ?_)
  · have h2' := of_decide_eq_true h2
    simp (disch := first | omega | (simp only [List.length_cons, List.length_nil, List.length_set]; omega)) only [go_sem, Nat.reduceBEq, h2, wrap_i64]
    refine callK_intro (c_smallS n (by omega)) ?_
    rintro _ h3 ⟨hle3, rfl⟩
    simp only [go_sem]
    exact hle3
  · have h2' := of_decide_eq_false h2
    have hd := (digs_length_le (n := n) (k := 7) (by decide)).2 (by omega)
    have hdp := digs_length_pos n
    simp (disch := first | omega | (simp only [List.length_cons, List.length_nil, List.length_set]; omega)) only [go_sem, Nat.reduceBEq, h2]
    refine callK_intro (c_numDigits n (by omega) (by omega)) ?_
    rintro _ h3 ⟨hle3, rfl⟩
    simp (disch := first | omega | (simp only [List.length_cons, List.length_nil, List.length_set]; omega)) only [go_sem, Nat.reduceBEq, h2]
    refine optK_intro (gSlice_arr ty_ak269 ty_tk5 (l := 0) (u := (digs n).length) rfl (gBd_int (by omega)) (by omega) (by omega) (by decide)) ?_
    simp (disch := first | omega | (simp only [List.length_cons, List.length_nil, List.length_set]; omega)) only [go_sem, Nat.reduceBEq, Nat.reduceSub, h2]
    have hb3 := blk24' (k := (digs n).length) (by omega) hle3
    have hg3 : h.n < h3.n := Nat.lt_of_lt_of_le (by simp) hle3.1
    refine callK_intro (c_fmt10 (pre := []) rfl (by omega) hg3 (by omega) (by omega) (by simp) hb3) ?_
    rintro r h4 rfl
    simp (disch := first | omega | (simp only [List.length_cons, List.length_nil, List.length_set]; omega)) only [go_sem, Nat.reduceBEq, Nat.reduceSub, h2]
    refine optK_intro (gSlice_arr ty_ak269 ty_tk5 (l := 0) (u := (digs n).length) rfl (gBd_int (by omega)) (by omega) (by omega) (by decide)) ?_
    have hld := load_blk_n (h := h3.upd h.n (Blk [] (dcs n) (List.replicate (24 - (digs n).length) (.int .u8 0)))) hg3 (upd_self _ _ _)
    have hne : ¬ ((digs n).length - 0 = 0) := by omega
    rw [dcs_length] at hld
    have hl2 : (h3.upd h.n (Blk [] (dcs n) (List.replicate (24 - (digs n).length) (.int .u8 0)))).load h.n 0 ((digs n).length - 0) = some (dcs n) := hld
    simp (disch := first | omega | (simp only [List.length_cons, List.length_nil, List.length_set]; omega)) only [go_sem, Nat.reduceSub, ↓reduceIte, hne, hl2, show bytesV (dcs n) = some (digs n) from bytesV_map _]
    refine ⟨((GH.le_alloc _ _).trans hle3).upd (Nat.le_refl _) _, ?_⟩
    show _ = Value.string (enc _)
    rw [enc_nat]; rfl
theorem c_formatUint {h : GH} (n : Nat) (hz : n < 10000000) : ∃ r h', GCalls Tryz.prog gE 244 #[.int .u64 n, .int .i64 10] h r h' ∧ h.le h' ∧ r = istr n := by
  refine gcalls_in (pl := noPl) [.tmp 4] mixed Tryz.func244 rfl rfl (by exact ok244) ?_
  simp only [go_sem, Nat.reduceBEq]
  refine callK_intro (c_formatUint0 n hz) ?_
  rintro _ h1 ⟨hle1, rfl⟩
  simp only [go_sem]
  exact hle1
end Go.Proofs.Gh
namespace Go.Proofs.Gh
open Go Go.Proofs Go.Proofs.Zz
set_option maxRecDepth 10000
set_option linter.unusedSimpArgs false
/-- small integers: their texts have at most seven digits -/
abbrev Sm (z : Int) : Prop := z.natAbs < 10000000
theorem Sm.size {z : Int} (h : Sm z) : (enc z).size ≤ 8 := enc_size_le (k := 7) (by decide) h
theorem Sm.size0 {n : Nat} (h : Sm n) : (enc (n : Int)).size ≤ 7 := enc_size_le0 (k := 7) (by decide) (by omega) h
theorem c_dOf {h : GH} (n : Nat) (hn : Sm n) : ∃ r h', GCalls Tryz.prog gE 219 #[.int .u64 n] h r h' ∧ h.le h' ∧ r = istr n := by
  refine gcalls_in (pl := noPl) [.tmp 2] mixed Tryz.func219 rfl rfl (by exact ok219) ?_
  simp only [go_sem, Nat.reduceBEq]
  refine callK_intro (c_formatUint n (by omega)) ?_
  rintro _ h1 ⟨hle1, rfl⟩
  simp only [go_sem]
  exact hle1
theorem c_dSmall {h : GH} (n : Nat) (hn : Sm n) : ∃ r h', GCalls Tryz.prog gE 243 #[istr n] h r h' ∧ h.le h' ∧ r = .tuple #[.int .u64 n, .bool true] := by
  refine gcalls_in (pl := noPl) [.tmp 2, .tmp 3] mixed Tryz.func243 rfl rfl (by exact ok243) ?_
  simp only [go_sem, Nat.reduceBEq]
  refine callK_intro (c_parseUint n (by omega)) ?_
  rintro _ h1 ⟨hle1, rfl⟩
  simp only [go_sem, Nat.reduceBEq, Array.reduceGetElem?, ↓reduceIte]
  exact hle1
theorem c_dBoth {h : GH} (m n : Nat) (hm : Sm m) (hn : Sm n) : ∃ r h', GCalls Tryz.prog gE 218 #[istr m, istr n] h r h' ∧ h.le h' ∧ r = .tuple #[.int .u64 m, .int .u64 n, .bool true] := by
  have h1 := hm.size0
  have h2 := hn.size0
  have k1 : ¬ (18 : Int) < ((enc (m : Int)).size : Int) := by omega
  have k2 : ¬ (18 : Int) < ((enc (n : Int)).size : Int) := by omega
  refine gcalls_in (pl := noPl) [.tmp 4, .tmp 5, .tmp 6] mixed Tryz.func218 rfl rfl (by exact ok218) ?_
  simp only [go_sem, Nat.reduceBEq, Array.reduceGetElem?, ↓reduceIte, k1, k2]
  refine callK_intro (c_dSmall m hm) ?_
  rintro _ h1 ⟨hle1, rfl⟩
  simp only [go_sem, Nat.reduceBEq, Array.reduceGetElem?]
  refine callK_intro (c_dSmall n hn) ?_
  rintro _ h2 ⟨hle2, rfl⟩
  simp only [go_sem, Nat.reduceBEq, Array.reduceGetElem?]
  exact hle1.trans hle2
theorem c_little {h : GH} (z : Int) (most : Int) (hz : z.natAbs < 100000000000000000) (hm : ((enc z).size : Int) ≤ most) : ∃ r h', GCalls Tryz.prog gE 184 #[istr z, .int .i64 most] h r h' ∧ h.le h' ∧ r = .tuple #[.int .i64 z, .bool true] := by
  have k1 : ¬ most < ((enc z).size : Int) := by omega
  refine gcalls_in (pl := pl184) [.tmp 4, .tmp 5] mixed Tryz.func184 rfl rfl (by exact ok184) ?_
  simp only [go_sem, Nat.reduceBEq, k1]
  refine callK_intro (c_atoi z hz) ?_
  rintro _ h1 ⟨hle1, rfl⟩
  simp only [go_sem, Nat.reduceBEq, Array.reduceGetElem?, ↓reduceIte, pl184]
  exact hle1
theorem c_wSmall {h : GH} (z : Int) (hz : Sm z) : ∃ r h', GCalls Tryz.prog gE 70 #[istr z] h r h' ∧ h.le h' ∧ r = .tuple #[.int .i64 z, .bool true] := by
  refine gcalls_in (pl := noPl) [.tmp 2, .tmp 3] mixed Tryz.func70 rfl rfl (by exact ok70) ?_
  simp only [go_sem, Nat.reduceBEq]
  refine callK_intro (c_parseInt z (by omega)) ?_
  rintro _ h1 ⟨hle1, rfl⟩
  have : IntKind.i64.wrap z = z := wrap_i64 (by omega) (by omega)
  simp only [go_sem, Nat.reduceBEq, Array.reduceGetElem?, ↓reduceIte]
  exact hle1
theorem c_Sign {h : GH} (z : Int) : ∃ r h', GCalls Tryz.prog gE 144 #[istr z] h r h' ∧ h.le h' ∧ r = .int .i64 (if z = 0 then 0 else if z < 0 then -1 else 1) := by
  obtain ⟨c, hc, hd, hdd⟩ := enc_head z
  refine gcalls_in (pl := noPl) [.tmp 2] mixed Tryz.func144 rfl rfl (by exact ok144) ?_
  simp only [go_sem, Nat.reduceBEq, enc_eq_zero]
  refine ifK_intro (fun h1 => ?_) (fun h1 => ?_)
  · have h1' := of_decide_eq_true h1
    simp only [go_sem, Int.reduceNeg, h1]
    exact ⟨GH.le.refl _, by rw [if_pos h1']⟩
  · have h1' := of_decide_eq_false h1
    simp only [go_sem, Nat.reduceBEq, Int.reduceLE, Int.reduceToNat, ↓reduceIte, hc, hd]
    refine ifK_intro (fun h2 => ?_) (fun h2 => ?_)
    · have h2' := of_decide_eq_true h2
      simp only [go_sem, Int.reduceNeg, h2]
      exact ⟨GH.le.refl _, by rw [if_neg h1', if_pos h2']⟩
    · have h2' := of_decide_eq_false h2
      simp only [go_sem, Int.reduceNeg, h2]
      exact ⟨GH.le.refl _, by rw [if_neg h1', if_neg h2']⟩
theorem c_Neg {h : GH} (z : Int) (hz : Sm z) : ∃ r h', GCalls Tryz.prog gE 141 #[istr z] h r h' ∧ h.le h' ∧ r = istr (-z) := by
  refine gcalls_in (pl := noPl) [.tmp 2] mixed Tryz.func141 rfl rfl (by exact ok141) ?_
  simp only [go_sem, Nat.reduceBEq]
  refine callK_intro (c_split z) ?_
  rintro _ h1 ⟨hle1, rfl⟩
  simp only [go_sem, Nat.reduceBEq, Array.reduceGetElem?]
  refine callK_intro (c_join (!decide (z < 0)) z.natAbs (by have := Sm.size0 (n := z.natAbs) (by omega); omega)) ?_
  rintro _ h2 ⟨hle2, rfl⟩
  simp only [go_sem]
  refine ⟨hle1.trans hle2, ?_⟩
  congr 2
  by_cases hz : z < 0
  · simp only [hz, decide_true, Bool.not_true, Bool.false_eq_true, if_false]; omega
  · simp only [hz, decide_false, Bool.not_false, if_true]; omega
theorem c_Abs {h : GH} (z : Int) : ∃ r h', GCalls Tryz.prog gE 146 #[istr z] h r h' ∧ h.le h' ∧ r = istr z.natAbs := by
  refine gcalls_in (pl := noPl) [.tmp 2] mixed Tryz.func146 rfl rfl (by exact ok146) ?_
  simp only [go_sem, Nat.reduceBEq]
  refine callK_intro (c_split z) ?_
  rintro _ h1 ⟨hle1, rfl⟩
  simp only [go_sem, Nat.reduceBEq, Array.reduceGetElem?]
  exact hle1
theorem c_Add {h : GH} (x y : Int) (hx : Sm x) (hy : Sm y) (hs : Sm (x + y)) : ∃ r h', GCalls Tryz.prog gE 192 #[istr x, istr y] h r h' ∧ h.le h' ∧ r = istr (x + y) := by
  have h1 := hx.size
  have h2 := hy.size
  refine gcalls_in (pl := noPl) [.tmp 4] mixed Tryz.func192 rfl rfl (by exact ok192) ?_
  simp only [go_sem, Nat.reduceBEq]
  refine callK_intro (c_little x 18 (by omega) (by omega)) ?_
  rintro _ h1 ⟨hle1, rfl⟩
  simp only [go_sem, Nat.reduceBEq, Array.reduceGetElem?]
  refine callK_intro (c_little y 18 (by omega) (by omega)) ?_
  rintro _ h2 ⟨hle2, rfl⟩
  simp (disch := first | omega | (simp only [List.length_cons, List.length_nil, List.length_set]; omega)) only [go_sem, Nat.reduceBEq, Array.reduceGetElem?, wrap_i64]
  refine callK_intro (c_wholeOf (x + y) hs) ?_
  rintro _ h3 ⟨hle3, rfl⟩
  simp only [go_sem]
  exact (hle1.trans hle2).trans hle3
theorem c_Mul {h : GH} (x y : Int) (hx : Sm x) (hy : Sm y) (hs : Sm (x * y)) : ∃ r h', GCalls Tryz.prog gE 152 #[istr x, istr y] h r h' ∧ h.le h' ∧ r = istr (x * y) := by
  have h1 := hx.size
  have h2 := hy.size
  have hw : IntKind.i64.wrap (x * y) = x * y := wrap_i64 (by omega) (by omega)
  refine gcalls_in (pl := noPl) [.tmp 4] mixed Tryz.func152 rfl rfl (by exact ok152) ?_
  simp only [go_sem, Nat.reduceBEq]
  refine callK_intro (c_little x 9 (by omega) (by omega)) ?_
  rintro _ h1 ⟨hle1, rfl⟩
  simp only [go_sem, Nat.reduceBEq, Array.reduceGetElem?]
  refine callK_intro (c_little y 9 (by omega) (by omega)) ?_
  rintro _ h2 ⟨hle2, rfl⟩
  simp (disch := first | omega | (simp only [List.length_cons, List.length_nil, List.length_set]; omega)) only [go_sem, Nat.reduceBEq, Array.reduceGetElem?, hw]
  refine callK_intro (c_wholeOf (x * y) hs) ?_
  rintro _ h3 ⟨hle3, rfl⟩
  simp only [go_sem]
  exact (hle1.trans hle2).trans hle3
end Go.Proofs.Gh
namespace Go.Proofs.Gh
open Go Go.Proofs Go.Proofs.Zz
set_option maxRecDepth 10000
set_option linter.unusedSimpArgs false
theorem Sm.nat {n : Nat} (h : n < 10000000) : Sm (n : Int) := by
  show (n : Int).natAbs < _
  rw [Int.natAbs_natCast]; exact h
theorem div_down {x y : Int} (hy : 0 < y) : (if x.tmod y ≠ 0 ∧ x.tmod y < 0 then (x.tdiv y - 1, x.tmod y + y) else (x.tdiv y, x.tmod y)) = (x / y, x % y) := by
  rw [Int.tdiv_eq_ediv, Int.tmod_eq_emod]
  by_cases h : 0 ≤ x ∨ y ∣ x
  · rw [if_pos h, if_pos h]
    have := Int.emod_nonneg x (by omega : y ≠ 0)
    rw [if_neg (by omega)]
    simp
  · rw [if_neg h, if_neg h]
    have h1 := Int.emod_lt_of_pos x hy
    have h2 : y.natAbs = y := by omega
    rw [h2, Int.sign_eq_one_of_pos hy, if_pos (by omega)]
    refine Prod.ext ?_ ?_ <;> simp only <;> omega
theorem c_DivMod {h : GH} (x y : Int) (hx : Sm x) (hy : Sm y) (h0 : 0 < y) : ∃ r h', GCalls Tryz.prog gE 151 #[istr x, istr y] h r h' ∧ h.le h' ∧ r = .tuple #[istr (x / y), istr (x % y), .int .i64 0] := by
  have h1 := hx.size
  have h2 := hy.size
  have hne : ¬ y = 0 := by omega
  have hlt : ¬ y < 0 := by omega
  have hq : (x.tdiv y).natAbs ≤ x.natAbs := by rw [Int.natAbs_tdiv]; exact Nat.div_le_self _ _
  have hr : (x.tmod y).natAbs < y.natAbs := by rw [Int.natAbs_tmod]; exact Nat.mod_lt _ (by omega)
  have hdd := div_down (x := x) h0
  have hq2 : (x / y).natAbs ≤ x.natAbs := Int.natAbs_ediv_le_natAbs _ _
  have hr2 : (x % y).natAbs < y.natAbs := by
    have := Int.emod_nonneg x (by omega : y ≠ 0)
    have := Int.emod_lt_of_pos x h0
    omega
  refine gcalls_in (pl := pl151) [.tmp 4, .tmp 5, .tmp 6] mixed Tryz.func151 rfl rfl (by exact ok151) ?_
  simp only [go_sem, Nat.reduceBEq, enc_eq_zero, hne]
  refine callK_intro (c_little x 18 (by omega) (by omega)) ?_
  rintro _ h3 ⟨hle3, rfl⟩
  simp only [go_sem, Nat.reduceBEq, Array.reduceGetElem?]
  refine callK_intro (c_little y 18 (by omega) (by omega)) ?_
  rintro _ h4 ⟨hle4, rfl⟩
  have w1 : IntKind.i64.wrap (x.tdiv y) = x.tdiv y := wrap_i64 (by omega) (by omega)
  have w2 : IntKind.i64.wrap (x.tmod y) = x.tmod y := wrap_i64 (by omega) (by omega)
  simp (disch := first | omega | (simp only [List.length_cons, List.length_nil, List.length_set]; omega)) only [go_sem, Nat.reduceBEq, Array.reduceGetElem?, ↓reduceIte, w1, hne, pl151]
  refine ifK_intro (fun c1 => ?_) (fun c1 => ?_)
  · have c1' := of_decide_eq_true c1
    simp (disch := first | omega | (simp only [List.length_cons, List.length_nil, List.length_set]; omega)) only [go_sem, Nat.reduceBEq, Array.reduceGetElem?, ↓reduceIte, hlt, c1]
    refine ifK_intro (fun c2 => ?_) (fun c2 => ?_)
    · have c2' : ¬ x.tmod y < 0 := by
        intro h
        rw [decide_eq_true h] at c2
        cases c2
      rw [if_neg (fun h => c2' h.2)] at hdd
      have q1 : x.tdiv y = x / y := congrArg Prod.fst hdd
      have q2 : x.tmod y = x % y := congrArg Prod.snd hdd
      simp (disch := first | omega | (simp only [List.length_cons, List.length_nil, List.length_set]; omega)) only [go_sem, Nat.reduceBEq, c1, c2]
      rw [q1, q2]
      refine callK_intro (c_wholeOf (x / y) (by omega)) ?_
      rintro _ h5 ⟨hle5, rfl⟩
      simp (disch := first | omega | (simp only [List.length_cons, List.length_nil, List.length_set]; omega)) only [go_sem, Nat.reduceBEq]
      refine callK_intro (c_wholeOf (x % y) (by omega)) ?_
      rintro _ h6 ⟨hle6, rfl⟩
      simp only [go_sem, Nat.reduceBEq]
      exact ((hle3.trans hle4).trans hle5).trans hle6
    · have c2' : x.tmod y < 0 := by
        rcases Int.lt_or_le (x.tmod y) 0 with h | h
        · exact h
        · rw [decide_eq_false (by omega)] at c2
          cases c2
      rw [if_pos ⟨c1', c2'⟩] at hdd
      have q1 : x.tdiv y - 1 = x / y := congrArg Prod.fst hdd
      have q2 : x.tmod y + y = x % y := congrArg Prod.snd hdd
      have w3 : IntKind.i64.wrap (x.tdiv y - 1) = x / y := by rw [q1]; exact wrap_i64 (by omega) (by omega)
      have w4 : IntKind.i64.wrap (x.tmod y + y) = x % y := by rw [q2]; exact wrap_i64 (by omega) (by omega)
      simp only [go_sem, Nat.reduceBEq, c1, c2, w3, w4]
      refine callK_intro (c_wholeOf (x / y) (by omega)) ?_
      rintro _ h5 ⟨hle5, rfl⟩
      simp only [go_sem, Nat.reduceBEq]
      refine callK_intro (c_wholeOf (x % y) (by omega)) ?_
      rintro _ h6 ⟨hle6, rfl⟩
      simp only [go_sem, Nat.reduceBEq]
      exact ((hle3.trans hle4).trans hle5).trans hle6
  · have c1' := of_decide_eq_false c1
    rw [if_neg (fun h => c1' h.1)] at hdd
    have q1 : x.tdiv y = x / y := congrArg Prod.fst hdd
    have q2 : x.tmod y = x % y := congrArg Prod.snd hdd
    simp (disch := first | omega | (simp only [List.length_cons, List.length_nil, List.length_set]; omega)) only [go_sem, Nat.reduceBEq, Array.reduceGetElem?, ↓reduceIte, c1]
    rw [q1, q2]
    refine callK_intro (c_wholeOf (x / y) (by omega)) ?_
    rintro _ h5 ⟨hle5, rfl⟩
    simp (disch := first | omega | (simp only [List.length_cons, List.length_nil, List.length_set]; omega)) only [go_sem, Nat.reduceBEq]
    refine callK_intro (c_wholeOf (x % y) (by omega)) ?_
    rintro _ h6 ⟨hle6, rfl⟩
    simp only [go_sem, Nat.reduceBEq]
    exact ((hle3.trans hle4).trans hle5).trans hle6
theorem c_gcdI {h : GH} (m n : Nat) (hm : Sm m) (hn : Sm n) : ∃ r h', GCalls Tryz.prog gE 185 #[.int .i64 m, .int .i64 n] h r h' ∧ h.le h' ∧ r = .int .i64 (m.gcd n) := by
  refine gcalls_in (pl := pl185) [.tmp 4] mixed Tryz.func185 rfl rfl (by exact ok185) ?_
  simp only [go_sem]
  refine loopK_inv (α := Nat × Nat) (fun p => p.2) (fun p ts g => ts 0 = .int .i64 p.1 ∧ ts 1 = .int .i64 p.2 ∧ g = h ∧ p.1 < 10000000 ∧ p.2 < 10000000 ∧ p.1.gcd p.2 = m.gcd n) ?_ (a0 := (m, n)) ?_
  · rintro ⟨a, b⟩ ts g ⟨h0, h1, rfl, ha, hb, he⟩
    dsimp only at *
    simp only [go_sem, h1]
    refine ifK_intro (fun c1 => ?_) (fun c1 => ?_)
    · have c1' := of_decide_eq_true c1
      have hb0 : ¬ (b : Int) = 0 := c1'
      have hmod := Nat.mod_lt a (show 0 < b by omega)
      have w : IntKind.i64.wrap (((a % b : Nat)) : Int) = ((a % b : Nat) : Int) := wrap_i64 (by omega) (by omega)
      simp only [go_sem, Nat.reduceBEq, Array.reduceGetElem?, ↓reduceIte, h0, h1, hb0, tmod_nat, pl185]
      exact ⟨(b, a % b), hmod, rfl, rfl, hb, by omega, by rw [← he, Nat.gcd_comm a b, Nat.gcd_rec b a, Nat.gcd_comm]⟩
    · have c1' := of_decide_eq_false c1
      simp only [go_sem, Nat.reduceBEq, h0, c1]
      obtain rfl : b = 0 := by omega
      rw [Nat.gcd_zero_right] at he
      rw [he]
      exact ⟨GH.le.refl _, rfl⟩
  · simp only [go_sem, Nat.reduceBEq]
    omega
theorem c_Gcd {h : GH} (x y : Int) (hx : Sm x) (hy : Sm y) : ∃ r h', GCalls Tryz.prog gE 145 #[istr x, istr y] h r h' ∧ h.le h' ∧ r = istr (x.natAbs.gcd y.natAbs : Nat) := by
  have hg : x.natAbs.gcd y.natAbs < 10000000 := by
    rcases Nat.eq_zero_or_pos x.natAbs with h | h
    · rw [h, Nat.gcd_zero_left]; exact hy
    · exact Nat.lt_of_le_of_lt (Nat.gcd_le_left _ h) hx
  have h1 := Sm.size0 (n := x.natAbs) (by omega)
  have h2 := Sm.size0 (n := y.natAbs) (by omega)
  refine gcalls_in (pl := noPl) [.tmp 4] mixed Tryz.func145 rfl rfl (by exact ok145) ?_
  simp only [go_sem, Nat.reduceBEq]
  refine callK_intro (c_Abs x) ?_
  rintro _ h1 ⟨hle1, rfl⟩
  simp only [go_sem, Nat.reduceBEq]
  refine callK_intro (c_Abs y) ?_
  rintro _ h2 ⟨hle2, rfl⟩
  simp only [go_sem, Nat.reduceBEq]
  refine callK_intro (c_little x.natAbs 18 (by omega) (by omega)) ?_
  rintro _ h3 ⟨hle3, rfl⟩
  simp only [go_sem, Nat.reduceBEq, Array.reduceGetElem?]
  refine callK_intro (c_little y.natAbs 18 (by omega) (by omega)) ?_
  rintro _ h4 ⟨hle4, rfl⟩
  simp only [go_sem, Nat.reduceBEq, Array.reduceGetElem?]
  refine callK_intro (c_gcdI x.natAbs y.natAbs (by omega) (by omega)) ?_
  rintro _ h5 ⟨hle5, rfl⟩
  simp only [go_sem]
  refine callK_intro (c_wholeOf (x.natAbs.gcd y.natAbs : Nat) (by omega)) ?_
  rintro _ h6 ⟨hle6, rfl⟩
  simp only [go_sem]
  exact ((((hle1.trans hle2).trans hle3).trans hle4).trans hle5).trans hle6
theorem c_dDivMod {h : GH} (m n : Nat) (hm : Sm m) (hn : Sm n) (h0 : 0 < n) : ∃ r h', GCalls Tryz.prog gE 193 #[istr m, istr n] h r h' ∧ h.le h' ∧ r = .tuple #[istr (m / n : Nat), istr (m % n : Nat), .int .i64 0] := by
  have hne : ¬ (n : Int) = 0 := by omega
  have hq := Nat.div_le_self m n
  have hr := Nat.mod_lt m h0
  refine gcalls_in (pl := pl193) [.tmp 4, .tmp 5, .tmp 6] mixed Tryz.func193 rfl rfl (by exact ok193) ?_
  simp only [go_sem, Nat.reduceBEq, enc_eq_zero, hne]
  refine callK_intro (c_dBoth m n hm hn) ?_
  rintro _ h1 ⟨hle1, rfl⟩
  have hq0 : (0 : Int) ≤ ((m / n : Nat) : Int) := Int.natCast_nonneg _
  have hr0 : (0 : Int) ≤ ((m % n : Nat) : Int) := Int.natCast_nonneg _
  have w1 : IntKind.u64.wrap ((m / n : Nat) : Int) = ((m / n : Nat) : Int) := wrap_u64 (by omega) (by omega)
  have w2 : IntKind.u64.wrap ((m % n : Nat) : Int) = ((m % n : Nat) : Int) := wrap_u64 (by omega) (by omega)
  simp only [go_sem, Nat.reduceBEq, Array.reduceGetElem?, ↓reduceIte, hne, tdiv_nat, tmod_nat, w1, pl193]
  refine callK_intro (c_dOf (m / n) (.nat (by omega))) ?_
  rintro _ h2 ⟨hle2, rfl⟩
  simp only [go_sem, Nat.reduceBEq, Array.reduceGetElem?]
  refine callK_intro (c_dOf (m % n) (.nat (by omega))) ?_
  rintro _ h3 ⟨hle3, rfl⟩
  simp only [go_sem, Nat.reduceBEq, Array.reduceGetElem?]
  exact (hle1.trans hle2).trans hle3
theorem c_dMul {h : GH} (m n : Nat) (hm : Sm m) (hn : Sm n) (hp : Sm ((m * n : Nat) : Int)) : ∃ r h', GCalls Tryz.prog gE 196 #[istr m, istr n] h r h' ∧ h.le h' ∧ r = istr (m * n : Nat) := by
  have h1 := hm.size0
  have h2 := hn.size0
  have w1 : IntKind.i64.wrap (((enc (m : Int)).size : Int) + ((enc (n : Int)).size : Int)) = ((enc (m : Int)).size : Int) + ((enc (n : Int)).size : Int) := wrap_i64 (by omega) (by omega)
  have k1 : ((enc (m : Int)).size : Int) + ((enc (n : Int)).size : Int) ≤ 18 := by omega
  refine gcalls_in (pl := noPl) [.tmp 4] mixed Tryz.func196 rfl rfl (by exact ok196) ?_
  simp only [go_sem, Nat.reduceBEq, w1, k1]
  refine callK_intro (c_dBoth m n hm hn) ?_
  rintro _ h3 ⟨hle3, rfl⟩
  have w1 : IntKind.u64.wrap ((m : Int) * (n : Int)) = ((m * n : Nat) : Int) := by rw [← Int.natCast_mul]; exact wrap_u64 (by omega) (by omega)
  simp only [go_sem, Nat.reduceBEq, Array.reduceGetElem?, w1]
  refine callK_intro (c_dOf (m * n) hp) ?_
  rintro _ h4 ⟨hle4, rfl⟩
  simp only [go_sem]
  exact hle3.trans hle4
theorem c_dGcd {h : GH} (m n : Nat) (hm : Sm m) (hn : Sm n) : ∃ r h', GCalls Tryz.prog gE 186 #[istr m, istr n] h r h' ∧ h.le h' ∧ r = istr (m.gcd n) := by
  refine gcalls_in (pl := noPl) [.tmp 4] mixed Tryz.func186 rfl rfl (by exact ok186) ?_
  simp only [go_sem]
  refine loopK_inv (α := Nat × Nat) (fun p => p.2) (fun p ts g => ts 0 = istr p.1 ∧ ts 1 = istr p.2 ∧ h.le g ∧ p.1 < 10000000 ∧ p.2 < 10000000 ∧ p.1.gcd p.2 = m.gcd n) ?_ (a0 := (m, n)) ?_
  · rintro ⟨a, b⟩ ts g ⟨h0, h1, hle, ha, hb, he⟩
    dsimp only at *
    simp only [go_sem, h1]
    refine ifK_intro (fun c1 => ?_) (fun c1 => ?_)
    · have c1' := of_decide_eq_true c1
      have hb0 : 0 < b := by
        rcases Nat.eq_zero_or_pos b with h | h
        · subst h; exact absurd enc_zero c1'
        · exact h
      have hmod := Nat.mod_lt a hb0
      simp only [go_sem, Nat.reduceBEq, h0, h1, c1]
      refine callK_intro (c_dDivMod a b (by omega) (by omega) hb0) ?_
      rintro _ h2 ⟨hle2, rfl⟩
      simp only [go_sem, Nat.reduceBEq, Int.reduceNe, Array.reduceGetElem?, h1]
      exact ⟨(b, a % b), hmod, rfl, rfl, hle.trans hle2, hb, by omega, by rw [← he, Nat.gcd_comm a b, Nat.gcd_rec b a, Nat.gcd_comm]⟩
    · have c1' := of_decide_eq_false c1
      have hb0 : (b : Int) = 0 := enc_eq_zero.1 (Decidable.not_not.1 c1')
      simp only [go_sem, Nat.reduceBEq, h0, c1]
      obtain rfl : b = 0 := by omega
      rw [Nat.gcd_zero_right] at he
      rw [he]
      exact ⟨hle, rfl⟩
  · simp only [go_sem, Nat.reduceBEq]
    exact ⟨GH.le.refl _, by omega, by omega⟩
theorem c_dLcm {h : GH} (m n : Nat) (hm : Sm m) (hn : Sm n) (h1 : 0 < m) (h2 : 0 < n) (hl : Sm (m.lcm n : Nat)) : ∃ r h', GCalls Tryz.prog gE 199 #[istr m, istr n] h r h' ∧ h.le h' ∧ r = istr (m.lcm n : Nat) := by
  have hg : 0 < m.gcd n := Nat.gcd_pos_of_pos_left _ h1
  have hg2 : m.gcd n ≤ m := Nat.gcd_le_left _ h1
  have e1 : ¬ (m : Int) = 0 := by omega
  have e2 : ¬ (n : Int) = 0 := by omega
  refine gcalls_in (pl := noPl) [.tmp 4] mixed Tryz.func199 rfl rfl (by exact ok199) ?_
  simp only [go_sem, Nat.reduceBEq, Array.reduceGetElem?, ↓reduceIte, enc_eq_zero, e1, e2]
  refine callK_intro (c_dGcd m n hm hn) ?_
  rintro _ h3 ⟨hle3, rfl⟩
  simp only [go_sem, Nat.reduceBEq]
  refine callK_intro (c_dDivMod m (m.gcd n) hm (by omega) hg) ?_
  rintro _ h4 ⟨hle4, rfl⟩
  simp only [go_sem, Nat.reduceBEq, Int.reduceNe, Array.reduceGetElem?]
  have hd := Nat.div_le_self m (m.gcd n)
  have he : m / m.gcd n * n = m.lcm n := by rw [Nat.lcm, Nat.div_mul_right_comm (Nat.gcd_dvd_left _ _)]
  refine callK_intro (c_dMul (m / m.gcd n) n (.nat (Nat.lt_of_le_of_lt hd (by omega))) hn (by rw [he]; exact hl)) ?_
  rintro _ h5 ⟨hle5, rfl⟩
  simp only [go_sem, he]
  exact (hle3.trans hle4).trans hle5
theorem c_Lcm {h : GH} (m n : Nat) (hm : Sm m) (hn : Sm n) (h1 : 0 < m) (h2 : 0 < n) (hl : Sm (m.lcm n : Nat)) : ∃ r h', GCalls Tryz.prog gE 157 #[istr m, istr n] h r h' ∧ h.le h' ∧ r = istr (m.lcm n : Nat) := by
  refine gcalls_in (pl := noPl) [.tmp 4] mixed Tryz.func157 rfl rfl (by exact ok157) ?_
  simp only [go_sem, Nat.reduceBEq]
  refine callK_intro (c_Abs m) ?_
  rintro _ h3 ⟨hle3, rfl⟩
  simp only [go_sem, Nat.reduceBEq]
  refine callK_intro (c_Abs n) ?_
  rintro _ h4 ⟨hle4, rfl⟩
  simp only [go_sem, Nat.reduceBEq]
  refine callK_intro (c_dLcm m n hm hn h1 h2 hl) ?_
  rintro _ h5 ⟨hle5, rfl⟩
  simp only [go_sem]
  exact (hle3.trans hle4).trans hle5
end Go.Proofs.Gh
namespace Go.Proofs.Gh
open Go Go.Proofs Go.Proofs.Zz
set_option maxRecDepth 10000
set_option linter.unusedSimpArgs false
def isDig (c : UInt8) : Bool := decide (48 ≤ c.toNat) && decide (c.toNat ≤ 57)
def canonB (l : List UInt8) : Bool := l.all isDig && (l.length == 1 || (decide (1 < l.length) && l[0]? != some 48))
theorem c_Canonical0 (s : ByteArray) (hs : s.size ≤ 4611686018427387904) (h : GH) : ∃ r h', GCalls Tryz.prog gE 211 #[.string s] h r h' ∧ h.le h' ∧ r = .bool (canonB s.data.toList) := by
  refine gcalls_in (pl := noPl) [.tmp 2] mixed Tryz.func211 rfl rfl (by exact ok211) ?_
  simp only [go_sem, Nat.reduceBEq]
  refine loopK_inv (α := Nat) (fun i => s.size - i) (fun i ts g => ts 0 = .string s ∧ ts 6 = .slice (some ⟨h.n, 0, none⟩) s.size (unk + 1) ∧ ts 7 = .int .i64 s.size ∧ ts 8 = .int .i64 i ∧ i ≤ s.size ∧ g = h.alloc ⟨byteCells s, true, false⟩ ∧ ∀ j, j < i → ∀ c, s.data.toList[j]? = some c → isDig c = true) ?_ (a0 := 0) ?_
  · rintro i ts g ⟨h0, h6, h7, h8, hi, rfl, hd⟩
    simp only [go_sem, h7, h8]
    refine ifK_intro ?_ ?_
    · intro hlt
      have hlt' : i < s.size := by simpa using hlt
      obtain ⟨c, hc⟩ : ∃ c, s.data.toList[i]? = some c := ⟨_, List.getElem?_eq_getElem (by simpa using hlt')⟩
      have hl : (h.alloc ⟨byteCells s, true, false⟩).load h.n i 1 = some [.int .u8 c.toNat] :=
        load_one_at (Nat.lt_succ_self _) (alloc_self _ _) (by rw [byteCells_get, hc]; rfl)
      simp only [go_sem, Nat.reduceBEq, Array.reduceGetElem?, ↓reduceIte, h6, h8, of_decide_eq_true hlt, hl]
      have bad : isDig c = false → canonB s.data.toList = false := by
        intro hb
        have : s.data.toList.all isDig = false := by
          rw [List.all_eq_false]
          exact ⟨c, List.mem_of_getElem? hc, by simp [hb]⟩
        simp [canonB, this]
      refine ifK_intro ?_ ?_
      · intro h1
        simp only [go_sem, Nat.reduceBEq, Array.reduceGetElem?, ↓reduceIte, h1]
        refine ⟨GH.le_alloc _ _, ?_⟩
        rw [bad]
        have := of_decide_eq_true h1
        simp only [isDig, Bool.and_eq_false_iff, decide_eq_false_iff_not]
        omega
      · intro h1
        simp only [go_sem, Nat.reduceBEq, Array.reduceGetElem?, ↓reduceIte, h1]
        refine ifK_intro ?_ ?_
        · intro h2
          simp only [go_sem, h1, h2]
          refine ⟨GH.le_alloc _ _, ?_⟩
          rw [bad]
          have := of_decide_eq_true h2
          simp only [isDig, Bool.and_eq_false_iff, decide_eq_false_iff_not]
          omega
        · intro h2
          simp only [go_sem, Nat.reduceBEq, h0, h6, h7, h8]
          have k1 := of_decide_eq_false h1
          have k2 := of_decide_eq_false h2
          refine ⟨i + 1, by omega, ?_, hlt', ?_⟩
          · rw [wrap_i64 (by omega) (by omega)]; rfl
          · intro j hj d hd'
            by_cases hji : j = i
            · subst hji
              rw [hc] at hd'
              injection hd' with hd'
              subst hd'
              simp only [isDig, Bool.and_eq_true, decide_eq_true_eq]
              omega
            · exact hd j (by omega) d hd'
    · intro hge
      have hge' : i = s.size := by
        have := of_decide_eq_false hge
        omega
      have hlen : s.data.toList.length = s.size := by simp
      have hall : s.data.toList.all isDig = true := by
        rw [List.all_eq_true]
        intro c hc
        obtain ⟨j, hj⟩ := List.getElem?_of_mem hc
        have := (List.getElem?_eq_some_iff.1 hj).1
        exact hd j (by omega) c hj
      simp only [go_sem, Nat.reduceBEq, Array.reduceGetElem?, h0]
      refine ifK_intro ?_ ?_
      · intro h1
        simp only [go_sem, Nat.reduceBEq, Array.reduceGetElem?, ↓reduceIte, h1]
        have : s.data.toList.length = 1 := by have := of_decide_eq_true h1; omega
        exact ⟨GH.le_alloc _ _, by simp [canonB, hall, this]⟩
      · intro h1
        simp only [go_sem, Nat.reduceBEq, Array.reduceGetElem?, h0, h1]
        have k1 := of_decide_eq_false h1
        refine ifK_intro ?_ ?_
        · intro h2
          have k2 := of_decide_eq_true h2
          obtain ⟨c, hc⟩ : ∃ c, s.data.toList[0]? = some c := ⟨_, List.getElem?_eq_getElem (by omega)⟩
          simp only [go_sem, Nat.reduceBEq, Int.reduceLE, Int.reduceToNat, Array.reduceGetElem?, ↓reduceIte, h0, h1, h2, hc]
          have e1 : (s.data.toList.length == 1) = false := by simp; omega
          have e2 : decide (1 < s.data.toList.length) = true := by simp; omega
          have e3 : decide ((c.toNat : Int) ≠ 48) = (some c != some 48) := by
            rw [Bool.eq_iff_iff, decide_eq_true_iff, bne_iff_ne, ne_eq, ne_eq, Option.some.injEq, ← UInt8.toNat_inj]
            show ¬ (_ = _) ↔ ¬ (c.toNat = 48)
            omega
          refine ⟨GH.le_alloc _ _, ?_⟩
          rw [canonB, hall, e1, e2, hc, e3]
          simp
        · intro h2
          simp only [go_sem, Nat.reduceBEq, Array.reduceGetElem?, ↓reduceIte, h1, h2]
          have k2 := of_decide_eq_false h2
          have e1 : (s.data.toList.length == 1) = false := by simp; omega
          have e2 : decide (1 < s.data.toList.length) = false := by simp; omega
          refine ⟨GH.le_alloc _ _, ?_⟩
          rw [canonB, e1, e2]
          simp
  · simp only [go_sem, Nat.reduceBEq]
    exact ⟨Nat.zero_le _, fun j hj => absurd hj (Nat.not_lt_zero _)⟩

theorem canonB_digs (n : Nat) : canonB (digs n) = true := by
  have h1 := digs_all n
  have h2 := digs_length_pos n
  have h3 : (digs n).all isDig = true := by
    rw [List.all_eq_true]
    intro c hc
    have := h1 c hc
    simp [isDig, this.1, this.2]
  unfold canonB
  rw [h3, Bool.true_and]
  rcases Nat.lt_or_ge n 10 with h | h
  · rw [digs_lt h]; rfl
  · have h4 : 2 ≤ (digs n).length := by
      rw [digs_ge h]
      have := digs_length_pos (n / 10)
      simp; omega
    cases hd : digs n with
    | nil => rw [hd] at h2; simp at h2
    | cons c l =>
      have := digs_head (n := n) (by omega) c l hd
      have hc : c ≠ 48 := by rintro rfl; simp at this
      rw [hd] at h4
      simp at h4
      simp [hc]
      right
      exact h4
theorem c_Canonical {h : GH} (n : Nat) (hn : Sm n) : ∃ r h', GCalls Tryz.prog gE 211 #[istr n] h r h' ∧ h.le h' ∧ r = .bool true := by
  have := c_Canonical0 (enc n) (by have := hn.size0; omega) h
  rwa [enc_toList, encL_pos (by omega), Int.natAbs_natCast, canonB_digs] at this
theorem c_dCheck {h : GH} (n : Nat) (hn : Sm n) : ∃ r h', GCalls Tryz.prog gE 183 #[istr n] h r h' ∧ h.le h' ∧ r = .int .i64 0 := by
  have h2 := hn.size0
  have k1 : ¬ (400 : Int) < ((enc (n : Int)).size : Int) := by omega
  refine gcalls_in (pl := noPl) [.tmp 2] mixed Tryz.func183 rfl rfl (by exact ok183) ?_
  simp only [go_sem, Nat.reduceBEq]
  refine callK_intro (c_Canonical n hn) ?_
  rintro _ h1 ⟨hle1, rfl⟩
  simp only [go_sem, Nat.reduceBEq, Array.reduceGetElem?, ↓reduceIte, k1]
  exact hle1
theorem c_wCheck {h : GH} (z : Int) (hz : Sm z) : ∃ r h', GCalls Tryz.prog gE 143 #[istr z] h r h' ∧ h.le h' ∧ r = .int .i64 0 := by
  refine gcalls_in (pl := noPl) [.tmp 2] mixed Tryz.func143 rfl rfl (by exact ok143) ?_
  simp only [go_sem, Nat.reduceBEq]
  refine callK_intro (c_split z) ?_
  rintro _ h1 ⟨hle1, rfl⟩
  simp only [go_sem, Nat.reduceBEq, Array.reduceGetElem?]
  refine ifK_intro (fun c1 => ?_) (fun c1 => ?_)
  · have c1' := of_decide_eq_true c1
    have hne : ¬ ((z.natAbs : Nat) : Int) = 0 := by omega
    simp only [go_sem, Nat.reduceBEq, Array.reduceGetElem?, ↓reduceIte, enc_eq_zero, c1, hne]
    refine callK_intro (c_dCheck z.natAbs (by omega)) ?_
    rintro _ h2 ⟨hle2, rfl⟩
    simp only [go_sem, Nat.reduceBEq, Int.reduceNe, Array.reduceGetElem?, ↓reduceIte]
    exact hle1.trans hle2
  · simp only [go_sem, Nat.reduceBEq, Array.reduceGetElem?, ↓reduceIte, c1]
    refine callK_intro (c_dCheck z.natAbs (by omega)) ?_
    rintro _ h2 ⟨hle2, rfl⟩
    simp only [go_sem, Nat.reduceBEq, Int.reduceNe, Array.reduceGetElem?, ↓reduceIte]
    exact hle1.trans hle2
end Go.Proofs.Gh
namespace Go.Proofs.Gh
open Go Go.Proofs Go.Proofs.Zz
set_option maxRecDepth 10000
set_option linter.unusedSimpArgs false
/-! primes -/
theorem c_IsPrime2 {h : GH} : ∃ r h', GCalls Tryz.prog gE 106 #[.int .i64 2] h r h' ∧ h.le h' ∧ r = .bool true := by
  refine gcalls_in (pl := noPl) [.tmp 2] mixed Tryz.func106 rfl rfl (by exact ok106) ?_
  simp only [go_sem, Nat.reduceBEq, Int.reduceLT, Array.reduceGetElem?, ↓reduceIte]
  refine loopK_unroll ?_
  simp (disch := first | omega | (simp only [List.length_cons, List.length_nil, List.length_set]; omega)) only [go_sem, Nat.reduceBEq, Int.reduceMul, Int.reduceLE, wrap_i64]
  exact GH.le.refl _
theorem c_IsPrime3 {h : GH} : ∃ r h', GCalls Tryz.prog gE 106 #[.int .i64 3] h r h' ∧ h.le h' ∧ r = .bool true := by
  refine gcalls_in (pl := noPl) [.tmp 2] mixed Tryz.func106 rfl rfl (by exact ok106) ?_
  simp only [go_sem, Nat.reduceBEq, Int.reduceLT, Array.reduceGetElem?, ↓reduceIte]
  refine loopK_unroll ?_
  simp (disch := first | omega | (simp only [List.length_cons, List.length_nil, List.length_set]; omega)) only [go_sem, Nat.reduceBEq, Int.reduceMul, Int.reduceLE, wrap_i64]
  exact GH.le.refl _
theorem c_IsPrime5 {h : GH} : ∃ r h', GCalls Tryz.prog gE 106 #[.int .i64 5] h r h' ∧ h.le h' ∧ r = .bool true := by
  refine gcalls_in (pl := noPl) [.tmp 2] mixed Tryz.func106 rfl rfl (by exact ok106) ?_
  simp only [go_sem, Nat.reduceBEq, Int.reduceLT, Array.reduceGetElem?, ↓reduceIte]
  refine loopK_unroll ?_
  simp (disch := first | omega | (simp only [List.length_cons, List.length_nil, List.length_set]; omega)) only [go_sem, Nat.reduceBEq, Int.reduceAdd, Int.reduceMul, Int.reduceLE, Int.reduceEq, ↓reduceIte, wrap_i64, Int.reduceTMod]
  refine loopK_unroll ?_
  simp (disch := first | omega | (simp only [List.length_cons, List.length_nil, List.length_set]; omega)) only [go_sem, Nat.reduceBEq, Int.reduceMul, Int.reduceLE, wrap_i64]
  exact GH.le.refl _
/-- rows of ints -/
def ints (l : List Int) : List (List Value) := l.map fun x => [.int .i64 x]
theorem ints_get {l : List Int} {i : Nat} {x : Int} (h : l[i]? = some x) : (ints l)[i]? = some [.int .i64 x] := by simp [ints, h]
theorem ints_length (l : List Int) : (ints l).length = l.length := by simp [ints]
/-- the lists of primes that are spoken of -/
def Pr (p : List Int) : Prop := p = [2, 3] ∨ p = [2, 3, 5]
theorem Pr.len {p : List Int} (h : Pr p) : 2 ≤ p.length ∧ p.length ≤ 3 := by rcases h with rfl | rfl <;> simp
theorem Pr.at {p : List Int} (h : Pr p) {i : Nat} (hi : i < p.length) : ∃ x, p[i]? = some x ∧ (x = 2 ∨ x = 3 ∨ x = 5) ∧ ∀ j, i = j + 1 → ∃ y, p[j]? = some y ∧ y < x := by
  rcases h with rfl | rfl
  · match i, hi with
    | 0, _ => exact ⟨2, rfl, .inl rfl, fun j hj => by omega⟩
    | 1, _ => exact ⟨3, rfl, .inr (.inl rfl), fun j hj => ⟨2, by have e : j = 0 := (by omega); subst e; rfl, by decide⟩⟩
  · match i, hi with
    | 0, _ => exact ⟨2, rfl, .inl rfl, fun j hj => by omega⟩
    | 1, _ => exact ⟨3, rfl, .inr (.inl rfl), fun j hj => ⟨2, by have e : j = 0 := (by omega); subst e; rfl, by decide⟩⟩
    | 2, _ => exact ⟨5, rfl, .inr (.inr rfl), fun j hj => ⟨3, by have e : j = 1 := (by omega); subst e; rfl, by decide⟩⟩
theorem c_IsPrime {h : GH} {x : Int} (hx : x = 2 ∨ x = 3 ∨ x = 5) : ∃ r h', GCalls Tryz.prog gE 106 #[.int .i64 x] h r h' ∧ h.le h' ∧ r = .bool true := by
  rcases hx with rfl | rfl | rfl
  · exact c_IsPrime2
  · exact c_IsPrime3
  · exact c_IsPrime5
theorem c_pCheck {h : GH} {g o c : Nat} {p : List Int} (hp : Pr p) (s : SlAt h g o c 1 (ints p)) : ∃ r h', GCalls Tryz.prog gE 71 #[.slice (some ⟨g, o, none⟩) p.length c] h r h' ∧ h.le h' ∧ r = .int .i64 0 := by
  have hl := hp.len
  have k1 : ¬ ((p.length : Int) = 0) := by omega
  have k2 : ¬ ((6 : Int) < p.length) := by omega
  refine gcalls_in (pl := noPl) [.tmp 2] mixed Tryz.func71 rfl rfl (by exact ok71) ?_
  simp only [go_sem, Nat.reduceBEq, k1, k2]
  refine loopK_inv (α := Nat) (fun i => p.length - i) (fun i ts g' => ts 0 = .slice (some ⟨g, o, none⟩) p.length c ∧ ts 13 = .slice (some ⟨g, o, none⟩) p.length c ∧ ts 14 = .int .i64 p.length ∧ ts 15 = .int .i64 i ∧ i ≤ p.length ∧ h.le g') ?_ (a0 := 0) ?_
  · rintro i ts g' ⟨h0, h13, h14, h15, hi, hle⟩
    simp only [go_sem, h14, h15]
    refine ifK_intro (fun c1 => ?_) (fun c1 => ?_)
    · have c1' := of_decide_eq_true c1
      obtain ⟨x, hx, hx2, hx3⟩ := hp.at (i := i) (by omega)
      have hl1 := (s.mono hle).load (ints_get hx)
      rw [Nat.mul_one] at hl1
      simp (disch := first | omega | (simp only [List.length_cons, List.length_nil, List.length_set]; omega)) only [go_sem, Nat.reduceBEq, ↓reduceIte, h13, h15, c1', hl1]
      refine callK_intro (c_IsPrime hx2) ?_
      rintro _ h2 ⟨hle2, rfl⟩
      simp only [go_sem, Nat.reduceBEq, Array.reduceGetElem?, c1']
      refine ifK_intro (fun c2 => ?_) (fun c2 => ?_)
      · have c2' := of_decide_eq_true c2
        obtain ⟨j, rfl⟩ : ∃ j, i = j + 1 := ⟨i - 1, by omega⟩
        obtain ⟨y, hy, hy2⟩ := hx3 j rfl
        have hl2 := (s.mono (hle.trans hle2)).load (ints_get hy)
        rw [Nat.mul_one] at hl2
        have e1 : ((j + 1 : Nat) : Int) - 1 = j := by omega
        have e2 : (j : Int) < p.length := by omega
        have e3 : ¬ (x ≤ y) := by omega
        simp (disch := first | omega | (simp only [List.length_cons, List.length_nil, List.length_set]; omega)) only [go_sem, Nat.reduceBEq, Array.reduceGetElem?, ↓reduceIte, h0, h13, h14, h15, c2, wrap_i64, e1, e2, hl2, e3]
        exact ⟨j + 1 + 1, by omega, rfl, by omega, hle.trans hle2⟩
      · simp (disch := first | omega | (simp only [List.length_cons, List.length_nil, List.length_set]; omega)) only [go_sem, Nat.reduceBEq, Array.reduceGetElem?, ↓reduceIte, h0, h13, h14, h15, c2, wrap_i64]
        exact ⟨i + 1, by omega, rfl, by omega, hle.trans hle2⟩
    · simp only [go_sem, c1]
      exact hle
  · simp only [go_sem, Nat.reduceBEq]
    exact ⟨Nat.zero_le _, GH.le.refl _⟩
/-! fractions -/
/-- a fraction's value, and its cells -/
abbrev rv (q : Rat) : Value := .agg #[.string (enc q.num), .string (enc (q.den : Int))]
def rc (q : Rat) : List Value := [.string (enc q.num), .string (enc (q.den : Int))]
/-- a fraction in a block of its own -/
structure RatAt (h : GH) (g : Nat) (q : Rat) : Prop where
  lt : g < h.n
  b : h.b g = ⟨[.string (enc q.num), .string (enc (q.den : Int))], true, false⟩
theorem RatAt.mono {h h' : GH} {g : Nat} {q : Rat} (r : RatAt h g q) (hl : h.le h') : RatAt h' g q := ⟨Nat.lt_of_lt_of_le r.lt hl.1, (hl.2 g r.lt).trans r.b⟩
theorem RatAt.new (h : GH) (q : Rat) : RatAt (h.alloc ⟨[.string (enc q.num), .string (enc (q.den : Int))], true, false⟩) h.n q := ⟨Nat.lt_succ_self _, alloc_self _ _⟩
section
variable {h : GH} {g : Nat} {q : Rat}
theorem RatAt.l0 (r : RatAt h g q) : h.load g 0 1 = some [.string (enc q.num)] := load_one_at r.lt r.b rfl
theorem RatAt.l1 (r : RatAt h g q) : h.load g 1 1 = some [.string (enc (q.den : Int))] := load_one_at r.lt r.b rfl
theorem RatAt.l2 (r : RatAt h g q) : h.load g 0 2 = some [.string (enc q.num), .string (enc (q.den : Int))] := load_at r.lt r.b (by simp) rfl
end
/-- small fractions -/
def SmR (q : Rat) : Prop := Sm q.num ∧ Sm (q.den : Int)
theorem c_fCheck {h : GH} (q : Rat) (hq : SmR q) : ∃ r h', GCalls Tryz.prog gE 107 #[rv q] h r h' ∧ h.le h' ∧ r = .int .i64 0 := by
  have hd := q.den_pos
  have r0 := RatAt.new h q
  refine gcalls_in (pl := noPl) [.tmp 2] mixed Tryz.func107 rfl rfl (by exact ok107) ?_
  simp only [go_sem, Nat.reduceBEq, ↓reduceIte, r0.l0]
  refine callK_intro (c_wCheck q.num hq.1) ?_
  rintro _ h1 ⟨hle1, rfl⟩
  have r1 := r0.mono hle1
  simp only [go_sem, Nat.reduceBEq, Int.reduceNe, r1.l1]
  refine callK_intro (c_wCheck q.den hq.2) ?_
  rintro _ h2 ⟨hle2, rfl⟩
  have r2 := r1.mono hle2
  simp only [go_sem, Nat.reduceBEq, Int.reduceNe, r2.l1]
  refine callK_intro (c_Sign q.den) ?_
  rintro _ h3 ⟨hle3, rfl⟩
  have r3 := r2.mono hle3
  have e1 : (if (q.den : Int) = 0 then (0 : Int) else if (q.den : Int) < 0 then -1 else 1) = 1 := by rw [if_neg (by omega), if_neg (by omega)]
  simp only [go_sem, Nat.reduceBEq, Int.reduceNeg, Int.reduceLE, e1, r3.l0, r3.l1]
  refine callK_intro (c_Gcd q.num q.den hq.1 hq.2) ?_
  rintro _ h4 ⟨hle4, rfl⟩
  have e2 : enc ((q.num.natAbs.gcd (q.den : Int).natAbs : Nat) : Int) = ⟨#[49]⟩ := by
    rw [Int.natAbs_natCast, q.reduced]; rfl
  simp only [go_sem, Int.reduceNeg, e2, ne_eq, not_true_eq_false]
  exact (((GH.le_alloc _ _).trans hle1).trans hle2).trans (hle3.trans hle4)
theorem c_fLittle {h : GH} (z : Int) (hz : Sm z) : ∃ r h', GCalls Tryz.prog gE 234 #[istr z] h r h' ∧ h.le h' ∧ r = .tuple #[.int .i64 z, .bool true] := by
  have h1 := hz.size
  have k1 : ¬ (9 : Int) < ((enc z).size : Int) := by omega
  refine gcalls_in (pl := pl234) [.tmp 2, .tmp 3] mixed Tryz.func234 rfl rfl (by exact ok234) ?_
  simp only [go_sem, Nat.reduceBEq, k1]
  refine callK_intro (c_atoi z (by omega)) ?_
  rintro _ h1 ⟨hle1, rfl⟩
  simp only [go_sem, Nat.reduceBEq, Array.reduceGetElem?, ↓reduceIte, pl234]
  exact hle1
theorem c_fBoth {h : GH} (q : Rat) (hq : SmR q) : ∃ r h', GCalls Tryz.prog gE 202 #[rv q] h r h' ∧ h.le h' ∧ r = .tuple #[.int .i64 q.num, .int .i64 q.den, .bool true] := by
  have r0 := RatAt.new h q
  refine gcalls_in (pl := noPl) [.tmp 2, .tmp 3, .tmp 4] mixed Tryz.func202 rfl rfl (by exact ok202) ?_
  simp only [go_sem, Nat.reduceBEq, ↓reduceIte, r0.l0]
  refine callK_intro (c_fLittle q.num hq.1) ?_
  rintro _ h1 ⟨hle1, rfl⟩
  have r1 := r0.mono hle1
  simp only [go_sem, Nat.reduceBEq, Array.reduceGetElem?, r1.l1]
  refine callK_intro (c_fLittle q.den hq.2) ?_
  rintro _ h2 ⟨hle2, rfl⟩
  simp only [go_sem, Nat.reduceBEq, Array.reduceGetElem?, ↓reduceIte]
  exact ((GH.le_alloc _ _).trans hle1).trans hle2
theorem gcd_step (a b : Nat) : b.gcd (a % b) = a.gcd b := by rw [Nat.gcd_comm a b, Nat.gcd_rec b a, Nat.gcd_comm]
theorem c_of {h : GH} (z : Int) (n : Nat) (hz : z.natAbs < 1000000000000000000) (hn : n < 1000000000000000000) (h0 : 0 < n) (hq : SmR (mkRat z n)) : ∃ r h', GCalls Tryz.prog gE 203 #[.int .i64 z, .int .i64 n] h r h' ∧ h.le h' ∧ r = rv (mkRat z n) := by
  refine gcalls_in (pl := pl203) [.cell 4 60] mixed Tryz.func203 rfl rfl (by exact ok203) ?_
  simp only [go_sem, Nat.reduceBEq]
  refine loopK_inv (α := Int × Int) (fun p => p.2.natAbs) (fun p ts g => ts 5 = .int .i64 p.1 ∧ ts 6 = .int .i64 p.2 ∧ ts 0 = .int .i64 z ∧ ts 1 = .int .i64 n ∧ ts 4 = .pointer (some ⟨h.n, 0, none⟩) ∧ g = h.alloc ⟨[.string ⟨#[]⟩, .string ⟨#[]⟩], true, false⟩ ∧ p.1.natAbs < 1000000000000000000 ∧ p.2.natAbs < 1000000000000000000 ∧ p.1.natAbs.gcd p.2.natAbs = z.natAbs.gcd n) ?_ (a0 := (z, (n : Int))) ?_
  · rintro ⟨a, b⟩ ts g ⟨h5, h6, hz0, hn0, h4, rfl, ha, hb, he⟩
    dsimp only at *
    simp only [go_sem, h6]
    refine ifK_intro (fun c1 => ?_) (fun c1 => ?_)
    · have c1' := of_decide_eq_true c1
      have hb0 : ¬ b = 0 := c1'
      have hmod : (a.tmod b).natAbs < b.natAbs := by rw [Int.natAbs_tmod]; exact Nat.mod_lt _ (by omega)
      have w : IntKind.i64.wrap (a.tmod b) = a.tmod b := wrap_i64 (by omega) (by omega)
      simp only [go_sem, Nat.reduceBEq, Array.reduceGetElem?, ↓reduceIte, h5, h6, hz0, hn0, h4, hb0, pl203]
      exact ⟨(b, a.tmod b), hmod, rfl, rfl, hb, by omega, by rw [← he, Int.natAbs_tmod, gcd_step]⟩
    · have c1' := of_decide_eq_false c1
      obtain rfl : b = 0 := by omega
      rw [Int.natAbs_zero, Nat.gcd_zero_right] at he
      have hg0 : 0 < z.natAbs.gcd n := Nat.gcd_pos_of_pos_right _ h0
      have hnum : (mkRat z n).num = z.tdiv (z.natAbs.gcd n : Nat) := by
        rw [Rat.num_mkRat, if_neg (by omega), Nat.gcd_comm, Int.tdiv_eq_ediv_of_dvd]
        exact Int.ofNat_dvd_left.2 (Nat.gcd_dvd_left _ _)
      have hden : (((mkRat z n).den : Nat) : Int) = (n : Int).tdiv (z.natAbs.gcd n : Nat) := by
        rw [Rat.den_mkRat, if_neg (by omega), Nat.gcd_comm]; rfl
      have q1 := hq.1
      have q2 := hq.2
      have w1 : IntKind.i64.wrap (mkRat z n).num = (mkRat z n).num := wrap_i64 (by omega) (by omega)
      have w2 : IntKind.i64.wrap (mkRat z n).den = ((mkRat z n).den : Int) := wrap_i64 (by omega) (by omega)
      simp only [go_sem, Nat.reduceBEq, h5]
      refine ifK_intro (fun c2 => ?_) (fun c2 => ?_)
      case' refine_1 =>
        have c2' := of_decide_eq_true c2
        have w3 : IntKind.i64.wrap (0 - a) = ((z.natAbs.gcd n : Nat) : Int) := by rw [wrap_i64 (by omega) (by omega), ← he]; omega
        have hne : ¬ ((z.natAbs.gcd n : Nat) : Int) = 0 := by omega
        simp only [go_sem, Nat.reduceBEq, Int.reduceNe, Array.reduceGetElem?, ↓reduceIte, h5, hz0, hn0, c2, w3, hne, ← hnum, w1, pl203]
      case' refine_2 =>
        have c2' := of_decide_eq_false c2
        have w3 : a = ((z.natAbs.gcd n : Nat) : Int) := by rw [← he]; omega
        have hne : ¬ ((z.natAbs.gcd n : Nat) : Int) = 0 := by omega
        simp only [go_sem, Nat.reduceBEq, Int.reduceNe, Array.reduceGetElem?, ↓reduceIte, h5, hz0, hn0, w3, hne, ← hnum, w1, pl203]
      all_goals
        refine callK_intro (c_itoa _ q1) ?_
        rintro _ h1 ⟨hle1, rfl⟩
        simp only [go_sem, Nat.reduceBEq, Int.reduceNe, Array.reduceGetElem?, c2, w3, ← hden, w2]
        refine callK_intro (c_itoa _ q2) ?_
        rintro _ h2 ⟨hle2, rfl⟩
        have hg2 : h.n < h2.n := Nat.lt_of_lt_of_le (Nat.lt_succ_self _) (Nat.le_trans hle1.1 hle2.1)
        have hb2 : h2.b h.n = ⟨[.string ⟨#[]⟩, .string ⟨#[]⟩], true, false⟩ := by rw [(hle1.trans hle2).2 _ (Nat.lt_succ_self _), alloc_self]
        simp only [go_sem, Nat.reduceBEq, Nat.reduceAdd, Nat.reduceLeDiff, Int.reduceNe, Array.reduceGetElem?, ↓reduceIte, h4, c2, w3, cell2_store hg2 hb2, cell2_load hg2]
        exact ((((GH.le_alloc _ _).trans hle1).trans hle2).upd (Nat.le_refl _) _)
  · simp only [go_sem, Nat.reduceBEq]
    exact ⟨hz, by omega, by simp⟩
theorem Sm.mul {a b : Int} (ha : Sm a) (hb : Sm b) : (a * b).natAbs < 100000000000000 ∧ IntKind.i64.wrap (a * b) = a * b := by
  have : (a * b).natAbs < 100000000000000 := by
    rw [Int.natAbs_mul]
    exact Nat.lt_of_le_of_lt (Nat.mul_le_mul (Nat.le_of_lt_succ (m := a.natAbs) (n := 9999999) ha) (Nat.le_of_lt_succ (m := b.natAbs) (n := 9999999) hb)) (by decide)
  exact ⟨this, wrap_i64 (by omega) (by omega)⟩
/-- two fractions and a result in blocks of their own -/
abbrev rB (q : Rat) : GB := ⟨[.string (enc q.num), .string (enc (q.den : Int))], true, false⟩
abbrev zB : GB := ⟨[.string ⟨#[]⟩, .string ⟨#[]⟩], true, false⟩
theorem rat3 (h : GH) (p q : Rat) : ∃ H, ((h.alloc (rB p)).alloc (rB q)).alloc zB = H ∧ RatAt H h.n p ∧ RatAt H (h.n + 1) q ∧ h.le H ∧
    ∀ {h2 : GH}, H.le h2 → h.n + 1 + 1 < h2.n ∧ h2.b (h.n + 1 + 1) = zB ∧ ∀ x, h.le (h2.upd (h.n + 1 + 1) x) :=
  ⟨_, rfl, ((RatAt.new h p).mono (GH.le_alloc _ _)).mono (GH.le_alloc _ _), (RatAt.new (h.alloc (rB p)) q).mono (GH.le_alloc _ _), ((GH.le_alloc _ _).trans (GH.le_alloc _ _)).trans (GH.le_alloc _ _),
    fun hx => ⟨Nat.lt_of_lt_of_le (Nat.lt_succ_self _) hx.1, (hx.2 _ (Nat.lt_succ_self _)).trans (alloc_self _ _), fun x => ((((GH.le_alloc _ _).trans (GH.le_alloc _ _)).trans (GH.le_alloc _ _)).trans hx).upd (show h.n ≤ h.n + 1 + 1 by omega) x⟩⟩
theorem c_fAdd {h : GH} (p q : Rat) (hp : SmR p) (hq : SmR q) (hs : SmR (p + q)) : ∃ r h', GCalls Tryz.prog gE 170 #[rv p, rv q] h r h' ∧ h.le h' ∧ r = rv (p + q) := by
  obtain ⟨H, hH, p0, q0, hl, ext⟩ := rat3 h p q
  have hd := p.den_pos
  have he := q.den_pos
  have m1 := hp.1.mul hq.2
  have m2 := hq.1.mul hp.2
  have m3 := hp.2.mul hq.2
  have es : mkRat (p.num * q.den + q.num * p.den) (p.den * q.den) = p + q := (Rat.add_def' p q).symm
  have w1 : IntKind.i64.wrap (p.num * q.den + q.num * p.den) = p.num * q.den + q.num * p.den := wrap_i64 (by omega) (by omega)
  have m4 : p.den * q.den < 1000000000000000000 := by
    have := m3.1
    rw [← Int.natCast_mul, Int.natAbs_natCast] at this
    omega
  have slow : ∀ {h2 : GH}, H.le h2 → ∃ r h', GCalls Tryz.prog gE 203 #[.int .i64 (p.num * q.den + q.num * p.den), .int .i64 ((p.den : Int) * q.den)] h2 r h' ∧ H.le h' ∧ r = rv (p + q) := fun {h2} hx => by
    obtain ⟨r, h', k1, k2, k3⟩ := c_of (h := h2) (p.num * q.den + q.num * p.den) (p.den * q.den) (by omega) m4 (Nat.mul_pos hd he) (by rw [es]; exact hs)
    rw [es] at k3
    rw [Int.natCast_mul] at k1
    exact ⟨r, h', k1, hx.trans k2, k3⟩
  refine gcalls_in (pl := pl170) [.cell 4 60] mixed Tryz.func170 rfl rfl (by exact ok170) ?_
  simp only [go_sem, Nat.reduceBEq, Array.reduceGetElem?, ↓reduceIte, hH, p0.l1, enc_eq_one]
  refine ifK_intro (fun c1 => ?_) (fun c1 => ?_)
  case' refine_1 =>
    simp only [go_sem, Nat.reduceBEq, Array.reduceGetElem?, ↓reduceIte, c1, q0.l1, enc_eq_one]
    refine ifK_intro (fun c2 => ?_) (fun c2 => ?_)
    case refine_1 =>
      have c1' := of_decide_eq_true c1
      have c2' := of_decide_eq_true c2
      simp only [go_sem, Nat.reduceBEq, c1, c2, p0.l0, q0.l0]
      have hs1 : (p + q).num = p.num + q.num ∧ (p + q).den = 1 := by
        have e1 : p.den = 1 := by omega
        have e2 : q.den = 1 := by omega
        rw [Rat.num_add, Rat.den_add, e1, e2]
        simp
      refine callK_intro (c_Add p.num q.num hp.1 hq.1 (by rw [← hs1.1]; exact hs.1)) ?_
      rintro _ h1 ⟨hle1, rfl⟩
      obtain ⟨g1, b1, k1⟩ := ext hle1
      simp only [go_sem, Nat.reduceBEq, Nat.reduceAdd, Nat.reduceLeDiff, ↓reduceIte, cell2_store g1 b1, cell2_load g1]
      refine ⟨k1 _, ?_⟩
      rw [rv, hs1.1, hs1.2]
      rfl
    simp only [go_sem, Nat.reduceBEq, c1, c2, p0.l2]
  case' refine_2 =>
    simp only [go_sem, Nat.reduceBEq, Array.reduceGetElem?, ↓reduceIte, c1, p0.l2]
  all_goals
    refine callK_intro (c_fBoth p hp) ?_
    rintro _ h1 ⟨hle1, rfl⟩
    have q1 := q0.mono hle1
    simp only [go_sem, Nat.reduceBEq, Array.reduceGetElem?, q1.l2]
    refine callK_intro (c_fBoth q hq) ?_
    rintro _ h2 ⟨hle2, rfl⟩
    simp only [go_sem, Nat.reduceBEq, Array.reduceGetElem?, m1.2, m2.2, m3.2, w1]
    refine callK_intro (slow (hle1.trans hle2)) ?_
    rintro _ h3 ⟨hle3, rfl⟩
    obtain ⟨g3, b3, k3⟩ := ext hle3
    simp only [go_sem, Nat.reduceBEq, Nat.reduceAdd, ↓reduceIte, cell2_store g3 b3, cell2_load g3]
    exact k3 _
theorem c_fMul {h : GH} (p q : Rat) (hp : SmR p) (hq : SmR q) (hs : SmR (p * q)) : ∃ r h', GCalls Tryz.prog gE 171 #[rv p, rv q] h r h' ∧ h.le h' ∧ r = rv (p * q) := by
  obtain ⟨H, hH, p0, q0, hl, ext⟩ := rat3 h p q
  have hd := p.den_pos
  have he := q.den_pos
  have m1 := hp.1.mul hq.1
  have m3 := hp.2.mul hq.2
  have es : mkRat (p.num * q.num) (p.den * q.den) = p * q := (Rat.mul_def' p q).symm
  have m4 : p.den * q.den < 1000000000000000000 := by
    have := m3.1
    rw [← Int.natCast_mul, Int.natAbs_natCast] at this
    omega
  have slow : ∀ {h2 : GH}, H.le h2 → ∃ r h', GCalls Tryz.prog gE 203 #[.int .i64 (p.num * q.num), .int .i64 ((p.den : Int) * q.den)] h2 r h' ∧ H.le h' ∧ r = rv (p * q) := fun {h2} hx => by
    obtain ⟨r, h', k1, k2, k3⟩ := c_of (h := h2) (p.num * q.num) (p.den * q.den) (by omega) m4 (Nat.mul_pos hd he) (by rw [es]; exact hs)
    rw [es] at k3
    rw [Int.natCast_mul] at k1
    exact ⟨r, h', k1, hx.trans k2, k3⟩
  refine gcalls_in (pl := pl171) [.cell 4 60] mixed Tryz.func171 rfl rfl (by exact ok171) ?_
  simp only [go_sem, Nat.reduceBEq, ↓reduceIte, hH, p0.l2]
  refine callK_intro (c_fBoth p hp) ?_
  rintro _ h1 ⟨hle1, rfl⟩
  have q1 := q0.mono hle1
  simp only [go_sem, Nat.reduceBEq, Array.reduceGetElem?, q1.l2]
  refine callK_intro (c_fBoth q hq) ?_
  rintro _ h2 ⟨hle2, rfl⟩
  simp only [go_sem, Nat.reduceBEq, Array.reduceGetElem?, m1.2, m3.2]
  refine callK_intro (slow (hle1.trans hle2)) ?_
  rintro _ h3 ⟨hle3, rfl⟩
  obtain ⟨g3, b3, k3⟩ := ext hle3
  simp only [go_sem, Nat.reduceBEq, Nat.reduceAdd, ↓reduceIte, cell2_store g3 b3, cell2_load g3]
  exact k3 _
theorem c_fFloor {h : GH} (q : Rat) (hq : SmR q) : ∃ r h', GCalls Tryz.prog gE 148 #[rv q] h r h' ∧ h.le h' ∧ r = istr q.floor := by
  have hd := q.den_pos
  have r0 := RatAt.new h q
  refine gcalls_in (pl := noPl) [.tmp 2] mixed Tryz.func148 rfl rfl (by exact ok148) ?_
  simp only [go_sem, Nat.reduceBEq, ↓reduceIte, r0.l0, r0.l1]
  refine callK_intro (c_DivMod q.num q.den hq.1 hq.2 (by omega)) ?_
  rintro _ h1 ⟨hle1, rfl⟩
  simp only [go_sem, Nat.reduceBEq, Array.reduceGetElem?]
  refine ⟨(GH.le_alloc _ _).trans hle1, ?_⟩
  rw [Rat.floor_def]
theorem c_fSign {h : GH} (q : Rat) : ∃ r h', GCalls Tryz.prog gE 212 #[rv q] h r h' ∧ h.le h' ∧ r = .int .i64 (if q.num = 0 then 0 else if q.num < 0 then -1 else 1) := by
  have r0 := RatAt.new h q
  refine gcalls_in (pl := noPl) [.tmp 2] mixed Tryz.func212 rfl rfl (by exact ok212) ?_
  simp only [go_sem, Nat.reduceBEq, ↓reduceIte, r0.l0]
  refine callK_intro (c_Sign q.num) ?_
  rintro _ h1 ⟨hle1, rfl⟩
  simp only [go_sem, Int.reduceNeg]
  exact (GH.le_alloc _ _).trans hle1
end Go.Proofs.Gh
namespace Go.Proofs.Gh
open Go Go.Proofs Go.Proofs.Zz
/-! rows that are written -/
theorem setL_append (pre old post vs : List Value) (h : vs.length = old.length) : setL (pre ++ (old ++ post)) pre.length vs = pre ++ (vs ++ post) := by
  induction vs generalizing pre old with
  | nil =>
    cases old with
    | nil => rfl
    | cons _ _ => cases h
  | cons v vs ih =>
    cases old with
    | nil => cases h
    | cons o old =>
      have := ih (pre ++ [v]) old (by simpa using h)
      simp only [setL, List.cons_append, set_mid]
      rw [List.length_append, List.append_assoc] at this
      simpa using this
/-- a row's block -/
def Row (els : List (List Value)) : GB := ⟨els.flatten, true, false⟩
theorem row_split {els : List (List Value)} {e i : Nat} {x : List Value} (hl : ∀ y ∈ els, y.length = e) (hx : els[i]? = some x) :
    els.flatten = (els.take i).flatten ++ (x ++ (els.drop (i + 1)).flatten) ∧ (els.take i).flatten.length = i * e := by
  have hi := (List.getElem?_eq_some_iff.1 hx).1
  refine ⟨?_, ?_⟩
  · have : els = els.take i ++ x :: els.drop (i + 1) := by
      have := List.take_append_drop i els
      rw [List.drop_eq_getElem_cons hi] at this
      rw [(List.getElem?_eq_some_iff.1 hx).2] at this
      exact this.symm
    conv => lhs; rw [this]
    simp
  · rw [flatten_length (e := e) fun y hy => hl y (List.mem_of_mem_take hy), List.length_take, Nat.min_eq_left (by omega)]
theorem row_set {els : List (List Value)} {e i : Nat} {x vs : List Value} (hl : ∀ y ∈ els, y.length = e) (hx : els[i]? = some x) (hv : vs.length = e) :
    setL els.flatten (i * e) vs = (els.set i vs).flatten := by
  obtain ⟨h1, h2⟩ := row_split hl hx
  have hi := (List.getElem?_eq_some_iff.1 hx).1
  have hx2 : x.length = e := hl x (List.mem_of_getElem? hx)
  rw [h1, ← h2, setL_append _ _ _ _ (by omega), List.set_eq_take_append_cons_drop, if_pos hi]
  simp
section
variable {h : GH} {g e i : Nat} {els : List (List Value)} {vs : List Value}
theorem row_store (hg : g < h.n) (hb : h.b g = Row els) (hl : ∀ y ∈ els, y.length = e) (hi : i < els.length) (hv : vs.length = e) (ho : vs.all Value.oneCell' = true) :
    h.store g (i * e) vs = some (h.upd g (Row (els.set i vs))) := by
  have hlen := flatten_length hl
  have hle : i * e + e ≤ els.length * e := by rw [← Nat.succ_mul]; exact Nat.mul_le_mul_right _ hi
  rw [store_at (cells := els.flatten) hg hb (by omega) ho, row_set hl (List.getElem?_eq_getElem hi) hv]
  rfl
theorem row_at (hg : g < h.n) (hb : h.b g = Row els) (hl : ∀ y ∈ els, y.length = e) {c : Nat} (hc : els.length ≤ c ∧ (unk ≤ c → c = unk ∨ c = unk + e)) : SlAt h g 0 c e els :=
  ⟨hg, by rw [hb]; rfl, ⟨[], [], by rw [hb]; simp [Row], rfl⟩, hl, hc⟩
theorem row_load (hg : g < h.n) (hb : h.b g = Row els) (hl : ∀ y ∈ els, y.length = e) {x : List Value} (hx : els[i]? = some x) : h.load g (i * e) e = some x := by
  have hlen := flatten_length hl
  have hi := (List.getElem?_eq_some_iff.1 hx).1
  have hle : i * e + e ≤ els.length * e := by rw [← Nat.succ_mul]; exact Nat.mul_le_mul_right _ hi
  exact load_at (cells := els.flatten) (ro := false) hg hb (by omega) (flatten_at hl hx)
theorem set_len_all {els : List (List Value)} {e i : Nat} {vs : List Value} (hl : ∀ y ∈ els, y.length = e) (hv : vs.length = e) : ∀ y ∈ els.set i vs, y.length = e := by
  intro y hy
  rcases List.mem_or_eq_of_mem_set hy with h | rfl
  · exact hl y h
  · exact hv
end
end Go.Proofs.Gh
namespace Go.Proofs.Gh
open Go Go.Proofs Go.Proofs.Zz
set_option maxRecDepth 10000
set_option linter.unusedSimpArgs false
theorem rc_len {l : List Rat} : ∀ y ∈ l.map rc, y.length = 2 := by
  intro y hy
  obtain ⟨q, _, rfl⟩ := List.mem_map.1 hy
  rfl
theorem rc_one (q : Rat) : (rc q).all Value.oneCell' = true := rfl
/-- a size: a list of fractions in memory -/
def SzAt (h : GH) (v : Value) (l : List Rat) : Prop := ∃ g o c, v = .slice (some ⟨g, o, none⟩) l.length c ∧ SlAt h g o c 2 (l.map rc)
theorem SzAt.mono {h h' : GH} {v : Value} {l : List Rat} (s : SzAt h v l) (hl : h.le h') : SzAt h' v l := by
  obtain ⟨g, o, c, e, s⟩ := s
  exact ⟨g, o, c, e, s.mono hl⟩
theorem rats_get {l : List Rat} {i : Nat} {q : Rat} (h : l[i]? = some q) : (l.map rc)[i]? = some [.string (enc q.num), .string (enc (q.den : Int))] := by simp [h, rc]
theorem c_number {h : GH} (z : Int) (hz : Sm z) : ∃ r h', GCalls Tryz.prog gE 113 #[.int .i64 z] h r h' ∧ h.le h' ∧ r = rv (z : Rat) := by
  refine gcalls_in (pl := noPl) [.cell 2 60] mixed Tryz.func113 rfl rfl (by exact ok113) ?_
  simp only [go_sem, Nat.reduceBEq]
  refine callK_intro (c_wholeOf z hz) ?_
  rintro _ h1 ⟨hle1, rfl⟩
  have g1 : h.n < h1.n := Nat.lt_of_lt_of_le (Nat.lt_succ_self _) hle1.1
  have b1 : h1.b h.n = zB := by rw [hle1.2 _ (Nat.lt_succ_self _), alloc_self]
  simp only [go_sem, Nat.reduceBEq, Nat.reduceAdd, Nat.reduceLeDiff, ↓reduceIte, cell2_store g1 b1, cell2_load g1]
  exact ⟨((GH.le_alloc _ _).trans hle1).upd (Nat.le_refl _) _, rfl⟩
theorem c_num0 {h : GH} : ∃ r h', GCalls Tryz.prog gE 113 #[.int .i64 0] h r h' ∧ h.le h' ∧ r = rv (0 : Rat) := c_number 0 (by decide)
theorem c_zero {h : GH} (n : Nat) (hn : n ≤ 1000) : ∃ r h', GCalls Tryz.prog gE 104 #[.int .i64 n] h r h' ∧ h.le h' ∧ r = .slice (some ⟨h.n, 0, none⟩) n n ∧ h.n < h'.n ∧ h'.b h.n = Row ((List.replicate n (0 : Rat)).map rc) := by
  have hm := gMake_at (P := Tryz.prog) (h := h) (t := 32) (k := .i64) (k' := .i64) (x := n) (y := n) (a := n) (b := n) rfl rfl ty_sk32 ty_zk60 ty_ce60 (Nat.le_refl _) (by omega) (by rw [ty_be60]; omega)
  refine gcalls_in (pl := noPl) [.tmp 2] mixed Tryz.func104 rfl rfl (by exact ok104) ?_
  simp only [go_sem, Nat.reduceBEq, hm]
  refine loopK_inv (α := Nat) (fun i => n - i) (fun i ts g => ts 3 = .slice (some ⟨h.n, 0, none⟩) n n ∧ ts 8 = .int .i64 n ∧ ts 9 = .int .i64 i ∧ i ≤ n ∧ h.le g ∧ h.n < g.n ∧ g.b h.n = Row (List.replicate i (rc 0) ++ List.replicate (n - i) [.string ⟨#[]⟩, .string ⟨#[]⟩])) ?_ (a0 := 0) ?_
  · rintro i ts g ⟨h3, h8, h9, hi, hle, hlt, hb⟩
    simp only [go_sem, h8, h9]
    refine ifK_intro (fun c1 => ?_) (fun c1 => ?_)
    · have c1' := of_decide_eq_true c1
      simp only [go_sem, Nat.reduceBEq, h3, h9, c1]
      refine callK_intro (c_num0) ?_
      rintro _ h1 ⟨hle1, rfl⟩
      have hlt1 : h.n < h1.n := Nat.lt_of_lt_of_le hlt hle1.1
      have hb1 : h1.b h.n = _ := (hle1.2 _ hlt).trans hb
      have hst := row_store (e := 2) (i := i) (vs := rc 0) hlt1 hb1 (by
        intro y hy
        rcases List.mem_append.1 hy with hy | hy <;> (rw [(List.mem_replicate.1 hy).2]; rfl)) (by simp; omega) rfl rfl
      have hse : (List.replicate i (rc 0) ++ List.replicate (n - i) [Value.string ⟨#[]⟩, .string ⟨#[]⟩]).set i (rc 0) = List.replicate (i + 1) (rc 0) ++ List.replicate (n - (i + 1)) [Value.string ⟨#[]⟩, .string ⟨#[]⟩] := by
        obtain ⟨m, hm2⟩ : ∃ m, n - i = m + 1 := ⟨n - i - 1, by omega⟩
        rw [hm2, List.replicate_succ, List.replicate_succ', show n - (i + 1) = m by omega, List.set_append_right _ _ (by simp), List.length_replicate, Nat.sub_self, List.set_cons_zero, List.append_assoc]
        rfl
      rw [hse] at hst
      have hst2 : h1.store h.n (i * 2) [.string (enc (0 : Rat).num), .string (enc ((0 : Rat).den : Int))] = _ := hst
      simp (disch := first | omega | (simp only [List.length_cons, List.length_nil, List.length_set]; omega)) only [go_sem, Nat.reduceBEq, Nat.reduceAdd, ↓reduceIte, h3, h8, h9, c1', hst2, wrap_i64]
      exact ⟨i + 1, by omega, rfl, by omega, (hle.trans hle1).upd (Nat.le_refl _) _, hlt1, upd_self _ _ _⟩
    · have c1' := of_decide_eq_false c1
      simp only [go_sem, Nat.reduceBEq, h3, c1]
      obtain rfl : i = n := by omega
      rw [Nat.sub_self] at hb
      refine ⟨hle, hlt, ?_⟩
      rw [hb]
      simp
  · simp only [go_sem, Nat.reduceBEq]
    refine ⟨Nat.zero_le _, GH.le_alloc _ _, Nat.lt_succ_self _, ?_⟩
    rw [alloc_self]
    rfl
theorem c_short {h : GH} (q : Rat) (hq : SmR q) : ∃ r h', GCalls Tryz.prog gE 108 #[rv q] h r h' ∧ h.le h' ∧ r = .bool true := by
  have r0 := RatAt.new h q
  have s1 := Sm.size0 (n := q.num.natAbs) (by have := hq.1; omega)
  have s2 := Sm.size0 (n := q.den) hq.2
  have k1 : ((enc ((q.num.natAbs : Nat) : Int)).size : Int) ≤ 30 := by omega
  have k2 : ((enc ((q.den : Nat) : Int)).size : Int) ≤ 30 := by omega
  refine gcalls_in (pl := noPl) [.tmp 2] mixed Tryz.func108 rfl rfl (by exact ok108) ?_
  simp only [go_sem, Nat.reduceBEq, ↓reduceIte, r0.l0]
  refine callK_intro (c_Abs q.num) ?_
  rintro _ h1 ⟨hle1, rfl⟩
  have r1 := r0.mono hle1
  simp only [go_sem, Nat.reduceBEq, Array.reduceGetElem?, ↓reduceIte, k1, k2, r1.l1]
  exact (GH.le_alloc _ _).trans hle1
/-- sizes of small fractions -/
def SmL (l : List Rat) : Prop := ∀ q ∈ l, SmR q
/-- the list of primes in memory -/
def PrAt (h : GH) (v : Value) (p : List Int) : Prop := ∃ g o c, v = .slice (some ⟨g, o, none⟩) p.length c ∧ SlAt h g o c 1 (ints p)
theorem PrAt.mono {h h' : GH} {v : Value} {p : List Int} (s : PrAt h v p) (hl : h.le h') : PrAt h' v p := by
  obtain ⟨g, o, c, e, s⟩ := s
  exact ⟨g, o, c, e, s.mono hl⟩
theorem c_check {h : GH} {pv sv : Value} {p : List Int} {l : List Rat} (hp : PrAt h pv p) (s : SzAt h sv l) (hl : l.length = p.length) (hlen : p.length ≤ 1000) (hs : SmL l) : ∃ r h', GCalls Tryz.prog gE 72 #[pv, sv] h r h' ∧ h.le h' ∧ r = .int .i64 0 := by
  obtain ⟨pg, po, pc, rfl, hp⟩ := hp
  obtain ⟨g, o, c, rfl, s⟩ := s
  refine gcalls_in (pl := noPl) [.tmp 4] mixed Tryz.func72 rfl rfl (by exact ok72) ?_
  simp only [go_sem, Nat.reduceBEq, hl, ne_eq, not_true_eq_false]
  refine loopK_inv (α := Nat) (fun i => l.length - i) (fun i ts g' => ts 12 = .slice (some ⟨g, o, none⟩) l.length c ∧ ts 13 = .int .i64 l.length ∧ ts 14 = .int .i64 i ∧ i ≤ l.length ∧ h.le g') ?_ (a0 := 0) ?_
  · rintro i ts g' ⟨h12, h13, h14, hi, hle⟩
    simp only [go_sem, h13, h14]
    refine ifK_intro (fun c1 => ?_) (fun c1 => ?_)
    · have c1' := of_decide_eq_true c1
      obtain ⟨q, hq⟩ : ∃ q, l[i]? = some q := ⟨_, List.getElem?_eq_getElem (by omega)⟩
      have hsq := hs q (List.mem_of_getElem? hq)
      have hl1 := (s.mono hle).load (rats_get hq)
      simp only [go_sem, Nat.reduceBEq, Nat.reduceAdd, ↓reduceIte, h12, h14, c1', hl1]
      have r0 := RatAt.new g' q
      refine callK_intro (c_fCheck q hsq) ?_
      rintro _ h1 ⟨hle1, rfl⟩
      have r1 := r0.mono hle1
      simp only [go_sem, Nat.reduceBEq, Int.reduceNe, c1', r1.l2]
      refine callK_intro (c_short q hsq) ?_
      rintro _ h2 ⟨hle2, rfl⟩
      simp (disch := first | omega | (simp only [List.length_cons, List.length_nil, List.length_set]; omega)) only [go_sem, Nat.reduceBEq, h12, h13, h14, wrap_i64]
      exact ⟨i + 1, by omega, rfl, by omega, ((hle.trans (GH.le_alloc _ _)).trans hle1).trans hle2⟩
    · simp only [go_sem, c1]
      exact hle
  · simp only [go_sem, Nat.reduceBEq, hl]
    exact ⟨Nat.zero_le _, GH.le.refl _⟩
end Go.Proofs.Gh
namespace Go.Proofs.Gh
open Go Go.Proofs Go.Proofs.Zz
set_option maxRecDepth 10000
set_option linter.unusedSimpArgs false
theorem c_Check {h : GH} {pv sv : Value} {p : List Int} {l : List Rat} (hP : Pr p) (hp : PrAt h pv p) (s : SzAt h sv l) (hl : l.length = p.length) (hs : SmL l) : ∃ r h', GCalls Tryz.prog gE 23 #[pv, sv] h r h' ∧ h.le h' ∧ r = .int .i64 0 := by
  obtain ⟨pg, po, pc, rfl, hp⟩ := hp
  have hlen := hP.len
  refine gcalls_in (pl := noPl) [.tmp 4] mixed Tryz.func23 rfl rfl (by exact ok23) ?_
  simp only [go_sem, Nat.reduceBEq]
  refine callK_intro (c_pCheck hP hp) ?_
  rintro _ h1 ⟨hle1, rfl⟩
  simp only [go_sem, Nat.reduceBEq, Int.reduceNe]
  refine callK_intro (c_check ⟨pg, po, pc, rfl, hp.mono hle1⟩ (s.mono hle1) hl (by omega) hs) ?_
  rintro _ h2 ⟨hle2, rfl⟩
  simp only [go_sem]
  exact hle1.trans hle2
theorem c_res1 {h : GH} (q : Rat) (hq : SmR q) : ∃ r h', GCalls Tryz.prog gE 169 #[rv q] h r h' ∧ h.le h' ∧ r = .bool false := by
  have r0 := RatAt.new h q
  refine gcalls_in (pl := noPl) [.tmp 2] mixed Tryz.func169 rfl rfl (by exact ok169) ?_
  simp only [go_sem, Nat.reduceBEq, ↓reduceIte, r0.l2]
  refine callK_intro (c_short q hq) ?_
  rintro _ h1 ⟨hle1, rfl⟩
  simp only [go_sem]
  exact (GH.le_alloc _ _).trans hle1
theorem c_com1 {h : GH} (q : Rat) (hq : SmR q) : ∃ r h', GCalls Tryz.prog gE 122 #[rv q] h r h' ∧ h.le h' ∧ r = .bool false := by
  have r0 := RatAt.new h q
  refine gcalls_in (pl := noPl) [.tmp 2] mixed Tryz.func122 rfl rfl (by exact ok122) ?_
  simp only [go_sem, Nat.reduceBEq, ↓reduceIte, r0.l2]
  refine callK_intro (c_fCheck q hq) ?_
  rintro _ h1 ⟨hle1, rfl⟩
  simp only [go_sem, Int.reduceNe]
  exact (GH.le_alloc _ _).trans hle1
theorem c_idxSize {h : GH} {sv : Value} {l : List Rat} (K : Nat) (hK : ∀ q ∈ l, ∀ h1, ∃ r h', GCalls Tryz.prog gE K #[rv q] h1 r h' ∧ h1.le h' ∧ r = .bool false) (s : SzAt h sv l) (hlen : l.length ≤ 1000) :
    ∃ r h', GCalls Tryz.prog gE 74 #[sv, .func (.func K) #[] #[]] h r h' ∧ h.le h' ∧ r = .int .i64 (-1) := by
  obtain ⟨g, o, c, rfl, s⟩ := s
  refine gcalls_in (pl := noPl) [.tmp 4] mixed Tryz.func74 rfl rfl (by exact ok74) ?_
  simp only [go_sem, Nat.reduceBEq]
  refine loopK_inv (α := Nat) (fun i => l.length - i) (fun i ts g' => ts 0 = .slice (some ⟨g, o, none⟩) l.length c ∧ ts 1 = .func (.func K) #[] #[] ∧ ts 7 = .int .i64 l.length ∧ ts 8 = .int .i64 i ∧ i ≤ l.length ∧ h.le g') ?_ (a0 := 0) ?_
  · rintro i ts g' ⟨h0, h1, h7, h8, hi, hle⟩
    simp only [go_sem, h7, h8]
    refine ifK_intro (fun c1 => ?_) (fun c1 => ?_)
    · have c1' := of_decide_eq_true c1
      obtain ⟨q, hq⟩ : ∃ q, l[i]? = some q := ⟨_, List.getElem?_eq_getElem (by omega)⟩
      have hl1 := (s.mono hle).load (rats_get hq)
      simp only [go_sem, Nat.reduceBEq, ↓reduceIte, h0, h1, h8, c1', hl1]
      refine callK_intro (hK q (List.mem_of_getElem? hq) _) ?_
      rintro _ h2 ⟨hle2, rfl⟩
      simp (disch := first | omega | (simp only [List.length_cons, List.length_nil, List.length_set]; omega)) only [go_sem, Nat.reduceBEq, h0, h1, h7, h8, wrap_i64]
      exact ⟨i + 1, by omega, rfl, by omega, hle.trans hle2⟩
    · simp only [go_sem, Int.reduceNeg, c1]
      exact hle
  · simp only [go_sem, Nat.reduceBEq]
    exact ⟨Nat.zero_le _, GH.le.refl _⟩
theorem c_idxRats {h : GH} {sv : Value} {l : List Rat} (K : Nat) (hK : ∀ q ∈ l, ∀ h1, ∃ r h', GCalls Tryz.prog gE K #[rv q] h1 r h' ∧ h1.le h' ∧ r = .bool false) (s : SzAt h sv l) (hlen : l.length ≤ 1000) :
    ∃ r h', GCalls Tryz.prog gE 168 #[sv, .func (.func K) #[] #[]] h r h' ∧ h.le h' ∧ r = .int .i64 (-1) := by
  obtain ⟨g, o, c, rfl, s⟩ := s
  refine gcalls_in (pl := noPl) [.tmp 4] mixed Tryz.func168 rfl rfl (by exact ok168) ?_
  simp only [go_sem, Nat.reduceBEq]
  refine loopK_inv (α := Nat) (fun i => l.length - i) (fun i ts g' => ts 0 = .slice (some ⟨g, o, none⟩) l.length c ∧ ts 1 = .func (.func K) #[] #[] ∧ ts 7 = .int .i64 l.length ∧ ts 8 = .int .i64 i ∧ i ≤ l.length ∧ h.le g') ?_ (a0 := 0) ?_
  · rintro i ts g' ⟨h0, h1, h7, h8, hi, hle⟩
    simp only [go_sem, h7, h8]
    refine ifK_intro (fun c1 => ?_) (fun c1 => ?_)
    · have c1' := of_decide_eq_true c1
      obtain ⟨q, hq⟩ : ∃ q, l[i]? = some q := ⟨_, List.getElem?_eq_getElem (by omega)⟩
      have hl1 := (s.mono hle).load (rats_get hq)
      simp only [go_sem, Nat.reduceBEq, ↓reduceIte, h0, h1, h8, c1', hl1]
      refine callK_intro (hK q (List.mem_of_getElem? hq) _) ?_
      rintro _ h2 ⟨hle2, rfl⟩
      simp (disch := first | omega | (simp only [List.length_cons, List.length_nil, List.length_set]; omega)) only [go_sem, Nat.reduceBEq, h0, h1, h7, h8, wrap_i64]
      exact ⟨i + 1, by omega, rfl, by omega, hle.trans hle2⟩
    · simp only [go_sem, Int.reduceNeg, c1]
      exact hle
  · simp only [go_sem, Nat.reduceBEq]
    exact ⟨Nat.zero_le _, GH.le.refl _⟩
theorem c_contSize {h : GH} {sv : Value} {l : List Rat} (K : Nat) (hK : ∀ q ∈ l, ∀ h1, ∃ r h', GCalls Tryz.prog gE K #[rv q] h1 r h' ∧ h1.le h' ∧ r = .bool false) (s : SzAt h sv l) (hlen : l.length ≤ 1000) :
    ∃ r h', GCalls Tryz.prog gE 25 #[sv, .func (.func K) #[] #[]] h r h' ∧ h.le h' ∧ r = .bool false := by
  refine gcalls_in (pl := noPl) [.tmp 4] mixed Tryz.func25 rfl rfl (by exact ok25) ?_
  simp only [go_sem, Nat.reduceBEq]
  refine callK_intro (c_idxSize K hK s hlen) ?_
  rintro _ h1 ⟨hle1, rfl⟩
  simp only [go_sem, Int.reduceNeg, Int.reduceLE]
  exact hle1
theorem c_contRats {h : GH} {sv : Value} {l : List Rat} (K : Nat) (hK : ∀ q ∈ l, ∀ h1, ∃ r h', GCalls Tryz.prog gE K #[rv q] h1 r h' ∧ h1.le h' ∧ r = .bool false) (s : SzAt h sv l) (hlen : l.length ≤ 1000) :
    ∃ r h', GCalls Tryz.prog gE 121 #[sv, .func (.func K) #[] #[]] h r h' ∧ h.le h' ∧ r = .bool false := by
  refine gcalls_in (pl := noPl) [.tmp 4] mixed Tryz.func121 rfl rfl (by exact ok121) ?_
  simp only [go_sem, Nat.reduceBEq]
  refine callK_intro (c_idxRats K hK s hlen) ?_
  rintro _ h1 ⟨hle1, rfl⟩
  simp only [go_sem, Int.reduceNeg, Int.reduceLE]
  exact hle1
theorem c_result {h : GH} {sv : Value} {l : List Rat} (s : SzAt h sv l) (hlen : l.length ≤ 1000) (hs : SmL l) : ∃ r h', GCalls Tryz.prog gE 123 #[sv] h r h' ∧ h.le h' ∧ r = .tuple #[sv, .int .i64 0] := by
  refine gcalls_in (pl := noPl) [.tmp 2, .tmp 3] mixed Tryz.func123 rfl rfl (by exact ok123) ?_
  simp only [go_sem, Nat.reduceBEq]
  refine callK_intro (c_contSize _ (fun q hq _ => c_res1 q (hs q hq)) s hlen) ?_
  rintro _ h1 ⟨hle1, rfl⟩
  simp only [go_sem, Nat.reduceBEq]
  exact hle1
/-- a list of sizes in memory -/
def LsAt (h : GH) (v : Value) (L : List (List Rat)) : Prop := ∃ (g o c : Nat) (vs : List Value), v = .slice (some ⟨g, o, none⟩) L.length c ∧ SlAt h g o c 1 (vs.map fun x => [x]) ∧ vs.length = L.length ∧ ∀ (i : Nat) (l : List Rat), L[i]? = some l → ∃ x, vs[i]? = some x ∧ SzAt h x l
theorem LsAt.mono {h h' : GH} {v : Value} {L : List (List Rat)} (s : LsAt h v L) (hl : h.le h') : LsAt h' v L := by
  obtain ⟨g, o, c, vs, e, s, h1, h2⟩ := s
  refine ⟨g, o, c, vs, e, s.mono hl, h1, fun i l hi => ?_⟩
  obtain ⟨x, k1, k2⟩ := h2 i l hi
  exact ⟨x, k1, k2.mono hl⟩
theorem c_CheckAll {h : GH} {pv lv : Value} {p : List Int} {L : List (List Rat)} (hP : Pr p) (hp : PrAt h pv p) (s : LsAt h lv L) (hlen : L.length ≤ 100000) (hs : ∀ l ∈ L, l.length = p.length ∧ SmL l) :
    ∃ r h', GCalls Tryz.prog gE 89 #[pv, lv] h r h' ∧ h.le h' ∧ r = .int .i64 0 := by
  obtain ⟨pg, po, pc, rfl, hp⟩ := hp
  obtain ⟨g, o, c, vs, rfl, s, hv1, hv2⟩ := s
  have hpl := hP.len
  refine gcalls_in (pl := noPl) [.tmp 4] mixed Tryz.func89 rfl rfl (by exact ok89) ?_
  simp only [go_sem, Nat.reduceBEq]
  refine callK_intro (c_pCheck hP hp) ?_
  rintro _ h1 ⟨hle1, rfl⟩
  simp only [go_sem, Nat.reduceBEq, Int.reduceNe]
  refine loopK_inv (α := Nat) (fun i => L.length - i) (fun i ts g' => ts 0 = .slice (some ⟨pg, po, none⟩) p.length pc ∧ ts 14 = .slice (some ⟨g, o, none⟩) L.length c ∧ ts 15 = .int .i64 L.length ∧ ts 16 = .int .i64 i ∧ i ≤ L.length ∧ h.le g') ?_ (a0 := 0) ?_
  · rintro i ts g' ⟨h0, h14, h15, h16, hi, hle⟩
    simp only [go_sem, h15, h16]
    refine ifK_intro (fun c1 => ?_) (fun c1 => ?_)
    · have c1' := of_decide_eq_true c1
      obtain ⟨l, hl⟩ : ∃ l, L[i]? = some l := ⟨_, List.getElem?_eq_getElem (by omega)⟩
      obtain ⟨x, hx, hx2⟩ := hv2 i l hl
      have hl1 := (s.mono hle).load (i := i) (x := [x]) (by simp [hx])
      rw [Nat.mul_one] at hl1
      have hsl := hs l (List.mem_of_getElem? hl)
      simp only [go_sem, Nat.reduceBEq, ↓reduceIte, h0, h14, h16, c1', hl1]
      refine callK_intro (c_check ⟨pg, po, pc, rfl, hp.mono hle⟩ (hx2.mono hle) hsl.1 (by omega) hsl.2) ?_
      rintro _ h2 ⟨hle2, rfl⟩
      simp (disch := first | omega | (simp only [List.length_cons, List.length_nil, List.length_set]; omega)) only [go_sem, Nat.reduceBEq, Int.reduceNe, h0, h14, h15, h16, wrap_i64]
      exact ⟨i + 1, by omega, rfl, by omega, hle.trans hle2⟩
    · simp only [go_sem, c1]
      exact hle
  · simp only [go_sem, Nat.reduceBEq]
    exact ⟨Nat.zero_le _, hle1⟩
end Go.Proofs.Gh
