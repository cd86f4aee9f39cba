/- For any two described scales the law returns true: Union gives the scale of the notes of both, Within says whether all notes of the first are in the second, or both give the conflict. No further condition. -/
import Derived.Test.YthnmdhfbbbfleaaGreatDoorCards
import Derived.Test.YthnmdhfbbbfleaaGreatDoorTie
import Derived.WalkKit
import Derived.ProofKit
import Derived.Lay
import Derived.Carry
import Derived.MakeChecks
import Derived.SevenTiedAt
import Derived.Stop.LaidErr
import Derived.Lib.LaidTab
import Derived.Test.YthnmdhfbbbfleaaGreatDoorU10
import Derived.Test.YthnmdhfbbbfleaaGreatDoorU11
import Derived.Test.YthnmdhfbbbfleaaGreatDoorU12
set_option linter.all false
namespace Go.Proofs.Gh
open Go Go.Proofs Go.Proofs.Zz
set_option maxRecDepth 10000
set_option linter.unusedSimpArgs false
theorem c_sortFuncU {H0 h : GH} {g c K : Nat} {cv : Value} {L : List (List Rat)} (cmp : List Rat → List Rat → Int) (hle0 : H0.le h) (hg : H0.n ≤ g) (s : Srt h g L) (hpos : 0 < L.length) (hlen : L.length ≤ 17) (hne : ∀ a ∈ L, a ≠ []) (nd : L.Nodup)
    (anti : ∀ a ∈ L, ∀ b ∈ L, a ≠ b → ¬ cmp a b < 0 → cmp b a < 0)
    (hK : ∀ a ∈ L, ∀ b ∈ L, a ≠ b → ∀ av bv h1, H0.le h1 → SzAt h1 av a → SzAt h1 bv b → ∃ r h', GCalls Tryz.prog gE K #[av, bv, cv] h1 r h' ∧ h1.le h' ∧ r = .int .i64 (cmp a b)) :
    ∃ r h', GCalls Tryz.prog gE 59 #[.slice (some ⟨g, 0, none⟩) L.length c, .func (.func K) #[] #[cv]] h r h' ∧ H0.le h' ∧ ∃ L', L'.Perm L ∧ (∀ k, Adj cmp L' k) ∧ Srt h' g L' := by
  have w1 : IntKind.u64.wrap (L.length : Int) = L.length := wrap_u64 (by omega) (by omega)
  refine gcalls_in (pl := noPl) [] mixed Tryz.func59 rfl rfl (by exact ok59) ?_
  simp only [go_sem, Nat.reduceBEq, w1]
  refine callK_intro (c_Len L.length (by omega)) ?_
  rintro _ h1 ⟨hle1, lim, rfl, l1, l2, l3⟩
  simp only [go_sem, Nat.reduceBEq]
  have hl : L.length ≤ 12 + lim := by
    rcases Nat.lt_or_ge lim 5 with h | h
    · have : 2 ^ lim ≤ 2 ^ 4 := Nat.pow_le_pow_right (by decide) (by omega)
      rcases Nat.lt_or_ge lim 4 with h4 | h4
      · have : 2 ^ lim ≤ 2 ^ 3 := Nat.pow_le_pow_right (by decide) (by omega)
        omega
      · omega
    · omega
  refine callK_intro (c_pdq17 (L0 := L) (cmp := cmp) (H0 := H0) ⟨nd, anti, hK⟩ ⟨hle0.trans hle1, hg, List.Perm.refl _, s.mono hle1⟩ hne hl (by omega) (by omega)) ?_
  rintro r2 h2 ⟨L', p1, p2⟩
  simp only [go_sem]
  exact ⟨p1.le, L', p1.perm, p2, p1.srt⟩
theorem c_lCollectU {h : GH} {pv ov lv : Value} {p : List Int} {l : List (List Rat)} (hP : Pr p) (hp : PrAt h pv p) (ho : SzAt h ov (oct p.length)) (hl : LsE h lv l) (hlen : l.length ≤ 30) (hcl17 : (colF p l).length ≤ 17) (hx : ∀ x ∈ l, XOk p x)
    (hnd : (colF p l).Nodup) (hsm : ∀ a ∈ colF p l, a.length = p.length ∧ SmL a) (hpair : ∀ a ∈ colF p l, ∀ b ∈ colF p l, a ≠ b → Fit 9999999 p (subL a b) ∧ Dec p (subL a b))
    (anti : ∀ a ∈ colF p l, ∀ b ∈ colF p l, a ≠ b → ¬ sgn p (subL a b) < 0 → sgn p (subL b a) < 0) :
    ∃ r h', GCalls Tryz.prog gE 16 #[pv, ov, lv] h r h' ∧ h.le h' ∧ ∃ L', L'.Perm (colF p l) ∧ (∀ k, Adj (fun a b => sgn p (subL a b)) L' k) ∧ ScAt h' r p L' := by
  obtain ⟨pg, po, pc, rfl, hp'⟩ := id hp
  obtain ⟨og, oo, oc, rfl, ho'⟩ := id ho
  obtain ⟨lp, lc', rfl, hlf⟩ := hl.form
  have hpl := hP.len
  obtain ⟨H, hH⟩ : ∃ H, (h.alloc ⟨[.slice (some ⟨pg, po, none⟩) p.length pc], true, false⟩).alloc ⟨[.slice none 0 0, .slice none 0 0], true, false⟩ = H := ⟨_, rfl⟩
  have uH : Uno H h.n (.slice (some ⟨pg, po, none⟩) p.length pc) := by rw [← hH]; exact (Uno.new _ _).mono (GH.le_alloc _ _)
  have dH : Duo H (h.n + 1) (.slice none 0 0) (.slice none 0 0) := by rw [← hH]; exact Duo.new _ _ _
  have hle0 : h.le H := by rw [← hH]; exact (GH.le_alloc _ _).trans (GH.le_alloc _ _)
  have hHn : H.n = h.n + 2 := by rw [← hH]; rfl
  have N0 : Nts H (H.alloc ⟨[.slice (some ⟨og, oo, none⟩) (oct p.length).length oc], true, false⟩) (.slice (some ⟨H.n, 0, none⟩) 1 1) (colF p (l.take 0)) H.n := by
    refine ⟨1, rfl, ⟨Nat.lt_succ_self _, [.slice (some ⟨og, oo, none⟩) (oct p.length).length oc], alloc_self _ _, rfl, fun i m hi => ?_⟩, Nat.le_refl _, .inr rfl⟩
    have : colF p (l.take 0) = [oct p.length] := rfl
    rw [this] at hi
    match i with
    | 0 =>
      injection hi with hi
      subst hi
      refine ⟨_, rfl, og, oo, oc, rfl, (ho'.mono hle0).mono (GH.le_alloc _ _), ?_⟩
      intro hh
      injection hh with hh
      have := (ho'.mono hle0).lt
      omega
    | i + 1 => simp at hi
  refine gcalls_in (pl := pl16) [.cell 6 36] mixed Tryz.func16 rfl rfl (by exact ok16) ?_
  simp only [go_sem, Nat.reduceBEq, Nat.reduceLeDiff, Nat.reduceLT, ↓reduceIte, hH]
  refine loopK_inv (α := Nat) (fun i => l.length - i) (fun i ts g' => ∃ g, ts 1 = .slice (some ⟨og, oo, none⟩) (oct p.length).length oc ∧ ts 3 = .pointer (some ⟨h.n, 0, none⟩) ∧ ts 6 = .pointer (some ⟨h.n + 1, 0, none⟩) ∧ ts 14 = .slice lp l.length lc' ∧ ts 15 = .int .i64 l.length ∧ ts 16 = .int .i64 i ∧ i ≤ l.length ∧ H.le g' ∧ Nts H g' (ts 7) (colF p (l.take i)) g) ?_ (a0 := 0) ?_
  · rintro i ts g' ⟨g, t1, t3, t6, t14, t15, t16, hi, hle, hN⟩
    have uG := uH.mono hle
    simp only [go_sem, t15, t16]
    refine ifK_intro (fun c1 => ?_) (fun c1 => ?_)
    · have c1' := of_decide_eq_true c1
      obtain ⟨x, hxx⟩ : ∃ q, l[i]? = some q := ⟨_, List.getElem?_eq_getElem (by omega)⟩
      have xo := hx x (List.mem_of_getElem? hxx)
      have hxl := xo.fl.fit.len
      obtain ⟨lg, lo, xv, rfl, l1, sx, _⟩ := hlf i x hxx
      have l1 := load_mono (hle0.trans hle) l1
      have wi : IntKind.i64.wrap ((i : Int) + 1) = ((i + 1 : Nat) : Int) := wrap_i64 (by omega) (by omega)
      have hrl : (redQ p x).length = x.length := redQ_length (by omega)
      simp only [go_sem, Nat.reduceBEq, ↓reduceIte, t1, t3, t14, t16, c1', l1, uG.l]
      refine callK_intro (c_lReduce hP ((hp.mono hle0).mono hle) ((sx.mono hle0).mono hle) ((ho.mono hle0).mono hle) xo.fl xo.ti xo.tf (fun q hq => (xo.rt q hq).sm)) ?_
      rintro _ h2 ⟨hle2, rv2, rfl, hrv⟩
      have hN2 := hN.mono hle2
      obtain ⟨rg, ro, rcc, rfl, hr', hrg⟩ := id hrv
      have u3 := Uno.new h2 (.slice (some ⟨rg, ro, none⟩) (redQ p x).length rcc)
      have le3 := GH.le_alloc h2 ⟨[.slice (some ⟨rg, ro, none⟩) (redQ p x).length rcc], true, false⟩
      have u2 := uG.mono hle2
      simp only [go_sem, Nat.reduceBEq, Array.reduceGetElem?, ↓reduceIte, alloc_store1s, u3.l, pl16]
      have hrm := hrv.at.mono le3
      have hrn : redQ p x ≠ [] := by rw [← List.length_pos_iff]; omega
      refine callK_intro (c_less hrm hrm hrn (by omega) rfl xo.rt xo.rt (fun q hq => by
        rw [subL_self] at hq; rw [(List.mem_replicate.1 hq).2]; exact SmR.zero)) ?_
      rintro zv h4 ⟨hle4, hzv⟩
      have u4 := u3.mono hle4
      obtain ⟨zg, zo, zc, rfl, _, _⟩ := id hzv
      simp only [go_sem, Nat.reduceBEq, Array.reduceGetElem?, u4.l]
      refine callK_intro (c_Equal (hrm.mono hle4) hzv.at (by omega)) ?_
      rintro _ h5 ⟨hle5, rfl⟩
      have u5 := u4.mono hle5
      have hleB : g'.le h5 := ((hle2.trans le3).trans hle4).trans hle5
      have hN5 := hN.mono hleB
      have esn : colF p (l.take (i + 1)) = if redQ p x ≠ subL (redQ p x) (redQ p x) ∧ redQ p x ∉ colF p (l.take i) then colF p (l.take i) ++ [redQ p x] else colF p (l.take i) := by
        rw [List.take_add_one, hxx]; exact colF_snoc p _ x
      have hcl := colF_len p _ (l.take i) rfl
      have htl : (l.take i).length ≤ 30 := by rw [List.length_take]; omega
      by_cases hz : redQ p x = subL (redQ p x) (redQ p x)
      · simp only [go_sem, Nat.reduceBEq, Array.reduceGetElem?, ↓reduceIte, decide_eq_true hz, t1, t3, t6, t14, t15, t16, wi]
        exact ⟨i + 1, by omega, g, rfl, by omega, hle.trans hleB, by rw [esn, if_neg (fun hh => hh.1 hz)]; exact hN5⟩
      · obtain ⟨gc, gv, gs, gn, gcc⟩ := id hN5
        simp only [go_sem, Nat.reduceBEq, Array.reduceGetElem?, decide_eq_false hz, List.map_toArray, List.map_cons, List.map_nil, gv]
        refine callK_intro (c_contLs (a := redQ p x) 58 (.inl (gs.at gcc (by omega))) (by omega) (fun b hb yv h6 hle6 sy => c_col1 (u5.mono hle6) (((hrm.mono hle4).mono hle5).mono hle6) sy (by omega))) ?_
        rintro _ h6 ⟨hle6, rfl⟩
        have u6 := u5.mono hle6
        by_cases hm : redQ p x ∈ colF p (l.take i)
        · simp only [go_sem, Nat.reduceBEq, Array.reduceGetElem?, ↓reduceIte, decide_eq_true hm, t1, t3, t6, t14, t15, t16, wi]
          exact ⟨i + 1, by omega, g, rfl, by omega, (hle.trans hleB).trans hle6, by rw [esn, if_neg (fun hh => hh.2 hm)]; exact hN5.mono hle6⟩
        · simp only [go_sem, Nat.reduceBEq, Nat.reduceLeDiff, Nat.reduceLT, Array.reduceGetElem?, ↓reduceIte, decide_eq_false hm, u6.l]
          obtain ⟨v', h', g2, e1, e2, e3, e4⟩ := (hN5.mono hle6).app ((hle.trans hleB).trans hle6) (by omega) (by omega) ((((hrv.mono le3).mono hle4).mono hle5).mono hle6 |>.n (o := some g) (fun k hk => by injection hk with hk; subst hk; obtain ⟨_, _, ⟨q, _⟩, _, _⟩ := hN; exact q))
          rw [gv] at e1
          simp only [go_sem, Nat.reduceBEq, t1, t3, t6, t14, t15, t16, wi, gv, e1]
          exact ⟨i + 1, by omega, g2, rfl, by omega, e2, by rw [esn, if_pos ⟨hz, hm⟩]; exact e3⟩
    · have c1' := of_decide_eq_false c1
      obtain rfl : i = l.length := by omega
      rw [List.take_length] at hN
      obtain ⟨gc, gv, gs, gn, gcc⟩ := hN
      simp only [go_sem, Nat.reduceBEq, t3, c1, List.map_toArray, List.map_cons, List.map_nil, gv]
      have hcl := colF_len p _ l rfl
      refine callK_intro (c_sortFuncU (H0 := H) (fun a b => sgn p (subL a b)) hle gn gs (by omega) (by omega) (fun a ha => by rw [← List.length_pos_iff, (hsm a ha).1]; omega) hnd anti (fun a ha b hb hab av bv h1 hle1 sa sb => c_col2 hP (uH.mono hle1) ((hp.mono hle0).mono hle1) sa sb (hsm a ha).1 (hsm b hb).1 (hsm a ha).2 (hsm b hb).2 (hpair a ha b hb hab).1 (hpair a ha b hb hab).2)) ?_
      rintro r5 h5 ⟨hle5, L', p1, p2, p3⟩
      have u5 := uH.mono hle5
      have d5 := dH.mono hle5
      have hst := d5.s2 (v := .slice (some ⟨pg, po, none⟩) p.length pc) (w := .slice (some ⟨g, 0, none⟩) (colF p l).length gc) rfl rfl
      have dd : Duo (h5.upd (h.n + 1) ⟨[.slice (some ⟨pg, po, none⟩) p.length pc, .slice (some ⟨g, 0, none⟩) (colF p l).length gc], true, false⟩) (h.n + 1) (.slice (some ⟨pg, po, none⟩) p.length pc) (.slice (some ⟨g, 0, none⟩) (colF p l).length gc) := Duo.up d5.lt
      simp only [go_sem, Nat.reduceBEq, Nat.reduceAdd, Nat.reduceLeDiff, ↓reduceIte, t3, t6, gv, u5.l, hst, dd.l2]
      refine ⟨(hle0.trans hle5).upd (by omega) _, L', p1, p2, _, _, rfl, ⟨_, _, _, rfl, ?_⟩, ?_⟩
      · exact SlAt.leX leX_upd ((hp'.mono hle0).mono hle5) (fun hh => by injection hh with hh; have := hp'.lt; omega)
      · obtain ⟨q1, vs, q2, q3, q4⟩ := p3
        have hgn : g ≠ h.n + 1 := by omega
        rw [← p1.length_eq]
        refine Srt.at (g := g) ⟨q1, vs, (upd_ne _ _ hgn).trans q2, q3, fun i m hi => ?_⟩ (by rw [p1.length_eq]; exact gcc) (by rw [p1.length_eq]; omega)
        obtain ⟨x, k1, k2⟩ := q4 i m hi
        refine ⟨x, k1, k2.upd d5 ?_⟩
        have := (hsm m (p1.mem_iff.1 (List.mem_of_getElem? hi))).1
        rw [← List.length_pos_iff]; omega
  · simp only [go_sem, Nat.reduceBEq]
    exact ⟨H.n, Nat.zero_le _, GH.le_alloc _ _, N0⟩
end Go.Proofs.Gh
namespace Go.Proofs.Gh
open Go Go.Proofs Go.Proofs.Zz
set_option maxRecDepth 10000
set_option linter.unusedSimpArgs false
theorem ok85 : funcOk Tryz.prog 6 noPl 85 2 = true := by decide +kernel
theorem ok40 : funcOk Tryz.prog 6 noPl 40 1 = true := by decide +kernel
theorem rep_len1 (n : Nat) (v : Value) : (rep n [v]).length = n := by
  unfold rep
  induction n with
  | zero => rfl
  | succ n ih => rw [List.replicate_succ, List.flatten_cons, List.length_append, ih, List.length_singleton]; omega
theorem unk_pos : (0 < unk) = True := by simp [unk]
theorem c_grow {h : GH} {n : Nat} (hn : 0 < n) (hn2 : n ≤ 1000) :
    ∃ r h', GCalls Tryz.prog gE 85 #[.slice none 0 0, .int .i64 n] h r h' ∧ r = .slice (some ⟨h.n, 0, none⟩) 0 (unk + 1) ∧ h' = h.alloc ⟨rep n [.slice none 0 0], true, false⟩ := by
  have ap : gAppend Tryz.prog 34 3 (.slice none 0 0) (.int .i64 n) h = some (.slice (some ⟨h.n, 0, none⟩) n (unk + 1), h.alloc ⟨rep n [.slice none 0 0], true, false⟩) := by
    simp only [gAppend, gAppZ, ty_sk34, ty_zk32, Tryz.underlying3]
    rw [if_pos ⟨ty_ce32, by decide, by omega, by omega, by rw [Int.toNat_natCast, ty_be32]; omega⟩, Int.toNat_natCast]
    rfl
  have n0 : ¬ ((n : Int) < 0) := by omega
  have w0 : IntKind.i64.wrap ((0 : Int) - 0) = 0 := by decide
  have w1 : IntKind.i64.wrap ((n : Int) - 0) = n := by rw [Int.sub_zero]; exact wrap_i64 (by omega) (by omega)
  have n1 : (0 : Int) < n := by omega
  have z0 : IntKind.i64.wrap (0 : Int) = 0 := by decide
  have w2 : IntKind.i64.wrap (n : Int) = n := wrap_i64 (by omega) (by omega)
  have gs1 : gSlice Tryz.prog 34 (.slice none 0 0) none (some (.int .i64 0)) none = some (.slice none 0 0) := by
    simp [gSlice, ty_sk34, ty_tk32, gBd]
  have gs2 : gSlice Tryz.prog 34 (.slice (some ⟨h.n, 0, none⟩) n (unk + 1)) none (some (.int .i64 0)) none = some (.slice (some ⟨h.n, 0, none⟩) 0 (unk + 1)) := by
    simp [gSlice, ty_sk34, ty_tk32, gBd]
  refine gcalls_in (pl := noPl) [.tmp 4] mixed Tryz.func85 rfl rfl (by exact ok85) ?_
  simp only [go_sem, Nat.reduceBEq, ↓reduceIte, n0, n1, ap, unk_pos, Option.map_some, z0, w2, Int.sub_zero, gs1, gs2]
theorem LsAt.one {h : GH} {vs : List Value} {L : List (List Rat)} (hl : vs.length = L.length) (s : ∀ (i : Nat) (l : List Rat), L[i]? = some l → ∃ x, vs[i]? = some x ∧ SzAt h x l) : vs.all Value.oneCell' = true := by
  refine List.all_eq_true.2 fun x hx => ?_
  obtain ⟨i, hi, rfl⟩ := List.getElem_of_mem hx
  obtain ⟨y, k1, g, o, c, rfl, _⟩ := s i _ (List.getElem?_eq_getElem (by omega))
  rw [List.getElem?_eq_getElem hi] at k1
  injection k1 with k1
  rw [k1]; rfl
theorem c_concat {h : GH} {b : Nat} {v1 v2 : Value} {L1 L2 : List (List Rat)} (d : Duo h b v1 v2) (s1 : LsAt h v1 L1) (s2 : LsAt h v2 L2) (p1 : 0 < L1.length) (q1 : L1.length ≤ 100) (p2 : 0 < L2.length) (q2 : L2.length ≤ 100) :
    ∃ r h', GCalls Tryz.prog gE 40 #[.slice (some ⟨b, 0, none⟩) 2 2] h r h' ∧ h.le h' ∧ LsAt h' r (L1 ++ L2) := by
  obtain ⟨g1, o1, c1, vs1, rfl, r1, l1, m1⟩ := s1
  obtain ⟨g2, o2, c2, vs2, rfl, r2, l2, m2⟩ := s2
  have one1 := LsAt.one l1 m1
  have one2 := LsAt.one l2 m2
  have w1 : IntKind.i64.wrap ((0 : Int) + L1.length) = (L1.length : Int) := by rw [Int.zero_add]; exact wrap_i64 (by omega) (by omega)
  have w2 : IntKind.i64.wrap ((L1.length : Int) + L2.length) = ((L1.length + L2.length : Nat) : Int) := by rw [wrap_i64 (by omega) (by omega)]; omega
  have n1 : ¬ ((L1.length : Int) < 0) := by omega
  have n2 : ¬ (((L1.length + L2.length : Nat) : Int) < 0) := by omega
  obtain ⟨hA, hhA⟩ : ∃ hA, h.alloc ⟨rep (L1.length + L2.length) [.slice none 0 0], true, false⟩ = hA := ⟨_, rfl⟩
  have leA : h.le hA := by rw [← hhA]; exact GH.le_alloc _ _
  have nA : hA.n = h.n + 1 := by rw [← hhA]; rfl
  have bA : hA.b h.n = ⟨rep (L1.length + L2.length) [.slice none 0 0], true, false⟩ := by rw [← hhA]; exact alloc_self _ _
  have hld1 := load_all (r1.mono leA)
  rw [one_cells, List.length_map, l1] at hld1
  have ap1 := append_unk (P := Tryz.prog) (h := hA) (g := h.n) (o := 0) (len := 0) (g2 := g1) (o2 := o1) (c2 := c1) (n := L1.length) (old := []) (t := 34) ty_sk34 ty_tk32 ty_zk32 rfl ty_ce32 (by decide) hld1 p1 (by rw [l1, Nat.mul_one]) one1 (by rw [bA]) (load_at (cells := rep (L1.length + L2.length) [.slice none 0 0]) (ro := false) (by omega) bA (by omega) rfl) (by omega) (by rw [ty_be32]; omega)
  rw [List.nil_append, Nat.zero_add] at ap1
  obtain ⟨hB, hhB⟩ : ∃ hB, (hA.upd h.n dead).alloc ⟨vs1, true, false⟩ = hB := ⟨_, rfl⟩
  have leB : h.le hB := by rw [← hhB]; exact (leA.upd (Nat.le_refl _) _).trans (GH.le_alloc _ _)
  have nB : hB.n = h.n + 2 := by rw [← hhB]; show hA.n + 1 = _; omega
  have bB : hB.b hA.n = ⟨vs1, true, false⟩ := by rw [← hhB]; exact alloc_self (hA.upd h.n dead) _
  rw [hhB] at ap1
  have hld2 := load_all (r2.mono leB)
  rw [one_cells, List.length_map, l2] at hld2
  have ap2 := append_unk (P := Tryz.prog) (h := hB) (g := hA.n) (o := 0) (len := L1.length) (g2 := g2) (o2 := o2) (c2 := c2) (n := L2.length) (old := vs1) (t := 34) ty_sk34 ty_tk32 ty_zk32 rfl ty_ce32 (by decide) hld2 p2 (by rw [l2, Nat.mul_one]) one2 (by rw [bB]) (load_at (cells := vs1) (ro := false) (by omega) bB (by omega) (by rw [List.drop_zero, Nat.mul_one, ← l1, List.take_length])) (by omega) (by rw [ty_be32]; omega)
  obtain ⟨hC, hhC⟩ : ∃ hC, (hB.upd hA.n dead).alloc ⟨vs1 ++ vs2, true, false⟩ = hC := ⟨_, rfl⟩
  have leC : h.le hC := by rw [← hhC]; exact (leB.upd (by omega) _).trans (GH.le_alloc _ _)
  have bC : hC.b hB.n = ⟨vs1 ++ vs2, true, false⟩ := by rw [← hhC]; exact alloc_self (hB.upd hA.n dead) _
  have nC : hC.n = hB.n + 1 := by rw [← hhC]; rfl
  rw [hhC] at ap2
  have dA := d.mono leA
  have dB := d.mono leB
  have i1 : IntKind.i64.wrap 1 = 1 := by decide
  have i2 : IntKind.i64.wrap 2 = 2 := by decide
  refine gcalls_in (pl := noPl) [.tmp 2] mixed Tryz.func40 rfl rfl (by exact ok40) ?_
  simp only [go_sem, Nat.reduceBEq]
  refine loopK_unroll ?_
  simp only [go_sem, Nat.reduceBEq, Int.reduceAdd, Int.reduceLT, Int.reduceLE, Int.reduceToNat, ↓reduceIte, d.l0, w1, n1, i1]
  refine loopK_unroll ?_
  simp only [go_sem, Nat.reduceBEq, Int.reduceAdd, Int.reduceLT, Int.reduceLE, Int.reduceToNat, ↓reduceIte, d.l1, w2, n2, i2]
  refine loopK_unroll ?_
  simp only [go_sem, Nat.reduceBEq, Int.reduceLT]
  refine callK_intro (c_grow (n := L1.length + L2.length) (by omega) (by omega)) ?_
  rintro _ h1 ⟨rfl, rfl⟩
  rw [hhA]
  simp only [go_sem, Nat.reduceBEq]
  refine loopK_unroll ?_
  simp only [go_sem, Nat.reduceBEq, Int.reduceAdd, Int.reduceLT, Int.reduceLE, Int.reduceToNat, ↓reduceIte, dA.l0, ap1, i1]
  refine loopK_unroll ?_
  simp only [go_sem, Nat.reduceBEq, Int.reduceAdd, Int.reduceLT, Int.reduceLE, Int.reduceToNat, ↓reduceIte, dB.l1, ap2, i2]
  refine loopK_unroll ?_
  simp only [go_sem, Nat.reduceBEq, Int.reduceLT]
  refine ⟨leC, hB.n, 0, unk + 1, vs1 ++ vs2, by rw [List.length_append], ?_, by simp [l1, l2], fun i l hi => ?_⟩
  · exact row_at (e := 1) (by omega) (by rw [bC, Row, one_cells]) (one_len _) ⟨by simp only [unk, List.length_map, List.length_append]; omega, fun _ => .inr rfl⟩
  · rcases Nat.lt_or_ge i L1.length with hlt | hge
    · rw [List.getElem?_append_left hlt] at hi
      obtain ⟨x, k1, k2⟩ := m1 i l hi
      exact ⟨x, by rw [List.getElem?_append_left (by omega)]; exact k1, k2.mono leC⟩
    · rw [List.getElem?_append_right hge] at hi
      obtain ⟨x, k1, k2⟩ := m2 _ l hi
      exact ⟨x, by rw [List.getElem?_append_right (by omega), l1]; exact k1, k2.mono leC⟩
end Go.Proofs.Gh
namespace Go.Proofs.Gh
open Go Go.Proofs Go.Proofs.Zz
set_option maxRecDepth 10000
set_option linter.unusedSimpArgs false
/-- the first of the sizes with a property -/
theorem c_idxP {h : GH} {lv cv : Value} {L : List (List Rat)} {f : List Rat → Bool} (K : Nat) (s : LsE h lv L) (hlen : L.length ≤ 1000) (hK : ∀ b ∈ L, ∀ yv h1, h.le h1 → SzAt h1 yv b → ∃ r h', GCalls Tryz.prog gE K #[yv, cv] h1 r h' ∧ h1.le h' ∧ r = .bool (f b)) :
    ∃ r h', GCalls Tryz.prog gE 28 #[lv, .func (.func K) #[] #[cv]] h r h' ∧ h.le h' ∧ ∃ z : Int, r = .int .i64 z ∧ (0 ≤ z ↔ L.any f = true) := by
  obtain ⟨p, c, rfl, hs⟩ := s.form
  refine gcalls_in (pl := noPl) [.tmp 4] mixed Tryz.func28 rfl rfl (by exact ok28) ?_
  simp only [go_sem, Nat.reduceBEq]
  refine loopK_inv (α := Nat) (fun i => L.length - i) (fun i ts g' => ts 0 = .slice p L.length c ∧ ts 1 = .func (.func K) #[] #[cv] ∧ ts 7 = .int .i64 L.length ∧ ts 8 = .int .i64 i ∧ i ≤ L.length ∧ h.le g' ∧ ∀ b ∈ L.take i, f b = false) ?_ (a0 := 0) ?_
  · rintro i ts g' ⟨t0, t1, t7, t8, hi, hle, hno⟩
    simp only [go_sem, t7, t8]
    refine ifK_intro (fun c1 => ?_) (fun c1 => ?_)
    · have c1' := of_decide_eq_true c1
      obtain ⟨b, hb⟩ : ∃ b, L[i]? = some b := ⟨_, List.getElem?_eq_getElem (by omega)⟩
      obtain ⟨g, o, x, rfl, l1, sx, _⟩ := hs i b hb
      have l1 := load_mono hle l1
      have wi : IntKind.i64.wrap ((i : Int) + 1) = ((i + 1 : Nat) : Int) := wrap_i64 (by omega) (by omega)
      simp only [go_sem, Nat.reduceBEq, ↓reduceIte, t0, t1, t8, c1', l1]
      refine callK_intro (hK b (List.mem_of_getElem? hb) x g' hle (sx.mono hle)) ?_
      rintro _ h2 ⟨hle2, rfl⟩
      simp only [go_sem]
      refine ifK_intro (fun c2 => ?_) (fun c2 => ?_)
      · simp only [go_sem, Nat.reduceBEq]
        exact ⟨hle.trans hle2, i, rfl, fun _ => List.any_eq_true.2 ⟨b, List.mem_of_getElem? hb, c2⟩, fun _ => by omega⟩
      · simp only [go_sem, Nat.reduceBEq, t0, t1, t7, t8, wi]
        refine ⟨i + 1, by omega, rfl, by omega, hle.trans hle2, fun b' hb' => ?_⟩
        rw [List.take_add_one, hb] at hb'
        rcases List.mem_append.1 hb' with hb' | hb'
        · exact hno b' hb'
        · rw [List.mem_singleton.1 hb']; exact c2
    · have c1' := of_decide_eq_false c1
      obtain rfl : i = L.length := by omega
      rw [List.take_length] at hno
      simp only [go_sem, Int.reduceNeg, c1]
      refine ⟨hle, -1, rfl, fun h => by omega, fun h => ?_⟩
      obtain ⟨b, hb, hf⟩ := List.any_eq_true.1 h
      rw [hno b hb] at hf
      cases hf
  · simp only [go_sem, Nat.reduceBEq]
    exact ⟨Nat.zero_le _, GH.le.refl _, fun b hb => by simp at hb⟩
theorem c_contP {h : GH} {lv cv : Value} {L : List (List Rat)} {f : List Rat → Bool} (K : Nat) (s : LsE h lv L) (hlen : L.length ≤ 1000) (hK : ∀ b ∈ L, ∀ yv h1, h.le h1 → SzAt h1 yv b → ∃ r h', GCalls Tryz.prog gE K #[yv, cv] h1 r h' ∧ h1.le h' ∧ r = .bool (f b)) :
    ∃ r h', GCalls Tryz.prog gE 57 #[lv, .func (.func K) #[] #[cv]] h r h' ∧ h.le h' ∧ r = .bool (L.any f) := by
  refine gcalls_in (pl := noPl) [.tmp 4] mixed Tryz.func57 rfl rfl (by exact ok57) ?_
  simp only [go_sem, Nat.reduceBEq]
  refine callK_intro (c_idxP K s hlen hK) ?_
  rintro _ h1 ⟨hle1, z, rfl, hz⟩
  simp only [go_sem]
  refine ⟨hle1, ?_⟩
  congr 1
  rw [Bool.eq_iff_iff, ← hz]
  simp
theorem c_w11 {h : GH} {yv rv' : Value} {a b : List Rat} {bx : Nat} (u : Uno h bx rv') (s : SzAt h rv' a) (t : SzAt h yv b) (hlen : a.length ≤ 1000) :
    ∃ r h', GCalls Tryz.prog gE 84 #[yv, .pointer (some ⟨bx, 0, none⟩)] h r h' ∧ h.le h' ∧ r = .bool (decide (a = b)) := by
  obtain ⟨g, o, c, rfl, s'⟩ := id s
  obtain ⟨tg, to, tc, rfl, t'⟩ := id t
  refine gcalls_in (pl := noPl) [.tmp 3] mixed Tryz.func84 rfl rfl (by exact ok84) ?_
  simp only [go_sem, Nat.reduceBEq, u.l]
  refine callK_intro (c_Equal s t hlen) ?_
  rintro _ h1 ⟨hle1, rfl⟩
  simp only [go_sem]
  exact hle1
theorem c_w1 {h : GH} {xv pv lv : Value} {k : Nat} {a : List Rat} {M : List (List Rat)} (d : Duo h k pv lv) (hl : LsAt h lv M) (s : SzAt h xv a) (hlen : a.length ≤ 1000) (hM : M.length ≤ 1000) :
    ∃ r h', GCalls Tryz.prog gE 83 #[xv, .pointer (some ⟨k, 0, none⟩)] h r h' ∧ h.le h' ∧ r = .bool (!decide (a ∈ M)) := by
  obtain ⟨g, o, c, rfl, s'⟩ := id s
  obtain ⟨tg, to, tc, vs, rfl, _⟩ := id hl
  have le1 := GH.le_alloc h ⟨[.slice (some ⟨g, o, none⟩) a.length c], true, false⟩
  have u1 := Uno.new h (.slice (some ⟨g, o, none⟩) a.length c)
  have d1 := d.mono le1
  refine gcalls_in (pl := noPl) [.tmp 3] mixed Tryz.func83 rfl rfl (by exact ok83) ?_
  simp only [go_sem, Nat.reduceBEq, ↓reduceIte, d1.l1, List.map_toArray, List.map_cons, List.map_nil]
  refine callK_intro (c_contLs (a := a) 84 (.inl (hl.mono le1)) hM (fun b hb yv h1 hle1 sy => c_w11 (u1.mono hle1) ((s.mono le1).mono hle1) sy hlen)) ?_
  rintro _ h2 ⟨hle2, rfl⟩
  simp only [go_sem]
  exact le1.trans hle2
theorem c_alike {h : GH} {sv tv : Value} {p q : List Int} {N M : List (List Rat)} (hP : Pr p) (hQ : Pr q) (s : ScAt h sv p N) (t : ScAt h tv q M) (so : ScOk p N) (to : ScOk q M) (ho : p = q → perN N = oct p.length ∧ perN M = oct p.length) :
    ∃ r h', GCalls Tryz.prog gE 82 #[sv, tv] h r h' ∧ h.le h' ∧ r = .int .i64 (if p = q then 0 else 14) := by
  have hpl := hP.len
  have n1 := so.pos
  have n2 := to.pos
  have n3 := so.few
  have n4 := to.few
  obtain ⟨g, o, c, g2, o2, c2, rfl, hp, hn⟩ := s.form
  obtain ⟨g3, o3, c3, g4, o4, c4, rfl, hq, hm⟩ := t.form
  obtain ⟨H, hH, d1, d2, hle0, hHn⟩ := Duo.two h (.slice (some ⟨g, o, none⟩) p.length c) (.slice (some ⟨g2, o2, none⟩) N.length c2) (.slice (some ⟨g3, o3, none⟩) q.length c3) (.slice (some ⟨g4, o4, none⟩) M.length c4)
  refine gcalls_in (pl := pl82) [.tmp 4] mixed Tryz.func82 rfl rfl (by exact ok82) ?_
  simp only [go_sem, Nat.reduceBEq, ↓reduceIte, hH, d1.l2, d2.l2]
  refine callK_intro (c_two hP hQ (s.mono hle0) (t.mono hle0) so to) ?_
  rintro _ h1 ⟨hle1, rfl⟩
  have d1' := d1.mono hle1
  have d2' := d2.mono hle1
  have hleA := hle0.trans hle1
  simp only [go_sem, Nat.reduceBEq, Int.reduceNe, Array.reduceGetElem?, d1'.l0, d2'.l0, pl82]
  refine callK_intro (c_eqPrimes (hp.mono hleA) (hq.mono hleA) (by omega)) ?_
  rintro _ h2 ⟨hle2, rfl⟩
  have d1'' := d1'.mono hle2
  have d2'' := d2'.mono hle2
  have hleB := hleA.trans hle2
  by_cases hpq : p = q
  · obtain ⟨o1, o2'⟩ := ho hpq
    simp only [go_sem, Nat.reduceBEq, Array.reduceGetElem?, decide_eq_true hpq, d1''.l2, d2''.l2]
    refine callK_intro (c_period (s.mono hleB) n1 (by omega)) ?_
    rintro av h3 ⟨hle3, ha⟩
    have d3 := d1''.mono hle3
    have d4 := d2''.mono hle3
    rw [o1] at ha
    simp only [go_sem, Nat.reduceBEq, Array.reduceGetElem?, decide_eq_true hpq, d4.l2]
    refine callK_intro (c_period ((t.mono hleB).mono hle3) n2 (by omega)) ?_
    rintro bv h4 ⟨hle4, hb⟩
    rw [o2'] at hb
    simp only [go_sem, Nat.reduceBEq, Array.reduceGetElem?, decide_eq_true hpq]
    refine callK_intro (c_Equal (ha.mono hle4) hb (by rw [oct_length (by omega)]; omega)) ?_
    rintro _ h5 ⟨hle5, rfl⟩
    have d5 := (d3.mono hle4).mono hle5
    have d6 := (d4.mono hle4).mono hle5
    simp only [go_sem, Nat.reduceBEq, Array.reduceGetElem?, ↓reduceIte, decide_eq_true hpq, decide_true]
    exact ⟨((hleB.trans hle3).trans hle4).trans hle5, by rw [if_pos hpq]⟩
  · simp only [go_sem, Nat.reduceBEq, Array.reduceGetElem?, ↓reduceIte, decide_eq_false hpq]
    exact ⟨hleB, by rw [if_neg hpq]⟩
theorem c_Within {h : GH} {sv tv : Value} {p q : List Int} {N M : List (List Rat)} (hP : Pr p) (hQ : Pr q) (s : ScAt h sv p N) (t : ScAt h tv q M) (so : ScOk p N) (to : ScOk q M) (ho : p = q → perN N = oct p.length ∧ perN M = oct p.length) :
    ∃ r h', GCalls Tryz.prog gE 38 #[sv, tv] h r h' ∧ h.le h' ∧ r = (if p = q then .tuple #[.bool (decide (∀ x ∈ N, x ∈ M)), .int .i64 0] else .tuple #[.bool false, .int .i64 14]) := by
  have hpl := hP.len
  have n1 := so.few
  have n2 := to.few
  obtain ⟨g, o, c, g2, o2, c2, rfl, hp, hn⟩ := s.form
  obtain ⟨g3, o3, c3, g4, o4, c4, rfl, hq, hm⟩ := t.form
  obtain ⟨H, hH, d1, d2, hle0, hHn⟩ := Duo.two h (.slice (some ⟨g, o, none⟩) p.length c) (.slice (some ⟨g2, o2, none⟩) N.length c2) (.slice (some ⟨g3, o3, none⟩) q.length c3) (.slice (some ⟨g4, o4, none⟩) M.length c4)
  refine gcalls_in (pl := noPl) [.tmp 4, .tmp 5] mixed Tryz.func38 rfl rfl (by exact ok38) ?_
  simp only [go_sem, Nat.reduceBEq, ↓reduceIte, hH, d1.l2, d2.l2]
  refine callK_intro (c_alike hP hQ (s.mono hle0) (t.mono hle0) so to ho) ?_
  rintro _ h1 ⟨hle1, rfl⟩
  have d1' := d1.mono hle1
  have d2' := d2.mono hle1
  have hle := hle0.trans hle1
  by_cases hpq : p = q
  · simp only [go_sem, Nat.reduceBEq, Int.reduceNe, ↓reduceIte, hpq, d1'.l1, List.map_toArray, List.map_cons, List.map_nil]
    refine callK_intro (c_contP (f := fun x => !decide (x ∈ M)) 83 (.inl (hn.mono hle)) (by omega) (fun b hb yv h2 hle2 sy => c_w1 (d2'.mono hle2) ((hm.mono hle).mono hle2) sy (by rw [so.len b hb]; omega) (by omega))) ?_
    rintro _ h2 ⟨hle2, rfl⟩
    simp only [go_sem, Nat.reduceBEq]
    refine ⟨hle.trans hle2, ?_⟩
    have e : (!N.any fun x => !decide (x ∈ M)) = decide (∀ x ∈ N, x ∈ M) := by
      rw [Bool.eq_iff_iff]
      simp
    rw [if_pos hpq, e]
  · have c14 : ¬ ((14 : Int) = 0) := by decide
    simp only [go_sem, Nat.reduceBEq, Int.reduceNe, ↓reduceIte, hpq]
    exact hle
theorem c_Union {h : GH} {sv tv : Value} {p : List Int} {N M : List (List Rat)} (hP : Pr p) (s : ScAt h sv p N) (t : ScAt h tv p M) (so : ScOk p N) (to : ScOk p M) (ho : perN N = oct p.length ∧ perN M = oct p.length) (hx : ∀ x ∈ N ++ M, x.length = p.length ∧ FlOk p x ∧ SmL (redQ p x)) (k : SoOk p (colS p (N ++ M))) :
    ∃ r h', GCalls Tryz.prog gE 37 #[sv, tv] h r h' ∧ h.le h' ∧ ∃ uv U, r = .tuple #[uv, .int .i64 0] ∧ U.Perm (colS p (N ++ M)) ∧ (∀ k, Adj (fun a b => sgn p (subL a b)) U k) ∧ ScAt h' uv p (U ++ [oct p.length]) := by
  have hpl := hP.len
  have n1 := so.pos
  have n2 := to.pos
  have n3 := so.few
  have n4 := to.few
  obtain ⟨g, o, c, g2, o2, c2, rfl, hp, hn⟩ := s.form
  obtain ⟨g3, o3, c3, g4, o4, c4, rfl, hq, hm⟩ := t.form
  obtain ⟨H, hH, d1, d2, hle0, hHn⟩ := Duo.two h (.slice (some ⟨g, o, none⟩) p.length c) (.slice (some ⟨g2, o2, none⟩) N.length c2) (.slice (some ⟨g3, o3, none⟩) p.length c3) (.slice (some ⟨g4, o4, none⟩) M.length c4)
  obtain ⟨K, hK⟩ : ∃ K, H.alloc ⟨[.slice none 0 0, .slice none 0 0], true, false⟩ = K := ⟨_, rfl⟩
  have dK : Duo K H.n (.slice none 0 0) (.slice none 0 0) := by rw [← hK]; exact Duo.new _ _ _
  rw [hHn] at dK
  have hleK : H.le K := by rw [← hK]; exact GH.le_alloc _ _
  have d1K := d1.mono hleK
  have d2K := d2.mono hleK
  have hle0K := hle0.trans hleK
  refine gcalls_in (pl := pl37) [.cell 4 36, .tmp 5] mixed Tryz.func37 rfl rfl (by exact ok37) ?_
  simp only [go_sem, Nat.reduceBEq, ↓reduceIte, hH, hHn, hK, d1K.l2, d2K.l2]
  refine callK_intro (c_alike hP hP (s.mono hle0K) (t.mono hle0K) so to (fun _ => ho)) ?_
  rintro _ h1 ⟨hle1, rfl⟩
  have d1' := d1K.mono hle1
  have d2' := d2K.mono hle1
  have dK' := dK.mono hle1
  have hle := hle0K.trans hle1
  simp only [go_sem, Nat.reduceBEq, Nat.reduceAdd, Nat.reduceLeDiff, Nat.reduceLT, Int.reduceNe, Array.reduceGetElem?, ↓reduceIte, d1'.l0, d1'.l1, d1'.l2, d2'.l1, pl37]
  obtain ⟨B, hB⟩ : ∃ B, h1.alloc ⟨[.slice (some ⟨g2, o2, none⟩) N.length c2, .slice (some ⟨g4, o4, none⟩) M.length c4], true, false⟩ = B := ⟨_, rfl⟩
  have dB : Duo B h1.n (.slice (some ⟨g2, o2, none⟩) N.length c2) (.slice (some ⟨g4, o4, none⟩) M.length c4) := by rw [← hB]; exact Duo.new _ _ _
  have leB : h1.le B := by rw [← hB]; exact GH.le_alloc _ _
  rw [hB]
  have d1B := d1'.mono leB
  have d2B := d2'.mono leB
  refine callK_intro (c_period (s.mono (hle.trans leB)) n1 (by omega)) ?_
  rintro ov h2 ⟨hle2, hov⟩
  rw [ho.1] at hov
  have d1'' := d1B.mono hle2
  have d2'' := d2B.mono hle2
  have hleB := (hle.trans leB).trans hle2
  simp only [go_sem, Nat.reduceBEq, Array.reduceGetElem?, ↓reduceIte, d1''.l0, d1''.l1, d2''.l1]
  refine callK_intro (c_concat (dB.mono hle2) (hn.mono hleB) (hm.mono hleB) n1 (by omega) n2 (by omega)) ?_
  rintro cv h3 ⟨hle3, hcv⟩
  have hleC := hleB.trans hle3
  have d1C := d1''.mono hle3
  have d2C := d2''.mono hle3
  have dKC := ((dK'.mono leB).mono hle2).mono hle3
  simp only [go_sem, Nat.reduceBEq, Array.reduceGetElem?, ↓reduceIte, d1C.l0]
  refine callK_intro (c_scCollect hP (hp.mono hleC) (hov.mono hle3) (.inl hcv) (by rw [List.length_append]; omega) hx k) ?_
  rintro _ h4 ⟨hle4, uv, U, rfl, q1, q2, q3⟩
  obtain ⟨s1, s2, s3, s4, s5, s6, rfl, _, _⟩ := q3.form
  have dK4 := dKC.mono hle4
  have hst := dK4.s2 (v := .slice (some ⟨s1, s2, none⟩) p.length s3) (w := .slice (some ⟨s4, s5, none⟩) (U ++ [oct p.length]).length s6) rfl rfl
  have dd := Duo.up (v := .slice (some ⟨s1, s2, none⟩) p.length s3) (w := .slice (some ⟨s4, s5, none⟩) (U ++ [oct p.length]).length s6) dK4.lt
  simp only [go_sem, Nat.reduceBEq, Nat.reduceAdd, Array.reduceGetElem?, ↓reduceIte, hst, dd.l2]
  refine ⟨(hleC.trans hle4).upd (show h.n ≤ h.n + 2 by omega) _, _, U, rfl, q1, q2, q3.upd dK4 hP.ne (by simp) ?_⟩
  intro b hb
  rcases List.mem_append.1 hb with hb | hb
  · rw [← List.length_pos_iff, (k.sm b (q1.mem_iff.1 hb)).1]; omega
  · rw [List.mem_singleton] at hb
    rw [← List.length_pos_iff, hb, oct_length (by omega)]; omega
theorem c_UnionX {h : GH} {sv tv : Value} {p q : List Int} {N M : List (List Rat)} (hP : Pr p) (hQ : Pr q) (hpq : p ≠ q) (s : ScAt h sv p N) (t : ScAt h tv q M) (so : ScOk p N) (to : ScOk q M) :
    ∃ r h', GCalls Tryz.prog gE 37 #[sv, tv] h r h' ∧ h.le h' ∧ r = .tuple #[.agg #[.slice none 0 0, .slice none 0 0], .int .i64 14] := by
  obtain ⟨g, o, c, g2, o2, c2, rfl, hp, hn⟩ := s.form
  obtain ⟨g3, o3, c3, g4, o4, c4, rfl, hq, hm⟩ := t.form
  obtain ⟨H, hH, d1, d2, hle0, hHn⟩ := Duo.two h (.slice (some ⟨g, o, none⟩) p.length c) (.slice (some ⟨g2, o2, none⟩) N.length c2) (.slice (some ⟨g3, o3, none⟩) q.length c3) (.slice (some ⟨g4, o4, none⟩) M.length c4)
  obtain ⟨K, hK⟩ : ∃ K, H.alloc ⟨[.slice none 0 0, .slice none 0 0], true, false⟩ = K := ⟨_, rfl⟩
  have dK : Duo K H.n (.slice none 0 0) (.slice none 0 0) := by rw [← hK]; exact Duo.new _ _ _
  rw [hHn] at dK
  have hleK : H.le K := by rw [← hK]; exact GH.le_alloc _ _
  have d1K := d1.mono hleK
  have d2K := d2.mono hleK
  have hle0K := hle0.trans hleK
  refine gcalls_in (pl := pl37) [.cell 4 36, .tmp 5] mixed Tryz.func37 rfl rfl (by exact ok37) ?_
  simp only [go_sem, Nat.reduceBEq, ↓reduceIte, hH, hHn, hK, d1K.l2, d2K.l2]
  refine callK_intro (c_alike hP hQ (s.mono hle0K) (t.mono hle0K) so to (fun h => absurd h hpq)) ?_
  rintro _ h1 ⟨hle1, rfl⟩
  have d1' := d1K.mono hle1
  have d2' := d2K.mono hle1
  have dK' := dK.mono hle1
  have hle := hle0K.trans hle1
  have c14 : ¬ ((14 : Int) = 0) := by decide
  have hst := dK'.s2 (v := .slice none 0 0) (w := .slice none 0 0) rfl rfl
  have dd := Duo.up (v := .slice none 0 0) (w := .slice none 0 0) dK'.lt
  simp only [go_sem, Nat.reduceBEq, Nat.reduceAdd, Int.reduceNe, ↓reduceIte, hpq, hst, dd.l2]
  exact hle.upd (show h.n ≤ h.n + 2 by omega) _
end Go.Proofs.Gh
namespace Go.Proofs.Gh
open Go Go.Proofs Go.Proofs.Zz
set_option maxRecDepth 10000
set_option linter.unusedSimpArgs false
/-- a note's numbers -/
theorem Sc.note_at {p : List Int} {D : Nat} {L N : List (List Rat)} (hP : Pr p) (s : Sc p D L N) (n i : Nat) :
    at' (noteL N n) i = (if i = 0 then ((n / N.length : Nat) : Rat) else 0) + (if n % N.length = 0 then 0 else at' (N[n % N.length - 1]?.getD []) i) := by
  have hpl := hP.len
  have hk := s.len
  have e : at' (scaleL (oct p.length) ((n / N.length : Nat) : Int)) i = if i = 0 then ((n / N.length : Nat) : Rat) else 0 := by
    rw [at_scale, at_oct (by omega)]
    split
    · rw [Rat.one_mul, Rat.intCast_natCast]
    · rw [Rat.zero_mul]
  rw [noteL, s.per]
  split
  · rw [e, Rat.add_zero]
  · have hlt := Nat.mod_lt n hk.1
    have hm : N[n % N.length - 1]? = some N[n % N.length - 1] := List.getElem?_eq_getElem (by omega)
    rw [at_add (by rw [scaleL_length, oct_length (by omega), hm, Option.getD_some]; exact (s.nd _ (List.mem_of_getElem? hm)).len), e]
theorem Sc.note_shift {p : List Int} {D : Nat} {L N : List (List Rat)} (hP : Pr p) (s : Sc p D L N) (n q i : Nat) :
    at' (noteL N (n + q * N.length)) i = at' (noteL N n) i + (if i = 0 then (q : Rat) else 0) := by
  have hk := s.len
  rw [s.note_at hP, s.note_at hP, Nat.add_mul_mod_self_right, Nat.add_mul_div_right _ _ hk.1]
  split
  · rw [Rat.natCast_add]; grind
  · grind
theorem Sc.vl_note {p : List Int} {D : Nat} {L N : List (List Rat)} (hP : Pr p) (s : Sc p D L N) (n : Nat) :
    vl (noteL N n) = ((n / N.length : Nat) : Rat) * 67108864 + (if n % N.length = 0 then 0 else vl (N[n % N.length - 1]?.getD [])) := by
  rw [vl_at, s.note_at hP, s.note_at hP, s.note_at hP]
  have n1 : ¬ (1 : Nat) = 0 := by decide
  have n2 : ¬ (2 : Nat) = 0 := by decide
  by_cases h : n % N.length = 0
  · simp only [if_pos h, if_neg n1, if_neg n2, ↓reduceIte]; grind
  · simp only [if_neg h, if_neg n1, if_neg n2, ↓reduceIte]; rw [vl_at]; grind
theorem Sc.at_mem {p : List Int} {D : Nat} {L N : List (List Rat)} (_s : Sc p D L N) {i : Nat} (hi : i < N.length) : N[i]? = some (N[i]?.getD []) ∧ N[i]?.getD [] ∈ N := by
  rw [List.getElem?_eq_getElem hi]
  exact ⟨rfl, List.getElem_mem hi⟩
/-- the notes go up -/
theorem Sc.note_lt {p : List Int} {D : Nat} {L N : List (List Rat)} (hP : Pr p) (s : Sc p D L N) (n : Nat) : vl (noteL N n) < vl (noteL N (n + 1)) := by
  have hpl := hP.len
  have hk := s.len
  have hlt := Nat.mod_lt n hk.1
  have hoct : vl (N[N.length - 1]?.getD []) = 67108864 := by rw [s.last]; exact vl_oct (by omega)
  rw [s.vl_note hP, s.vl_note hP]
  obtain ⟨q, hq⟩ : ∃ q, n / N.length = q := ⟨_, rfl⟩
  obtain ⟨r, hr⟩ : ∃ r, n % N.length = r := ⟨_, rfl⟩
  have hn : n = r + q * N.length := by
    have := Nat.mod_add_div n N.length
    rw [hq, hr, Nat.mul_comm] at this
    exact this.symm
  rw [hr] at hlt
  rw [hq, hr]
  by_cases hl : r + 1 = N.length
  · have e1 : n + 1 = 0 + (q + 1) * N.length := by rw [hn, Nat.add_mul, Nat.one_mul]; omega
    have e2 : (n + 1) % N.length = 0 := by rw [e1, Nat.add_mul_mod_self_right, Nat.zero_mod]
    have e3 : (n + 1) / N.length = q + 1 := by rw [e1, Nat.add_mul_div_right _ _ hk.1, Nat.zero_div, Nat.zero_add]
    rw [e2, e3, if_pos rfl, Rat.natCast_add]
    split
    · grind
    · obtain ⟨m1, m2⟩ := s.at_mem (i := r - 1) (by omega)
      obtain ⟨m3, m4⟩ := s.at_mem (i := N.length - 1) (by omega)
      have := inc_lt s.inc (N.length - 1) (r - 1) _ _ (by omega) m1 m3
      rw [hoct] at this
      grind
  · have e1 : n + 1 = (r + 1) + q * N.length := by omega
    have e2 : (n + 1) % N.length = r + 1 := by rw [e1, Nat.add_mul_mod_self_right, Nat.mod_eq_of_lt (by omega)]
    have e3 : (n + 1) / N.length = q := by rw [e1, Nat.add_mul_div_right _ _ hk.1, Nat.div_eq_of_lt (by omega), Nat.zero_add]
    rw [e2, e3, if_neg (Nat.succ_ne_zero r), Nat.add_sub_cancel]
    obtain ⟨m1, m2⟩ := s.at_mem (i := r) (by omega)
    by_cases hr0 : r = 0
    · have := (s.pos _ m2).1
      rw [if_pos hr0]
      grind
    · obtain ⟨m3, m4⟩ := s.at_mem (i := r - 1) (by omega)
      rw [if_neg hr0]
      have := inc_lt s.inc r (r - 1) _ _ (by omega) m3 m1
      grind
theorem Sc.note_lt' {p : List Int} {D : Nat} {L N : List (List Rat)} (hP : Pr p) (s : Sc p D L N) {n m : Nat} (h : n < m) : vl (noteL N n) < vl (noteL N m) := by
  induction m with
  | zero => omega
  | succ m ih =>
    have h1 := s.note_lt hP m
    rcases Nat.lt_or_ge n m with h2 | h2
    · have := ih h2
      grind
    · obtain rfl : n = m := by omega
      exact h1
theorem Sc.note0 {p : List Int} {D : Nat} {L N : List (List Rat)} (hP : Pr p) (s : Sc p D L N) : noteL N 0 = zeroL p.length := by
  refine at_ext (by rw [s.note_len hP]; simp [zeroL]) fun i => ?_
  rw [s.note_at hP, at_zero, Nat.zero_mod, if_pos rfl, Nat.zero_div]
  split <;> grind
/-- the notes are the notes -/
theorem Sc.note_N {p : List Int} {D : Nat} {L N : List (List Rat)} (hP : Pr p) (s : Sc p D L N) {i : Nat} (hi : i < N.length) : noteL N (i + 1) = N[i]?.getD [] := by
  have hpl := hP.len
  have hk := s.len
  obtain ⟨m1, m2⟩ := s.at_mem hi
  refine at_ext (by rw [s.note_len hP, (s.nd _ m2).len]) fun j => ?_
  rw [s.note_at hP]
  by_cases hl : i + 1 = N.length
  · rw [hl, Nat.mod_self, if_pos rfl, Nat.div_self hk.1, show i = N.length - 1 by omega, s.last, Option.getD_some, at_oct (by omega), Rat.add_zero]
    split <;> rfl
  · rw [Nat.mod_eq_of_lt (by omega), Nat.div_eq_of_lt (by omega), if_neg (Nat.succ_ne_zero i), Nat.add_sub_cancel]
    split <;> grind
/-! a mode's own notes -/
theorem Sc.mode_len {p : List Int} {D : Nat} {L N : List (List Rat)} (hP : Pr p) (s : Sc p D L N) (n m : Nat) : (subL (noteL N n) (noteL N m)).length = p.length := by
  rw [subL_length _ _ (by rw [s.note_len hP, s.note_len hP]), s.note_len hP]
theorem Sc.mode_at {p : List Int} {D : Nat} {L N : List (List Rat)} (hP : Pr p) (s : Sc p D L N) (n m i : Nat) : at' (subL (noteL N n) (noteL N m)) i = at' (noteL N n) i - at' (noteL N m) i :=
  at_sub (by rw [s.note_len hP, s.note_len hP]) i
theorem modeL_get (N : List (List Rat)) (m : Nat) {i : Nat} (hi : i < N.length) : (modeL N m)[i]? = some (subL (noteL N (m + (i + 1))) (noteL N m)) := by
  rw [modeL, List.getElem?_map, List.getElem?_range hi]; rfl
theorem Sc.mode_per {p : List Int} {D : Nat} {L N : List (List Rat)} (hP : Pr p) (s : Sc p D L N) (m : Nat) : perN (modeL N m) = oct p.length := by
  have hpl := hP.len
  have hk := s.len
  rw [perN, modeL_len, modeL_get N m (by omega), Option.getD_some]
  refine at_ext (by rw [s.mode_len hP, oct_length (by omega)]) fun i => ?_
  have e : m + (N.length - 1 + 1) = m + 1 * N.length := by omega
  rw [s.mode_at hP, e, s.note_shift hP, at_oct (by omega)]
  split
  · grind
  · grind
theorem Sc.mode_note {p : List Int} {D : Nat} {L N : List (List Rat)} (hP : Pr p) (s : Sc p D L N) (m n : Nat) : noteL (modeL N m) n = subL (noteL N (m + n)) (noteL N m) := by
  have hpl := hP.len
  have hk := s.len
  have hlt := Nat.mod_lt n hk.1
  have hsl : (scaleL (oct p.length) (((n / N.length : Nat) : Int) : Rat)).length = p.length := by rw [scaleL_length, oct_length (by omega)]
  have hn : m + n = (m + n % N.length) + (n / N.length) * N.length := by
    have := Nat.mod_add_div n N.length
    rw [Nat.mul_comm] at this
    omega
  have eo : ∀ i, at' (scaleL (oct p.length) (((n / N.length : Nat) : Int) : Rat)) i = if i = 0 then ((n / N.length : Nat) : Rat) else 0 := by
    intro i
    rw [at_scale, at_oct (by omega)]
    split
    · rw [Rat.one_mul, Rat.intCast_natCast]
    · rw [Rat.zero_mul]
  rw [noteL, modeL_len, s.mode_per hP]
  split
  · rename_i h0
    refine at_ext (by rw [hsl, s.mode_len hP]) fun i => ?_
    rw [s.mode_at hP, hn, s.note_shift hP, h0, Nat.add_zero, eo]
    grind
  · rename_i h0
    have hg : (modeL N m)[n % N.length - 1]?.getD [] = subL (noteL N (m + n % N.length)) (noteL N m) := by
      rw [modeL_get N m (by omega), Option.getD_some, show n % N.length - 1 + 1 = n % N.length by omega]
    rw [hg]
    refine at_ext (by rw [addL_length _ _ (by rw [hsl, s.mode_len hP]), hsl, s.mode_len hP]) fun i => ?_
    rw [at_add (by rw [hsl, s.mode_len hP]), s.mode_at hP, s.mode_at hP, eo]
    conv => rhs; rw [hn, s.note_shift hP]
    grind
theorem Sc.mode_mode {p : List Int} {D : Nat} {L N : List (List Rat)} (hP : Pr p) (s : Sc p D L N) (m n : Nat) : modeL (modeL N m) n = modeL N ((m + n) % N.length) := by
  have hk := s.len
  have hn : m + n = (m + n) % N.length + ((m + n) / N.length) * N.length := by
    have := Nat.mod_add_div (m + n) N.length
    rw [Nat.mul_comm] at this
    omega
  unfold modeL
  rw [show (List.map (fun i => subL (noteL N (m + (i + 1))) (noteL N m)) (List.range N.length)).length = N.length by simp]
  refine List.map_congr_left fun i _ => ?_
  have := s.mode_note hP m (n + (i + 1))
  unfold modeL at this
  rw [this]
  have := s.mode_note hP m n
  unfold modeL at this
  rw [this]
  refine at_ext (by rw [subL_length _ _ (by rw [s.mode_len hP, s.mode_len hP]), s.mode_len hP, s.mode_len hP]) fun j => ?_
  rw [at_sub (by rw [s.mode_len hP, s.mode_len hP]), s.mode_at hP, s.mode_at hP, s.mode_at hP]
  have e1 : m + (n + (i + 1)) = ((m + n) % N.length + (i + 1)) + ((m + n) / N.length) * N.length := by omega
  rw [e1, s.note_shift hP]
  conv => lhs; rw [hn, s.note_shift hP]
  grind
end Go.Proofs.Gh
namespace Go.Proofs.Gh
open Go Go.Proofs Go.Proofs.Zz
set_option maxRecDepth 10000
set_option linter.unusedSimpArgs false
theorem subL_subL {a b c : List Rat} (h1 : b.length = a.length) (h2 : c.length = a.length) : subL (subL a c) (subL b c) = subL a b := by
  have hb : (subL b c).length = (subL a c).length := by rw [subL_length _ _ (by omega), subL_length _ _ h2, h1]
  refine at_ext (by rw [subL_length _ _ hb, subL_length _ _ h2, subL_length _ _ h1]) fun i => ?_
  rw [at_sub hb, at_sub h2, at_sub (by omega), at_sub h1]
  grind
theorem subL_zl {a b : List Rat} {n : Nat} (h : a.length = n) (h2 : b.length = n) : subL (zeroL n) (subL a b) = subL b a := by
  have hl : (subL a b).length = (zeroL n).length := by rw [subL_length _ _ (by omega), h]; simp [zeroL]
  refine at_ext (by rw [subL_length _ _ hl, subL_length _ _ (by omega), h2]; simp [zeroL]) fun i => ?_
  rw [at_sub hl, at_zero, at_sub (by omega), at_sub (by omega)]
  grind
/-- tighter bounds of the notes -/
theorem Sc.b5 {p : List Int} {D : Nat} {L N : List (List Rat)} (hP : Pr p) (F : Fam p D L) (s : Sc p D L N) : ∀ a ∈ N, ∀ i, Bd D 5000 (at' a i) := by
  intro a ha i
  have hpl := hP.len
  have nd := s.nd a ha
  have hD := F.pos
  have hD2 := F.le
  obtain ⟨t, ht, t1, t2⟩ := nd.src
  have b1 : (cf D a 1).natAbs ≤ 1200 := by rw [t1]; exact ((F.bd t ht 1).ov hD).2
  have b2 : (cf D a 2).natAbs ≤ 1200 := by rw [t2]; exact ((F.bd t ht 2).ov hD).2
  have g := nd.good0 F
  have b0 : (cf D a 0).natAbs ≤ 5000 := by
    obtain ⟨p1, p2⟩ := s.pos a ha
    have w1 := g.pos_iff.2 p1
    have w2 : wt D a ≤ 134217728 * D := by
      have h0 := g.wt_rat
      have hp := two_pos hD
      rw [← Rat.intCast_le_intCast, h0, Rat.intCast_mul, Rat.intCast_natCast, Rat.intCast_ofNat]
      have := Rat.mul_le_mul_of_nonneg_right p2 (Rat.le_of_lt hp)
      grind
    unfold wt at w1 w2
    omega
  have e := ((nd.bd i).ov hD).1
  match i with
  | 0 => exact ⟨_, e, b0⟩
  | 1 => exact ⟨_, e, Nat.le_trans b1 (by decide)⟩
  | 2 => exact ⟨_, e, Nat.le_trans b2 (by decide)⟩
  | i + 3 =>
    rw [at_ge (by rw [nd.len]; omega)]
    exact Bd.zero
theorem Sc.note_b {p : List Int} {D : Nat} {L N : List (List Rat)} (hP : Pr p) (F : Fam p D L) (s : Sc p D L N) {n : Nat} (hn : n ≤ 8 * N.length) (i : Nat) : Bd D 5900 (at' (noteL N n) i) := by
  have hk := s.len
  have hD := F.pos
  have hD2 := F.le
  have hq : n / N.length ≤ 8 := by
    have := Nat.div_le_div_right (c := N.length) hn
    rwa [Nat.mul_div_cancel _ hk.1] at this
  rw [s.note_at hP]
  refine Bd.mono (B := 800 + 5000) (Bd.add hD ?_ ?_) (by decide)
  · split
    · have := bd_int hD (((n / N.length : Nat) : Int))
      rw [Rat.intCast_natCast] at this
      refine this.mono ?_
      rw [Int.natAbs_mul, Int.natAbs_natCast, Int.natAbs_natCast]
      exact Nat.le_trans (Nat.mul_le_mul hq hD2) (by decide)
    · exact Bd.zero
  · split
    · exact Bd.zero
    · have hlt := Nat.mod_lt n hk.1
      obtain ⟨_, m2⟩ := s.at_mem (i := n % N.length - 1) (by omega)
      exact s.b5 hP F _ m2 i
theorem Sc.note_nd8 {p : List Int} {D : Nat} {L N : List (List Rat)} (hP : Pr p) (F : Fam p D L) (s : Sc p D L N) {n : Nat} (hn : n ≤ 8 * N.length) : Nd p D L (noteL N n) := (s.note_nd hP F (by omega)).1
/-- a mode is a scale -/
theorem Sc.mode_scOk {p : List Int} {D : Nat} {L N : List (List Rat)} (hP : Pr p) (F : Fam p D L) (s : Sc p D L N) {m : Nat} (hm : m ≤ N.length) : ScOk p (modeL N m) := by
  have hk := s.len
  have hpl := hP.len
  have hlen : ∀ x ∈ modeL N m, x.length = p.length := by
    intro x hx
    obtain ⟨i, _, rfl⟩ := List.mem_map.1 hx
    exact s.mode_len hP _ _
  have nd : ∀ n, n ≤ 8 * N.length → Nd p D L (noteL N n) := fun n hn => s.note_nd8 hP F hn
  refine ⟨by rw [modeL_len]; omega, by rw [modeL_len]; omega, hlen, fun x hx => ?_, fun i x hx => ?_⟩
  · obtain ⟨i, hi, rfl⟩ := List.mem_map.1 hx
    rw [List.mem_range] at hi
    exact (Nd.good F (nd _ (by omega)) (nd _ (by omega))).fit.sm
  · obtain ⟨hi, _⟩ := List.getElem?_eq_some_iff.1 hx
    rw [modeL_len] at hi
    rw [modeL_get N m hi] at hx
    injection hx with hx
    subst hx
    have key : subL (prevN p.length (modeL N m) i) (subL (noteL N (m + (i + 1))) (noteL N m)) = subL (noteL N (m + i)) (noteL N (m + (i + 1))) := by
      unfold prevN
      split
      · rename_i h0
        subst h0
        rw [subL_zl (s.note_len hP _) (s.note_len hP _)]
        rfl
      · rw [modeL_get N m (by omega), Option.getD_some, show i - 1 + 1 = i by omega]
        exact subL_subL (by rw [s.note_len hP, s.note_len hP]) (by rw [s.note_len hP, s.note_len hP])
    rw [key]
    have n1 := nd (m + i) (by omega)
    have n2 := nd (m + (i + 1)) (by omega)
    have g := Nd.good F n1 n2
    exact ⟨g.fit.mono (by decide), g.dec hP, (Nd.sgn_lt hP F n1 n2).2 (s.note_lt hP (m + i))⟩
theorem Sc.mode_mo {p : List Int} {D : Nat} {L N : List (List Rat)} (hP : Pr p) (F : Fam p D L) (s : Sc p D L N) {m : Nat} (hm : m ≤ N.length) : MoOk p (modeL N m) := by
  have hk := s.len
  have hpl := hP.len
  have hD := F.pos
  have hD2 := F.le
  have ti : ∀ {q : Rat}, Bd D 11800 q → Ti q := fun hq => ⟨by have := hq.num hD; omega, by have := hq.den_le hD; omega⟩
  have dif : ∀ n, n ≤ 4 * N.length → ∀ q ∈ subL (noteL N n) (noteL N m), Ti q := by
    intro n hn q hq
    refine ti (bd_mem (fun i => ?_) q hq)
    rw [s.mode_at hP]
    exact ((s.note_b hP F (by omega) i).sub hD (s.note_b hP F (by omega) i))
  refine ⟨by rw [modeL_len]; omega, by rw [modeL_len]; omega, fun x hx => ?_, fun x hx => ?_, fun n => ?_, fun n hn => ?_, fun n n' hn hn' => ?_⟩
  · obtain ⟨i, _, rfl⟩ := List.mem_map.1 hx
    exact s.mode_len hP _ _
  · obtain ⟨i, hi, rfl⟩ := List.mem_map.1 hx
    rw [List.mem_range] at hi
    exact dif _ (by omega)
  · rw [s.mode_note hP]
    exact s.mode_len hP _ _
  · rw [modeL_len] at hn
    rw [s.mode_note hP, modeL_len, s.mode_per hP, ← s.per]
    refine ⟨dif _ (by omega), (s.note_nd hP F (by omega)).2⟩
  · rw [modeL_len] at hn hn'
    rw [s.mode_note hP, s.mode_note hP, subL_subL (by rw [s.note_len hP, s.note_len hP]) (by rw [s.note_len hP, s.note_len hP])]
    exact (Nd.good F (s.note_nd8 hP F (by omega)) (s.note_nd8 hP F (by omega))).fit.sm
/-- the subset of all notes -/
theorem rng_get {k i : Nat} (hi : i < k) : (rng k)[i]? = some (i : Int) := by
  rw [rng, List.getElem?_map, List.getElem?_range hi]; rfl
theorem errOf_rng {k : Nat} (hk : 0 < k) : errOf k (rng k) = 0 := by
  have hne : rng k ≠ [] := by rw [← List.length_pos_iff, rng_len]; exact hk
  rw [errOf, if_neg hne, rng_len]
  have : ∀ j, j ≤ k → errTo k (rng k) j = 0 := by
    intro j
    induction j with
    | zero => intro _; rfl
    | succ j ih =>
      intro hj
      rw [errTo, if_pos (ih (by omega)), errAt, rng_get (show j < k by omega), Option.getD_some, if_neg (by omega), if_neg]
      rintro ⟨h1, h2⟩
      rw [rng_get (show j - 1 < k by omega), Option.getD_some] at h2
      omega
  exact this k (Nat.le_refl _)
theorem subN_rng {p : List Int} {D : Nat} {L N : List (List Rat)} (hP : Pr p) (s : Sc p D L N) : subN N (rng N.length) = N := by
  have hk := s.len
  have e0 : (rng N.length)[0]?.getD 0 = 0 := by rw [rng_get hk.1]; rfl
  rw [subN, subI, e0, Int.zero_add]
  have el : (rng N.length).drop 1 ++ [(N.length : Int)] = (List.range N.length).map fun i : Nat => ((i + 1 : Nat) : Int) := by
    apply List.ext_getElem?
    intro i
    rw [List.getElem?_map]
    rcases Nat.lt_or_ge i (N.length - 1) with h | h
    · rw [List.getElem?_append_left (by rw [List.length_drop, rng_len]; omega), List.getElem?_drop, rng_get (by omega), List.getElem?_range (by omega)]
      simp; omega
    · rw [List.getElem?_append_right (by rw [List.length_drop, rng_len]; omega), List.length_drop, rng_len]
      rcases Nat.lt_or_ge i N.length with h2 | h2
      · rw [List.getElem?_range h2, show i - (N.length - 1) = 0 by omega]
        simp; omega
      · rw [List.getElem?_eq_none (by simp; omega), List.getElem?_eq_none (by simp; omega)]; rfl
  rw [el, List.map_map]
  apply List.ext_getElem?
  intro i
  rw [List.getElem?_map]
  rcases Nat.lt_or_ge i N.length with h | h
  · rw [List.getElem?_range h, Option.map_some]
    obtain ⟨m1, m2⟩ := s.at_mem h
    have e1 : ntI N 0 = zeroL p.length := s.note0 hP
    have e2 : ntI N ((i + 1 : Nat) : Int) = N[i]?.getD [] := by
      unfold ntI
      rw [Int.toNat_natCast]
      exact s.note_N hP h
    show some (subL (ntI N ((i + 1 : Nat) : Int)) (ntI N 0)) = N[i]?
    rw [e1, e2, subL_zero (s.nd _ m2).len, m1]
    rfl
  · rw [List.getElem?_eq_none (by simp; exact h), List.getElem?_eq_none h]; rfl
/-! the scale of a scale's notes -/
theorem Nd.fl0 {p : List Int} {D : Nat} {L : List (List Rat)} {a : List Rat} (hP : Pr p) (F : Fam p D L) (nd : Nd p D L a) (h0 : 0 < vl a) (h1 : vl a < 67108864) : flQ p a = 0 := by
  obtain ⟨k1, k2⟩ := (nd.good0 F).fl_vl hP
  have a1 : ((flQ p a : Int) : Rat) < ((1 : Int) : Rat) := by
    have : ((1 : Int) : Rat) = 1 := rfl
    rw [this]
    exact rat_lt_of (c := 67108864) (by grind) (by grind)
  have a2 : ((-1 : Int) : Rat) < ((flQ p a : Int) : Rat) := by
    have : ((-1 : Int) : Rat) = -1 := rfl
    rw [this]
    exact rat_lt_of (c := 67108864) (by grind) (by grind)
  rw [Rat.intCast_lt_intCast] at a1 a2
  omega
theorem redQ_fl0 {p : List Int} {a : List Rat} (ha : 0 < a.length) (h : flQ p a = 0) : redQ p a = a := by
  refine at_ext (redQ_length ha) fun i => ?_
  rw [redQ_at ha, h]
  have : ((0 : Int) : Rat) = 0 := rfl
  rw [this]
  grind
theorem oct_fl {p : List Int} (hP : Pr p) : flQ p (oct p.length) = 1 ∧ redQ p (oct p.length) = zeroL p.length := by
  rcases hP with rfl | rfl <;> decide +kernel
theorem Sc.fl {p : List Int} {D : Nat} {L N : List (List Rat)} (hP : Pr p) (F : Fam p D L) (s : Sc p D L N) {a : List Rat} (ha : a ∈ N) : (a = oct p.length) ∨ (vl a < 67108864 ∧ redQ p a = a ∧ flQ p a = 0) := by
  have hpl := hP.len
  obtain ⟨h1, h2⟩ := s.pos a ha
  rcases Rat.le_iff_lt_or_eq.1 h2 with h | h
  · have := (s.nd a ha).fl0 hP F h1 h
    exact .inr ⟨h, redQ_fl0 (by rw [(s.nd a ha).len]; omega) this, this⟩
  · exact .inl (Nd.ne hP F (s.nd a ha) (Nd.oct hP F) (by rw [h, vl_oct (by omega)]))
theorem Sc.colS {p : List Int} {D : Nat} {L N : List (List Rat)} (hP : Pr p) (F : Fam p D L) (s : Sc p D L N) {M : List (List Rat)} (hM : M.Perm (Gh.colS p N)) (hs : ∀ k, Adj (fun a b => sgn p (subL a b)) M k) : M ++ [oct p.length] = N := by
  have hpl := hP.len
  have hk := s.len
  have hN : N = N.dropLast ++ [oct p.length] := by
    have hne : N ≠ [] := by rw [← List.length_pos_iff]; exact hk.1
    have := List.dropLast_concat_getLast hne
    rw [List.getLast_eq_getElem] at this
    have e := s.last
    rw [List.getElem?_eq_getElem (by omega)] at e
    injection e with e
    rw [e] at this
    exact this.symm
  have hpw := Inc.pw s.inc
  have hnd : N.Nodup := hpw.imp fun {a b} h e => by subst e; exact Rat.lt_irrefl h
  have hin : ∀ a, a ∈ Gh.colS p N ↔ a ∈ N.dropLast := by
    intro a
    rw [mem_colS]
    have hsplit : ∀ x, x ∈ N → x = oct p.length ∨ x ∈ N.dropLast := by
      intro x hx
      rw [hN] at hx
      rcases List.mem_append.1 hx with hx | hx
      · exact .inr hx
      · rw [List.mem_singleton] at hx; exact .inl hx
    constructor
    · rintro ⟨x, hx, rfl, hz⟩
      rcases s.fl hP F hx with rfl | ⟨h1, h2, _⟩
      · exact absurd (oct_fl hP).2 hz
      · rw [h2]
        rcases hsplit x hx with rfl | h
        · rw [vl_oct (by omega)] at h1
          exact absurd h1 Rat.lt_irrefl
        · exact h
    · intro ha
      have haN : a ∈ N := (List.dropLast_sublist N).subset ha
      have hne : a ≠ oct p.length := by
        rintro rfl
        rw [hN, List.nodup_append] at hnd
        exact hnd.2.2 _ ha _ (List.mem_singleton.2 rfl) rfl
      rcases s.fl hP F haN with h | ⟨h1, h2, _⟩
      · exact absurd h hne
      · refine ⟨a, haN, h2.symm, ?_⟩
        rintro rfl
        have := (s.pos _ haN).1
        rw [vl_zero] at this
        exact Rat.lt_irrefl this
  have hperm : M.Perm N.dropLast := by
    refine hM.trans ((List.perm_ext_iff_of_nodup (nodup_colS N) ?_).2 hin)
    exact hnd.sublist (List.dropLast_sublist N)
  have hMn : ∀ a ∈ M, Nd p D L a := fun a ha => s.nd a ((List.dropLast_sublist N).subset (hperm.mem_iff.1 ha))
  have hMi := Inc.of_adj hP F hMn hs
  have hDi : Inc N.dropLast := by
    intro k a b ha hb
    have hkb := (List.getElem?_eq_some_iff.1 hb).1
    rw [List.length_dropLast] at hkb
    rw [List.getElem?_dropLast, if_pos (by omega)] at ha hb
    exact s.inc k a b ha hb
  rw [Inc.unique hMi hDi hperm, ← hN]
end Go.Proofs.Gh
namespace Go.Proofs.Gh
open Go Go.Proofs Go.Proofs.Zz
set_option maxRecDepth 10000
set_option linter.unusedSimpArgs false
theorem oct_good {p : List Int} (hP : Pr p) : Good p 1 (oct p.length) := by
  have hpl := hP.len
  refine ⟨oct_length (by omega), by decide, by decide, fun q hq => ?_, .inl ?_⟩
  · exact (bd_mem (oct7 (D := 1) (by decide) (by decide) (by omega)) q hq).mono (by decide)
  · rw [cf_at, cf_at, at_oct (by omega), at_oct (by omega), if_neg (by decide), if_neg (by decide), ov_zero]; exact ⟨rfl, rfl⟩
theorem c_scOf {h : GH} {pv ov lv : Value} {p : List Int} {l : List (List Rat)} (hP : Pr p) (hp : PrAt h pv p) (ho : SzAt h ov (oct p.length)) (hl : LsE h lv l) (hlen : l.length ≤ 10000) (hx : ∀ x ∈ l, x.length = p.length ∧ SmL x ∧ FlOk p x ∧ SmL (redQ p x)) (k : SoOk p (colS p l)) :
    ∃ r h', GCalls Tryz.prog gE 45 #[pv, ov, lv] h r h' ∧ h.le h' ∧ ∃ sv N, r = .tuple #[sv, .int .i64 0] ∧ N.Perm (colS p l) ∧ (∀ k, Adj (fun a b => sgn p (subL a b)) N k) ∧ ScAt h' sv p (N ++ [oct p.length]) := by
  obtain ⟨pg, po, pc, rfl, hp'⟩ := id hp
  obtain ⟨og, oo, oc, rfl, ho'⟩ := id ho
  obtain ⟨lp, lc', rfl, hlf⟩ := hl.form
  have hpl := hP.len
  obtain ⟨H, hH⟩ : ∃ H, h.alloc ⟨[.slice none 0 0, .slice none 0 0], true, false⟩ = H := ⟨_, rfl⟩
  have dH : Duo H h.n (.slice none 0 0) (.slice none 0 0) := by rw [← hH]; exact Duo.new _ _ _
  have hle0 : h.le H := by rw [← hH]; exact GH.le_alloc _ _
  have hHn : H.n = h.n + 1 := by rw [← hH]; rfl
  have go := oct_good hP
  refine gcalls_in (pl := noPl) [.cell 6 36, .tmp 7] mixed Tryz.func45 rfl rfl (by exact ok45) ?_
  simp only [go_sem, Nat.reduceBEq, hH]
  refine callK_intro (c_checkPeriod hP (hp.mono hle0) (ho.mono hle0) (go.fit.mono (by decide)) (go.dec hP) (by rw [go.vl_pos hP (by rw [vl_oct (by omega)]; grind)]; decide)) ?_
  rintro _ h1 ⟨hle1, rfl⟩
  simp only [go_sem, Nat.reduceBEq, Int.reduceNe]
  refine callK_intro (c_CheckAllE hP ((hp.mono hle0).mono hle1) ((hl.mono hle0).mono hle1) (by omega) (fun x hxm => ⟨(hx x hxm).1, (hx x hxm).2.1⟩)) ?_
  rintro _ h2 ⟨hle2, rfl⟩
  simp only [go_sem, Nat.reduceBEq, Int.reduceNe]
  have hle := (hle0.trans hle1).trans hle2
  refine callK_intro (c_scCollect hP (hp.mono hle) (ho.mono hle) (hl.mono hle) hlen (fun x hxm => ⟨(hx x hxm).1, (hx x hxm).2.2⟩) k) ?_
  rintro _ h5 ⟨hle5, sv, N, rfl, q1, q2, q3⟩
  obtain ⟨s1, s2, s3, s4, s5, s6, rfl, _, _⟩ := q3.form
  have dB9 := dH.mono ((hle1.trans hle2).trans hle5)
  have hst9 := dB9.s2 (v := .slice (some ⟨s1, s2, none⟩) p.length s3) (w := .slice (some ⟨s4, s5, none⟩) (N ++ [oct p.length]).length s6) rfl rfl
  have dd9 := Duo.up (v := .slice (some ⟨s1, s2, none⟩) p.length s3) (w := .slice (some ⟨s4, s5, none⟩) (N ++ [oct p.length]).length s6) dB9.lt
  simp only [go_sem, Nat.reduceBEq, Nat.reduceAdd, Array.reduceGetElem?, ↓reduceIte, hst9, dd9.l2]
  refine ⟨(hle.trans hle5).upd (Nat.le_refl _) _, _, N, rfl, q1, q2, q3.upd dB9 hP.ne (by simp) ?_⟩
  intro b hb
  rcases List.mem_append.1 hb with hb | hb
  · rw [← List.length_pos_iff, (k.sm b (q1.mem_iff.1 hb)).1]; omega
  · rw [List.mem_singleton] at hb
    rw [← List.length_pos_iff, hb, oct_length (by omega)]; omega
/-- the scale of a scale's notes is the scale -/
theorem c_scOfN {h : GH} {pv ov lv : Value} {p : List Int} {D : Nat} {L N : List (List Rat)} (hP : Pr p) (F : Fam p D L) (s : Sc p D L N) (hp : PrAt h pv p) (ho : SzAt h ov (oct p.length)) (hl : LsAt h lv N) :
    ∃ r h', GCalls Tryz.prog gE 45 #[pv, ov, lv] h r h' ∧ h.le h' ∧ ∃ sv, r = .tuple #[sv, .int .i64 0] ∧ ScAt h' sv p N := by
  have hpl := hP.len
  have hk := s.len
  have nd : ∀ a ∈ colS p N, Nd p D L a := by
    intro a ha
    obtain ⟨x, hx, rfl, hz⟩ := (mem_colS N a).1 ha
    rcases s.fl hP F hx with rfl | ⟨_, h2, _⟩
    · exact absurd (oct_fl hP).2 hz
    · rw [h2]; exact s.nd x hx
  obtain ⟨r, h', k1, k2, sv, M, k3, k4, k5, k6⟩ := c_scOf hP hp ho (.inl hl) (by omega) (fun x hx => by
    refine ⟨(s.nd x hx).len, (s.nd x hx).sm F, ((s.nd x hx).good0 F).flOk hP, ?_⟩
    rcases s.fl hP F hx with rfl | ⟨_, h2, _⟩
    · rw [(oct_fl hP).2]; exact zeroL_sm _
    · rw [h2]; exact (s.nd x hx).sm F) (soOk_of hP F nd (nodup_colS N) (by have := colS_len p N; omega))
  rw [s.colS hP F k4 k5] at k6
  exact ⟨r, h', k1, k2, sv, k3, k6⟩
theorem c_lSign {h : GH} {pv sv : Value} {p : List Int} {l : List Rat} (hP : Pr p) (hp : PrAt h pv p) (s : SzAt h sv l) (f : Fit 9999999 p l) (hd : Dec p l) :
    ∃ r h', GCalls Tryz.prog gE 46 #[pv, sv] h r h' ∧ h.le h' ∧ r = .int .i64 (sgn p l) := by
  refine gcalls_in (pl := noPl) [.tmp 4] mixed Tryz.func46 rfl rfl (by exact ok46) ?_
  simp only [go_sem, Nat.reduceBEq]
  refine callK_intro (c_sizeSign hP hp s f hd) ?_
  rintro _ h1 ⟨hle1, rfl⟩
  simp only [go_sem, Nat.reduceBEq, Array.reduceGetElem?]
  exact hle1
end Go.Proofs.Gh
namespace Go.Proofs.Gh
open Go Go.Proofs Go.Proofs.Zz
set_option maxRecDepth 10000
set_option linter.unusedSimpArgs false
theorem ScAt.parts {h : GH} {p : List Int} {N : List (List Rat)} {a b : Value} (s : ScAt h (.agg #[a, b]) p N) : PrAt h a p ∧ LsAt h b N := by
  obtain ⟨u1, u2, eu, a1, a2⟩ := s
  injection eu with eu
  simp only [Array.mk.injEq, List.cons.injEq, and_true] at eu
  obtain ⟨rfl, rfl⟩ := eu
  exact ⟨a1, a2⟩
theorem c_Mode1 {h : GH} {sv : Value} {p : List Int} {N : List (List Rat)} {m : Nat} (hP : Pr p) (s : ScAt h sv p N) (so : ScOk p N) (ok : MoOk p N) (hm : m < N.length) :
    ∃ r h', GCalls Tryz.prog gE 41 #[sv, .int .i64 m] h r h' ∧ h.le h' ∧ ∃ g1 o1 c1 g2 o2 c2, r = .tuple #[.agg #[.slice (some ⟨g1, o1, none⟩) p.length c1, .slice (some ⟨g2, o2, none⟩) N.length c2], .int .i64 0] ∧ ScAt h' (.agg #[.slice (some ⟨g1, o1, none⟩) p.length c1, .slice (some ⟨g2, o2, none⟩) N.length c2]) p (modeL N m) := by
  obtain ⟨r, h', k1, k2, k3⟩ := c_Mode (m : Int) hP s so ok
  rcases k3 with ⟨k4, _⟩ | ⟨_, _, tv, rfl, k5⟩
  · omega
  · rw [Int.toNat_natCast] at k5
    obtain ⟨a1, a2, a3, a4, a5, a6, rfl, _, _⟩ := k5.form
    rw [modeL_len] at k1 k5
    exact ⟨_, h', k1, k2, a1, a2, a3, a4, a5, a6, rfl, k5⟩
theorem Sc.step_note {p : List Int} {D : Nat} {L N : List (List Rat)} (hP : Pr p) (s : Sc p D L N) {i : Nat} (hi : i < N.length) : stepL N i = subL (noteL N (i + 1)) (noteL N i) := by
  unfold stepL
  rw [s.note_N hP hi]
  split
  · rename_i h0
    subst h0
    rw [s.note0 hP, subL_zero (s.nd _ (s.at_mem hi).2).len]
  · rename_i h0
    have := s.note_N hP (show i - 1 < N.length by omega)
    rw [show i - 1 + 1 = i by omega] at this
    rw [this]
theorem Sc.add_step {p : List Int} {D : Nat} {L N : List (List Rat)} (hP : Pr p) (s : Sc p D L N) {i : Nat} (hi : i < N.length) : addL (noteL N i) (stepL N i) = noteL N (i + 1) := by
  rw [s.step_note hP hi]
  have e1 : (noteL N i).length = (noteL N (i + 1)).length := by rw [s.note_len hP, s.note_len hP]
  have e2 := subL_length (noteL N (i + 1)) (noteL N i) e1
  refine at_ext (by rw [addL_length _ _ (by rw [e2, e1]), e1]) fun j => ?_
  rw [at_add (by rw [e2, e1]), at_sub e1]
  grind
theorem Sc.step_good {p : List Int} {D : Nat} {L N : List (List Rat)} (hP : Pr p) (F : Fam p D L) (s : Sc p D L N) {i : Nat} (hi : i < N.length) : Good p D (stepL N i) ∧ sgn p (stepL N i) = 1 := by
  rw [s.step_note hP hi]
  have g := Nd.good F (s.note_nd8 hP F (n := i + 1) (by omega)) (s.note_nd8 hP F (n := i) (by omega))
  refine ⟨g, g.vl_pos hP ?_⟩
  rw [vl_sub (by rw [s.note_len hP, s.note_len hP])]
  have := s.note_lt hP i
  grind
theorem Sc.step_ti {p : List Int} {D : Nat} {L N : List (List Rat)} (hP : Pr p) (F : Fam p D L) (s : Sc p D L N) {i : Nat} (hi : i < N.length) : ∀ q ∈ stepL N i, Ti q := by
  have hD := F.pos
  have hD2 := F.le
  intro q hq
  have hb : Bd D 11800 q := by
    refine bd_mem (fun j => ?_) q hq
    rw [s.step_note hP hi, at_sub (by rw [s.note_len hP, s.note_len hP])]
    exact ((s.note_b hP F (by omega) j).sub hD (s.note_b hP F (by omega) j))
  exact ⟨by have := hb.num hD; omega, by have := hb.den_le hD; omega⟩
theorem c_lawTurns {h : GH} {b : Bool} {kd nm : Nat} {xs : List Int} {x y : Nat} (hw : WOk kd nm xs) (hx : x < 256) (hy : y < 256) :
    ∃ r h', GCalls Tryz.prog gE 9 #[wV b kd nm xs, .int .u8 x, .int .u8 y] h r h' ∧ h.le h' ∧ r = .bool true := by
  have hcl := wCells_length (b := b) (kd := kd) (nm := nm) hw.len
  obtain ⟨H, hH⟩ : ∃ H, h.alloc ⟨wCells b kd nm xs, true, false⟩ = H := ⟨_, rfl⟩
  have hle0 : h.le H := by rw [← hH]; exact GH.le_alloc _ _
  have hwl : ∀ {h'}, H.le h' → h'.load h.n 0 27 = some (wCells b kd nm xs) := fun hl => world_load hw.len (by rw [hH]; exact hl)
  refine gcalls_in (pl := pl9) [.tmp 6] mixed Tryz.func9 rfl rfl (by exact ok9) ?_
  simp only [go_sem, ↓reduceIte, wV, wCells_one, hH]
  refine callK_intro (c_known) ?_
  rintro _ h1 ⟨hle1, rfl⟩
  have w1 := hwl hle1
  simp only [go_sem, Nat.reduceBEq, w1]
  refine callK_intro (c_Make' hw.kd hw.nm hw.len hw.bd) ?_
  rintro sv h2 ⟨hle2, N, D, L, F, sc, _, hs⟩
  obtain ⟨g, o, c, g2, o2, c2, rfl, hp, hn⟩ := hs.form
  have hP := prW_pr b
  have hpl := hP.len
  have hk := sc.len
  have so := sc.scOk hP F
  have ok := sc.mo hP F
  have hne : ∀ a ∈ N, a ≠ [] := fun a ha => by rw [← List.length_pos_iff, ok.len a ha]; omega
  have hNne : N ≠ [] := by rw [← List.length_pos_iff]; exact hk.1
  obtain ⟨G, hG⟩ : ∃ G, h2.alloc ⟨[.slice (some ⟨g, o, none⟩) (prW b).length c, .slice (some ⟨g2, o2, none⟩) N.length c2], true, false⟩ = G := ⟨_, rfl⟩
  have dG : Duo G h2.n (.slice (some ⟨g, o, none⟩) (prW b).length c) (.slice (some ⟨g2, o2, none⟩) N.length c2) := by rw [← hG]; exact Duo.new _ _ _
  have hleG : h2.le G := by rw [← hG]; exact GH.le_alloc _ _
  have sG := hs.mono hleG
  have hk0 : ¬ ((N.length : Int) = 0) := by omega
  have wx : IntKind.i64.wrap (x : Int) = x := wrap_i64 (by omega) (by omega)
  have wy : IntKind.i64.wrap (y : Int) = y := wrap_i64 (by omega) (by omega)
  have wxm : IntKind.i64.wrap ((x % N.length : Nat) : Int) = ((x % N.length : Nat) : Int) := by have := Nat.mod_lt x hk.1; exact wrap_i64 (by omega) (by omega)
  have wym : IntKind.i64.wrap ((y % N.length : Nat) : Int) = ((y % N.length : Nat) : Int) := by have := Nat.mod_lt y hk.1; exact wrap_i64 (by omega) (by omega)
  simp only [go_sem, Nat.reduceBEq, Nat.reduceAdd, Array.reduceGetElem?, ↓reduceIte, alloc_store2s (h := h2) (a := .slice none 0 0) (b := .slice none 0 0) (v := .slice (some ⟨g, o, none⟩) (prW b).length c) (w := .slice (some ⟨g2, o2, none⟩) N.length c2) rfl rfl, hG, dG.l1, dG.l2, wx, wy, hk0, tmod_nat, pl9]
  obtain ⟨m, hm⟩ : ∃ m, x % N.length = m := ⟨_, rfl⟩
  obtain ⟨n, hn'⟩ : ∃ n, y % N.length = n := ⟨_, rfl⟩
  have hmk : m < N.length := by rw [← hm]; exact Nat.mod_lt _ hk.1
  have hnk : n < N.length := by rw [← hn']; exact Nat.mod_lt _ hk.1
  rw [hm]
  refine callK_intro (c_Mode1 hP sG so ok hmk) ?_
  rintro _ h3 ⟨hle3, x1, x2, x3, x4, x5, x6, rfl, hx3⟩
  obtain ⟨G3, hG3⟩ : ∃ G, h3.alloc ⟨[.slice (some ⟨x1, x2, none⟩) (prW b).length x3, .slice (some ⟨x4, x5, none⟩) N.length x6], true, false⟩ = G := ⟨_, rfl⟩
  have dX : Duo G3 h3.n (.slice (some ⟨x1, x2, none⟩) (prW b).length x3) (.slice (some ⟨x4, x5, none⟩) N.length x6) := by rw [← hG3]; exact Duo.new _ _ _
  have hleG3 : h3.le G3 := by rw [← hG3]; exact GH.le_alloc _ _
  have dG3 := (dG.mono hle3).mono hleG3
  simp only [go_sem, Nat.reduceBEq, Nat.reduceAdd, Array.reduceGetElem?, ↓reduceIte, alloc_store2s (h := h3) (a := .slice none 0 0) (b := .slice none 0 0) (v := .slice (some ⟨x1, x2, none⟩) (prW b).length x3) (w := .slice (some ⟨x4, x5, none⟩) N.length x6) rfl rfl, hG3, dX.l2, hn']
  have mk1 : modeL (modeL N m) n = modeL N ((m + n) % N.length) := sc.mode_mode hP m n
  have hM2 := c_Mode1 (m := n) hP (hx3.mono hleG3) (sc.mode_scOk hP F (by omega)) (sc.mode_mo hP F (by omega)) (by rw [modeL_len]; exact hnk)
  rw [modeL_len, mk1] at hM2
  refine callK_intro hM2 ?_
  rintro _ h4 ⟨hle4, y1, y2, y3, y4, y5, y6, rfl, hy4⟩
  obtain ⟨G4, hG4⟩ : ∃ G, h4.alloc ⟨[.slice (some ⟨y1, y2, none⟩) (prW b).length y3, .slice (some ⟨y4, y5, none⟩) N.length y6], true, false⟩ = G := ⟨_, rfl⟩
  have dY : Duo G4 h4.n (.slice (some ⟨y1, y2, none⟩) (prW b).length y3) (.slice (some ⟨y4, y5, none⟩) N.length y6) := by rw [← hG4]; exact Duo.new _ _ _
  have hleG4 : h4.le G4 := by rw [← hG4]; exact GH.le_alloc _ _
  have dG4 := (dG3.mono hle4).mono hleG4
  have hleGG4 : G.le G4 := ((hle3.trans hleG3).trans hle4).trans hleG4
  have wmn : IntKind.i64.wrap ((m : Int) + (n : Int)) = ((m + n : Nat) : Int) := by rw [wrap_i64 (by omega) (by omega)]; omega
  have hmn := Nat.mod_lt (m + n) hk.1
  have wmr : IntKind.i64.wrap (((m + n) % N.length : Nat) : Int) = (((m + n) % N.length : Nat) : Int) := wrap_i64 (by omega) (by omega)
  simp only [go_sem, Nat.reduceBEq, Nat.reduceAdd, Array.reduceGetElem?, ↓reduceIte, alloc_store2s (h := h4) (a := .slice none 0 0) (b := .slice none 0 0) (v := .slice (some ⟨y1, y2, none⟩) (prW b).length y3) (w := .slice (some ⟨y4, y5, none⟩) N.length y6) rfl rfl, hG4, dG4.l2, hn', wmn, hk0, tmod_nat, pl9]
  obtain ⟨K, hK⟩ : ∃ K, G4.alloc ⟨[.slice none 0 0, .slice none 0 0], true, false⟩ = K := ⟨_, rfl⟩
  have dK : Duo K G4.n (.slice none 0 0) (.slice none 0 0) := by rw [← hK]; exact Duo.new _ _ _
  have hleK : G4.le K := by rw [← hK]; exact GH.le_alloc _ _
  rw [hK]
  refine callK_intro (c_Mode1 hP (sG.mono (hleGG4.trans hleK)) so ok hmn) ?_
  rintro _ h5 ⟨hle5, z1, z2, z3, z4, z5, z6, rfl, hz5⟩
  have dK5 := dK.mono hle5
  have stZ := dK5.s2 (v := .slice (some ⟨z1, z2, none⟩) (prW b).length z3) (w := .slice (some ⟨z4, z5, none⟩) N.length z6) rfl rfl
  have hmne : ∀ t, ∀ a ∈ modeL N t, a ≠ [] := fun t a ha => ok.ne hP t N.length a (by rw [List.take_of_length_le (by rw [modeL_len]; exact Nat.le_refl _)]; exact ha)
  have hmnn : ∀ t, modeL N t ≠ [] := fun t => by rw [← List.length_pos_iff, modeL_len]; exact hk.1
  obtain ⟨h5', hh5⟩ : ∃ h', h5.upd G4.n ⟨[.slice (some ⟨z1, z2, none⟩) (prW b).length z3, .slice (some ⟨z4, z5, none⟩) N.length z6], true, false⟩ = h' := ⟨_, rfl⟩
  have dZ : Duo h5' G4.n (.slice (some ⟨z1, z2, none⟩) (prW b).length z3) (.slice (some ⟨z4, z5, none⟩) N.length z6) := by rw [← hh5]; exact Duo.up dK5.lt
  have hle45 : G4.le h5' := by rw [← hh5]; exact (hleK.trans hle5).upd (Nat.le_refl _) _
  have sZ : ScAt h5' (.agg #[.slice (some ⟨z1, z2, none⟩) (prW b).length z3, .slice (some ⟨z4, z5, none⟩) N.length z6]) (prW b) (modeL N ((m + n) % N.length)) := by
    rw [← hh5]
    exact hz5.upd dK5 hP.ne (hmnn _) (hmne _)
  have dG5 := dG4.mono hle45
  have sG5 := sG.mono (hleGG4.trans hle45)
  have dG5' := (dG4.mono hleK).mono hle5
  simp only [go_sem, Nat.reduceBEq, Nat.reduceAdd, Array.reduceGetElem?, ↓reduceIte, hn', stZ, hh5, dG5.l2]
  refine callK_intro (c_Steps hP sG5 so (fun i hi => sc.steps_sm F i hi)) ?_
  rintro _ h6 ⟨hle6, lv, rfl, hlv⟩
  obtain ⟨lg, lo, lc', lvs, rfl, lq⟩ := id hlv
  have dG6 := dG5.mono hle6
  have sG6 := sG5.mono hle6
  have hsl : (stepsL N).length = N.length := by simp [stepsL]
  obtain ⟨q1, q2⟩ := sG6.parts
  have hlast : N[N.length - 1]? = some (oct (prW b).length) := sc.last
  obtain ⟨_, pv, hpl1, hps, hp1⟩ := q2.get hlast
  have wl : IntKind.i64.wrap ((N.length : Int) - 1) = ((N.length - 1 : Nat) : Int) := by rw [wrap_i64 (by omega) (by omega)]; omega
  have hll : ((N.length - 1 : Nat) : Int) < N.length := by omega
  simp only [go_sem, Nat.reduceBEq, Array.reduceGetElem?, ↓reduceIte, dG6.l0, dG6.l1, wl, hll, hpl1, pl9]
  obtain ⟨K2, hK2⟩ : ∃ K, h6.alloc ⟨[.slice none 0 0, .slice none 0 0], true, false⟩ = K := ⟨_, rfl⟩
  have dK2 : Duo K2 h6.n (.slice none 0 0) (.slice none 0 0) := by rw [← hK2]; exact Duo.new _ _ _
  have hleK2 : h6.le K2 := by rw [← hK2]; exact GH.le_alloc _ _
  rw [hK2]
  refine callK_intro (c_scOfN hP F sc (q1.mono hleK2) (hps.mono hleK2) (q2.mono hleK2)) ?_
  rintro _ h7 ⟨hle7, tv, rfl, ht7⟩
  obtain ⟨t1, t2, t3, t4, t5, t6, rfl, _, _⟩ := ht7.form
  have dK7 := dK2.mono hle7
  have stT := dK7.s2 (v := .slice (some ⟨t1, t2, none⟩) (prW b).length t3) (w := .slice (some ⟨t4, t5, none⟩) N.length t6) rfl rfl
  obtain ⟨h7', hh7⟩ : ∃ h', h7.upd h6.n ⟨[.slice (some ⟨t1, t2, none⟩) (prW b).length t3, .slice (some ⟨t4, t5, none⟩) N.length t6], true, false⟩ = h' := ⟨_, rfl⟩
  have dT : Duo h7' h6.n (.slice (some ⟨t1, t2, none⟩) (prW b).length t3) (.slice (some ⟨t4, t5, none⟩) N.length t6) := by rw [← hh7]; exact Duo.up dK7.lt
  have hle67 : h6.le h7' := by rw [← hh7]; exact (hleK2.trans hle7).upd (Nat.le_refl _) _
  have sT : ScAt h7' (.agg #[.slice (some ⟨t1, t2, none⟩) (prW b).length t3, .slice (some ⟨t4, t5, none⟩) N.length t6]) (prW b) N := by
    rw [← hh7]
    exact ht7.upd dK7 hP.ne hNne hne
  have dG7a := (dG6.mono hleK2).mono hle7
  have hpl7 := load_mono (hleK2.trans hle7) hpl1
  simp only [go_sem, Nat.reduceBEq, Nat.reduceAdd, Array.reduceGetElem?, ↓reduceIte, stT, hh7]
  have hall : ∀ {h'}, h7'.le h' → Duo h' h2.n (.slice (some ⟨g, o, none⟩) (prW b).length c) (.slice (some ⟨g2, o2, none⟩) N.length c2) := fun hl => (dG6.mono hle67).mono hl
  refine loopK_inv (α := Nat) (fun i => N.length - i) (fun i ts g' => ts 7 = .pointer (some ⟨h2.n, 0, none⟩) ∧ ts 8 = .int .i64 N.length ∧ ts 12 = .int .i64 0 ∧ ts 13 = .pointer (some ⟨h4.n, 0, none⟩) ∧ ts 14 = .int .i64 0 ∧ ts 15 = .pointer (some ⟨G4.n, 0, none⟩) ∧ ts 16 = .int .i64 0 ∧ ts 17 = .slice (some ⟨lg, lo, none⟩) (stepsL N).length lc' ∧ ts 18 = .int .i64 0 ∧ ts 19 = .pointer (some ⟨h6.n, 0, none⟩) ∧ ts 20 = .int .i64 0 ∧ ts 84 = .int .i64 N.length ∧ ts 85 = .int .i64 i ∧ i ≤ N.length ∧ h7'.le g' ∧ ∃ o', Own h7' g' (ts 21) 1 (ints (rng i)) o') ?_ (a0 := 0) ?_
  · rintro i ts g' ⟨a7, a8, a12, a13, a14, a15, a16, a17, a18, a19, a20, a84, a85, hi, hle', o', w⟩
    simp only [go_sem, a84, a85]
    refine ifK_intro (fun c1 => ?_) (fun c1 => ?_)
    · have c1' := of_decide_eq_true c1
      have wi : IntKind.i64.wrap ((i : Int) + 1) = ((i + 1 : Nat) : Int) := wrap_i64 (by omega) (by omega)
      obtain ⟨v', h', o2', e1, e2, e3⟩ := w.appI hle' (by rw [rng_len]; omega) (i : Int)
      simp only [go_sem, Nat.reduceBEq, Nat.reduceLeDiff, Nat.reduceLT, ↓reduceIte, a7, a8, a12, a13, a14, a15, a16, a17, a18, a19, a20, a84, a85, e1, wi]
      exact ⟨i + 1, by omega, rfl, by omega, e2, o2', by rw [rng_succ]; exact e3⟩
    · have c1' := of_decide_eq_false c1
      obtain rfl : i = N.length := by omega
      have hIn : InAt g' (ts 21) (rng N.length) := by
        rcases w with ⟨_, w2, _⟩ | ⟨wg, _, w2, w3, w4, w5, w6⟩
        · have : (rng N.length).length = 0 := by rw [← ints_length, w2]; rfl
          rw [rng_len] at this
          omega
        · rw [ints_length] at w2
          exact ⟨_, unk + 1, w2, fun _ => ⟨wg, 0, rfl, row_at w4 w5 (ints_one _) ⟨by rw [ints_length, rng_len]; simp only [unk]; omega, fun _ => .inr rfl⟩⟩⟩
      have d8 := hall hle'
      have s8 := ((sG6.mono hle67).mono hle')
      simp only [go_sem, Nat.reduceBEq, a7, c1, d8.l2]
      refine callK_intro (c_scSubset hP F sc s8 hIn (by rw [rng_len]; omega)) ?_
      rintro rr h9 ⟨hle9, hr9⟩
      have e9 := errOf_rng hk.1
      rcases hr9 with ⟨e1, _⟩ | ⟨_, uv, rfl, hu9⟩
      · exact absurd e9 e1
      rw [subN_rng hP sc] at hu9
      obtain ⟨u1, u2, u3, u4, u5, u6, rfl, _, _⟩ := hu9.form
      obtain ⟨G9, hG9⟩ : ∃ G, h9.alloc ⟨[.slice (some ⟨u1, u2, none⟩) (prW b).length u3, .slice (some ⟨u4, u5, none⟩) N.length u6], true, false⟩ = G := ⟨_, rfl⟩
      have dU : Duo G9 h9.n (.slice (some ⟨u1, u2, none⟩) (prW b).length u3) (.slice (some ⟨u4, u5, none⟩) N.length u6) := by rw [← hG9]; exact Duo.new _ _ _
      have hleG9 : h9.le G9 := by rw [← hG9]; exact GH.le_alloc _ _
      have hle79 := (hle'.trans hle9).trans hleG9
      have dY9 := (((dY.mono hle45).mono hle6).mono hle67).mono hle79
      have dZ9 := ((dZ.mono hle6).mono hle67).mono hle79
      have sY9 := ((((hy4.mono hleG4).mono hle45).mono hle6).mono hle67).mono hle79
      have sZ9 := ((sZ.mono hle6).mono hle67).mono hle79
      simp only [go_sem, Nat.reduceBEq, Nat.reduceAdd, Int.reduceNe, Array.reduceGetElem?, ↓reduceIte, a12, a13, a14, a15, a16, a18, a20, alloc_store2s (h := h9) (a := .slice none 0 0) (b := .slice none 0 0) (v := .slice (some ⟨u1, u2, none⟩) (prW b).length u3) (w := .slice (some ⟨u4, u5, none⟩) N.length u6) rfl rfl, hG9, dY9.l2, dZ9.l2]
      have ltm : ∀ t, ∀ l ∈ modeL N t, l.length ≤ 1000 := by
        intro t l hl
        obtain ⟨u, _, rfl⟩ := List.mem_map.1 hl
        rw [subL_length _ _ (by rw [ok.nl, ok.nl]), ok.nl]
        omega
      have ltn : ∀ l ∈ N, l.length ≤ 1000 := fun l hl => by rw [ok.len l hl]; omega
      refine callK_intro (c_same sY9.parts.1 sZ9.parts.1 (.inl sY9.parts.2) (.inl sZ9.parts.2) rfl rfl (by omega) (by rw [modeL_len]; omega) (ltm _)) ?_
      rintro _ h10 ⟨hle10, rfl⟩
      have bb : (decide (prW b = prW b) && decide (modeL N ((m + n) % N.length) = modeL N ((m + n) % N.length))) = true := by simp
      have dT10 := (dT.mono hle79).mono hle10
      have sT10 := (sT.mono hle79).mono hle10
      have d10 := hall (hle79.trans hle10)
      have s10 := (sG6.mono hle67).mono (hle79.trans hle10)
      simp only [go_sem, Nat.reduceBEq, Array.reduceGetElem?, ↓reduceIte, a7, a19, dT10.l2, d10.l2]
      refine callK_intro (c_same sT10.parts.1 s10.parts.1 (.inl sT10.parts.2) (.inl s10.parts.2) rfl rfl (by omega) (by omega) ltn) ?_
      rintro _ h11 ⟨hle11, rfl⟩
      have b2 : (decide (prW b = prW b) && decide (N = N)) = true := by simp
      have hleX := (hle79.trans hle10).trans hle11
      have dU11 := (dU.mono hle10).mono hle11
      have sU11 := ((hu9.mono hleG9).mono hle10).mono hle11
      have d11 := hall hleX
      have s11 := (sG6.mono hle67).mono hleX
      simp only [go_sem, Nat.reduceBEq, Array.reduceGetElem?, ↓reduceIte, a7, dU11.l2, d11.l2]
      refine callK_intro (c_same sU11.parts.1 s11.parts.1 (.inl sU11.parts.2) (.inl s11.parts.2) rfl rfl (by omega) (by omega) ltn) ?_
      rintro _ h12 ⟨hle12, rfl⟩
      have hleY := hleX.trans hle12
      have d12 := hall hleY
      have s12 := (sG6.mono hle67).mono hleY
      obtain ⟨m01, m02⟩ := sc.at_mem hk.1
      obtain ⟨n0, hn0⟩ : ∃ n0, N[0]?.getD [] = n0 := ⟨_, rfl⟩
      rw [hn0] at m01 m02
      obtain ⟨_, fv, hf1, hfs, _⟩ := s12.parts.2.get m01
      have k0 : (0 : Int) < N.length := by omega
      rw [Nat.add_zero] at hf1
      simp only [go_sem, Nat.reduceBEq, Int.reduceLE, Int.reduceToNat, Array.reduceGetElem?, ↓reduceIte, a7, d12.l1, k0, hf1, pl9]
      have nd0 := sc.nd _ m02
      refine callK_intro (c_less hfs hfs (hne _ m02) (by rw [nd0.len]; omega) rfl (nd0.ti F) (nd0.ti F) (Nd.good F nd0 nd0).fit.sm) ?_
      rintro zv h13 ⟨hle13, hz⟩
      have ez : subL n0 n0 = noteL N 0 := by rw [subL_self, nd0.len, sc.note0 hP]; rfl
      rw [ez] at hz
      have hleZ := hleY.trans hle13
      simp only [go_sem, Nat.reduceBEq, Array.reduceGetElem?, a17]
      refine loopK_inv (α := Nat) (fun i => N.length - i) (fun i ts g' => ts 7 = .pointer (some ⟨h2.n, 0, none⟩) ∧ ts 8 = .int .i64 N.length ∧ ts 148 = .slice (some ⟨lg, lo, none⟩) (stepsL N).length lc' ∧ ts 149 = .int .i64 (stepsL N).length ∧ ts 150 = .int .i64 i ∧ i ≤ N.length ∧ h7'.le g' ∧ SzAt g' (ts 25) (noteL N i)) ?_ (a0 := 0) ?_
      · rintro i ts g' ⟨b7, b8, b148, b149, b150, hi, hlg, hsz⟩
        simp only [go_sem, b149, b150]
        refine ifK_intro (fun c1 => ?_) (fun c1 => ?_)
        · have c1' := of_decide_eq_true c1
          rw [hsl] at c1'
          have hi' : i < N.length := by omega
          have wi : IntKind.i64.wrap ((i : Int) + 1) = ((i + 1 : Nat) : Int) := wrap_i64 (by omega) (by omega)
          have hgi : (stepsL N)[i]? = some (stepL N i) := by rw [stepsL, List.getElem?_map, List.getElem?_range hi']; rfl
          obtain ⟨_, iv, hi1, his, hi2⟩ := ((hlv.mono hle67).mono hlg).get hgi
          have dd := hall hlg
          have ss := (sG6.mono hle67).mono hlg
          obtain ⟨sg1, sg2⟩ := sc.step_good hP F hi'
          have nn : ¬ ((1 : Int) ≤ 0) := by decide
          have cL : (i : Int) < ((stepsL N).length : Nat) := by rw [hsl]; omega
          simp only [go_sem, Nat.reduceBEq, ↓reduceIte, b7, b148, b150, cL, hi1, dd.l0]
          refine callK_intro (c_lSign hP ss.parts.1 his (sg1.fit.mono (by decide)) (sg1.dec hP)) ?_
          rintro _ h14 ⟨hle14, rfl⟩
          simp only [go_sem, Nat.reduceBEq, sg2, nn]
          have ndi := sc.note_nd8 hP F (n := i) (by omega)
          have eln : (stepL N i).length = (noteL N i).length := by rw [sg1.len, ndi.len]
          refine callK_intro (c_lAdd (hsz.mono hle14) (his.mono hle14) (by rw [← List.length_pos_iff, ndi.len]; omega) (by rw [ndi.len]; omega) eln (ndi.ti F) (sc.step_ti hP F hi') (by rw [sc.add_step hP hi']; exact (sc.note_nd8 hP F (n := i + 1) (by omega)).sm F)) ?_
          rintro av h15 ⟨hle15, ha⟩
          rw [sc.add_step hP hi'] at ha
          simp only [go_sem, Nat.reduceBEq, b7, b8, b148, b149, b150, wi]
          exact ⟨i + 1, by omega, rfl, by omega, (hlg.trans hle14).trans hle15, ha.at⟩
        · have c1' := of_decide_eq_false c1
          rw [hsl] at c1'
          obtain rfl : i = N.length := by omega
          have dd := hall hlg
          have ss := (sG6.mono hle67).mono hlg
          obtain ⟨_, ev, he1, hes, _⟩ := ss.parts.2.get hlast
          simp only [go_sem, Nat.reduceBEq, ↓reduceIte, b7, b8, c1, dd.l1, wl, hll, he1]
          have ep : noteL N N.length = oct (prW b).length := by
            have := sc.note_N hP (show N.length - 1 < N.length by omega)
            rw [show N.length - 1 + 1 = N.length by omega, hlast] at this
            exact this
          rw [ep] at hsz
          refine callK_intro (c_Equal hsz hes (by rw [oct_length (by omega)]; omega)) ?_
          rintro _ h16 ⟨hle16, rfl⟩
          simp only [go_sem]
          exact ((((((((hle0.trans hle1).trans hle2).trans hleG).trans hleGG4).trans hle45).trans hle6).trans hle67).trans hlg).trans hle16
      · simp only [go_sem, Nat.reduceBEq, a7, a8]
        exact ⟨Nat.zero_le _, hleZ, hz.at⟩
  · simp only [go_sem, Nat.reduceBEq]
    exact ⟨Nat.zero_le _, GH.le.refl _, none, Own.nil _ _ _⟩
end Go.Proofs.Gh
namespace Go.Proofs.Zz
/-- the first number at most 128, the second at most 64, times a number up to 9 -/
def rectK : Bool := allN (fun k => Nat.beq k 0 || allN (fun b => allN (fun c => (Nat.beq b 0 && Nat.beq c 0) || (chkP (b * k) (2 * c * k) && chkN (b * k) (2 * c * k))) 65) 129) 10
theorem rectK_ok : rectK = true := by decide +kernel
theorem fine_rectK {b c : Int} {k : Nat} (hk : 0 < k) (hk2 : k ≤ 9) (hb : b.natAbs ≤ 128) (hc : c.natAbs ≤ 64) (h : ¬ (b = 0 ∧ c = 0)) : Fine (b * k) (2 * c * k) := by
  have key : ∀ (b : Nat) (c : Int), b ≤ 128 → c.natAbs ≤ 64 → ¬ (b = 0 ∧ c = 0) → Fine ((b : Int) * k) (2 * c * k) := by
    intro b c hb hc h
    have h0 := allN_at rectK_ok (i := k) (by omega)
    rw [Bool.or_eq_true] at h0
    rcases h0 with h0 | h0
    · have := Nat.eq_of_beq_eq_true h0
      omega
    have h1 := allN_at (allN_at h0 (i := b) (by omega)) (i := c.natAbs) (by omega)
    rw [Bool.or_eq_true, Bool.and_eq_true, Bool.and_eq_true] at h1
    rcases h1 with h1 | h1
    · have e1 := Nat.eq_of_beq_eq_true h1.1
      have e2 := Nat.eq_of_beq_eq_true h1.2
      omega
    · have hm : 2 * c.natAbs * k ≤ 2 * 64 * 9 := Nat.mul_le_mul (by omega) hk2
      rcases Int.lt_or_le c 0 with hn | hn
      · have := fine_N (by omega) h1.2
        rwa [show -((2 * c.natAbs * k : Nat) : Int) = 2 * c * k by rw [Int.natCast_mul, ← Int.neg_mul]; congr 1; omega, Int.natCast_mul] at this
      · have := fine_P h1.1
        rwa [show ((2 * c.natAbs * k : Nat) : Int) = 2 * c * k by rw [Int.natCast_mul]; congr 1; omega, Int.natCast_mul] at this
  rcases Int.lt_or_le b 0 with hn | hn
  · have := (key b.natAbs (-c) (by omega) (by omega) (by omega)).neg
    rwa [← Int.neg_mul, ← Int.neg_mul, show -(b.natAbs : Int) = b by omega, show -(2 * -c) = 2 * c by omega] at this
  · have := key b.natAbs c (by omega) hc (by omega)
    rwa [show (b.natAbs : Int) = b by omega] at this
end Go.Proofs.Zz
namespace Go.Proofs.Gh
open Go Go.Proofs Go.Proofs.Zz
set_option maxRecDepth 10000
/-! two described scales: one family for both -/
def FltS (n m : Nat) (x : List Rat) : Prop := x.length = n ∧ (∃ z : Int, z.natAbs ≤ 9 ∧ at' x 0 = mkRat z m) ∧ ∀ i, 0 < i → at' x i = 0
theorem FltS.flt {n m q : Nat} {x : List Rat} (h : FltS n m x) (hq : 0 < q) (hq2 : q ≤ 9) : Flt n (m * q) x := by
  obtain ⟨h1, ⟨z, h2, h3⟩, h4⟩ := h
  refine ⟨h1, ⟨z * q, ?_, ?_⟩, h4⟩
  · rw [h3, mkRat_up (n := q) hq]
  · rw [Int.natAbs_mul]
    exact Nat.le_trans (Nat.mul_le_mul h2 (show (q : Int).natAbs ≤ 9 by omega)) (by decide)
theorem equal_fltS {n m i : Nat} (hn : 0 < n) (hm : m ≤ 9) (hi : i < m) : FltS n m (scaleL (scaleL (oct n) (mkRat 1 m)) (((1 + (i : Int) : Int) : Rat))) := by
  refine ⟨by rw [scaleL_length, scaleL_length, oct_length hn], ⟨1 + i, by omega, ?_⟩, fun j hj => ?_⟩
  · rw [at_scale, at_scale, at_oct hn, if_pos rfl, Rat.one_mul, int_mk, Rat.mkRat_mul_mkRat, Int.one_mul, Nat.mul_one]
  · rw [at_scale, at_scale, at_oct hn, if_neg (by omega), Rat.zero_mul, Rat.zero_mul]
/-- two sizes of one list of whole and half numbers -/
def FrmP (n : Nat) (x y : List Rat) : Prop := ∃ b c b' c' : Int, Frm n x b c ∧ Frm n y b' c' ∧ (b - b').natAbs ≤ 128 ∧ (c - c').natAbs ≤ 64
theorem wList_pair (b : Bool) (kd nm : Nat) (xs : List Int) :
    (kd % 3 = 0 ∧ ∀ x ∈ wList b kd nm xs, FltS (prW b).length (1 + nm % 9) x) ∨ (¬ kd % 3 = 0 ∧ ∀ x ∈ wList b kd nm xs, ∀ y ∈ wList b kd nm xs, FrmP (prW b).length x y) := by
  have hp := prW_len b
  by_cases h0 : kd % 3 = 0
  · refine .inl ⟨h0, fun x hx => ?_⟩
    rw [wList, if_pos h0] at hx
    obtain ⟨i, hi, rfl⟩ := List.mem_map.1 hx
    rw [List.mem_range] at hi
    exact equal_fltS (by omega) (by omega) hi
  · refine .inr ⟨h0, fun x hx y hy => ?_⟩
    rw [wList, if_neg h0] at hx hy
    split at hx
    · rename_i h1
      rw [if_pos h1] at hy
      obtain ⟨i, hi, rfl⟩ := List.mem_map.1 hx
      obtain ⟨j, hj, rfl⟩ := List.mem_map.1 hy
      rw [List.mem_range] at hi hj
      obtain ⟨β, γ, k1, k2, k3, k4, k5, k6, k7⟩ := sz_frm hp (x := xs[3 * 0]?.getD 0) (y := xs[3 * 0 + 1]?.getD 0) (z := xs[3 * 0 + 2]?.getD 0)
      refine ⟨_, _, _, _, chain_frm hp.2 (by omega) k1 k2 k3 k4 k5 k6 k7, chain_frm hp.2 (by omega) k1 k2 k3 k4 k5 k6 k7, ?_, ?_⟩
      · rw [← Int.mul_sub, Int.natAbs_mul]
        exact Nat.le_trans (Nat.mul_le_mul (show β.natAbs ≤ 16 by omega) (show ((i : Int) - j).natAbs ≤ 8 by omega)) (by decide)
      · rw [← Int.mul_sub, Int.natAbs_mul]
        exact Nat.le_trans (Nat.mul_le_mul k7 (show ((i : Int) - j).natAbs ≤ 8 by omega)) (by decide)
    · rename_i h1
      rw [if_neg h1] at hy
      obtain ⟨i, hi, rfl⟩ := List.mem_map.1 hx
      obtain ⟨j, hj, rfl⟩ := List.mem_map.1 hy
      obtain ⟨β, γ, k1, k2, k3, ⟨a, k4, k5⟩, k6, k7, k8⟩ := sz_frm hp (x := xs[3 * i]?.getD 0) (y := xs[3 * i + 1]?.getD 0) (z := xs[3 * i + 2]?.getD 0)
      obtain ⟨β', γ', l1, l2, l3, ⟨a', l4, l5⟩, l6, l7, l8⟩ := sz_frm hp (x := xs[3 * j]?.getD 0) (y := xs[3 * j + 1]?.getD 0) (z := xs[3 * j + 2]?.getD 0)
      exact ⟨β, γ, β', γ', ⟨k1, k2, k3, ⟨a, by omega, k5⟩, by omega, by omega, by omega, hp.2⟩, ⟨l1, l2, l3, ⟨a', by omega, l5⟩, by omega, by omega, by omega, hp.2⟩, by omega, by omega⟩
/-- the two numbers of a pair, over twice k -/
def Cp (k : Nat) (x y : List Rat) : Prop := ∃ b c b' c' : Int, (cf (2 * k) x 1 = b * k ∧ cf (2 * k) x 2 = 2 * c * k) ∧ (cf (2 * k) y 1 = b' * k ∧ cf (2 * k) y 2 = 2 * c' * k) ∧ (b - b').natAbs ≤ 128 ∧ (c - c').natAbs ≤ 64
theorem Cp.fine {k : Nat} {x y : List Rat} (h : Cp k x y) (hk : 0 < k) (hk2 : k ≤ 9) : (cf (2 * k) x 1 = cf (2 * k) y 1 ∧ cf (2 * k) x 2 = cf (2 * k) y 2) ∨ Fine (cf (2 * k) x 1 - cf (2 * k) y 1) (cf (2 * k) x 2 - cf (2 * k) y 2) := by
  obtain ⟨b, c, b', c', ⟨e1, e2⟩, ⟨e3, e4⟩, h1, h2⟩ := h
  rw [e1, e2, e3, e4]
  by_cases h : b - b' = 0 ∧ c - c' = 0
  · left
    rw [show b = b' by omega, show c = c' by omega]
    exact ⟨rfl, rfl⟩
  · right
    have := fine_rectK hk hk2 h1 h2 h
    rwa [Int.sub_mul, Int.mul_sub, Int.sub_mul] at this
theorem Flt.cp {n D : Nat} {x : List Rat} (h : Flt n D x) : cf D x 1 = 0 ∧ cf D x 2 = 0 := by
  rw [cf_at, cf_at, h.2.2 1 (by decide), h.2.2 2 (by decide), ov_zero]
  exact ⟨rfl, rfl⟩
theorem famAB {p : List Int} {k : Nat} {LA LB L : List (List Rat)} (hk : 0 < k) (hk2 : k ≤ 9) (hA : ∀ x ∈ LA, Flt p.length (2 * k) x) (hB : ∀ x ∈ LB, ∀ y ∈ LB, FrmP p.length x y) (hL : ∀ x ∈ L, x = zeroL p.length ∨ x ∈ LA ∨ x ∈ LB) (hz : zeroL p.length ∈ L) : Fam p (2 * k) L := by
  have hF : ∀ x ∈ L, Flt p.length (2 * k) x ∨ x ∈ LB := by
    intro x hx
    rcases hL x hx with rfl | h | h
    · exact .inl flt_zero
    · exact .inl (hA x h)
    · exact .inr h
  have fb : ∀ x ∈ LB, ∃ b c, Frm p.length x b c := fun x hx => by
    obtain ⟨b, c, _, _, h, _⟩ := hB x hx x hx
    exact ⟨b, c, h⟩
  refine ⟨by omega, by omega, fun x hx => ?_, fun x hx i => ?_, fun x hx y hy => ?_, hz⟩
  · rcases hF x hx with h | h
    · exact h.1
    · obtain ⟨b, c, f⟩ := fb x h
      exact f.1
  · rcases hF x hx with h | h
    · rcases Nat.eq_zero_or_pos i with h0 | h0
      · rw [h0]; exact h.2.1
      · rw [h.2.2 i h0]; exact Bd.zero
    · obtain ⟨b, c, f⟩ := fb x h
      exact f.bd hk hk2 i
  · refine Cp.fine ?_ hk hk2
    rcases hF x hx with h | h
    · obtain ⟨e1, e2⟩ := h.cp
      rcases hF y hy with h' | h'
      · obtain ⟨e3, e4⟩ := h'.cp
        exact ⟨0, 0, 0, 0, ⟨by rw [e1, Int.zero_mul], by rw [e2, Int.mul_zero, Int.zero_mul]⟩, ⟨by rw [e3, Int.zero_mul], by rw [e4, Int.mul_zero, Int.zero_mul]⟩, by decide, by decide⟩
      · obtain ⟨b, c, f⟩ := fb y h'
        have g := f.cf hk
        obtain ⟨_, _, _, _, h1, h2, h3, _⟩ := f
        exact ⟨0, 0, b, c, ⟨by rw [e1, Int.zero_mul], by rw [e2, Int.mul_zero, Int.zero_mul]⟩, g, by omega, by omega⟩
    · rcases hF y hy with h' | h'
      · obtain ⟨e3, e4⟩ := h'.cp
        obtain ⟨b, c, f⟩ := fb x h
        have g := f.cf hk
        obtain ⟨_, _, _, _, h1, h2, h3, _⟩ := f
        exact ⟨b, c, 0, 0, g, ⟨by rw [e3, Int.zero_mul], by rw [e4, Int.mul_zero, Int.zero_mul]⟩, by omega, by omega⟩
      · obtain ⟨b, c, b', c', f, f', h1, h2⟩ := hB x h y h'
        exact ⟨b, c, b', c', f.cf hk, f'.cf hk, h1, h2⟩
/-- each two described scales are of one family -/
theorem world_fam2 (b : Bool) (kd nm : Nat) (xs : List Int) (kd' nm' : Nat) (xs' : List Int) : ∃ D, Fam (prW b) D (zeroL (prW b).length :: (wList b kd nm xs ++ wList b kd' nm' xs')) := by
  have hp := prW_len b
  have hm := Nat.mod_lt nm (show 0 < 9 by decide)
  have hm' := Nat.mod_lt nm' (show 0 < 9 by decide)
  have mem : ∀ x ∈ zeroL (prW b).length :: (wList b kd nm xs ++ wList b kd' nm' xs'), x = zeroL (prW b).length ∨ x ∈ wList b kd nm xs ∨ x ∈ wList b kd' nm' xs' := by
    intro x hx
    rcases List.mem_cons.1 hx with h | h
    · exact .inl h
    · exact .inr (List.mem_append.1 h)
  rcases wList_pair b kd nm xs with ⟨_, h⟩ | ⟨_, h⟩
  · rcases wList_pair b kd' nm' xs' with ⟨_, h'⟩ | ⟨_, h'⟩
    · have hle : (1 + nm % 9) * (1 + nm' % 9) ≤ 9 * 9 := Nat.mul_le_mul (by omega) (by omega)
      refine ⟨(1 + nm % 9) * (1 + nm' % 9), famE (Nat.mul_pos (by omega) (by omega)) (by omega) (fun x hx => ?_) (List.mem_cons_self ..)⟩
      rcases mem x hx with rfl | hx | hx
      · exact flt_zero
      · exact (h x hx).flt (by omega) (by omega)
      · rw [Nat.mul_comm]
        exact (h' x hx).flt (by omega) (by omega)
    · refine ⟨2 * (1 + nm % 9), famAB (LA := wList b kd nm xs) (by omega) (by omega) (fun x hx => ?_) h' mem (List.mem_cons_self ..)⟩
      rw [Nat.mul_comm]
      exact (h x hx).flt (by omega) (by omega)
  · rcases wList_pair b kd' nm' xs' with ⟨_, h'⟩ | ⟨_, h'⟩
    · refine ⟨2 * (1 + nm' % 9), famAB (LA := wList b kd' nm' xs') (by omega) (by omega) (fun x hx => ?_) h (fun x hx => ?_) (List.mem_cons_self ..)⟩
      · rw [Nat.mul_comm]
        exact (h' x hx).flt (by omega) (by omega)
      · rcases mem x hx with k | k | k
        · exact .inl k
        · exact .inr (.inr k)
        · exact .inr (.inl k)
    · refine ⟨2, famF (fun x hx => ?_) (List.mem_cons_self ..)⟩
      rcases mem x hx with rfl | hx | hx
      · exact ⟨0, 0, frm_zero hp.2⟩
      · obtain ⟨β, γ, _, _, f, _⟩ := h x hx x hx
        exact ⟨β, γ, f⟩
      · obtain ⟨β, γ, _, _, f, _⟩ := h' x hx x hx
        exact ⟨β, γ, f⟩
/-- a described scale has at most nine notes -/
theorem colF_skip {p : List Int} {l1 l2 : List (List Rat)} {x : List Rat} (h : redQ p x = zeroL p.length) (hx : x.length = p.length) (hp : 0 < p.length) : colF p (l1 ++ x :: l2) = colF p (l1 ++ l2) := by
  have e : subL (redQ p x) (redQ p x) = zeroL p.length := by rw [subL_self, redQ_length (by omega), hx]; rfl
  unfold colF
  rw [List.foldl_append, List.foldl_cons, if_neg (by rintro ⟨h1, _⟩; rw [e] at h1; exact h1 h), ← List.foldl_append]
theorem colF_less {p : List Int} {l : List (List Rat)} {x : List Rat} (hm : x ∈ l) (h : redQ p x = zeroL p.length) (hx : x.length = p.length) (hp : 0 < p.length) : (colF p l).length ≤ l.length := by
  obtain ⟨l1, l2, rfl⟩ := List.append_of_mem hm
  rw [colF_skip h hx hp]
  have := (colF_len p _ (l1 ++ l2) rfl).2
  simp at this ⊢
  omega
theorem redQ_zeroP {p : List Int} (hP : Pr p) : redQ p (zeroL p.length) = zeroL p.length := by
  rcases hP with rfl | rfl <;> decide +kernel
theorem oct_flZ {p : List Int} (hP : Pr p) : redQ p (oct p.length) = zeroL p.length := by
  rcases hP with rfl | rfl <;> decide +kernel
theorem wList_col9 (b : Bool) (kd nm : Nat) (xs : List Int) : (colF (prW b) (wList b kd nm xs)).length ≤ 9 := by
  have hp := prW_len b
  have hm := Nat.mod_lt nm (show 0 < 9 by decide)
  by_cases h0 : kd % 3 = 0
  · have hl : (wList b kd nm xs).length = 1 + nm % 9 := by rw [wList, if_pos h0]; simp [mulL]
    have hmem : oct (prW b).length ∈ wList b kd nm xs := by
      rw [wList, if_pos h0]
      refine List.mem_map.2 ⟨nm % 9, List.mem_range.2 (by omega), ?_⟩
      refine at_ext (by rw [scaleL_length, scaleL_length]) fun i => ?_
      rw [at_scale, at_scale, Rat.mul_assoc, int_mk, Rat.mkRat_mul_mkRat, Int.one_mul, Nat.mul_one]
      have e : (1 + ((nm % 9 : Nat) : Int)) = ((1 + nm % 9 : Nat) : Int) := by omega
      rw [e, Rat.mkRat_eq_div, Rat.intCast_natCast]
      have hq := natq_pos (D := 1 + nm % 9) (by omega)
      generalize ((1 + nm % 9 : Nat) : Rat) = q at hq ⊢
      have hne : q ≠ 0 := by grind
      rw [Rat.div_def, Rat.mul_inv_cancel _ hne, Rat.mul_one]
    have := colF_less hmem (oct_flZ (prW_pr b)) (oct_length (by omega)) (by omega)
    omega
  · by_cases h1 : kd % 3 = 1
    · have hl : (wList b kd nm xs).length = 1 + nm % 9 := by rw [wList, if_neg h0, if_pos h1]; simp [mulL]
      have hw : (wSz (prW b).length xs 0).length = (prW b).length := by simp [wSz, szL]
      have hmem : zeroL (prW b).length ∈ wList b kd nm xs := by
        rw [wList, if_neg h0, if_pos h1]
        refine List.mem_map.2 ⟨0, List.mem_range.2 (by omega), ?_⟩
        refine at_ext (by rw [scaleL_length, hw]; simp [zeroL]) fun i => ?_
        rw [at_scale, at_zero]
        have : ((0 + ((0 : Nat) : Int) : Int) : Rat) = 0 := rfl
        rw [this, Rat.mul_zero]
      have := colF_less hmem (redQ_zeroP (prW_pr b)) (by simp [zeroL]) (by omega)
      omega
    · have hl : (wList b kd nm xs).length ≤ 8 := by rw [wList, if_neg h0, if_neg h1]; simp; omega
      have := (colF_len (prW b) _ (wList b kd nm xs) rfl).2
      omega
end Go.Proofs.Gh
namespace Go.Proofs.Gh
open Go Go.Proofs Go.Proofs.Zz
set_option maxRecDepth 10000
/-! the union of two scales of one family -/
theorem Sc.nodup {p : List Int} {D : Nat} {L N : List (List Rat)} (s : Sc p D L N) : N.Nodup :=
  (Inc.pw s.inc).imp fun {a b} h e => by subst e; exact Rat.lt_irrefl h
theorem Sc.oct_mem {p : List Int} {D : Nat} {L N : List (List Rat)} (s : Sc p D L N) : oct p.length ∈ N := List.mem_of_getElem? s.last
theorem Sc.drop_mem {p : List Int} {D : Nat} {L N : List (List Rat)} (s : Sc p D L N) {x : List Rat} (hx : x ∈ N) (h : x ≠ oct p.length) : x ∈ N.dropLast := by
  have hk := s.len
  have hne : N ≠ [] := by rw [← List.length_pos_iff]; exact hk.1
  have hd := List.dropLast_concat_getLast hne
  have e := s.last
  rw [List.getElem?_eq_getElem (by omega)] at e
  injection e with e
  rw [List.getLast_eq_getElem, e] at hd
  rw [← hd] at hx
  rcases List.mem_append.1 hx with hx | hx
  · exact hx
  · exact absurd (List.mem_singleton.1 hx) h
theorem uni_mem {p : List Int} {D : Nat} {L N M : List (List Rat)} (hP : Pr p) (F : Fam p D L) (s : Sc p D L N) (t : Sc p D L M) (a : List Rat) : a ∈ colS p (N ++ M) ↔ (a ∈ N ∨ a ∈ M) ∧ a ≠ oct p.length := by
  have hpl := hP.len
  have key : ∀ x, x ∈ N ∨ x ∈ M → x = oct p.length ∨ (vl x < 67108864 ∧ redQ p x = x ∧ flQ p x = 0) := by
    rintro x (h | h)
    · exact s.fl hP F h
    · exact t.fl hP F h
  have pos : ∀ x, x ∈ N ∨ x ∈ M → 0 < vl x := by
    rintro x (h | h)
    · exact (s.pos x h).1
    · exact (t.pos x h).1
  rw [mem_colS]
  constructor
  · rintro ⟨x, hx, rfl, hz⟩
    have hx' := List.mem_append.1 hx
    rcases key x hx' with rfl | ⟨h1, h2, _⟩
    · exact absurd (oct_fl hP).2 hz
    · rw [h2]
      refine ⟨hx', ?_⟩
      rintro rfl
      rw [vl_oct (by omega)] at h1
      exact Rat.lt_irrefl h1
  · rintro ⟨h, hne⟩
    rcases key a h with h1 | ⟨h1, h2, _⟩
    · exact absurd h1 hne
    · refine ⟨a, List.mem_append.2 h, h2.symm, ?_⟩
      rintro rfl
      have := pos _ h
      rw [vl_zero] at this
      exact Rat.lt_irrefl this
theorem uni_nd {p : List Int} {D : Nat} {L N M : List (List Rat)} (s : Sc p D L N) (t : Sc p D L M) {a : List Rat} (h : a ∈ N ∨ a ∈ M) : Nd p D L a := h.elim (s.nd a) (t.nd a)
theorem uni_len {p : List Int} {D : Nat} {L N M : List (List Rat)} (hP : Pr p) (F : Fam p D L) (s : Sc p D L N) (t : Sc p D L M) : (colS p (N ++ M)).length + 2 ≤ N.length + M.length := by
  have h1 := s.len
  have h2 := t.len
  have : (colS p (N ++ M)).length ≤ (N.dropLast ++ M.dropLast).length := by
    refine List.Nodup.length_le_of_subset (nodup_colS _) fun a ha => ?_
    obtain ⟨h, hne⟩ := (uni_mem hP F s t a).1 ha
    rcases h with h | h
    · exact List.mem_append_left _ (s.drop_mem h hne)
    · exact List.mem_append_right _ (t.drop_mem h hne)
  rw [List.length_append, List.length_dropLast, List.length_dropLast] at this
  omega
theorem uni_so {p : List Int} {D : Nat} {L N M : List (List Rat)} (hP : Pr p) (F : Fam p D L) (s : Sc p D L N) (t : Sc p D L M) (h1 : N.length ≤ 9) (h2 : M.length ≤ 9) : SoOk p (colS p (N ++ M)) := by
  have := uni_len hP F s t
  exact soOk_of hP F (fun a ha => uni_nd s t ((uni_mem hP F s t a).1 ha).1) (nodup_colS _) (by omega)
theorem uni_perm {p : List Int} {D : Nat} {L N M : List (List Rat)} (hP : Pr p) (F : Fam p D L) (s : Sc p D L N) (t : Sc p D L M) : (colS p (N ++ M) ++ [oct p.length]).Perm (colF p (N ++ M)) := by
  have hpl := hP.len
  have hlen : ∀ x ∈ N ++ M, x.length = p.length := fun x hx => (uni_nd s t (List.mem_append.1 hx)).len
  refine (List.perm_ext_iff_of_nodup ?_ (nodup_colF _)).2 fun a => ?_
  · rw [List.nodup_append]
    refine ⟨nodup_colS _, by simp, fun a ha b hb => ?_⟩
    rw [List.mem_singleton.1 hb]
    exact ((uni_mem hP F s t a).1 ha).2
  · rw [List.mem_append, List.mem_singleton, mem_colF (by omega) _ hlen, mem_colS]
    constructor
    · rintro (h | h)
      · exact .inr h
      · exact .inl h
    · rintro (h | h)
      · exact .inr h
      · exact .inl h
theorem uni_colF {p : List Int} {D : Nat} {L N M : List (List Rat)} (hP : Pr p) (F : Fam p D L) (s : Sc p D L N) (t : Sc p D L M) (a : List Rat) : a ∈ colF p (N ++ M) ↔ a ∈ N ∨ a ∈ M := by
  rw [← (uni_perm hP F s t).mem_iff, List.mem_append, List.mem_singleton, uni_mem hP F s t]
  constructor
  · rintro (⟨h, _⟩ | rfl)
    · exact h
    · exact .inl s.oct_mem
  · intro h
    by_cases ho : a = oct p.length
    · exact .inr ho
    · exact .inl ⟨h, ho⟩
theorem uni_x {p : List Int} {D : Nat} {L N M : List (List Rat)} (hP : Pr p) (F : Fam p D L) (s : Sc p D L N) (t : Sc p D L M) {x : List Rat} (h : x ∈ N ∨ x ∈ M) : XOk p x := by
  have nd := uni_nd s t h
  have key : x = oct p.length ∨ (vl x < 67108864 ∧ redQ p x = x ∧ flQ p x = 0) := h.elim (s.fl hP F) (t.fl hP F)
  have z0 : ∀ z : Int, z.natAbs ≤ 1 → Ti (z : Rat) := fun z hz => ⟨by rw [Rat.num_intCast]; omega, by rw [Rat.den_intCast]; omega⟩
  refine ⟨(nd.good0 F).flOk hP, nd.ti F, ?_, fun q hq => ?_⟩
  · rcases key with rfl | ⟨_, _, h3⟩
    · rw [(oct_fl hP).1]; exact z0 1 (by decide)
    · rw [h3]; exact z0 0 (by decide)
  · rcases key with rfl | ⟨_, h2, _⟩
    · rw [(oct_fl hP).2] at hq
      rw [(List.mem_replicate.1 hq).2]
      exact z0 0 (by decide)
    · rw [h2] at hq
      exact nd.ti F q hq
theorem uni_soF {p : List Int} {D : Nat} {L N M : List (List Rat)} (hP : Pr p) (F : Fam p D L) (s : Sc p D L N) (t : Sc p D L M) (h1 : N.length ≤ 9) (h2 : M.length ≤ 9) : SoOk p (colF p (N ++ M)) ∧ (colF p (N ++ M)).length ≤ 17 := by
  have h3 := uni_len hP F s t
  have h4 := (uni_perm hP F s t).length_eq
  rw [List.length_append, List.length_singleton] at h4
  exact ⟨soOk_of hP F (fun a ha => uni_nd s t ((uni_colF hP F s t a).1 ha)) (nodup_colF _) (by omega), by omega⟩
/-- the program's union is the model's -/
theorem uni_eq {p : List Int} {D : Nat} {L N M U W : List (List Rat)} (hP : Pr p) (F : Fam p D L) (s : Sc p D L N) (t : Sc p D L M) (hU : U.Perm (colS p (N ++ M))) (aU : ∀ k, Adj (fun a b => sgn p (subL a b)) U k) (hW : W.Perm (colF p (N ++ M))) (aW : ∀ k, Adj (fun a b => sgn p (subL a b)) W k) : U ++ [oct p.length] = W := by
  have hpl := hP.len
  have hp : (U ++ [oct p.length]).Perm W := ((hU.append_right _).trans (uni_perm hP F s t)).trans hW.symm
  have nU : ∀ a ∈ U, (a ∈ N ∨ a ∈ M) ∧ a ≠ oct p.length := fun a ha => (uni_mem hP F s t a).1 (hU.mem_iff.1 ha)
  have iW : Inc W := Inc.of_adj hP F (fun a ha => uni_nd s t ((uni_colF hP F s t a).1 (hW.mem_iff.1 ha))) aW
  have iU : Inc U := Inc.of_adj hP F (fun a ha => uni_nd s t (nU a ha).1) aU
  refine Inc.unique ?_ iW hp
  intro k a b ha hb
  have hkb := (List.getElem?_eq_some_iff.1 hb).1
  rw [List.length_append, List.length_singleton] at hkb
  rw [List.getElem?_append_left (by omega)] at ha
  rcases Nat.lt_or_ge (k + 1) U.length with h | h
  · rw [List.getElem?_append_left h] at hb
    exact iU k a b ha hb
  · rw [List.getElem?_append_right h, show k + 1 - U.length = 0 by omega, List.getElem?_cons_zero] at hb
    injection hb with hb
    subst hb
    obtain ⟨h1, h2⟩ := nU a (List.mem_of_getElem? ha)
    have : a = oct p.length ∨ (vl a < 67108864 ∧ redQ p a = a ∧ flQ p a = 0) := h1.elim (s.fl hP F) (t.fl hP F)
    rcases this with h3 | ⟨h3, _⟩
    · exact absurd h3 h2
    · rw [vl_oct (by omega)]; exact h3
theorem uni_within {p : List Int} {D : Nat} {L N M W : List (List Rat)} (hP : Pr p) (F : Fam p D L) (s : Sc p D L N) (t : Sc p D L M) (hW : W.Perm (colF p (N ++ M))) : decide (∀ x ∈ N, x ∈ M) = decide ((W.length : Int) = M.length) := by
  have mW : ∀ a, a ∈ W ↔ a ∈ N ∨ a ∈ M := fun a => by rw [hW.mem_iff, uni_colF hP F s t]
  have nW : W.Nodup := hW.nodup_iff.2 (nodup_colF _)
  have le1 : M.length ≤ W.length := List.Nodup.length_le_of_subset t.nodup fun a ha => (mW a).2 (.inr ha)
  rw [decide_eq_decide]
  constructor
  · intro h
    have le2 : W.length ≤ M.length := List.Nodup.length_le_of_subset nW fun a ha => ((mW a).1 ha).elim (h a) id
    omega
  · intro h x hx
    refine Decidable.byContradiction fun hn => ?_
    have : (x :: M).length ≤ W.length := List.Nodup.length_le_of_subset (List.nodup_cons.2 ⟨hn, t.nodup⟩) fun a ha => by
      rcases List.mem_cons.1 ha with rfl | ha
      · exact (mW _).2 (.inl hx)
      · exact (mW _).2 (.inr ha)
    rw [List.length_cons] at this
    omega
end Go.Proofs.Gh
namespace Go.Proofs.Gh
open Go Go.Proofs Go.Proofs.Zz
set_option maxRecDepth 10000
set_option linter.unusedSimpArgs false
theorem prW_inj {b b' : Bool} (h : b ≠ b') : prW b ≠ prW b' := by cases b <;> cases b' <;> first | exact absurd rfl h | decide
theorem c_lawUnions {h : GH} {b b' : Bool} {kd nm kd' nm' : Nat} {xs xs' : List Int} (hw : WOk kd nm xs) (hw' : WOk kd' nm' xs') :
    ∃ r h', GCalls Tryz.prog gE 7 #[wV b kd nm xs, wV b' kd' nm' xs'] h r h' ∧ h.le h' ∧ r = .bool true := by
  have hcl := wCells_length (b := b) (kd := kd) (nm := nm) hw.len
  have hcl' := wCells_length (b := b') (kd := kd') (nm := nm') hw'.len
  obtain ⟨H0, hH0⟩ : ∃ H, h.alloc ⟨wCells b kd nm xs, true, false⟩ = H := ⟨_, rfl⟩
  obtain ⟨H, hH⟩ : ∃ H, H0.alloc ⟨wCells b' kd' nm' xs', true, false⟩ = H := ⟨_, rfl⟩
  have hH0n : H0.n = h.n + 1 := by rw [← hH0]; rfl
  have hle00 : h.le H0 := by rw [← hH0]; exact GH.le_alloc _ _
  have hle01 : H0.le H := by rw [← hH]; exact GH.le_alloc _ _
  have hle0 := hle00.trans hle01
  have hwl : ∀ {h'}, H.le h' → h'.load h.n 0 27 = some (wCells b kd nm xs) := fun hl => world_load hw.len (by rw [hH0]; exact hle01.trans hl)
  have hwl' : ∀ {h'}, H.le h' → h'.load (h.n + 1) 0 27 = some (wCells b' kd' nm' xs') := fun hl => by
    rw [← hH0n]
    exact world_load hw'.len (by rw [hH]; exact hl)
  refine gcalls_in (pl := pl7) [.tmp 4] mixed Tryz.func7 rfl rfl (by exact ok7) ?_
  simp only [go_sem, Nat.reduceBEq, ↓reduceIte, wV, wCells_one, hH0, hH, hH0n]
  refine callK_intro (c_known) ?_
  rintro _ h1 ⟨hle1, rfl⟩
  have w1 := hwl hle1
  have w1' := hwl' hle1
  simp only [go_sem, Nat.reduceBEq, Array.reduceGetElem?, w1, w1', pl7]
  obtain ⟨K, hK, dz1, dz2, hleK, hKn⟩ := Duo.two h1 (.slice none 0 0) (.slice none 0 0) (.slice none 0 0) (.slice none 0 0)
  rw [hK]
  refine callK_intro (c_Make' hw.kd hw.nm hw.len hw.bd) ?_
  rintro sv h2 ⟨hle2, N, D, L, F, sc, scl, hs⟩
  have w2 := hwl ((hle1.trans hleK).trans hle2)
  have w2' := hwl' ((hle1.trans hleK).trans hle2)
  obtain ⟨g, o, c, g2, o2, c2, rfl, hp, hn⟩ := hs.form
  simp only [go_sem, Nat.reduceBEq, Array.reduceGetElem?, w2']
  refine callK_intro (c_Make' hw'.kd hw'.nm hw'.len hw'.bd) ?_
  rintro tv h3 ⟨hle3, M, D', L', F', sc', scl', ht⟩
  obtain ⟨g3, o3, c3, g4, o4, c4, rfl, hq, hm⟩ := ht.form
  have w3 := hwl (((hle1.trans hleK).trans hle2).trans hle3)
  have w3' := hwl' (((hle1.trans hleK).trans hle2).trans hle3)
  simp only [go_sem, Nat.reduceBEq, Nat.reduceAdd, Array.reduceGetElem?, ↓reduceIte]
  have hP := prW_pr b
  have hQ := prW_pr b'
  have hpl := hP.len
  have hql := hQ.len
  have so := sc.scOk hP F
  have to := sc'.scOk hQ F'
  have ok := sc.mo hP F
  have ok' := sc'.mo hQ F'
  have hk := sc.len
  have hk' := sc'.len
  have ne1 : N ≠ [] := by rw [← List.length_pos_iff]; exact hk.1
  have ne2 : M ≠ [] := by rw [← List.length_pos_iff]; exact hk'.1
  have el1 : ∀ a ∈ N, a ≠ [] := fun a ha => by rw [← List.length_pos_iff, ok.len a ha]; omega
  have el2 : ∀ a ∈ M, a ≠ [] := fun a ha => by rw [← List.length_pos_iff, ok'.len a ha]; omega
  have z1 := (dz1.mono hle2).mono hle3
  have st1 := z1.s2 (v := .slice (some ⟨g, o, none⟩) (prW b).length c) (w := .slice (some ⟨g2, o2, none⟩) N.length c2) rfl rfl
  obtain ⟨h4, hh4⟩ : ∃ h4, h3.upd h1.n ⟨[.slice (some ⟨g, o, none⟩) (prW b).length c, .slice (some ⟨g2, o2, none⟩) N.length c2], true, false⟩ = h4 := ⟨_, rfl⟩
  have dS4 : Duo h4 h1.n (.slice (some ⟨g, o, none⟩) (prW b).length c) (.slice (some ⟨g2, o2, none⟩) N.length c2) := by rw [← hh4]; exact Duo.up z1.lt
  have z2 : Duo h4 (h1.n + 1) (.slice none 0 0) (.slice none 0 0) := by rw [← hh4]; exact ((dz2.mono hle2).mono hle3).up_ne (by omega)
  have st2 := z2.s2 (v := .slice (some ⟨g3, o3, none⟩) (prW b').length c3) (w := .slice (some ⟨g4, o4, none⟩) M.length c4) rfl rfl
  obtain ⟨h5, hh5⟩ : ∃ h5, h4.upd (h1.n + 1) ⟨[.slice (some ⟨g3, o3, none⟩) (prW b').length c3, .slice (some ⟨g4, o4, none⟩) M.length c4], true, false⟩ = h5 := ⟨_, rfl⟩
  have dS : Duo h5 h1.n (.slice (some ⟨g, o, none⟩) (prW b).length c) (.slice (some ⟨g2, o2, none⟩) N.length c2) := by rw [← hh5]; exact dS4.up_ne (by omega)
  have dT : Duo h5 (h1.n + 1) (.slice (some ⟨g3, o3, none⟩) (prW b').length c3) (.slice (some ⟨g4, o4, none⟩) M.length c4) := by rw [← hh5]; exact Duo.up z2.lt
  have hle15 : h1.le h5 := by
    rw [← hh5, ← hh4]
    exact (((hleK.trans hle2).trans hle3).upd (Nat.le_refl _) _).upd (by omega) _
  have hs5 : ScAt h5 (.agg #[.slice (some ⟨g, o, none⟩) (prW b).length c, .slice (some ⟨g2, o2, none⟩) N.length c2]) (prW b) N := by
    rw [← hh5]
    refine ScAt.upd ?_ z2 hP.ne ne1 el1
    rw [← hh4]
    exact ScAt.upd (hs.mono hle3) z1 hP.ne ne1 el1
  have ht5 : ScAt h5 (.agg #[.slice (some ⟨g3, o3, none⟩) (prW b').length c3, .slice (some ⟨g4, o4, none⟩) M.length c4]) (prW b') M := by
    rw [← hh5]
    refine ScAt.upd ?_ z2 hQ.ne ne2 el2
    rw [← hh4]
    exact ScAt.upd ht z1 hQ.ne ne2 el2
  have hleA := hle0.trans (hle1.trans hle15)
  have w5 := hwl (hle1.trans hle15)
  have w5' := hwl' (hle1.trans hle15)
  simp only [go_sem, Nat.reduceBEq, Nat.reduceAdd, Array.reduceGetElem?, ↓reduceIte, st1, hh4, st2, hh5, dS.l2, dT.l2]
  have lN : N.length ≤ 9 := by rw [scl.1.length_eq]; exact wList_col9 b kd nm xs
  have lM : M.length ≤ 9 := by rw [scl'.1.length_eq]; exact wList_col9 b' kd' nm' xs'
  by_cases hb : b = b'
  · subst hb
    obtain ⟨D2, F2⟩ := world_fam2 b kd nm xs kd' nm' xs'
    have s1 := scl.sc hP F2 (fun x hx => List.mem_cons_of_mem _ (List.mem_append_left _ hx)) (by have := wList_len b kd nm xs; omega)
    have s2 := scl'.sc hP F2 (fun x hx => List.mem_cons_of_mem _ (List.mem_append_right _ hx)) (by have := wList_len b kd' nm' xs'; omega)
    have ho : perN N = oct (prW b).length ∧ perN M = oct (prW b).length := ⟨s1.per, s2.per⟩
    have hx : ∀ x ∈ N ++ M, x.length = (prW b).length ∧ FlOk (prW b) x ∧ SmL (redQ (prW b) x) := fun x hx => by
      have nd := uni_nd s1 s2 (List.mem_append.1 hx)
      have xo := uni_x hP F2 s1 s2 (List.mem_append.1 hx)
      exact ⟨nd.len, xo.fl, fun q hq => (xo.rt q hq).sm⟩
    refine callK_intro (c_Union hP hs5 ht5 so to ho hx (uni_so hP F2 s1 s2 lN lM)) ?_
    rintro _ h6 ⟨hle6, uv, U, rfl, u1, u2, hu6⟩
    obtain ⟨W, hW⟩ : ∃ W, U ++ [oct (prW b).length] = W := ⟨_, rfl⟩
    rw [hW] at hu6
    obtain ⟨a1, a2, a3, a4, a5, a6, rfl, _, _⟩ := hu6.form
    obtain ⟨G, hG⟩ : ∃ G, h6.alloc ⟨[.slice (some ⟨a1, a2, none⟩) (prW b).length a3, .slice (some ⟨a4, a5, none⟩) W.length a6], true, false⟩ = G := ⟨_, rfl⟩
    have dX : Duo G h6.n (.slice (some ⟨a1, a2, none⟩) (prW b).length a3) (.slice (some ⟨a4, a5, none⟩) W.length a6) := by rw [← hG]; exact Duo.new _ _ _
    have hleG : h6.le G := by rw [← hG]; exact GH.le_alloc _ _
    have hle5G := hle6.trans hleG
    have dSG := dS.mono hle5G
    have dTG := dT.mono hle5G
    simp only [go_sem, Nat.reduceBEq, Nat.reduceAdd, Array.reduceGetElem?, ↓reduceIte, alloc_store2s (h := h6) (a := .slice none 0 0) (b := .slice none 0 0) (v := .slice (some ⟨a1, a2, none⟩) (prW b).length a3) (w := .slice (some ⟨a4, a5, none⟩) W.length a6) rfl rfl, hG, dSG.l2, dTG.l2]
    refine callK_intro (c_Within hP hQ (hs5.mono hle5G) (ht5.mono hle5G) so to (fun _ => ho)) ?_
    rintro _ h7 ⟨hle7, rfl⟩
    rw [if_pos rfl]
    have hle57 := hle5G.trans hle7
    have dS7 := dS.mono hle57
    have dT7 := dT.mono hle57
    simp only [go_sem, Nat.reduceBEq, Array.reduceGetElem?, dS7.l0, dT7.l0]
    have P1 := hs5.parts.1
    have P2 := ht5.parts.1
    have Q1 := hs5.parts.2
    have Q2 := ht5.parts.2
    refine callK_intro (c_eqPrimes (P1.mono hle57) (P2.mono hle57) (by omega)) ?_
    rintro _ h8 ⟨hle8, rfl⟩
    have hle58 := hle57.trans hle8
    have dS8 := dS.mono hle58
    have dT8 := dT.mono hle58
    simp only [go_sem, Nat.reduceBEq, Nat.reduceAdd, Nat.reduceLeDiff, Nat.reduceLT, Array.reduceGetElem?, ↓reduceIte, decide_true, dS8.l0, dS8.l1, dT8.l1, pl7]
    obtain ⟨B, hB⟩ : ∃ B, h8.alloc ⟨[.slice (some ⟨g2, o2, none⟩) N.length c2, .slice (some ⟨g4, o4, none⟩) M.length c4], true, false⟩ = B := ⟨_, rfl⟩
    have dB : Duo B h8.n (.slice (some ⟨g2, o2, none⟩) N.length c2) (.slice (some ⟨g4, o4, none⟩) M.length c4) := by rw [← hB]; exact Duo.new _ _ _
    have leB : h8.le B := by rw [← hB]; exact GH.le_alloc _ _
    have nB : B.n = h8.n + 1 := by rw [← hB]; rfl
    rw [hB]
    obtain ⟨C, hC⟩ : ∃ C, B.alloc ⟨[.slice none 0 0, .slice none 0 0], true, false⟩ = C := ⟨_, rfl⟩
    have dC : Duo C (h8.n + 1) (.slice none 0 0) (.slice none 0 0) := by rw [← hC, ← nB]; exact Duo.new _ _ _
    have leC : B.le C := by rw [← hC]; exact GH.le_alloc _ _
    rw [hC]
    have le5C := (hle58.trans leB).trans leC
    refine callK_intro (c_octave hP (P1.mono le5C)) ?_
    rintro ov h9 ⟨hle9, hov⟩
    have le59 := le5C.trans hle9
    have dS9 := dS.mono le59
    have dT9 := dT.mono le59
    have dSC := dS.mono le5C
    have dTC := dT.mono le5C
    simp only [go_sem, Nat.reduceBEq, Array.reduceGetElem?, dS9.l0, dS9.l1, dT9.l1]
    refine callK_intro (c_concat ((dB.mono leC).mono hle9) (Q1.mono le59) (Q2.mono le59) hk.1 (by omega) hk'.1 (by omega)) ?_
    rintro cv h10 ⟨hle10, hcv⟩
    have le510 := le59.trans hle10
    have dS10 := dS.mono le510
    have dT10 := dT.mono le510
    simp only [go_sem, Nat.reduceBEq, Array.reduceGetElem?, dS10.l0]
    obtain ⟨so17, l17⟩ := uni_soF hP F2 s1 s2 lN lM
    refine callK_intro (c_lCollectU hP (P1.mono le510) (hov.at.mono hle10) (.inl hcv) (by rw [List.length_append]; omega) l17 (fun x hx => uni_x hP F2 s1 s2 (List.mem_append.1 hx)) so17.nd so17.sm so17.pair so17.anti) ?_
    rintro wv h11 ⟨hle11, V, v1, v2, hv11⟩
    obtain rfl : W = V := by rw [← hW]; exact uni_eq hP F2 s1 s2 u1 u2 v1 v2
    obtain ⟨e1, e2, e3, e4, e5, e6, rfl, _, _⟩ := hv11.form
    have dC11 := ((dC.mono hle9).mono hle10).mono hle11
    have st11 := dC11.s2 (v := .slice (some ⟨e1, e2, none⟩) (prW b).length e3) (w := .slice (some ⟨e4, e5, none⟩) W.length e6) rfl rfl
    obtain ⟨h12, hh12⟩ : ∃ h12, h11.upd (h8.n + 1) ⟨[.slice (some ⟨e1, e2, none⟩) (prW b).length e3, .slice (some ⟨e4, e5, none⟩) W.length e6], true, false⟩ = h12 := ⟨_, rfl⟩
    have dV : Duo h12 (h8.n + 1) (.slice (some ⟨e1, e2, none⟩) (prW b).length e3) (.slice (some ⟨e4, e5, none⟩) W.length e6) := by rw [← hh12]; exact Duo.up dC11.lt
    have le8 : h8.le h12 := by
      rw [← hh12]
      exact ((((leB.trans leC).trans hle9).trans hle10).trans hle11).upd (by omega) _
    have le512 := hle58.trans le8
    have dS12 := dS.mono le512
    have dT12 := dT.mono le512
    have dX12 := ((dX.mono hle7).mono hle8).mono le8
    have elW : ∀ a ∈ W, a ≠ [] := fun a ha => by rw [← List.length_pos_iff, (so17.sm a (v1.mem_iff.1 ha)).1]; omega
    have hv12 : ScAt h12 (.agg #[.slice (some ⟨e1, e2, none⟩) (prW b).length e3, .slice (some ⟨e4, e5, none⟩) W.length e6]) (prW b) W := by
      rw [← hh12]
      exact hv11.upd dC11 hP.ne (by rw [← hW]; simp) elW
    have hu12 := ((hu6.mono hleG).mono hle7).mono (hle8.trans le8)
    have le511 := le510.trans hle11
    have dS11 := dS.mono le511
    have dT11 := dT.mono le511
    have i0 : ((0 : Int) = 0) = True := by simp
    simp only [go_sem, Nat.reduceBEq, Nat.reduceAdd, Array.reduceGetElem?, ↓reduceIte, st11, hh12, dX12.l2, dV.l2, decide_true]
    refine callK_intro (c_same hu12.parts.1 hv12.parts.1 (.inl hu12.parts.2) (.inl hv12.parts.2) rfl rfl (by omega) (by rw [v1.length_eq]; omega) (fun l hl => by rw [(so17.sm l (v1.mem_iff.1 hl)).1]; omega)) ?_
    rintro _ h13 ⟨hle13, rfl⟩
    have bb : (decide (prW b = prW b) && decide (W = W)) = true := by simp
    have dV13 := dV.mono hle13
    have dT13 := dT12.mono hle13
    simp only [go_sem, Nat.reduceBEq, Array.reduceGetElem?, ↓reduceIte, dV13.l1, dT13.l1]
    refine ⟨hleA.trans (le512.trans hle13), ?_⟩
    rw [uni_within hP F2 s1 s2 v1]
    simp
  · have hpq := prW_inj hb
    refine callK_intro (c_UnionX hP hQ hpq hs5 ht5 so to) ?_
    rintro _ h6 ⟨hle6, rfl⟩
    obtain ⟨G, hG⟩ : ∃ G, h6.alloc ⟨[.slice none 0 0, .slice none 0 0], true, false⟩ = G := ⟨_, rfl⟩
    have dX : Duo G h6.n (.slice none 0 0) (.slice none 0 0) := by rw [← hG]; exact Duo.new _ _ _
    have hleG : h6.le G := by rw [← hG]; exact GH.le_alloc _ _
    have hle5G := hle6.trans hleG
    have dSG := dS.mono hle5G
    have dTG := dT.mono hle5G
    have stG : G.store h6.n 0 [.slice none 0 0, .slice none 0 0] = some G := by
      rw [← hG]
      exact alloc_store2s (h := h6) (a := .slice none 0 0) (b := .slice none 0 0) (v := .slice none 0 0) (w := .slice none 0 0) rfl rfl
    simp only [go_sem, Nat.reduceBEq, Nat.reduceAdd, Array.reduceGetElem?, ↓reduceIte, hG, stG, dSG.l2, dTG.l2]
    refine callK_intro (c_Within hP hQ (hs5.mono hle5G) (ht5.mono hle5G) so to (fun h => absurd h hpq)) ?_
    rintro _ h7 ⟨hle7, rfl⟩
    rw [if_neg hpq]
    have hle57 := hle5G.trans hle7
    have dS7 := dS.mono hle57
    have dT7 := dT.mono hle57
    simp only [go_sem, Nat.reduceBEq, Array.reduceGetElem?, dS7.l0, dT7.l0]
    refine callK_intro (c_eqPrimes (hs5.parts.1.mono hle57) (ht5.parts.1.mono hle57) (by omega)) ?_
    rintro _ h8 ⟨hle8, rfl⟩
    have hle58 := hle57.trans hle8
    have dX8 := (dX.mono hle7).mono hle8
    have i14 : ((14 : Int) = 14) = True := by simp
    simp only [go_sem, Nat.reduceBEq, Array.reduceGetElem?, ↓reduceIte, decide_eq_false hpq, dX8.l1, decide_true]
    exact hleA.trans hle58
end Go.Proofs.Gh
namespace Go.Proofs.Gh
open Go Go.Proofs Go.Proofs.Zz Go.Proofs.YthnmdhfbbbfleaaGreatDoor Go.RowKit Go.ChangeShapes
set_option maxRecDepth 10000
set_option linter.unusedSimpArgs false
theorem iface_of_trod {H : Type} {enc : TypeId × Value → H} {P : Program} {w : World} {base : Nat} {sp : Nat → Bool} {fuel : Nat} {t : TypeId} {ms : Array (String × TypeId)} {cs : List Value} {nm : String} {d : DataW H} {p : List MemPlace} (hi : P.underlying t = some (.interface ms))
    (h : DataW.trod enc P w base sp false fuel t cs = some (.iface nm d, p)) : ∃ u v, cs = [.iface u v] := by
  cases fuel with
  | zero => simp [DataW.trod] at h
  | succ fuel =>
    simp only [DataW.trod, hi] at h
    split at h <;> first | (rename_i e; cases e; done) | skip
    all_goals first | (cases h; done) | skip
    all_goals first | exact ⟨_, _, rfl⟩ | simp_all
/-- what a call finds in the package-level variables -/
structure Told (W : World) : Prop where
  e0 : ∃ cs t fr u v, W.heap[0]? = some (.cells cs t fr) ∧ cs[0]? = some (.iface u v)
  e1 : ∃ cs t fr u v, W.heap[1]? = some (.cells cs t fr) ∧ cs[0]? = some (.iface u v)
  e2 : ∃ t fr, W.heap[2]? = some (.cells pow10s.toArray t fr)
theorem heap_of_var {P : Program} {w : World} {n : String} {g : Nat} {cs : Array Value} (hg : P.globalNamed n = some g) (h : w.var? P n = some cs) : ∃ t fr, w.heap[g]? = some (.cells cs t fr) := by
  simp only [World.var?, hg, Option.bind_some] at h
  split at h
  · injection h with h
    subst h
    exact ⟨_, _, by assumption⟩
  · cases h
theorem told {W : World} (h0 : laidMetH Tryz.prog Rows.scaleSubsetsRow.laid W) : Told W := by
  rw [MakeChecks.laidMetH_plain _ _ _ (by kernel_rfl)] at h0
  have h1 : laidMet Tryz.prog _ W := h0.tail.tail
  have hp : Lib.TabIs Tryz.prog W "internal/strconv.uint64pow10" .u64 ((List.range 20).map fun k => ((10 ^ k : Nat) : Int)) := by
    refine Lib.tabIs_of_head (g := 2) (t := 284) (e := 172) (n := 20) (by kernel_rfl) (by kernel_rfl) ?_ ?_ (by kernel_rfl) (by kernel_rfl) (rest := _) h1
    · kernel_rfl
    · kernel_rfl
  have sent : ∀ {n nm : String} {d : DataW Unit} {r : List (String × DataW Unit)} {g : Nat}, Tryz.prog.globalNamed n = some g → (Tryz.prog.globals[g]?).map (·.type) = some 113 → laidMet Tryz.prog ((n, .iface nm d) :: r) W → ∃ cs t fr u v, W.heap[g]? = some (.cells cs t fr) ∧ cs[0]? = some (.iface u v) := by
    rintro n nm d r g hg ht ⟨ps, ⟨g', t', cs, fuel, p, q, hg', ht', hvar, hd, _, _⟩, _⟩
    obtain rfl := Option.some.inj (hg.symm.trans hg')
    obtain rfl := Option.some.inj (ht.symm.trans ht')
    obtain ⟨u, v, e⟩ := iface_of_trod Tryz.underlying113 hd
    obtain ⟨t, fr, hh⟩ := heap_of_var hg hvar
    exact ⟨cs, t, fr, u, v, hh, by rw [← Array.getElem?_toList, e]; rfl⟩
  refine ⟨sent (by kernel_rfl) (by kernel_rfl) h1.tail.tail, sent (by kernel_rfl) (by kernel_rfl) h1.tail, ?_⟩
  obtain ⟨t, fr, hh⟩ := heap_of_var (g := 2) (by kernel_rfl) hp
  refine ⟨t, fr, ?_⟩
  rw [hh, List.map_map]
  rfl
end Go.Proofs.Gh
namespace Go.Proofs.Gh
open Go Go.Proofs Go.Proofs.Zz Go.Proofs.YthnmdhfbbbfleaaGreatDoor Go.RowKit Go.ChangeShapes
set_option maxRecDepth 10000
set_option linter.unusedSimpArgs false
theorem cell_bool {W : World} {base : Nat} {v : Value} (h : Cell.okWide Tryz.prog W .any base 4 v) : ∃ b, v = .bool b := by
  unfold Cell.okWide at h
  rw [Tryz.underlying4] at h
  simp only at h
  unfold Cell.ok at h
  rw [Tryz.underlying4] at h
  cases v <;> simp_all
theorem cell_int {W : World} {base t : Nat} {k : IntKind} {v : Value} (ht : Tryz.prog.underlying t = some (.int k)) (h : Cell.okWide Tryz.prog W .any base t v) : ∃ n, v = .int k n ∧ k.min ≤ n ∧ n ≤ k.max := by
  unfold Cell.okWide at h
  rw [ht] at h
  simp only at h
  unfold Cell.ok at h
  rw [ht] at h
  cases v <;> simp_all [IntKind.has]
def numV : Value → Int
  | .int _ n => n
  | _ => 0
theorem world_form {W : World} {base : Nat} {v : Value} (h : Value.okWide Tryz.prog W .any base 26 v) : ∃ (b : Bool) (kd nm : Nat) (xs : List Int), v = wV b kd nm xs ∧ WOk kd nm xs := by
  unfold Value.okWide at h
  rw [Tryz.underlying26] at h
  simp only at h
  obtain ⟨cs, rfl, hsz, ts, hts, _, hc⟩ := h
  have e1 : Tryz.prog.cellTypes Tryz.prog.depth 26 = some ([4, 5, 5] ++ List.replicate 24 22) := by kernel_rfl
  obtain rfl := Option.some.inj (hts.symm.trans e1)
  have e2 : Tryz.prog.cellsOf 26 = 27 := by kernel_rfl
  rw [e2] at hsz
  have hl : cs.toList.length = 27 := by simpa using hsz
  have at_ : ∀ i, i < 27 → ∃ v u, cs[i]? = some v ∧ ([4, 5, 5] ++ List.replicate 24 22 : List Nat)[i]? = some u ∧ Cell.okWide Tryz.prog W .any base u v := by
    intro i hi
    obtain ⟨u, k1, k2⟩ := hc i _ (Array.getElem?_eq_getElem (show i < cs.size by omega))
    rw [show ([4, 5, 5] ++ List.replicate 24 22 : List Nat).length = 27 by decide, Nat.mod_eq_of_lt hi] at k1
    exact ⟨_, u, Array.getElem?_eq_getElem (show i < cs.size by omega), k1, k2⟩
  obtain ⟨v0, u0, a0, b0, c0⟩ := at_ 0 (by decide)
  obtain rfl : 4 = u0 := Option.some.inj b0
  obtain ⟨b, rfl⟩ := cell_bool c0
  obtain ⟨v1, u1, a1, b1, c1⟩ := at_ 1 (by decide)
  obtain rfl : 5 = u1 := Option.some.inj b1
  obtain ⟨kd, rfl, d1, d2⟩ := cell_int Tryz.underlying5 c1
  obtain ⟨v2, u2, a2, b2, c2⟩ := at_ 2 (by decide)
  obtain rfl : 5 = u2 := Option.some.inj b2
  obtain ⟨nm, rfl, d3, d4⟩ := cell_int Tryz.underlying5 c2
  have m1 : IntKind.u8.min = 0 := by decide
  have m2 : IntKind.u8.max = 255 := by decide
  have m3 : IntKind.i8.min = -128 := by decide
  have m4 : IntKind.i8.max = 127 := by decide
  rw [m1] at d1 d3
  rw [m2] at d2 d4
  have rest : ∀ i, i < 24 → ∃ n : Int, cs[3 + i]? = some (.int .i8 n) ∧ -128 ≤ n ∧ n ≤ 127 := by
    intro i hi
    obtain ⟨v, u, k1, k2, k3⟩ := at_ (3 + i) (by omega)
    rw [List.getElem?_append_right (by simp), List.getElem?_replicate, if_pos (by simp; omega)] at k2
    obtain rfl := Option.some.inj k2
    obtain ⟨n, rfl, k4, k5⟩ := cell_int Tryz.underlying22 k3
    rw [m3] at k4
    rw [m4] at k5
    exact ⟨n, k1, k4, k5⟩
  refine ⟨b, kd.toNat, nm.toNat, (List.range 24).map (fun i => numV (cs[3 + i]?.getD (.bool false))), ?_, by omega, by omega, by simp, ?_⟩
  · rw [wV]
    congr 1
    apply Array.ext'
    rw [List.toList_toArray]
    apply List.ext_getElem?
    intro i
    rw [Array.getElem?_toList]
    match i with
    | 0 => rw [a0]; rfl
    | 1 => rw [a1, wCells, List.getElem?_cons_succ, List.getElem?_cons_zero, Int.toNat_of_nonneg d1]
    | 2 => rw [a2, wCells, List.getElem?_cons_succ, List.getElem?_cons_succ, List.getElem?_cons_zero, Int.toNat_of_nonneg d3]
    | i + 3 =>
      rw [wCells, List.getElem?_cons_succ, List.getElem?_cons_succ, List.getElem?_cons_succ, List.getElem?_map, List.getElem?_map]
      rcases Nat.lt_or_ge i 24 with hi | hi
      · obtain ⟨n, k1, _⟩ := rest i hi
        rw [List.getElem?_range hi, Nat.add_comm i 3, k1]
        simp only [Option.map_some, k1, Option.getD_some, numV]
      · rw [Array.getElem?_eq_none (by omega), List.getElem?_eq_none (by simp; exact hi)]; rfl
  · intro x hx
    obtain ⟨i, hi, rfl⟩ := List.mem_map.1 hx
    rw [List.mem_range] at hi
    obtain ⟨n, k1, k2⟩ := rest i hi
    rw [k1]
    exact k2
/-! ### from the ghost's contract to the model's: what a call starts with -/
theorem told_blk {W : World} (t : Told W) {μ : Mu} {B g : Nat} (hg : g < 6) (ha : (gE.b g).alive = true) : ∃ cs t fr, BlkOk μ W B ⟨g, 0, 0, 0⟩ (gE.b g) cs t fr := by
  have ro : ∀ {P : Prop}, (gE.b g).ro = false → P := fun h => by rw [gE.ro] at h; cases h
  match g, ha with
  | 0, _ =>
    obtain ⟨cs, t, fr, u, v, h1, h2⟩ := t.e0
    refine ⟨cs, t, fr, h1, fun i x hx => ?_, fun x hx => ?_, ro⟩
    · match i with
      | 0 => injection hx with hx; subst hx; exact ⟨_, by simpa using h2, .err⟩
      | i + 1 => cases hx
    · have hx : x ∈ [Value.iface errT (.tuple #[])] := hx
      rw [List.mem_singleton] at hx
      subst hx; rfl
  | 1, _ =>
    obtain ⟨cs, t, fr, u, v, h1, h2⟩ := t.e1
    refine ⟨cs, t, fr, h1, fun i x hx => ?_, fun x hx => ?_, ro⟩
    · match i with
      | 0 => injection hx with hx; subst hx; exact ⟨_, by simpa using h2, .err⟩
      | i + 1 => cases hx
    · have hx : x ∈ [Value.iface errT (.tuple #[])] := hx
      rw [List.mem_singleton] at hx
      subst hx; rfl
  | 2, _ =>
    obtain ⟨t, fr, h1⟩ := t.e2
    refine ⟨_, t, fr, h1, fun i x hx => ?_, fun x hx => ?_, ro⟩
    · have hx : pow10s[i]? = some x := hx
      refine ⟨x, by rw [Nat.zero_add]; simpa using hx, VR.of_flat0 ?_⟩
      obtain ⟨k, _, rfl⟩ := List.mem_map.1 (List.mem_of_getElem? hx)
      rfl
    · have hx : x ∈ pow10s := hx
      obtain ⟨k, _, rfl⟩ := List.mem_map.1 hx
      rfl
  | g + 3, ha => cases ha
/-- a memory with the package-level variables, and blocks that came in -/
def inG (X : Nat → GB) (k : Nat) : GH := ⟨6 + k, fun g => if g < 6 then gE.b g else X (g - 6)⟩
def inM (M' : Nat → Option M) : Mu := fun g => if g < 6 then some ⟨g, 0, 0, 0⟩ else M' (g - 6)
theorem in_inv {W : World} (t : Told W) (X : Nat → GB) (M' : Nat → Option M) (k : Nat) (hk : ∀ j, k ≤ j → M' j = none) (hro : ∀ j, (X j).ro = true) (hb : ∀ j m, M' j = some m → (X j).alive = true → ∃ cs t fr, BlkOk (inM M') W W.heap.size m (X j) cs t fr) : Inv W W.heap.size (inM M') (inG X k) W := by
  refine ⟨Below.refl _ _, Nat.le_refl _, fun g hg => ?_, fun g m hm ha => ?_, fun g g' m m' hm hm' hne ha ha' hr => ?_⟩
  · have hg : 6 + k ≤ g := hg
    unfold inM
    rw [if_neg (by omega)]
    exact hk _ (by omega)
  · unfold inM at hm
    unfold inG at ha ⊢
    simp only at ha ⊢
    split at hm
    · rename_i h6
      injection hm with hm
      subst hm
      rw [if_pos h6] at ha ⊢
      exact told_blk t h6 ha
    · rename_i h6
      rw [if_neg h6] at ha ⊢
      exact hb _ m hm ha
  · unfold inG at hr
    simp only at hr
    split at hr
    · rw [gE.ro] at hr; cases hr
    · rw [hro] at hr; cases hr
theorem in_base (X : Nat → GB) (M' : Nat → Option M) (k : Nat) : Base gE (inM M') (inG X k) :=
  ⟨by show 6 ≤ 6 + k; omega, fun g hg => ⟨if_pos hg, if_pos hg⟩⟩
end Go.Proofs.Gh
namespace Go.Proofs.Gh
open Go Go.Proofs Go.Proofs.Zz Go.Proofs.YthnmdhfbbbfleaaGreatDoor Go.RowKit Go.ChangeShapes
set_option maxRecDepth 10000
set_option linter.unusedSimpArgs false
theorem slice_form {W : World} {base t e : Nat} {v : Value} (ht : Tryz.prog.underlying t = some (.slice e)) (h : Value.okWide Tryz.prog W .any base t v) : v = .slice none 0 0 ∨ ∃ (a : Addr) (len cap : Nat), v = .slice (some a) len cap ∧ a.spot = none ∧ len ≤ cap ∧ ∃ cs t' fr, W.heap[a.block]? = some (.cells cs t' fr) := by
  unfold Value.okWide at h
  rw [ht] at h
  simp only at h
  unfold Cell.okWide at h
  rw [ht] at h
  simp only at h
  unfold Cell.ok at h
  rw [ht] at h
  cases v with
  | slice p n c =>
    cases p with
    | none =>
      match n, c with
      | 0, 0 => exact .inl rfl
      | 0, c + 1 => simp at h
      | n + 1, c => simp at h
    | some a =>
      simp only at h
      obtain ⟨h1, h2, h3⟩ := h
      obtain ⟨_, h4, row, cells, h5, _⟩ := h3
      unfold World.shape? at h5
      split at h5
      · exact .inr ⟨_, _, _, rfl, h4, h1, _, _, _, by assumption⟩
      · cases h5
  | _ => simp at h
/-- a row of ints that came in -/
theorem in_ints {H : Type} {enc : TypeId × Value → H} {W : World} {base : Nat} {v : Value} {d : DataW H} {p : List MemPlace} (t : Told W) (hv : Value.okWide Tryz.prog W .any base 28 v) (hd : DataW.Trod enc Tryz.prog W 0 (fun _ => true) true 28 v d p) :
    ∃ (X : Nat → GB) (M' : Nat → Option M) (k : Nat) (l : List Int) (lv : Value), Inv W W.heap.size (inM M') (inG X k) W ∧ VR (inM M') lv v ∧ InAt (inG X k) lv l := by
  rcases slice_form Tryz.underlying28 hv with rfl | ⟨a, len, cap, rfl, hsp, hlc, cs, t', fr, hb⟩
  · refine ⟨fun _ => ⟨[], false, true⟩, fun _ => none, 0, [], .slice none 0 0, in_inv t _ _ 0 (fun _ _ => rfl) (fun _ => rfl) (fun j m h => by cases h), .nilSlice, none, 0, rfl, fun h => absurd rfl h⟩
  · obtain ⟨fuel, hd⟩ := hd
    have hc : (Value.slice (some a) len cap).cells.toList = [.slice (some a) len cap] := rfl
    rw [hc] at hd
    rcases open_ints Tryz.underlying28 Tryz.underlying3 (by kernel_rfl) hd with ⟨e, _⟩ | ⟨a', len', cap', zs, e, _, _, hmx, hz, _, hcell, _⟩
    · simp at e
    · simp only [List.cons.injEq, Value.slice.injEq, Option.some.injEq, and_true] at e
      obtain ⟨rfl, rfl, rfl⟩ := e
      rw [if_pos rfl] at hz
      obtain ⟨ab, ao, asp⟩ := a
      have hsp : asp = none := hsp
      subst hsp
      have hadd : ∀ i, (Addr.add ⟨ab, ao, none⟩ i) = ⟨ab, ao + i, none⟩ := by
        intro i
        unfold Addr.add
        split
        · rename_i h; subst h; rfl
        · rfl
      have hcs : ∀ (i : Nat) (z : Int), zs[i]? = some z → cs[ao + i]? = some (.int .i64 z) := by
        intro i z hi
        obtain ⟨h1, h2⟩ := List.getElem?_eq_some_iff.1 hi
        have := hcell i h1
        rw [hadd, List.getD, hi, Option.getD_some] at this
        unfold World.cell? at this
        simp only [hb] at this
        simpa using this
      have hml : maxLen < unk := by decide
      have hll : (zs.take len).length = len := by rw [List.length_take]; omega
      refine ⟨fun j => if j = 0 then ⟨zs.map fun z => .int .i64 z, true, true⟩ else ⟨[], false, true⟩, fun j => if j = 0 then some ⟨ab, ao, 0, 0⟩ else none, 1, zs.take len, .slice (some ⟨6, 0, none⟩) len cap, ?_, ?_, ?_⟩
      · refine in_inv t _ _ 1 (fun j hj => if_neg (by omega)) (fun j => by split <;> rfl) (fun j m hm ha => ?_)
        split at hm
        · rename_i h0
          subst h0
          injection hm with hm
          subst hm
          refine ⟨cs, t', fr, hb, fun i x hx => ?_, fun x hx => ?_, fun h => by cases h⟩
          · rw [if_pos rfl, List.getElem?_map] at hx
            obtain ⟨z, hz1, rfl⟩ := Option.map_eq_some_iff.1 hx
            exact ⟨_, hcs i z hz1, .int _ _⟩
          · rw [if_pos rfl] at hx
            obtain ⟨z, _, rfl⟩ := List.mem_map.1 hx
            rfl
        · cases hm
      · have h6 : inM (fun j => if j = 0 then some ⟨ab, ao, 0, 0⟩ else none) 6 = some ⟨ab, ao, 0, 0⟩ := rfl
        have := VR.slice (o := 0) (len := len) (c := cap) (c' := cap) h6 hlc (.inl ⟨rfl, by omega⟩)
        exact this
      · refine ⟨_, cap, by rw [hll], fun _ => ⟨6, 0, rfl, ?_⟩⟩
        have hb6 : (inG (fun j => if j = 0 then ⟨zs.map fun z => .int .i64 z, true, true⟩ else ⟨[], false, true⟩) 1).b 6 = ⟨zs.map fun z => .int .i64 z, true, true⟩ := rfl
        refine ⟨by show 6 < 6 + 1; decide, by rw [hb6], ⟨[], (zs.drop len).map fun z => .int .i64 z, ?_, rfl⟩, ints_one _, by rw [ints_length, hll]; omega, fun hc => by omega⟩
        rw [hb6]
        have : (ints (zs.take len)).flatten = (zs.take len).map fun z => Value.int .i64 z := by
          have := one_cells ((zs.take len).map fun z => Value.int .i64 z)
          rw [List.map_map] at this
          exact this
        rw [this, List.nil_append, ← List.map_append, List.take_append_drop]
theorem wV_vr {μ : Mu} (b : Bool) (kd nm : Int) (xs : List Int) : VR μ (wV b kd nm xs) (wV b kd nm xs) := by
  refine VR.of_flat ?_
  show (wCells b kd nm xs).toArray.all flat0 = true
  rw [List.all_toArray, List.all_eq_true]
  intro x hx
  rcases List.mem_cons.1 hx with rfl | hx
  · rfl
  · rcases List.mem_cons.1 hx with rfl | hx
    · rfl
    · rcases List.mem_cons.1 hx with rfl | hx
      · rfl
      · obtain ⟨z, _, rfl⟩ := List.mem_map.1 hx
        rfl
theorem GCalls.run {f : FuncId} {gargs args : Array Value} {h h' : GH} {r : Value} {μ : Mu} {W : World} (hc : GCalls Tryz.prog gE f gargs h r h') (hr : r = .bool true) (hi : Inv W W.heap.size μ h W) (hb : Base gE μ h) (ha : AR μ gargs args) :
    Calls Tryz.prog f args W fun e W' => e = .returned (.bool true) ∧ Below W.heap.size W W' := by
  refine (hc.2 W W.heap.size μ W args hi hb ha).mono ?_
  rintro e W' ⟨μ', res, rfl, k1, k2, _⟩
  subst hr
  rw [k2.eq0 rfl]
  exact ⟨rfl, k1.below⟩
theorem AR.mk2 {μ : Mu} {a b a' b' : Value} (h1 : VR μ a a') (h2 : VR μ b b') : AR μ #[a, b] #[a', b'] := by
  refine ⟨rfl, fun i h _ => ?_⟩
  match i, h with
  | 0, _ => exact h1
  | 1, _ => exact h2
theorem AR.mk3 {μ : Mu} {a b c a' b' c' : Value} (h1 : VR μ a a') (h2 : VR μ b b') (h3 : VR μ c c') : AR μ #[a, b, c] #[a', b', c'] := by
  refine ⟨rfl, fun i h _ => ?_⟩
  match i, h with
  | 0, _ => exact h1
  | 1, _ => exact h2
  | 2, _ => exact h3
end Go.Proofs.Gh
namespace Go.Proofs.YthnmdhfbbbfleaaGreatDoor
open Go Go.Proofs Go.Proofs.Gh Go.Proofs.YthnmdhfbbbfleaaGreatDoor Go.RowKit Go.ChangeShapes
theorem unionsOwn : ownKnob Tryz.prog.godebug = none := by kernel_rfl
theorem unionsLaid : laidOutB Tryz.prog = true := by kernel_rfl
theorem unions26 : Tryz.prog.readableRec 26 = true := by kernel_rfl
set_option maxRecDepth 100000 in
theorem unions_lifted (os : Os) (started : os.Started) (H : Type) (enc : TypeId × Value → H) :
    ReturnsInHanded {} Tryz.checked os 7 .any (fun w args => (Rows.scaleUnionsSpec.pre enc Tryz.prog Tryz.f7 [] false w args ∧ laidMetH Tryz.prog Rows.scaleUnionsRow.laid w) ∧ sizedMet enc Tryz.prog Tryz.f7 (OpenSpec.ofChange Rows.scaleUnionsSpec) false w args)
      (Rows.scaleUnionsSpec.post enc Tryz.prog Tryz.f7 false true false false) := by
  refine returnsInHanded_of_change_and (C := Tryz.checked) (X := fun w _ => laidMetH Tryz.prog Rows.scaleUnionsRow.laid w) (fun _ _ _ hh h => h.of_heap hh) unionsOwn started (by kernel_rfl) Tryz.func7
    (ChangeSpec.witness_shaped (enc := enc) (C := Tryz.checked) (os := os) (X := fun w _ => laidMetH Tryz.prog Rows.scaleUnionsRow.laid w) false (World.laidAll Tryz.prog os Rows.scaleUnionsRow.laid) #[wV false 0 0 (List.replicate 24 0), wV false 0 0 (List.replicate 24 0)] 7 (World.laidAll_os _ _ _)
      (World.shaped_of_ZipB (by kernel_rfl) (by kernel_rfl)) (by kernel_rfl) (by kernel_rfl) (by kernel_rfl)
      (by rw [MakeChecks.laidMetH_plain _ _ _ (by kernel_rfl)]; exact laidMet_laidAll _ (by kernel_rfl) (by kernel_rfl))) ?_
  intro W base args ds gs before hval0 hW _ _ hL _
  have hval : ∀ (j : Nat) t v, Tryz.f7.params[j]? = some t → args[j]? = some v → Value.okWide Tryz.prog W .any base t v := hval0
  have hW' := hW
  obtain ⟨p, q, hA0, hV, rfl, _, _⟩ := hW
  have hA : DataW.TrodAll enc Tryz.prog W 0 (fun _ => true) true Tryz.f7.params.toList args.toList ds p := hA0
  rw [Tryz.params7] at hA hval
  obtain ⟨v0, v1, d0, d1, p0, p1, rfl, rfl, rfl, h0, h1⟩ := trodAll_two hA
  obtain ⟨rfl, rfl⟩ := trodVars_none hV
  simp only [List.append_nil] at hW'
  have tl := told hL
  obtain ⟨b, kd, nm, xs, e0, hw⟩ := world_form (hval 0 26 v0 rfl rfl)
  obtain ⟨b', kd', nm', xs', e1, hw'⟩ := world_form (hval 1 26 v1 rfl rfl)
  obtain ⟨r, h', hc, hle, hr⟩ := c_lawUnions (h := inG (fun _ => ⟨[], false, true⟩) 0) (b := b) (b' := b') hw hw'
  have hi := in_inv tl (fun _ => ⟨[], false, true⟩) (fun _ => none) 0 (fun _ _ => rfl) (fun _ => rfl) (fun j m h => by cases h)
  refine (GCalls.run hc hr hi (in_base _ _ _) (AR.mk2 (by rw [e0]; exact wV_vr b kd nm xs) (by rw [e1]; exact wV_vr b' kd' nm' xs'))).mono fun e W' ⟨he, hb⟩ => ?_
  subst he
  have hlt : ∀ x ∈ p0 ++ p1, x.block < W.heap.size := fun x hx => hW'.lt x (by simpa using hx)
  refine ⟨_, rfl, _, _, _, [], p0 ++ p1, [], hW', trodAll_mk1 (shut_bool Tryz.underlying4 _), ?_, rfl, hb.frame _, fun h => by cases h⟩
  exact trodAll_mk2 (Below.trod unionsLaid unions26 (of_decide_eq_true (by kernel_rfl)) h0 hb fun x hx => hlt x (List.mem_append_left _ hx)) (Below.trod unionsLaid unions26 (of_decide_eq_true (by kernel_rfl)) h1 hb fun x hx => hlt x (List.mem_append_right _ hx))
end Go.Proofs.YthnmdhfbbbfleaaGreatDoor
namespace Go.Proofs.YthnmdhfbbbfleaaGreatDoor
open Go Go.Proofs Go.Proofs.Gh Go.Proofs.YthnmdhfbbbfleaaGreatDoor Go.RowKit Go.ChangeShapes
theorem unions_said : Rows.ScaleUnionsSaid :=
  OpenClaim.holds_of_wide 7 Tryz.f7 rfl rfl rfl rfl rfl rfl rfl ⟨rfl, rfl, rfl, rfl, rfl⟩ rfl rfl rfl rfl rfl (by kernel_rfl) Tryz.func7 (by kernel_rfl)
    (of_decide_eq_true (by kernel_rfl)) (by unfold Func.isWrapper; first | (rw [if_pos (by decide +kernel)]; kernel_rfl) | (rw [if_neg (by decide +kernel)]; exact ⟨rfl, rfl⟩))
    (fun os started H enc _ => unions_lifted os started H enc)
theorem unions_plain (f : FuncId) (fn : Func) (hf : Tryz.pinned.checked.prog.funcNamed "schisma/schismalaw31.ScaleUnions" = some f) (hfn : Tryz.pinned.checked.prog.funcs[f]? = some fn) :
    true = Tryz.pinned.checked.prog.looks [] ∧ ∀ (j : Nat) t, fn.params[j]? = some t → Tryz.pinned.checked.prog.wantsStandIn t = false := by
  obtain rfl : f = 7 := Option.some.inj ((show Tryz.prog.funcNamed "schisma/schismalaw31.ScaleUnions" = some 7 by kernel_rfl).symm.trans hf) |>.symm
  obtain rfl : fn = Tryz.f7 := (Option.some.inj (Tryz.func7.symm.trans hfn)).symm
  refine ⟨by kernel_rfl, fun j t ht => ?_⟩
  rw [Tryz.params7] at ht
  have hm : t ∈ [26, 26] := by simpa using Array.mem_of_getElem? ht
  have hall : ([26, 26].all fun u => !Tryz.prog.wantsStandIn u) = true := by kernel_rfl
  exact (show Tryz.prog.wantsStandIn t = false by simpa using List.all_eq_true.1 hall t hm)
theorem unions_card : Rows.ScaleUnionsCardSaid :=
  Claim7.holds_tied_plain_at .later [] _ _ _ _ unions_said (fun _ h => by cases h) (by kernel_rfl) (fun _ h => by cases h) scaleUnions_row_tie rfl ⟨rfl, rfl⟩ (by kernel_rfl) rfl unions_plain (by kernel_rfl)
#print axioms unions_card
end Go.Proofs.YthnmdhfbbbfleaaGreatDoor
