/- Part 2 of a proof: walks of the program in a small memory, plain lemmas. -/
import Derived.Tactics
import Derived.Test.YthnmdhfbbbfleaaGreatDoorU1
set_option linter.all false
namespace Go.Proofs.Gh
open Go Go.RowKit

/-- the package-level variables that are told -/
structure GE where
  n : Nat
  b : Nat → GB
  ro : ∀ g, (b g).ro = true
def Base (E : GE) (μ : Mu) (h : GH) : Prop := E.n ≤ h.n ∧ ∀ g, g < E.n → μ g = some ⟨g, 0, 0, 0⟩ ∧ h.b g = E.b g
theorem Base.step {E : GE} {μ μ' : Mu} {h h' : GH} {w w' : World} (hb : Base E μ h) (e : Ext μ μ' h h' w w') : Base E μ' h' :=
  ⟨Nat.le_trans hb.1 e.n, fun g hg => by
    have hlt : g < h.n := Nat.lt_of_lt_of_le hg hb.1
    have h2 := (hb.2 g hg).2
    exact ⟨(e.keep g hlt).trans (hb.2 g hg).1, (e.ros g hlt (by rw [h2]; exact E.ro g)).trans h2⟩⟩

abbrev TS := Nat → Value
/-- the temporaries and the ghost's -/
def TR (μ : Mu) (N : Nat) (ts : TS) (a : Array Value) : Prop := a.size = N ∧ ∀ t (h : t < a.size), VR μ (ts t) a[t]
theorem TR.mono {μ μ' : Mu} (hm : ∀ g m, μ g = some m → μ' g = some m) {N : Nat} {ts : TS} {a : Array Value} (h : TR μ N ts a) : TR μ' N ts a :=
  ⟨h.1, fun i h1 => (h.2 i h1).mono hm⟩
def geval (ts : TS) : Operand → Value
  | .tmp t => ts t
  | .const v => v
  | .global g => .pointer (some ⟨g, 0, none⟩)
  | .func f => .func (.func f) #[] #[]
/-- an operand that is told -/
def okO (n N : Nat) : Operand → Bool
  | .const v => flat v
  | .global g => decide (g < n)
  | .tmp t => decide (t < N)
  | _ => true
theorem geval_sound {E : GE} {μ : Mu} {h : GH} (hb : Base E μ h) {N : Nat} {ts : TS} {a : Act} (ht : TR μ N ts a.tmps) {x : Operand} (hx : okO E.n N x = true) : VR μ (geval ts x) (a.eval x) := by
  cases x with
  | tmp t =>
    have hlt : t < a.tmps.size := ht.1 ▸ (by simpa [okO] using hx)
    have e : a.eval (.tmp t) = a.tmps[t] := by simp [Act.eval, hlt]
    rw [e]
    exact ht.2 t hlt
  | const v => exact VR.of_flat hx
  | global g =>
    have hg : g < E.n := by simpa [okO] using hx
    have := VR.ptr (μ := μ) (o := 0) (hb.2 g hg).1
    exact this
  | func f => exact .func rfl (fun i h => by simp at h) rfl (fun i h => by simp at h)

def gop (P : Program) (ρ : Operand → Value) (op : Op) (h : GH) : Option (Value × GH) :=
  match op with
  | .move x => some (ρ x, h)
  | .assign x => some (ρ x, h)
  | .pick c a b => match ρ c with
    | .bool t => some (if t then ρ a else ρ b, h)
    | _ => none
  | .alloc t => gAlloc P t h
  | .box _ x => gBox (ρ x) h
  | .build t ps => (gBuild P t (ps.toList.map fun p => (p.1, ρ p.2))).map fun v => (v, h)
  | .buildSlice t n ps => gBuildSlice P t n (ps.toList.map fun p => (p.1, ρ p.2)) h
  | .load t a => (gLoad P t (ρ a) h).map fun v => (v, h)
  | .store t a x => (gStore P t (ρ a) (ρ x) h).map fun h' => (undef, h')
  | .nilCheck x => (gNil (ρ x)).map fun v => (v, h)
  | .binOp op t x y _ => (gBin P op t (isC x || isC y) (ρ x) (ρ y)).map fun v => (v, h)
  | .unOp op _ x => (gUn op (ρ x)).map fun v => (v, h)
  | .convert s d x => gConv P s d (ρ x) h
  | .makeInterface t x => (gIface P t (ρ x)).map fun v => (v, h)
  | .makeFunc fn f c => some (.func fn (f.map ρ) (c.map ρ), h)
  | .makeSlice t l c => gMake P t (ρ l) (ρ c) h
  | .slice t x lo hi mx => (gSlice P t (ρ x) (lo.map ρ) (hi.map ρ) (mx.map ρ)).map fun v => (v, h)
  | .fieldAddr s x f => (gFieldAddr P s (ρ x) f).map fun v => (v, h)
  | .field t x f => (gField P t (ρ x) f).map fun v => (v, h)
  | .indexAddr t x i => (gIndexAddr P t (ρ x) (ρ i)).map fun v => (v, h)
  | .index t x i => (gIndex P t (ρ x) (ρ i)).map fun v => (v, h)
  | .extract t i => match ρ t with
    | .tuple vs => (vs[i]?).map fun v => (v, h)
    | _ => none
  | _ => none
def gBI (P : Program) (b : Builtin) (ts : List TypeId) (xs : List Value) (h : GH) : Option (Value × GH) :=
  match b, ts, xs with
  | .len, [t], [x] => (gLen P t x).map fun v => (v, h)
  | .cap, [t], [x] => (gCap P t x).map fun v => (v, h)
  | .append, [t0, t1], [s, x] => gAppend P t0 t1 s x h
  | .copy, [t0, t1], [d, x] => gCopy P t0 t1 d x h
  | .min, _, [.int k x, .int _ y] => some (.int k (if y < x then y else x), h)
  | .max, _, [.int k x, .int _ y] => some (.int k (if x < y then y else x), h)
  | _, _, _ => none

section
variable {w0 : World} {B : Nat} {μ : Mu} {h : GH} {w : World} {P : Program}

theorem PR.map' {ρ ρ' : Operand → Value} : ∀ l : List (Nat × Operand), (∀ p ∈ l, VR μ (ρ p.2) (ρ' p.2)) → PR μ (l.map fun p => (p.1, ρ p.2)) (l.map fun p => (p.1, ρ' p.2))
  | [], _ => .nil
  | (i, x) :: l, h => .cons (h _ List.mem_cons_self) (PR.map' l fun p hp => h p (List.mem_cons_of_mem _ hp))

/-- what a step must show -/
abbrev StepOk (P : Program) (w0 : World) (B : Nat) (μ : Mu) (h : GH) (w : World) (o : Oper) (ρ' : Operand → Value) (gv : Value) (h' : GH) : Prop :=
  ∃ μ' v' w', (∀ (a : Act) (next : Act → World → Prop) (Q : Exit → Act → World → Prop), o.upon P a next Q ((execOp ρ' o).run P w) = next (a.put o.dst v') w') ∧
    Inv w0 B μ' h' w' ∧ VR μ' gv v' ∧ Ext μ μ' h h' w w'

theorem StepOk.val {o : Oper} {ρ' : Operand → Value} {gv : Value} {h' : GH} {s : Sem Value} (he : execOp ρ' o = (do pure (.value (← s)))) (hp : Post w0 B μ h w gv h' (s.run P w)) : StepOk P w0 B μ h w o ρ' gv h' := by
  obtain ⟨μ', v', w', h1, h2, h3, h4⟩ := hp
  refine ⟨μ', v', w', fun a next Q => ?_, h2, h3, h4⟩
  rw [he]
  simp only [Sem.run_bind, h1, Result.andThen_ok, Sem.run_pure]
  rfl
theorem StepOk.valSame (hi : Inv w0 B μ h w) {o : Oper} {ρ' : Operand → Value} {gv : Value} {s : Sem Value} (he : execOp ρ' o = (do pure (.value (← s)))) (hp : ∃ v', s.run P w = .ok v' w ∧ VR μ gv v') : StepOk P w0 B μ h w o ρ' gv h := by
  obtain ⟨v', h1, h2⟩ := hp
  exact StepOk.val he (Post.same hi h2 h1)

theorem map_same {α : Type} {x : Option α} {h h' : GH} {v : Value} {f : α → Value} (hg : (x.map fun v => (f v, h)) = some (v, h')) : ∃ y, x = some y ∧ v = f y ∧ h' = h := by
  obtain ⟨y, h1, h2⟩ := Option.map_eq_some_iff.1 hg
  injection h2 with h2 h3
  exact ⟨y, h1, h2.symm, h3.symm⟩

theorem gop_sound (hi : Inv w0 B μ h w) {o : Oper} {ρ ρ' : Operand → Value} (hρ : ∀ x ∈ o.op.operands, VR μ (ρ x) (ρ' x)) {gv : Value} {h' : GH} (hg : gop P ρ o.op h = some (gv, h')) :
    StepOk P w0 B μ h w o ρ' gv h' := by
  obtain ⟨dst, op, type, pos, after, guard⟩ := o
  simp only at hg hρ
  cases op <;> simp only [gop] at hg <;> try (cases hg; done)
  case move x =>
    injection hg with hg
    injection hg with e1 e2
    subst e1 e2
    exact ⟨μ, ρ' x, w, fun _ _ _ => rfl, hi, hρ x (by simp [Op.operands]), Ext.refl _ _ _ hi.dom⟩
  case assign x =>
    injection hg with hg
    injection hg with e1 e2
    subst e1 e2
    exact ⟨μ, ρ' x, w, fun _ _ _ => rfl, hi, hρ x (by simp [Op.operands]), Ext.refl _ _ _ hi.dom⟩
  case pick c a b =>
    split at hg
    case h_2 => cases hg
    rename_i t ht
    injection hg with hg
    injection hg with e1 e2
    subst e1 e2
    have hc := hρ c (by simp [Op.operands])
    rw [ht] at hc
    have hc' := hc.bool_inv
    refine ⟨μ, if t then ρ' a else ρ' b, w, fun _ _ _ => ?_, hi, ?_, Ext.refl _ _ _ hi.dom⟩
    · simp only [execOp, hc', asBool, Sem.run_bind, Sem.run_pure, Result.andThen_ok]
      rfl
    · cases t
      · exact hρ b (by simp [Op.operands])
      · exact hρ a (by simp [Op.operands])
  case alloc t => exact StepOk.val rfl (gAlloc_sound hi hg)
  case box t x => exact StepOk.val rfl (gBox_sound hi (hρ x (by simp [Op.operands])) hg)
  case build t ps =>
    obtain ⟨y, h1, rfl, rfl⟩ := map_same (f := id) hg
    have hp := PR.map' (ρ := ρ) (ρ' := ρ') (μ := μ) ps.toList (fun p hp => hρ p.2 (by
      simp only [Op.operands, List.mem_toArray, List.mem_map]
      exact ⟨p, hp, rfl⟩))
    exact StepOk.valSame hi rfl (gBuild_sound (ps := (ps.toList.map fun p => (p.1, ρ p.2)).toArray) (by simpa using hp) (by simpa using h1))
  case buildSlice t n ps =>
    have hp := PR.map' (ρ := ρ) (ρ' := ρ') (μ := μ) ps.toList (fun p hp => hρ p.2 (by
      simp only [Op.operands, List.mem_toArray, List.mem_map]
      exact ⟨p, hp, rfl⟩))
    exact StepOk.val rfl (gBuildSlice_sound (ps := (ps.toList.map fun p => (p.1, ρ p.2)).toArray) hi (by simpa using hp) (by simpa using hg))
  case load t a =>
    obtain ⟨y, h1, rfl, rfl⟩ := map_same (f := id) hg
    exact StepOk.valSame hi rfl (gLoad_sound hi (hρ a (by simp [Op.operands])) h1)
  case store t a x =>
    obtain ⟨y, h1, h2⟩ := Option.map_eq_some_iff.1 hg
    injection h2 with e1 e2
    subst e1 e2
    obtain ⟨w', h3, h4, h5⟩ := gStore_sound hi (hρ a (by simp [Op.operands])) (hρ x (by simp [Op.operands])) h1
    refine ⟨μ, undef, w', fun _ _ _ => ?_, h4, VR.undef, h5⟩
    simp only [execOp, Sem.run_bind, h3, Result.andThen_ok, Sem.run_pure]
    rfl
  case nilCheck x =>
    obtain ⟨y, h1, rfl, rfl⟩ := map_same (f := id) hg
    have hx := hρ x (by simp [Op.operands])
    obtain ⟨h2, h3⟩ := gNil_sound hx h1
    refine ⟨μ, ρ' x, w, fun _ _ _ => ?_, hi, ?_, Ext.refl _ _ _ hi.dom⟩
    · rcases h3 with ⟨a, ha⟩ | ⟨f, a, b, ha⟩ <;> simp only [execOp, ha] <;> rfl
    · rw [h2]; exact hx
  case binOp op t x y yt =>
    obtain ⟨v, h1, rfl, rfl⟩ := map_same (f := id) hg
    obtain ⟨h2, h3⟩ := gBin_sound (hρ x (by simp [Op.operands])) (hρ y (by simp [Op.operands])) h1 w
    exact StepOk.valSame hi rfl ⟨_, h2, h3⟩
  case unOp op t x =>
    obtain ⟨v, h1, rfl, rfl⟩ := map_same (f := id) hg
    obtain ⟨h2, h3⟩ := gUn_sound (hρ x (by simp [Op.operands])) h1 w
    exact StepOk.valSame hi rfl ⟨_, h2, h3⟩
  case convert s d x => exact StepOk.val rfl (gConv_sound hi (hρ x (by simp [Op.operands])) hg)
  case makeInterface t x =>
    obtain ⟨v, h1, rfl, rfl⟩ := map_same (f := id) hg
    exact StepOk.valSame hi rfl (gIface_sound (hρ x (by simp [Op.operands])) h1 w)
  case makeFunc fn f c =>
    injection hg with hg
    injection hg with e1 e2
    subst e1 e2
    have hf : AR μ (f.map ρ) (f.map ρ') := ⟨by simp, fun i h1 h2 => by simpa using hρ _ (by simp [Op.operands])⟩
    have hc : AR μ (c.map ρ) (c.map ρ') := ⟨by simp, fun i h1 h2 => by simpa using hρ _ (by simp [Op.operands])⟩
    exact StepOk.valSame hi rfl ⟨_, rfl, .func hf.1 hf.2 hc.1 hc.2⟩
  case makeSlice t l c => exact StepOk.val rfl (gMake_sound hi (hρ l (by simp [Op.operands])) (hρ c (by simp [Op.operands])) hg)
  case slice t x lo hh mx =>
    obtain ⟨v, h1, rfl, rfl⟩ := map_same (f := id) hg
    have hor : ∀ z : Option Operand, (∀ y, z = some y → VR μ (ρ y) (ρ' y)) → OR μ (z.map ρ) (z.map ρ') := by
      intro z hz
      cases z with
      | none => exact .inl ⟨rfl, rfl⟩
      | some y => exact .inr ⟨_, _, rfl, rfl, hz y rfl⟩
    exact StepOk.valSame hi rfl (gSlice_sound (hρ x (by simp [Op.operands])) (hor lo fun y hy => hρ y (by simp [Op.operands, hy])) (hor hh fun y hy => hρ y (by simp [Op.operands, hy])) (hor mx fun y hy => hρ y (by simp [Op.operands, hy])) h1)
  case fieldAddr s x f =>
    obtain ⟨v, h1, rfl, rfl⟩ := map_same (f := id) hg
    exact StepOk.valSame hi rfl (gFieldAddr_sound (hρ x (by simp [Op.operands])) h1)
  case field t x f =>
    obtain ⟨v, h1, rfl, rfl⟩ := map_same (f := id) hg
    exact StepOk.valSame hi rfl (gField_sound (hρ x (by simp [Op.operands])) h1)
  case indexAddr t x i =>
    obtain ⟨v, h1, rfl, rfl⟩ := map_same (f := id) hg
    exact StepOk.valSame hi rfl (gIndexAddr_sound (hρ x (by simp [Op.operands])) (hρ i (by simp [Op.operands])) h1)
  case index t x i =>
    obtain ⟨v, h1, rfl, rfl⟩ := map_same (f := id) hg
    exact StepOk.valSame hi rfl (gIndex_sound (hρ x (by simp [Op.operands])) (hρ i (by simp [Op.operands])) h1)
  case extract t i =>
    split at hg
    case h_2 => cases hg
    rename_i vs hvs
    obtain ⟨v, h1, rfl, rfl⟩ := map_same (f := id) hg
    have hx := hρ t (by simp [Op.operands])
    rw [hvs] at hx
    have hex : ∃ vs', ρ' t = .tuple vs' ∧ AR μ vs vs' := by
      generalize ρ' t = q at hx
      cases hx with
      | tuple q1 q2 => exact ⟨_, rfl, q1, q2⟩
    obtain ⟨vs', h2, h3⟩ := hex
    obtain ⟨v', h4, h5⟩ := h3.get h1
    exact StepOk.valSame hi rfl ⟨v', by simp [Instr.extract, h2, h4], h5⟩

theorem gBI_sound (hi : Inv w0 B μ h w) {b : Builtin} {ts : Array TypeId} {xs xs' : Array Value} (hx : AR μ xs xs') {gv : Value} {h' : GH} (hg : gBI P b ts.toList xs.toList h = some (gv, h')) (ty : TypeId) (cs : Array Bool) :
    ∃ s : Sem Value, builtin b ts ty cs xs' = (do pure (.value (← s))) ∧ Post w0 B μ h w gv h' (s.run P w) := by
  have one : ∀ {x : Value}, xs.toList = [x] → ∃ x', xs' = #[x'] ∧ VR μ x x' := by
    intro x hl
    have e : xs = #[x] := by apply Array.ext'; rw [hl]
    subst e
    have hs : xs'.size = 1 := hx.1.symm
    refine ⟨xs'[0], ?_, hx.2 0 (by simp) (by omega)⟩
    apply Array.ext
    · simpa using hs
    · intro i h1 h2
      have : i = 0 := by omega
      subst this
      rfl
  have two : ∀ {x y : Value}, xs.toList = [x, y] → ∃ x' y', xs' = #[x', y'] ∧ VR μ x x' ∧ VR μ y y' := by
    intro x y hl
    have e : xs = #[x, y] := by apply Array.ext'; rw [hl]
    subst e
    have hs : xs'.size = 2 := hx.1.symm
    refine ⟨xs'[0], xs'[1], ?_, hx.2 0 (by simp) (by omega), hx.2 1 (by simp) (by omega)⟩
    apply Array.ext
    · simpa using hs
    · intro i h1 h2
      have : i = 0 ∨ i = 1 := by omega
      rcases this with rfl | rfl <;> rfl
  unfold gBI at hg
  split at hg
  · rename_i t x ht hl
    obtain ⟨v, h1, rfl, rfl⟩ := map_same (f := id) hg
    obtain ⟨x', rfl, h2⟩ := one hl
    have e : ts = #[t] := by apply Array.ext'; rw [ht]
    subst e
    obtain ⟨h3, h4⟩ := gLen_sound (ty := ty) h2 h1 w
    exact ⟨_, rfl, Post.same hi h4 h3⟩
  · rename_i t x ht hl
    obtain ⟨v, h1, rfl, rfl⟩ := map_same (f := id) hg
    obtain ⟨x', rfl, h2⟩ := one hl
    have e : ts = #[t] := by apply Array.ext'; rw [ht]
    subst e
    obtain ⟨h3, h4⟩ := gCap_sound (ty := ty) h2 h1 w
    exact ⟨_, rfl, Post.same hi h4 h3⟩
  · rename_i t0 t1 s x ht hl
    obtain ⟨s', x', rfl, h2, h3⟩ := two hl
    have e : ts = #[t0, t1] := by apply Array.ext'; rw [ht]
    subst e
    exact ⟨_, rfl, gAppend_sound (ty := ty) hi h2 h3 hg⟩
  · rename_i t0 t1 d x ht hl
    obtain ⟨d', x', rfl, h2, h3⟩ := two hl
    have e : ts = #[t0, t1] := by apply Array.ext'; rw [ht]
    subst e
    exact ⟨_, rfl, gCopy_sound (ty := ty) hi h2 h3 hg⟩
  · rename_i k x k2 y hl
    injection hg with hg
    injection hg with e1 e2
    subst e1 e2
    obtain ⟨x', y', rfl, h2, h3⟩ := two hl
    rw [h2.int_inv, h3.int_inv]
    exact ⟨_, rfl, Post.same hi (.int _ _) (by simp [Builtin.min_, Builtin.min2])⟩
  · rename_i k x k2 y hl
    injection hg with hg
    injection hg with e1 e2
    subst e1 e2
    obtain ⟨x', y', rfl, h2, h3⟩ := two hl
    rw [h2.int_inv, h3.int_inv]
    exact ⟨_, rfl, Post.same hi (.int _ _) (by simp [Builtin.max_, Builtin.max2])⟩
  · cases hg

/-- 'f' can be entered -/
def ent (P : Program) (f : FuncId) : Bool := match P.funcs[f]? with
  | some fn => fn.body.isSome && fn.name != "runtime.NumGoroutine"
  | none => false
theorem ent_run {f : FuncId} (hf : ent P f = true) (args : Array Value) (w : World) : (callFunc f args).run P w = .ok (.enter f args) w := by
  unfold ent at hf
  split at hf
  · rename_i fn hfn
    simp only [Bool.and_eq_true, bne_iff_ne, ne_eq] at hf
    have h1 : ¬ fn.body = none := by cases hb : fn.body <;> simp_all
    simp [callFunc, hfn, hf.2, h1]
  · cases hf

/-- THE GHOST CONTRACT of a function: from this ghost memory it comes to that one, and hands this back. -/
def GCalls (P : Program) (E : GE) (f : FuncId) (gargs : Array Value) (h : GH) (gres : Value) (h' : GH) : Prop :=
  ent P f = true ∧ ∀ (w0 : World) (B : Nat) (μ : Mu) (w : World) (args : Array Value), Inv w0 B μ h w → Base E μ h → AR μ gargs args →
    Calls P f args w fun e w' => ∃ μ' res, e = .returned res ∧ Inv w0 B μ' h' w' ∧ VR μ' gres res ∧ Ext μ μ' h h' w w'
end
end Go.Proofs.Gh
namespace Go.Proofs.Gh
open Go Go.RowKit

def TS.set (ts : TS) (d : Tmp) (v : Value) : TS := fun t => if t = d then v else ts t
theorem TS.set_at (ts : TS) (d : Nat) (v : Value) (t : Nat) : ts.set d v t = if t = d then v else ts t := rfl
def gput (ts : TS) (d : Option Tmp) (v : Value) : TS :=
  match d with
  | some d => ts.set d v
  | none => ts
theorem gput_sound {μ : Mu} {N : Nat} {ts : TS} {a : Act} (ht : TR μ N ts a.tmps) (d : Option Tmp) {v v' : Value} (hv : VR μ v v') : TR μ N (gput ts d v) (a.put d v').tmps := by
  cases d with
  | none => exact ht
  | some d =>
    refine ⟨by simpa [Act.put] using ht.1, fun t h => ?_⟩
    have h' : t < a.tmps.size := by simpa [Act.put] using h
    have e1 := Array.getElem_setIfInBounds (xs := a.tmps) (i := d) (a := v') (j := t) h'
    have e2 : (a.put (some d) v').tmps[t] = if d = t then v' else a.tmps[t] := e1
    rw [e2]
    show VR μ (TS.set ts d v t) _
    rw [TS.set_at]
    by_cases hd : d = t
    · rw [if_pos hd, if_pos hd.symm]; exact hv
    · rw [if_neg hd, if_neg (Ne.symm hd)]; exact ht.2 t h'
theorem put_defers (a : Act) (d : Option Tmp) (v : Value) : (a.put d v).defers = a.defers := by cases d <;> rfl

abbrev GQ := Exit → TS → GH → Prop

def asB : Value → Option Bool
  | .bool b => some b
  | _ => none
def gyield (ops : Array Oper) (ts : TS) (j : Nat) : Option Bool :=
  match (ops[j]?).bind (·.dst) with
  | some d => asB (ts d)
  | none => none
def gwant (ops : Array Oper) (ts : TS) (o : Oper) : Bool :=
  match o.guard with
  | none => true
  | some (j, b) => gyield ops ts j == some b

/-- the operands of an operation are told, its guard too -/
def okOp (n N : Nat) (ops : Array Oper) (o : Oper) : Bool :=
  o.op.operands.toList.all (okO n N) && (match o.guard with
    | none => true
    | some (j, _) => match (ops[j]?).bind (·.dst) with
      | some d => decide (d < N)
      | none => true)

/-- one operation: what it hands on -/
def GS (P : Program) (E : GE) (o : Oper) (ts : TS) (h : GH) (v : Value) (h' : GH) : Prop :=
  match o.op with
  | .call c => match c.callee with
    | .builtin b => gBI P b c.argTypes.toList (c.args.toList.map (geval ts)) h = some (v, h')
    | .value f => match geval ts f with
      | .func (.func g) first cap => GCalls P E g (first ++ (c.args.toList.map (geval ts)).toArray ++ cap) h v h'
      | _ => False
    | .invoke _ _ => False
  | op => gop P (geval ts) op h = some (v, h')

/-- a state of a walk and the ghost's -/
structure St (E : GE) (N : Nat) (w0 : World) (B : Nat) (μ0 : Mu) (h0 : GH) (ws : World) (μ : Mu) (ts : TS) (h : GH) (a : Act) (w : World) : Prop where
  inv : Inv w0 B μ h w
  base : Base E μ h
  tr : TR μ N ts a.tmps
  defers : a.defers = []
  ext : Ext μ0 μ h0 h ws w
def RQ (E : GE) (N : Nat) (w0 : World) (B : Nat) (μ0 : Mu) (h0 : GH) (ws : World) (Q : GQ) : Exit → Act → World → Prop :=
  fun ex a w => ∃ μ ts h, St E N w0 B μ0 h0 ws μ ts h a w ∧ Q ex ts h

theorem yielded_eq {μ : Mu} {N : Nat} {ts : TS} {a : Act} (ht : TR μ N ts a.tmps) (ops : Array Oper) (j : Nat) (hj : ∀ d, (ops[j]?).bind (·.dst) = some d → d < N) : yielded ops a.tmps j = gyield ops ts j := by
  unfold yielded gyield
  cases hd : (ops[j]?).bind (·.dst) with
  | none => rfl
  | some d =>
    simp only [Option.bind_some]
    have hlt' : d < a.tmps.size := ht.1 ▸ hj d hd
    rw [Array.getElem?_eq_getElem hlt']
    have hv := ht.2 d hlt'
    generalize ts d = x at hv
    generalize a.tmps[d] = y at hv
    cases hv <;> rfl
theorem wanted_eq {μ : Mu} {n N : Nat} {ts : TS} {a : Act} (ht : TR μ N ts a.tmps) {ops : Array Oper} {o : Oper} (hok : okOp n N ops o = true) : Region.wanted o (yielded ops a.tmps) = gwant ops ts o := by
  unfold Region.wanted gwant
  simp only [okOp, Bool.and_eq_true] at hok
  cases hg : o.guard with
  | none => rfl
  | some p =>
    obtain ⟨j, b⟩ := p
    simp only [hg] at hok
    simp only
    rw [yielded_eq ht]
    intro d hd
    simpa [hd] using hok.2

section
variable {P : Program} {E : GE} {N : Nat} {w0 : World} {B : Nat} {μ0 : Mu} {h0 : GH} {ws : World}

/-- the step of one operation, from any ghost memory that the world stands to -/
theorem GS_sound {μ : Mu} {ts : TS} {h : GH} {a : Act} {w : World} (hi : Inv w0 B μ h w) (hb : Base E μ h) {o : Oper} (hρ : ∀ x ∈ o.op.operands, VR μ (geval ts x) (a.eval x)) {v : Value} {h' : GH} (hs : GS P E o ts h v h')
    {next : Act → World → Prop} (Q : Exit → Act → World → Prop) (hn : ∀ μ' v' w', Inv w0 B μ' h' w' → VR μ' v v' → Ext μ μ' h h' w w' → next (a.put o.dst v') w') : o.wp P a w next Q := by
  unfold Oper.wp
  unfold GS at hs
  split at hs
  · rename_i c hc
    have hargs : AR μ (c.args.toList.map (geval ts)).toArray (c.args.map a.eval) := by
      refine ⟨by simp, fun i h1 h2 => ?_⟩
      have : c.args[i]'(by simpa using h1) ∈ o.op.operands := by
        rw [hc]
        simp only [Op.operands, Call.operands, Array.mem_append]
        exact .inr (Array.getElem_mem _)
      simpa using hρ _ this
    split at hs
    · rename_i b hb
      have hg' : gBI P b c.argTypes.toList (c.args.toList.map (geval ts)).toArray.toList h = some (v, h') := by simpa using hs
      have key : ∀ cs : Array Bool, ∃ μ' v' w', (builtin b c.argTypes o.type cs (c.args.map a.eval)).run P w = .ok (.value v') w' ∧ Inv w0 B μ' h' w' ∧ VR μ' v v' ∧ Ext μ μ' h h' w w' := by
        intro cs
        obtain ⟨s, h1, μ', v', w', h2, h3, h4, h5⟩ := gBI_sound hi hargs hg' o.type cs
        exact ⟨μ', v', w', by simp only [h1, Sem.run_bind, h2, Result.andThen_ok, Sem.run_pure], h3, h4, h5⟩
      obtain ⟨μ', v', w', he, h3, h4, h5⟩ : ∃ μ' v' w', (execOp a.eval o).run P w = .ok (.value v') w' ∧ Inv w0 B μ' h' w' ∧ VR μ' v v' ∧ Ext μ μ' h h' w w' := by
        simp only [execOp, hc, resolve, hb, Sem.run_bind, Sem.run_pure, Result.andThen_ok, invoke]
        exact key _
      rw [he, Oper.upon_value]
      exact hn μ' v' w' h3 h4 h5
    · rename_i f hf
      split at hs
      case h_2 => exact hs.elim
      rename_i g first cap hfv
      have hvf : VR μ (geval ts f) (a.eval f) := hρ f (by
        rw [hc]
        simp [Op.operands, Call.operands, hf])
      rw [hfv] at hvf
      have hex : ∃ first' cap', a.eval f = .func (.func g) first' cap' ∧ AR μ first first' ∧ AR μ cap cap' := by
        generalize a.eval f = q at hvf
        cases hvf with
        | func q1 q2 q3 q4 => exact ⟨_, _, rfl, ⟨q1, q2⟩, ⟨q3, q4⟩⟩
      obtain ⟨first', cap', h1, h2, h3⟩ := hex
      have he : (execOp a.eval o).run P w = .ok (.enter g (first' ++ c.args.map a.eval ++ cap')) w := by
        simp only [execOp, hc, resolve, hf, h1, Deferred.ofValue, Sem.run_bind, Sem.run_pure, Result.andThen_ok, invoke, ent_run hs.1]
      rw [he, Oper.upon_enter]
      refine (hs.2 w0 B μ w _ hi hb ((h2.append hargs).append h3)).mono ?_
      rintro e w' ⟨μ', res, rfl, h4, h5, h6⟩
      exact hn μ' res w' h4 h5 h6
    · exact hs.elim
  · rename_i hnc
    obtain ⟨μ', v', w', h1, h2, h3, h4⟩ := gop_sound hi hρ hs
    rw [h1]
    exact hn μ' v' w' h2 h3 h4

theorem St.operands {μ : Mu} {ts : TS} {h : GH} {a : Act} {w : World} (st : St E N w0 B μ0 h0 ws μ ts h a w) {ops : Array Oper} {o : Oper} (hok : okOp E.n N ops o = true) : ∀ x ∈ o.op.operands, VR μ (geval ts x) (a.eval x) := by
  intro x hx
  simp only [okOp, Bool.and_eq_true] at hok
  exact geval_sound st.base st.tr (List.all_eq_true.1 hok.1 x (Array.mem_toList_iff.2 hx))
theorem St.next {μ μ' : Mu} {ts : TS} {h h' : GH} {a : Act} {w w' : World} (st : St E N w0 B μ0 h0 ws μ ts h a w) (d : Option Tmp) {v v' : Value} (hi : Inv w0 B μ' h' w') (hv : VR μ' v v') (he : Ext μ μ' h h' w w') :
    St E N w0 B μ0 h0 ws μ' (gput ts d v) h' (a.put d v') w' :=
  ⟨hi, st.base.step he, gput_sound (st.tr.mono (he.mono st.inv.dom)) d hv, by rw [put_defers]; exact st.defers, st.ext.trans he⟩
theorem St.put {μ : Mu} {ts : TS} {h : GH} {a : Act} {w : World} (st : St E N w0 B μ0 h0 ws μ ts h a w) (d : Option Tmp) {v v' : Value} (hv : VR μ v v') :
    St E N w0 B μ0 h0 ws μ (gput ts d v) h (a.put d v') w :=
  ⟨st.inv, st.base, gput_sound st.tr d hv, by rw [put_defers]; exact st.defers, st.ext⟩

/-! ### Lists of operations, in the text's order -/
def gstep (P : Program) (E : GE) (o : Oper) (ts : TS) (h : GH) (K : Value → GH → Prop) : Prop :=
  match o.op with
  | .call c => match c.callee with
    | .builtin b => match gBI P b c.argTypes.toList (c.args.toList.map (geval ts)) h with
      | some (v, h') => K v h'
      | none => False
    | .value f => match geval ts f with
      | .func (.func g) first cap => ∃ r h', GCalls P E g (first ++ (c.args.toList.map (geval ts)).toArray ++ cap) h r h' ∧ K r h'
      | _ => False
    | .invoke _ _ => False
  | op => match gop P (geval ts) op h with
    | some (v, h') => K v h'
    | none => False
theorem gstep_GS {o : Oper} {ts : TS} {h : GH} {K : Value → GH → Prop} (hs : gstep P E o ts h K) : ∃ v h', GS P E o ts h v h' ∧ K v h' := by
  unfold gstep at hs
  unfold GS
  split at hs
  · split at hs
    · split at hs
      · rename_i h1
        exact ⟨_, _, h1, hs⟩
      · exact hs.elim
    · split at hs
      · obtain ⟨r, h', h1, h2⟩ := hs
        exact ⟨r, h', h1, h2⟩
      · exact hs.elim
    · exact hs.elim
  · split at hs
    · rename_i h1
      exact ⟨_, _, h1, hs⟩
    · exact hs.elim
theorem gstep_of {o : Oper} {ts : TS} {h : GH} {K : Value → GH → Prop} {v : Value} {h' : GH} (hs : GS P E o ts h v h') (hk : K v h') : gstep P E o ts h K := by
  unfold GS at hs
  unfold gstep
  split at hs
  · split at hs
    · simp only [hs]
      exact hk
    · split at hs
      · exact ⟨_, _, hs, hk⟩
      · exact hs.elim
    · exact hs.elim
  · simp only [hs]
    exact hk

def gList (P : Program) (E : GE) (ops : Array Oper) (K : TS → GH → Prop) : List Oper → TS → GH → Prop
  | [], ts, h => K ts h
  | o :: rest, ts, h =>
    if gwant ops ts o = true then gstep P E o ts h fun v h' => gList P E ops K rest (gput ts o.dst v) h'
    else gList P E ops K rest (gput ts o.dst undef) h
theorem gList_sound {ops : Array Oper} {Q : GQ} : ∀ (l : List Oper) {μ : Mu} {ts : TS} {h : GH} {a : Act} {w : World}, St E N w0 B μ0 h0 ws μ ts h a w → l.all (okOp E.n N ops) = true →
    gList P E ops (fun ts h => Q .normal ts h) l ts h → wpList P ops (RQ E N w0 B μ0 h0 ws Q) l a w
  | [], _, _, _, _, _, st, _, hg => ⟨_, _, _, st, hg⟩
  | o :: rest, μ, ts, h, a, w, st, hok, hg => by
    rw [List.all_cons, Bool.and_eq_true] at hok
    rw [gList] at hg
    rw [wpList, wanted_eq st.tr hok.1]
    split at hg
    · rename_i hw
      rw [if_pos hw]
      obtain ⟨v, h', hs, hk⟩ := gstep_GS hg
      refine .inl (GS_sound st.inv st.base (st.operands hok.1) hs _ ?_)
      intro μ' v' w' h1 h2 h3
      exact gList_sound rest (st.next o.dst h1 h2 h3) hok.2 hk
    · rename_i hw
      rw [if_neg hw]
      exact gList_sound rest (st.put o.dst VR.undef) hok.2 hg
end
end Go.Proofs.Gh
namespace Go.Proofs.Gh
open Go Go.RowKit

/-! ### Regions that draw their order -/
/-- what an operation does to the memory: 0 nothing, 1 reads, 2 makes a block, 3 any other thing -/
def cls (P : Program) (o : Oper) : Nat :=
  match o.op with
  | .move _ | .assign _ | .pick _ _ _ | .build _ _ | .nilCheck _ | .binOp _ _ _ _ _ | .unOp _ _ _ | .makeInterface _ _ | .makeFunc _ _ _ | .slice _ _ _ _ _ | .fieldAddr _ _ _ | .field _ _ _ | .indexAddr _ _ _ | .index _ _ _ | .extract _ _ => 0
  | .convert _ d _ => match P.underlying d with
    | some (.int _) => 0
    | _ => 3
  | .load _ _ => 1
  | .alloc _ | .box _ _ | .buildSlice _ _ _ | .makeSlice _ _ _ => 2
  | .call c => match c.callee with
    | .builtin .len | .builtin .cap | .builtin .min | .builtin .max => 0
    | _ => 3
  | _ => 3

section
variable {P : Program} {E : GE} {o : Oper} {ts : TS} {h h' : GH} {v : Value}
theorem map_pure {α : Type} {x : Option α} {f : α → Value} (hg : (x.map fun v => (f v, h)) = some (v, h')) : h' = h ∧ ∀ h2 : GH, (x.map fun v => (f v, h2)) = some (v, h2) := by
  obtain ⟨y, h1, h2, h3⟩ := map_same hg
  subst h1 h2 h3
  exact ⟨rfl, fun _ => rfl⟩
theorem GS_pure (hc : cls P o = 0) (hs : GS P E o ts h v h') : h' = h ∧ ∀ h2, GS P E o ts h2 v h2 := by
  obtain ⟨dst, op, type, pos, after, guard⟩ := o
  unfold cls at hc
  unfold GS at hs ⊢
  simp only at hc hs ⊢
  cases op <;> simp only [gop] at hc hs ⊢ <;> try (cases hc; done)
  case call c =>
    split at hc <;> first | (cases hc; done) | skip
    all_goals rename_i hb; simp only [hb] at hs ⊢; unfold gBI at hs ⊢; split at hs <;> simp_all
    all_goals (obtain ⟨a, h1, h2, h3⟩ := hs; exact ⟨h3.symm, fun _ => h2 ▸ h1⟩)
  case pick c a b =>
    split at hs
    · rename_i t ht
      simp only [Option.some.injEq, Prod.mk.injEq] at hs ⊢
      exact ⟨hs.2.symm, fun _ => ⟨hs.1, trivial⟩⟩
    · cases hs
  case convert s d x =>
    split at hc
    · rename_i k hd
      unfold gConv at hs ⊢
      rw [hd] at hs ⊢
      split at hs <;> simp_all
    · cases hc
  case extract x i =>
    split at hs
    · rename_i vs hv
      exact map_pure (f := id) hs
    · cases hs
  case move x => simp_all
  case assign x => simp_all
  case makeFunc fn f c => simp_all
  all_goals exact map_pure (f := id) hs
theorem GS_load (hc : cls P o = 1) (hs : GS P E o ts h v h') : ∃ t x, o.op = .load t x ∧ h' = h ∧ gLoad P t (geval ts x) h = some v := by
  obtain ⟨dst, op, type, pos, after, guard⟩ := o
  unfold cls at hc
  unfold GS at hs
  simp only at hc hs ⊢
  cases op <;> simp only [gop] at hc hs ⊢ <;> try (cases hc; done)
  case load t x =>
    obtain ⟨y, h1, h2, h3⟩ := map_same (f := id) hs
    subst h2
    exact ⟨t, x, rfl, h3, h1⟩
  case call c => split at hc <;> cases hc
  case convert s d x => split at hc <;> cases hc
theorem GS_of_load {t : TypeId} {x : Operand} (ho : o.op = .load t x) (hl : gLoad P t (geval ts x) h = some v) : GS P E o ts h v h := by
  unfold GS
  rw [ho]
  simp only [gop, hl]
  rfl
/-- a value that points to the block g -/
def Poi (s : Nat → Value) : Prop := (s = fun g => .pointer (some ⟨g, 0, none⟩)) ∨ ∃ a b, s = fun g => .slice (some ⟨g, 0, none⟩) a b
theorem GS_alloc (hc : cls P o = 2) (hs : GS P E o ts h v h') : ∃ s x, Poi s ∧ x.alive = true ∧ v = s h.n ∧ h' = h.alloc x ∧ ∀ h2 : GH, GS P E o ts h2 (s h2.n) (h2.alloc x) := by
  obtain ⟨dst, op, type, pos, after, guard⟩ := o
  unfold cls at hc
  unfold GS at hs ⊢
  simp only at hc hs ⊢
  cases op <;> simp only [gop] at hc hs ⊢ <;> try (cases hc; done)
  case call c => split at hc <;> cases hc
  case convert s d x => split at hc <;> cases hc
  case alloc t =>
    unfold gAlloc at hs ⊢
    split at hs
    · rename_i z hz
      simp only [Option.some.injEq, Prod.mk.injEq] at hs
      refine ⟨_, _, .inl rfl, rfl, hs.1.symm, hs.2.symm, fun h2 => ?_⟩
      rfl
    · cases hs
  case box t x =>
    unfold gBox at hs ⊢
    split at hs
    · rename_i hz
      simp only [Option.some.injEq, Prod.mk.injEq] at hs
      exact ⟨_, _, .inl rfl, rfl, hs.1.symm, hs.2.symm, fun h2 => by rw [if_pos hz]; rfl⟩
    · cases hs
  case buildSlice t n ps =>
    unfold gBuildSlice at hs ⊢
    split at hs
    case h_2 => cases hs
    rename_i e he
    split at hs
    case h_2 => cases hs
    rename_i z hz
    split at hs
    case isFalse => cases hs
    rename_i h4
    split at hs
    case h_2 => cases hs
    rename_i c hcc
    split at hs
    case isFalse => cases hs
    rename_i h5
    simp only [Option.some.injEq, Prod.mk.injEq] at hs
    exact ⟨_, _, .inr ⟨_, _, rfl⟩, rfl, hs.1.symm, hs.2.symm, fun h2 => by rw [if_pos h4, if_pos h5]⟩
  case makeSlice t l c =>
    unfold gMake at hs ⊢
    split at hs
    case h_2 => cases hs
    split at hs
    case h_2 => cases hs
    rename_i e he
    split at hs
    case h_2 => cases hs
    rename_i z hz
    split at hs
    case isFalse => cases hs
    simp only [Option.some.injEq, Prod.mk.injEq] at hs
    refine ⟨_, _, .inr ⟨_, _, rfl⟩, rfl, hs.1.symm, hs.2.symm, fun h2 => ?_⟩
    simp_all
end

/-- a plan: the operations in the ghost's order, each with the loads that are looked at again behind it -/
abbrev Plan := List (Nat × List Nat)
def gAgain (P : Program) (ops : Array Oper) (ts : TS) (h : GH) : List Nat → Prop → Prop
  | [], K => K
  | j :: T, K => (match ops[j]? with
    | some o => match o.op, o.dst with
      | .load t x, some d => gwant ops ts o = true → gLoad P t (geval ts x) h = some (ts d)
      | _, _ => False
    | none => False) ∧ gAgain P ops ts h T K
def gD (P : Program) (E : GE) (ops : Array Oper) (K : TS → GH → Prop) : Plan → TS → GH → Prop
  | [], ts, h => K ts h
  | (i, T) :: l, ts, h => match ops[i]? with
    | some o =>
      if gwant ops ts o = true then gstep P E o ts h fun v h' => gAgain P ops ts h' T (gD P E ops K l (gput ts o.dst v) h')
      else gD P E ops K l (gput ts o.dst undef) h
    | none => False

def Again (P : Program) (ops : Array Oper) (ts : TS) (h : GH) (T : List Nat) : Prop :=
  ∀ j ∈ T, ∃ o t x d, ops[j]? = some o ∧ o.op = .load t x ∧ o.dst = some d ∧ (gwant ops ts o = true → gLoad P t (geval ts x) h = some (ts d))
theorem gAgain_spec {P : Program} {ops : Array Oper} {ts : TS} {h : GH} {K : Prop} : ∀ {T : List Nat}, gAgain P ops ts h T K → Again P ops ts h T ∧ K
  | [], hk => ⟨fun _ h => (nomatch h), hk⟩
  | j :: T, hk => by
    obtain ⟨h1, h2⟩ := hk
    obtain ⟨h3, h4⟩ := gAgain_spec h2
    refine ⟨fun i hi => ?_, h4⟩
    rcases List.mem_cons.1 hi with rfl | hi
    · split at h1
      · rename_i o ho
        split at h1
        · rename_i t x d h5 h6
          exact ⟨o, t, x, d, ho, h5, h6, h1⟩
        · exact h1.elim
      · exact h1.elim
    · exact h3 i hi

/-- what one step of the plan was -/
structure Tr1 (P : Program) (E : GE) (ops : Array Oper) (o : Oper) (T : List Nat) (ts : TS) (h : GH) (v : Value) (ts' : TS) (h' : GH) : Prop where
  put : ts' = gput ts o.dst v
  step : (gwant ops ts o = true ∧ GS P E o ts h v h' ∧ Again P ops ts h' T) ∨ (gwant ops ts o = false ∧ v = undef ∧ h' = h)
structure Trace (P : Program) (E : GE) (ops : Array Oper) (l : Plan) (TT : Nat → TS) (H : Nat → GH) (V : Nat → Value) : Prop where
  step : ∀ k i T, l[k]? = some (i, T) → ∃ o, ops[i]? = some o ∧ Tr1 P E ops o T (TT k) (H k) (V k) (TT (k + 1)) (H (k + 1))
theorem gD_trace {P : Program} {E : GE} {ops : Array Oper} {K : TS → GH → Prop} : ∀ {l : Plan} {ts : TS} {h : GH}, gD P E ops K l ts h →
    ∃ TT H V, TT 0 = ts ∧ H 0 = h ∧ Trace P E ops l TT H V ∧ K (TT l.length) (H l.length)
  | [], ts, h, hk => ⟨fun _ => ts, fun _ => h, fun _ => undef, rfl, rfl, ⟨fun k i T hl => by simp at hl⟩, hk⟩
  | (i, T) :: l, ts, h, hk => by
    rw [gD] at hk
    split at hk
    case h_2 => exact hk.elim
    rename_i o ho
    have key : ∃ v h', ((gwant ops ts o = true ∧ GS P E o ts h v h' ∧ Again P ops ts h' T) ∨ (gwant ops ts o = false ∧ v = undef ∧ h' = h)) ∧ gD P E ops K l (gput ts o.dst v) h' := by
      split at hk
      · rename_i hw
        obtain ⟨v, h', h1, h2⟩ := gstep_GS hk
        obtain ⟨h3, h4⟩ := gAgain_spec h2
        exact ⟨v, h', .inl ⟨hw, h1, h3⟩, h4⟩
      · rename_i hw
        exact ⟨undef, h, .inr ⟨by simpa using hw, rfl, rfl⟩, hk⟩
    obtain ⟨v, h', h1, h2⟩ := key
    obtain ⟨TT, H, V, h3, h4, h5, h6⟩ := gD_trace h2
    refine ⟨fun k => match k with | 0 => ts | k + 1 => TT k, fun k => match k with | 0 => h | k + 1 => H k, fun k => match k with | 0 => v | k + 1 => V k, rfl, rfl, ⟨fun k j T' hl => ?_⟩, h6⟩
    cases k with
    | zero =>
      simp only [List.getElem?_cons_zero, Option.some.injEq, Prod.mk.injEq] at hl
      obtain ⟨rfl, rfl⟩ := hl
      exact ⟨o, ho, by simp only [h3], by simpa only [h4] using h1⟩
    | succ k =>
      rw [List.getElem?_cons_succ] at hl
      exact h5.step k j T' hl
end Go.Proofs.Gh
namespace Go.Proofs.Gh
open Go Go.RowKit

structure PlanOk (P : Program) (n N : Nat) (ops : Array Oper) (l : Plan) (pos : Nat → Nat) (A : Nat → Nat → Prop) : Prop where
  place : ∀ (i : Nat) (o : Oper), ops[i]? = some o → ∃ T, l[pos i]? = some (i, T)
  inv : ∀ (k i : Nat) (T : List Nat), l[k]? = some (i, T) → pos i = k
  ok : ∀ (i : Nat) (o : Oper), ops[i]? = some o → okOp n N ops o = true
  anc : ∀ j i, A j i → ∃ (o : Oper) (e : Edge), ops[i]? = some o ∧ e ∈ o.after ∧ Region.binds .any e = true ∧ (j = e.on ∨ A j e.on)
  back : ∀ (i : Nat) (o : Oper) (e : Edge), ops[i]? = some o → e ∈ o.after → Region.binds .any e = true → e.on < ops.size ∧ pos e.on < pos i
  dst : ∀ (i j : Nat) (o o' : Oper) (d : Tmp), ops[i]? = some o → ops[j]? = some o' → o.dst = some d → o'.dst = some d → i = j
  looks : ∀ (i : Nat) (o : Oper), ops[i]? = some o → ∀ t ∈ o.looksAt ops, ∀ (j : Nat) (o' : Oper), ops[j]? = some o' → o'.dst = some t → i = j ∨ A j i ∨ A i j
  strong : ∀ (i j : Nat) (o o' : Oper), ops[i]? = some o → ops[j]? = some o' → cls P o = 3 → cls P o' = 3 → i = j ∨ A j i ∨ A i j
  alloc : ∀ (i j : Nat) (o o' : Oper), ops[i]? = some o → ops[j]? = some o' → cls P o = 2 → cls P o' = 3 → A j i ∨ A i j ∨ pos i < pos j
  load : ∀ (i j : Nat) (o o' : Oper), ops[i]? = some o → ops[j]? = some o' → cls P o = 1 → cls P o' = 3 → A j i ∨ A i j ∨ (pos i < pos j ∧ ∃ T, l[pos j]? = some (j, T) ∧ i ∈ T)
  again : ∀ (k j : Nat) (T : List Nat) (i : Nat) (o : Oper), l[k]? = some (j, T) → i ∈ T → ops[i]? = some o → pos i < k ∧ ∀ t ∈ o.looksAt ops, ∀ (m : Nat) (o' : Oper), ops[m]? = some o' → o'.dst = some t → A m i
  four : ∀ (i : Nat) (o : Oper), ops[i]? = some o → cls P o = 0 ∨ cls P o = 1 ∨ cls P o = 2 ∨ cls P o = 3

def Lst (listed : Array Bool) (i : Nat) : Prop := listed.getD i false = true
theorem Lst.set {listed : Array Bool} {i j : Nat} (hs : i < listed.size) : Lst (listed.setIfInBounds i true) j ↔ j = i ∨ Lst listed j := by
  unfold Lst
  by_cases h : i = j
  · subst h
    simp [hs]
  · rw [getD_set_ne false h]
    constructor
    · exact .inr
    · rintro (h1 | h1)
      · exact absurd h1.symm h
      · exact h1

section
variable {P : Program} {E : GE} {N : Nat} {ops : Array Oper} {l : Plan} {pos : Nat → Nat} {A : Nat → Nat → Prop} (pk : PlanOk P E.n N ops l pos A)
include pk

theorem PlanOk.A_pos : ∀ (m i j : Nat), pos i = m → A j i → pos j < pos i := by
  intro m
  induction m using Nat.strongRecOn with
  | ind m ih =>
    intro i j hm ha
    obtain ⟨o, e, h1, h2, h3, h4⟩ := pk.anc j i ha
    have hb := (pk.back i o e h1 h2 h3).2
    rcases h4 with rfl | h4
    · exact hb
    · exact Nat.lt_trans (ih (pos e.on) (hm ▸ hb) e.on j rfl h4) hb
theorem PlanOk.lt {i j : Nat} (ha : A j i) : pos j < pos i := pk.A_pos _ i j rfl ha
theorem PlanOk.inj {i j : Nat} {o o' : Oper} (hi : ops[i]? = some o) (hj : ops[j]? = some o') (h : pos i = pos j) : i = j := by
  obtain ⟨T, h1⟩ := pk.place i o hi
  obtain ⟨T', h2⟩ := pk.place j o' hj
  rw [h, h2] at h1
  injection h1 with h1
  injection h1 with h1 _
  exact h1.symm
theorem PlanOk.lst {listed : Array Bool} (down : ∀ i o e, Lst listed i → ops[i]? = some o → e ∈ o.after → Region.binds .any e = true → Lst listed e.on) :
    ∀ (m i j : Nat), pos i = m → A j i → Lst listed i → Lst listed j := by
  intro m
  induction m using Nat.strongRecOn with
  | ind m ih =>
    intro i j hm ha hl
    obtain ⟨o, e, h1, h2, h3, h4⟩ := pk.anc j i ha
    have hb := (pk.back i o e h1 h2 h3).2
    have hd := down i o e hl h1 h2 h3
    rcases h4 with rfl | h4
    · exact hd
    · exact ih (pos e.on) (hm ▸ hb) e.on j rfl h4 hd
omit pk in
theorem TT_put {TT : Nat → TS} {H : Nat → GH} {V : Nat → Value} (tc : Trace P E ops l TT H V) {k i : Nat} {T : List Nat} {o : Oper} (hl : l[k]? = some (i, T)) (ho : ops[i]? = some o) : Tr1 P E ops o T (TT k) (H k) (V k) (TT (k + 1)) (H (k + 1)) := by
  obtain ⟨o', h1, h2⟩ := tc.step k i T hl
  rw [ho] at h1
  injection h1 with h1
  subst h1
  exact h2
/-- a temporary in the ghost's run -/
theorem PlanOk.tmp {TT : Nat → TS} {H : Nat → GH} {V : Nat → Value} (tc : Trace P E ops l TT H V) : ∀ k, k ≤ l.length → ∀ t,
    (∃ i o, ops[i]? = some o ∧ o.dst = some t ∧ pos i < k ∧ TT k t = V (pos i)) ∨ ((∀ i o, ops[i]? = some o → o.dst = some t → ¬ pos i < k) ∧ TT k t = TT 0 t) := by
  intro k
  induction k with
  | zero => exact fun _ t => .inr ⟨fun _ _ _ _ => Nat.not_lt_zero _, rfl⟩
  | succ k ih =>
    intro hk t
    obtain ⟨⟨i, T⟩, hl⟩ : ∃ p, l[k]? = some p := ⟨_, List.getElem?_eq_getElem hk⟩
    obtain ⟨o, ho, tr⟩ := tc.step k i T hl
    have hp := pk.inv k i T hl
    rw [tr.put]
    cases hd : o.dst with
    | none =>
      rcases ih (by omega) t with ⟨i', o', h1, h2, h3, h4⟩ | ⟨h1, h2⟩
      · exact .inl ⟨i', o', h1, h2, by omega, h4⟩
      · refine .inr ⟨fun i' o' h3 h4 h5 => ?_, h2⟩
        have : pos i' = k := by have := h1 i' o' h3 h4; omega
        have := pk.inj h3 ho (this.trans hp.symm)
        subst this
        rw [ho] at h3
        injection h3 with h3
        subst h3
        rw [hd] at h4
        cases h4
    | some d =>
      by_cases hdt : t = d
      · subst hdt
        refine .inl ⟨i, o, ho, hd, by omega, ?_⟩
        show TS.set _ t _ t = _
        rw [TS.set_at, if_pos rfl, hp]
      · have e : gput (TT k) (some d) (V k) t = TT k t := by
          show TS.set _ d _ t = _
          rw [TS.set_at, if_neg hdt]
        rw [e]
        rcases ih (by omega) t with ⟨i', o', h1, h2, h3, h4⟩ | ⟨h1, h2⟩
        · exact .inl ⟨i', o', h1, h2, by omega, h4⟩
        · refine .inr ⟨fun i' o' h3 h4 h5 => ?_, h2⟩
          have : pos i' = k := by have := h1 i' o' h3 h4; omega
          have := pk.inj h3 ho (this.trans hp.symm)
          subst this
          rw [ho] at h3
          injection h3 with h3
          subst h3
          rw [hd] at h4
          injection h4 with h4
          exact hdt h4.symm
end

/-- the static half of the state -/
structure SS (P : Program) (ops : Array Oper) (l : Plan) (pos : Nat → Nat) (TT : Nat → TS) (V : Nat → Value) (listed : Array Bool) (f : Nat) (ts : TS) : Prop where
  size : listed.size = ops.size
  down : ∀ i o e, Lst listed i → ops[i]? = some o → e ∈ o.after → Region.binds .any e = true → Lst listed e.on
  fle : f ≤ l.length
  bef : ∀ i o, ops[i]? = some o → cls P o = 3 → pos i < f → Lst listed i
  aft : ∀ i o, ops[i]? = some o → cls P o = 2 ∨ cls P o = 3 → f ≤ pos i → ¬ Lst listed i
  c1 : ∀ i o t, ops[i]? = some o → o.dst = some t → Lst listed i → ts t = V (pos i)
  c2 : ∀ t, (∀ i o, ops[i]? = some o → o.dst = some t → ¬ Lst listed i) → ts t = TT 0 t

/-- the moving half -/
structure DD (P : Program) (E : GE) (N : Nat) (w0 : World) (B : Nat) (μ0 : Mu) (h0 : GH) (ws : World) (ops : Array Oper) (l : Plan) (TT : Nat → TS) (H : Nat → GH) (listed : Array Bool) (f : Nat) (μ : Mu) (ts : TS) (a : Act) (w : World) : Prop where
  st : St E N w0 B μ0 h0 ws μ ts (H f) a w
  mono : ∀ k, k < f → (H k).n ≤ (H (k + 1)).n
  un : ∀ k i T o, k < f → l[k]? = some (i, T) → ops[i]? = some o → cls P o = 2 → ¬ Lst listed i → gwant ops (TT k) o = true → μ (H k).n = none ∧ (H f).b (H k).n = (H (k + 1)).b (H k).n ∧ (H k).n < (H f).n
  hn : h0.n ≤ (H 0).n

section
variable {P : Program} {E : GE} {N : Nat} {w0 : World} {B : Nat} {μ0 : Mu} {h0 : GH} {ws : World} {ops : Array Oper} {l : Plan} {pos : Nat → Nat} {A : Nat → Nat → Prop}
  {TT : Nat → TS} {H : Nat → GH} {V : Nat → Value} {listed : Array Bool} {f : Nat} {μ : Mu} {ts : TS} {a : Act} {w : World}

theorem DD.le (d : DD P E N w0 B μ0 h0 ws ops l TT H listed f μ ts a w) : ∀ {i j}, i ≤ j → j ≤ f → (H i).n ≤ (H j).n := by
  intro i j hij hj
  induction j with
  | zero => rw [Nat.le_zero.1 hij]; exact Nat.le_refl _
  | succ j ih =>
    rcases Nat.lt_or_ge i (j + 1) with h1 | h1
    · exact Nat.le_trans (ih (by omega) (by omega)) (d.mono j (by omega))
    · rw [Nat.le_antisymm hij h1]; exact Nat.le_refl _

/-- an operation that can come next looks at what the ghost saw -/
theorem SS.agree (pk : PlanOk P E.n N ops l pos A) (tc : Trace P E ops l TT H V) (s : SS P ops l pos TT V listed f ts) {i : Nat} {o : Oper} (ho : ops[i]? = some o) (hun : ¬ Lst listed i) (hrd : ∀ e ∈ o.after, Region.binds .any e = true → Lst listed e.on) :
    ∀ t ∈ o.looksAt ops, ts t = TT (pos i) t := by
  intro t ht
  obtain ⟨T, hl⟩ := pk.place i o ho
  have hlen : pos i ≤ l.length := Nat.le_of_lt (List.getElem?_eq_some_iff.1 hl).1
  have rdA : ∀ j, A j i → Lst listed j := by
    intro j ha
    obtain ⟨o', e, h1, h2, h3, h4⟩ := pk.anc j i ha
    rw [ho] at h1
    injection h1 with h1
    subst h1
    rcases h4 with rfl | h4
    · exact hrd e h2 h3
    · exact pk.lst s.down _ e.on j rfl h4 (hrd e h2 h3)
  rcases pk.tmp tc (pos i) hlen t with ⟨j, o', h1, h2, h3, h4⟩ | ⟨h1, h2⟩
  · rw [h4]
    refine s.c1 j o' t h1 h2 ?_
    rcases pk.looks i o ho t ht j o' h1 h2 with rfl | h5 | h5
    · omega
    · exact rdA j h5
    · have := pk.lt h5; omega
  · rw [h2]
    refine s.c2 t fun j o' h3 h4 h5 => ?_
    rcases pk.looks i o ho t ht j o' h3 h4 with rfl | h6 | h6
    · exact hun h5
    · exact h1 j o' h3 h4 (pk.lt h6)
    · exact hun (pk.lst s.down _ j i rfl h6 h5)
end
end Go.Proofs.Gh
namespace Go.Proofs.Gh
open Go Go.RowKit

section
variable {P : Program} {E : GE} {N : Nat} {w0 : World} {B : Nat} {μ0 μ : Mu} {h0 h : GH} {ws w : World} {ts : TS} {a : Act}

theorem alloc_b_lt (h : GH) (x : GB) {g : Nat} (hg : g < h.n) : (h.alloc x).b g = h.b g := by
  rw [GH.alloc_b, if_neg (Nat.ne_of_lt hg)]
/-- a block that no world has yet -/
theorem Inv.later (hi : Inv w0 B μ h w) (x : GB) : Inv w0 B μ (h.alloc x) w where
  below := hi.below
  hB := hi.hB
  dom g hg := hi.dom g (Nat.le_of_succ_le hg)
  blk g m hm ha := by
    rw [alloc_b_lt h x (hi.lt hm)] at ha ⊢
    exact hi.blk g m hm ha
  sep g g' m m' hm hm' hne h1 h2 h3 := by
    rw [alloc_b_lt h x (hi.lt hm)] at h1 h3
    rw [alloc_b_lt h x (hi.lt hm')] at h2
    exact hi.sep g g' m m' hm hm' hne h1 h2 h3
theorem St.later (st : St E N w0 B μ0 h0 ws μ ts h a w) (x : GB) : St E N w0 B μ0 h0 ws μ ts (h.alloc x) a w where
  inv := st.inv.later x
  base := ⟨Nat.le_succ_of_le st.base.1, fun g hg => ⟨(st.base.2 g hg).1, by rw [alloc_b_lt h x (Nat.lt_of_lt_of_le hg st.base.1)]; exact (st.base.2 g hg).2⟩⟩
  tr := st.tr
  defers := st.defers
  ext := {
    n := Nat.le_succ_of_le st.ext.n
    keep := st.ext.keep
    new := st.ext.new
    frame := st.ext.frame
    size := st.ext.size
    still := fun g hg hm => by rw [alloc_b_lt h x (Nat.lt_of_lt_of_le hg st.ext.n)]; exact st.ext.still g hg hm
    ros := fun g hg hr => by rw [alloc_b_lt h x (Nat.lt_of_lt_of_le hg st.ext.n)]; exact st.ext.ros g hg hr }

theorem VR.avoid {μ1 μ' μ2 : Mu} {n : Nat} (hn : μ' n = none) (h12 : ∀ i m, i ≠ n → μ1 i = some m → μ2 i = some m) {v y y0 : Value} (h1 : VR μ1 v y) (h2 : VR μ' v y0) : VR μ2 v y := by
  have ne : ∀ {i : Nat} {m : M}, μ' i = some m → i ≠ n := by
    rintro i m hm rfl
    rw [hn] at hm; cases hm
  induction h1 generalizing y0 with
  | ptr k => cases h2 with | ptr k' => exact .ptr (h12 _ _ (ne k') k)
  | slice k1 k2 k3 =>
    cases h2 with
    | slice k' _ _ => exact .slice (h12 _ _ (ne k') k1) k2 k3
    | slice0 k' _ => exact .slice (h12 _ _ (ne k') k1) k2 k3
  | slice0 k1 k2 =>
    cases h2 with
    | slice k' _ _ => exact .slice0 (h12 _ _ (ne k') k1) k2
    | slice0 k' _ => exact .slice0 (h12 _ _ (ne k') k1) k2
  | func k1 _ k3 _ ih1 ih2 => cases h2 with | func q1 q2 q3 q4 => exact .func k1 (fun i h h' => ih1 i h h' (q2 i h (q1 ▸ h))) k3 (fun i h h' => ih2 i h h' (q4 i h (q3 ▸ h)))
  | iface _ ih =>
    cases h2 with
    | iface q => exact .iface (ih q)
    | err => exact .err
  | err => exact .err
  | agg k1 _ ih => cases h2 with | agg q1 q2 => exact .agg k1 (fun i h h' => ih i h h' (q2 i h (q1 ▸ h)))
  | tuple k1 _ ih => cases h2 with | tuple q1 q2 => exact .tuple k1 (fun i h h' => ih i h h' (q2 i h (q1 ▸ h)))
  | _ => constructor

/-- the block that the ghost has had for a while is made now -/
theorem St.real (st : St E N w0 B μ0 h0 ws μ ts h a w) {g : Nat} (hg : g < h.n) (hg0 : h0.n ≤ g) (hm : μ g = none) {s : Nat → Value} (hs : Poi s) {w' : World} {μ1 : Mu} {v' : Value}
    (hi : Inv w0 B μ1 (h.alloc (h.b g)) w') (hv : VR μ1 (s h.n) v') (he : Ext μ μ1 h (h.alloc (h.b g)) w w')
    (hno : ∀ v ∈ (h.b g).cells, ∃ μ' y, VR μ' v y ∧ μ' h.n = none) (d : Option Tmp) :
    ∃ μ2, St E N w0 B μ0 h0 ws μ2 (gput ts d (s g)) h (a.put d v') w' ∧ (∀ i, i ≠ g → μ2 i = μ i) := by
  let μ2 : Mu := fun i => if i = g then μ1 h.n else if i < h.n then μ1 i else none
  have e0 : μ2 g = μ1 h.n := by simp [μ2]
  have e1 : ∀ i, i ≠ g → μ2 i = μ i := by
    intro i hne
    simp only [μ2, if_neg hne]
    split
    · rename_i hlt; exact he.keep i hlt
    · rename_i hlt; exact (st.inv.dom i (Nat.le_of_not_lt hlt)).symm
  have em : ∀ i m, μ i = some m → μ2 i = some m := by
    intro i m hx
    rw [e1 i]
    · exact hx
    · rintro rfl; rw [hm] at hx; cases hx
  have hb1 : ∀ i, i < h.n → (h.alloc (h.b g)).b i = h.b i := fun i hi => alloc_b_lt h _ hi
  have hb2 : (h.alloc (h.b g)).b h.n = h.b g := by rw [GH.alloc_b, if_pos rfl]
  -- the old name of a block
  have nm : ∀ i m, μ2 i = some m → ∃ j, μ1 j = some m ∧ (h.alloc (h.b g)).b j = h.b i ∧ (j = h.n ↔ i = g) ∧ (i ≠ g → j = i) := by
    intro i m hx
    by_cases hne : i = g
    · subst hne
      rw [e0] at hx
      exact ⟨h.n, hx, hb2, by simp, fun h => absurd rfl h⟩
    · have hx' : μ i = some m := by rw [← e1 i hne]; exact hx
      have hlt := st.inv.lt hx'
      exact ⟨i, by rw [he.keep i hlt]; exact hx', hb1 i hlt, ⟨fun h => absurd h (Nat.ne_of_lt hlt), fun h => absurd h hne⟩, fun _ => rfl⟩
  have hv2 : VR μ2 (s g) v' := by
    rcases hs with rfl | ⟨p, q, rfl⟩
    · have hv1 : VR μ1 (.pointer (some ⟨h.n, 0, none⟩)) v' := hv
      show VR μ2 (.pointer (some ⟨g, 0, none⟩)) v'
      cases hv1 with
      | ptr h1 => exact .ptr (e0.trans h1)
    · have hv1 : VR μ1 (.slice (some ⟨h.n, 0, none⟩) p q) v' := hv
      show VR μ2 (.slice (some ⟨g, 0, none⟩) p q) v'
      cases hv1 with
      | slice h1 h2 h3 => exact .slice (e0.trans h1) h2 h3
      | slice0 h1 h2 => exact .slice0 (e0.trans h1) h2
  have hinv : Inv w0 B μ2 h w' := {
    below := hi.below
    hB := hi.hB
    dom := fun i hil => by
      simp only [μ2]
      rw [if_neg (by omega), if_neg (by omega)]
    blk := fun i m hx ha => by
      obtain ⟨j, h1, h2, _⟩ := nm i m hx
      rw [← h2] at ha
      obtain ⟨cs, t, fr, k⟩ := hi.blk j m h1 ha
      rw [h2] at k
      refine ⟨cs, t, fr, k.heap, fun q v hq => ?_, k.one, k.own⟩
      obtain ⟨v2, h3, h4⟩ := k.cell q v hq
      have hav : ∃ μ' y, VR μ' v y ∧ μ' h.n = none := by
        by_cases hig : i = g
        · subst hig; exact hno v (List.mem_of_getElem? hq)
        · have hx' : μ i = some m := by rw [← e1 i hig]; exact hx
          obtain ⟨cs0, t0, fr0, k0⟩ := st.inv.blk i m hx' (h2 ▸ ha)
          obtain ⟨y, _, h6⟩ := k0.cell q v hq
          exact ⟨μ, y, h6, st.inv.dom _ (Nat.le_refl _)⟩
      obtain ⟨μ', y, h5, h6⟩ := hav
      exact ⟨v2, h3, VR.avoid h6 (n := h.n) (fun i' m' hne hx' => by
        have hlt : i' < h.n := by
          have := hi.lt hx'
          rw [GH.alloc_n] at this
          omega
        have hx2 : μ i' = some m' := by rw [← he.keep i' hlt]; exact hx'
        exact em i' m' hx2) h4 h5⟩
    sep := fun i i' m m' hx hx' hne h1 h2 h3 => by
      obtain ⟨j, k1, k2, k3, k4⟩ := nm i m hx
      obtain ⟨j', k1', k2', k3', k4'⟩ := nm i' m' hx'
      rw [← k2] at h1 h3
      rw [← k2'] at h2
      refine hi.sep j j' m m' k1 k1' ?_ h1 h2 h3
      rintro rfl
      by_cases hig : i = g
      · exact hne (hig.trans (k3'.1 (k3.2 hig)).symm)
      · have := k4 hig
        by_cases hig' : i' = g
        · exact hig (k3.1 (k3'.2 hig'))
        · exact hne ((k4 hig).symm.trans (k4' hig')) }
  have hne0 : ∀ i, i < h0.n → i ≠ g := fun i hi hx => Nat.lt_irrefl _ (Nat.lt_of_lt_of_le (hx ▸ hi) hg0)
  refine ⟨μ2, ⟨hinv, ⟨st.base.1, fun i hi' => ⟨?_, (st.base.2 i hi').2⟩⟩, gput_sound (st.tr.mono em) d hv2, by rw [put_defers]; exact st.defers, ?_⟩, e1⟩
  · exact em _ _ (st.base.2 i hi').1
  · exact {
      n := st.ext.n
      keep := fun i hi' => (e1 i (hne0 i hi')).trans (st.ext.keep i hi')
      new := fun i m' hi' hx => by
        have img : ∀ j m1, μ j = some m1 → (∃ g0 m0, μ0 g0 = some m0 ∧ m0.r = m1.r) ∨ ws.heap.size ≤ m1.r := by
          intro j m1 hj
          rcases Nat.lt_or_ge j h0.n with h1 | h1
          · rw [st.ext.keep j h1] at hj; exact .inl ⟨j, m1, hj, rfl⟩
          · exact st.ext.new j m1 h1 hj
        by_cases hig : i = g
        · subst hig
          rw [e0] at hx
          rcases he.new h.n m' (Nat.le_refl _) hx with ⟨g0, m0, h1, h2⟩ | h1
          · rw [← h2]; exact img g0 m0 h1
          · exact .inr (Nat.le_trans st.ext.size h1)
        · rw [e1 i hig] at hx; exact img i m' hx
      frame := fun r hr hno' => by
        rw [he.frame r (Nat.lt_of_lt_of_le hr st.ext.size), st.ext.frame r hr hno']
        intro j m1 hj he'
        rcases Nat.lt_or_ge j h0.n with h1 | h1
        · rw [st.ext.keep j h1] at hj; exact hno' j m1 hj he'
        · rcases st.ext.new j m1 h1 hj with ⟨g0, m0, h2, h3⟩ | h2
          · exact hno' g0 m0 h2 (h3.trans he')
          · omega
      size := Nat.le_trans st.ext.size he.size
      still := st.ext.still
      ros := st.ext.ros }

theorem GS_gop {o : Oper} {v : Value} {h' : GH} (hc : cls P o = 2) (hs : GS P E o ts h v h') : gop P (geval ts) o.op h = some (v, h') := by
  obtain ⟨dst, op, type, pos, after, guard⟩ := o
  unfold cls at hc
  unfold GS at hs
  simp only at hc hs ⊢
  split at hs
  · simp only at hc; split at hc <;> cases hc
  · exact hs

theorem St.made {o : Oper} {tk : TS} (st : St E N w0 B μ0 h0 ws μ ts h a w) (hρ : ∀ x ∈ o.op.operands, VR μ (geval tk x) (a.eval x)) (hc : cls P o = 2) {g : Nat} {s : Nat → Value} (hs : Poi s)
    (hall : ∀ h2 : GH, GS P E o tk h2 (s h2.n) (h2.alloc (h.b g))) (hal : (h.b g).alive = true) (hg : g < h.n) (hg0 : h0.n ≤ g) (hm : μ g = none)
    {next : Act → World → Prop} (Q : Exit → Act → World → Prop) (hn : ∀ μ2 v' w', St E N w0 B μ0 h0 ws μ2 (gput ts o.dst (s g)) h (a.put o.dst v') w' → (∀ i, i ≠ g → μ2 i = μ i) → next (a.put o.dst v') w') : o.wp P a w next Q := by
  obtain ⟨μ1, v1, w1, r1, i1, q1, x1⟩ := gop_sound st.inv hρ (GS_gop hc (hall h))
  obtain ⟨μ', v2, w2, r2, i2, q2, x2⟩ := gop_sound (st.inv.later ⟨[], false, false⟩) hρ (GS_gop hc (hall (h.alloc ⟨[], false, false⟩)))
  have hw : w2 = w1 := by
    have e1 := r1 a (fun _ w' => w' = w1) (fun _ _ _ => False)
    have e2 := r2 a (fun _ w' => w' = w1) (fun _ _ _ => False)
    have e3 : (w2 = w1) = (w1 = w1) := e2.symm.trans e1
    rw [e3]
  subst hw
  unfold Oper.wp
  rw [r1]
  have hfree : μ' h.n = none := by
    rw [x2.keep h.n (by simp)]
    exact st.inv.dom _ (Nat.le_refl _)
  obtain ⟨μ2, h2, h3⟩ := st.real hg hg0 hm hs i1 q1 x1 (fun v hv => by
    obtain ⟨m, hx⟩ : ∃ m, μ' (h.n + 1) = some m := by
      rcases hs with rfl | ⟨p, q, rfl⟩
      · have q3 : VR μ' (.pointer (some ⟨h.n + 1, 0, none⟩)) v2 := q2
        cases q3 with
        | ptr k => exact ⟨_, k⟩
      · have q3 : VR μ' (.slice (some ⟨h.n + 1, 0, none⟩) p q) v2 := q2
        cases q3 with
        | slice k _ _ => exact ⟨_, k⟩
        | slice0 k _ => exact ⟨_, k⟩
    have hb : ((h.alloc ⟨[], false, false⟩).alloc (h.b g)).b (h.n + 1) = h.b g := by rw [GH.alloc_b, if_pos (by rfl)]
    obtain ⟨cs, t, fr, k⟩ := i2.blk (h.n + 1) m hx (by rw [hb]; exact hal)
    rw [hb] at k
    obtain ⟨j, hj⟩ := List.getElem?_of_mem hv
    obtain ⟨y, _, h6⟩ := k.cell j v hj
    exact ⟨μ', y, h6, hfree⟩) o.dst
  exact hn μ2 v1 w2 h2 h3
end
end Go.Proofs.Gh
namespace Go.Proofs.Gh
open Go Go.RowKit

section
variable {P : Program} {E : GE} {N : Nat} {w0 : World} {B : Nat} {μ0 : Mu} {h0 : GH} {ws : World} {ops : Array Oper} {l : Plan} {pos : Nat → Nat} {A : Nat → Nat → Prop}
  {TT : Nat → TS} {H : Nat → GH} {V : Nat → Value} {listed : Array Bool} {f : Nat} {μ : Mu} {ts : TS} {a : Act} {w : World}

theorem gput_at (ts : TS) (d : Option Tmp) (v : Value) (t : Tmp) : gput ts d v t = if d = some t then v else ts t := by
  cases d with
  | none => rfl
  | some d =>
    show TS.set ts d v t = _
    rw [TS.set_at]
    by_cases h : t = d
    · subst h; simp
    · rw [if_neg h, if_neg]; intro h1; injection h1 with h1; exact h h1.symm

/-- the static half behind one more operation -/
theorem SS.step (pk : PlanOk P E.n N ops l pos A) (s : SS P ops l pos TT V listed f ts) {i : Nat} {o : Oper} (ho : ops[i]? = some o) (hun : ¬ Lst listed i) (hrd : ∀ e ∈ o.after, Region.binds .any e = true → Lst listed e.on)
    {f' : Nat} (hf : (f' = f ∧ cls P o ≠ 3 ∧ (cls P o = 2 → pos i < f)) ∨ (f' = f + 1 ∧ pos i = f ∧ f < l.length)) :
    SS P ops l pos TT V (listed.setIfInBounds i true) f' (gput ts o.dst (V (pos i))) := by
  have hs : i < listed.size := s.size ▸ (Array.getElem?_eq_some_iff.1 ho).1
  have uniq : ∀ {j o'}, ops[j]? = some o' → j = i → o' = o := by
    rintro j o' h1 rfl
    rw [ho] at h1
    injection h1 with h1
    exact h1.symm
  refine ⟨by simpa using s.size, ?_, ?_, ?_, ?_, ?_, ?_⟩
  · intro j o' e hj ho' he hb
    rw [Lst.set hs] at hj ⊢
    rcases hj with rfl | hj
    · rw [uniq ho' rfl] at he
      exact .inr (hrd e he hb)
    · exact .inr (s.down j o' e hj ho' he hb)
  · rcases hf with ⟨rfl, _⟩ | ⟨rfl, _, h⟩
    · exact s.fle
    · exact h
  · intro j o' ho' hc hlt
    rw [Lst.set hs]
    rcases hf with ⟨rfl, _⟩ | ⟨rfl, h, _⟩
    · exact .inr (s.bef j o' ho' hc hlt)
    · rcases Nat.lt_or_ge (pos j) f with h1 | h1
      · exact .inr (s.bef j o' ho' hc h1)
      · exact .inl (pk.inj ho' ho (by omega))
  · intro j o' ho' hc hle
    rw [Lst.set hs]
    rintro (rfl | hj)
    · have := uniq ho' rfl
      subst this
      rcases hf with ⟨rfl, h3, h2⟩ | ⟨rfl, h, _⟩
      · rcases hc with hc | hc
        · have := h2 hc; omega
        · exact h3 hc
      · omega
    · refine s.aft j o' ho' hc ?_ hj
      rcases hf with ⟨rfl, _⟩ | ⟨rfl, _, _⟩ <;> omega
  · intro j o' t ho' hd hj
    rw [Lst.set hs] at hj
    rw [gput_at]
    by_cases hij : j = i
    · have := uniq ho' hij
      subst this
      rw [if_pos hd, hij]
    · rw [if_neg fun h => hij (pk.dst j i o' o t ho' ho hd h)]
      exact s.c1 j o' t ho' hd (hj.resolve_left hij)
  · intro t ht
    rw [gput_at, if_neg]
    · exact s.c2 t fun j o' h1 h2 h3 => ht j o' h1 h2 ((Lst.set hs).2 (.inr h3))
    · intro hd
      exact ht i o ho hd ((Lst.set hs).2 (.inl rfl))

/-- the front: the first operation of the strong kind that isn't listed -/
def Front (P : Program) (ops : Array Oper) (l : Plan) (pos : Nat → Nat) (listed : Array Bool) (f : Nat) : Prop :=
  f = l.length ∨ ∃ (i : Nat) (o : Oper), ops[i]? = some o ∧ pos i = f ∧ cls P o = 3 ∧ ¬ Lst listed i

abbrev JJ (P : Program) (E : GE) (N : Nat) (w0 : World) (B : Nat) (μ0 : Mu) (h0 : GH) (ws : World) (ops : Array Oper) (l : Plan) (pos : Nat → Nat) (TT : Nat → TS) (H : Nat → GH) (V : Nat → Value) (listed : Array Bool) (f : Nat) (μ : Mu) (ts : TS) (a : Act) (w : World) : Prop :=
  SS P ops l pos TT V listed f ts ∧ DD P E N w0 B μ0 h0 ws ops l TT H listed f μ ts a w

/-- the ghost's memory goes ahead to the next front -/
theorem advance (pk : PlanOk P E.n N ops l pos A) (tc : Trace P E ops l TT H V) : ∀ (n f : Nat), l.length - f = n → JJ P E N w0 B μ0 h0 ws ops l pos TT H V listed f μ ts a w →
    ∃ f', JJ P E N w0 B μ0 h0 ws ops l pos TT H V listed f' μ ts a w ∧ Front P ops l pos listed f' := by
  intro n
  induction n with
  | zero =>
    intro f hn j
    have := j.1.fle
    exact ⟨f, j, .inl (by omega)⟩
  | succ n ih =>
    intro f hn ⟨s, d⟩
    have hlt : f < l.length := by omega
    obtain ⟨⟨i, T⟩, hl⟩ : ∃ p, l[f]? = some p := ⟨_, List.getElem?_eq_getElem hlt⟩
    obtain ⟨o, ho, tr⟩ := tc.step f i T hl
    have hp := pk.inv f i T hl
    by_cases hc : cls P o = 3
    · exact ⟨f, ⟨s, d⟩, .inr ⟨i, o, ho, hp, hc, s.aft i o ho (.inr hc) (Nat.le_of_eq hp.symm)⟩⟩
    have hun : cls P o = 2 → ¬ Lst listed i := fun h => s.aft i o ho (.inl h) (Nat.le_of_eq hp.symm)
    -- the memory behind it
    have key : (H (f + 1) = H f) ∨ (cls P o = 2 ∧ ∃ x, H (f + 1) = (H f).alloc x) := by
      rcases tr.step with ⟨_, h1, _⟩ | ⟨_, _, h1⟩
      · rcases pk.four i o ho with h2 | h2 | h2 | h2
        · exact .inl (GS_pure h2 h1).1
        · obtain ⟨_, _, _, h3, _⟩ := GS_load h2 h1
          exact .inl h3
        · obtain ⟨_, x, _, _, _, h3, _⟩ := GS_alloc h2 h1
          exact .inr ⟨h2, x, h3⟩
        · exact absurd h2 hc
      · exact .inl h1
    have hle : (H f).n ≤ (H (f + 1)).n := by
      rcases key with h1 | ⟨_, x, h1⟩
      · rw [h1]; exact Nat.le_refl _
      · rw [h1]; simp
    have hsame : ∀ g, g < (H f).n → (H (f + 1)).b g = (H f).b g := by
      intro g hg
      rcases key with h1 | ⟨_, x, h1⟩
      · rw [h1]
      · rw [h1, alloc_b_lt _ _ hg]
    refine ih (f + 1) (by omega) ⟨⟨s.size, s.down, hlt, ?_, ?_, s.c1, s.c2⟩, ⟨?_, ?_, ?_, d.hn⟩⟩
    · intro j o' h1 h2 h3
      rcases Nat.lt_or_ge (pos j) f with h4 | h4
      · exact s.bef j o' h1 h2 h4
      · have := pk.inj h1 ho (by omega)
        subst this
        rw [ho] at h1
        injection h1 with h1
        subst h1
        exact absurd h2 hc
    · exact fun j o' h1 h2 h3 => s.aft j o' h1 h2 (by omega)
    · rcases key with h1 | ⟨_, x, h1⟩
      · rw [h1]; exact d.st
      · rw [h1]; exact d.st.later x
    · intro k hk
      rcases Nat.lt_or_ge k f with h1 | h1
      · exact d.mono k h1
      · have : k = f := by omega
        subst this
        exact hle
    · intro k i' T' o' hk h1 h2 h3 h4 h5
      rcases Nat.lt_or_ge k f with h6 | h6
      · obtain ⟨h7, h8, h9⟩ := d.un k i' T' o' h6 h1 h2 h3 h4 h5
        exact ⟨h7, (hsame _ h9).trans h8, Nat.lt_of_lt_of_le h9 hle⟩
      · have hkf : k = f := by omega
        subst hkf
        refine ⟨d.st.inv.dom _ (Nat.le_refl _), rfl, ?_⟩
        rcases key with h7 | ⟨_, x, h7⟩
        · exfalso
          rw [hl] at h1
          injection h1 with h1
          injection h1 with h1 _
          subst h1
          rw [ho] at h2
          injection h2 with h2
          subst h2
          rcases tr.step with ⟨_, h8, _⟩ | ⟨h8, _, _⟩
          · obtain ⟨_, x, _, _, _, h9, _⟩ := GS_alloc h3 h8
            have : (H (k + 1)).n = (H k).n + 1 := by rw [h9]; rfl
            rw [h7] at this
            omega
          · rw [h8] at h5; cases h5
        · rw [h7]; simp
end
end Go.Proofs.Gh
namespace Go.Proofs.Gh
open Go Go.RowKit

section
variable {P : Program} {E : GE} {N : Nat} {w0 : World} {B : Nat} {μ0 : Mu} {h0 : GH} {ws : World} {ops : Array Oper} {l : Plan} {pos : Nat → Nat} {A : Nat → Nat → Prop}
  {TT : Nat → TS} {H : Nat → GH} {V : Nat → Value} {listed : Array Bool} {f : Nat} {μ : Mu} {ts : TS} {a : Act} {w : World}

theorem geval_agree {tk : TS} {o : Oper} (h : ∀ t ∈ o.looksAt ops, ts t = tk t) : ∀ x ∈ o.op.operands, geval tk x = geval ts x := by
  intro x hx
  cases x with
  | tmp t => exact (h t (List.mem_append_left _ (List.mem_filterMap.2 ⟨.tmp t, by simpa using hx, rfl⟩))).symm
  | _ => rfl
theorem gwant_agree {tk : TS} {o : Oper} (h : ∀ t ∈ o.looksAt ops, ts t = tk t) : gwant ops ts o = gwant ops tk o := by
  unfold gwant
  cases hg : o.guard with
  | none => rfl
  | some p =>
    obtain ⟨j, b⟩ := p
    simp only
    have : gyield ops ts j = gyield ops tk j := by
      unfold gyield
      cases hd : (ops[j]?).bind (·.dst) with
      | none => rfl
      | some d =>
        have := h d (by simp [Oper.looksAt, hg, hd])
        simp only [this]
    rw [this]

/-- no strong operation between: the memory differs by new blocks alone -/
theorem load_on {t : TypeId} {v x : Value} (pk : PlanOk P E.n N ops l pos A) (tc : Trace P E ops l TT H V) : ∀ (n k : Nat), k + n ≤ l.length → (∀ m i T o, k ≤ m → m < k + n → l[m]? = some (i, T) → ops[i]? = some o → cls P o ≠ 3) →
    gLoad P t x (H k) = some v → gLoad P t x (H (k + n)) = some v := by
  intro n
  induction n with
  | zero => exact fun k _ _ h => h
  | succ n ih =>
    intro k hk hno hl
    have h1 := ih k (by omega) (fun m i T o h1 h2 => hno m i T o h1 (by omega)) hl
    obtain ⟨⟨i, T⟩, hli⟩ : ∃ p, l[k + n]? = some p := ⟨_, List.getElem?_eq_getElem (by omega)⟩
    obtain ⟨o, ho, tr⟩ := tc.step _ i T hli
    have hc := hno (k + n) i T o (by omega) (by omega) hli ho
    have e : k + (n + 1) = k + n + 1 := by omega
    rw [e]
    rcases tr.step with ⟨_, h2, _⟩ | ⟨_, _, h2⟩
    · rcases pk.four i o ho with h3 | h3 | h3 | h3
      · rw [(GS_pure h3 h2).1]; exact h1
      · obtain ⟨_, _, _, h4, _⟩ := GS_load h3 h2
        rw [h4]; exact h1
      · obtain ⟨_, x', _, _, _, h4, _⟩ := GS_alloc h3 h2
        rw [h4]
        have hload : ∀ g o n r, (H (k + n)).load g o n = some r → True := fun _ _ _ _ _ => trivial
        have keep : ∀ (h : GH) g o' n' r, h.load g o' n' = some r → (h.alloc x').load g o' n' = some r := by
          intro h g o' n' r hr
          unfold GH.load at hr ⊢
          split at hr
          · rename_i hcnd
            have hb := alloc_b_lt h x' hcnd.1
            rw [hb, if_pos ⟨Nat.lt_succ_of_lt hcnd.1, hcnd.2⟩]
            exact hr
          · cases hr
        unfold gLoad at h1 ⊢
        split at h1
        · split at h1
          · obtain ⟨y, h5, h6⟩ := Option.map_eq_some_iff.1 h1
            rw [keep _ _ _ _ _ h5]
            simp [h6]
          · split at h1
            · rename_i h5
              rw [keep _ _ _ _ _ h5]
              exact h1
            · cases h1
          · cases h1
        · cases h1
      · exact absurd h3 hc
    · rw [h2]; exact h1

theorem step_any (pk : PlanOk P E.n N ops l pos A) (tc : Trace P E ops l TT H V) (Q : GQ) (j : JJ P E N w0 B μ0 h0 ws ops l pos TT H V listed f μ ts a w) (hf : Front P ops l pos listed f)
    {i : Nat} (hr : i ∈ Region.ready .any ops listed) {K : Act → World → Prop}
    (hK : ∀ f' μ' ts' a' w', JJ P E N w0 B μ0 h0 ws ops l pos TT H V (listed.setIfInBounds i true) f' μ' ts' a' w' → Front P ops l pos (listed.setIfInBounds i true) f' → K a' w') :
    wpOp P ops (RQ E N w0 B μ0 h0 ws Q) i K a w := by
  obtain ⟨s, d⟩ := j
  obtain ⟨h1, o, ho, hrd⟩ := mem_ready.1 hr
  have hun : ¬ Lst listed i := by
    unfold Lst
    intro h2
    have hs : i < listed.size := s.size ▸ (Array.getElem?_eq_some_iff.1 ho).1
    simp only [Array.getD, hs, dif_pos] at h1 h2
    rw [h1] at h2
    cases h2
  have hrd' : ∀ e ∈ o.after, Region.binds .any e = true → Lst listed e.on := hrd
  have hs : i < listed.size := s.size ▸ (Array.getElem?_eq_some_iff.1 ho).1
  obtain ⟨T, hl⟩ := pk.place i o ho
  have tr := TT_put tc hl ho
  have hk : pos i < l.length := (List.getElem?_eq_some_iff.1 hl).1
  have hag := s.agree pk tc ho hun hrd'
  have hev := geval_agree hag
  have hok := pk.ok i o ho
  have hρ : ∀ x ∈ o.op.operands, VR μ (geval (TT (pos i)) x) (a.eval x) := fun x hx => by
    rw [hev x hx]; exact d.st.operands hok x hx
  have hw : Region.wanted o (yielded ops a.tmps) = gwant ops (TT (pos i)) o := by
    rw [wanted_eq d.st.tr hok, gwant_agree hag]
  have rdA : ∀ j, A j i → Lst listed j := by
    intro j ha
    obtain ⟨o', e, h1, h2, h3, h4⟩ := pk.anc j i ha
    rw [ho] at h1
    injection h1 with h1
    subst h1
    rcases h4 with rfl | h4
    · exact hrd' e h2 h3
    · exact pk.lst s.down _ e.on j rfl h4 (hrd' e h2 h3)
  -- where the front is
  have hfront3 : cls P o = 3 → pos i = f := by
    intro hc
    have hge : f ≤ pos i := by
      rcases Nat.lt_or_ge (pos i) f with h2 | h2
      · exact absurd (s.bef i o ho hc h2) hun
      · exact h2
    rcases hf with h2 | ⟨j, o', h2, h3, h4, h5⟩
    · omega
    · rcases pk.strong i j o o' ho h2 hc h4 with rfl | h6 | h6
      · exact h3
      · exact absurd (rdA j h6) h5
      · have := pk.lt h6; omega
  have hfront2 : cls P o = 2 → pos i < f := by
    intro hc
    rcases hf with h2 | ⟨j, o', h2, h3, h4, h5⟩
    · omega
    · rcases pk.alloc i j o o' ho h2 hc h4 with h6 | h6 | h6
      · exact absurd (rdA j h6) h5
      · have := pk.lt h6; omega
      · omega
  have unl : ∀ {j}, ¬ Lst (listed.setIfInBounds i true) j → ¬ Lst listed j := fun h h' => h ((Lst.set hs).2 (.inr h'))
  unfold wpOp
  simp only [ho]
  rw [hw]
  -- the finish, where the front stays
  have stay : ∀ μ' a' w', cls P o ≠ 3 → St E N w0 B μ0 h0 ws μ' (gput ts o.dst (V (pos i))) (H f) a' w' → (∀ k i' T' o', k < f → l[k]? = some (i', T') → ops[i']? = some o' → cls P o' = 2 → i' ≠ i → gwant ops (TT k) o' = true → μ (H k).n = none → (H k).n < (H f).n → μ' (H k).n = none) → K a' w' := by
    intro μ' a' w' hc hst hmu
    refine hK f μ' _ a' w' ⟨s.step pk ho hun hrd' (.inl ⟨rfl, hc, hfront2⟩), ⟨hst, d.mono, ?_, d.hn⟩⟩ ?_
    · intro k i' T' o' h1 h2 h3 h4 h5 h6
      obtain ⟨h7, h8, h9⟩ := d.un k i' T' o' h1 h2 h3 h4 (unl h5) h6
      exact ⟨hmu k i' T' o' h1 h2 h3 h4 (fun h => h5 ((Lst.set hs).2 (.inl h))) h6 h7 h9, h8, h9⟩
    · rcases hf with h2 | ⟨j, o', h2, h3, h4, h5⟩
      · exact .inl h2
      · refine .inr ⟨j, o', h2, h3, h4, fun h => ?_⟩
        rcases (Lst.set hs).1 h with rfl | h
        · rw [ho] at h2
          injection h2 with h2
          subst h2
          exact hc h4
        · exact h5 h
  -- the finish, where the front goes on
  have goes : ∀ μ' a' w', pos i = f → St E N w0 B μ0 h0 ws μ' (gput ts o.dst (V (pos i))) (H (f + 1)) a' w' → (H f).n ≤ (H (f + 1)).n → (∀ g, g < (H f).n → μ g = none → μ' g = none ∧ (H (f + 1)).b g = (H f).b g) → K a' w' := by
    intro μ' a' w' hp hst hle hmu
    have j' : JJ P E N w0 B μ0 h0 ws ops l pos TT H V (listed.setIfInBounds i true) (f + 1) μ' (gput ts o.dst (V (pos i))) a' w' := by
      refine ⟨s.step pk ho hun hrd' (.inr ⟨rfl, hp, hp ▸ hk⟩), ⟨hst, ?_, ?_, d.hn⟩⟩
      · intro k hk'
        rcases Nat.lt_or_ge k f with h1 | h1
        · exact d.mono k h1
        · have : k = f := by omega
          subst this
          exact hle
      · intro k i' T' o' h1 h2 h3 h4 h5 h6
        rcases Nat.lt_or_ge k f with h0 | h0
        · obtain ⟨h7, h8, h9⟩ := d.un k i' T' o' h0 h2 h3 h4 (unl h5) h6
          obtain ⟨h10, h11⟩ := hmu _ h9 h7
          exact ⟨h10, h11.trans h8, Nat.lt_of_lt_of_le h9 hle⟩
        · exfalso
          have hkf : k = f := by omega
          subst hkf
          rw [← hp, hl] at h2
          injection h2 with h2
          injection h2 with h2 _
          exact h5 ((Lst.set hs).2 (.inl h2.symm))
    obtain ⟨f', j2, hf'⟩ := advance pk tc _ (f + 1) rfl j'
    exact hK f' μ' _ a' w' j2 hf'
  rcases tr.step with ⟨hwt, hgs, hag'⟩ | ⟨hwf, hv, hh⟩
  · rw [if_pos hwt]
    refine .inl ?_
    rcases pk.four i o ho with hc | hc | hc | hc
    · -- nothing
      have hgs' := (GS_pure hc hgs).2 (H f)
      refine GS_sound d.st.inv d.st.base hρ hgs' _ ?_
      intro μ' v' w' h2 h3 h4
      refine stay μ' _ w' (by omega) (d.st.next o.dst h2 h3 h4) ?_
      intro k i' T' o' _ _ _ _ _ _ h5 h6
      rw [h4.keep _ h6]; exact h5
    · -- a load
      obtain ⟨t, x, hox, hhh, hld⟩ := GS_load hc hgs
      have hld' : gLoad P t (geval (TT (pos i)) x) (H f) = some (V (pos i)) := by
        rcases Nat.lt_or_ge f (pos i) with h2 | h2
        · -- the front is behind: it would have been ahead
          exfalso
          rcases hf with h3 | ⟨j, o', h3, h4, h5, h6⟩
          · omega
          · rcases pk.load i j o o' ho h3 hc h5 with h7 | h7 | h7
            · exact h6 (rdA j h7)
            · have := pk.lt h7; omega
            · omega
        · -- the last strong one before the front
          have last : ∀ n, pos i + n ≤ f → gLoad P t (geval (TT (pos i)) x) (H (pos i + n)) = some (V (pos i)) := by
            intro n
            induction n with
            | zero => exact fun _ => hld
            | succ n ih =>
              intro hn
              have h3 := ih (by omega)
              obtain ⟨⟨m, Tm⟩, hlm⟩ : ∃ p, l[pos i + n]? = some p := ⟨_, List.getElem?_eq_getElem (by have := s.fle; omega)⟩
              obtain ⟨om, hom, trm⟩ := tc.step _ m Tm hlm
              have hpm := pk.inv _ m Tm hlm
              by_cases hcm : cls P om = 3
              · have hlm' : Lst listed m := s.bef m om hom hcm (by omega)
                rcases pk.load i m o om ho hom hc hcm with h7 | h7 | ⟨h7, T', h8, h9⟩
                · have := pk.lt h7; omega
                · exact absurd (pk.lst s.down _ m i rfl h7 hlm') hun
                · rw [hpm, hlm] at h8
                  injection h8 with h8
                  injection h8 with _ h8
                  subst h8
                  rcases trm.step with ⟨_, _, h10⟩ | ⟨_, _, h10⟩
                  · obtain ⟨o2, t2, x2, d2, q1, q2, q3, q4⟩ := h10 i h9
                    rw [ho] at q1
                    injection q1 with q1
                    subst q1
                    rw [hox] at q2
                    injection q2 with q2 q2'
                    subst q2 q2'
                    obtain ⟨_, q5⟩ := pk.again _ m Tm i o hlm h9 ho
                    -- what it looks at stands still from its place on
                    have hstill : ∀ u ∈ o.looksAt ops, TT (pos i + n) u = TT (pos i) u := by
                      intro u hu
                      have hle := Nat.le_of_lt (List.getElem?_eq_some_iff.1 hlm).1
                      rcases pk.tmp tc (pos i + n) hle u with ⟨j1, o1, r1, r2, r3, r4⟩ | ⟨r1, r2⟩
                      · have r5 := pk.lt (q5 u hu j1 o1 r1 r2)
                        rcases pk.tmp tc (pos i) (Nat.le_of_lt hk) u with ⟨j2, o2, p1, p2, p3, p4⟩ | ⟨p1, p2⟩
                        · rw [r4, p4, pk.dst j1 j2 o1 o2 u r1 p1 r2 p2]
                        · exact absurd r5 (p1 j1 o1 r1 r2)
                      · rcases pk.tmp tc (pos i) (Nat.le_of_lt hk) u with ⟨j2, o2, p1, p2, p3, p4⟩ | ⟨p1, p2⟩
                        · exact absurd (Nat.lt_of_lt_of_le p3 (Nat.le_add_right _ n)) (r1 j2 o2 p1 p2)
                        · rw [r2, p2]
                    have hwm : gwant ops (TT (pos i + n)) o = true := by rw [gwant_agree hstill]; exact hwt
                    have h11 := q4 hwm
                    have hx : geval (TT (pos i)) x = geval (TT (pos i + n)) x := geval_agree hstill x (by simp [hox, Op.operands])
                    have hval : TT (pos i + n) d2 = V (pos i) := by
                      have hle := Nat.le_of_lt (List.getElem?_eq_some_iff.1 hlm).1
                      rcases pk.tmp tc (pos i + n) hle d2 with ⟨j1, o1, r1, r2, r3, r4⟩ | ⟨r1, _⟩
                      · rw [r4, pk.dst j1 i o1 o d2 r1 ho r2 q3]
                      · have := r1 i o ho q3
                        omega
                    rw [hx]
                    rw [hval] at h11
                    exact h11
                  · rw [show pos i + (n + 1) = pos i + n + 1 by omega, h10]; exact h3
              · exact load_on pk tc 1 (pos i + n) (by have := s.fle; omega) (fun m' i' T' o' q1 q2 q3 q4 => by
                  have : m' = pos i + n := by omega
                  subst this
                  rw [hlm] at q3
                  injection q3 with q3
                  injection q3 with q3 _
                  subst q3
                  rw [hom] at q4
                  injection q4 with q4
                  subst q4
                  exact hcm) h3
          have := last (f - pos i) (by omega)
          rwa [show pos i + (f - pos i) = f by omega] at this
      have hgs' : GS P E o (TT (pos i)) (H f) (V (pos i)) (H f) := GS_of_load hox hld'
      refine GS_sound d.st.inv d.st.base hρ hgs' _ ?_
      intro μ' v' w' h2 h3 h4
      refine stay μ' _ w' (by omega) (d.st.next o.dst h2 h3 h4) ?_
      intro k i' T' o' _ _ _ _ _ _ h5 h6
      rw [h4.keep _ h6]; exact h5
    · -- a new block
      obtain ⟨sv, x, hs1, hal, hv, hh, hall⟩ := GS_alloc hc hgs
      have hkf := hfront2 hc
      obtain ⟨h7, h8, h9⟩ := d.un (pos i) i T o hkf hl ho hc hun hwt
      have hb : (H f).b (H (pos i)).n = x := by rw [h8, hh, GH.alloc_b, if_pos rfl]
      refine d.st.made hρ hc hs1 (fun h2 => by rw [hb]; exact hall h2) (by rw [hb]; exact hal) h9 (Nat.le_trans d.hn (d.le (Nat.zero_le _) (Nat.le_of_lt hkf))) h7 _ ?_
      intro μ2 v' w' h10 h11
      rw [← hv] at h10
      refine stay μ2 _ w' (by omega) h10 ?_
      intro k i' T' o' q1 q2 q3 q4 q5 qw q6 q7
      rw [h11, q6]
      -- two blocks have two names
      intro hEq
      have trk := TT_put tc q2 q3
      have hk1 : H (k + 1) = (H k).alloc ((H (k + 1)).b (H k).n) := by
        rcases trk.step with ⟨_, r1, _⟩ | ⟨r1, _, _⟩
        · obtain ⟨_, y, _, _, _, r2, _⟩ := GS_alloc q4 r1
          rw [r2, GH.alloc_b, if_pos rfl]
        · rw [r1] at qw; cases qw
      have hk2 : (H (k + 1)).n = (H k).n + 1 := by rw [hk1]; rfl
      have hi2 : (H (pos i + 1)).n = (H (pos i)).n + 1 := by rw [hh]; rfl
      have hki : k ≠ pos i := by
        rintro rfl
        rw [hl] at q2
        injection q2 with q2
        injection q2 with q2 _
        exact q5 q2.symm
      rcases Nat.lt_or_ge k (pos i) with r1 | r1
      · have := d.le (i := k + 1) (j := pos i) r1 (Nat.le_of_lt hkf)
        omega
      · have := d.le (i := pos i + 1) (j := k) (by omega) (Nat.le_of_lt q1)
        omega
    · -- strong
      have hp := hfront3 hc
      rw [hp] at hgs hρ
      refine GS_sound d.st.inv d.st.base hρ hgs _ ?_
      intro μ' v' w' h2 h3 h4
      refine goes μ' _ w' hp (d.st.next o.dst h2 (hp ▸ h3) h4) h4.n ?_
      intro g hg hm
      exact ⟨(h4.keep g hg).trans hm, h4.still g hg hm⟩
  · rw [if_neg (by rw [hwf]; simp)]
    by_cases hc : cls P o = 3
    · have hp := hfront3 hc
      have e : H (f + 1) = H f := hp ▸ hh
      refine goes μ _ w hp ?_ ?_ ?_
      · rw [e, hv]
        exact d.st.put o.dst VR.undef
      · rw [e]; exact Nat.le_refl _
      · intro g hg hm
        exact ⟨hm, by rw [e]⟩
    · refine stay μ _ w hc ?_ (fun k i' T' o' _ _ _ _ _ _ h5 _ => h5)
      rw [hv]
      exact d.st.put o.dst VR.undef
end
end Go.Proofs.Gh
namespace Go.Proofs.Gh
open Go Go.RowKit

theorem countP_less {α : Type} {p q : α → Bool} {i : α} : ∀ {l : List α}, (∀ x ∈ l, q x = true → p x = true) → i ∈ l → p i = true → q i = false → l.countP q < l.countP p
  | [], _, h, _, _ => (nomatch h)
  | x :: l, hpq, hi, hp, hq => by
    have hle : l.countP q ≤ l.countP p := List.countP_mono_left fun y hy => hpq y (List.mem_cons_of_mem _ hy)
    rw [List.countP_cons, List.countP_cons]
    rcases List.mem_cons.1 hi with rfl | hi
    · rw [hp, hq]; simp; omega
    · have := countP_less (fun y hy => hpq y (List.mem_cons_of_mem _ hy)) hi hp hq
      have h1 := hpq x List.mem_cons_self
      cases hx : q x
      · cases p x <;> simp <;> omega
      · rw [h1 hx]; simp; omega

section
variable {P : Program} {E : GE} {N : Nat} {w0 : World} {B : Nat} {μ0 : Mu} {h0 : GH} {ws : World} {ops : Array Oper} {l : Plan} {pos : Nat → Nat} {A : Nat → Nat → Prop}
  {TT : Nat → TS} {H : Nat → GH} {V : Nat → Value} {Q : GQ}

def unl (ops : Array Oper) (listed : Array Bool) : Nat := (List.range ops.size).countP fun i => !listed.getD i false

theorem JJ.done (pk : PlanOk P E.n N ops l pos A) (tc : Trace P E ops l TT H V) (hQ : Q .normal (TT l.length) (H l.length)) {listed : Array Bool} {f : Nat} {μ : Mu} {ts : TS} {a : Act} {w : World}
    (j : JJ P E N w0 B μ0 h0 ws ops l pos TT H V listed f μ ts a w) (hf : Front P ops l pos listed f) (hall : ∀ (i : Nat) (o : Oper), ops[i]? = some o → Lst listed i) : RQ E N w0 B μ0 h0 ws Q .normal a w := by
  obtain ⟨s, d⟩ := j
  have hfl : f = l.length := by
    rcases hf with h | ⟨i, o, h1, _, _, h2⟩
    · exact h
    · exact absurd (hall i o h1) h2
  have hts : ts = TT l.length := by
    funext t
    rcases pk.tmp tc l.length (Nat.le_refl _) t with ⟨i, o, h1, h2, h3, h4⟩ | ⟨h1, h2⟩
    · rw [h4]; exact s.c1 i o t h1 h2 (hall i o h1)
    · rw [h2]
      refine s.c2 t fun i o h3 h4 => ?_
      obtain ⟨T, h5⟩ := pk.place i o h3
      exact absurd (List.getElem?_eq_some_iff.1 h5).1 (h1 i o h3 h4)
  subst hfl hts
  exact ⟨μ, _, _, d.st, hQ⟩

theorem ready_none (pk : PlanOk P E.n N ops l pos A) {listed : Array Bool} (hsz : listed.size = ops.size) (hr : Region.ready .any ops listed = []) : ∀ (i : Nat) (o : Oper), ops[i]? = some o → Lst listed i := by
  have key : ∀ (n i : Nat) (o : Oper), pos i = n → ops[i]? = some o → Lst listed i := by
    intro n
    induction n using Nat.strongRecOn with
    | ind n ih =>
      intro i o hn ho
      have hlt : i < listed.size := hsz ▸ (Array.getElem?_eq_some_iff.1 ho).1
      cases hx : listed.getD i true with
      | true =>
        unfold Lst
        simp only [Array.getD, hlt, dif_pos] at hx ⊢
        exact hx
      | false =>
        exfalso
        have : i ∈ Region.ready .any ops listed := mem_ready.2 ⟨hx, o, ho, fun e he hb => by
          obtain ⟨h1, h2⟩ := pk.back i o e ho he hb
          exact ih (pos e.on) (hn ▸ h2) e.on _ rfl (Array.getElem?_eq_getElem h1)⟩
        rw [hr] at this
        cases this
  exact fun i o ho => key _ i o rfl ho

theorem any_sound (pk : PlanOk P E.n N ops l pos A) (tc : Trace P E ops l TT H V) (hQ : Q .normal (TT l.length) (H l.length)) : ∀ (fuel : Nat) (listed : Array Bool) (f : Nat) (μ : Mu) (ts : TS) (a : Act) (w : World),
    unl ops listed ≤ fuel → JJ P E N w0 B μ0 h0 ws ops l pos TT H V listed f μ ts a w → Front P ops l pos listed f → wpAny P .any ops (RQ E N w0 B μ0 h0 ws Q) fuel listed a w := by
  intro fuel
  induction fuel with
  | zero =>
    intro listed f μ ts a w hu j hf
    have hall : ∀ (i : Nat) (o : Oper), ops[i]? = some o → Lst listed i := by
      intro i o ho
      have h0 := List.countP_eq_zero.1 (Nat.le_zero.1 hu) i (List.mem_range.2 (Array.getElem?_eq_some_iff.1 ho).1)
      unfold Lst
      simpa using h0
    refine ⟨?_, JJ.done pk tc hQ j hf hall⟩
    rcases hr : Region.ready .any ops listed with _ | ⟨i, r⟩
    · rfl
    · exfalso
      have hi : i ∈ Region.ready .any ops listed := by rw [hr]; exact List.mem_cons_self
      obtain ⟨h1, o, ho, _⟩ := mem_ready.1 hi
      have h2 := hall i o ho
      have hlt : i < listed.size := j.1.size ▸ (Array.getElem?_eq_some_iff.1 ho).1
      unfold Lst at h2
      simp only [Array.getD, hlt, dif_pos] at h1 h2
      rw [h1] at h2
      cases h2
  | succ fuel ih =>
    intro listed f μ ts a w hu j hf
    refine ⟨fun hr => JJ.done pk tc hQ j hf (ready_none pk j.1.size hr), fun i hi => step_any pk tc Q j hf hi ?_⟩
    intro f' μ' ts' a' w' j' hf'
    refine ih _ f' μ' ts' a' w' ?_ j' hf'
    obtain ⟨h1, o, ho, _⟩ := mem_ready.1 hi
    have hlt : i < listed.size := j.1.size ▸ (Array.getElem?_eq_some_iff.1 ho).1
    have : unl ops (listed.setIfInBounds i true) < unl ops listed := by
      refine countP_less (i := i) ?_ (List.mem_range.2 (j.1.size ▸ hlt)) ?_ ?_
      · intro x _ hx
        by_cases hix : i = x
        · subst hix
          simp [hlt] at hx
        · rw [getD_set_ne false hix] at hx; exact hx
      · simp only [Array.getD, hlt, dif_pos] at h1 ⊢
        simpa using h1
      · simp [hlt]
    omega

/-- A REGION THAT DRAWS ITS ORDER -/
theorem gD_sound (hm : P.follows .mixedOrders = true) (pk : PlanOk P E.n N ops l pos A) {μ : Mu} {ts : TS} {h : GH} {a : Act} {w : World} (st : St E N w0 B μ0 h0 ws μ ts h a w)
    (hg : gD P E ops (fun ts h => Q .normal ts h) l ts h) (id : Nat) : (Code.region id ops true).wp P (RQ E N w0 B μ0 h0 ws Q) a w := by
  obtain ⟨TT, H, V, h1, h2, tc, hQ⟩ := gD_trace hg
  refine wp_region_any hm ?_
  have none : ∀ i, ¬ Lst (Array.replicate ops.size false) i := by
    intro i h
    unfold Lst at h
    by_cases hi : i < ops.size
    · simp [hi] at h
    · simp [hi] at h
  have st' : St E N w0 B μ0 h0 ws μ ts h a { w with drawn := w.drawn + 1 } := by
    refine ⟨⟨?_, st.inv.hB, st.inv.dom, ?_, st.inv.sep⟩, st.base, st.tr, st.defers, ⟨st.ext.n, st.ext.keep, st.ext.new, st.ext.frame, st.ext.size, st.ext.still, st.ext.ros⟩⟩
    · exact ⟨st.inv.below.os, st.inv.below.tape, st.inv.below.output, st.inv.below.size, st.inv.below.block⟩
    · intro g m hm' ha
      obtain ⟨cs, t, fr, k⟩ := st.inv.blk g m hm' ha
      exact ⟨cs, t, fr, ⟨k.heap, k.cell, k.one, k.own⟩⟩
  have j : JJ P E N w0 B μ0 h0 ws ops l pos TT H V (Array.replicate ops.size false) 0 μ ts a { w with drawn := w.drawn + 1 } := by
    refine ⟨⟨by simp, fun i o e hi => absurd hi (none i), Nat.zero_le _, fun i o _ _ h => absurd h (Nat.not_lt_zero _), fun i o _ _ _ => none i, fun i o t _ _ hi => absurd hi (none i), fun t _ => by rw [h1]⟩,
      ⟨by rw [h2]; exact st', fun k hk => absurd hk (Nat.not_lt_zero _), fun k i T o hk => absurd hk (Nat.not_lt_zero _), by rw [h2]; exact st.ext.n⟩⟩
  obtain ⟨f', j', hf'⟩ := advance pk tc _ 0 rfl j
  refine any_sound pk tc hQ ops.size _ f' μ ts a _ ?_ j' hf'
  unfold unl
  exact Nat.le_trans List.countP_le_length (by simp)
end

/-! ### The check of a plan -/
def allL (φ : Nat → Oper → Bool) : Nat → List Oper → Bool
  | _, [] => true
  | k, o :: l => φ k o && allL φ (k + 1) l
theorem allL_spec {φ : Nat → Oper → Bool} : ∀ {l : List Oper} {k : Nat}, allL φ k l = true → ∀ (i : Nat) (o : Oper), l[i]? = some o → φ (k + i) o = true
  | [], _, _, i, o, h => by simp at h
  | o' :: l, k, ha, i, o, h => by
    simp only [allL, Bool.and_eq_true] at ha
    cases i with
    | zero =>
      simp only [List.getElem?_cons_zero, Option.some.injEq] at h
      subst h
      exact ha.1
    | succ i =>
      rw [List.getElem?_cons_succ] at h
      have := allL_spec ha.2 i o h
      rwa [show k + (i + 1) = k + 1 + i by omega]
theorem allL_ops {φ : Nat → Oper → Bool} {ops : Array Oper} (h : allL φ 0 ops.toList = true) (i : Nat) (o : Oper) (ho : ops[i]? = some o) : φ i o = true := by
  have := allL_spec h i o (by simpa using ho)
  simpa using this

def posOf (l : Plan) (i : Nat) : Nat := l.findIdx fun p => p.1 == i
/-- the operations that are ahead of an operation, as bits -/
def masks (ops : Array Oper) : List Nat :=
  ops.toList.foldl (fun acc o => acc ++ [o.after.toList.foldl (fun s e => if Region.binds .any e then s ||| 2 ^ e.on ||| acc.getD e.on 0 else s) 0]) []
def isA (m : List Nat) (n : Nat) (j i : Nat) : Bool := decide (i < n) && decide (j < n) && (m.getD i 0).testBit j

def planOk (P : Program) (n N : Nat) (ops : Array Oper) (l : Plan) (m : List Nat) : Bool :=
  let A := isA m ops.size
  (List.range l.length).all (fun k => match l[k]? with
    | some (i, T) => posOf l i == k && T.all fun j => match ops[j]? with
      | some o => decide (posOf l j < k) && (o.looksAt ops).all fun t => allL (fun q o' => o'.dst != some t || A q j) 0 ops.toList
      | none => true
    | none => true) &&
  allL (fun i o =>
    (match l[posOf l i]? with
      | some p => p.1 == i
      | none => false) && okOp n N ops o && decide (cls P o ≤ 3) &&
    (List.range ops.size).all (fun j => !A j i || o.after.toList.any fun e => Region.binds .any e && (e.on == j || A j e.on)) &&
    o.after.toList.all (fun e => !Region.binds .any e || (decide (e.on < ops.size) && decide (posOf l e.on < posOf l i))) &&
    allL (fun j o' => i == j || (
      (match o.dst with
        | some d => o'.dst != some d
        | none => true) &&
      (match o'.dst with
        | some t => !(o.looksAt ops).contains t || A j i || A i j
        | none => true) &&
      (if cls P o' = 3 then (match cls P o with
        | 3 => A j i || A i j
        | 2 => A j i || A i j || decide (posOf l i < posOf l j)
        | 1 => A j i || A i j || (decide (posOf l i < posOf l j) && match l[posOf l j]? with
          | some (q, T) => q == j && T.contains i
          | none => false)
        | _ => true) else true))) 0 ops.toList) 0 ops.toList

theorem planOk_spec {P : Program} {n N : Nat} {ops : Array Oper} {l : Plan} {m : List Nat} (h : planOk P n N ops l m = true) : PlanOk P n N ops l (posOf l) (fun j i => isA m ops.size j i = true) := by
  simp only [planOk, Bool.and_eq_true, List.all_eq_true, List.mem_range] at h
  obtain ⟨h1, h2⟩ := h
  have g1 : ∀ (k i : Nat) (T : List Nat), l[k]? = some (i, T) → posOf l i = k ∧ ∀ j ∈ T, ∀ o, ops[j]? = some o → posOf l j < k ∧ ∀ t ∈ o.looksAt ops, ∀ (q : Nat) (o' : Oper), ops[q]? = some o' → o'.dst = some t → isA m ops.size q j = true := by
    intro k i T hl
    have := h1 k (List.getElem?_eq_some_iff.1 hl).1
    simp only [hl, Bool.and_eq_true, beq_iff_eq, List.all_eq_true] at this
    refine ⟨this.1, fun j hj o ho => ?_⟩
    have := this.2 j hj
    simp only [ho, Bool.and_eq_true, decide_eq_true_eq, List.all_eq_true] at this
    refine ⟨this.1, fun t ht q o' hq hd => ?_⟩
    have := allL_ops (this.2 t ht) q o' hq
    simp only [hd, Bool.or_eq_true, bne_self_eq_false, Bool.false_eq_true, false_or] at this
    exact this
  have g2 := allL_ops h2
  simp only [Bool.and_eq_true, decide_eq_true_eq, List.all_eq_true, List.mem_range] at g2
  refine { place := ?_, inv := fun k i T hl => (g1 k i T hl).1, ok := fun i o ho => (g2 i o ho).1.1.1.1.2, anc := ?_, back := ?_, dst := ?_, looks := ?_, strong := ?_, alloc := ?_, load := ?_, again := ?_, four := ?_ }
  · intro i o ho
    have := (g2 i o ho).1.1.1.1.1
    split at this
    · rename_i p hp
      obtain ⟨i', T⟩ := p
      simp only [beq_iff_eq] at this
      subst this
      exact ⟨T, hp⟩
    · cases this
  · intro j i ha
    have ha' := ha
    simp only [isA, Bool.and_eq_true, decide_eq_true_eq] at ha
    obtain ⟨o, ho⟩ : ∃ o, ops[i]? = some o := ⟨_, Array.getElem?_eq_getElem ha.1.1⟩
    have := (g2 i o ho).1.1.2 j ha.1.2
    rw [ha'] at this
    simp only [Bool.not_true, Bool.false_or, List.any_eq_true, Bool.and_eq_true, Bool.or_eq_true, beq_iff_eq] at this
    obtain ⟨e, h3, h4, h5⟩ := this
    exact ⟨o, e, ho, by simpa using h3, h4, h5.imp Eq.symm id⟩
  · intro i o e ho he hb
    have := (g2 i o ho).1.2 e (by simpa using he)
    simpa [hb] using this
  · intro i j o o' d hi hj hd hd'
    have := allL_ops (g2 i o hi).2 j o' hj
    by_cases hij : i = j
    · exact hij
    · simp [hij, hd, hd'] at this
  · intro i o ho t ht j o' hj hd
    have := allL_ops (g2 i o ho).2 j o' hj
    by_cases hij : i = j
    · exact .inl hij
    · simp only [hd, Bool.or_eq_true, beq_iff_eq, hij, false_or, Bool.and_eq_true, Bool.not_eq_true'] at this
      rcases this.1.2 with (h3 | h3) | h3
      · rw [List.contains_eq_mem, decide_eq_false_iff_not] at h3
        exact absurd ht h3
      · exact .inr (.inl h3)
      · exact .inr (.inr h3)
  · intro i j o o' hi hj hc hc'
    have := allL_ops (g2 i o hi).2 j o' hj
    by_cases hij : i = j
    · exact .inl hij
    · simp only [hc, hc', Bool.or_eq_true, beq_iff_eq, hij, false_or, Bool.and_eq_true, if_true] at this
      exact .inr this.2
  · intro i j o o' hi hj hc hc'
    have := allL_ops (g2 i o hi).2 j o' hj
    by_cases hij : i = j
    · subst hij
      rw [hi] at hj
      injection hj with hj
      subst hj
      rw [hc] at hc'
      cases hc'
    · simp only [hc, hc', Bool.or_eq_true, beq_iff_eq, hij, false_or, Bool.and_eq_true, if_true, decide_eq_true_eq] at this
      rcases this.2 with (h3 | h3) | h3
      · exact .inl h3
      · exact .inr (.inl h3)
      · exact .inr (.inr h3)
  · intro i j o o' hi hj hc hc'
    have := allL_ops (g2 i o hi).2 j o' hj
    by_cases hij : i = j
    · subst hij
      rw [hi] at hj
      injection hj with hj
      subst hj
      rw [hc] at hc'
      cases hc'
    · simp only [hc, hc', Bool.or_eq_true, beq_iff_eq, hij, false_or, Bool.and_eq_true, if_true, decide_eq_true_eq] at this
      rcases this.2 with (h3 | h3) | ⟨h3, h4⟩
      · exact .inl h3
      · exact .inr (.inl h3)
      · refine .inr (.inr ⟨h3, ?_⟩)
        split at h4
        · rename_i q T hq
          simp only [Bool.and_eq_true, beq_iff_eq, List.contains_eq_mem, decide_eq_true_eq] at h4
          exact ⟨T, by rw [hq, h4.1], h4.2⟩
        · cases h4
  · intro k j T i o hl hi ho
    exact (g1 k j T hl).2 i hi o ho
  · intro i o ho
    have := (g2 i o ho).1.1.1.2
    omega
end Go.Proofs.Gh
namespace Go.Proofs.Gh
open Go Go.RowKit

/-! ### Code -/
def gthen (K : TS → GH → Prop) (Q : GQ) : GQ
  | .normal, ts, h => K ts h
  | e, ts, h => Q e ts h
def ginBlock (id : Nat) (Q : GQ) : GQ
  | .exit j, ts, h => if j = id then Q .normal ts h else Q (.exit j) ts h
  | e, ts, h => Q e ts h
def gnoGoto (Q : GQ) : GQ
  | .goto _, _, _ => False
  | e, ts, h => Q e ts h
def grounds (body : GQ → TS → GH → Prop) (Q : GQ) : Nat → TS → GH → Prop
  | 0, _, _ => False
  | n + 1, ts, h => body (gthen (grounds body Q n) Q) ts h

def optK (x : Option Value) (K : Value → Prop) : Prop := match x with
  | some v => K v
  | none => False
def optH (x : Option (Value × GH)) (K : Value → GH → Prop) : Prop := match x with
  | some (v, h) => K v h
  | none => False
/-- a Bool's two ways -/
def ifK (b : Bool) (X Y : Unit → Prop) : Prop := match b with | true => X () | false => Y ()
def condK (v : Value) (X Y : Unit → Prop) : Prop := match v with
  | .bool b => ifK b X Y
  | _ => False
abbrev Plans := Nat → Plan
def gwp (P : Program) (E : GE) (pl : Plans) : Code → GQ → TS → GH → Prop
  | .skip, Q, ts, h => Q .normal ts h
  | .label _, Q, ts, h => Q .normal ts h
  | .region id ops draw, Q, ts, h => match draw with
    | true => gD P E ops (fun ts h => Q .normal ts h) (pl id) ts h
    | false => gList P E ops (fun ts h => Q .normal ts h) ops.toList ts h
  | .seq x y, Q, ts, h => gwp P E pl x (gthen (gwp P E pl y Q) Q) ts h
  | .cond c x y, Q, ts, h => condK (geval ts c) (fun _ => gwp P E pl x Q ts h) (fun _ => gwp P E pl y Q ts h)
  | .block id x, Q, ts, h => gwp P E pl x (ginBlock id Q) ts h
  | .loop x, Q, ts, h => ∃ n, grounds (gwp P E pl x) Q n ts h
  | .rangeFunc _ _ _ _, _, _, _ => False
  | .refuse _, _, _, _ => False
  | .exit id, Q, ts, h => Q (.exit id) ts h
  | .scope x, Q, ts, h => gwp P E pl x (gnoGoto Q) ts h
  | .goto l, Q, ts, h => Q (.goto l) ts h
  | .ret, Q, ts, h => Q .ret ts h

/-- what is looked at once and for all -/
def codeOk (P : Program) (n N : Nat) (pl : Plans) : Code → Bool
  | .region id ops true => planOk P n N ops (pl id) (masks ops)
  | .region _ ops false => ops.toList.all (okOp n N ops)
  | .seq x y => codeOk P n N pl x && codeOk P n N pl y
  | .cond c x y => okO n N c && codeOk P n N pl x && codeOk P n N pl y
  | .block _ x => codeOk P n N pl x
  | .loop x => codeOk P n N pl x
  | .scope x => codeOk P n N pl x
  | .rangeFunc _ _ _ _ => false
  | _ => true

section
variable {P : Program} {E : GE} {pl : Plans} {N : Nat} {w0 : World} {B : Nat} {μ0 : Mu} {h0 : GH} {ws : World}

theorem gwp_sound (hm : P.follows .mixedOrders = true) : ∀ (c : Code) (Q : GQ) {μ : Mu} {ts : TS} {h : GH} {a : Act} {w : World}, codeOk P E.n N pl c = true → St E N w0 B μ0 h0 ws μ ts h a w →
    gwp P E pl c Q ts h → c.wp P (RQ E N w0 B μ0 h0 ws Q) a w := by
  intro c
  induction c with
  | skip => exact fun Q _ _ _ _ _ _ st hg => wp_skip ⟨_, _, _, st, hg⟩
  | label l => exact fun Q _ _ _ _ _ _ st hg => wp_label ⟨_, _, _, st, hg⟩
  | exit id => exact fun Q _ _ _ _ _ _ st hg => wp_exit ⟨_, _, _, st, hg⟩
  | goto l => exact fun Q _ _ _ _ _ _ st hg => wp_goto ⟨_, _, _, st, hg⟩
  | ret => exact fun Q _ _ _ _ _ _ st hg => wp_ret ⟨_, _, _, st, hg⟩
  | refuse s => exact fun Q _ _ _ _ _ _ st hg => hg.elim
  | rangeFunc f p x y => exact fun Q _ _ _ _ _ _ st hg => hg.elim
  | region id ops draw =>
    intro Q μ ts h a w hok st hg
    cases draw with
    | true => exact gD_sound hm (planOk_spec hok) st hg id
    | false => exact wp_region_list (gList_sound ops.toList st hok hg)
  | seq x y ihx ihy =>
    intro Q μ ts h a w hok st hg
    simp only [codeOk, Bool.and_eq_true] at hok
    refine wp_seq (wp_mono (ihx _ hok.1 st hg) ?_)
    rintro e a' w' ⟨μ', ts', h', st', hq⟩
    cases e with
    | normal => exact ihy Q hok.2 st' hq
    | _ => exact ⟨μ', ts', h', st', hq⟩
  | cond c x y ihx ihy =>
    intro Q μ ts h a w hok st hg
    simp only [codeOk, Bool.and_eq_true] at hok
    have hv := geval_sound st.base st.tr hok.1.1
    rw [gwp] at hg
    unfold condK at hg
    split at hg
    · rename_i b hb
      rw [hb] at hv
      have he : a.eval c = .bool b := by
        generalize a.eval c = q at hv
        cases hv
        rfl
      refine wp_cond he ?_
      cases b with
      | true => exact ihx Q hok.1.2 st hg
      | false => exact ihy Q hok.2 st hg
    · exact hg.elim
  | block id x ih =>
    intro Q μ ts h a w hok st hg
    refine wp_block (wp_mono (ih _ hok st hg) ?_)
    rintro e a' w' ⟨μ', ts', h', st', hq⟩
    cases e with
    | exit j =>
      have hq' : if j = id then Q .normal ts' h' else Q (.exit j) ts' h' := hq
      show if j = id then _ else _
      split
      · rename_i hj
        rw [if_pos hj] at hq'
        exact ⟨μ', ts', h', st', hq'⟩
      · rename_i hj
        rw [if_neg hj] at hq'
        exact ⟨μ', ts', h', st', hq'⟩
    | _ => exact ⟨μ', ts', h', st', hq⟩
  | scope x ih =>
    intro Q μ ts h a w hok st hg
    refine wp_scope_straight (wp_mono (ih _ hok st hg) ?_)
    rintro e a' w' ⟨μ', ts', h', st', hq⟩
    cases e with
    | goto l => exact hq.elim
    | _ => exact ⟨μ', ts', h', st', hq⟩
  | loop x ih =>
    intro Q μ ts h a w hok st hg
    obtain ⟨n, hn⟩ := hg
    refine wp_loop_rounds n ?_
    induction n generalizing μ ts h a w with
    | zero => exact hn.elim
    | succ n ihn =>
      rw [rounds_succ]
      refine wp_mono (ih _ hok st hn) ?_
      rintro e a' w' ⟨μ', ts', h', st', hq⟩
      cases e with
      | normal => exact ihn st' hq
      | _ => exact ⟨μ', ts', h', st', hq⟩
end
end Go.Proofs.Gh
namespace Go.Proofs.Gh
open Go Go.RowKit

/-! ### Functions -/
/-- one result, in the ghost -/
def gres1 (P : Program) (ts : TS) (h : GH) : ResultVar → Option Value
  | .tmp t => some (ts t)
  | .cell q t => gLoad P t (ts q) h
/-- what a function hands back, in the ghost -/
def gres (P : Program) (rs : List ResultVar) (ts : TS) (h : GH) (Φ : Value → Prop) : Prop :=
  match rs with
  | [] => Φ (.tuple #[])
  | [r] => optK (gres1 P ts h r) Φ
  | [r, s] => optK (gres1 P ts h r) fun x => optK (gres1 P ts h s) fun y => Φ (.tuple #[x, y])
  | [r, s, u] => optK (gres1 P ts h r) fun x => optK (gres1 P ts h s) fun y => optK (gres1 P ts h u) fun z => Φ (.tuple #[x, y, z])
  | _ => False
def resOk (N : Nat) (rs : List ResultVar) : Bool := rs.all fun r => match r with | .tmp t => decide (t < N) | .cell q _ => decide (q < N)
/-- what is looked at of a function -/
def funcOk (P : Program) (n : Nat) (pl : Plans) (f : FuncId) (np : Nat) : Bool := match P.funcs[f]? with
  | some fn => match fn.body with
    | some c => codeOk P n fn.ntmps pl c && resOk fn.ntmps fn.results.toList && fn.name != "runtime.NumGoroutine" && decide (np ≤ fn.ntmps)
    | none => false
  | none => false
def ts0 : List Value → TS
  | [], _ => undef
  | v :: _, 0 => v
  | _ :: l, t + 1 => ts0 l t
theorem ts0_get : ∀ (l : List Value) (t : Nat), ts0 l t = l.getD t undef
  | [], _ => by simp [ts0]
  | v :: l, 0 => by simp [ts0]
  | v :: l, t + 1 => by rw [ts0, ts0_get l t]; simp
/-- the end of a function -/
def gend (P : Program) (rs : List ResultVar) (Φ : Value → GH → Prop) : GQ
  | .normal, ts, h => gres P rs ts h fun v => Φ v h
  | .ret, ts, h => gres P rs ts h fun v => Φ v h
  | _, _, _ => False

def rdRes (tmps : Array Value) : ResultVar → Sem Value
  | .tmp t => pure (tmps.getD t undef)
  | .cell a t => do loadVar t (← asAddr (tmps.getD a undef))
theorem gres1_sound {μ : Mu} {N : Nat} {ts : TS} {a : Act} {w0 : World} {B : Nat} {h : GH} {w : World} {P : Program} (hi : Inv w0 B μ h w) (ht : TR μ N ts a.tmps) {r : ResultVar} (hr : resOk N [r] = true) {x : Value} (hx : gres1 P ts h r = some x) :
    ∃ v, (rdRes a.tmps r).run P w = .ok v w ∧ VR μ x v := by
  have rd : ∀ t, t < N → VR μ (ts t) (a.tmps.getD t undef) := by
    intro t ht'
    have hlt : t < a.tmps.size := ht.1 ▸ ht'
    have e : a.tmps.getD t undef = a.tmps[t] := by simp [Array.getD, hlt]
    rw [e]
    exact ht.2 t hlt
  cases r with
  | tmp t =>
    injection hx with hx
    subst hx
    refine ⟨_, rfl, rd t (by simpa [resOk] using hr)⟩
  | cell q t =>
    have hq := rd q (by simpa [resOk] using hr)
    obtain ⟨v, h1, h2⟩ := gLoad_sound hi hq hx
    refine ⟨v, ?_, h2⟩
    simp only [gres1] at hx
    unfold gLoad at hx
    split at hx
    case h_2 => cases hx
    rename_i g o hp
    rw [hp] at hq
    obtain ⟨m, _, he⟩ := hq.ptr_inv
    rw [he] at h1
    show (do loadVar t (← asAddr (a.tmps.getD q undef))).run P w = _
    rw [he]
    exact h1
theorem optK_some {x : Option Value} {K : Value → Prop} (h : optK x K) : ∃ v, x = some v ∧ K v := by
  cases x with
  | none => exact h.elim
  | some v => exact ⟨v, rfl, h⟩
theorem gres_sound {μ : Mu} {N : Nat} {ts : TS} {a : Act} {w0 : World} {B : Nat} {h : GH} {w : World} {P : Program} (hi : Inv w0 B μ h w) (ht : TR μ N ts a.tmps) {fn : Func} (hr : resOk N fn.results.toList = true) {Φ : Value → Prop} (hg : gres P fn.results.toList ts h Φ) :
    ∃ v x, (results fn a.tmps).run P w = .ok v w ∧ VR μ x v ∧ Φ x := by
  have hre : ∀ r : ResultVar, (match r with | .tmp t => pure (a.tmps.getD t undef) | .cell q t => do loadVar t (← asAddr (a.tmps.getD q undef))) = rdRes a.tmps r := by
    intro r; cases r <;> rfl
  have hres : results fn a.tmps = (do
      let vs ← fn.results.mapM (rdRes a.tmps)
      pure (if h : vs.size = 1 then vs[0] else .tuple vs)) := by
    unfold results
    congr 1
  rw [hres]
  have key : ∀ l, fn.results.toList = l → fn.results = l.toArray := fun l h => by rw [← h]
  unfold gres at hg
  split at hg
  · rename_i hl
    rw [key _ hl]
    exact ⟨_, _, by simp only [List.mapM_toArray, List.mapM_nil]; rfl, .tuple rfl (fun i h => by simp at h), hg⟩
  · rename_i r hl
    rw [hl] at hr
    rw [key _ hl]
    obtain ⟨x, h1, h2⟩ := optK_some hg
    obtain ⟨v, h3, h4⟩ := gres1_sound hi ht hr h1
    exact ⟨v, x, by simp [h3], h4, h2⟩
  · rename_i r s hl
    rw [hl] at hr
    rw [key _ hl]
    simp only [resOk, List.all_cons, Bool.and_eq_true] at hr
    obtain ⟨x, h1, h2⟩ := optK_some hg
    obtain ⟨y, k1, k2⟩ := optK_some h2
    obtain ⟨v, h3, h4⟩ := gres1_sound hi ht (by simpa [resOk] using hr.1) h1
    obtain ⟨u, k3, k4⟩ := gres1_sound hi ht (by simpa [resOk] using hr.2.1) k1
    refine ⟨.tuple #[v, u], .tuple #[x, y], by simp [h3, k3], .tuple rfl (fun i h h' => ?_), k2⟩
    have : i = 0 ∨ i = 1 := by simp at h; omega
    rcases this with rfl | rfl
    · exact h4
    · exact k4
  · rename_i r s q hl
    rw [hl] at hr
    rw [key _ hl]
    simp only [resOk, List.all_cons, Bool.and_eq_true] at hr
    obtain ⟨x, h1, h2⟩ := optK_some hg
    obtain ⟨y, k1, k2⟩ := optK_some h2
    obtain ⟨z, l1, l2⟩ := optK_some k2
    obtain ⟨v, h3, h4⟩ := gres1_sound hi ht (by simpa [resOk] using hr.1) h1
    obtain ⟨u, k3, k4⟩ := gres1_sound hi ht (by simpa [resOk] using hr.2.1) k1
    obtain ⟨t, l3, l4⟩ := gres1_sound hi ht (by simpa [resOk] using hr.2.2.1) l1
    refine ⟨.tuple #[v, u, t], .tuple #[x, y, z], by simp [h3, k3, l3], .tuple rfl (fun i h h' => ?_), l2⟩
    have : i = 0 ∨ i = 1 ∨ i = 2 := by simp at h; omega
    rcases this with rfl | rfl | rfl
    · exact h4
    · exact k4
    · exact l4
  · exact hg.elim
end Go.Proofs.Gh
namespace Go.Proofs.Gh
open Go Go.RowKit

section
variable {P : Program} {E : GE} {pl : Plans}

theorem gstep_mono {o : Oper} {ts : TS} {h : GH} {K K' : Value → GH → Prop} (hs : gstep P E o ts h K) (hk : ∀ v h', K v h' → K' v h') : gstep P E o ts h K' := by
  obtain ⟨v, h', h1, h2⟩ := gstep_GS hs
  exact gstep_of h1 (hk _ _ h2)
theorem gList_mono {ops : Array Oper} {K K' : TS → GH → Prop} (hk : ∀ t h, K t h → K' t h) : ∀ (l : List Oper) {ts : TS} {h : GH}, gList P E ops K l ts h → gList P E ops K' l ts h
  | [], _, _, hg => hk _ _ hg
  | o :: l, ts, h, hg => by
    rw [gList] at hg ⊢
    split at hg
    · rename_i hw
      rw [if_pos hw]
      exact gstep_mono hg fun v h' hh => gList_mono hk l hh
    · rename_i hw
      rw [if_neg hw]
      exact gList_mono hk l hg
theorem gList_det {ops : Array Oper} {K : TS → GH → Prop} : ∀ (l : List Oper) {ts : TS} {h : GH}, gList P E ops K l ts h → ∃ ts' h', K ts' h' ∧ gList P E ops (fun t g => t = ts' ∧ g = h') l ts h
  | [], ts, h, hg => ⟨ts, h, hg, rfl, rfl⟩
  | o :: l, ts, h, hg => by
    rw [gList] at hg
    split at hg
    · rename_i hw
      obtain ⟨v, h', h1, h2⟩ := gstep_GS hg
      obtain ⟨ts', h'', h3, h4⟩ := gList_det l h2
      refine ⟨ts', h'', h3, ?_⟩
      rw [gList, if_pos hw]
      exact gstep_of h1 h4
    · rename_i hw
      obtain ⟨ts', h'', h3, h4⟩ := gList_det l hg
      refine ⟨ts', h'', h3, ?_⟩
      rw [gList, if_neg hw]
      exact h4
theorem gAgain_iff {ops : Array Oper} {ts : TS} {h : GH} {X Y : Prop} (hxy : X → Y) : ∀ (T : List Nat), gAgain P ops ts h T X → gAgain P ops ts h T Y
  | [], hk => hxy hk
  | _ :: T, hk => ⟨hk.1, gAgain_iff hxy T hk.2⟩
theorem gD_mono {ops : Array Oper} {K K' : TS → GH → Prop} (hk : ∀ t h, K t h → K' t h) : ∀ (l : Plan) {ts : TS} {h : GH}, gD P E ops K l ts h → gD P E ops K' l ts h
  | [], _, _, hg => hk _ _ hg
  | (i, T) :: l, ts, h, hg => by
    rw [gD] at hg ⊢
    split at hg
    · rename_i o ho
      split at hg
      · rename_i hw
        rw [if_pos hw]
        exact gstep_mono hg fun v h' hh => gAgain_iff (fun hx => gD_mono hk l hx) T hh
      · rename_i hw
        rw [if_neg hw]
        exact gD_mono hk l hg
    · exact hg.elim
theorem gD_det {ops : Array Oper} {K : TS → GH → Prop} : ∀ (l : Plan) {ts : TS} {h : GH}, gD P E ops K l ts h → ∃ ts' h', K ts' h' ∧ gD P E ops (fun t g => t = ts' ∧ g = h') l ts h
  | [], ts, h, hg => ⟨ts, h, hg, rfl, rfl⟩
  | (i, T) :: l, ts, h, hg => by
    rw [gD] at hg
    split at hg
    · rename_i o ho
      split at hg
      · rename_i hw
        obtain ⟨v, h', h1, h2⟩ := gstep_GS hg
        have h2' : ∃ X, gAgain P ops ts h' T X ∧ X := ⟨_, h2, (gAgain_spec h2).2⟩
        obtain ⟨ts', h'', h3, h4⟩ := gD_det l (gAgain_spec h2).2
        refine ⟨ts', h'', h3, ?_⟩
        rw [gD, ho]
        simp only
        rw [if_pos hw]
        exact gstep_of h1 (gAgain_iff (fun _ => h4) T h2)
      · rename_i hw
        obtain ⟨ts', h'', h3, h4⟩ := gD_det l hg
        refine ⟨ts', h'', h3, ?_⟩
        rw [gD, ho]
        simp only
        rw [if_neg hw]
        exact h4
    · exact hg.elim

theorem ifK_mono {b : Bool} {X Y X' Y' : Unit → Prop} (hx : X () → X' ()) (hy : Y () → Y' ()) (h : ifK b X Y) : ifK b X' Y' := by
  cases b
  · exact hy h
  · exact hx h
theorem grounds_mono {body : GQ → TS → GH → Prop} (hb : ∀ (Q Q' : GQ) (ts : TS) (h : GH), (∀ e t g, Q e t g → Q' e t g) → body Q ts h → body Q' ts h) {Q Q' : GQ} (hq : ∀ e t g, Q e t g → Q' e t g) : ∀ (n : Nat) {ts : TS} {h : GH}, grounds body Q n ts h → grounds body Q' n ts h
  | 0, _, _, hg => hg.elim
  | n + 1, ts, h, hg => hb _ _ _ _ (fun e t g hx => by
      cases e with
      | normal => exact grounds_mono hb hq n hx
      | _ => exact hq _ _ _ hx) hg
theorem gwp_mono : ∀ (c : Code) {Q Q' : GQ} {ts : TS} {h : GH}, (∀ e t g, Q e t g → Q' e t g) → gwp P E pl c Q ts h → gwp P E pl c Q' ts h := by
  intro c
  induction c with
  | skip => exact fun hq hg => hq _ _ _ hg
  | label l => exact fun hq hg => hq _ _ _ hg
  | exit id => exact fun hq hg => hq _ _ _ hg
  | goto l => exact fun hq hg => hq _ _ _ hg
  | ret => exact fun hq hg => hq _ _ _ hg
  | refuse s => exact fun _ hg => hg.elim
  | rangeFunc f p x y => exact fun _ hg => hg.elim
  | region id ops draw =>
    intro Q Q' ts h hq hg
    cases draw with
    | true => exact gD_mono (fun _ _ => hq _ _ _) _ hg
    | false => exact gList_mono (fun _ _ => hq _ _ _) _ hg
  | seq x y ihx ihy =>
    intro Q Q' ts h hq hg
    refine ihx (fun e t g hx => ?_) hg
    cases e with
    | normal => exact ihy hq hx
    | _ => exact hq _ _ _ hx
  | cond c x y ihx ihy =>
    intro Q Q' ts h hq hg
    rw [gwp] at hg ⊢
    unfold condK at hg ⊢
    split at hg
    · exact ifK_mono (ihx hq) (ihy hq) hg
    · exact hg.elim
  | block id x ih =>
    intro Q Q' ts h hq hg
    refine ih (fun e t g hx => ?_) hg
    cases e with
    | exit j =>
      unfold ginBlock at hx ⊢
      simp only at hx ⊢
      split at hx
      · rename_i hj; rw [if_pos hj]; exact hq _ _ _ hx
      · rename_i hj; rw [if_neg hj]; exact hq _ _ _ hx
    | _ => exact hq _ _ _ hx
  | scope x ih =>
    intro Q Q' ts h hq hg
    refine ih (fun e t g hx => ?_) hg
    cases e with
    | goto l => exact hx.elim
    | _ => exact hq _ _ _ hx
  | loop x ih =>
    intro Q Q' ts h hq hg
    obtain ⟨n, hn⟩ := hg
    exact ⟨n, grounds_mono (body := gwp P E pl x) (fun _ _ _ _ hq hb => ih hq hb) hq n hn⟩

def one (e : Exit) (t : TS) (g : GH) : GQ := fun e' t' g' => e' = e ∧ t' = t ∧ g' = g
theorem one_to (e : Exit) (t : TS) (g : GH) (Q : GQ) (hq : Q e t g) : ∀ e' t' g', one e t g e' t' g' → Q e' t' g' := by
  rintro e' t' g' ⟨rfl, rfl, rfl⟩; exact hq
theorem grounds_det {body : GQ → TS → GH → Prop} (hb : ∀ (Q Q' : GQ) (ts : TS) (h : GH), (∀ e t g, Q e t g → Q' e t g) → body Q ts h → body Q' ts h)
    (hd : ∀ (Q : GQ) (ts : TS) (h : GH), body Q ts h → ∃ e t g, Q e t g ∧ body (one e t g) ts h) {Q : GQ} : ∀ (n : Nat) {ts : TS} {h : GH}, grounds body Q n ts h → ∃ e t g, Q e t g ∧ grounds body (one e t g) n ts h
  | 0, _, _, hg => hg.elim
  | n + 1, ts, h, hg => by
    obtain ⟨e, t, g, h1, h2⟩ := hd _ _ _ hg
    by_cases he : e = .normal
    · subst he
      obtain ⟨e', t', g', h3, h4⟩ := grounds_det hb hd n h1
      exact ⟨e', t', g', h3, hb _ _ _ _ (one_to .normal t g (gthen (grounds body (one e' t' g') n) (one e' t' g')) h4) h2⟩
    · refine ⟨e, t, g, ?_, hb _ _ _ _ (one_to e t g (gthen (grounds body (one e t g) n) (one e t g)) ?_) h2⟩
      · cases e <;> first | exact absurd rfl he | exact h1
      · cases e <;> first | exact absurd rfl he | exact ⟨rfl, rfl, rfl⟩
theorem gwp_det : ∀ (c : Code) {Q : GQ} {ts : TS} {h : GH}, gwp P E pl c Q ts h → ∃ e t g, Q e t g ∧ gwp P E pl c (one e t g) ts h := by
  intro c
  induction c with
  | skip => exact fun hg => ⟨_, _, _, hg, rfl, rfl, rfl⟩
  | label l => exact fun hg => ⟨_, _, _, hg, rfl, rfl, rfl⟩
  | exit id => exact fun hg => ⟨_, _, _, hg, rfl, rfl, rfl⟩
  | goto l => exact fun hg => ⟨_, _, _, hg, rfl, rfl, rfl⟩
  | ret => exact fun hg => ⟨_, _, _, hg, rfl, rfl, rfl⟩
  | refuse s => exact fun hg => hg.elim
  | rangeFunc f p x y => exact fun hg => hg.elim
  | region id ops draw =>
    intro Q ts h hg
    cases draw with
    | true =>
      obtain ⟨t, g, h1, h2⟩ := gD_det _ hg
      exact ⟨.normal, t, g, h1, gD_mono (fun _ _ hx => ⟨rfl, hx.1, hx.2⟩) _ h2⟩
    | false =>
      obtain ⟨t, g, h1, h2⟩ := gList_det _ hg
      exact ⟨.normal, t, g, h1, gList_mono (fun _ _ hx => ⟨rfl, hx.1, hx.2⟩) _ h2⟩
  | seq x y ihx ihy =>
    intro Q ts h hg
    obtain ⟨e, t, g, h1, h2⟩ := ihx hg
    by_cases he : e = .normal
    · subst he
      obtain ⟨e', t', g', h3, h4⟩ := ihy h1
      exact ⟨e', t', g', h3, gwp_mono x (one_to .normal t g (gthen (gwp P E pl y (one e' t' g')) (one e' t' g')) h4) h2⟩
    · refine ⟨e, t, g, ?_, gwp_mono x (one_to e t g (gthen (gwp P E pl y (one e t g)) (one e t g)) ?_) h2⟩
      · cases e <;> first | exact absurd rfl he | exact h1
      · cases e <;> first | exact absurd rfl he | exact ⟨rfl, rfl, rfl⟩
  | cond c x y ihx ihy =>
    intro Q ts h hg
    rw [gwp] at hg
    unfold condK at hg
    split at hg
    · rename_i b hb
      cases b with
      | true =>
        obtain ⟨e, t, g, h1, h2⟩ := ihx hg
        exact ⟨e, t, g, h1, by rw [gwp, hb]; exact h2⟩
      | false =>
        obtain ⟨e, t, g, h1, h2⟩ := ihy hg
        exact ⟨e, t, g, h1, by rw [gwp, hb]; exact h2⟩
    · exact hg.elim
  | block id x ih =>
    intro Q ts h hg
    obtain ⟨e, t, g, h1, h2⟩ := ih hg
    by_cases he : e = .exit id
    · subst he
      have h1' : Q .normal t g := by
        have : (if id = id then Q .normal t g else Q (.exit id) t g) := h1
        rwa [if_pos rfl] at this
      refine ⟨.normal, t, g, h1', gwp_mono x (one_to (.exit id) t g (ginBlock id (one .normal t g)) ?_) h2⟩
      show (if id = id then _ else _)
      rw [if_pos rfl]
      exact ⟨rfl, rfl, rfl⟩
    · cases e with
      | exit j =>
        have hj : j ≠ id := fun h => he (by rw [h])
        have h1' : Q (.exit j) t g := by
          have : (if j = id then Q .normal t g else Q (.exit j) t g) := h1
          rwa [if_neg hj] at this
        refine ⟨.exit j, t, g, h1', gwp_mono x (one_to (.exit j) t g (ginBlock id (one (.exit j) t g)) ?_) h2⟩
        show (if j = id then _ else _)
        rw [if_neg hj]
        exact ⟨rfl, rfl, rfl⟩
      | normal => exact ⟨.normal, t, g, h1, gwp_mono x (one_to .normal t g (ginBlock id (one .normal t g)) (show one .normal t g .normal t g from ⟨rfl, rfl, rfl⟩)) h2⟩
      | ret => exact ⟨.ret, t, g, h1, gwp_mono x (one_to .ret t g (ginBlock id (one .ret t g)) (show one .ret t g .ret t g from ⟨rfl, rfl, rfl⟩)) h2⟩
      | goto l => exact ⟨.goto l, t, g, h1, gwp_mono x (one_to (.goto l) t g (ginBlock id (one (.goto l) t g)) (show one (.goto l) t g (.goto l) t g from ⟨rfl, rfl, rfl⟩)) h2⟩
      | panic p => exact ⟨.panic p, t, g, h1, gwp_mono x (one_to (.panic p) t g (ginBlock id (one (.panic p) t g)) (show one (.panic p) t g (.panic p) t g from ⟨rfl, rfl, rfl⟩)) h2⟩
      | outgrown => exact ⟨.outgrown, t, g, h1, gwp_mono x (one_to .outgrown t g (ginBlock id (one .outgrown t g)) (show one .outgrown t g .outgrown t g from ⟨rfl, rfl, rfl⟩)) h2⟩
  | scope x ih =>
    intro Q ts h hg
    obtain ⟨e, t, g, h1, h2⟩ := ih hg
    cases e with
    | goto l => exact h1.elim
    | normal => exact ⟨.normal, t, g, h1, gwp_mono x (one_to .normal t g (gnoGoto (one .normal t g)) (show one .normal t g .normal t g from ⟨rfl, rfl, rfl⟩)) h2⟩
    | ret => exact ⟨.ret, t, g, h1, gwp_mono x (one_to .ret t g (gnoGoto (one .ret t g)) (show one .ret t g .ret t g from ⟨rfl, rfl, rfl⟩)) h2⟩
    | exit j => exact ⟨.exit j, t, g, h1, gwp_mono x (one_to (.exit j) t g (gnoGoto (one (.exit j) t g)) (show one (.exit j) t g (.exit j) t g from ⟨rfl, rfl, rfl⟩)) h2⟩
    | panic p => exact ⟨.panic p, t, g, h1, gwp_mono x (one_to (.panic p) t g (gnoGoto (one (.panic p) t g)) (show one (.panic p) t g (.panic p) t g from ⟨rfl, rfl, rfl⟩)) h2⟩
    | outgrown => exact ⟨.outgrown, t, g, h1, gwp_mono x (one_to .outgrown t g (gnoGoto (one .outgrown t g)) (show one .outgrown t g .outgrown t g from ⟨rfl, rfl, rfl⟩)) h2⟩
  | loop x ih =>
    intro Q ts h hg
    obtain ⟨n, hn⟩ := hg
    obtain ⟨e, t, g, h1, h2⟩ := grounds_det (body := gwp P E pl x) (fun _ _ _ _ hq hb => gwp_mono x hq hb) (fun _ _ _ hb => ih hb) n hn
    exact ⟨e, t, g, h1, n, h2⟩

/-- THE GHOST CONTRACT OF A FUNCTION, from its body's ghost walk -/
theorem gcalls_ex (hm : P.follows .mixedOrders = true) {f : FuncId} {fn : Func} {c : Code} (hf : P.funcs[f]? = some fn) (hb : fn.body = some c) {gargs : Array Value} (hok : funcOk P E.n pl f gargs.size = true) {h : GH} {Φ : Value → GH → Prop}
    (hg : gwp P E pl c (gend P fn.results.toList Φ) (ts0 gargs.toList) h) : ∃ r h', GCalls P E f gargs h r h' ∧ Φ r h' := by
  simp only [funcOk, hf, hb, Bool.and_eq_true, bne_iff_ne, ne_eq, decide_eq_true_eq] at hok
  obtain ⟨⟨⟨hok1, hok2⟩, hok3⟩, hok4⟩ := hok
  obtain ⟨e, t, g, h1, h2⟩ := gwp_det c hg
  -- the value that comes back
  have hx : ∃ x, Φ x g ∧ (e = .normal ∨ e = .ret) ∧ gres P fn.results.toList t g (fun v => v = x) := by
    have key : ∀ {Ψ : Value → Prop}, gres P fn.results.toList t g Ψ → ∃ x, Ψ x ∧ gres P fn.results.toList t g (fun v => v = x) := by
      intro Ψ hr
      unfold gres at hr ⊢
      split at hr
      · exact ⟨_, hr, rfl⟩
      · obtain ⟨x, k1, k2⟩ := optK_some hr
        exact ⟨x, k2, by simp only [k1]; rfl⟩
      · obtain ⟨x, k1, k2⟩ := optK_some hr
        obtain ⟨y, k3, k4⟩ := optK_some k2
        exact ⟨_, k4, by simp only [k1, k3]; rfl⟩
      · obtain ⟨x, k1, k2⟩ := optK_some hr
        obtain ⟨y, k3, k4⟩ := optK_some k2
        obtain ⟨z, k5, k6⟩ := optK_some k4
        exact ⟨_, k6, by simp only [k1, k3, k5]; rfl⟩
      · exact hr.elim
    cases e with
    | normal => obtain ⟨x, k1, k2⟩ := key (Ψ := fun v => Φ v g) h1; exact ⟨x, k1, .inl rfl, k2⟩
    | ret => obtain ⟨x, k1, k2⟩ := key (Ψ := fun v => Φ v g) h1; exact ⟨x, k1, .inr rfl, k2⟩
    | _ => exact h1.elim
  obtain ⟨x, hx1, hx2, hx3⟩ := hx
  refine ⟨x, g, ⟨by simp [ent, hf, hb, hok3], ?_⟩, hx1⟩
  intro w0 B μ w args hi hbase har
  refine calls_of_wp hf hb ?_
  have hsz : args.size = gargs.size := har.1.symm
  have st : St E fn.ntmps w0 B μ h w μ (ts0 gargs.toList) h { tmps := args ++ Array.replicate (fn.ntmps - args.size) undef, defers := [] } w := by
    refine ⟨hi, hbase, ⟨by simp; omega, fun t ht => ?_⟩, rfl, Ext.refl _ _ _ hi.dom⟩
    rw [ts0_get]
    by_cases hlt : t < args.size
    · have hlt' : t < gargs.size := by omega
      have e1 : (args ++ Array.replicate (fn.ntmps - args.size) undef)[t] = args[t] := Array.getElem_append_left hlt
      show VR μ _ ((args ++ Array.replicate (fn.ntmps - args.size) undef)[t])
      rw [e1]
      simpa [List.getD, hlt'] using har.2 t hlt' hlt
    · have e1 : (args ++ Array.replicate (fn.ntmps - args.size) undef)[t] = undef := by
        rw [Array.getElem_append_right (by omega)]
        simp
      show VR μ _ ((args ++ Array.replicate (fn.ntmps - args.size) undef)[t])
      rw [e1]
      have : ¬ t < gargs.size := by omega
      simpa [List.getD, this] using VR.undef
  refine wp_mono (gwp_sound hm c _ hok1 st h2) ?_
  rintro e' a' w' ⟨μ', t', g', st', rfl, rfl, rfl⟩
  obtain ⟨v, x', k1, k2, k3⟩ := gres_sound st'.inv st'.tr hok2 hx3
  subst k3
  rcases hx2 with rfl | rfl
  · exact ⟨st'.defers, v, k1, μ', v, rfl, st'.inv, k2, st'.ext⟩
  · exact ⟨st'.defers, v, k1, μ', v, rfl, st'.inv, k2, st'.ext⟩
theorem gcalls_in (rs : List ResultVar) (hm : P.follows .mixedOrders = true) {f : FuncId} {fn : Func} {c : Code} (hf : P.funcs[f]? = some fn) (hb : fn.body = some c) (hr : fn.results.toList = rs) {gargs : Array Value} (hok : funcOk P E.n pl f gargs.size = true) {h : GH} {Φ : Value → GH → Prop}
    (hg : gwp P E pl c (gend P rs Φ) (ts0 gargs.toList) h) : ∃ r h', GCalls P E f gargs h r h' ∧ Φ r h' := by
  subst hr
  exact gcalls_ex hm hf hb hok hg
end
end Go.Proofs.Gh
namespace Go.Proofs.Gh
open Go Go.RowKit

/-! ### The walk's equations -/
def letK (v : Value) (K : Value → Prop) : Prop := K v
def callK (P : Program) (E : GE) (f : FuncId) (args : Array Value) (h : GH) (K : Value → GH → Prop) : Prop := ∃ r h', GCalls P E f args h r h' ∧ K r h'
def loopK (P : Program) (E : GE) (pl : Plans) (c : Code) (Q : GQ) (ts : TS) (h : GH) : Prop := ∃ n, grounds (gwp P E pl c) Q n ts h
def gop1 (P : Program) (E : GE) (op : Op) (ts : TS) (h : GH) (K : Value → GH → Prop) : Prop := gstep P E ⟨none, op, 0, "", #[], none⟩ ts h K
def gw (ops : Array Oper) (ts : TS) (j : Nat) (b : Bool) : Bool := gyield ops ts j == some b

def selV (b : Bool) (x y : Value) : Value := match b with | true => x | false => y
theorem selV_true (x y : Value) : selV true x y = x := (rfl)
theorem selV_false (x y : Value) : selV false x y = y := (rfl)

/-! simp is to look at what decides, never at what comes behind: 'tick' makes each congruence count as a change -/
def tick {α : Type} (x : α) : α := x
theorem tick_eq {α : Type} (x : α) : tick x = x := (rfl)
@[congr] theorem selV_congr {b b' : Bool} {x y : Value} (h : tick b = b') : selV b x y = selV b' x y := by subst h; rfl
@[congr] theorem letK_congr {v v' : Value} {K : Value → Prop} (h : tick v = v') : letK v K = letK v' K := by subst h; rfl
@[congr] theorem optK_congr {v v' : Option Value} {K : Value → Prop} (h : tick v = v') : optK v K = optK v' K := by subst h; rfl
@[congr] theorem optH_congr {v v' : Option (Value × GH)} {K : Value → GH → Prop} (h : tick v = v') : optH v K = optH v' K := by subst h; rfl
@[congr] theorem ifK_congr {b b' : Bool} {X Y : Unit → Prop} (h : tick b = b') : ifK b X Y = ifK b' X Y := by subst h; rfl
@[congr] theorem condK_congr {b b' : Value} {X Y : Unit → Prop} (h : tick b = b') : condK b X Y = condK b' X Y := by subst h; rfl
@[congr] theorem callK_congr {P : Program} {E : GE} {f : FuncId} {args args' : Array Value} {h : GH} {K : Value → GH → Prop} (ha : tick args = args') : callK P E f args h K = callK P E f args' h K := by subst ha; rfl
@[congr] theorem loopK_congr {P : Program} {E E' : GE} {pl : Plans} {c : Code} {Q : GQ} {ts : TS} {h : GH} (hx : tick E = E') : loopK P E pl c Q ts h = loopK P E' pl c Q ts h := by subst hx; rfl

theorem letK_eq (v : Value) (K : Value → Prop) : letK v K = K v := (rfl)
theorem optK_eq (v : Value) (K : Value → Prop) : optK (some v) K = K v := (rfl)
theorem optK_none (K : Value → Prop) : optK none K = False := (rfl)
theorem optH_eq (v : Value) (h : GH) (K : Value → GH → Prop) : optH (some (v, h)) K = K v h := (rfl)
theorem optH_none (K : Value → GH → Prop) : optH none K = False := (rfl)
theorem ifK_true (X Y : Unit → Prop) : ifK true X Y = X () := (rfl)
theorem ifK_false (X Y : Unit → Prop) : ifK false X Y = Y () := (rfl)
theorem ifK_not (b : Bool) (X Y : Unit → Prop) : ifK (!b) X Y = ifK b Y X := by cases b <;> rfl
theorem condK_bool (b : Bool) (X Y : Unit → Prop) : condK (.bool b) X Y = ifK b X Y := (rfl)
theorem ifK_intro {b : Bool} {X Y : Unit → Prop} (hx : b = true → X ()) (hy : b = false → Y ()) : ifK b X Y := by
  cases b
  · exact hy rfl
  · exact hx rfl
theorem callK_intro {P : Program} {E : GE} {f : FuncId} {args : Array Value} {h : GH} {K : Value → GH → Prop} {Φ : Value → GH → Prop} (hc : ∃ r h', GCalls P E f args h r h' ∧ Φ r h') (hk : ∀ r h', Φ r h' → K r h') : callK P E f args h K := by
  obtain ⟨r, h', h1, h2⟩ := hc
  exact ⟨r, h', h1, hk r h' h2⟩

section
variable {P : Program} {E : GE} {pl : Plans} {ops : Array Oper} {K : TS → GH → Prop} {KV : Value → GH → Prop} {ts : TS} {h : GH} {Q : GQ}

/-! code -/
theorem gwp_skip : gwp P E pl .skip Q ts h = Q .normal ts h := (rfl)
theorem gwp_label (l : Nat) : gwp P E pl (.label l) Q ts h = Q .normal ts h := (rfl)
theorem gwp_list (id : Nat) (l : List Oper) : gwp P E pl (.region id l.toArray false) Q ts h = gList P E l.toArray (Q .normal) l ts h := (rfl)
theorem gwp_draw (id : Nat) (ops : Array Oper) : gwp P E pl (.region id ops true) Q ts h = gD P E ops (Q .normal) (pl id) ts h := (rfl)
@[congr] theorem gD_congr {l l' : Plan} (hl : tick l = l') : gD P E ops K l ts h = gD P E ops K l' ts h := by subst hl; rfl
theorem gwp_seq (x y : Code) : gwp P E pl (.seq x y) Q ts h = gwp P E pl x (gthen (gwp P E pl y Q) Q) ts h := (rfl)
theorem gwp_cond (c : Operand) (x y : Code) : gwp P E pl (.cond c x y) Q ts h = condK (geval ts c) (fun _ => gwp P E pl x Q ts h) (fun _ => gwp P E pl y Q ts h) := (rfl)
theorem gwp_block (id : Nat) (x : Code) : gwp P E pl (.block id x) Q ts h = gwp P E pl x (ginBlock id Q) ts h := (rfl)
theorem gwp_loop (x : Code) : gwp P E pl (.loop x) Q ts h = loopK P E pl x Q ts h := (rfl)
theorem gwp_exit (id : Nat) : gwp P E pl (.exit id) Q ts h = Q (.exit id) ts h := (rfl)
theorem gwp_scope (x : Code) : gwp P E pl (.scope x) Q ts h = gwp P E pl x (gnoGoto Q) ts h := (rfl)
theorem gwp_ret : gwp P E pl .ret Q ts h = Q .ret ts h := (rfl)
/-! what comes behind -/
theorem gthen_normal (R : TS → GH → Prop) : gthen R Q .normal ts h = R ts h := (rfl)
theorem gthen_exit (R : TS → GH → Prop) (j : Nat) : gthen R Q (.exit j) ts h = Q (.exit j) ts h := (rfl)
theorem gthen_ret (R : TS → GH → Prop) : gthen R Q .ret ts h = Q .ret ts h := (rfl)
theorem ginBlock_normal (id : Nat) : ginBlock id Q .normal ts h = Q .normal ts h := (rfl)
theorem ginBlock_ret (id : Nat) : ginBlock id Q .ret ts h = Q .ret ts h := (rfl)
theorem ginBlock_self (id : Nat) : ginBlock id Q (.exit id) ts h = Q .normal ts h := by simp [ginBlock]
theorem ginBlock_exit (id j : Nat) (hj : (j == id) = false) : ginBlock id Q (.exit j) ts h = Q (.exit j) ts h := by
  have : j ≠ id := by simpa using hj
  simp [ginBlock, this]
theorem gnoGoto_normal : gnoGoto Q .normal ts h = Q .normal ts h := (rfl)
theorem gnoGoto_exit (j : Nat) : gnoGoto Q (.exit j) ts h = Q (.exit j) ts h := (rfl)
theorem gnoGoto_ret : gnoGoto Q .ret ts h = Q .ret ts h := (rfl)
theorem gend_normal (rs : List ResultVar) (Φ : Value → GH → Prop) : gend P rs Φ .normal ts h = gres P rs ts h fun v => Φ v h := (rfl)
theorem gend_ret (rs : List ResultVar) (Φ : Value → GH → Prop) : gend P rs Φ .ret ts h = gres P rs ts h fun v => Φ v h := (rfl)
theorem gres0 {Φ : Value → Prop} : gres P [] ts h Φ = Φ (.tuple #[]) := (rfl)
theorem gres_one {Φ : Value → Prop} (r : ResultVar) : gres P [r] ts h Φ = optK (gres1 P ts h r) Φ := (rfl)
theorem gres_two {Φ : Value → Prop} (r s : ResultVar) : gres P [r, s] ts h Φ = optK (gres1 P ts h r) fun x => optK (gres1 P ts h s) fun y => Φ (.tuple #[x, y]) := (rfl)
theorem gres_three {Φ : Value → Prop} (r s u : ResultVar) : gres P [r, s, u] ts h Φ = optK (gres1 P ts h r) fun x => optK (gres1 P ts h s) fun y => optK (gres1 P ts h u) fun z => Φ (.tuple #[x, y, z]) := (rfl)
theorem gres1_tmp (t : Tmp) : gres1 P ts h (.tmp t) = some (ts t) := (rfl)
theorem gres1_cell (q : Tmp) (t : TypeId) : gres1 P ts h (.cell q t) = gLoad P t (ts q) h := (rfl)
/-! lists -/
theorem gList_nil : gList P E ops K [] ts h = K ts h := (rfl)
theorem gstep_gop1 (d : Option Tmp) (op : Op) (ty : TypeId) (p : String) (af : Array Edge) (g : Option (Nat × Bool)) : gstep P E ⟨d, op, ty, p, af, g⟩ ts h KV = gop1 P E op ts h KV := (rfl)
theorem gList_cons (d : Option Tmp) (op : Op) (ty : TypeId) (p : String) (af : Array Edge) (l : List Oper) :
    gList P E ops K (⟨d, op, ty, p, af, none⟩ :: l) ts h = gop1 P E op ts h fun v h' => gList P E ops K l (gput ts d v) h' := (rfl)
theorem gList_guard (d : Option Tmp) (op : Op) (ty : TypeId) (p : String) (af : Array Edge) (j : Nat) (b : Bool) (l : List Oper) :
    gList P E ops K (⟨d, op, ty, p, af, some (j, b)⟩ :: l) ts h = ifK (gw ops ts j b) (fun _ => gop1 P E op ts h fun v h' => gList P E ops K l (gput ts d v) h') (fun _ => gList P E ops K l (gput ts d undef) h) := by
  rw [gList]
  show (if gw ops ts j b = true then _ else _) = _
  cases gw ops ts j b <;> rfl
theorem gput_some (d : Tmp) (v : Value) : gput ts (some d) v = ts.set d v := (rfl)
theorem gput_none (v : Value) : gput ts none v = ts := (rfl)
def gyd (ts : TS) (d : Option Tmp) : Option Bool := match d with
  | some d => asB (ts d)
  | none => none
theorem gw_eq (j : Nat) (b : Bool) : gw ops ts j b = (gyd ts ((ops[j]?).bind Oper.dst) == some b) := (rfl)
theorem gyd_some (d : Tmp) : gyd ts (some d) = asB (ts d) := (rfl)
theorem asB_bool (b : Bool) : asB (.bool b) = some b := (rfl)
theorem asB_undef : asB undef = none := (rfl)
theorem some_beq_true (b : Bool) : (some b == some true) = b := by cases b <;> rfl
theorem some_beq_false (b : Bool) : (some b == some false) = !b := by cases b <;> rfl
theorem none_beq (b : Bool) : ((none : Option Bool) == some b) = false := (rfl)
/-! drawn regions -/
def gDo (P : Program) (E : GE) (ops : Array Oper) (K : TS → GH → Prop) (o : Option Oper) (T : List Nat) (l : Plan) (ts : TS) (h : GH) : Prop := match o with
  | some o => if gwant ops ts o = true then gstep P E o ts h fun v h' => gAgain P ops ts h' T (gD P E ops K l (gput ts o.dst v) h')
      else gD P E ops K l (gput ts o.dst undef) h
  | none => False
@[congr] theorem gDo_congr {o o' : Option Oper} {T : List Nat} {l : Plan} (ho : tick o = o') : gDo P E ops K o T l ts h = gDo P E ops K o' T l ts h := by subst ho; rfl
theorem gD_nil : gD P E ops K [] ts h = K ts h := (rfl)
theorem gD_cons (i : Nat) (T : List Nat) (l : Plan) : gD P E ops K ((i, T) :: l) ts h = gDo P E ops K (ops[i]?) T l ts h := (rfl)
theorem gDo_free (d : Option Tmp) (op : Op) (ty : TypeId) (p : String) (af : Array Edge) (T : List Nat) (l : Plan) :
    gDo P E ops K (some ⟨d, op, ty, p, af, none⟩) T l ts h = gop1 P E op ts h fun v h' => gAgain P ops ts h' T (gD P E ops K l (gput ts d v) h') := (rfl)
theorem gDo_guard (d : Option Tmp) (op : Op) (ty : TypeId) (p : String) (af : Array Edge) (j : Nat) (b : Bool) (T : List Nat) (l : Plan) :
    gDo P E ops K (some ⟨d, op, ty, p, af, some (j, b)⟩) T l ts h = ifK (gw ops ts j b) (fun _ => gop1 P E op ts h fun v h' => gAgain P ops ts h' T (gD P E ops K l (gput ts d v) h')) (fun _ => gD P E ops K l (gput ts d undef) h) := by
  show (if gw ops ts j b = true then _ else _) = _
  cases gw ops ts j b <;> rfl
theorem gAgain_nil {X : Prop} : gAgain P ops ts h [] X = X := (rfl)
def againK (P : Program) (ops : Array Oper) (ts : TS) (h : GH) (o : Option Oper) (X : Unit → Prop) : Prop := (match o with
    | some o => match o.op, o.dst with
      | .load t x, some d => gwant ops ts o = true → gLoad P t (geval ts x) h = some (ts d)
      | _, _ => False
    | none => False) ∧ X ()
@[congr] theorem againK_congr {o o' : Option Oper} {X : Unit → Prop} (ho : tick o = o') : againK P ops ts h o X = againK P ops ts h o' X := by subst ho; rfl
theorem gAgain_cons {X : Prop} (j : Nat) (T : List Nat) : gAgain P ops ts h (j :: T) X = againK P ops ts h (ops[j]?) (fun _ => gAgain P ops ts h T X) := (rfl)
def sameK (a b : Option Value) (X : Unit → Prop) : Prop := a = b ∧ X ()
@[congr] theorem sameK_congr {a b a' b' : Option Value} {X : Unit → Prop} (h1 : tick a = a') (h2 : tick b = b') : sameK a b X = sameK a' b' X := by subst h1 h2; rfl
theorem sameK_self (a : Option Value) (X : Unit → Prop) : sameK a a X = X () := by simp [sameK]
theorem againK_free {X : Unit → Prop} (d : Tmp) (t : TypeId) (x : Operand) (ty : TypeId) (p : String) (af : Array Edge) :
    againK P ops ts h (some ⟨some d, .load t x, ty, p, af, none⟩) X = sameK (gLoad P t (geval ts x) h) (some (ts d)) X := by
  simp [againK, sameK, gwant]
theorem againK_guard {X : Unit → Prop} (d : Tmp) (t : TypeId) (x : Operand) (ty : TypeId) (p : String) (af : Array Edge) (j : Nat) (b : Bool) :
    againK P ops ts h (some ⟨some d, .load t x, ty, p, af, some (j, b)⟩) X = ifK (gw ops ts j b) (fun _ => sameK (gLoad P t (geval ts x) h) (some (ts d)) X) X := by
  show ((gw ops ts j b = true → _) ∧ X ()) = _
  cases gw ops ts j b <;> simp [sameK, ifK]
/-! operations -/
theorem gop1_move (x : Operand) : gop1 P E (.move x) ts h KV = letK (geval ts x) fun v => KV v h := (rfl)
theorem gop1_assign (x : Operand) : gop1 P E (.assign x) ts h KV = letK (geval ts x) fun v => KV v h := (rfl)
def pickK (c a b : Value) : Option Value := match c with
  | .bool t => some (if t then a else b)
  | _ => none
theorem gop1_pick (c a b : Operand) : gop1 P E (.pick c a b) ts h KV = optK (pickK (geval ts c) (geval ts a) (geval ts b)) fun v => KV v h := by
  show (match (match geval ts c with | .bool t => some (if t then geval ts a else geval ts b, h) | _ => none) with | some (v, h') => KV v h' | none => False) = _
  unfold pickK
  cases geval ts c <;> rfl
theorem pickK_true (a b : Value) : pickK (.bool true) a b = some a := (rfl)
theorem pickK_false (a b : Value) : pickK (.bool false) a b = some b := (rfl)
theorem pickK_bool (t : Bool) (a b : Value) : pickK (.bool t) a b = some (if t then a else b) := (rfl)
theorem gop1_alloc (t : TypeId) : gop1 P E (.alloc t) ts h KV = optH (gAlloc P t h) KV := (rfl)
theorem gop1_box (t : TypeId) (x : Operand) : gop1 P E (.box t x) ts h KV = optH (gBox (geval ts x) h) KV := (rfl)
theorem mapH {x : Option Value} : (match (x.map fun v => (v, h)) with | some (v, h') => KV v h' | none => False) = optK x fun v => KV v h := by cases x <;> rfl
theorem gop1_build (t : TypeId) (ps : Array (Nat × Operand)) : gop1 P E (.build t ps) ts h KV = optK (gBuild P t (ps.toList.map fun p => (p.1, geval ts p.2))) fun v => KV v h := mapH
theorem gop1_buildSlice (t : TypeId) (n : Nat) (ps : Array (Nat × Operand)) : gop1 P E (.buildSlice t n ps) ts h KV = optH (gBuildSlice P t n (ps.toList.map fun p => (p.1, geval ts p.2)) h) KV := (rfl)
theorem gop1_load (t : TypeId) (x : Operand) : gop1 P E (.load t x) ts h KV = optK (gLoad P t (geval ts x) h) fun v => KV v h := mapH
def stoK (x : Option GH) (K : GH → Prop) : Prop := match x with
  | some h => K h
  | none => False
@[congr] theorem stoK_congr {x x' : Option GH} {K : GH → Prop} (hx : tick x = x') : stoK x K = stoK x' K := by subst hx; rfl
theorem stoK_eq (h : GH) (K : GH → Prop) : stoK (some h) K = K h := (rfl)
theorem gop1_store (t : TypeId) (a x : Operand) : gop1 P E (.store t a x) ts h KV = stoK (gStore P t (geval ts a) (geval ts x) h) fun h' => KV undef h' := by
  show (match ((gStore P t (geval ts a) (geval ts x) h).map fun h' => (undef, h')) with | some (v, h') => KV v h' | none => False) = _
  cases gStore P t (geval ts a) (geval ts x) h <;> rfl
theorem gop1_nilCheck (x : Operand) : gop1 P E (.nilCheck x) ts h KV = optK (gNil (geval ts x)) fun v => KV v h := mapH
theorem gop1_bin (op : BinOp) (t : TypeId) (x y : Operand) (yt : TypeId) : gop1 P E (.binOp op t x y yt) ts h KV = optK (gBin P op t (isC x || isC y) (geval ts x) (geval ts y)) fun v => KV v h := mapH
theorem gop1_un (op : UnOp) (t : TypeId) (x : Operand) : gop1 P E (.unOp op t x) ts h KV = optK (gUn op (geval ts x)) fun v => KV v h := mapH
theorem gop1_convert (s d : TypeId) (x : Operand) : gop1 P E (.convert s d x) ts h KV = optH (gConv P s d (geval ts x) h) KV := (rfl)
theorem gop1_makeInterface (t : TypeId) (x : Operand) : gop1 P E (.makeInterface t x) ts h KV = optK (gIface P t (geval ts x)) fun v => KV v h := mapH
theorem gop1_makeFunc (fn : Fn) (f c : Array Operand) : gop1 P E (.makeFunc fn f c) ts h KV = letK (.func fn (f.map (geval ts)) (c.map (geval ts))) fun v => KV v h := (rfl)
theorem gop1_makeSlice (t : TypeId) (l c : Operand) : gop1 P E (.makeSlice t l c) ts h KV = optH (gMake P t (geval ts l) (geval ts c) h) KV := (rfl)
theorem gop1_slice (t : TypeId) (x : Operand) (lo hi mx : Option Operand) : gop1 P E (.slice t x lo hi mx) ts h KV = optK (gSlice P t (geval ts x) (lo.map (geval ts)) (hi.map (geval ts)) (mx.map (geval ts))) fun v => KV v h := mapH
theorem gop1_fieldAddr (s : TypeId) (x : Operand) (f : Nat) : gop1 P E (.fieldAddr s x f) ts h KV = optK (gFieldAddr P s (geval ts x) f) fun v => KV v h := mapH
theorem gop1_field (t : TypeId) (x : Operand) (f : Nat) : gop1 P E (.field t x f) ts h KV = optK (gField P t (geval ts x) f) fun v => KV v h := mapH
theorem gop1_indexAddr (t : TypeId) (x i : Operand) : gop1 P E (.indexAddr t x i) ts h KV = optK (gIndexAddr P t (geval ts x) (geval ts i)) fun v => KV v h := mapH
theorem gop1_index (t : TypeId) (x i : Operand) : gop1 P E (.index t x i) ts h KV = optK (gIndex P t (geval ts x) (geval ts i)) fun v => KV v h := mapH
def extK (v : Value) (i : Nat) : Option Value := match v with
  | .tuple vs => vs[i]?
  | _ => none
theorem gop1_extract (t : Operand) (i : Nat) : gop1 P E (.extract t i) ts h KV = optK (extK (geval ts t) i) fun v => KV v h := by
  show (match (match geval ts t with | .tuple vs => (vs[i]?).map fun v => (v, h) | _ => none) with | some (v, h') => KV v h' | none => False) = _
  unfold extK
  cases geval ts t <;> first | rfl | exact mapH
theorem extK_tuple (vs : Array Value) (i : Nat) : extK (.tuple vs) i = vs[i]? := (rfl)
theorem gop1_bi (b : Builtin) (c : Call) (hb : c.callee = .builtin b) : gop1 P E (.call c) ts h KV = optH (gBI P b c.argTypes.toList (c.args.toList.map (geval ts)) h) KV := by
  unfold gop1 gstep
  simp only [hb]
  rfl
def callV (P : Program) (E : GE) (f : Value) (args : List Value) (h : GH) (K : Value → GH → Prop) : Prop := match f with
  | .func (.func g) first cap => callK P E g (first ++ args.toArray ++ cap) h K
  | _ => False
@[congr] theorem callV_congr {f f' : Value} {args args' : List Value} (hf : tick f = f') (ha : tick args = args') : callV P E f args h KV = callV P E f' args' h KV := by subst hf ha; rfl
theorem gop1_call (c : Call) (f : Operand) (hb : c.callee = .value f) : gop1 P E (.call c) ts h KV = callV P E (geval ts f) (c.args.toList.map (geval ts)) h KV := by
  unfold gop1 gstep callV
  simp only [hb]
  rfl
theorem callV_func (g : FuncId) (first cap : Array Value) (args : List Value) : callV P E (.func (.func g) first cap) args h KV = callK P E g (first ++ args.toArray ++ cap) h KV := (rfl)
/-! operands -/
theorem geval_tmp (t : Tmp) : geval ts (.tmp t) = ts t := (rfl)
theorem geval_const (v : Value) : geval ts (.const v) = v := (rfl)
theorem geval_global (g : Nat) : geval ts (.global g) = .pointer (some ⟨g, 0, none⟩) := (rfl)
theorem geval_func (f : FuncId) : geval ts (.func f) = .func (.func f) #[] #[] := (rfl)
theorem set_at (d : Nat) (v : Value) (t : Nat) : ts.set d v t = selV (t == d) v (ts t) := by
  rw [TS.set_at]
  by_cases hd : t = d
  · rw [if_pos hd, hd, beq_self_eq_true]; rfl
  · rw [if_neg hd, beq_eq_false_iff_ne.2 hd]; rfl
theorem ts0_zero (v : Value) (l : List Value) : ts0 (v :: l) 0 = v := (rfl)
theorem ts0_succ (v : Value) (l : List Value) (t : Nat) : ts0 (v :: l) (t + 1) = ts0 l t := (rfl)
theorem ts0_nil (t : Nat) : ts0 [] t = undef := (rfl)
end
end Go.Proofs.Gh
