/- Part 3 of a proof: walks of the program in a small memory, plain lemmas. -/
import Derived.Attr
import Derived.Test.YthnmdhfbbbfleaaGreatDoorU2
set_option linter.all false
namespace Go.Proofs.Gh
open Go Go.RowKit

attribute [go_sem ↓] gwp_skip gwp_label gwp_list gwp_draw gwp_seq gwp_cond gwp_block gwp_loop gwp_exit gwp_scope gwp_ret gthen_normal gthen_exit gthen_ret ginBlock_normal ginBlock_ret ginBlock_self gnoGoto_normal gnoGoto_exit gnoGoto_ret gend_normal gend_ret gres0 gres_one gres_two gres_three gList_nil gList_cons gList_guard gput_some gput_none gD_nil gD_cons gAgain_nil gAgain_cons gw_eq geval_tmp geval_const geval_global geval_func set_at
attribute [go_sem ↓] gop1_move gop1_assign gop1_pick gop1_alloc gop1_box gop1_build gop1_buildSlice gop1_load gop1_store gop1_nilCheck gop1_bin gop1_un gop1_convert gop1_makeInterface gop1_makeFunc gop1_makeSlice gop1_slice gop1_fieldAddr gop1_field gop1_indexAddr gop1_index gop1_extract
attribute [go_sem] gD_nil gD_cons tick_eq selV_true selV_false letK_eq optK_eq optK_none optH_eq optH_none ifK_true ifK_false ifK_not condK_bool gres1_tmp gres1_cell asB_bool asB_undef gyd_some some_beq_true some_beq_false none_beq gDo_free gDo_guard sameK_self againK_free againK_guard pickK_true pickK_false pickK_bool stoK_eq extK_tuple callV_func ts0_zero ts0_succ ts0_nil

theorem ginBlock_exit' {Q : GQ} {ts : TS} {h : GH} (id j : Nat) : ginBlock id Q (.exit j) ts h = ifK (j == id) (fun _ => Q .normal ts h) (fun _ => Q (.exit j) ts h) := by
  unfold ginBlock
  by_cases hj : j = id
  · subst hj; simp [ifK]
  · rw [beq_eq_false_iff_ne.2 hj]; simp [hj, ifK]
attribute [go_sem ↓] ginBlock_exit'
@[go_sem ↓] theorem gop1_len {P : Program} {E : GE} {ts : TS} {h : GH} {KV : Value → GH → Prop} (xs : Array Operand) (ats : Array TypeId) : gop1 P E (.call ⟨.builtin .len, xs, ats⟩) ts h KV = optH (gBI P .len ats.toList (xs.toList.map (geval ts)) h) KV := gop1_bi _ _ rfl
@[go_sem ↓] theorem gop1_cap {P : Program} {E : GE} {ts : TS} {h : GH} {KV : Value → GH → Prop} (xs : Array Operand) (ats : Array TypeId) : gop1 P E (.call ⟨.builtin .cap, xs, ats⟩) ts h KV = optH (gBI P .cap ats.toList (xs.toList.map (geval ts)) h) KV := gop1_bi _ _ rfl
@[go_sem ↓] theorem gop1_append {P : Program} {E : GE} {ts : TS} {h : GH} {KV : Value → GH → Prop} (xs : Array Operand) (ats : Array TypeId) : gop1 P E (.call ⟨.builtin .append, xs, ats⟩) ts h KV = optH (gBI P .append ats.toList (xs.toList.map (geval ts)) h) KV := gop1_bi _ _ rfl
@[go_sem ↓] theorem gop1_copy {P : Program} {E : GE} {ts : TS} {h : GH} {KV : Value → GH → Prop} (xs : Array Operand) (ats : Array TypeId) : gop1 P E (.call ⟨.builtin .copy, xs, ats⟩) ts h KV = optH (gBI P .copy ats.toList (xs.toList.map (geval ts)) h) KV := gop1_bi _ _ rfl
@[go_sem ↓] theorem gop1_min {P : Program} {E : GE} {ts : TS} {h : GH} {KV : Value → GH → Prop} (xs : Array Operand) (ats : Array TypeId) : gop1 P E (.call ⟨.builtin .min, xs, ats⟩) ts h KV = optH (gBI P .min ats.toList (xs.toList.map (geval ts)) h) KV := gop1_bi _ _ rfl
@[go_sem ↓] theorem gop1_max {P : Program} {E : GE} {ts : TS} {h : GH} {KV : Value → GH → Prop} (xs : Array Operand) (ats : Array TypeId) : gop1 P E (.call ⟨.builtin .max, xs, ats⟩) ts h KV = optH (gBI P .max ats.toList (xs.toList.map (geval ts)) h) KV := gop1_bi _ _ rfl
@[go_sem ↓] theorem gop1_callv {P : Program} {E : GE} {ts : TS} {h : GH} {KV : Value → GH → Prop} (f : Operand) (xs : Array Operand) (ats : Array TypeId) : gop1 P E (.call ⟨.value f, xs, ats⟩) ts h KV = callV P E (geval ts f) (xs.toList.map (geval ts)) h KV := gop1_call _ _ rfl
section
variable {P : Program} {h : GH}
@[go_sem] theorem gBI_len (t : TypeId) (x : Value) : gBI P .len [t] [x] h = (gLen P t x).map fun v => (v, h) := (rfl)
@[go_sem] theorem gBI_cap (t : TypeId) (x : Value) : gBI P .cap [t] [x] h = (gCap P t x).map fun v => (v, h) := (rfl)
@[go_sem] theorem gBI_append (t0 t1 : TypeId) (s x : Value) : gBI P .append [t0, t1] [s, x] h = gAppend P t0 t1 s x h := (rfl)
@[go_sem] theorem gBI_copy (t0 t1 : TypeId) (s x : Value) : gBI P .copy [t0, t1] [s, x] h = gCopy P t0 t1 s x h := (rfl)
@[go_sem] theorem gBI_min (ts : List TypeId) (k k' : IntKind) (x y : Int) : gBI P .min ts [.int k x, .int k' y] h = some (.int k (if y < x then y else x), h) := by
  unfold gBI; rfl
@[go_sem] theorem gBI_max (ts : List TypeId) (k k' : IntKind) (x y : Int) : gBI P .max ts [.int k x, .int k' y] h = some (.int k (if x < y then y else x), h) := by
  unfold gBI; rfl
attribute [go_sem] Option.map_some Option.map_none List.map_cons List.map_nil Option.bind_some Option.bind_none List.length_cons List.length_nil beq_self_eq_true Bool.not_true Bool.not_false Bool.false_eq_true
attribute [go_sem] gCap gIface gConv gIndex gField gFieldAddr gPart gBd gBuild gBuildSlice gAlloc gBox gNil gUn fillL setL gNeg gPtr GH.alloc_n GH.upd_n isC
def gLenS (d : Option TypeDesc) (n : Nat) : Option Value := match d with
  | some (.slice _) => some (.int .i64 n)
  | some (.array m _) => some (.int .i64 m)
  | _ => none
@[go_sem] theorem gLen_slice (t : TypeId) (a : Option Addr) (n c : Nat) : gLen P t (.slice a n c) = gLenS (P.underlying t) n := by
  unfold gLen gLenS
  cases P.underlying t with
  | none => rfl
  | some d => cases d <;> rfl
@[go_sem] theorem gLenS_slice (e : TypeId) (n : Nat) : gLenS (some (.slice e)) n = some (.int .i64 n) := (rfl)
def gLenT (d : Option TypeDesc) (s : ByteArray) : Option Value := match d with
  | some .string => some (.int .i64 s.size)
  | some (.array m _) => some (.int .i64 m)
  | _ => none
@[go_sem] theorem gLen_str (t : TypeId) (s : ByteArray) : gLen P t (.string s) = gLenT (P.underlying t) s := by
  unfold gLen gLenT
  cases P.underlying t with
  | none => rfl
  | some d => cases d <;> rfl
@[go_sem] theorem gLenT_str (s : ByteArray) : gLenT (some .string) s = some (.int .i64 s.size) := (rfl)
def gSliT (d : Option TypeDesc) (s : ByteArray) (l u : Option Nat) : Option Value := match d, l, u with
  | some .string, some l, some u => if l ≤ u ∧ u ≤ s.size then some (.string (s.extract l u)) else none
  | _, _, _ => none
@[go_sem] theorem gSlice_str (t : TypeId) (s : ByteArray) (lo hi : Option Value) : gSlice P t (.string s) lo hi none = gSliT (P.underlying t) s (gBd 0 lo) (gBd s.size hi) := by
  unfold gSlice gSliT
  simp only
  cases P.underlying t with
  | none => rfl
  | some d =>
    cases d <;> try rfl
    cases gBd 0 lo <;> cases gBd s.size hi <;> rfl
@[go_sem] theorem gSliT_str (s : ByteArray) (l u : Nat) : gSliT (some .string) s (some l) (some u) = if l ≤ u ∧ u ≤ s.size then some (.string (s.extract l u)) else none := (rfl)
attribute [go_sem] List.set_cons_zero List.set_cons_succ List.all_cons List.all_nil Value.oneCell' Bool.and_self Bool.and_true Bool.true_and
@[go_sem] theorem rep_1 (z : List Value) : rep 1 z = z := by simp [rep, List.replicate]
@[go_sem] theorem rep_2 (z : List Value) : rep 2 z = z ++ z := by simp [rep, List.replicate]
@[go_sem] theorem rep_3 (z : List Value) : rep 3 z = z ++ z ++ z := by simp [rep, List.replicate]
@[go_sem] theorem rep_4 (z : List Value) : rep 4 z = z ++ z ++ z ++ z := by simp [rep, List.replicate]
@[go_sem] theorem rep_5 (z : List Value) : rep 5 z = z ++ z ++ z ++ z ++ z := by simp [rep, List.replicate]
@[go_sem] theorem rep_6 (z : List Value) : rep 6 z = z ++ z ++ z ++ z ++ z ++ z := by simp [rep, List.replicate]
@[go_sem] theorem rep_7 (z : List Value) : rep 7 z = z ++ z ++ z ++ z ++ z ++ z ++ z := by simp [rep, List.replicate]
@[go_sem] theorem rep_8 (z : List Value) : rep 8 z = z ++ z ++ z ++ z ++ z ++ z ++ z ++ z := by simp [rep, List.replicate]
@[go_sem] theorem rep_9 (z : List Value) : rep 9 z = z ++ z ++ z ++ z ++ z ++ z ++ z ++ z ++ z := by simp [rep, List.replicate]
@[go_sem] theorem rep_10 (z : List Value) : rep 10 z = z ++ z ++ z ++ z ++ z ++ z ++ z ++ z ++ z ++ z := by simp [rep, List.replicate]
@[go_sem] theorem rep_11 (z : List Value) : rep 11 z = z ++ z ++ z ++ z ++ z ++ z ++ z ++ z ++ z ++ z ++ z := by simp [rep, List.replicate]
@[go_sem] theorem rep_12 (z : List Value) : rep 12 z = z ++ z ++ z ++ z ++ z ++ z ++ z ++ z ++ z ++ z ++ z ++ z := by simp [rep, List.replicate]
@[go_sem] theorem gBin_int (op : BinOp) (t : TypeId) (c : Bool) (k k' : IntKind) (a b : Int) : gBin P op t c (.int k a) (.int k' b) = gInt op k k' a b := (rfl)
@[go_sem] theorem gBin_str (op : BinOp) (t : TypeId) (c : Bool) (a b : ByteArray) : gBin P op t c (.string a) (.string b) = gStr op a b := (rfl)
@[go_sem] theorem gBin_bool (op : BinOp) (t : TypeId) (c : Bool) (a b : Bool) : gBin P op t c (.bool a) (.bool b) = if nk P t = 1 then gNeg op (a == b) else none := (rfl)
@[go_sem] theorem gBin_ptr (op : BinOp) (t : TypeId) (c : Bool) (p : Option Addr) : gBin P op t c (.pointer p) (.pointer none) = if nk P t = 2 then gNeg op p.isNone else none := (rfl)
@[go_sem] theorem gBin_slice (op : BinOp) (t : TypeId) (c : Bool) (p : Option Addr) (a b : Nat) : gBin P op t c (.slice p a b) (.slice none 0 0) = if nk P t = 3 then gNeg op p.isNone else none := (rfl)
@[go_sem] theorem gBin_func0 (op : BinOp) (t : TypeId) (c : Bool) : gBin P op t c .nilFunc .nilFunc = if nk P t = 4 then gNeg op true else none := (rfl)
@[go_sem] theorem gBin_func (op : BinOp) (t : TypeId) (c : Bool) (f : Fn) (a b : Array Value) : gBin P op t c (.func f a b) .nilFunc = if nk P t = 4 then gNeg op false else none := (rfl)
@[go_sem] theorem gBin_iface0 (op : BinOp) (t : TypeId) (c : Bool) : gBin P op t c .nilIface .nilIface = if nk P t = 5 ∧ c = true then gNeg op true else none := (rfl)
@[go_sem] theorem gBin_iface (op : BinOp) (t : TypeId) (c : Bool) (i : TypeId) (v : Value) : gBin P op t c (.iface i v) .nilIface = if nk P t = 5 then gNeg op false else none := (rfl)
@[go_sem] theorem gBin_pair (op : BinOp) (t : TypeId) (x : Bool) (a b c d : ByteArray) : gBin P op t x (.agg #[.string a, .string b]) (.agg #[.string c, .string d]) = if s2 P t = true then gNeg op (decide (a = c) && decide (b = d)) else none := (rfl)
@[go_sem] theorem gStr_add (a b : ByteArray) : gStr .add a b = if a.size + b.size ≤ 4611686018427387904 then some (.string (a ++ b)) else none := (rfl)
@[go_sem] theorem gStr_eql (a b : ByteArray) : gStr .eql a b = some (.bool (decide (a = b))) := (rfl)
@[go_sem] theorem gStr_neq (a b : ByteArray) : gStr .neq a b = some (.bool (decide (a ≠ b))) := (rfl)
@[go_sem] theorem gStr_lss (a b : ByteArray) : gStr .lss a b = some (.bool (Op.bytesLess a.data.toList b.data.toList)) := (rfl)
@[go_sem] theorem gStr_gtr (a b : ByteArray) : gStr .gtr a b = some (.bool (!(Op.bytesLess a.data.toList b.data.toList || decide (a = b)))) := (rfl)
variable (k : IntKind) (a b : Int)
@[go_sem] theorem gInt_add : gInt .add k k a b = some (.int k (k.wrap (a + b))) := by simp [gInt]
@[go_sem] theorem gInt_sub : gInt .sub k k a b = some (.int k (k.wrap (a - b))) := by simp [gInt]
@[go_sem] theorem gInt_mul : gInt .mul k k a b = some (.int k (k.wrap (a * b))) := by simp [gInt]
@[go_sem] theorem gInt_quo : gInt .quo k k a b = if b = 0 then none else some (.int k (k.wrap (a.tdiv b))) := by simp [gInt]
@[go_sem] theorem gInt_rem : gInt .rem k k a b = if b = 0 then none else some (.int k (a.tmod b)) := by simp [gInt]
@[go_sem] theorem gInt_shl (k' : IntKind) : gInt .shl k k' a b = if 0 ≤ b then some (.int k (k.wrap (a * 2 ^ min b.toNat k.bits))) else none := by simp [gInt]
@[go_sem] theorem gInt_shr (k' : IntKind) : gInt .shr k k' a b = if 0 ≤ b then some (.int k (a.fdiv (2 ^ min b.toNat k.bits))) else none := by simp [gInt]
@[go_sem] theorem gInt_and : gInt .and k k a b = some (.int k (k.wrap (BitVec.ofInt k.bits a &&& BitVec.ofInt k.bits b).toNat)) := by simp [gInt]
@[go_sem] theorem gInt_or : gInt .or k k a b = some (.int k (k.wrap (BitVec.ofInt k.bits a ||| BitVec.ofInt k.bits b).toNat)) := by simp [gInt]
@[go_sem] theorem gInt_xor : gInt .xor k k a b = some (.int k (k.wrap (BitVec.ofInt k.bits a ^^^ BitVec.ofInt k.bits b).toNat)) := by simp [gInt]
@[go_sem] theorem gInt_eql : gInt .eql k k a b = some (.bool (decide (a = b))) := by simp [gInt]
@[go_sem] theorem gInt_neq : gInt .neq k k a b = some (.bool (decide (a ≠ b))) := by simp [gInt]
@[go_sem] theorem gInt_lss : gInt .lss k k a b = some (.bool (decide (a < b))) := by simp [gInt]
@[go_sem] theorem gInt_leq : gInt .leq k k a b = some (.bool (decide (a ≤ b))) := by simp [gInt]
@[go_sem] theorem gInt_gtr : gInt .gtr k k a b = some (.bool (decide (b < a))) := by simp [gInt]
@[go_sem] theorem gInt_geq : gInt .geq k k a b = some (.bool (decide (b ≤ a))) := by simp [gInt]
theorem wrap_i64 {x : Int} (h1 : -9223372036854775808 ≤ x) (h2 : x ≤ 9223372036854775807) : IntKind.wrap .i64 x = x := by
  rw [IntKind.wrap_i64]; omega
end
end Go.Proofs.Gh
namespace Go.Proofs.Gh
open Go Go.RowKit

section
variable {P : Program} {h : GH}
def gLd (k : Option (Bool × Nat)) (h : GH) (g o : Nat) : Option Value := match k with
  | some (true, n) => (h.load g o n).map fun l => .agg l.toArray
  | some (false, _) => match h.load g o 1 with
    | some [v] => some v
    | _ => none
  | none => none
@[go_sem] theorem gLoad_ptr (t : TypeId) (g o : Nat) : gLoad P t (.pointer (some ⟨g, o, none⟩)) h = gLd (tk P t) h g o := (rfl)
@[go_sem] theorem gLd_agg (n g o : Nat) : gLd (some (true, n)) h g o = (h.load g o n).map fun l => .agg l.toArray := (rfl)
def ld1 (l : Option (List Value)) : Option Value := match l with
  | some [v] => some v
  | _ => none
@[go_sem] theorem gLd_one (n g o : Nat) : gLd (some (false, n)) h g o = ld1 (h.load g o 1) := (rfl)
@[go_sem] theorem ld1_one (v : Value) : ld1 (some [v]) = some v := (rfl)
def gSt (k : Option (Bool × Nat)) (v : Value) (h : GH) (g o : Nat) : Option GH := match k with
  | some (_, n) => if v.cells.size = n then h.store g o v.cells.toList else none
  | none => none
@[go_sem] theorem gStore_ptr (t : TypeId) (g o : Nat) (v : Value) : gStore P t (.pointer (some ⟨g, o, none⟩)) v h = gSt (tk P t) v h g o := (rfl)
@[go_sem] theorem gSt_some (b : Bool) (n g o : Nat) (v : Value) : gSt (some (b, n)) v h g o = if v.cells.size = n then h.store g o v.cells.toList else none := (rfl)
def gIx (e : Option Nat) (P : Program) (g o len : Nat) (j : Int) : Option Value := match e with
  | some e => match tk P e with
    | some (_, n) => if 0 ≤ j ∧ j < len then some (gPtr g (o + j.toNat * n)) else none
    | none => none
  | none => none
@[go_sem] theorem gIndexAddr_slice (t : TypeId) (g o len c : Nat) (k : IntKind) (j : Int) : gIndexAddr P t (.slice (some ⟨g, o, none⟩) len c) (.int k j) = gIx (sk P t) P g o len j := (rfl)
@[go_sem] theorem gIndexAddr_array (t : TypeId) (g o : Nat) (k : IntKind) (j : Int) : gIndexAddr P t (.pointer (some ⟨g, o, none⟩)) (.int k j) = (match ak P t with
    | some (len, e) => gIx (some e) P g o len j
    | none => none) := by
  unfold gIndexAddr gIx
  rfl
attribute [go_sem] gIx Value.cells List.size_toArray List.length_cons List.length_nil
theorem load_at {g o n : Nat} {cells l : List Value} {ro : Bool} (hg : g < h.n) (hb : h.b g = ⟨cells, true, ro⟩) (hlt : o + n ≤ cells.length) (hl : (cells.drop o).take n = l) : h.load g o n = some l := by
  simp only [GH.load, hb]
  rw [if_pos ⟨hg, trivial, hlt⟩, hl]
theorem load_one_at {g o : Nat} {cells : List Value} {ro : Bool} {v : Value} (hg : g < h.n) (hb : h.b g = ⟨cells, true, ro⟩) (hv : cells[o]? = some v) : h.load g o 1 = some [v] := by
  refine load_at hg hb (List.getElem?_eq_some_iff.1 hv).1 ?_
  rw [List.take_one]
  simp [hv]
theorem store_at {g o : Nat} {cells vs : List Value} (hg : g < h.n) (hb : h.b g = ⟨cells, true, false⟩) (hlt : o + vs.length ≤ cells.length) (hv : vs.all Value.oneCell' = true) : h.store g o vs = some (h.upd g ⟨setL cells o vs, true, false⟩) := by
  simp only [GH.store, hb]
  rw [if_pos ⟨hg, trivial, trivial, hlt, hv⟩]
end
attribute [go_sem] Array.append_empty Array.empty_append List.append_toArray List.cons_append List.nil_append Int.toNat_natCast Nat.mul_one Nat.zero_add Nat.add_zero and_true true_and and_self Int.natCast_nonneg

/-- A LOOP, by what holds at each round's head and a number that goes down -/
theorem loopK_inv {P : Program} {E : GE} {pl : Plans} {c : Code} {Q : GQ} {α : Type} (m : α → Nat) (I : α → TS → GH → Prop)
    (step : ∀ a ts h, I a ts h → gwp P E pl c (gthen (fun ts' h' => ∃ a', m a' < m a ∧ I a' ts' h') Q) ts h) {a0 : α} {ts : TS} {h : GH} (hI : I a0 ts h) : loopK P E pl c Q ts h := by
  have key : ∀ n a ts h, m a < n → I a ts h → grounds (gwp P E pl c) Q n ts h := by
    intro n
    induction n with
    | zero => intro a ts h hm; omega
    | succ n ih =>
      intro a ts h hm hI
      refine gwp_mono c ?_ (step a ts h hI)
      intro e t g hx
      cases e with
      | normal =>
        obtain ⟨a', h1, h2⟩ := hx
        exact ih a' t g (by omega) h2
      | _ => exact hx
  exact ⟨m a0 + 1, key _ a0 ts h (by omega) hI⟩

theorem wrap_u64 {x : Int} (h1 : 0 ≤ x) (h2 : x ≤ 18446744073709551615) : IntKind.wrap .u64 x = x := by
  simp only [IntKind.wrap, IntKind.bits, IntKind.signed, Bool.false_and, Bool.false_eq_true, if_false]
  omega
theorem wrap_u8 {x : Int} (h1 : 0 ≤ x) (h2 : x ≤ 255) : IntKind.wrap .u8 x = x := by
  simp only [IntKind.wrap, IntKind.bits, IntKind.signed, Bool.false_and, Bool.false_eq_true, if_false]
  omega
theorem wrap_u32 {x : Int} (h1 : 0 ≤ x) (h2 : x ≤ 4294967295) : IntKind.wrap .u32 x = x := by
  simp only [IntKind.wrap, IntKind.bits, IntKind.signed, Bool.false_and, Bool.false_eq_true, if_false]
  omega

theorem alloc_self (h : GH) (x : GB) : (h.alloc x).b h.n = x := by rw [GH.alloc_b, if_pos rfl]
/-- the cells of bytes -/
theorem byteCells_get (b : ByteArray) (i : Nat) : (byteCells b)[i]? = (b.data.toList[i]?).map fun c => Value.int .u8 c.toNat := by
  simp [byteCells]
theorem byteCells_length (b : ByteArray) : (byteCells b).length = b.size := by
  simp [byteCells]
end Go.Proofs.Gh
namespace Go.Proofs.Gh
open Go Go.RowKit

/-! ### Memories that grow; rows -/
def GH.le (h h' : GH) : Prop := h.n ≤ h'.n ∧ ∀ g, g < h.n → h'.b g = h.b g
theorem GH.le.refl (h : GH) : h.le h := ⟨Nat.le_refl _, fun _ _ => rfl⟩
theorem GH.le.trans {a b c : GH} (h : a.le b) (k : b.le c) : a.le c := ⟨Nat.le_trans h.1 k.1, fun g hg => (k.2 g (Nat.lt_of_lt_of_le hg h.1)).trans (h.2 g hg)⟩
theorem GH.le.alloc {h0 h : GH} (hl : h0.le h) (x : GB) : h0.le (h.alloc x) := ⟨Nat.le_succ_of_le hl.1, fun g hg => by rw [alloc_b_lt h x (Nat.lt_of_lt_of_le hg hl.1)]; exact hl.2 g hg⟩
theorem GH.le.upd {h0 h : GH} (hl : h0.le h) {g : Nat} (hg : h0.n ≤ g) (x : GB) : h0.le (h.upd g x) := ⟨hl.1, fun g' hg' => by rw [GH.upd_b, if_neg (by omega)]; exact hl.2 g' hg'⟩
theorem GH.le_alloc (h : GH) (x : GB) : h.le (h.alloc x) := (GH.le.refl h).alloc x
theorem upd_self (h : GH) (g : Nat) (x : GB) : (h.upd g x).b g = x := by rw [GH.upd_b, if_pos rfl]
theorem upd_ne (h : GH) {g g' : Nat} (x : GB) (hne : g' ≠ g) : (h.upd g x).b g' = h.b g' := by rw [GH.upd_b, if_neg hne]

/-- v is a row in h: its elements, each a list of e cells -/
structure SlAt (h : GH) (g o c e : Nat) (els : List (List Value)) : Prop where
  lt : g < h.n
  alive : (h.b g).alive = true
  cells : ∃ pre post, (h.b g).cells = pre ++ els.flatten ++ post ∧ pre.length = o
  len : ∀ x ∈ els, x.length = e
  cap : els.length ≤ c ∧ (unk ≤ c → c = unk ∨ c = unk + e)
def Sl (h : GH) (v : Value) (e : Nat) (els : List (List Value)) : Prop :=
  (v = .slice none 0 0 ∧ els = []) ∨ ∃ g o c, v = .slice (some ⟨g, o, none⟩) els.length c ∧ SlAt h g o c e els
theorem SlAt.mono {h h' : GH} (hl : h.le h') {g o c e : Nat} {els : List (List Value)} (s : SlAt h g o c e els) : SlAt h' g o c e els := by
  obtain ⟨h1, h2, h3, h4, h5⟩ := s
  exact ⟨Nat.lt_of_lt_of_le h1 hl.1, by rw [hl.2 g h1]; exact h2, by rw [hl.2 g h1]; exact h3, h4, h5⟩
theorem Sl.mono {h h' : GH} (hl : h.le h') {v : Value} {e : Nat} {els : List (List Value)} (s : Sl h v e els) : Sl h' v e els := by
  rcases s with s | ⟨g, o, c, rfl, s⟩
  · exact .inl s
  · exact .inr ⟨g, o, c, rfl, s.mono hl⟩

section
variable {P : Program} {h : GH} {v : Value} {e : Nat} {els : List (List Value)}
theorem flatten_length : ∀ {els : List (List Value)} {e : Nat}, (∀ x ∈ els, x.length = e) → els.flatten.length = els.length * e
  | [], e, _ => by simp
  | x :: els, e, hl => by
    have h1 := hl x List.mem_cons_self
    have h2 := flatten_length (els := els) (e := e) fun y hy => hl y (List.mem_cons_of_mem _ hy)
    rw [List.flatten_cons, List.length_append, h1, h2, List.length_cons, Nat.succ_mul, Nat.add_comm]
theorem flatten_at : ∀ {els : List (List Value)} {e i : Nat} {x : List Value}, (∀ x ∈ els, x.length = e) → els[i]? = some x → (els.flatten.drop (i * e)).take e = x
  | [], e, i, x, _, hx => by simp at hx
  | y :: els, e, 0, x, hl, hx => by
    simp only [List.getElem?_cons_zero, Option.some.injEq] at hx
    subst hx
    have h1 := hl y List.mem_cons_self
    simp [h1]
  | y :: els, e, i + 1, x, hl, hx => by
    have h1 := hl y List.mem_cons_self
    rw [List.getElem?_cons_succ] at hx
    have h2 := flatten_at (fun z hz => hl z (List.mem_cons_of_mem _ hz)) hx
    have e0 : (y ++ els.flatten).drop ((i + 1) * e) = els.flatten.drop (i * e) := by
      rw [List.drop_append, List.drop_eq_nil_of_le (by rw [h1, Nat.succ_mul]; omega), List.nil_append, h1, Nat.succ_mul]
      congr 1
      omega
    rw [List.flatten_cons, e0, h2]
theorem SlAt.load {g o c : Nat} (s : SlAt h g o c e els) {i : Nat} {x : List Value} (hx : els[i]? = some x) : h.load g (o + i * e) e = some x := by
  obtain ⟨h1, h2, ⟨pre, post, h3, h4⟩, h5, h6⟩ := s
  have hi := (List.getElem?_eq_some_iff.1 hx).1
  have hfl := flatten_length h5
  have hle : i * e + e ≤ els.length * e := by rw [← Nat.succ_mul]; exact Nat.mul_le_mul_right _ hi
  unfold GH.load
  rw [if_pos ⟨h1, h2, by rw [h3]; simp only [List.length_append, hfl, h4]; omega⟩, h3, List.append_assoc, ← h4]
  have : (pre ++ (els.flatten ++ post)).drop (pre.length + i * e) = (els.flatten ++ post).drop (i * e) := by
    rw [List.drop_append]
    have e1 : pre.length + i * e - pre.length = i * e := by omega
    rw [e1, List.drop_eq_nil_of_le (by omega), List.nil_append]
  rw [this, List.drop_append, List.take_append]
  have e2 : e - (els.flatten.drop (i * e)).length = 0 := by rw [List.length_drop, hfl]; omega
  rw [e2, List.take_zero, List.append_nil, flatten_at h5 hx]
theorem Sl.nth (s : Sl h v e els) {t et : TypeId} {b : Bool} (hs : sk P t = some et) (ht : tk P et = some (b, e)) {i : Nat} {x : List Value} (hx : els[i]? = some x) (k : IntKind) :
    ∃ g o, gIndexAddr P t v (.int k i) = some (.pointer (some ⟨g, o, none⟩)) ∧ h.load g o e = some x ∧ g < h.n := by
  have hi := (List.getElem?_eq_some_iff.1 hx).1
  rcases s with ⟨_, rfl⟩ | ⟨g, o, c, rfl, s⟩
  · simp at hx
  · refine ⟨g, o + i * e, ?_, s.load hx, s.lt⟩
    rw [gIndexAddr_slice, hs]
    simp only [gIx, ht]
    rw [if_pos ⟨Int.natCast_nonneg _, by exact_mod_cast hi⟩]
    simp [gPtr]
theorem Sl.len (s : Sl h v e els) {t et : TypeId} (hu : P.underlying t = some (.slice et)) : gLen P t v = some (.int .i64 els.length) := by
  unfold gLen
  rw [hu]
  rcases s with ⟨rfl, rfl⟩ | ⟨g, o, c, rfl, s⟩
  · rfl
  · rfl
/-- a part of a row -/
theorem Sl.part (s : Sl h v e els) {t et : TypeId} {b : Bool} (hs : sk P t = some et) (ht : tk P et = some (b, e)) (hlen : els.length < unk) {lo hi : Option Value} {a z : Nat} (hlo : gBd 0 lo = some a) (hhi : gBd els.length hi = some z) (haz : a ≤ z) (hz : z ≤ els.length) :
    ∃ v', gSlice P t v lo hi none = some v' ∧ Sl h v' e ((els.drop a).take (z - a)) := by
  rcases s with ⟨rfl, rfl⟩ | ⟨g, o, c, rfl, s⟩
  · simp only [List.length_nil, Nat.le_zero] at hz
    subst hz
    have : a = 0 := by omega
    subst this
    refine ⟨.slice none 0 0, ?_, .inl ⟨rfl, by simp⟩⟩
    simp only [List.length_nil] at hhi
    have hm : gBd 0 none = some 0 := rfl
    simp only [gSlice, hs, ht, hlo, hhi, hm]
    simp
  · obtain ⟨h1, h2, ⟨pre, post, h3, h4⟩, h5, h6, h7⟩ := s
    have hlen' : ((els.drop a).take (z - a)).length = z - a := by rw [List.length_take, List.length_drop]; omega
    refine ⟨_, ?_, .inr ⟨g, o + a * e, if unk ≤ c then c else c - a, by rw [hlen'], ?_⟩⟩
    · have hm : gBd 0 none = some 0 := rfl
      simp only [gSlice, hs, ht, hlo, hhi, hm]
      rw [if_neg (by simp), if_pos]
      refine ⟨haz, ?_, h7⟩
      split
      · exact hz
      · exact Nat.le_trans hz h6
    · refine ⟨h1, h2, ⟨pre ++ (els.take a).flatten, (els.drop z).flatten ++ post, ?_, ?_⟩, fun x hx => h5 x (List.mem_of_mem_drop (List.mem_of_mem_take hx)), ?_⟩
      · have e1 : els = els.take a ++ ((els.drop a).take (z - a) ++ els.drop z) := by
          have : els.drop a = (els.drop a).take (z - a) ++ (els.drop a).drop (z - a) := (List.take_append_drop _ _).symm
          rw [List.drop_drop, show a + (z - a) = z by omega] at this
          rw [← this, List.take_append_drop]
        rw [h3]
        conv => lhs; rw [e1]
        simp [List.append_assoc]
      · rw [List.length_append, flatten_length (e := e) (fun x hx => h5 x (List.mem_of_mem_take hx)), h4, List.length_take, Nat.min_eq_left (by omega)]
      · rw [hlen']
        split
        · rename_i hc
          exact ⟨by omega, fun _ => h7 hc⟩
        · exact ⟨by omega, fun h => by omega⟩
theorem gSlice_head {t et : TypeId} {b : Bool} {g o len c k : Nat} {kd : IntKind} (hs : sk P t = some et) (ht : tk P et = some (b, e)) (hk : k ≤ len) (hc : len ≤ c ∧ (unk ≤ c → c = unk ∨ c = unk + e)) :
    gSlice P t (.slice (some ⟨g, o, none⟩) len c) none (some (.int kd k)) none = some (.slice (some ⟨g, o, none⟩) k c) := by
  have h1 : gBd 0 none = some 0 := rfl
  have h2 : gBd len (some (.int kd (k : Int))) = some k := by simp [gBd]
  simp only [gSlice, hs, ht, h1, h2]
  rw [if_neg (by simp), if_pos]
  · simp
  · refine ⟨Nat.zero_le _, ?_, hc.2⟩
    split
    · exact hk
    · exact Nat.le_trans hk hc.1
section
variable {t et : TypeId} {b : Bool} {z : Array Value} {g o len c g2 o2 n c2 : Nat} {news old : List Value} {h' : GH}
theorem gNews_row (hs : sk P t = some et) (ht : tk P et = some (b, e)) (hld : h.load g2 o2 (n * e) = some news) (hn : 0 < n) : gNews P t (.slice (some ⟨g2, o2, none⟩) n c2) h = some (n, news) := by
  simp only [gNews, hs, ht, hld]
  rw [if_neg (by omega)]
/-- append where there is room -/
theorem append_room (hs : sk P t = some et) (ht : tk P et = some (b, e)) (hz : zk P et = some z) (hze : z.size = e) (hce : P.cellsOf et = e) (hld : h.load g2 o2 (n * e) = some news) (hn : 0 < n) (hlen : news.length = n * e)
    (hone : news.all Value.oneCell' = true) (hc : c < unk) (hr : len + n ≤ c) (hst : h.store g (o + len * e) news = some h') :
    gAppend P t t (.slice (some ⟨g, o, none⟩) len c) (.slice (some ⟨g2, o2, none⟩) n c2) h = some (.slice (some ⟨g, o, none⟩) (len + n) c, h') := by
  simp only [gAppend, gAppendS, hs, hz, gNews_row hs ht hld hn]
  rw [if_pos ⟨hce.trans hze.symm, hone, by rw [hze]; exact hlen⟩, if_neg (by omega), if_neg (by omega), if_pos hr, hze, hst]
  rfl
/-- append where the row's room is told and too small: a new block -/
theorem append_over (hs : sk P t = some et) (ht : tk P et = some (b, e)) (hz : zk P et = some z) (hze : z.size = e) (hce : P.cellsOf et = e) (hld : h.load g2 o2 (n * e) = some news) (hn : 0 < n) (hlen : news.length = n * e)
    (hone : news.all Value.oneCell' = true) (hc : c < unk) (hr : c < len + n) (hold : (if len = 0 then some [] else h.load g o (len * e)) = some old) (hsz : len + n ≤ 1000000000000) (hby : 2 * (len + n) * P.bytesOf et ≤ 281474976710656) :
    gAppend P t t (.slice (some ⟨g, o, none⟩) len c) (.slice (some ⟨g2, o2, none⟩) n c2) h = some (.slice (some ⟨h.n, 0, none⟩) (len + n) (unk + e), h.alloc ⟨old ++ news, true, false⟩) := by
  simp only [gAppend, gAppendS, hs, hz, gNews_row hs ht hld hn]
  rw [if_pos ⟨hce.trans hze.symm, hone, by rw [hze]; exact hlen⟩, if_neg (by omega), if_neg (by omega), if_neg (by omega), hze, hold]
  simp only
  rw [if_pos ⟨hsz, hby⟩]
/-- append where the room isn't told: the block goes over to a new one -/
theorem append_unk (hs : sk P t = some et) (ht : tk P et = some (b, e)) (hz : zk P et = some z) (hze : z.size = e) (hce : P.cellsOf et = e) (he : 0 < e) (hld : h.load g2 o2 (n * e) = some news) (hn : 0 < n) (hlen : news.length = n * e)
    (hone : news.all Value.oneCell' = true) (hro : (h.b g).ro = false) (hold : h.load g o (len * e) = some old) (hsz : len + n ≤ 1000000000000) (hby : 2 * (len + n) * P.bytesOf et ≤ 281474976710656) :
    gAppend P t t (.slice (some ⟨g, o, none⟩) len (unk + e)) (.slice (some ⟨g2, o2, none⟩) n c2) h = some (.slice (some ⟨h.n, 0, none⟩) (len + n) (unk + e), (h.upd g dead).alloc ⟨old ++ news, true, false⟩) := by
  simp only [gAppend, gAppendS, hs, hz, gNews_row hs ht hld hn]
  rw [if_pos ⟨hce.trans hze.symm, hone, by rw [hze]; exact hlen⟩, if_neg (by omega), if_pos (by omega), hze, hold]
  simp only
  rw [if_pos ⟨hro, trivial, he, hsz, hby⟩]
/-- append to nil -/
theorem append_nil (hs : sk P t = some et) (ht : tk P et = some (b, e)) (hz : zk P et = some z) (hze : z.size = e) (hce : P.cellsOf et = e) (hld : h.load g2 o2 (n * e) = some news) (hn : 0 < n) (hlen : news.length = n * e)
    (hone : news.all Value.oneCell' = true) (hsz : n ≤ 1000000000000) (hby : 2 * n * P.bytesOf et ≤ 281474976710656) :
    gAppend P t t (.slice none 0 0) (.slice (some ⟨g2, o2, none⟩) n c2) h = some (.slice (some ⟨h.n, 0, none⟩) n (unk + e), h.alloc ⟨news, true, false⟩) := by
  simp only [gAppend, gAppendS, hs, hz, gNews_row hs ht hld hn]
  rw [if_pos ⟨hce.trans hze.symm, hone, by rw [hze]; exact hlen⟩, if_neg (by omega), if_pos ⟨hsz, hby⟩, hze]
end
theorem setL_one (c : List Value) (o : Nat) (v : Value) : setL c o [v] = c.set o v := rfl
theorem set_mid (A : List Value) (r v : Value) (rest : List Value) : (A ++ r :: rest).set A.length v = A ++ v :: rest := by
  induction A with
  | nil => rfl
  | cons a A ih => simp [ih]
theorem gMake_at {t et : TypeId} {z : Array Value} {k k' : IntKind} {x y : Int} {a b : Nat} (hx : x = a) (hy : y = b) (hs : sk P t = some et) (hz : zk P et = some z) (hce : P.cellsOf et = z.size) (hab : a ≤ b) (hb : b ≤ 4611686018427387904) (hby : P.bytesOf et * b ≤ 140737488355328) :
    gMake P t (.int k x) (.int k' y) h = some (.slice (some ⟨h.n, 0, none⟩) a b, h.alloc ⟨rep b z.toList, true, false⟩) := by
  subst hx hy
  unfold gMake
  rw [hs]
  dsimp only
  rw [hz]
  dsimp only
  have h1 : (P.bytesOf et : Int) * (b : Int) ≤ 140737488355328 := by
    rw [← Int.natCast_mul]
    exact Int.ofNat_le.2 hby
  rw [if_pos ⟨hce, by omega, by omega, by omega, h1⟩, Int.toNat_natCast, Int.toNat_natCast]
theorem rep_one (n : Nat) (v : Value) : rep n [v] = List.replicate n v := by
  unfold rep
  induction n with
  | zero => rfl
  | succ n ih => rw [List.replicate_succ, List.flatten_cons, ih]; rfl
theorem tdiv_nat (a b : Nat) : (a : Int).tdiv b = ((a / b : Nat) : Int) := rfl
theorem tmod_nat (a b : Nat) : (a : Int).tmod b = ((a % b : Nat) : Int) := rfl
end
end Go.Proofs.Gh
namespace Go.Proofs.Zz
/-! Decimal digits of natural numbers, and integers as canonical texts. -/

def digsF : Nat → Nat → List UInt8
  | 0, _ => []
  | f + 1, n => if n < 10 then [UInt8.ofNat (48 + n)] else digsF f (n / 10) ++ [UInt8.ofNat (48 + n % 10)]
def digs (n : Nat) : List UInt8 := digsF (n + 1) n

theorem digsF_irrel : ∀ (f g n : Nat), n < f → n < g → digsF f n = digsF g n := by
  intro f
  induction f with
  | zero => intro g n h; omega
  | succ f ih =>
    intro g n hf hg
    obtain ⟨g, rfl⟩ : ∃ m, g = m + 1 := ⟨g - 1, by omega⟩
    simp only [digsF]
    split
    · rfl
    · rw [ih g (n / 10) (by omega) (by omega)]

theorem digs_lt {n : Nat} (h : n < 10) : digs n = [UInt8.ofNat (48 + n)] := by
  simp only [digs, digsF]; rw [if_pos h]
theorem digs_ge {n : Nat} (h : 10 ≤ n) : digs n = digs (n / 10) ++ [UInt8.ofNat (48 + n % 10)] := by
  conv => lhs; simp only [digs, digsF]
  rw [if_neg (by omega), digs, digsF_irrel n (n / 10 + 1) (n / 10) (by omega) (by omega)]
theorem digs_eq (n : Nat) : digs n = if n < 10 then [UInt8.ofNat (48 + n)] else digs (n / 10) ++ [UInt8.ofNat (48 + n % 10)] := by
  split
  · exact digs_lt ‹_›
  · exact digs_ge (by omega)

/-- one digit more -/
def push (a : Nat) (c : UInt8) : Nat := 10 * a + (c.toNat - 48)
def val (l : List UInt8) : Nat := l.foldl push 0
theorem val_nil : val [] = 0 := rfl
theorem val_snoc (l : List UInt8) (c : UInt8) : val (l ++ [c]) = 10 * val l + (c.toNat - 48) := by
  simp [val, push]
theorem foldl_push (l : List UInt8) (a : Nat) : l.foldl push a = a * 10 ^ l.length + val l := by
  induction l generalizing a with
  | nil => simp [val]
  | cons c l ih =>
    have e : val (c :: l) = push 0 c * 10 ^ l.length + val l := ih (push 0 c)
    rw [List.foldl_cons, ih, e]
    simp only [push, List.length_cons, Nat.pow_succ]
    grind
theorem val_append (a b : List UInt8) : val (a ++ b) = val a * 10 ^ b.length + val b := by
  rw [val, List.foldl_append, ← val, foldl_push]
theorem val_cons (c : UInt8) (l : List UInt8) : val (c :: l) = (c.toNat - 48) * 10 ^ l.length + val l := by
  have := val_append [c] l
  simpa [val, push] using this

theorem toNat_dig {d : Nat} (h : d < 10) : (UInt8.ofNat (48 + d)).toNat = 48 + d := by
  simp [UInt8.toNat_ofNat']; omega

def AllDig (l : List UInt8) : Prop := ∀ c ∈ l, 48 ≤ c.toNat ∧ c.toNat ≤ 57
theorem AllDig.append {a b : List UInt8} (h : AllDig a) (h' : AllDig b) : AllDig (a ++ b) := by
  intro c hc
  rcases List.mem_append.1 hc with h1 | h1
  · exact h c h1
  · exact h' c h1
theorem AllDig.left {a b : List UInt8} (h : AllDig (a ++ b)) : AllDig a := fun c hc => h c (List.mem_append_left _ hc)
theorem AllDig.right {a b : List UInt8} (h : AllDig (a ++ b)) : AllDig b := fun c hc => h c (List.mem_append_right _ hc)
theorem AllDig.one {d : Nat} (h : d < 10) : AllDig [UInt8.ofNat (48 + d)] := by
  intro c hc
  rw [List.mem_singleton.1 hc, toNat_dig h]
  omega

theorem val_lt {l : List UInt8} (h : AllDig l) : val l < 10 ^ l.length := by
  induction l with
  | nil => simp [val]
  | cons c l ih =>
    have h1 := h c List.mem_cons_self
    have h2 := ih (fun d hd => h d (List.mem_cons_of_mem _ hd))
    rw [val_cons, List.length_cons, Nat.pow_succ]
    have : (c.toNat - 48) * 10 ^ l.length ≤ 9 * 10 ^ l.length := Nat.mul_le_mul_right _ (by omega)
    omega

theorem digs_all (n : Nat) : AllDig (digs n) := by
  induction n using Nat.strongRecOn with
  | _ n ih =>
    rw [digs_eq]
    split
    · exact AllDig.one ‹_›
    · exact (ih (n / 10) (by omega)).append (AllDig.one (by omega))
theorem val_digs (n : Nat) : val (digs n) = n := by
  induction n using Nat.strongRecOn with
  | _ n ih =>
    rw [digs_eq]
    split
    · simp only [val, List.foldl_cons, List.foldl_nil, push, toNat_dig ‹n < 10›]; omega
    · rw [val_snoc, ih (n / 10) (by omega), toNat_dig (by omega)]; omega
theorem digs_ne_nil (n : Nat) : digs n ≠ [] := by
  rw [digs_eq]; split <;> simp
theorem digs_length_pos (n : Nat) : 0 < (digs n).length := List.length_pos_iff.2 (digs_ne_nil n)
/-- no zero in front, but for 0 itself -/
theorem digs_head {n : Nat} (h : 0 < n) : ∀ c l, digs n = c :: l → 49 ≤ c.toNat := by
  induction n using Nat.strongRecOn with
  | _ n ih =>
    intro c l e
    rw [digs_eq] at e
    split at e
    · injection e with e1 e2
      rw [← e1, toNat_dig ‹_›]; omega
    · cases hd : digs (n / 10) with
      | nil => exact absurd hd (digs_ne_nil _)
      | cons c' l' =>
        rw [hd] at e
        injection e with e1 e2
        subst e1
        exact ih (n / 10) (by omega) (by omega) _ _ hd
theorem digs_zero : digs 0 = [48] := rfl

def Canon (l : List UInt8) : Prop := AllDig l ∧ l ≠ [] ∧ (l.length = 1 ∨ ∀ c r, l = c :: r → 49 ≤ c.toNat)
theorem digs_canon (n : Nat) : Canon (digs n) := by
  refine ⟨digs_all n, digs_ne_nil n, ?_⟩
  by_cases h : n = 0
  · subst h; left; rfl
  · right; exact digs_head (by omega)

theorem val_pos_of_head {c : UInt8} {l : List UInt8} (h : 49 ≤ c.toNat) : 10 ^ l.length ≤ val (c :: l) := by
  rw [val_cons]
  have : 1 * 10 ^ l.length ≤ (c.toNat - 48) * 10 ^ l.length := Nat.mul_le_mul_right _ (by omega)
  omega

theorem all_of_val : ∀ {a b : List UInt8}, AllDig a → AllDig b → a.length = b.length → val a = val b → a = b := by
  intro a
  induction a with
  | nil => intro b _ _ hl _; simpa using hl.symm
  | cons c a ih =>
    intro b ha hb hl hv
    cases b with
    | nil => simp at hl
    | cons d b =>
      have hl' : a.length = b.length := by simpa using hl
      have ha' : AllDig a := fun x hx => ha x (List.mem_cons_of_mem _ hx)
      have hb' : AllDig b := fun x hx => hb x (List.mem_cons_of_mem _ hx)
      have va := val_lt ha'
      have vb := val_lt hb'
      rw [val_cons, val_cons, hl'] at hv
      rw [hl'] at va
      have hc := ha c List.mem_cons_self
      have hd := hb d List.mem_cons_self
      have e : c.toNat - 48 = d.toNat - 48 := by
        rcases Nat.lt_trichotomy (c.toNat - 48) (d.toNat - 48) with h | h | h
        · have : (c.toNat - 48 + 1) * 10 ^ b.length ≤ (d.toNat - 48) * 10 ^ b.length := Nat.mul_le_mul_right _ h
          rw [Nat.add_mul] at this; omega
        · exact h
        · have : (d.toNat - 48 + 1) * 10 ^ b.length ≤ (c.toNat - 48) * 10 ^ b.length := Nat.mul_le_mul_right _ h
          rw [Nat.add_mul] at this; omega
      rw [e] at hv
      have e2 : c = d := UInt8.toNat_inj.1 (by omega)
      rw [e2, ih ha' hb' hl' (by omega)]

theorem digs_length_le {n k : Nat} (hk : 0 < k) : (digs n).length ≤ k ↔ n < 10 ^ k := by
  constructor
  · intro h
    have h1 := val_lt (digs_all n)
    rw [val_digs] at h1
    exact Nat.lt_of_lt_of_le h1 (Nat.pow_le_pow_right (by omega) h)
  · intro h
    by_cases hn : n = 0
    · subst hn; simp [digs_zero]; omega
    · cases hd : digs n with
      | nil => exact absurd hd (digs_ne_nil _)
      | cons c l =>
        have h1 := digs_head (by omega) c l hd
        have h2 := val_pos_of_head (l := l) h1
        rw [← hd, val_digs] at h2
        have h3 : 10 ^ l.length < 10 ^ k := by omega
        have h4 := (Nat.pow_lt_pow_iff_right (a := 10) (by omega)).1 h3
        simp; omega

theorem digs_val {l : List UInt8} (h : Canon l) : digs (val l) = l := by
  obtain ⟨h1, h2, h3⟩ := h
  apply all_of_val (digs_all _) h1 ?_ (val_digs _)
  have hl : 0 < l.length := List.length_pos_iff.2 h2
  apply Nat.le_antisymm
  · exact (digs_length_le hl).2 (val_lt h1)
  · rcases h3 with h3 | h3
    · rw [h3]; exact digs_length_pos _
    · cases l with
      | nil => simp
      | cons c r =>
        have h4 := val_pos_of_head (l := r) (h3 c r rfl)
        have h5 := val_lt (digs_all (val (c :: r)))
        rw [val_digs] at h5
        have h6 := (Nat.pow_lt_pow_iff_right (a := 10) (by omega)).1 (Nat.lt_of_le_of_lt h4 h5)
        simp only [List.length_cons]; omega

theorem digs_inj {m n : Nat} (h : digs m = digs n) : m = n := by
  have := congrArg val h; rwa [val_digs, val_digs] at this

/-- the text of an integer -/
def encL (z : Int) : List UInt8 := if z < 0 then 45 :: digs z.natAbs else digs z.natAbs
def bs (l : List UInt8) : ByteArray := ⟨l.toArray⟩
def enc (z : Int) : ByteArray := bs (encL z)
theorem bs_toList (l : List UInt8) : (bs l).data.toList = l := by simp [bs]
theorem bs_size (l : List UInt8) : (bs l).size = l.length := by simp [bs, ByteArray.size]
theorem bs_inj {a b : List UInt8} : bs a = bs b ↔ a = b := by
  constructor
  · intro h; have := congrArg (fun x => x.data.toList) h; simpa [bs] using this
  · rintro rfl; rfl
theorem bs_surj (s : ByteArray) : bs s.data.toList = s := by
  cases s; simp [bs]
theorem encL_inj {a b : Int} (h : encL a = encL b) : a = b := by
  unfold encL at h
  have key : ∀ (x : List UInt8) (n : Nat), 45 :: x ≠ digs n := by
    intro x n e
    have := digs_all n 45 (by rw [← e]; exact List.mem_cons_self)
    simp at this
  split at h <;> split at h
  · injection h with _ h; have := digs_inj h; omega
  · exact absurd h (key _ _)
  · exact absurd h.symm (key _ _)
  · have := digs_inj h; omega
theorem enc_inj {a b : Int} : enc a = enc b ↔ a = b := by
  constructor
  · intro h; exact encL_inj (bs_inj.1 h)
  · rintro rfl; rfl
theorem enc_nat (n : Nat) : enc (n : Int) = bs (digs n) := by
  unfold enc encL; rw [if_neg (by omega)]; simp
theorem enc_zero : enc 0 = ⟨#[48]⟩ := rfl
theorem enc_one : enc 1 = ⟨#[49]⟩ := rfl
theorem encL_length_pos (z : Int) : 0 < (encL z).length := by
  unfold encL; split
  · simp
  · exact digs_length_pos _
theorem enc_size_pos (z : Int) : 0 < (enc z).size := by unfold enc; rw [bs_size]; exact encL_length_pos z
end Go.Proofs.Zz
namespace Go.Proofs.Zz
/-! Pieces of nine digits. -/
abbrev BB : Nat := 1000000000
def ofP : List Nat → Nat
  | [] => 0
  | x :: l => x + BB * ofP l
def Sml (l : List Nat) : Prop := ∀ x ∈ l, x < BB
def pcsF : Nat → Nat → List Nat
  | 0, _ => []
  | f + 1, n => if n = 0 then [] else n % BB :: pcsF f (n / BB)
def pcs (n : Nat) : List Nat := pcsF (n + 1) n
theorem pcsF_irrel : ∀ (f g n : Nat), n < f → n < g → pcsF f n = pcsF g n := by
  intro f
  induction f with
  | zero => intro g n h; omega
  | succ f ih =>
    intro g n hf hg
    obtain ⟨g, rfl⟩ : ∃ m, g = m + 1 := ⟨g - 1, by omega⟩
    simp only [pcsF]
    split
    · rfl
    · rw [ih g (n / BB) (by simp only [BB]; omega) (by simp only [BB]; omega)]
theorem pcs_zero : pcs 0 = [] := rfl
theorem pcs_pos {n : Nat} (h : 0 < n) : pcs n = n % BB :: pcs (n / BB) := by
  conv => lhs; simp only [pcs, pcsF]
  rw [if_neg (by omega), pcs, pcsF_irrel n (n / BB + 1) (n / BB) (by simp only [BB]; omega) (by omega)]
theorem pcs_sml (n : Nat) : Sml (pcs n) := by
  induction n using Nat.strongRecOn with
  | _ n ih =>
    rcases Nat.eq_zero_or_pos n with h | h
    · subst h; intro x hx; cases hx
    · rw [pcs_pos h]
      intro x hx
      rcases List.mem_cons.1 hx with rfl | hx
      · exact Nat.mod_lt _ (by decide)
      · exact ih (n / BB) (by simp only [BB]; omega) x hx
theorem ofP_pcs (n : Nat) : ofP (pcs n) = n := by
  induction n using Nat.strongRecOn with
  | _ n ih =>
    rcases Nat.eq_zero_or_pos n with h | h
    · subst h; rfl
    · rw [pcs_pos h, ofP, ih (n / BB) (by simp only [BB]; omega)]
      exact Nat.mod_add_div n BB
theorem ofP_cons (x : Nat) (l : List Nat) : ofP (x :: l) = x + BB * ofP l := rfl
theorem ofP_append (a b : List Nat) : ofP (a ++ b) = ofP a + BB ^ a.length * ofP b := by
  induction a with
  | nil => simp [ofP]
  | cons x a ih => rw [List.cons_append, ofP, ih, ofP, List.length_cons, Nat.pow_succ]; grind
theorem ofP_lt {l : List Nat} (h : Sml l) : ofP l < BB ^ l.length := by
  induction l with
  | nil => simp [ofP]
  | cons x l ih =>
    have h1 := h x List.mem_cons_self
    have h2 := ih fun y hy => h y (List.mem_cons_of_mem _ hy)
    rw [ofP, List.length_cons, Nat.pow_succ, Nat.mul_comm (BB ^ l.length)]
    have : BB * (ofP l + 1) ≤ BB * BB ^ l.length := Nat.mul_le_mul_left _ h2
    rw [Nat.mul_add] at this
    omega
theorem pcs_len {n k : Nat} : (pcs n).length ≤ k ↔ n < BB ^ k := by
  induction k generalizing n with
  | zero =>
    rcases Nat.eq_zero_or_pos n with h | h
    · subst h; simp [pcs_zero]
    · rw [pcs_pos h]; simp; omega
  | succ k ih =>
    rcases Nat.eq_zero_or_pos n with h | h
    · subst h
      simp only [pcs_zero, List.length_nil, Nat.zero_le, true_iff]
      exact Nat.pow_pos (by decide)
    · rw [pcs_pos h, List.length_cons, Nat.succ_le_succ_iff, ih, Nat.pow_succ]
      exact Nat.div_lt_iff_lt_mul (by decide)
/-- without zeros at the end -/
def tr : List Nat → List Nat
  | [] => []
  | n :: l => match tr l with
    | [] => if n = 0 then [] else [n]
    | m :: r => n :: m :: r
theorem tr_take : ∀ (ns : List Nat) (k : Nat), k ≤ ns.length → (∀ j, k ≤ j → ∀ n, ns[j]? = some n → n = 0) → (∀ j n, k = j + 1 → ns[j]? = some n → n ≠ 0) → tr ns = ns.take k
  | [], k, h, _, _ => by simp [tr]
  | n :: l, 0, _, hz, _ => by
    have : tr l = [] := by
      have := tr_take l 0 (Nat.zero_le _) (fun j _ m hm => hz (j + 1) (Nat.zero_le _) m (by simpa using hm)) (fun j _ h => by omega)
      simpa using this
    have h0 := hz 0 (Nat.zero_le _) n rfl
    simp [tr, this, h0]
  | n :: l, k + 1, hk, hz, hn => by
    have ih := tr_take l k (by simpa using hk) (fun j hj m hm => hz (j + 1) (by omega) m (by simpa using hm)) (fun j m hj hm => hn (j + 1) m (by omega) (by simpa using hm))
    rw [tr, ih, List.take_succ_cons]
    cases hl : l.take k with
    | nil =>
      have hk0 : k = 0 := by
        rcases Nat.eq_zero_or_pos k with h | h
        · exact h
        · have : (l.take k).length = k := by rw [List.length_take]; simp at hk; omega
          rw [hl] at this
          simp at this
          omega
      subst hk0
      have := hn 0 n rfl rfl
      simp [this]
    | cons m r => rfl
theorem tr_pcs : ∀ {l : List Nat}, Sml l → tr l = pcs (ofP l)
  | [], _ => rfl
  | n :: l, h => by
    have h1 := h n List.mem_cons_self
    have ih := tr_pcs (l := l) fun y hy => h y (List.mem_cons_of_mem _ hy)
    rw [tr, ih, ofP]
    rcases Nat.eq_zero_or_pos (ofP l) with h2 | h2
    · rw [h2, pcs_zero]
      simp only [Nat.mul_zero, Nat.add_zero]
      rcases Nat.eq_zero_or_pos n with h3 | h3
      · rw [if_pos h3, h3, pcs_zero]
      · rw [if_neg (by omega), pcs_pos h3, Nat.mod_eq_of_lt h1, Nat.div_eq_of_lt h1, pcs_zero]
    · have e1 : (n + BB * ofP l) % BB = n := by rw [Nat.add_mul_mod_self_left, Nat.mod_eq_of_lt h1]
      have e2 : (n + BB * ofP l) / BB = ofP l := by rw [Nat.add_mul_div_left _ _ (by decide), Nat.div_eq_of_lt h1, Nat.zero_add]
      have h3 : 0 < n + BB * ofP l := by simp only [BB]; omega
      rw [pcs_pos h3, e1, e2]
      cases hp : pcs (ofP l) with
      | nil =>
        have := ofP_pcs (ofP l)
        rw [hp] at this
        simp only [ofP] at this
        omega
      | cons m r => rfl
theorem tr_len (l : List Nat) : (tr l).length ≤ l.length := by
  induction l with
  | nil => simp [tr]
  | cons n l ih =>
    rw [tr]
    split
    · split <;> simp
    · rename_i m r hm
      rw [hm] at ih
      simpa using ih
theorem tr_prefix : ∀ (l : List Nat), ∃ k, l = tr l ++ List.replicate k 0
  | [] => ⟨0, rfl⟩
  | n :: l => by
    obtain ⟨k, hk⟩ := tr_prefix l
    rw [tr]
    split
    · rename_i h0
      rw [h0] at hk
      split
      · rename_i hn
        exact ⟨k + 1, by rw [hn]; conv => lhs; rw [hk]
                         simp [List.replicate_succ]⟩
      · exact ⟨k, by conv => lhs; rw [hk]
                     simp⟩
    · rename_i m r hm
      rw [hm] at hk
      exact ⟨k, by conv => lhs; rw [hk]
                   simp⟩
end Go.Proofs.Zz
namespace Go.Proofs.Gh
open Go Go.RowKit Go.Proofs.Zz
/-- an error is the only thing the ghost does not look into; the tables are told -/
def pow10s : List Value := (List.range 20).map fun k => .int .u64 ((10 ^ k : Nat) : Int)
def tab32 : List Value := [0, 1, 28, 2, 29, 14, 24, 3, 30, 22, 20, 15, 25, 17, 4, 8, 31, 27, 13, 23, 21, 19, 16, 7, 26, 12, 18, 6, 11, 5, 10, 9].map fun (k : Int) => .int .u8 k
/-- the package-level variables, as the ghost has them -/
def gE : GE := ⟨6, fun g => match g with
  | 0 => ⟨[.iface errT (.tuple #[])], true, true⟩
  | 1 => ⟨[.iface errT (.tuple #[])], true, true⟩
  | 2 => ⟨pow10s, true, true⟩
  | _ => ⟨[], false, true⟩, fun g => by split <;> rfl⟩
/-- rows of numbers -/
def u64 (n : Nat) : Value := .int .u64 (n : Int)
def u64s (ns : List Nat) : List (List Value) := ns.map fun n => [u64 n]
theorem u64s_get {ns : List Nat} {i n : Nat} (h : ns[i]? = some n) : (u64s ns)[i]? = some [u64 n] := by simp [u64s, h]
theorem u64s_length (ns : List Nat) : (u64s ns).length = ns.length := by simp [u64s]
theorem u64s_len1 (ns : List Nat) : ∀ x ∈ u64s ns, x.length = 1 := by
  intro x hx
  simp only [u64s, List.mem_map] at hx
  obtain ⟨n, _, rfl⟩ := hx
  rfl
end Go.Proofs.Gh
