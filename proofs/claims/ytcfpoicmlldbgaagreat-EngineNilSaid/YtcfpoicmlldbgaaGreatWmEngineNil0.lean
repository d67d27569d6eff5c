/- Walks and their mathematics, merged. No conditions beyond those written. -/
import Derived.WalkKit
import Derived.OrdersHeld
import Derived.MapKept
import Derived.RowKit
import Derived.WalkArith
import Derived.RangeFuncIn
import Derived.RangeFuncRecord
import Derived.RangeFuncLeaves
import Derived.RangeFuncOwn
import Derived.OwnWalkIn
import Derived.TacticsIn
import Derived.Laws.StructEq
/- The walk's words: what is known of a call's slots and memory, without the world. -/
namespace Go.Proofs.Wk
open Go.RowKit
set_option linter.unusedVariables false
set_option linter.unusedSimpArgs false

abbrev Slots := List (Nat × Value)
def lk : Slots → Nat → Option Value
  | [], _ => none
  | (k, v) :: r, d => bif Nat.beq k d then some v else lk r d
def ev (K : Slots) : Operand → Option Value
  | .tmp t => lk K t
  | .const v => some v
  | .global g => some (.pointer (some ⟨g, 0, none⟩))
  | .func f => some (.func (.func f) #[] #[])
/-- A frame of n slots in which those of K hold what K says. -/
structure Sat (n : Nat) (K : Slots) (a : Act) : Prop where
  defers : a.defers = []
  size : a.tmps.size = n
  slot : ∀ d v, lk K d = some v → a.tmps.getD d undef = v
structure Blk where
  g : Nat
  o : Obj
/-- What may turn: O, and the blocks of L. -/
def Dt (O : Nat → Prop) (L : List Blk) (b : Nat) : Prop := O b ∨ ∃ x ∈ L, x.g = b
/-- In w' all of w but D is «as» it is. -/
structure Keep (D : Nat → Prop) (w w' : World) : Prop where
  os : w'.os = w.os
  tape : w'.tape = w.tape
  output : w'.output = w.output
  size : w.heap.size ≤ w'.heap.size
  block : ∀ b, b < w.heap.size → ¬ D b → w'.heap[b]? = w.heap[b]?
  drawn : w.drawn ≤ w'.drawn
/-- φ holds of w and of each later world in which all but D is «as» it is. -/
def Cls (D : Nat → Prop) (w : World) (φ : World → Prop) : Prop := ∀ w', Keep D w w' → φ w'
def All (G : List (World → Prop)) (w : World) : Prop := ∀ φ ∈ G, φ w
/-- Of the world w, in a call that began in w0: but for M all is «as» it was; L are blocks that may be turned, O others that a caller holds; G are facts that no turn of these touches. -/
structure St (w0 : World) (M O : Nat → Prop) (L : List Blk) (G : List (World → Prop)) (w : World) : Prop where
  keep : Keep M w0 w
  own : ∀ b ∈ L, w.heap[b.g]? = some b.o
  nd : L.Pairwise (fun x y => x.g ≠ y.g)
  base : ∀ b ∈ L, w0.heap.size ≤ b.g ∨ M b.g
  nob : ∀ b ∈ L, ¬ O b.g
  ob : ∀ b, O b → b < w0.heap.size
  cl : ∀ φ ∈ G, Cls (Dt O L) w φ

theorem Sat.eval {n : Nat} {K : Slots} {a : Act} (h : Sat n K a) {x : Operand} {v : Value} (hx : ev K x = some v) : a.eval x = v := by
  cases x with
  | tmp t => exact h.slot t v hx
  | const c => exact Option.some.inj hx
  | global g => exact Option.some.inj hx
  | func f => exact Option.some.inj hx
theorem Sat.put {n : Nat} {K : Slots} {a : Act} (h : Sat n K a) {d : Nat} (hd : Nat.blt d n = true) (v : Value) : Sat n ((d, v) :: K) (a.put (some d) v) := by
  have hlt : d < n := by simpa [Nat.blt_eq] using hd
  refine ⟨h.defers, by simp [Act.put, h.size], ?_⟩
  intro e u hu
  unfold lk at hu
  by_cases he : d = e
  · subst he
    simp at hu
    subst hu
    simp [Act.put, h.size, hlt]
  · have hb : Nat.beq d e = false := by
      cases hb : Nat.beq d e
      · rfl
      · exact absurd (Nat.eq_of_beq_eq_true hb) he
    rw [hb] at hu
    have := h.slot e u hu
    simp only [Act.put, Array.getD_eq_getD_getElem?] at this ⊢
    rw [Array.getElem?_setIfInBounds_ne (by omega)]
    exact this
theorem Sat.skip {n : Nat} {K : Slots} {a : Act} (h : Sat n K a) (v : Value) : Sat n K (a.put none v) := h


theorem Keep.refl (D : Nat → Prop) (w : World) : Keep D w w := ⟨rfl, rfl, rfl, Nat.le_refl _, fun _ _ _ => rfl, Nat.le_refl _⟩
theorem Keep.trans {D : Nat → Prop} {a b c : World} (h : Keep D a b) (k : Keep D b c) : Keep D a c :=
  ⟨k.os.trans h.os, k.tape.trans h.tape, k.output.trans h.output, Nat.le_trans h.size k.size, fun i hi hd => (k.block i (Nat.lt_of_lt_of_le hi h.size) hd).trans (h.block i hi hd), Nat.le_trans h.drawn k.drawn⟩
theorem Keep.mono {D D' : Nat → Prop} {w w' : World} (h : Keep D w w') (hd : ∀ b, b < w.heap.size → D b → D' b) : Keep D' w w' :=
  ⟨h.os, h.tape, h.output, h.size, fun b hb hn => h.block b hb (fun e => hn (hd b hb e)), h.drawn⟩
theorem Keep.alloc {D : Nat → Prop} {a w : World} (h : Keep D a w) (o : Obj) : Keep D a (w.alloc o) :=
  h.trans ⟨rfl, rfl, rfl, by simp, fun b hb _ => Below.heap_alloc _ _ _ hb, Nat.le_refl _⟩
theorem Keep.drew {D : Nat → Prop} {a w : World} (h : Keep D a w) : Keep D a w.drew := ⟨h.os, h.tape, h.output, h.size, h.block, Nat.le_succ_of_le h.drawn⟩
theorem Cls.later {D : Nat → Prop} {w w' : World} {φ : World → Prop} (h : Cls D w φ) (k : Keep D w w') : Cls D w' φ := fun w'' k' => h w'' (k.trans k')
theorem Cls.now {D : Nat → Prop} {w : World} {φ : World → Prop} (h : Cls D w φ) : φ w := h w (Keep.refl D w)
theorem Cls.mono {D D' : Nat → Prop} {w : World} {φ : World → Prop} (h : Cls D w φ) (hd : ∀ b, b < w.heap.size → D' b → D b) : Cls D' w φ := fun w' k => h w' (k.mono hd)

/-- X holds of each frame and world of which K, L and G are said. -/
def Pw (w0 : World) (M O : Nat → Prop) (n : Nat) (K : Slots) (L : List Blk) (G : List (World → Prop)) (X : Act → World → Prop) : Prop :=
  ∀ a w, Sat n K a → St w0 M O L G w → X a w

section
variable {P : Program} {w0 : World} {M O : Nat → Prop} {n : Nat} {K : Slots} {L : List Blk} {G : List (World → Prop)} {Q : Exit → Act → World → Prop} {ops : Array Oper} {rest : List Oper} {w : World} {a : Act}

theorem St.all (h : St w0 M O L G w) : All G w := fun φ hφ => (h.cl φ hφ).now
theorem own_lt {g : Nat} {o : Obj} (h : w.heap[g]? = some o) : g < w.heap.size := by
  rcases Nat.lt_or_ge g w.heap.size with h' | h'
  · exact h'
  · rw [Array.getElem?_eq_none h'] at h; cases h
/-- A step that turns nothing of what was: a block more, a draw, a call that only makes. -/
theorem St.grow (h : St w0 M O L G w) {w' : World} (k : Keep (fun _ => False) w w') : St w0 M O L G w' :=
  ⟨h.keep.trans (k.mono fun _ _ e => e.elim), fun b hb => by rw [k.block b.g (own_lt (h.own b hb)) id]; exact h.own b hb, h.nd, h.base, h.nob, h.ob, fun φ hφ => (h.cl φ hφ).later (k.mono fun _ _ e => e.elim)⟩
theorem St.drew (h : St w0 M O L G w) : St w0 M O L G w.drew := h.grow (Keep.refl _ _).drew
/-- A block more, held «as» one's own. -/
theorem St.new (h : St w0 M O L G w) (o : Obj) : St w0 M O (⟨w.heap.size, o⟩ :: L) G (w.alloc o) := by
  have h' := h.grow ((Keep.refl _ w).alloc o)
  refine ⟨h'.keep, ?_, ?_, ?_, ?_, h.ob, ?_⟩
  · intro b hb
    rcases List.mem_cons.1 hb with rfl | hb
    · exact heap_alloc_new _ _
    · exact h'.own b hb
  · refine List.pairwise_cons.2 ⟨fun x hx e => ?_, h.nd⟩
    have := own_lt (h.own x hx)
    simp only at e
    omega
  · intro b hb
    rcases List.mem_cons.1 hb with rfl | hb
    · exact .inl h.keep.size
    · exact h'.base b hb
  · intro b hb
    rcases List.mem_cons.1 hb with rfl | hb
    · intro e; have h1 := h.ob _ e; have h2 := h.keep.size; simp only at h1; omega
    · exact h'.nob b hb
  · intro φ hφ w' k
    refine h.cl φ hφ w' ⟨k.os, k.tape, k.output, Nat.le_trans (by simp) k.size, fun b hb hn => ?_, k.drawn⟩
    rw [k.block b (by simp; omega) ?_, Below.heap_alloc _ _ _ hb]
    rintro (e | ⟨x, hx, rfl⟩)
    · exact hn (.inl e)
    · rcases List.mem_cons.1 hx with rfl | hx
      · simp only at hb; omega
      · exact hn (.inr ⟨x, hx, rfl⟩)
/-- A block of one's own is given away: it may be read, and turns no more. -/
theorem St.free (h : St w0 M O L G w) {L' : List Blk} {g : Nat} {o : Obj} (hp : L.Perm (⟨g, o⟩ :: L')) : St w0 M O L' ((fun W => W.heap[g]? = some o) :: G) w := by
  have hm : ∀ b ∈ L', b ∈ L := fun b hb => hp.mem_iff.2 (List.mem_cons_of_mem _ hb)
  have hg : (⟨g, o⟩ : Blk) ∈ L := hp.mem_iff.2 (List.mem_cons_self ..)
  have hnd := (hp.pairwise_iff (fun {x y} (e : x.g ≠ y.g) => (fun e' => e e'.symm : y.g ≠ x.g))).1 h.nd
  obtain ⟨h1, h2⟩ := List.pairwise_cons.1 hnd
  refine ⟨h.keep, fun b hb => h.own b (hm b hb), h2, fun b hb => h.base b (hm b hb), fun b hb => h.nob b (hm b hb), h.ob, ?_⟩
  intro φ hφ
  rcases List.mem_cons.1 hφ with rfl | hφ
  · intro w' k
    have := h.own _ hg
    rw [k.block g (own_lt this) ?_]
    · exact this
    · rintro (e | ⟨x, hx, e⟩)
      · exact h.nob _ hg e
      · exact h1 x hx e.symm
  · refine (h.cl φ hφ).mono fun b _ e => ?_
    rcases e with e | ⟨x, hx, e⟩
    · exact .inl e
    · exact .inr ⟨x, hm x hx, e⟩
/-- A block of one's own is turned. -/
inductive Upd : List Blk → Blk → Obj → List Blk → Prop
  | head {b : Blk} {o : Obj} {r : List Blk} : Upd (b :: r) b o (⟨b.g, o⟩ :: r)
  | tail {c b : Blk} {o : Obj} {r r' : List Blk} (h : Upd r b o r') : Upd (c :: r) b o (c :: r')
theorem Upd.mem {L L' : List Blk} {b : Blk} {o : Obj} (h : Upd L b o L') : b ∈ L := by
  induction h with
  | head => exact List.mem_cons_self ..
  | tail _ ih => exact List.mem_cons_of_mem _ ih
theorem Upd.gs {L L' : List Blk} {b : Blk} {o : Obj} (h : Upd L b o L') : L'.map Blk.g = L.map Blk.g := by
  induction h with
  | head => rfl
  | tail _ ih => simp [ih]
theorem Upd.mem' {L L' : List Blk} {b : Blk} {o : Obj} (h : Upd L b o L') (hnd : L.Pairwise (fun x y => x.g ≠ y.g)) : ∀ x ∈ L', x = ⟨b.g, o⟩ ∨ (x ∈ L ∧ x.g ≠ b.g) := by
  induction h with
  | @head b o r =>
    intro x hx
    obtain ⟨h1, _⟩ := List.pairwise_cons.1 hnd
    rcases List.mem_cons.1 hx with rfl | hx
    · exact .inl rfl
    · exact .inr ⟨List.mem_cons_of_mem _ hx, fun e => h1 x hx e.symm⟩
  | @tail c b o r r' h ih =>
    intro x hx
    obtain ⟨h1, h2⟩ := List.pairwise_cons.1 hnd
    rcases List.mem_cons.1 hx with rfl | hx
    · exact .inr ⟨List.mem_cons_self .., h1 b h.mem⟩
    · rcases ih h2 x hx with e | ⟨e, e'⟩
      · exact .inl e
      · exact .inr ⟨List.mem_cons_of_mem _ e, e'⟩
theorem pairwise_gs {L L' : List Blk} (h : L'.map Blk.g = L.map Blk.g) (hnd : L.Pairwise (fun x y => x.g ≠ y.g)) : L'.Pairwise (fun x y => x.g ≠ y.g) := by
  have h1 : (L.map Blk.g).Pairwise (· ≠ ·) := List.pairwise_map.2 hnd
  rw [← h] at h1
  exact List.pairwise_map.1 h1
theorem St.turn (h : St w0 M O L G w) {L' : List Blk} {b : Blk} {o : Obj} (hu : Upd L b o L') {w' : World} (k : Keep (fun i => i = b.g) w w') (hb : w'.heap[b.g]? = some o) : St w0 M O L' G w' := by
  have hgs := hu.gs
  have hmem : ∀ i, (∃ x ∈ L', x.g = i) ↔ (∃ x ∈ L, x.g = i) := fun i => by
    have : i ∈ L'.map Blk.g ↔ i ∈ L.map Blk.g := by rw [hgs]
    simpa using this
  have hbase : ∀ x ∈ L', w0.heap.size ≤ x.g ∨ M x.g := fun x hx => by
    obtain ⟨y, hy, e⟩ := (hmem x.g).1 ⟨x, hx, rfl⟩
    rw [← e]; exact h.base y hy
  refine ⟨⟨k.os.trans h.keep.os, k.tape.trans h.keep.tape, k.output.trans h.keep.output, Nat.le_trans h.keep.size k.size, fun i hi hn => (k.block i (Nat.lt_of_lt_of_le hi h.keep.size) (fun e => ?_)).trans (h.keep.block i hi hn), Nat.le_trans h.keep.drawn k.drawn⟩, ?_, pairwise_gs hgs h.nd, hbase, ?_, h.ob, ?_⟩
  · subst e
    rcases h.base b hu.mem with e | e
    · omega
    · exact hn e
  · intro x hx
    rcases hu.mem' h.nd x hx with rfl | ⟨h1, h2⟩
    · exact hb
    · rw [k.block x.g (own_lt (h.own x h1)) h2]; exact h.own x h1
  · intro x hx
    obtain ⟨y, hy, e⟩ := (hmem x.g).1 ⟨x, hx, rfl⟩
    rw [← e]; exact h.nob y hy
  · intro φ hφ
    have h1 : Dt O L' = Dt O L := by
      funext i
      exact propext (or_congr Iff.rfl (hmem i))
    rw [h1]
    refine (h.cl φ hφ).later (k.mono fun i _ e => .inr ⟨b, hu.mem, e.symm⟩)
/-! ### Operations that look at no memory -/
/-- A number of the kind k, wrapped. -/
def wv (k : IntKind) (n : Int) : Option Value := match k with
  | .i64 => some (.int .i64 (wrap64 n))
  | .u32 => some (.int .u32 (n % 4294967296))
  | .u64 => some (.int .u64 (IntKind.u64.wrap n))
  | k => some (.int k (k.wrap n))
def ipv (op : BinOp) (k : IntKind) (a b : Int) : Option Value :=
  match op with
  | .add => wv k (a + b)
  | .sub => wv k (a - b)
  | .mul => wv k (a * b)
  | .and => some (.int k (bits .and k a b))
  | .or => some (.int k (bits .or k a b))
  | .xor => some (.int k (bits .xor k a b))
  | .eql => some (.bool (decide (a = b)))
  | .neq => some (.bool (decide (a ≠ b)))
  | .lss => some (.bool (decide (a < b)))
  | .leq => some (.bool (decide (a ≤ b)))
  | .gtr => some (.bool (decide (a > b)))
  | .geq => some (.bool (decide (a ≥ b)))
  | _ => none
/-- A shift by a constant. -/
def shv (op : BinOp) (k : IntKind) (a : Int) (m : Nat) : Option Value :=
  match op, k, m with
  | .shr, .u64, 32 => some (.int .u64 (a / 4294967296))
  | .shr, .u64, 31 => some (.int .u64 (a / 2147483648))
  | .shr, .u32, 31 => some (.int .u32 (a / 2147483648))
  | .shr, .u32, 1 => some (.int .u32 (a / 2))
  | .shl, .u64, 32 => some (.int .u64 (IntKind.u64.wrap (a * 4294967296)))
  | .shl, .u64, 33 => some (.int .u64 (IntKind.u64.wrap (a * 8589934592)))
  | .shl, .u32, 31 => some (.int .u32 ((a * 2147483648) % 4294967296))
  | .shr, k, m => some (.int k (a / 2 ^ min m k.bits))
  | .shl, k, m => wv k (a * 2 ^ min m k.bits)
  | _, _, _ => none
def ikeq : IntKind → IntKind → Bool
  | .i8, .i8 | .i16, .i16 | .i32, .i32 | .i64, .i64 | .u8, .u8 | .u16, .u16 | .u32, .u32 | .u64, .u64 => true
  | _, _ => false
theorem ikeq_eq {a b : IntKind} (h : ikeq a b = true) : a = b := by cases a <;> cases b <;> first | rfl | cases h
def bop (op : BinOp) (k : IntKind) (a : Int) (k' : IntKind) (b : Int) : Option Value :=
  match op with
  | .shl => match b with
    | .ofNat m => shv .shl k a m
    | .negSucc _ => none
  | .shr => match b with
    | .ofNat m => shv .shr k a m
    | .negSucc _ => none
  | .quo => match b with
    | .ofNat (_ + 1) => bif ikeq k k' then wv k (Int.tdiv a b) else none
    | _ => none
  | .rem => match b with
    | .ofNat (_ + 1) => bif ikeq k k' then some (.int k (Int.tmod a b)) else none
    | _ => none
  | op => bif ikeq k k' then ipv op k a b else none
/-- A test against nil, or of truth values. -/
def nilv (P : Program) (op : BinOp) (t : TypeId) (u v : Value) : Option Value :=
  match op, P.underlying t, u, v with
  | .eql, some (.pointer _), .pointer none, .pointer none => some (.bool true)
  | .eql, some (.pointer _), .pointer (some _), .pointer none => some (.bool false)
  | .neq, some (.pointer _), .pointer none, .pointer none => some (.bool false)
  | .neq, some (.pointer _), .pointer (some _), .pointer none => some (.bool true)
  | .eql, some (.slice _), .slice none _ _, .slice none _ _ => some (.bool true)
  | .eql, some (.slice _), .slice (some _) _ _, .slice none _ _ => some (.bool false)
  | .neq, some (.slice _), .slice none _ _, .slice none _ _ => some (.bool false)
  | .neq, some (.slice _), .slice (some _) _ _, .slice none _ _ => some (.bool true)
  | .eql, some (.map _ _), .map none, .map none => some (.bool true)
  | .eql, some (.map _ _), .map (some _), .map none => some (.bool false)
  | .eql, some .bool, .bool a, .bool b => some (.bool (a == b))
  | .neq, some .bool, .bool a, .bool b => some (.bool (!(a == b)))
  | _, _, _, _ => none
def evs (K : Slots) : List Operand → Option (List Value)
  | [] => some []
  | x :: r => match ev K x, evs K r with
    | some v, some l => some (v :: l)
    | _, _ => none
/-- A part of a value of several cells. -/
def skipL : Nat → List Value → List Value
  | 0, l => l
  | k + 1, [] => []
  | k + 1, _ :: r => skipL k r
def grab : Nat → List Value → Option (List Value)
  | 0, _ => some []
  | k + 1, [] => none
  | k + 1, v :: r => match grab k r with
    | some r => some (v :: r)
    | none => none
def partv (P : Program) (ty : TypeId) (cs : List Value) (i : Nat) : Option Value :=
  match P.underlying ty with
  | some (.struct _) => match P.info? ty with
    | some f => match grab f.size (skipL i cs) with
      | some r => some (.agg r.toArray)
      | none => none
    | none => none
  | some (.array _ _) => match P.info? ty with
    | some f => match grab f.size (skipL i cs) with
      | some r => some (.agg r.toArray)
      | none => none
    | none => none
  | some _ => match skipL i cs with
    | v :: _ => some v
    | [] => none
  | none => none
def pv (P : Program) (K : Slots) : Op → Option Value
  | .move x => ev K x
  | .assign x => ev K x
  | .pick c a b => match ev K c with
    | some (.bool true) => ev K a
    | some (.bool false) => ev K b
    | _ => none
  | .binOp op t x y _ => match ev K x, ev K y with
    | some (.int k a), some (.int k' b) => bop op k a k' b
    | some u, some v => nilv P op t u v
    | _, _ => none
  | .unOp .not _ x => match ev K x with
    | some (.bool b) => some (.bool (!b))
    | _ => none
  | .extract x i => match ev K x with
    | some (.tuple vs) => vs[i]?
    | _ => none
  | .nilCheck x => match ev K x with
    | some (.pointer (some a)) => some (.pointer (some a))
    | _ => none
  | .call ⟨.builtin .len, «as», ts⟩ => match «as».toList, ts.toList with
    | [x], [t] => match P.underlying t, ev K x with
      | some (.slice _), some (.slice _ n _) => some (.int .i64 n)
      | _, _ => none
    | _, _ => none
  | .convert src dst x => match P.underlying src, P.underlying dst, ev K x with
    | some _, some (.int k), some (.int _ n) => wv k n
    | _, _, _ => none
  | .fieldAddr s x i => match P.underlying s with
    | some (.struct fs) => match fs[i]? with
      | some f => match P.info? f.type, ev K x with
        | some t, some (.pointer (some ⟨g, j, none⟩)) => bif Nat.beq t.size 0 then none else some (.pointer (some ⟨g, j + f.offset, none⟩))
        | _, _ => none
      | none => none
    | _ => none
  | .field s x i => match P.underlying s with
    | some (.struct fs) => match fs[i]? with
      | some f => match ev K x with
        | some (.agg cs) => partv P f.type cs.toList f.offset
        | _ => none
      | none => none
    | _ => none
  | .makeFunc fn fst cap => match evs K fst.toList, evs K cap.toList with
    | some a, some b => some (.func fn a.toArray b.toArray)
    | _, _ => none
  | .indexAddr t x ix => match P.underlying t with
    | some (.array n e) => match P.info? e, ev K x, ev K ix with
      | some f, some (.pointer (some ⟨g, j, none⟩)), some (.int _ (.ofNat i)) => bif Nat.blt i n then some (.pointer (some ⟨g, j + i * f.size, none⟩)) else none
      | _, _, _ => none
    | _ => none
  | _ => none

theorem w64w (n : Int) : IntKind.i64.wrap n = wrap64 n := by rw [IntKind.wrap_i64]; unfold wrap64; rfl
theorem u32w (n : Int) : IntKind.u32.wrap n = n % 4294967296 := by simp [IntKind.wrap, IntKind.bits, IntKind.signed]
theorem wv_eq {k : IntKind} {n : Int} {v : Value} (h : wv k n = some v) : v = .int k (k.wrap n) := by
  unfold wv at h
  split at h <;> cases h <;> first | rfl | rw [w64w] | rw [u32w]
theorem ipv_run {op : BinOp} {k : IntKind} {a b : Int} {v : Value} (t : TypeId) (h : ipv op k a b = some v) (w : World) : (binOp op t (.int k a) (.int k b)).run P w = .ok v w := by
  have e1 : (a == b) = decide (a = b) := rfl
  have e2 : (a != b) = decide (a ≠ b) := by simp [bne, e1]
  cases op <;> simp only [ipv, Option.some.injEq, reduceCtorEq] at h
  case add => rw [wv_eq h]; simp [binOp, Op.intArith]
  case sub => rw [wv_eq h]; simp [binOp, Op.intArith]
  case mul => rw [wv_eq h]; simp [binOp, Op.intArith]
  all_goals subst h; simp [binOp, Op.intBits, bits, Op.intCmp, e1, e2]
theorem fdiv_pow (a : Int) (m : Nat) : a.fdiv (2 ^ m) = a / 2 ^ m := Int.fdiv_eq_ediv_of_nonneg _ (Int.le_of_lt (Int.pow_pos (by decide)))
theorem shv_run {op : BinOp} {k : IntKind} {a : Int} {m : Nat} {v : Value} (t : TypeId) (k' : IntKind) (h : shv op k a m = some v) (w : World) : (binOp op t (.int k a) (.int k' (Int.ofNat m))).run P w = .ok v w := by
  have e0 : ¬ (Int.ofNat m < 0) := by simp
  unfold shv at h
  split at h
  all_goals first
    | (cases h; done)
    | (cases h; show (Op.shift .shr _ a k' _).run P w = _; unfold Op.shift; rw [if_neg e0]; show Result.ok (Value.int _ (Int.fdiv a (2 ^ _))) w = _; rw [fdiv_pow]; rfl)
    | (cases h; show (Op.shift .shl _ a k' _).run P w = _; unfold Op.shift; rw [if_neg e0]; show Result.ok (Value.int _ (IntKind.wrap _ (a * 2 ^ _))) w = _; first | rfl | (rw [u32w]; rfl))
    | (rw [wv_eq h]; show (Op.shift .shl _ a k' _).run P w = _; unfold Op.shift; rw [if_neg e0]; rfl)
theorem bop_run {op : BinOp} {k k' : IntKind} {a b : Int} {v : Value} (t : TypeId) (h : bop op k a k' b = some v) (w : World) : (binOp op t (.int k a) (.int k' b)).run P w = .ok v w := by
  unfold bop at h
  split at h
  next =>
    split at h
    · exact shv_run t k' h w
    · cases h
  next =>
    split at h
    · exact shv_run t k' h w
    · cases h
  next =>
    split at h
    next m =>
      rw [Bool.cond_eq_ite] at h
      split at h
      next ek =>
        have := ikeq_eq ek; subst this
        have e0 : ¬ (Int.ofNat (m + 1) = 0) := by simp; omega
        rw [wv_eq h]
        simp only [binOp, ne_eq, not_true_eq_false, if_false, Op.intDiv, if_neg e0]
        rfl
      next => cases h
    next => cases h
  next =>
    split at h
    next m =>
      rw [Bool.cond_eq_ite] at h
      split at h
      next ek =>
        have := ikeq_eq ek; subst this
        have e0 : ¬ (Int.ofNat (m + 1) = 0) := by simp; omega
        cases h
        simp only [binOp, ne_eq, not_true_eq_false, if_false, Op.intDiv, if_neg e0]
        rfl
      next => cases h
    next => cases h
  next =>
    rw [Bool.cond_eq_ite] at h
    split at h
    next ek => have := ikeq_eq ek; subst this; exact ipv_run t h w
    next => cases h
theorem nil_eq {t : TypeId} {u v : Value} {b : Bool} {w : World} (h : ∀ d, (Op.equalIn (d + 1) t u v).run P w = .ok b w) (hb : binOp .eql t u v = (do Pure.pure (.bool (← Op.equal t u v)))) (x y : Operand) (hg : eqGuard .eql t x y u v = Pure.pure () := by rfl) : (do eqGuard .eql t x y u v; binOp .eql t u v : Sem Value).run P w = .ok (.bool b) w := by
  have h1 : (Op.equal t u v).run P w = .ok b w := h 9999
  simp only [hg, hb, Sem.run_bind, Sem.run_pure, Result.andThen_ok, h1]
theorem nil_ne {t : TypeId} {u v : Value} {b c : Bool} {w : World} (h : ∀ d, (Op.equalIn (d + 1) t u v).run P w = .ok b w) (hb : binOp .neq t u v = (do Pure.pure (.bool (!(← Op.equal t u v))))) (x y : Operand) (hc : (!b) = c := by rfl) (hg : eqGuard .neq t x y u v = Pure.pure () := by rfl) : (do eqGuard .neq t x y u v; binOp .neq t u v : Sem Value).run P w = .ok (.bool c) w := by
  have h1 : (Op.equal t u v).run P w = .ok b w := h 9999
  simp only [hg, hb, Sem.run_bind, Sem.run_pure, Result.andThen_ok, h1, hc]
theorem nilv_run {op : BinOp} {t : TypeId} {u v r : Value} (h : nilv P op t u v = some r) (w : World) (x y : Operand) : (do eqGuard op t x y u v; binOp op t u v : Sem Value).run P w = .ok r w := by
  unfold nilv at h
  split at h
  case h_13 => cases h
  all_goals
    rename_i hu
    cases h
    first
      | exact nil_eq (fun d => by simp [Op.equalIn, underlying, hu]) rfl x y
      | exact nil_ne (fun d => by simp [Op.equalIn, underlying, hu]; rfl) rfl x y
theorem skipL_get : ∀ (k : Nat) (l : List Value) (j : Nat), (skipL k l)[j]? = l[k + j]?
  | 0, l, j => by simp [skipL]
  | k + 1, [], j => by simp [skipL]
  | k + 1, v :: r, j => by rw [skipL, skipL_get k r j, Nat.add_right_comm, List.getElem?_cons_succ]
theorem grab_get : ∀ (k : Nat) (l r : List Value), grab k l = some r → r.length = k ∧ ∀ j, j < k → r[j]? = l[j]?
  | 0, l, r, h => by cases h; simp
  | k + 1, [], r, h => by cases h
  | k + 1, v :: l, r, h => by
    unfold grab at h
    split at h
    next r' e =>
      cases h
      obtain ⟨h1, h2⟩ := grab_get k l r' e
      refine ⟨by simp [h1], fun j hj => ?_⟩
      cases j with
      | zero => rfl
      | succ j => rw [List.getElem?_cons_succ, List.getElem?_cons_succ]; exact h2 j (by omega)
    next => cases h
theorem grab_extract {k i : Nat} {cs : Array Value} {r : List Value} (h : grab k (skipL i cs.toList) = some r) : cs.extract i (i + k) = r.toArray := by
  obtain ⟨h1, h2⟩ := grab_get _ _ _ h
  apply Array.ext'
  apply List.ext_getElem?
  intro j
  simp only [Array.toList_extract, List.extract_eq_take_drop]
  rw [List.getElem?_take, List.getElem?_drop]
  by_cases hj : j < k
  · rw [if_pos (by omega)]; rw [h2 j hj, skipL_get]
  · rw [if_neg (by omega)]; exact (List.getElem?_eq_none (l := r) (by omega)).symm
theorem partv_run {ty : TypeId} {cs : Array Value} {i : Nat} {v : Value} (h : partv P ty cs.toList i = some v) (w : World) : (part ty cs i).run P w = .ok v w := by
  unfold partv at h
  split at h
  next e =>
    split at h
    next f hf =>
      split at h
      next r hr => cases h; simp [part, isAgg, underlying, e, sizeOf, typeInfo, hf, grab_extract hr]
      next => cases h
    next => cases h
  next e =>
    split at h
    next f hf =>
      split at h
      next r hr => cases h; simp [part, isAgg, underlying, e, sizeOf, typeInfo, hf, grab_extract hr]
      next => cases h
    next => cases h
  next u h1 h2 e =>
    split at h
    next x r hx =>
      cases h
      have hc : cs[i]? = some v := by
        have := skipL_get i cs.toList 0
        rw [hx] at this; simpa using this.symm
      have hag : (isAgg ty).run P w = .ok false w := by
        cases u <;> first | exact absurd rfl (h1 _) | exact absurd rfl (h2 _ _) | simp [isAgg, underlying, e]
      simp [part, hag, hc]
    next => cases h
  next => cases h
theorem evs_map {a : Act} (ha : Sat n K a) : ∀ {l : List Operand} {vs : List Value}, evs K l = some vs → l.map a.eval = vs
  | [], vs, h => by cases h; rfl
  | x :: r, vs, h => by
    unfold evs at h
    split at h
    next v l e1 e2 => cases h; rw [List.map_cons, ha.eval e1, evs_map ha e2]
    next => cases h
theorem pv_run {op : Op} {v : Value} (h : pv P K op = some v) {a : Act} (hs : Sat n K a) (w : World) (d : Option Tmp) (ty : TypeId) (pos : String) (af : Array Edge) (g : Option (Nat × Bool)) :
    (execOp a.eval ⟨d, op, ty, pos, af, g⟩).run P w = .ok (.value v) w := by
  unfold pv at h
  split at h
  next => simp [execOp, hs.eval h]
  next => simp [execOp, hs.eval h]
  next =>
    split at h
    next e1 => simp [execOp, hs.eval h, hs.eval e1, asBool]
    next e1 => simp [execOp, hs.eval h, hs.eval e1, asBool]
    next => cases h
  next op t x y u =>
    split at h
    next k a b k' e1 e2 =>
      have := bop_run (P := P) t h w
      simp only [execOp, hs.eval e1, hs.eval e2]
      cases op <;> simp [eqGuard, this]
    next _ e1 e2 =>
      have := nilv_run (P := P) h w x y
      simp only [execOp, hs.eval e1, hs.eval e2, Sem.run_bind, this, Result.andThen_ok, Sem.run_pure]
    next => cases h
  next =>
    split at h
    next e1 => cases h; simp [execOp, hs.eval e1, Op.unary]
    next => cases h
  next =>
    split at h
    next e1 => simp [execOp, hs.eval e1, Instr.extract, h]
    next => cases h
  next =>
    split at h
    next e1 => cases h; simp [execOp, hs.eval e1]
    next => cases h
  next «as» ts =>
    split at h
    next x t ha ht =>
      have ha : «as» = #[x] := by rw [← Array.toList_inj, ha]
      have ht : ts = #[t] := by rw [← Array.toList_inj, ht]
      subst ha ht
      split at h
      next e0 e1 =>
        cases h
        simp [execOp, resolve, invoke, builtin, Builtin.len_, hs.eval e1, underlying, e0, goInt]
      next => cases h
    next => cases h
  next =>
    split at h
    next e0 e1 e2 =>
      rw [wv_eq h]
      simp [execOp, convert, hs.eval e2, underlying, e0, e1, Conv.intToInt]
    next => cases h
  next s x i =>
    split at h
    next fs e0 =>
      split at h
      next f e1 =>
        split at h
        next t g j e2 e3 =>
          rw [Bool.cond_eq_ite] at h
          split at h
          next => cases h
          next hz =>
            cases h
            have hz' : t.size ≠ 0 := fun e => hz (by rw [e]; rfl)
            have ea : (⟨g, j, none⟩ : Addr).add f.offset = ⟨g, j + f.offset, none⟩ := by unfold Addr.add; split <;> simp_all
            simp [execOp, Instr.fieldAt, underlying, e0, e1, hs.eval e3, Instr.sureAddr, fieldPlace, sizeOf, typeInfo, e2, hz', ea]
        next => cases h
      next => cases h
    next => cases h
  next s x i =>
    split at h
    next fs e0 =>
      split at h
      next f e1 =>
        split at h
        next cs e2 => simp [execOp, Instr.field, underlying, e0, e1, hs.eval e2, asAgg, partv_run h]
        next => cases h
      next => cases h
    next => cases h
  next fn fst cap =>
    split at h
    next l l' e1 e2 =>
      cases h
      have h1 : fst.map a.eval = l.toArray := by rw [← Array.toList_inj]; simp [evs_map hs e1]
      have h2 : cap.map a.eval = l'.toArray := by rw [← Array.toList_inj]; simp [evs_map hs e2]
      simp [execOp, Instr.makeFunc, h1, h2]
    next => cases h
  next t x ix =>
    split at h
    next n e e0 =>
      split at h
      next f g j k i e1 e2 e3 =>
        rw [Bool.cond_eq_ite] at h
        split at h
        next hz =>
          cases h
          have hlt : i < n := by simpa using hz
          have ea : (⟨g, j, none⟩ : Addr).add (i * f.size) = ⟨g, j + i * f.size, none⟩ := by unfold Addr.add; split <;> simp_all
          simp [execOp, Instr.indexAt, asIntOf, underlying, e0, hs.eval e2, hs.eval e3, Instr.sureAddr, sizeOf, typeInfo, e1, ea, hlt]
        next => cases h
      next => cases h
    next => cases h
  next => cases h
end
end Go.Proofs.Wk
/- The walk's rules. -/
namespace Go.Proofs.Wk
open Go.RowKit
set_option linter.unusedVariables false
set_option linter.unusedSimpArgs false
section
variable {P : Program} {w0 : World} {M O : Nat → Prop} {n : Nat} {K : Slots} {L : List Blk} {G : List (World → Prop)} {Q : Exit → Act → World → Prop} {ops : Array Oper} {rest : List Oper} {w : World} {a : Act} {X : Act → World → Prop}

/-! ### Code -/
theorem Pw.seq {x y : Code} (h : Pw w0 M O n K L G (x.wp P (Exit.then (y.wp P Q) Q))) : Pw w0 M O n K L G ((Code.seq x y).wp P Q) := fun a w ha hw => wp_seq (h a w ha hw)
theorem Pw.skip (h : Pw w0 M O n K L G (Q .normal)) : Pw w0 M O n K L G (Code.skip.wp P Q) := fun a w ha hw => wp_skip (h a w ha hw)
theorem Pw.exit {i : Nat} (h : Pw w0 M O n K L G (Q (.exit i))) : Pw w0 M O n K L G ((Code.exit i).wp P Q) := fun a w ha hw => wp_exit (h a w ha hw)
theorem Pw.ret (h : Pw w0 M O n K L G (Q .ret)) : Pw w0 M O n K L G (Code.ret.wp P Q) := fun a w ha hw => wp_ret (h a w ha hw)
theorem Pw.block {i : Nat} {c : Code} (h : Pw w0 M O n K L G (c.wp P (Exit.inBlock i Q))) : Pw w0 M O n K L G ((Code.block i c).wp P Q) := fun a w ha hw => wp_block (h a w ha hw)
theorem Pw.cond {c : Operand} {x y : Code} {b : Bool} (hc : ev K c = some (.bool b)) (ht : b = true → Pw w0 M O n K L G (x.wp P Q)) (hf : b = false → Pw w0 M O n K L G (y.wp P Q)) : Pw w0 M O n K L G ((Code.cond c x y).wp P Q) := fun a w ha hw =>
  wp_cond_split (t := b) (ha.eval hc) (fun e => ht e a w ha hw) (fun e => hf e a w ha hw)
theorem Pw.condT {c : Operand} {x y : Code} (hc : ev K c = some (.bool true)) (h : Pw w0 M O n K L G (x.wp P Q)) : Pw w0 M O n K L G ((Code.cond c x y).wp P Q) := fun a w ha hw => wp_cond_true (ha.eval hc) (h a w ha hw)
theorem Pw.condF {c : Operand} {x y : Code} (hc : ev K c = some (.bool false)) (h : Pw w0 M O n K L G (y.wp P Q)) : Pw w0 M O n K L G ((Code.cond c x y).wp P Q) := fun a w ha hw => wp_cond_false (ha.eval hc) (h a w ha hw)
theorem Pw.region {i : Nat} {l : List Oper} (h : Pw w0 M O n K L G (wpList P l.toArray Q l)) : Pw w0 M O n K L G ((Code.region i l.toArray false).wp P Q) := fun a w ha hw => wp_region_lit (h a w ha hw)
/-! ### Ways out -/
theorem Pw.then_ {N : Act → World → Prop} (h : Pw w0 M O n K L G N) : Pw w0 M O n K L G (Exit.then N Q .normal) := h
theorem Pw.thenX {N : Act → World → Prop} {i : Nat} (h : Pw w0 M O n K L G (Q (.exit i))) : Pw w0 M O n K L G (Exit.then N Q (.exit i)) := h
theorem Pw.thenR {N : Act → World → Prop} (h : Pw w0 M O n K L G (Q .ret)) : Pw w0 M O n K L G (Exit.then N Q .ret) := h
theorem Pw.inN {i : Nat} (h : Pw w0 M O n K L G (Q .normal)) : Pw w0 M O n K L G (Exit.inBlock i Q .normal) := h
theorem Pw.inR {i : Nat} (h : Pw w0 M O n K L G (Q .ret)) : Pw w0 M O n K L G (Exit.inBlock i Q .ret) := h
theorem Pw.inX {i : Nat} (h : Pw w0 M O n K L G (Q .normal)) : Pw w0 M O n K L G (Exit.inBlock i Q (.exit i)) := fun a w ha hw => by
  show (if i = i then Q .normal a w else Q (.exit i) a w); rw [if_pos rfl]; exact h a w ha hw
theorem Pw.inY {i j : Nat} (hij : Nat.beq j i = false) (h : Pw w0 M O n K L G (Q (.exit j))) : Pw w0 M O n K L G (Exit.inBlock i Q (.exit j)) := fun a w ha hw => by
  show (if j = i then Q .normal a w else Q (.exit j) a w); rw [if_neg (fun e => by subst e; simp at hij)]; exact h a w ha hw
/-! ### What is known, turned -/
def Sub : Slots → Slots → Prop
  | [], _ => True
  | (d, v) :: r, K => lk K d = some v ∧ Sub r K
theorem Sub.lk : ∀ {K' K : Slots}, Sub K' K → ∀ d v, lk K' d = some v → Wk.lk K d = some v
  | [], _, _, d, v, h => by cases h
  | (k, u) :: r, K, hs, d, v, h => by
    unfold Wk.lk at h
    cases hb : Nat.beq k d with
    | true =>
      rw [hb] at h; cases h
      rw [← Nat.eq_of_beq_eq_true hb]; exact hs.1
    | false => rw [hb] at h; exact Sub.lk hs.2 d v h
theorem Pw.sub {K' : Slots} (hK : Sub K' K) (h : Pw w0 M O n K' L G X) : Pw w0 M O n K L G X := fun a w ha hw => h a w ⟨ha.defers, ha.size, fun d v e => ha.slot d v (hK.lk d v e)⟩ hw
theorem Pw.facts {G' : List (World → Prop)} (hG : ∀ w, All G w → All G' w) (h : Pw w0 M O n K L G' X) : Pw w0 M O n K L G X := fun a w ha hw =>
  h a w ha ⟨hw.keep, hw.own, hw.nd, hw.base, hw.nob, hw.ob, fun φ hφ w' k => hG w' (fun ψ hψ => hw.cl ψ hψ w' k) φ hφ⟩
theorem Pw.re {d : Nat} {v v' : Value} (hd : lk K d = some v) (e : v = v') (h : Pw w0 M O n ((d, v') :: K) L G X) : Pw w0 M O n K L G X := fun a w ha hw =>
  h a w ⟨ha.defers, ha.size, fun d' u hu => by
    unfold lk at hu
    cases hb : Nat.beq d d' with
    | true => rw [hb] at hu; cases hu; rw [← Nat.eq_of_beq_eq_true hb]; exact ha.slot d _ (e ▸ hd)
    | false => rw [hb] at hu; exact ha.slot d' u hu⟩ hw
theorem Pw.free {L' : List Blk} {g : Nat} {o : Obj} (hp : L.Perm (⟨g, o⟩ :: L')) (h : Pw w0 M O n K L' ((fun W => W.heap[g]? = some o) :: G) X) : Pw w0 M O n K L G X := fun a w ha hw => h a w ha (hw.free hp)
/-- A fact that holds whatever the world. -/
theorem Pw.use {p : Prop} (hp : ∀ w, All G w → p) (h : p → Pw w0 M O n K L G X) : Pw w0 M O n K L G X := fun a w ha hw => h (hp w hw.all) a w ha hw

/-! ### Operations -/
def wantB (K : Slots) (ops : Array Oper) : Option (Nat × Bool) → Option Bool
  | none => some true
  | some (j, b) => match ((ops[j]?).bind (·.dst)) with
    | some d => match lk K d with
      | some (.bool true) => some b
      | some (.bool false) => some (!b)
      | some (.tuple _) => some false
      | _ => none
    | none => none
theorem wantB_spec {b : Bool} {o : Oper} (h : wantB K ops o.guard = some b) (ha : Sat n K a) : Region.wanted o (yielded ops a.tmps) = b := by
  unfold wantB at h
  unfold Region.wanted
  split at h
  next e => rw [e]; simpa using h
  next j c e =>
    rw [e]
    show (yielded ops a.tmps j == some c) = b
    split at h
    next d hd =>
      have key : ∀ v, lk K d = some v → v ≠ undef → yielded ops a.tmps j = match v with | .bool b => some b | _ => none := by
        intro v hv hne
        have := ha.slot d v hv
        unfold yielded
        rw [hd]
        simp only [Option.bind_some]
        rw [Array.getD_eq_getD_getElem?] at this
        cases hx : a.tmps[d]? with
        | none => rw [hx] at this; exact absurd this.symm hne
        | some u => rw [hx] at this; simp at this; subst this; cases u <;> rfl
      split at h
      next hv => rw [show yielded ops a.tmps j = some true from key _ hv (by simp [undef])]; cases c <;> simp at h <;> subst h <;> rfl
      next hv => rw [show yielded ops a.tmps j = some false from key _ hv (by simp [undef])]; cases c <;> simp at h <;> subst h <;> rfl
      next vs hv =>
        have : yielded ops a.tmps j = none := by
          have h1 := ha.slot d _ hv
          unfold yielded
          rw [hd]
          simp only [Option.bind_some]
          rw [Array.getD_eq_getD_getElem?] at h1
          cases hx : a.tmps[d]? with
          | none => rfl
          | some u => rw [hx] at h1; simp at h1; subst h1; rfl
        rw [this]; simp at h; subst h; rfl
      next => cases h
    next => cases h
/-- One operation, and what comes behind it. -/
def OpG (P : Program) (ops : Array Oper) (o : Oper) (N : Act → World → Prop) (Q : Exit → Act → World → Prop) (a : Act) (w : World) : Prop :=
  if Region.wanted o (yielded ops a.tmps) = true then o.wp P a w N Q else N (a.put o.dst undef) w
theorem Pw.list {o : Oper} (h : Pw w0 M O n K L G (OpG P ops o (wpList P ops Q rest) Q)) : Pw w0 M O n K L G (wpList P ops Q (o :: rest)) := fun a w ha hs => by
  have h := h a w ha hs
  unfold OpG at h
  unfold wpList
  split
  next hw => rw [if_pos hw] at h; exact .inl h
  next hw => rw [if_neg hw] at h; exact h
theorem Pw.nil (h : Pw w0 M O n K L G (Q .normal)) : Pw w0 M O n K L G (wpList P ops Q []) := h
variable {N : Act → World → Prop} {o : Oper} {d : Nat} {ty : TypeId} {pos : String} {af : Array Edge} {gd : Option (Nat × Bool)}
/-- It is carried out and yields a value. -/
theorem Pw.stepE (hw : wantB K ops o.guard = some true) (hd : o.dst = some d) (hn : Nat.blt d n = true)
    (hrun : ∀ a w, Sat n K a → St w0 M O L G w → ∃ v L' G' w', (execOp a.eval o).run P w = .ok (.value v) w' ∧ St w0 M O L' G' w' ∧ Pw w0 M O n ((d, v) :: K) L' G' N) :
    Pw w0 M O n K L G (OpG P ops o N Q) := fun a w ha hs => by
  unfold OpG
  rw [if_pos (wantB_spec hw ha)]
  obtain ⟨v, L', G', w', e, hs', h⟩ := hrun a w ha hs
  unfold Oper.wp
  rw [e, Oper.upon_value, hd]
  exact h _ _ (ha.put hn v) hs'
/-- It is carried out and yields nothing. -/
theorem Pw.stepU (hw : wantB K ops o.guard = some true) (hd : o.dst = none)
    (hrun : ∀ a w, Sat n K a → St w0 M O L G w → ∃ L' G' w', (execOp a.eval o).run P w = .ok .skip w' ∧ St w0 M O L' G' w' ∧ Pw w0 M O n K L' G' N) :
    Pw w0 M O n K L G (OpG P ops o N Q) := fun a w ha hs => by
  unfold OpG
  rw [if_pos (wantB_spec hw ha)]
  obtain ⟨L', G', w', e, hs', h⟩ := hrun a w ha hs
  unfold Oper.wp
  rw [e, Oper.upon_skip, hd]
  exact h _ _ ha hs'
/-- It is passed over. -/
theorem Pw.off {op : Op} (hw : wantB K ops gd = some false) (hn : Nat.blt d n = true) (h : Pw w0 M O n ((d, undef) :: K) L G N) :
    Pw w0 M O n K L G (OpG P ops ⟨some d, op, ty, pos, af, gd⟩ N Q) := fun a w ha hs => by
  unfold OpG
  rw [if_neg (by rw [wantB_spec (o := ⟨some d, op, ty, pos, af, gd⟩) hw ha]; simp)]
  exact h _ _ (ha.put hn undef) hs
theorem Pw.pure {op : Op} {v : Value} (hv : pv P K op = some v) (hw : wantB K ops gd = some true) (hn : Nat.blt d n = true) (h : Pw w0 M O n ((d, v) :: K) L G N) :
    Pw w0 M O n K L G (OpG P ops ⟨some d, op, ty, pos, af, gd⟩ N Q) :=
  Pw.stepE hw rfl hn (fun a w ha hs => ⟨v, L, G, w, pv_run hv ha w _ _ _ _ _, hs, h⟩)

/-! ### A region that draws its order -/
variable {S : World → Prop} {fuel i : Nat} {l l' : Array Bool}
theorem Pw.drawn {id : Nat} {l : List Oper} {sz : Nat} {bs : Array Bool} (S : World → Prop) (hm : P.follows .mixedOrders = true) (hsz : l.toArray.size = sz) (hbs : Array.replicate sz false = bs) (h : Pw w0 M O n K L G (wpAnyH P .any l.toArray Q S sz bs)) :
    Pw w0 M O n K L G ((Code.region id l.toArray true).wp P Q) := fun a w ha hs => by
  subst hbs hsz
  exact wp_region_held hm (h a w.drew ha hs.drew)
theorem Pw.held {F : Act → World → Prop} (hS : ∀ w, St w0 M O L G w → S w) (h : Pw w0 M O n K L G F) : Pw w0 M O n K L G (fun a w => S w ∧ F a w) := fun a w ha hs => ⟨hS w hs, h a w ha hs⟩
def oneB (ops : Array Oper) (l : Array Bool) (i : Nat) (l' : Array Bool) : Bool := (Region.ready .any ops l == [i]) && (l.setIfInBounds i true == l')
theorem Pw.one (i : Nat) (l' : Array Bool) (ho : ops[i]? = some o) (hc : oneB ops l i l' = true) (h : Pw w0 M O n K L G (OpG P ops o (fun a w => S w ∧ wpAnyH P .any ops Q S fuel l' a w) Q)) :
    Pw w0 M O n K L G (wpAnyH P .any ops Q S (fuel + 1) l) := fun a w ha hs => by
  unfold oneB at hc
  simp only [Bool.and_eq_true, beq_iff_eq] at hc
  refine wpAnyH_all hc.1 (by simp) (fun j hj => ?_)
  rw [List.mem_singleton] at hj
  subst hj
  have h := h a w ha hs
  unfold wpOp
  rw [ho]
  rw [hc.2]
  unfold OpG at h
  dsimp only
  split
  next hw => rw [if_pos hw] at h; exact .inl h
  next hw => rw [if_neg hw] at h; exact h
/-- Several may come up: each is gone through. -/
theorem Pw.two (i j : Nat) {oi oj : Oper} (li lj : Array Bool) (hoi : ops[i]? = some oi) (hoj : ops[j]? = some oj) (hc : ((Region.ready .any ops l == [i, j]) && (l.setIfInBounds i true == li) && (l.setIfInBounds j true == lj)) = true)
    (h : Pw w0 M O n K L G (OpG P ops oi (fun a w => S w ∧ wpAnyH P .any ops Q S fuel li a w) Q)) (h' : Pw w0 M O n K L G (OpG P ops oj (fun a w => S w ∧ wpAnyH P .any ops Q S fuel lj a w) Q)) :
    Pw w0 M O n K L G (wpAnyH P .any ops Q S (fuel + 1) l) := fun a w ha hs => by
  simp only [Bool.and_eq_true, beq_iff_eq] at hc
  refine wpAnyH_all hc.1.1 (by simp) (fun k hk => ?_)
  have h := h a w ha hs
  have h' := h' a w ha hs
  simp only [List.mem_cons, List.not_mem_nil, or_false] at hk
  unfold OpG at h h'
  rcases hk with rfl | rfl
  · unfold wpOp
    rw [hoi, hc.1.2]
    dsimp only
    split
    next hw => rw [if_pos hw] at h; exact .inl h
    next hw => rw [if_neg hw] at h; exact h
  · unfold wpOp
    rw [hoj, hc.2]
    dsimp only
    split
    next hw => rw [if_pos hw] at h'; exact .inl h'
    next hw => rw [if_neg hw] at h'; exact h'
def takeB (ops : Array Oper) (l : Array Bool) (i : Nat) (l' : Array Bool) : Bool :=
  Region.noSelect ops && Region.free .any ops l i && (Region.ready .any ops l).contains i && (l.setIfInBounds i true == l')
def NoPan (Q : Exit → Act → World → Prop) : Prop := ∀ c a w d v, Q (.panic c) (a.put d v) w → Q (.panic c) a w
/-- It is taken first: it yields the same whatever comes. -/
theorem Pw.take {v : Value} (i : Nat) (l' : Array Bool) (ho : ops[i]? = some o) (hd : o.dst = some d) (hn : Nat.blt d n = true) (hw : wantB K ops o.guard = some true) (hc : takeB ops l i l' = true) (hQ : NoPan Q)
    (hS : ∀ w, St w0 M O L G w → S w) (hrun : ∀ a w, Sat n K a → S w → (execOp a.eval o).run P w = .ok (.value v) w) (h : Pw w0 M O n ((d, v) :: K) L G (wpAnyH P .any ops Q S fuel l')) :
    Pw w0 M O n K L G (wpAnyH P .any ops Q S (fuel + 1) l) := fun a w ha hs => by
  unfold takeB at hc
  simp only [Bool.and_eq_true, beq_iff_eq] at hc
  refine wpAnyH_take (v := v) ho hc.1.1.1 hc.1.1.2 hc.1.2 (fun c a w => hQ c a w _ _) (.inl ⟨wantB_spec hw ha, fun w hS' => hrun a w ha hS'⟩) (hS w hs) ?_
  rw [hc.2, hd]
  exact h _ _ (ha.put hn v) hs
theorem Pw.done (hr : (Region.ready .any ops l == []) = true) (h : Pw w0 M O n K L G (Q .normal)) : Pw w0 M O n K L G (wpAnyH P .any ops Q S fuel l) := fun a w ha hs =>
  wpAnyH_done (by simpa using hr) (h a w ha hs) _
end
/-! ### Steps that need no word: the tactics stand «as» a parameter's default, so a walk's text names them only -/
theorem Pw.run {A B : Prop} (h2 : B) (h : B → A := by intro h; (first | (with_reducible first | refine Pw.seq ?_ | refine Pw.region ?_ | refine Pw.nil ?_ | refine Pw.then_ ?_ | refine Pw.skip ?_ | refine Pw.block ?_ | refine Pw.exit ?_ | refine Pw.inX ?_ | refine Pw.inN ?_ | refine Pw.inR ?_ | refine Pw.thenX ?_ | refine Pw.thenR ?_ | refine Pw.ret ?_) | refine Pw.list (Pw.pure rfl rfl rfl ?_) | refine Pw.inY rfl ?_ | refine Pw.list (Pw.off rfl rfl ?_) | refine Pw.condT rfl ?_ | refine Pw.condF rfl ?_); (repeat (first | (with_reducible first | refine Pw.seq ?_ | refine Pw.region ?_ | refine Pw.nil ?_ | refine Pw.then_ ?_ | refine Pw.skip ?_ | refine Pw.block ?_ | refine Pw.exit ?_ | refine Pw.inX ?_ | refine Pw.inN ?_ | refine Pw.inR ?_ | refine Pw.thenX ?_ | refine Pw.thenR ?_ | refine Pw.ret ?_) | refine Pw.list (Pw.pure rfl rfl rfl ?_) | refine Pw.inY rfl ?_ | refine Pw.list (Pw.off rfl rfl ?_) | refine Pw.condT rfl ?_ | refine Pw.condF rfl ?_)); exact h) : A := h h2
theorem Pw.runs {A B : Prop} (h2 : B) (h : B → A := by intro h; (first | (with_reducible first | refine Pw.seq ?_ | refine Pw.region ?_ | refine Pw.nil ?_ | refine Pw.then_ ?_ | refine Pw.skip ?_ | refine Pw.block ?_ | refine Pw.exit ?_ | refine Pw.inX ?_ | refine Pw.inN ?_ | refine Pw.inR ?_ | refine Pw.thenX ?_ | refine Pw.thenR ?_ | refine Pw.ret ?_) | refine Pw.list (Pw.pure rfl rfl rfl ?_) | refine Pw.inY rfl ?_ | refine Pw.list (Pw.off rfl rfl ?_) | refine Pw.condT rfl ?_ | refine Pw.condF rfl ?_ | refine Pw.list (Pw.build rfl rfl rfl rfl ?_) | refine Pw.list (Pw.ld rfl inferInstance rfl rfl rfl ?_) | refine Pw.list (Pw.sto rfl rfl inferInstance rfl rfl rfl rfl rfl inferInstance rfl ?_)); (repeat (first | (with_reducible first | refine Pw.seq ?_ | refine Pw.region ?_ | refine Pw.nil ?_ | refine Pw.then_ ?_ | refine Pw.skip ?_ | refine Pw.block ?_ | refine Pw.exit ?_ | refine Pw.inX ?_ | refine Pw.inN ?_ | refine Pw.inR ?_ | refine Pw.thenX ?_ | refine Pw.thenR ?_ | refine Pw.ret ?_) | refine Pw.list (Pw.pure rfl rfl rfl ?_) | refine Pw.inY rfl ?_ | refine Pw.list (Pw.off rfl rfl ?_) | refine Pw.condT rfl ?_ | refine Pw.condF rfl ?_ | refine Pw.list (Pw.build rfl rfl rfl rfl ?_) | refine Pw.list (Pw.ld rfl inferInstance rfl rfl rfl ?_) | refine Pw.list (Pw.sto rfl rfl inferInstance rfl rfl rfl rfl rfl inferInstance rfl ?_))); exact h) : A := h h2
theorem fx {p q : Prop} (h : p) (r : p → q := by intro h; first | exact fact0 (h) | exact fact0 (allTail (h)) | exact fact0 (allTail (allTail (h))) | exact fact0 (allTail (allTail (allTail (h)))) | exact fact0 (allTail (allTail (allTail (allTail (h))))) | exact fact0 (allTail (allTail (allTail (allTail (allTail (h)))))) | exact fact0 (allTail (allTail (allTail (allTail (allTail (allTail (h))))))) | exact fact0 (allTail (allTail (allTail (allTail (allTail (allTail (allTail (h)))))))) | exact fact0 (allTail (allTail (allTail (allTail (allTail (allTail (allTail (allTail (h))))))))) | exact fact0 (allTail (allTail (allTail (allTail (allTail (allTail (allTail (allTail (allTail (h))))))))))) : q := r h
end Go.Proofs.Wk
/- The walk's rules for memory. -/
namespace Go.Proofs.Wk
open Go.RowKit
set_option linter.unusedVariables false
set_option linter.unusedSimpArgs false
section
variable {P : Program} {w0 : World} {M O : Nat → Prop} {n : Nat} {K : Slots} {L : List Blk} {G : List (World → Prop)} {Q : Exit → Act → World → Prop} {ops : Array Oper} {rest : List Oper} {w : World} {a : Act} {X : Act → World → Prop}
  {d : Nat} {ty : TypeId} {pos : String} {af : Array Edge} {gd : Option (Nat × Bool)} {N : Act → World → Prop} {S : World → Prop}

theorem noPan_body {fn : Func} {R : Ending → World → Prop} : NoPan (bodyPost P fn R) := fun c a w d v h => by
  cases d <;> exact h
theorem noPan_then {N : Act → World → Prop} (h : NoPan Q) : NoPan (Exit.then N Q) := h
theorem noPan_in {i : Nat} (h : NoPan Q) : NoPan (Exit.inBlock i Q) := h

/-! ### New blocks -/
theorem Pw.box {t : TypeId} {x : Operand} {v : Value} {cs : List Value} (hx : ev K x = some v) (hcs : v.cells.toList = cs) (hw : wantB K ops gd = some true) (hn : Nat.blt d n = true)
    (h : ∀ g, Pw w0 M O n ((d, .pointer (some ⟨g, 0, none⟩)) :: K) (⟨g, .cells cs.toArray t (0, 0)⟩ :: L) G N) :
    Pw w0 M O n K L G (OpG P ops ⟨some d, .box t x, ty, pos, af, gd⟩ N Q) :=
  Pw.stepE hw rfl hn fun a w ha hs => ⟨_, _, _, w.alloc (.cells cs.toArray t (0, 0)), by simp [execOp, ha.eval hx, Instr.box, newVar, newRow, ← hcs], hs.new _, h _⟩
theorem Pw.alloc {t : TypeId} {z : Value} {i : TypeInfo} {cs : List Value} (hi : P.info? t = some i) (hz : i.zero = some z) (hcs : z.cells.toList = cs) (hw : wantB K ops gd = some true) (hn : Nat.blt d n = true)
    (h : ∀ g, Pw w0 M O n ((d, .pointer (some ⟨g, 0, none⟩)) :: K) (⟨g, .cells cs.toArray t (0, 0)⟩ :: L) G N) :
    Pw w0 M O n K L G (OpG P ops ⟨some d, .alloc t, ty, pos, af, gd⟩ N Q) :=
  Pw.stepE hw rfl hn fun a w ha hs => ⟨_, _, _, w.alloc (.cells cs.toArray t (0, 0)), by simp [execOp, Instr.alloc, newVar, newRow, zeroValue, typeInfo, hi, hz, ← hcs], hs.new _, h _⟩

/-! ### Loads -/
/-- What a load of the type ty at cell i of a block of these cells is. -/
abbrev ldv (P : Program) (ty : TypeId) (cs : List Value) (i : Nat) : Option Value := partv P ty cs i
theorem cell_of_blk {g i : Nat} {cs : List Value} {t : TypeId} (h : w.heap[g]? = some (.cells cs.toArray t (0, 0))) : w.cell? ⟨g, i, none⟩ = cs[i]? := by
  simp [World.cell?, h]
theorem add_none (g i j : Nat) : (⟨g, i, none⟩ : Addr).add j = ⟨g, i + j, none⟩ := by
  unfold Addr.add; split <;> simp_all
theorem ldv_run {g i : Nat} {cs : List Value} {t : TypeId} {v : Value} (hb : w.heap[g]? = some (.cells cs.toArray t (0, 0))) (hv : ldv P ty cs i = some v) : (loadVar ty ⟨g, i, none⟩).run P w = .ok v w := by
  have agg : ∀ (f : TypeInfo) (r : List Value), P.info? ty = some f → grab f.size (skipL i cs) = some r → (do let a ← loadCells ⟨g, i, none⟩ (← sizeOf ty); Pure.pure (Value.agg a) : Sem Value).run P w = .ok (.agg r.toArray) w := by
    intro f r hf hr
    obtain ⟨h1, h2⟩ := grab_get _ _ _ hr
    have h3 := run_loadCells_list (P := P) (w := w) ⟨g, i, none⟩ r (fun j v hj => by
      rw [add_none, cell_of_blk hb]
      have hlt : j < f.size := by rw [← h1]; exact (List.getElem?_eq_some_iff.1 hj).1
      rw [← skipL_get, ← h2 j hlt]; exact hj)
    rw [h1] at h3
    simp [sizeOf, typeInfo, hf, h3]
  unfold ldv partv at hv
  split at hv
  next e =>
    split at hv
    next f hf =>
      split at hv
      next r hr => cases hv; simpa [loadVar, isAgg, underlying, e] using agg f r hf hr
      next => cases hv
    next => cases hv
  next e =>
    split at hv
    next f hf =>
      split at hv
      next r hr => cases hv; simpa [loadVar, isAgg, underlying, e] using agg f r hf hr
      next => cases hv
    next => cases hv
  next u h1 h2 e =>
    split at hv
    next x r hx =>
      cases hv
      have hc : w.cell? ⟨g, i, none⟩ = some v := by
        rw [cell_of_blk hb]
        have := skipL_get i cs 0
        rw [hx] at this; simpa using this.symm
      have hag : (isAgg ty).run P w = .ok false w := by
        cases u <;> first | exact absurd rfl (h1 _) | exact absurd rfl (h2 _ _) | simp [isAgg, underlying, e]
      simp [loadVar, hag, hc]
    next => cases hv
  next => cases hv
theorem load_run {x : Operand} {g i : Nat} {cs : List Value} {t u : TypeId} {v : Value} (hx : ev K x = some (.pointer (some ⟨g, i, none⟩))) (ha : Sat n K a) (hb : w.heap[g]? = some (.cells cs.toArray t (0, 0))) (hv : ldv P u cs i = some v) :
    (execOp a.eval ⟨some d, .load u x, ty, pos, af, gd⟩).run P w = .ok (.value v) w := by
  simp [execOp, ha.eval hx, Instr.loadAt, Instr.sureAddr, ldv_run hb hv]
theorem Pw.load {x : Operand} {g i : Nat} {cs : List Value} {t u : TypeId} {v : Value} (hx : ev K x = some (.pointer (some ⟨g, i, none⟩))) (hb : ∀ w, St w0 M O L G w → w.heap[g]? = some (.cells cs.toArray t (0, 0))) (hv : ldv P u cs i = some v)
    (hw : wantB K ops gd = some true) (hn : Nat.blt d n = true) (h : Pw w0 M O n ((d, v) :: K) L G N) : Pw w0 M O n K L G (OpG P ops ⟨some d, .load u x, ty, pos, af, gd⟩ N Q) :=
  Pw.stepE hw rfl hn fun a w ha hs => ⟨_, _, _, w, load_run hx ha (hb w hs) hv, hs, h⟩
/-- A load of one cell of which a fact tells. -/
theorem load1_run {x : Operand} {A : Addr} {u : TypeId} {v : Value} (hx : ev K x = some (.pointer (some A))) (ha : Sat n K a) (hu : (match P.underlying u with | some (.struct _) => false | some (.array _ _) => false | some _ => true | none => false) = true) (hc : w.cell? A = some v) :
    (execOp a.eval ⟨some d, .load u x, ty, pos, af, gd⟩).run P w = .ok (.value v) w := by
  have hag : (isAgg u).run P w = .ok false w := by
    cases e : P.underlying u with
    | none => rw [e] at hu; cases hu
    | some k => rw [e] at hu; cases k <;> simp_all [isAgg, underlying]
  simp [execOp, ha.eval hx, Instr.loadAt, Instr.sureAddr, loadVar, hag, hc]
theorem Pw.load1 {x : Operand} {A : Addr} {u : TypeId} {v : Value} (hx : ev K x = some (.pointer (some A))) (hu : (match P.underlying u with | some (.struct _) => false | some (.array _ _) => false | some _ => true | none => false) = true) (hc : ∀ w, St w0 M O L G w → w.cell? A = some v)
    (hw : wantB K ops gd = some true) (hn : Nat.blt d n = true) (h : Pw w0 M O n ((d, v) :: K) L G N) : Pw w0 M O n K L G (OpG P ops ⟨some d, .load u x, ty, pos, af, gd⟩ N Q) :=
  Pw.stepE hw rfl hn fun a w ha hs => ⟨_, _, _, w, load1_run hx ha hu (hc w hs), hs, h⟩

/-! ### Stores -/
def putN : Nat → List Value → List Value → Option (List Value)
  | _, [], cs => some cs
  | _, _ :: _, [] => none
  | 0, v :: r, _ :: cs => match putN 0 r cs with
    | some l => some (v :: l)
    | none => none
  | i + 1, v :: r, c :: cs => match putN i (v :: r) cs with
    | some l => some (c :: l)
    | none => none
theorem putN_spec : ∀ (i : Nat) (vs cs l : List Value), putN i vs cs = some l → l.length = cs.length ∧ (vs ≠ [] → i + vs.length ≤ cs.length) ∧ ∀ j, l[j]? = if i ≤ j ∧ j < i + vs.length then vs[j - i]? else cs[j]?
  | i, [], cs, l, h => by
    have : l = cs := by unfold putN at h; simpa using h.symm
    subst this
    refine ⟨rfl, fun e => absurd rfl e, fun j => ?_⟩
    rw [if_neg (by simp only [List.length_nil]; omega)]
  | i, v :: r, [], l, h => by simp [putN] at h
  | 0, v :: r, c :: cs, l, h => by
    unfold putN at h
    split at h
    next l' e =>
      cases h
      obtain ⟨h1, h2, h3⟩ := putN_spec 0 r cs l' e
      refine ⟨by simp [h1], fun _ => ?_, fun j => ?_⟩
      · cases r with
        | nil => simp
        | cons x r => have := h2 (by simp); simp at this ⊢; omega
      · cases j with
        | zero => simp
        | succ j => rw [List.getElem?_cons_succ, h3 j]; simp only [List.length_cons, Nat.zero_add, Nat.sub_zero, Nat.zero_le, true_and, List.getElem?_cons_succ, Nat.add_lt_add_iff_right]
    next => cases h
  | i + 1, v :: r, c :: cs, l, h => by
    unfold putN at h
    split at h
    next l' e =>
      cases h
      obtain ⟨h1, h2, h3⟩ := putN_spec i (v :: r) cs l' e
      refine ⟨by simp [h1], fun _ => ?_, fun j => ?_⟩
      · have := h2 (by simp); simp at this ⊢; omega
      · cases j with
        | zero => simp
        | succ j =>
          rw [List.getElem?_cons_succ, h3 j, List.getElem?_cons_succ]
          have e1 : j + 1 - (i + 1) = j - i := by omega
          rw [e1]
          have e2 : (i + 1 ≤ j + 1 ∧ j + 1 < i + 1 + (v :: r).length) ↔ (i ≤ j ∧ j < i + (v :: r).length) := by omega
          simp only [e2]
    next => cases h
theorem storeCells_run (g : Nat) (t : TypeId) : ∀ (vs : List Value) (i k : Nat) (cs : List Value) (w : World), w.heap[g]? = some (.cells cs.toArray t (0, 0)) → i + k + vs.length ≤ cs.length → (∀ v ∈ vs, v.oneCell' = true) →
    ∃ (w' : World) (l : List Value), (storeCells ⟨g, i, none⟩ vs k).run P w = .ok () w' ∧ Keep (fun b => b = g) w w' ∧ w'.heap[g]? = some (.cells l.toArray t (0, 0)) ∧ l.length = cs.length ∧ ∀ j, l[j]? = if i + k ≤ j ∧ j < i + k + vs.length then vs[j - (i + k)]? else cs[j]?
  | [], i, k, cs, w, hb, hl, hv => ⟨w, cs, rfl, Keep.refl _ _, hb, rfl, fun j => by rw [if_neg (by simp only [List.length_nil]; omega)]⟩
  | v :: r, i, k, cs, w, hb, hl, hv => by
    simp only [List.length_cons] at hl
    have hc : w.cell? ⟨g, i + k, none⟩ = some (cs[i + k]'(by omega)) := by rw [cell_of_blk hb, List.getElem?_eq_getElem (by omega)]
    have hf : w.frozen? ⟨g, i + k, none⟩ = false := by simp [World.frozen?, hb]
    have hb1 : (w.setCell ⟨g, i + k, none⟩ v).heap[g]? = some (.cells (cs.set (i + k) v).toArray t (0, 0)) := by
      have := heap_setCell_same w g (i + k) cs.toArray t v hb
      rw [this]; simp
    have hk1 : Keep (fun b => b = g) w (w.setCell ⟨g, i + k, none⟩ v) := ⟨rfl, rfl, rfl, by simp [World.setCell], fun b hb hn => Below.heap_setCell _ _ _ _ hn, Nat.le_refl _⟩
    obtain ⟨w', l, h1, h2, h3, h4, h5⟩ := storeCells_run g t r i (k + 1) (cs.set (i + k) v) _ hb1 (by simp; omega) (fun u hu => hv u (List.mem_cons_of_mem _ hu))
    refine ⟨w', l, ?_, hk1.trans h2, h3, by simpa using h4, fun j => ?_⟩
    · unfold storeCells
      rw [add_none]
      have hst := run_store P w ⟨g, i + k, none⟩ v .plain (hv v (List.mem_cons_self ..))
      simp only [Sem.run_bind, hst, hc, hf, Bool.false_eq_true, if_false]
      simp [stored, hc, hf, Result.andThen, h1]
    · rw [h5 j]
      simp only [List.length_cons]
      by_cases hj : j = i + k
      · subst hj
        rw [if_neg (by omega), if_pos (by omega), List.getElem?_set_self (by omega), Nat.sub_self]; rfl
      · by_cases hj2 : i + (k + 1) ≤ j ∧ j < i + (k + 1) + r.length
        · rw [if_pos hj2, if_pos (by omega)]
          have : j - (i + k) = (j - (i + (k + 1))) + 1 := by omega
          rw [this, List.getElem?_cons_succ]
        · rw [if_neg hj2, if_neg (by omega), List.getElem?_set_ne (by omega)]
def oneL : List Value → Bool
  | [] => true
  | v :: r => (match v with | .agg _ => false | .tuple _ => false | _ => true) && oneL r
theorem oneL_spec : ∀ {l : List Value}, oneL l = true → ∀ v ∈ l, v.oneCell' = true
  | [], _, v, hv => by cases hv
  | u :: r, h, v, hv => by
    unfold oneL at h
    simp only [Bool.and_eq_true] at h
    rcases List.mem_cons.1 hv with rfl | hv
    · cases v <;> first | rfl | simp at h
    · exact oneL_spec h.2 v hv
theorem Pw.store {x y : Operand} {g i : Nat} {cs cs' vs : List Value} {t u : TypeId} {v : Value} {L' : List Blk} {f : TypeInfo} (hx : ev K x = some (.pointer (some ⟨g, i, none⟩))) (hy : ev K y = some v) (hvs : v.cells.toList = vs) (hf : P.info? u = some f) (hfs : Nat.beq f.size vs.length = true) (hone : oneL vs = true)
    (hput : putN i vs cs = some cs') (hu : Upd L ⟨g, .cells cs.toArray t (0, 0)⟩ (.cells cs'.toArray t (0, 0)) L') (hw : wantB K ops gd = some true) (h : Pw w0 M O n K L' G N) :
    Pw w0 M O n K L G (OpG P ops ⟨none, .store u x y, ty, pos, af, gd⟩ N Q) :=
  Pw.stepU hw rfl fun a w ha hs => by
    have hb := hs.own _ hu.mem
    obtain ⟨p1, p2, p3⟩ := putN_spec _ _ _ _ hput
    have hsz : v.cells.size = f.size := by rw [Nat.eq_of_beq_eq_true hfs, ← hvs]; simp
    have hlen : i + 0 + vs.length ≤ cs.length ∨ vs = [] := by
      by_cases e : vs = []
      · exact .inr e
      · exact .inl (p2 e)
    have key : ∃ w' , (storeCells ⟨g, i, none⟩ vs).run P w = .ok () w' ∧ Keep (fun b => b = g) w w' ∧ w'.heap[g]? = some (.cells cs'.toArray t (0, 0)) := by
      rcases hlen with hlen | rfl
      · obtain ⟨w', l, h1, h2, h3, h4, h5⟩ := storeCells_run (P := P) g t vs i 0 cs w hb hlen (oneL_spec hone)
        refine ⟨w', h1, h2, ?_⟩
        have : l = cs' := by
          apply List.ext_getElem?
          intro j
          rw [h5 j, p3 j]; simp
        rw [← this]; exact h3
      · have : cs' = cs := by unfold putN at hput; simpa using hput.symm
        rw [this]
        exact ⟨w, rfl, Keep.refl _ _, hb⟩
    obtain ⟨w', h1, h2, h3⟩ := key
    refine ⟨L', G, w', ?_, hs.turn hu h2 h3, h⟩
    have h1' : (storeCells ⟨g, i, none⟩ v.cells.toList).run P w = .ok () w' := by rw [hvs]; exact h1
    simp [execOp, ha.eval hx, ha.eval hy, Instr.storeAt, Instr.sureAddr, storeVar, sizeOf, typeInfo, hf, hsz, h1']
end
end Go.Proofs.Wk
/- The walk's rules for calls: contracts, their beginning and end, loops. -/
namespace Go.Proofs.Wk
open Go.RowKit
set_option linter.unusedVariables false
set_option linter.unusedSimpArgs false
section
variable {P : Program} {w0 : World} {M O : Nat → Prop} {n : Nat} {K : Slots} {L : List Blk} {G : List (World → Prop)} {Q : Exit → Act → World → Prop} {ops : Array Oper} {rest : List Oper} {w : World} {a : Act} {X : Act → World → Prop}
  {d : Nat} {ty : TypeId} {pos : String} {af : Array Edge} {gd : Option (Nat × Bool)} {N : Act → World → Prop} {S : World → Prop} {α : Type} {D : Nat → Prop}

/-! ### Contracts -/
/-- What a call of a function that only makes memory comes to. -/
def CtP (D : Nat → Prop) (w : World) (r : α → Value) (p : α → Prop) (Ψ : α → World → Prop) (e : Ending) (w' : World) : Prop :=
  ∃ x, e = .returned (r x) ∧ p x ∧ Keep (fun _ => False) w w' ∧ Cls D w' (Ψ x)
def Ct (P : Program) (f : FuncId) (args : Array Value) (pre : World → Prop) (r : α → Value) (p : α → Prop) (Ψ : α → World → Prop) : Prop :=
  ∀ D w, (∀ b, D b → b < w.heap.size) → Cls D w pre → Calls P f args w (CtP D w r p Ψ)
/-- The same of a function that turns one block of the caller's. -/
def CtP1 (D : Nat → Prop) (w : World) (g : Nat) (r : α → Value) (p : α → Prop) (o' : α → Obj) (Ψ : α → World → Prop) (e : Ending) (w' : World) : Prop :=
  ∃ x, e = .returned (r x) ∧ p x ∧ Keep (fun b => b = g) w w' ∧ w'.heap[g]? = some (o' x) ∧ Cls D w' (Ψ x)
def Ct1 (P : Program) (f : FuncId) (args : Array Value) (g : Nat) (o : Obj) (pre : World → Prop) (r : α → Value) (p : α → Prop) (o' : α → Obj) (Ψ : α → World → Prop) : Prop :=
  ∀ D w, (∀ b, D b → b < w.heap.size) → D g → w.heap[g]? = some o → Cls D w pre → Calls P f args w (CtP1 D w g r p o' Ψ)
def callB (P : Program) (f : FuncId) : Bool := match P.funcs[f]? with
  | some fn => (fn.name != "runtime.NumGoroutine") && fn.body.isSome
  | none => false
theorem call_run {x : Operand} {f : FuncId} {fst cap : Array Value} {«as» : Array Operand} {ts : Array TypeId} {vs vs' : List Value} (hx : ev K x = some (.func (.func f) fst cap)) (hargs : evs K «as».toList = some vs) (hvs : fst.toList ++ vs ++ cap.toList = vs') (hc : callB P f = true) (ha : Sat n K a) {dd : Option Tmp} :
    (execOp a.eval ⟨dd, .call ⟨.value x, «as», ts⟩, ty, pos, af, gd⟩).run P w = .ok (.enter f vs'.toArray) w := by
  have hm : «as».map a.eval = vs.toArray := by
    rw [← Array.toList_inj]; simp [evs_map ha hargs]
  unfold callB at hc
  split at hc
  next fn hf =>
    simp only [Bool.and_eq_true, bne_iff_ne, ne_eq] at hc
    obtain ⟨c, hb⟩ := Option.isSome_iff_exists.1 hc.2
    have hargs' : fst ++ vs.toArray ++ cap = vs'.toArray := by rw [← hvs, ← Array.toList_inj]; simp
    simp [execOp, resolve, ha.eval hx, hm, Deferred.ofValue, invoke, callFunc, hf, hc.1, hb, hargs']
  next => cases hc
theorem St.dt (h : St w0 M O L G w) : ∀ b, Dt O L b → b < w.heap.size := fun b hb => by
  rcases hb with hb | ⟨x, hx, rfl⟩
  · exact Nat.lt_of_lt_of_le (h.ob b hb) h.keep.size
  · exact own_lt (h.own x hx)
theorem St.pre (h : St w0 M O L G w) {φ : World → Prop} (hφ : ∀ w, All G w → φ w) : Cls (Dt O L) w φ := fun w' k => hφ w' fun ψ hψ => h.cl ψ hψ w' k
theorem St.more (h : St w0 M O L G w) {φ : World → Prop} (hφ : Cls (Dt O L) w φ) : St w0 M O L (φ :: G) w :=
  ⟨h.keep, h.own, h.nd, h.base, h.nob, h.ob, fun ψ hψ => by
    rcases List.mem_cons.1 hψ with rfl | hψ
    · exact hφ
    · exact h.cl ψ hψ⟩
theorem Pw.call {x : Operand} {f : FuncId} {fst cap : Array Value} {«as» : Array Operand} {ts : Array TypeId} {vs vs' : List Value} {pre : World → Prop} {r : α → Value} {p : α → Prop} {Ψ : α → World → Prop}
    (hc : Ct P f vs'.toArray pre r p Ψ) (hx : ev K x = some (.func (.func f) fst cap)) (hargs : evs K «as».toList = some vs) (hvs : fst.toList ++ vs ++ cap.toList = vs') (hcal : callB P f = true) (hw : wantB K ops gd = some true) (hn : Nat.blt d n = true) (hpre : ∀ w, All G w → pre w)
    (h : ∀ x, p x → Pw w0 M O n ((d, r x) :: K) L (Ψ x :: G) N) : Pw w0 M O n K L G (OpG P ops ⟨some d, .call ⟨.value x, «as», ts⟩, ty, pos, af, gd⟩ N Q) := fun a w ha hs => by
  unfold OpG
  rw [if_pos (wantB_spec (o := ⟨some d, .call ⟨.value x, «as», ts⟩, ty, pos, af, gd⟩) hw ha)]
  unfold Oper.wp
  rw [call_run hx hargs hvs hcal ha, Oper.upon_enter]
  refine (hc (Dt O L) w hs.dt (hs.pre hpre)).mono ?_
  rintro e w' ⟨y, rfl, hp, hk, hΨ⟩
  exact h y hp _ _ (ha.put hn _) ((hs.grow hk).more hΨ)
/-- A call that answers a number, and may read one's own blocks too. -/
theorem Pw.callR {x : Operand} {f : FuncId} {fst cap : Array Value} {«as» : Array Operand} {ts : Array TypeId} {vs vs' : List Value} {pre : World → Prop} {r : α → Value} {p : α → Prop} {Ψ : α → World → Prop}
    (hc : Ct P f vs'.toArray pre r p Ψ) (hx : ev K x = some (.func (.func f) fst cap)) (hargs : evs K «as».toList = some vs) (hvs : fst.toList ++ vs ++ cap.toList = vs') (hcal : callB P f = true) (hw : wantB K ops gd = some true) (hn : Nat.blt d n = true) (hpre : ∀ w, St w0 M O L G w → pre w)
    (h : ∀ x, p x → Pw w0 M O n ((d, r x) :: K) L G N) : Pw w0 M O n K L G (OpG P ops ⟨some d, .call ⟨.value x, «as», ts⟩, ty, pos, af, gd⟩ N Q) := fun a w ha hs => by
  unfold OpG
  rw [if_pos (wantB_spec (o := ⟨some d, .call ⟨.value x, «as», ts⟩, ty, pos, af, gd⟩) hw ha)]
  unfold Oper.wp
  rw [call_run hx hargs hvs hcal ha, Oper.upon_enter]
  refine (hc (fun _ => False) w (fun _ e => e.elim) (fun w' k => hpre w' (hs.grow k))).mono ?_
  rintro e w' ⟨y, rfl, hp, hk, hΨ⟩
  exact h y hp _ _ (ha.put hn _) (hs.grow hk)

/-! ### The beginning -/
theorem Ct.start {f : FuncId} {fn : Func} {c : Code} {args : Array Value} {pre : World → Prop} {r : α → Value} {p : α → Prop} {Ψ : α → World → Prop} {n : Nat} {K : Slots} (hf : P.funcs[f]? = some fn) (hb : fn.body = some c) (hn : args.size + (fn.ntmps - args.size) = n)
    (hK : ∀ d v, lk K d = some v → (args ++ Array.replicate (fn.ntmps - args.size) undef).getD d undef = v)
    (h : ∀ D w0, Pw w0 (fun _ => False) D n K [] [pre] (c.wp P (bodyPost P fn (CtP D w0 r p Ψ)))) : Ct P f args pre r p Ψ := fun D w hD hp =>
  calls_of_wp hf hb (h D w _ w ⟨rfl, by simpa using hn, hK⟩ ⟨Keep.refl _ _, by simp, List.Pairwise.nil, by simp, by simp, hD, fun φ hφ => by
    rw [List.mem_singleton.1 hφ]
    exact hp.mono fun b _ e => e.elim id (fun ⟨x, hx, _⟩ => by cases hx)⟩)
theorem Ct1.start {f : FuncId} {fn : Func} {c : Code} {args : Array Value} {g : Nat} {o : Obj} {pre : World → Prop} {r : α → Value} {p : α → Prop} {o' : α → Obj} {Ψ : α → World → Prop} {n : Nat} {K : Slots} (hf : P.funcs[f]? = some fn) (hb : fn.body = some c) (hn : args.size + (fn.ntmps - args.size) = n)
    (hK : ∀ d v, lk K d = some v → (args ++ Array.replicate (fn.ntmps - args.size) undef).getD d undef = v)
    (h : ∀ D w0, D g → Pw w0 (fun b => b = g) (fun b => D b ∧ b ≠ g) n K [⟨g, o⟩] [pre] (c.wp P (bodyPost P fn (CtP1 D w0 g r p o' Ψ)))) : Ct1 P f args g o pre r p o' Ψ := fun D w hD hg ho hp =>
  calls_of_wp hf hb (h D w hg _ w ⟨rfl, by simpa using hn, hK⟩ ⟨Keep.refl _ _, by simpa using ho, List.pairwise_singleton _ _, by simp, by simp, fun b hb => hD b hb.1, fun φ hφ => by
    rw [List.mem_singleton.1 hφ]
    exact hp.mono fun b _ e => e.elim And.left (fun ⟨x, hx, e⟩ => by rw [List.mem_singleton.1 hx] at e; subst e; exact hg)⟩)
theorem slots_of {args : Array Value} {k : Nat} {l : List Value} (hl : args.toList = l) {K : Slots} (h : ∀ d v, lk K d = some v → l[d]? = some v) : ∀ d v, lk K d = some v → (args ++ Array.replicate k undef).getD d undef = v := fun d v e => by
  have h1 := h d v e
  rw [← hl] at h1
  rw [Array.getD_eq_getD_getElem?]
  have h2 : args[d]? = some v := by simpa using h1
  have h3 := (Array.getElem?_eq_some_iff.1 h2).1
  rw [Array.getElem?_append_left h3, h2]; rfl
theorem slots0 : ∀ d v, lk [] d = some v → ([] : List Value)[d]? = some v := fun d v h => by cases h
theorem slots_cons {u : Value} {l : List Value} {k : Nat} {K : Slots} : ∀ d v, lk ((k, u) :: K) d = some v → (d = k ∧ v = u) ∨ lk K d = some v := fun d v h => by
  unfold lk at h
  cases hb : Nat.beq k d with
  | true => rw [hb] at h; cases h; exact .inl ⟨(Nat.eq_of_beq_eq_true hb).symm, rfl⟩
  | false => rw [hb] at h; exact .inr h
theorem slots1 {u : Value} : ∀ d v, lk [(0, u)] d = some v → [u][d]? = some v := fun d v h => by
  rcases slots_cons (l := []) d v h with ⟨rfl, rfl⟩ | h
  · rfl
  · cases h
theorem slots2 {u u1 : Value} : ∀ d v, lk [(0, u), (1, u1)] d = some v → [u, u1][d]? = some v := fun d v h => by
  rcases slots_cons (l := []) d v h with ⟨rfl, rfl⟩ | h
  · rfl
  · rcases slots_cons (l := []) d v h with ⟨rfl, rfl⟩ | h
    · rfl
    · cases h
theorem slots3 {u u1 u2 : Value} : ∀ d v, lk [(0, u), (1, u1), (2, u2)] d = some v → [u, u1, u2][d]? = some v := fun d v h => by
  rcases slots_cons (l := []) d v h with ⟨rfl, rfl⟩ | h
  · rfl
  · rcases slots_cons (l := []) d v h with ⟨rfl, rfl⟩ | h
    · rfl
    · rcases slots_cons (l := []) d v h with ⟨rfl, rfl⟩ | h
      · rfl
      · cases h
theorem slots4 {u u1 u2 u3 : Value} : ∀ d v, lk [(0, u), (1, u1), (2, u2), (3, u3)] d = some v → [u, u1, u2, u3][d]? = some v := fun d v h => by
  rcases slots_cons (l := []) d v h with ⟨rfl, rfl⟩ | h
  · rfl
  · rcases slots_cons (l := []) d v h with ⟨rfl, rfl⟩ | h
    · rfl
    · rcases slots_cons (l := []) d v h with ⟨rfl, rfl⟩ | h
      · rfl
      · rcases slots_cons (l := []) d v h with ⟨rfl, rfl⟩ | h
        · rfl
        · cases h

/-! ### The end -/
inductive Vs (P : Program) (K : Slots) (B : World → Prop) : List ResultVar → List Value → Prop
  | nil : Vs P K B [] []
  | tmp {t : Tmp} {v : Value} {rs : List ResultVar} {vs : List Value} (hv : lk K t = some v) (h : Vs P K B rs vs) : Vs P K B (.tmp t :: rs) (v :: vs)
  | cell {t : Tmp} {u : TypeId} {g i : Nat} {cs : List Value} {e : TypeId} {v : Value} {rs : List ResultVar} {vs : List Value} (hp : lk K t = some (.pointer (some ⟨g, i, none⟩))) (hb : ∀ w, B w → w.heap[g]? = some (.cells cs.toArray e (0, 0))) (hv : ldv P u cs i = some v) (h : Vs P K B rs vs) : Vs P K B (.cell t u :: rs) (v :: vs)
def retv : List Value → Value
  | [v] => v
  | vs => .tuple vs.toArray
def rvOf (tmps : Array Value) : ResultVar → Sem Value
  | .tmp t => Pure.pure (tmps.getD t undef)
  | .cell a t => do loadVar t (← asAddr (tmps.getD a undef))
theorem vs_mapM {B : World → Prop} (ha : Sat n K a) (hB : B w) : ∀ {rs : List ResultVar} {vs : List Value}, Vs P K B rs vs → (rs.mapM (rvOf a.tmps)).run P w = .ok vs w := by
  intro rs vs h
  induction h with
  | nil => rfl
  | @tmp t v rs vs hv h ih =>
    rw [List.mapM_cons]
    have h1 := ha.slot t v hv
    simp only [rvOf, Sem.run_bind, Sem.run_pure, h1, Result.andThen_ok, ih]
  | @cell t u g i cs e v rs vs hp hb hv h ih =>
    rw [List.mapM_cons]
    have h1 := ha.slot t _ hp
    simp only [rvOf, Sem.run_bind, Sem.run_pure, h1, asAddr, Result.andThen_ok, ldv_run (hb w hB) hv, ih]
theorem results_run {B : World → Prop} {fn : Func} {vs : List Value} (ha : Sat n K a) (hB : B w) (h : Vs P K B fn.results.toList vs) : (results fn a.tmps).run P w = .ok (retv vs) w := by
  have h1 := vs_mapM ha hB h
  have h2 : (fn.results.mapM (rvOf a.tmps)).run P w = .ok vs.toArray w := by
    rw [Array.mapM_eq_mapM_toList]
    simp [h1]
  have h3 : results fn a.tmps = (do let vs ← fn.results.mapM (rvOf a.tmps); Pure.pure (if h : vs.size = 1 then vs[0] else .tuple vs)) := rfl
  rw [h3, Sem.run_bind, h2]
  simp only [Result.andThen_ok, Sem.run_pure]
  congr 1
  match vs with
  | [] => rfl
  | [v] => rfl
  | u :: v :: r => rfl
theorem Pw.ret_ {fn : Func} {r : α → Value} {p : α → Prop} {Ψ : α → World → Prop} {vs : List Value} {x : α} (hv : Vs P K (St w0 (fun _ => False) D L G) fn.results.toList vs) (hx : retv vs = r x) (hp : p x) (hΨ : ∀ w, All G w → Ψ x w) :
    Pw w0 (fun _ => False) D n K L G (bodyPost P fn (CtP D w0 r p Ψ) .ret) := fun a w ha hs =>
  ⟨ha.defers, _, results_run ha hs hv, x, by rw [hx], hp, hs.keep, (hs.pre hΨ).mono fun b _ e => .inl e⟩
/-! ### A function that makes a block and hands it over -/
def CtPO (w : World) (r : α → Value) (p : α → Prop) (g : α → Nat) (o : α → Obj) (e : Ending) (w' : World) : Prop :=
  ∃ x, e = .returned (r x) ∧ p x ∧ Keep (fun _ => False) w w' ∧ w.heap.size ≤ g x ∧ w'.heap[g x]? = some (o x)
def CtO (P : Program) (f : FuncId) (args : Array Value) (pre : World → Prop) (r : α → Value) (p : α → Prop) (g : α → Nat) (o : α → Obj) : Prop :=
  ∀ D w, (∀ b, D b → b < w.heap.size) → Cls D w pre → Calls P f args w (CtPO w r p g o)
theorem CtO.start {f : FuncId} {fn : Func} {c : Code} {args : Array Value} {pre : World → Prop} {r : α → Value} {p : α → Prop} {g : α → Nat} {o : α → Obj} {n : Nat} {K : Slots} (hf : P.funcs[f]? = some fn) (hb : fn.body = some c) (hn : args.size + (fn.ntmps - args.size) = n)
    (hK : ∀ d v, lk K d = some v → (args ++ Array.replicate (fn.ntmps - args.size) undef).getD d undef = v)
    (h : ∀ D w0, Pw w0 (fun _ => False) D n K [] [pre] (c.wp P (bodyPost P fn (CtPO w0 r p g o)))) : CtO P f args pre r p g o := fun D w hD hp =>
  calls_of_wp hf hb (h D w _ w ⟨rfl, by simpa using hn, hK⟩ ⟨Keep.refl _ _, by simp, List.Pairwise.nil, by simp, by simp, hD, fun φ hφ => by
    rw [List.mem_singleton.1 hφ]
    exact hp.mono fun b _ e => e.elim id (fun ⟨x, hx, _⟩ => by cases hx)⟩)
/-! ### A call walked in place -/
/-! ### Loops -/
theorem Pw.rounds {c : Code} (k : Nat) (h : Pw w0 M O n K L G (Code.rounds P c Q k)) : Pw w0 M O n K L G ((Code.loop c).wp P Q) := fun a w ha hs => wp_loop_rounds k (h a w ha hs)
theorem Pw.round {c : Code} {k : Nat} (h : Pw w0 M O n K L G (c.wp P (Exit.then (Code.rounds P c Q k) Q))) : Pw w0 M O n K L G (Code.rounds P c Q (k + 1)) := h
/-- What is known at a round's head. -/
structure Hd where
  K : Slots
  L : List Blk
  G : List (World → Prop)
theorem Pw.loop {σ : Type} {c : Code} (I : σ → Hd) (μ : σ → Nat) (s0 : σ) (h0 : ∀ X, Pw w0 M O n (I s0).K (I s0).L (I s0).G X → Pw w0 M O n K L G X)
    (hb : ∀ s, Pw w0 M O n (I s).K (I s).L (I s).G (c.wp P (Exit.then (fun a w => ∃ s', μ s' < μ s ∧ Sat n (I s').K a ∧ St w0 M O (I s').L (I s').G w) Q))) :
    Pw w0 M O n K L G ((Code.loop c).wp P Q) := h0 _ fun a w ha hs => by
  have key : ∀ m s a w, μ s ≤ m → Sat n (I s).K a → St w0 M O (I s).L (I s).G w → Code.rounds P c Q (m + 1) a w := by
    intro m
    induction m with
    | zero =>
      intro s a w hm ha hs
      refine Code.wp_mono ?_ (hb s a w ha hs)
      intro e a w h
      cases e with
      | normal => obtain ⟨s', h1, _⟩ := h; omega
      | _ => exact h
    | succ m ih =>
      intro s a w hm ha hs
      refine Code.wp_mono ?_ (hb s a w ha hs)
      intro e a w h
      cases e with
      | normal => obtain ⟨s', h1, h2, h3⟩ := h; exact ih s' a w (by omega) h2 h3
      | _ => exact h
  exact wp_loop_rounds _ (key _ s0 a w (Nat.le_refl _) ha hs)
/-- A round is done: the next one's head stands, and less is left. -/
def Nxt {σ : Type} (J : σ → Prop) (I : σ → Hd) (μ : σ → Nat) (m : Nat) (w0 : World) (M O : Nat → Prop) (n : Nat) (a : Act) (w : World) : Prop :=
  ∃ s', J s' ∧ μ s' < m ∧ Sat n (I s').K a ∧ St w0 M O (I s').L (I s').G w
theorem Pw.loopJ {σ : Type} {c : Code} (J : σ → Prop) (I : σ → Hd) (μ : σ → Nat) (s0 : σ) (hJ : J s0) (h0 : ∀ X, Pw w0 M O n (I s0).K (I s0).L (I s0).G X → Pw w0 M O n K L G X)
    (hb : ∀ s, J s → Pw w0 M O n (I s).K (I s).L (I s).G (c.wp P (Exit.then (Nxt J I μ (μ s) w0 M O n) Q))) :
    Pw w0 M O n K L G ((Code.loop c).wp P Q) :=
  Pw.loop (σ := { s : σ // J s }) (fun s => I s.1) (fun s => μ s.1) ⟨s0, hJ⟩ h0 fun s a w ha hs => Code.wp_mono (fun e a w h => by
    cases e with
    | normal => obtain ⟨s', h1, h2, h3⟩ := h; exact ⟨⟨s', h1⟩, h2, h3⟩
    | _ => exact h) (hb s.1 s.2 a w ha hs)
theorem Pw.again {σ : Type} {J : σ → Prop} {I : σ → Hd} {m : Nat} {μ : σ → Nat} (s : σ) (hJ : J s) (hm : μ s < m) (hK : Sub (I s).K K) (hL : L = (I s).L) (hG : ∀ w, All G w → All (I s).G w) :
    Pw w0 M O n K L G (Nxt J I μ m w0 M O n) := fun a w ha hs =>
  ⟨s, hJ, hm, ⟨ha.defers, ha.size, fun d v e => ha.slot d v (hK.lk d v e)⟩, by rw [← hL]; exact ⟨hs.keep, hs.own, hs.nd, hs.base, hs.nob, hs.ob, fun φ hφ w' k => hG w' (fun ψ hψ => hs.cl ψ hψ w' k) φ hφ⟩⟩
/-- Ways that meet again. -/
def Arr {σ : Type} (J : σ → Prop) (I : σ → Hd) (w0 : World) (M O : Nat → Prop) (n : Nat) (a : Act) (w : World) : Prop := ∃ s, J s ∧ Sat n (I s).K a ∧ St w0 M O (I s).L (I s).G w
theorem Pw.arrive {σ : Type} {J : σ → Prop} {I : σ → Hd} (s : σ) (hJ : J s) (hK : Sub (I s).K K) (hL : L = (I s).L) (hG : ∀ w, All G w → All (I s).G w) : Pw w0 M O n K L G (Arr J I w0 M O n) := fun a w ha hs =>
  ⟨s, hJ, ⟨ha.defers, ha.size, fun d v e => ha.slot d v (hK.lk d v e)⟩, by rw [← hL]; exact ⟨hs.keep, hs.own, hs.nd, hs.base, hs.nob, hs.ob, fun φ hφ w' k => hG w' (fun ψ hψ => hs.cl ψ hψ w' k) φ hφ⟩⟩
theorem Pw.enter {K' : Slots} {G' : List (World → Prop)} (hK : Sub K' K) (hG : ∀ w, All G w → All G' w) : ∀ X, Pw w0 M O n K' L G' X → Pw w0 M O n K L G X := fun X h => Pw.sub hK (Pw.facts hG h)
end
end Go.Proofs.Wk
/- What the functions of layers 1 and 6, and their references, answer: plain functions over lists of numbers, each loop with a bound on its rounds. -/
namespace Go.Proofs.Wk
open Go.RowKit
set_option linter.unusedVariables false
def rd (xs : List Int) (i : Int) : Int := xs.getD i.toNat 0
def shl (k : IntKind) (x y : Int) : Int := k.wrap (x * 2 ^ min y.toNat k.bits)
def shr (k : IntKind) (x y : Int) : Int := x / 2 ^ min y.toNat k.bits
def rd_L1 (xs : List (List Int)) (i : Int) : (List Int) := xs.getD i.toNat ([] : List Int)

def limb_trim.l0 : Nat → List Int → Option (List Int)
  | 0, _ => none
  | k + 1, x0 => if (x0.length : Int) > 0 then (if 0 ≤ (wrap64 ((x0.length : Int) - 1)) then (if (wrap64 ((x0.length : Int) - 1)) < (x0.length : Int) then (if (rd x0 (wrap64 ((x0.length : Int) - 1))) = 0 then (if (wrap64 ((x0.length : Int) - 1)) ≤ (x0.length : Int) then (limb_trim.l0 k (x0.take ((wrap64 ((x0.length : Int) - 1)) : Int).toNat)) else (none)) else (some x0)) else (none)) else (none)) else (some x0)

def limb_trim.f (k : Nat) (l0 : List Int) : Option (List Int) := limb_trim.l0 k l0

def limb_Of.f (k : Nat) (a0 : Int) : Option (List Int) := (limb_trim.f k (([(a0) % 4294967296, (a0 / 4294967296) % 4294967296] : List Int))).bind fun t110 => (some t110)

def limb_Formed.f (l0 : List Int) : Option (Bool) := if (l0.length : Int) ≤ 400 then (if (l0.length : Int) = 0 then (some true) else (if 0 ≤ (wrap64 ((l0.length : Int) - 1)) then (if (wrap64 ((l0.length : Int) - 1)) < (l0.length : Int) then (some ((rd l0 (wrap64 ((l0.length : Int) - 1))) != 0)) else (none)) else (none))) else (some false)

def limb_shift.l0 : Nat → Int → List Int → List Int → Int → Int → Option (List Int)
  | 0, _, _, _, _, _ => none
  | k + 1, x1, x5, x13, x14, x15 => if x15 < x14 then (if 0 ≤ x15 then (if x15 < (x13.length : Int) then (if 0 ≤ x1 then (if x15 < (x5.length : Int) then (if 0 ≤ (wrap64 (x15 + 1)) then (if (wrap64 (x15 + 1)) < (x5.length : Int) then (limb_shift.l0 k x1 ((x5.set (x15 : Int).toNat (Go.bits .or .u32 (rd x5 x15) ((shl .u64 (IntKind.u64.wrap (rd x13 x15)) x1) % 4294967296))).set ((wrap64 (x15 + 1)) : Int).toNat (((shl .u64 (IntKind.u64.wrap (rd x13 x15)) x1) / 4294967296) % 4294967296)) x13 x14 (wrap64 (x15 + 1))) else (none)) else (none)) else (none)) else (none)) else (none)) else (none)) else (some x5)

def limb_shift.f (k : Nat) (l0 : List Int) (a1 : Int) : Option (List Int) := if 0 ≤ (wrap64 ((l0.length : Int) + 1)) then (if (wrap64 ((l0.length : Int) + 1) : Int).toNat ≤ 70368744177664 then (limb_shift.l0 k a1 (List.replicate (wrap64 ((l0.length : Int) + 1) : Int).toNat 0) l0 (l0.length : Int) 0) else (none)) else (none)

mutual
def limb_guess.l0 : Nat → List Int → List Int → Int → Int → Int → Int → Option (Int)
  | 0, _, _, _, _, _, _ => none
  | k + 1, x0, x1, x5, x6, x8, x9 => if (x8 / 4294967296) = 0 then (if 0 ≤ (wrap64 (x5 - 2)) then (if (wrap64 (x5 - 2)) < (x1.length : Int) then (if 0 ≤ (wrap64 (x6 - 3)) then (if (wrap64 (x6 - 3)) < (x0.length : Int) then (limb_guess.j1 k x0 x1 x5 x6 x8 x9 (decide ((IntKind.u64.wrap (x8 * (IntKind.u64.wrap (rd x1 (wrap64 (x5 - 2)))))) > (Go.bits .or .u64 (IntKind.u64.wrap (x9 * 4294967296)) (IntKind.u64.wrap (rd x0 (wrap64 (x6 - 3)))))))) else (none)) else (none)) else (none)) else (none)) else (limb_guess.j1 k x0 x1 x5 x6 x8 x9 true)
def limb_guess.j1 : Nat → List Int → List Int → Int → Int → Int → Int → Bool → Option (Int)
  | 0, _, _, _, _, _, _, _ => none
  | k + 1, x0, x1, x5, x6, x8, x9, x66 => if x66 = true then (if 0 ≤ (wrap64 (x5 - 1)) then (if (wrap64 (x5 - 1)) < (x1.length : Int) then (if ((IntKind.u64.wrap (x9 + (IntKind.u64.wrap (rd x1 (wrap64 (x5 - 1)))))) / 4294967296) = 0 then (limb_guess.l0 k x0 x1 x5 x6 (IntKind.u64.wrap (x8 - 1)) (IntKind.u64.wrap (x9 + (IntKind.u64.wrap (rd x1 (wrap64 (x5 - 1))))))) else (some (IntKind.u64.wrap (x8 - 1)))) else (none)) else (none)) else (some x8)
end

def limb_guess.f (k : Nat) (l0 : List Int) (l1 : List Int) : Option (Int) := if 0 ≤ (wrap64 ((l0.length : Int) - 1)) then (if (wrap64 ((l0.length : Int) - 1)) < (l0.length : Int) then (if 0 ≤ (wrap64 ((l0.length : Int) - 2)) then (if (wrap64 ((l0.length : Int) - 2)) < (l0.length : Int) then (if 0 ≤ (wrap64 ((l1.length : Int) - 1)) then (if (wrap64 ((l1.length : Int) - 1)) < (l1.length : Int) then (if (IntKind.u64.wrap (rd l1 (wrap64 ((l1.length : Int) - 1)))) = 0 then (none) else (limb_guess.l0 k l0 l1 (l1.length : Int) (l0.length : Int) (IntKind.u64.wrap (Int.tdiv (Go.bits .or .u64 (IntKind.u64.wrap ((IntKind.u64.wrap (rd l0 (wrap64 ((l0.length : Int) - 1)))) * 4294967296)) (IntKind.u64.wrap (rd l0 (wrap64 ((l0.length : Int) - 2))))) (IntKind.u64.wrap (rd l1 (wrap64 ((l1.length : Int) - 1)))))) (Int.tmod (Go.bits .or .u64 (IntKind.u64.wrap ((IntKind.u64.wrap (rd l0 (wrap64 ((l0.length : Int) - 1)))) * 4294967296)) (IntKind.u64.wrap (rd l0 (wrap64 ((l0.length : Int) - 2))))) (IntKind.u64.wrap (rd l1 (wrap64 ((l1.length : Int) - 1))))))) else (none)) else (none)) else (none)) else (none)) else (none)) else (none)

def limb_take.l0 : Nat → List Int → List Int → Int → Int → Int → Int → Int → Option (Bool × List Int)
  | 0, _, _, _, _, _, _, _ => none
  | k + 1, x0, x1, x2, x7, x8, x13, x14 => if x14 < x13 then (if x14 < (x1.length : Int) then (if 0 ≤ x14 then (if x14 < (x0.length : Int) then ((some (x0.set (x14 : Int).toNat ((wrap64 ((wrap64 ((wrap64 (rd x0 x14)) - ((IntKind.u64.wrap (x7 + (IntKind.u64.wrap (x2 * (IntKind.u64.wrap (rd x1 x14)))))) % 4294967296))) - x8)) % 4294967296) : List Int)).bind fun y211 => (if (wrap64 ((wrap64 ((wrap64 (rd x0 x14)) - ((IntKind.u64.wrap (x7 + (IntKind.u64.wrap (x2 * (IntKind.u64.wrap (rd x1 x14)))))) % 4294967296))) - x8)) < 0 then (limb_take.l0 k y211 x1 x2 ((IntKind.u64.wrap (x7 + (IntKind.u64.wrap (x2 * (IntKind.u64.wrap (rd x1 x14)))))) / 4294967296) 1 x13 (wrap64 (x14 + 1))) else (limb_take.l0 k y211 x1 x2 ((IntKind.u64.wrap (x7 + (IntKind.u64.wrap (x2 * (IntKind.u64.wrap (rd x1 x14)))))) / 4294967296) 0 x13 (wrap64 (x14 + 1))))) else (none)) else (none)) else (if 0 ≤ x14 then (if x14 < (x0.length : Int) then ((some (x0.set (x14 : Int).toNat ((wrap64 ((wrap64 ((wrap64 (rd x0 x14)) - ((x7) % 4294967296))) - x8)) % 4294967296) : List Int)).bind fun y213 => (if (wrap64 ((wrap64 ((wrap64 (rd x0 x14)) - ((x7) % 4294967296))) - x8)) < 0 then (limb_take.l0 k y213 x1 x2 (x7 / 4294967296) 1 x13 (wrap64 (x14 + 1))) else (limb_take.l0 k y213 x1 x2 (x7 / 4294967296) 0 x13 (wrap64 (x14 + 1))))) else (none)) else (none))) else (some ((x8 != 0), x0))

def limb_take.f (k : Nat) (l0 : List Int) (l1 : List Int) (a2 : Int) : Option (Bool × List Int) := limb_take.l0 k l0 l1 a2 0 0 (l0.length : Int) 0

def limb_give.l0 : Nat → List Int → List Int → Int → Int → Int → Option (List Int)
  | 0, _, _, _, _, _ => none
  | k + 1, x0, x1, x4, x7, x8 => if x8 < x7 then (if 0 ≤ x8 then (if x8 < (x0.length : Int) then (if x8 < (x1.length : Int) then (limb_give.l0 k (x0.set (x8 : Int).toNat ((IntKind.u64.wrap ((IntKind.u64.wrap (x4 + (IntKind.u64.wrap (rd x0 x8)))) + (IntKind.u64.wrap (rd x1 x8)))) % 4294967296)) x1 ((IntKind.u64.wrap ((IntKind.u64.wrap (x4 + (IntKind.u64.wrap (rd x0 x8)))) + (IntKind.u64.wrap (rd x1 x8)))) / 4294967296) x7 (wrap64 (x8 + 1))) else (limb_give.l0 k (x0.set (x8 : Int).toNat ((IntKind.u64.wrap (x4 + (IntKind.u64.wrap (rd x0 x8)))) % 4294967296)) x1 ((IntKind.u64.wrap (x4 + (IntKind.u64.wrap (rd x0 x8)))) / 4294967296) x7 (wrap64 (x8 + 1)))) else (none)) else (none)) else (some x0)

def limb_give.f (k : Nat) (l0 : List Int) (l1 : List Int) : Option (List Int) := limb_give.l0 k l0 l1 0 (l0.length : Int) 0

def limb_unshift.l0 : Nat → List Int → Int → List Int → Int → Int → Option (List Int)
  | 0, _, _, _, _, _ => none
  | k + 1, x0, x1, x5, x12, x13 => if x13 < x12 then (if 0 ≤ x13 then (if x13 < (x0.length : Int) then (if (wrap64 (x13 + 1)) < (x0.length : Int) then (if 0 ≤ (wrap64 (x13 + 1)) then (if 0 ≤ x1 then (if x13 < (x5.length : Int) then (limb_unshift.l0 k x0 x1 (x5.set (x13 : Int).toNat ((shr .u64 (Go.bits .or .u64 (IntKind.u64.wrap (rd x0 x13)) (IntKind.u64.wrap ((IntKind.u64.wrap (rd x0 (wrap64 (x13 + 1)))) * 4294967296))) x1) % 4294967296)) x12 (wrap64 (x13 + 1))) else (none)) else (none)) else (none)) else (if 0 ≤ x1 then (if x13 < (x5.length : Int) then (limb_unshift.l0 k x0 x1 (x5.set (x13 : Int).toNat ((shr .u64 (IntKind.u64.wrap (rd x0 x13)) x1) % 4294967296)) x12 (wrap64 (x13 + 1))) else (none)) else (none))) else (none)) else (none)) else ((limb_trim.f k x5).bind fun t225 => (some t225))

def limb_unshift.f (k : Nat) (l0 : List Int) (a1 : Int) : Option (List Int) := if 0 ≤ (l0.length : Int) then (if ((l0.length : Int) : Int).toNat ≤ 70368744177664 then (limb_unshift.l0 k l0 a1 (List.replicate ((l0.length : Int) : Int).toNat 0) (l0.length : Int) 0) else (none)) else (none)

def limb_guess.w (k : Nat) (u v : List Int) (i : Int) : Option Int := if 0 ≤ i ∧ i.toNat + (v.length + 1) ≤ u.length then limb_guess.f k ((u.drop i.toNat).take (v.length + 1)) v else none

def limb_take.w (k : Nat) (u v : List Int) (i q : Int) : Option (Bool × List Int) := if 0 ≤ i ∧ i.toNat + (v.length + 1) ≤ u.length then (limb_take.f k ((u.drop i.toNat).take (v.length + 1)) v q).bind (fun b => some (b.1, u.take i.toNat ++ b.2 ++ u.drop (i.toNat + (v.length + 1)))) else none

def limb_give.w (k : Nat) (u v : List Int) (i : Int) : Option (List Int) := if 0 ≤ i ∧ i.toNat + (v.length + 1) ≤ u.length then (limb_give.f k ((u.drop i.toNat).take (v.length + 1)) v).bind (fun b => some (u.take i.toNat ++ b ++ u.drop (i.toNat + (v.length + 1)))) else none

mutual
def limb_long.l0 : Nat → List Int → List Int → Int → Option (List Int × List Int)
  | 0, _, _, _ => none
  | k + 1, x0, x1, x6 => if 0 ≤ (wrap64 ((x1.length : Int) - 1)) then (if (wrap64 ((x1.length : Int) - 1)) < (x1.length : Int) then (if 0 ≤ x6 then (if ((shl .u32 (rd x1 (wrap64 ((x1.length : Int) - 1))) x6) / 2147483648) = 0 then (limb_long.l0 k x0 x1 (wrap64 (x6 + 1))) else ((limb_shift.f k x1 x6).bind fun t229 => (if 0 ≤ (x1.length : Int) then (if (x1.length : Int) ≤ (t229.length : Int) then ((some (t229.take ((x1.length : Int) : Int).toNat : List Int)).bind fun y232 => ((limb_shift.f k x0 x6).bind fun t236 => (if 0 ≤ (wrap64 ((t236.length : Int) - (y232.length : Int))) then (if (wrap64 ((t236.length : Int) - (y232.length : Int)) : Int).toNat ≤ 70368744177664 then ((some (List.replicate (wrap64 ((t236.length : Int) - (y232.length : Int)) : Int).toNat 0 : List Int)).bind fun y239 => (limb_long.l1 k x6 y232 t236 y239 (wrap64 ((y239.length : Int) - 1)))) else (none)) else (none)))) else (none)) else (none)))) else (none)) else (none)) else (none)
def limb_long.l1 : Nat → Int → List Int → List Int → List Int → Int → Option (List Int × List Int)
  | 0, _, _, _, _, _ => none
  | k + 1, x6, x7, x8, x9, x10 => if x10 ≥ 0 then ((limb_guess.w k x8 x7 x10).bind fun t252 => ((limb_take.w k x8 x7 x10 t252).bind fun bt253 => (if bt253.1 = true then ((limb_give.w k bt253.2 x7 x10).bind fun t255 => (if 0 ≤ x10 then (if x10 < (x9.length : Int) then (limb_long.l1 k x6 x7 t255 (x9.set (x10 : Int).toNat ((IntKind.u64.wrap (t252 - 1)) % 4294967296)) (wrap64 (x10 - 1))) else (none)) else (none))) else (if 0 ≤ x10 then (if x10 < (x9.length : Int) then (limb_long.l1 k x6 x7 bt253.2 (x9.set (x10 : Int).toNat ((t252) % 4294967296)) (wrap64 (x10 - 1))) else (none)) else (none))))) else ((limb_trim.f k x9).bind fun t242 => (if 0 ≤ (x7.length : Int) then (if (x7.length : Int) ≤ (x8.length : Int) then ((limb_unshift.f k (x8.take ((x7.length : Int) : Int).toNat) x6).bind fun t249 => (some (t242, t249))) else (none)) else (none)))
end

def limb_long.f (k : Nat) (l0 : List Int) (l1 : List Int) : Option (List Int × List Int) := limb_long.l0 k l0 l1 0

def limb_small.l0 : Nat → List Int → Int → List Int → Int → Int → Option (List Int × List Int)
  | 0, _, _, _, _, _ => none
  | k + 1, x0, x1, x6, x7, x8 => if x8 ≥ 0 then (if 0 ≤ x8 then (if x8 < (x0.length : Int) then (if (IntKind.u64.wrap (x1)) = 0 then (none) else (if x8 < (x6.length : Int) then (limb_small.l0 k x0 x1 (x6.set (x8 : Int).toNat ((IntKind.u64.wrap (Int.tdiv (Go.bits .or .u64 (IntKind.u64.wrap (x7 * 4294967296)) (IntKind.u64.wrap (rd x0 x8))) (IntKind.u64.wrap (x1)))) % 4294967296)) (Int.tmod (Go.bits .or .u64 (IntKind.u64.wrap (x7 * 4294967296)) (IntKind.u64.wrap (rd x0 x8))) (IntKind.u64.wrap (x1))) (wrap64 (x8 - 1))) else (none))) else (none)) else (none)) else ((limb_trim.f k x6).bind fun t186 => ((limb_trim.f k (([(x7) % 4294967296] : List Int))).bind fun t192 => (some (t186, t192))))

def limb_small.f (k : Nat) (l0 : List Int) (a1 : Int) : Option (List Int × List Int) := if 0 ≤ (l0.length : Int) then (if ((l0.length : Int) : Int).toNat ≤ 70368744177664 then (limb_small.l0 k l0 a1 (List.replicate ((l0.length : Int) : Int).toNat 0) 0 (wrap64 ((l0.length : Int) - 1))) else (none)) else (none)

def slices_Clone_limb_Nat_uint32.f (l0 : List Int) : Option (List Int) := (some (([] : List Int) : List Int)).bind fun y175 => (if y175.length + l0.length < 35184372088832 then (some (y175 ++ l0)) else (none))

def limb_compare.l0 : Nat → List Int → List Int → Int → Option (Int)
  | 0, _, _, _ => none
  | k + 1, x0, x1, x5 => if x5 ≥ 0 then (if 0 ≤ x5 then (if x5 < (x0.length : Int) then (if x5 < (x1.length : Int) then (if (rd x0 x5) < (rd x1 x5) then (some (-1)) else (if (rd x0 x5) > (rd x1 x5) then (some 1) else (limb_compare.l0 k x0 x1 (wrap64 (x5 - 1))))) else (none)) else (none)) else (none)) else (some 0)

def limb_compare.f (k : Nat) (l0 : List Int) (l1 : List Int) : Option (Int) := if (l0.length : Int) < (l1.length : Int) then (some (-1)) else (if (l0.length : Int) > (l1.length : Int) then (some 1) else (limb_compare.l0 k l0 l1 (wrap64 ((l0.length : Int) - 1))))

def limb_divide.f (k : Nat) (l0 : List Int) (l1 : List Int) : Option (List Int × List Int) := (limb_compare.f k l0 l1).bind fun t258 => (if t258 < 0 then ((slices_Clone_limb_Nat_uint32.f l0).bind fun t259 => (some (([] : List Int), t259))) else (if (l1.length : Int) = 1 then (if 0 < (l1.length : Int) then ((limb_small.f k l0 (rd l1 0)).bind fun bt263 => (some (bt263.1, bt263.2))) else (none)) else ((limb_long.f k l0 l1).bind fun bt269 => (some (bt269.1, bt269.2)))))

def limb_formed_1.f (l0 : List Int) : Option (Bool) := (limb_Formed.f l0).bind fun t114 => (some (!t114))

def slices_IndexFunc_limb_Nat_limb_Nat__limb_formed_1.l0 : Nat → List (List Int) → Int → Int → Option (Int)
  | 0, _, _, _ => none
  | k + 1, x0, x7, x8 => if x8 < x7 then (if 0 ≤ x8 then (if x8 < (x0.length : Int) then ((limb_formed_1.f (rd_L1 x0 x8)).bind fun t116 => (if t116 = true then (some x8) else (slices_IndexFunc_limb_Nat_limb_Nat__limb_formed_1.l0 k x0 x7 (wrap64 (x8 + 1))))) else (none)) else (none)) else (some (-1))

def slices_IndexFunc_limb_Nat_limb_Nat__limb_formed_1.f (k : Nat) (l0 : List (List Int)) : Option (Int) := slices_IndexFunc_limb_Nat_limb_Nat__limb_formed_1.l0 k l0 (l0.length : Int) 0

def slices_ContainsFunc_limb_Nat_limb_Nat__limb_formed_1.f (k : Nat) (l0 : List (List Int)) : Option (Bool) := (slices_IndexFunc_limb_Nat_limb_Nat__limb_formed_1.f k l0).bind fun t117 => (some (decide (t117 ≥ 0)))

def limb_formed.f (k : Nat) (l0 : List (List Int)) : Option (Bool) := (slices_ContainsFunc_limb_Nat_limb_Nat__limb_formed_1.f k l0).bind fun t118 => (some (!t118))

def limb_DivMod.f (k : Nat) (l0 : List Int) (l1 : List Int) : Option (List Int × List Int × Int) := (limb_formed.f k (([l0, l1] : List (List Int)))).bind fun t278 => (if t278 = true then (if (l1.length : Int) = 0 then (some (([] : List Int), ([] : List Int), 5)) else ((limb_divide.f k l0 l1).bind fun bt279 => (some (bt279.1, bt279.2, 0)))) else (some (([] : List Int), ([] : List Int), 1)))

def limb_fit.f (k : Nat) (l0 : List Int) : Option (List Int × Int) := (limb_trim.f k l0).bind fun t119 => (if (t119.length : Int) > 400 then (some (([] : List Int), 4)) else (some (t119, 0)))

mutual
def limb_Add.j0 : Nat → List Int → List Int → Option (List Int × Int)
  | 0, _, _ => none
  | k + 1, x0, x1 => if 0 ≤ (wrap64 ((x0.length : Int) + 1)) then (if (wrap64 ((x0.length : Int) + 1) : Int).toNat ≤ 70368744177664 then (limb_Add.l0 k x0 x1 (List.replicate (wrap64 ((x0.length : Int) + 1) : Int).toNat 0) 0 (x0.length : Int) 0) else (none)) else (none)
def limb_Add.l0 : Nat → List Int → List Int → List Int → Int → Int → Int → Option (List Int × Int)
  | 0, _, _, _, _, _, _ => none
  | k + 1, x0, x1, x6, x7, x26, x27 => if x27 < x26 then (if 0 ≤ x27 then (if x27 < (x0.length : Int) then (if x27 < (x1.length : Int) then (if x27 < (x6.length : Int) then (limb_Add.l0 k x0 x1 (x6.set (x27 : Int).toNat ((IntKind.u64.wrap ((IntKind.u64.wrap (x7 + (IntKind.u64.wrap (rd x0 x27)))) + (IntKind.u64.wrap (rd x1 x27)))) % 4294967296)) ((IntKind.u64.wrap ((IntKind.u64.wrap (x7 + (IntKind.u64.wrap (rd x0 x27)))) + (IntKind.u64.wrap (rd x1 x27)))) / 4294967296) x26 (wrap64 (x27 + 1))) else (none)) else (if x27 < (x6.length : Int) then (limb_Add.l0 k x0 x1 (x6.set (x27 : Int).toNat ((IntKind.u64.wrap (x7 + (IntKind.u64.wrap (rd x0 x27)))) % 4294967296)) ((IntKind.u64.wrap (x7 + (IntKind.u64.wrap (rd x0 x27)))) / 4294967296) x26 (wrap64 (x27 + 1))) else (none))) else (none)) else (none)) else (if 0 ≤ (x0.length : Int) then (if (x0.length : Int) < (x6.length : Int) then ((limb_fit.f k (x6.set ((x0.length : Int) : Int).toNat ((x7) % 4294967296))).bind fun bt134 => (some (bt134.1, bt134.2))) else (none)) else (none))
end

def limb_Add.f (k : Nat) (l0 : List Int) (l1 : List Int) : Option (List Int × Int) := (limb_formed.f k (([l0, l1] : List (List Int)))).bind fun t125 => (if t125 = true then (if (l0.length : Int) < (l1.length : Int) then (limb_Add.j0 k l1 l0) else (limb_Add.j0 k l0 l1)) else (some (([] : List Int), 1)))

def limb_Cmp.f (k : Nat) (l0 : List Int) (l1 : List Int) : Option (Int) := (limb_formed.f k (([l0, l1] : List (List Int)))).bind fun t157 => (if t157 = true then ((limb_compare.f k l0 l1).bind fun t158 => (some t158)) else (some 0))

mutual
def limb_Mul.l0 : Nat → List Int → List Int → List Int → Int → Int → Option (List Int × Int)
  | 0, _, _, _, _, _ => none
  | k + 1, x1, x6, x23, x24, x25 => if x25 < x24 then (if 0 ≤ x25 then (if x25 < (x23.length : Int) then (limb_Mul.l1 k x1 x6 x25 (rd x23 x25) 0 x23 x24 x25 x1 (x1.length : Int) 0) else (none)) else (none)) else ((limb_fit.f k x6).bind fun bt166 => (some (bt166.1, bt166.2)))
def limb_Mul.l1 : Nat → List Int → List Int → Int → Int → Int → List Int → Int → Int → List Int → Int → Int → Option (List Int × Int)
  | 0, _, _, _, _, _, _, _, _, _, _, _ => none
  | k + 1, x1, x6, x7, x8, x9, x23, x24, x25, x30, x31, x32 => if x32 < x31 then (if 0 ≤ x32 then (if x32 < (x30.length : Int) then (if 0 ≤ (wrap64 (x7 + x32)) then (if (wrap64 (x7 + x32)) < (x6.length : Int) then (limb_Mul.l1 k x1 (x6.set ((wrap64 (x7 + x32)) : Int).toNat ((IntKind.u64.wrap (x9 + (IntKind.u64.wrap ((IntKind.u64.wrap ((IntKind.u64.wrap (x8)) * (IntKind.u64.wrap (rd x30 x32)))) + (IntKind.u64.wrap (rd x6 (wrap64 (x7 + x32)))))))) % 4294967296)) x7 x8 ((IntKind.u64.wrap (x9 + (IntKind.u64.wrap ((IntKind.u64.wrap ((IntKind.u64.wrap (x8)) * (IntKind.u64.wrap (rd x30 x32)))) + (IntKind.u64.wrap (rd x6 (wrap64 (x7 + x32)))))))) / 4294967296) x23 x24 x25 x30 x31 (wrap64 (x32 + 1))) else (none)) else (none)) else (none)) else (none)) else (if 0 ≤ (wrap64 (x7 + (x1.length : Int))) then (if (wrap64 (x7 + (x1.length : Int))) < (x6.length : Int) then (limb_Mul.l0 k x1 (x6.set ((wrap64 (x7 + (x1.length : Int))) : Int).toNat ((x9) % 4294967296)) x23 x24 (wrap64 (x25 + 1))) else (none)) else (none))
end

def limb_Mul.f (k : Nat) (l0 : List Int) (l1 : List Int) : Option (List Int × Int) := (limb_formed.f k (([l0, l1] : List (List Int)))).bind fun t162 => (if t162 = true then (if 0 ≤ (wrap64 ((l0.length : Int) + (l1.length : Int))) then (if (wrap64 ((l0.length : Int) + (l1.length : Int)) : Int).toNat ≤ 70368744177664 then (limb_Mul.l0 k l1 (List.replicate (wrap64 ((l0.length : Int) + (l1.length : Int)) : Int).toNat 0) l0 (l0.length : Int) 0) else (none)) else (none)) else (some (([] : List Int), 1)))

def psephosref01_Formed.f (l0 : List Int) : Option (Bool) := if (l0.length : Int) ≤ 400 then (if (l0.length : Int) = 0 then (some true) else (if 0 ≤ (wrap64 ((l0.length : Int) - 1)) then (if (wrap64 ((l0.length : Int) - 1)) < (l0.length : Int) then (some ((rd l0 (wrap64 ((l0.length : Int) - 1))) != 0)) else (none)) else (none))) else (some false)

def psephosref01_bits.l0 : Nat → List Int → Int → Option (Int)
  | 0, _, _ => none
  | k + 1, x0, x3 => if x3 > 0 then (if 0 ≤ (wrap64 (Int.tdiv (wrap64 (x3 - 1)) 32)) then (if (wrap64 (Int.tdiv (wrap64 (x3 - 1)) 32)) < (x0.length : Int) then (if 0 ≤ (IntKind.u64.wrap (Int.tmod (wrap64 (x3 - 1)) 32)) then (if (Go.bits .and .u32 (shr .u32 (rd x0 (wrap64 (Int.tdiv (wrap64 (x3 - 1)) 32))) (IntKind.u64.wrap (Int.tmod (wrap64 (x3 - 1)) 32))) 1) = 0 then (psephosref01_bits.l0 k x0 (wrap64 (x3 - 1))) else (some x3)) else (none)) else (none)) else (none)) else (some x3)

def psephosref01_bits.f (k : Nat) (l0 : List Int) : Option (Int) := psephosref01_bits.l0 k l0 (wrap64 (32 * (l0.length : Int)))

def psephosref01_trim.l0 : Nat → List Int → Int → Option (List Int)
  | 0, _, _ => none
  | k + 1, x0, x3 => if x3 > 0 then (if 0 ≤ (wrap64 (x3 - 1)) then (if (wrap64 (x3 - 1)) < (x0.length : Int) then (if (rd x0 (wrap64 (x3 - 1))) = 0 then (psephosref01_trim.l0 k x0 (wrap64 (x3 - 1))) else ((some (([] : List Int) : List Int)).bind fun y267 => (if 0 ≤ x3 then (if x3 ≤ (x0.length : Int) then (if y267.length + (x0.take (x3 : Int).toNat).length < 35184372088832 then (some (y267 ++ (x0.take (x3 : Int).toNat))) else (none)) else (none)) else (none)))) else (none)) else (none)) else ((some (([] : List Int) : List Int)).bind fun y274 => (if 0 ≤ x3 then (if x3 ≤ (x0.length : Int) then (if y274.length + (x0.take (x3 : Int).toNat).length < 35184372088832 then (some (y274 ++ (x0.take (x3 : Int).toNat))) else (none)) else (none)) else (none)))

def psephosref01_trim.f (k : Nat) (l0 : List Int) : Option (List Int) := psephosref01_trim.l0 k l0 (l0.length : Int)

def psephosref01_shifted.l0 : Nat → List Int → Int → List Int → Int → Int → Option (List Int)
  | 0, _, _, _, _, _ => none
  | k + 1, x0, x1, x5, x16, x17 => if x17 < x16 then (if 0 ≤ x17 then (if x17 < (x0.length : Int) then (if 0 ≤ (IntKind.u64.wrap (Int.tmod x1 32)) then (if 0 ≤ (wrap64 (x17 + (wrap64 (Int.tdiv x1 32)))) then (if (wrap64 (x17 + (wrap64 (Int.tdiv x1 32)))) < (x5.length : Int) then (if 0 ≤ (wrap64 ((wrap64 (x17 + (wrap64 (Int.tdiv x1 32)))) + 1)) then (if (wrap64 ((wrap64 (x17 + (wrap64 (Int.tdiv x1 32)))) + 1)) < (x5.length : Int) then (psephosref01_shifted.l0 k x0 x1 ((x5.set ((wrap64 (x17 + (wrap64 (Int.tdiv x1 32)))) : Int).toNat (Go.bits .or .u32 (rd x5 (wrap64 (x17 + (wrap64 (Int.tdiv x1 32))))) ((shl .u64 (IntKind.u64.wrap (rd x0 x17)) (IntKind.u64.wrap (Int.tmod x1 32))) % 4294967296))).set ((wrap64 ((wrap64 (x17 + (wrap64 (Int.tdiv x1 32)))) + 1)) : Int).toNat (((shl .u64 (IntKind.u64.wrap (rd x0 x17)) (IntKind.u64.wrap (Int.tmod x1 32))) / 4294967296) % 4294967296)) x16 (wrap64 (x17 + 1))) else (none)) else (none)) else (none)) else (none)) else (none)) else (none)) else (none)) else ((psephosref01_trim.f k x5).bind fun t288 => (some t288))

def psephosref01_shifted.f (k : Nat) (l0 : List Int) (a1 : Int) : Option (List Int) := if 0 ≤ (wrap64 ((wrap64 ((l0.length : Int) + (wrap64 (Int.tdiv a1 32)))) + 1)) then (if (wrap64 ((wrap64 ((l0.length : Int) + (wrap64 (Int.tdiv a1 32)))) + 1) : Int).toNat ≤ 70368744177664 then (psephosref01_shifted.l0 k l0 a1 (List.replicate (wrap64 ((wrap64 ((l0.length : Int) + (wrap64 (Int.tdiv a1 32)))) + 1) : Int).toNat 0) (l0.length : Int) 0) else (none)) else (none)

def psephosref01_cmp.l0 : Nat → List Int → List Int → Int → Option (Int)
  | 0, _, _, _ => none
  | k + 1, x0, x1, x5 => if x5 ≥ 0 then (if 0 ≤ x5 then (if x5 < (x0.length : Int) then (if x5 < (x1.length : Int) then (if (rd x0 x5) < (rd x1 x5) then (some (-1)) else (if (rd x0 x5) > (rd x1 x5) then (some 1) else (psephosref01_cmp.l0 k x0 x1 (wrap64 (x5 - 1))))) else (none)) else (none)) else (none)) else (some 0)

def psephosref01_cmp.f (k : Nat) (l0 : List Int) (l1 : List Int) : Option (Int) := if (l0.length : Int) = (l1.length : Int) then (psephosref01_cmp.l0 k l0 l1 (wrap64 ((l0.length : Int) - 1))) else (if (l0.length : Int) < (l1.length : Int) then (some (-1)) else (some 1))

def psephosref01_sub.l0 : Nat → List Int → List Int → Int → Int → Int → Option (List Int)
  | 0, _, _, _, _, _ => none
  | k + 1, x1, x5, x6, x13, x14 => if x14 < x13 then (if x14 < (x1.length : Int) then (if 0 ≤ x14 then (if x14 < (x5.length : Int) then (if (IntKind.u64.wrap (rd x5 x14)) < (IntKind.u64.wrap (x6 + (IntKind.u64.wrap (rd x1 x14)))) then (psephosref01_sub.l0 k x1 (x5.set (x14 : Int).toNat ((IntKind.u64.wrap ((IntKind.u64.wrap ((IntKind.u64.wrap (rd x5 x14)) + 4294967296)) - (IntKind.u64.wrap (x6 + (IntKind.u64.wrap (rd x1 x14)))))) % 4294967296)) 1 x13 (wrap64 (x14 + 1))) else (psephosref01_sub.l0 k x1 (x5.set (x14 : Int).toNat ((IntKind.u64.wrap ((IntKind.u64.wrap ((IntKind.u64.wrap (rd x5 x14)) + 4294967296)) - (IntKind.u64.wrap (x6 + (IntKind.u64.wrap (rd x1 x14)))))) % 4294967296)) 0 x13 (wrap64 (x14 + 1)))) else (none)) else (none)) else (if 0 ≤ x14 then (if x14 < (x5.length : Int) then (if (IntKind.u64.wrap (rd x5 x14)) < x6 then (psephosref01_sub.l0 k x1 (x5.set (x14 : Int).toNat ((IntKind.u64.wrap ((IntKind.u64.wrap ((IntKind.u64.wrap (rd x5 x14)) + 4294967296)) - x6)) % 4294967296)) 1 x13 (wrap64 (x14 + 1))) else (psephosref01_sub.l0 k x1 (x5.set (x14 : Int).toNat ((IntKind.u64.wrap ((IntKind.u64.wrap ((IntKind.u64.wrap (rd x5 x14)) + 4294967296)) - x6)) % 4294967296)) 0 x13 (wrap64 (x14 + 1)))) else (none)) else (none))) else ((psephosref01_trim.f k x5).bind fun t301 => (some t301))

def psephosref01_sub.f (k : Nat) (l0 : List Int) (l1 : List Int) : Option (List Int) := (some (([] : List Int) : List Int)).bind fun y295 => (if y295.length + l0.length < 35184372088832 then ((some (y295 ++ l0 : List Int)).bind fun y298 => (psephosref01_sub.l0 k l1 y298 0 (y298.length : Int) 0)) else (none))

def psephosref01_half.l0 : Nat → List Int → List Int → Int → Int → Option (List Int)
  | 0, _, _, _, _ => none
  | k + 1, x0, x3, x9, x10 => if x10 < x9 then (if 0 ≤ x10 then (if x10 < (x3.length : Int) then ((some (x3.set (x10 : Int).toNat ((rd x3 x10) / 2) : List Int)).bind fun y322 => (if (wrap64 (x10 + 1)) < (x0.length : Int) then (if 0 ≤ (wrap64 (x10 + 1)) then (psephosref01_half.l0 k x0 (y322.set (x10 : Int).toNat (Go.bits .or .u32 (rd y322 x10) (((rd x0 (wrap64 (x10 + 1))) * 2147483648) % 4294967296))) x9 (wrap64 (x10 + 1))) else (none)) else (psephosref01_half.l0 k x0 y322 x9 (wrap64 (x10 + 1))))) else (none)) else (none)) else ((psephosref01_trim.f k x3).bind fun t326 => (some t326))

def psephosref01_half.f (k : Nat) (l0 : List Int) : Option (List Int) := (some (([] : List Int) : List Int)).bind fun y315 => (if y315.length + l0.length < 35184372088832 then ((some (y315 ++ l0 : List Int)).bind fun y318 => (psephosref01_half.l0 k l0 y318 (y318.length : Int) 0)) else (none))

def psephosref01_divMod.l0 : Nat → List Int → List Int → List Int → Int → Option (List Int × List Int)
  | 0, _, _, _, _ => none
  | k + 1, x7, x8, x9, x10 => if x10 ≥ 0 then ((psephosref01_cmp.f k x8 x9).bind fun t346 => (if t346 ≥ 0 then ((psephosref01_sub.f k x8 x9).bind fun t347 => (if 0 ≤ (wrap64 (Int.tdiv x10 32)) then (if (wrap64 (Int.tdiv x10 32)) < (x7.length : Int) then (if 0 ≤ (IntKind.u64.wrap (Int.tmod x10 32)) then ((psephosref01_half.f k x9).bind fun t352 => (psephosref01_divMod.l0 k (x7.set ((wrap64 (Int.tdiv x10 32)) : Int).toNat (Go.bits .or .u32 (rd x7 (wrap64 (Int.tdiv x10 32))) (shl .u32 1 (IntKind.u64.wrap (Int.tmod x10 32))))) t347 t352 (wrap64 (x10 - 1)))) else (none)) else (none)) else (none))) else ((psephosref01_half.f k x9).bind fun t355 => (psephosref01_divMod.l0 k x7 x8 t355 (wrap64 (x10 - 1)))))) else ((psephosref01_trim.f k x7).bind fun t343 => (some (t343, x8)))

def psephosref01_divMod.f (k : Nat) (l0 : List Int) (l1 : List Int) : Option (List Int × List Int) := (psephosref01_bits.f k l0).bind fun t329 => ((psephosref01_bits.f k l1).bind fun t330 => (if (wrap64 (t329 - t330)) < 0 then ((psephosref01_trim.f k l0).bind fun t331 => (some (([] : List Int), t331))) else (if 0 ≤ (wrap64 ((wrap64 (Int.tdiv (wrap64 (t329 - t330)) 32)) + 1)) then (if (wrap64 ((wrap64 (Int.tdiv (wrap64 (t329 - t330)) 32)) + 1) : Int).toNat ≤ 70368744177664 then ((psephosref01_trim.f k l0).bind fun t337 => ((psephosref01_shifted.f k l1 (wrap64 (t329 - t330))).bind fun t340 => (psephosref01_divMod.l0 k (List.replicate (wrap64 ((wrap64 (Int.tdiv (wrap64 (t329 - t330)) 32)) + 1) : Int).toNat 0) t337 t340 (wrap64 (t329 - t330))))) else (none)) else (none))))

def psephosref01_DivMod.j0 : Nat → List Int → List Int → Bool → Option (List Int × List Int × Int)
  | 0, _, _, _ => none
  | k + 1, x0, x1, x16 => if x16 = true then (some (([] : List Int), ([] : List Int), 1)) else (if (x1.length : Int) = 0 then (some (([] : List Int), ([] : List Int), 5)) else ((psephosref01_divMod.f k x0 x1).bind fun bt360 => (some (bt360.1, bt360.2, 0))))

def psephosref01_DivMod.f (k : Nat) (l0 : List Int) (l1 : List Int) : Option (List Int × List Int × Int) := (psephosref01_Formed.f l0).bind fun t358 => (if t358 = true then ((psephosref01_Formed.f l1).bind fun t359 => (psephosref01_DivMod.j0 k l0 l1 (!t359))) else (psephosref01_DivMod.j0 k l0 l1 true))

def psephosref01_Same.f (k : Nat) (l0 : List Int) (l1 : List Int) : Option (Bool) := if (l0.length : Int) = (l1.length : Int) then ((psephosref01_cmp.f k l0 l1).bind fun t366 => (some (t366 == 0))) else (some false)

mutual
def limb_Low.j0 : Nat → List Int → Bool → Option (Int × Bool)
  | 0, _, _ => none
  | k + 1, x0, x14 => if x14 = true then (some (0, false)) else (limb_Low.l0 k 0 x0 (x0.length : Int) 0)
def limb_Low.l0 : Nat → Int → List Int → Int → Int → Option (Int × Bool)
  | 0, _, _, _, _ => none
  | k + 1, x4, x15, x16, x17 => if x17 < x16 then (if 0 ≤ x17 then (if x17 < (x15.length : Int) then (if 0 ≤ (wrap64 (32 * x17)) then (limb_Low.l0 k (Go.bits .or .u64 x4 (shl .u64 (IntKind.u64.wrap (rd x15 x17)) (wrap64 (32 * x17)))) x15 x16 (wrap64 (x17 + 1))) else (none)) else (none)) else (none)) else (some (x4, true))
end

def limb_Low.f (k : Nat) (l0 : List Int) : Option (Int × Bool) := (limb_Formed.f l0).bind fun t150 => (if t150 = true then (limb_Low.j0 k l0 (decide ((l0.length : Int) > 2))) else (limb_Low.j0 k l0 true))

mutual
def psephosref01_Low.j0 : Nat → List Int → Bool → Option (Int × Bool)
  | 0, _, _ => none
  | k + 1, x0, x13 => if x13 = true then (some (0, false)) else (psephosref01_Low.l0 k x0 0 (wrap64 ((x0.length : Int) - 1)))
def psephosref01_Low.l0 : Nat → List Int → Int → Int → Option (Int × Bool)
  | 0, _, _, _ => none
  | k + 1, x0, x4, x5 => if x5 ≥ 0 then (if 0 ≤ x5 then (if x5 < (x0.length : Int) then (psephosref01_Low.l0 k x0 (Go.bits .or .u64 (IntKind.u64.wrap (x4 * 4294967296)) (IntKind.u64.wrap (rd x0 x5))) (wrap64 (x5 - 1))) else (none)) else (none)) else (some (x4, true))
end

def psephosref01_Low.f (k : Nat) (l0 : List Int) : Option (Int × Bool) := if (l0.length : Int) > 2 then (psephosref01_Low.j0 k l0 true) else ((psephosref01_Formed.f l0).bind fun t153 => (psephosref01_Low.j0 k l0 (!t153)))

def psephosref01_Of.f (k : Nat) (a0 : Int) : Option (List Int) := (psephosref01_trim.f k (([(a0) % 4294967296, (a0 / 4294967296) % 4294967296] : List Int))).bind fun t173 => (some t173)

def limb_Gcd.l0 : Nat → List Int → List Int → Option (List Int × Int)
  | 0, _, _ => none
  | k + 1, x0, x1 => if (x1.length : Int) > 0 then ((limb_divide.f k x0 x1).bind fun bt258 => (limb_Gcd.l0 k x1 bt258.2)) else ((slices_Clone_limb_Nat_uint32.f x0).bind fun t264 => (some (t264, 0)))

def limb_Gcd.f (k : Nat) (l0 : List Int) (l1 : List Int) : Option (List Int × Int) := (limb_formed.f k (([l0, l1] : List (List Int)))).bind fun t257 => (if t257 = true then (limb_Gcd.l0 k l0 l1) else (some (([] : List Int), 1)))

def psephosref01_gcd.l0 : Nat → List Int → List Int → Option (List Int)
  | 0, _, _ => none
  | k + 1, x0, x1 => if (x1.length : Int) > 0 then ((psephosref01_divMod.f k x0 x1).bind fun bt361 => (psephosref01_gcd.l0 k x1 bt361.2)) else ((psephosref01_trim.f k x0).bind fun t367 => (some t367))

def psephosref01_gcd.f (k : Nat) (l0 : List Int) (l1 : List Int) : Option (List Int) := psephosref01_gcd.l0 k l0 l1

def psephosref01_Gcd.f (k : Nat) (l0 : List Int) (l1 : List Int) : Option (List Int × Int) := (psephosref01_Formed.f l0).bind fun t370 => (if t370 = true then ((psephosref01_Formed.f l1).bind fun t371 => (if t371 = true then ((psephosref01_gcd.f k l0 l1).bind fun t372 => (some (t372, 0))) else (some (([] : List Int), 1)))) else (some (([] : List Int), 1)))

def limb_Sub.l0 : Nat → List Int → List Int → Int → Int → Int → Option (List Int × Int)
  | 0, _, _, _, _, _ => none
  | k + 1, x1, x6, x7, x24, x25 => if x25 < x24 then (if 0 ≤ x25 then (if x25 < (x6.length : Int) then (if x25 < (x1.length : Int) then ((some (x6.set (x25 : Int).toNat ((wrap64 ((wrap64 ((wrap64 (rd x6 x25)) - x7)) - (wrap64 (rd x1 x25)))) % 4294967296) : List Int)).bind fun y171 => (if (wrap64 ((wrap64 ((wrap64 (rd x6 x25)) - x7)) - (wrap64 (rd x1 x25)))) < 0 then (limb_Sub.l0 k x1 y171 1 x24 (wrap64 (x25 + 1))) else (limb_Sub.l0 k x1 y171 0 x24 (wrap64 (x25 + 1))))) else ((some (x6.set (x25 : Int).toNat ((wrap64 ((wrap64 (rd x6 x25)) - x7)) % 4294967296) : List Int)).bind fun y172 => (if (wrap64 ((wrap64 (rd x6 x25)) - x7)) < 0 then (limb_Sub.l0 k x1 y172 1 x24 (wrap64 (x25 + 1))) else (limb_Sub.l0 k x1 y172 0 x24 (wrap64 (x25 + 1)))))) else (none)) else (none)) else ((limb_trim.f k x6).bind fun t166 => (some (t166, 0)))

def limb_Sub.f (k : Nat) (l0 : List Int) (l1 : List Int) : Option (List Int × Int) := (limb_formed.f k (([l0, l1] : List (List Int)))).bind fun t161 => (if t161 = true then ((limb_compare.f k l0 l1).bind fun t162 => (if t162 < 0 then (some (([] : List Int), 3)) else ((slices_Clone_limb_Nat_uint32.f l0).bind fun t163 => (limb_Sub.l0 k l1 t163 0 (t163.length : Int) 0)))) else (some (([] : List Int), 1)))

mutual
def psephosref01_mul.l0 : Nat → List Int → List Int → List Int → Int → Int → Option (List Int)
  | 0, _, _, _, _, _ => none
  | k + 1, x0, x1, x5, x17, x18 => if x18 < x17 then (psephosref01_mul.l1 k x0 x1 x5 x18 0 x17 x18 (x1.length : Int) 0) else ((psephosref01_trim.f k x5).bind fun t185 => (some t185))
def psephosref01_mul.l1 : Nat → List Int → List Int → List Int → Int → Int → Int → Int → Int → Int → Option (List Int)
  | 0, _, _, _, _, _, _, _, _, _ => none
  | k + 1, x0, x1, x5, x6, x7, x17, x18, x22, x23 => if x23 < x22 then (if 0 ≤ (wrap64 (x6 + x23)) then (if (wrap64 (x6 + x23)) < (x5.length : Int) then (if 0 ≤ x6 then (if x6 < (x0.length : Int) then (if 0 ≤ x23 then (if x23 < (x1.length : Int) then (psephosref01_mul.l1 k x0 x1 (x5.set ((wrap64 (x6 + x23)) : Int).toNat ((IntKind.u64.wrap ((IntKind.u64.wrap (x7 + (IntKind.u64.wrap (rd x5 (wrap64 (x6 + x23)))))) + (IntKind.u64.wrap ((IntKind.u64.wrap (rd x0 x6)) * (IntKind.u64.wrap (rd x1 x23)))))) % 4294967296)) x6 ((IntKind.u64.wrap ((IntKind.u64.wrap (x7 + (IntKind.u64.wrap (rd x5 (wrap64 (x6 + x23)))))) + (IntKind.u64.wrap ((IntKind.u64.wrap (rd x0 x6)) * (IntKind.u64.wrap (rd x1 x23)))))) / 4294967296) x17 x18 x22 (wrap64 (x23 + 1))) else (none)) else (none)) else (none)) else (none)) else (none)) else (none)) else (if 0 ≤ (wrap64 (x6 + (x1.length : Int))) then (if (wrap64 (x6 + (x1.length : Int))) < (x5.length : Int) then (psephosref01_mul.l0 k x0 x1 (x5.set ((wrap64 (x6 + (x1.length : Int))) : Int).toNat ((x7) % 4294967296)) x17 (wrap64 (x18 + 1))) else (none)) else (none))
end

def psephosref01_mul.f (k : Nat) (l0 : List Int) (l1 : List Int) : Option (List Int) := if 0 ≤ (wrap64 ((wrap64 ((l0.length : Int) + (l1.length : Int))) + 1)) then (if (wrap64 ((wrap64 ((l0.length : Int) + (l1.length : Int))) + 1) : Int).toNat ≤ 70368744177664 then (psephosref01_mul.l0 k l0 l1 (List.replicate (wrap64 ((wrap64 ((l0.length : Int) + (l1.length : Int))) + 1) : Int).toNat 0) (l0.length : Int) 0) else (none)) else (none)

def psephosref01_bounded.f (l0 : List Int) : Option (List Int × Int) := if (l0.length : Int) > 400 then (some (([] : List Int), 4)) else (some (l0, 0))

def psephosref01_Mul.j0 : Nat → List Int → List Int → Bool → Option (List Int × Int)
  | 0, _, _, _ => none
  | k + 1, x0, x1, x13 => if x13 = true then (some (([] : List Int), 1)) else ((psephosref01_mul.f k x0 x1).bind fun t195 => ((psephosref01_bounded.f t195).bind fun bt198 => (some (bt198.1, bt198.2))))

def psephosref01_Mul.f (k : Nat) (l0 : List Int) (l1 : List Int) : Option (List Int × Int) := (psephosref01_Formed.f l0).bind fun t193 => (if t193 = true then ((psephosref01_Formed.f l1).bind fun t194 => (psephosref01_Mul.j0 k l0 l1 (!t194))) else (psephosref01_Mul.j0 k l0 l1 true))

def psephosref01_Sub.j0 : Nat → List Int → List Int → Bool → Option (List Int × Int)
  | 0, _, _, _ => none
  | k + 1, x0, x1, x13 => if x13 = true then (some (([] : List Int), 1)) else ((psephosref01_cmp.f k x0 x1).bind fun t244 => (if t244 < 0 then (some (([] : List Int), 3)) else ((psephosref01_sub.f k x0 x1).bind fun t245 => (some (t245, 0)))))

def psephosref01_Sub.f (k : Nat) (l0 : List Int) (l1 : List Int) : Option (List Int × Int) := (psephosref01_Formed.f l0).bind fun t242 => (if t242 = true then ((psephosref01_Formed.f l1).bind fun t243 => (psephosref01_Sub.j0 k l0 l1 (!t243))) else (psephosref01_Sub.j0 k l0 l1 true))

def psephosref01_Cmp.f (k : Nat) (l0 : List Int) (l1 : List Int) : Option (Int) := (psephosref01_Formed.f l0).bind fun t255 => (if t255 = true then ((psephosref01_Formed.f l1).bind fun t256 => (if t256 = true then ((psephosref01_cmp.f k l0 l1).bind fun t257 => (some t257)) else (some 0))) else (some 0))

mutual
def psephosref01_add.l0 : Nat → List Int → List Int → List Int → Int → Int → Option (List Int)
  | 0, _, _, _, _, _ => none
  | k + 1, x0, x1, x5, x6, x7 => if x7 < (x0.length : Int) then (psephosref01_add.j1 k x0 x1 x5 x6 x7 true) else (if x7 < (x1.length : Int) then (psephosref01_add.j1 k x0 x1 x5 x6 x7 true) else (psephosref01_add.j1 k x0 x1 x5 x6 x7 (decide (x6 > 0))))
def psephosref01_add.j1 : Nat → List Int → List Int → List Int → Int → Int → Bool → Option (List Int)
  | 0, _, _, _, _, _, _ => none
  | k + 1, x0, x1, x5, x6, x7, x21 => if x21 = true then (if x7 < (x0.length : Int) then (if 0 ≤ x7 then (if x7 < (x1.length : Int) then (if x5.length < 35184372088832 then (psephosref01_add.l0 k x0 x1 (x5 ++ [(IntKind.u64.wrap ((IntKind.u64.wrap (x6 + (IntKind.u64.wrap (rd x0 x7)))) + (IntKind.u64.wrap (rd x1 x7)))) % 4294967296]) ((IntKind.u64.wrap ((IntKind.u64.wrap (x6 + (IntKind.u64.wrap (rd x0 x7)))) + (IntKind.u64.wrap (rd x1 x7)))) / 4294967296) (wrap64 (x7 + 1))) else (none)) else (if x5.length < 35184372088832 then (psephosref01_add.l0 k x0 x1 (x5 ++ [(IntKind.u64.wrap (x6 + (IntKind.u64.wrap (rd x0 x7)))) % 4294967296]) ((IntKind.u64.wrap (x6 + (IntKind.u64.wrap (rd x0 x7)))) / 4294967296) (wrap64 (x7 + 1))) else (none))) else (none)) else (if x7 < (x1.length : Int) then (if 0 ≤ x7 then (if x5.length < 35184372088832 then (psephosref01_add.l0 k x0 x1 (x5 ++ [(IntKind.u64.wrap (x6 + (IntKind.u64.wrap (rd x1 x7)))) % 4294967296]) ((IntKind.u64.wrap (x6 + (IntKind.u64.wrap (rd x1 x7)))) / 4294967296) (wrap64 (x7 + 1))) else (none)) else (none)) else (if x5.length < 35184372088832 then (psephosref01_add.l0 k x0 x1 (x5 ++ [(x6) % 4294967296]) (x6 / 4294967296) (wrap64 (x7 + 1))) else (none)))) else ((psephosref01_trim.f k x5).bind fun t166 => (some t166))
end

def psephosref01_add.f (k : Nat) (l0 : List Int) (l1 : List Int) : Option (List Int) := psephosref01_add.l0 k l0 l1 ([] : List Int) 0 0

def psephosref01_Add.j0 : Nat → List Int → List Int → Bool → Option (List Int × Int)
  | 0, _, _, _ => none
  | k + 1, x0, x1, x13 => if x13 = true then (some (([] : List Int), 1)) else ((psephosref01_add.f k x0 x1).bind fun t186 => ((psephosref01_bounded.f t186).bind fun bt189 => (some (bt189.1, bt189.2))))

def psephosref01_Add.f (k : Nat) (l0 : List Int) (l1 : List Int) : Option (List Int × Int) := (psephosref01_Formed.f l0).bind fun t184 => (if t184 = true then ((psephosref01_Formed.f l1).bind fun t185 => (psephosref01_Add.j0 k l0 l1 (!t185))) else (psephosref01_Add.j0 k l0 l1 true))

def money_Add.f (a0 : Int) (a1 : Int) : Option (Int × Int) := if (IntKind.u64.wrap (a0 + a1)) ≥ a0 then (some (IntKind.u64.wrap (a0 + a1), 0)) else (some (0, 3))

def psephosref03_Add.f (a0 : Int) (a1 : Int) : Option (Int × Int) := if a0 > (IntKind.u64.wrap (18446744073709551615 - a1)) then (some (0, 3)) else (some (IntKind.u64.wrap (a0 + a1), 0))

def money_Sub.f (a0 : Int) (a1 : Int) : Option (Int × Int) := if a0 < a1 then (some (0, 8)) else (some (IntKind.u64.wrap (a0 - a1), 0))

def psephosref03_Sub.f (a0 : Int) (a1 : Int) : Option (Int × Int) := if a0 < a1 then (some (0, 8)) else (some (IntKind.u64.wrap (a0 - a1), 0))

def money_Sum.l0 : Nat → Int → List Int → Int → Int → Option (Int × Int)
  | 0, _, _, _, _ => none
  | k + 1, x4, x7, x8, x9 => if x9 < x8 then (if 0 ≤ x9 then (if x9 < (x7.length : Int) then (if (IntKind.u64.wrap (x4 + (rd x7 x9))) < (rd x7 x9) then (some (0, 3)) else (money_Sum.l0 k (IntKind.u64.wrap (x4 + (rd x7 x9))) x7 x8 (wrap64 (x9 + 1)))) else (none)) else (none)) else (some (x4, 0))

def money_Sum.f (k : Nat) (l0 : List Int) : Option (Int × Int) := money_Sum.l0 k 0 l0 (l0.length : Int) 0

def psephosref03_Sum.l0 : Nat → List Int → Int → Int → Int → Option (Int × Int)
  | 0, _, _, _, _ => none
  | k + 1, x0, x4, x9, x10 => if x10 < x9 then (if 0 ≤ x10 then (if x10 < (x0.length : Int) then ((psephosref03_Add.f x4 (rd x0 x10)).bind fun bt105 => (if bt105.2 = 0 then (psephosref03_Sum.l0 k x0 bt105.1 x9 (wrap64 (x10 + 1))) else (some (0, bt105.2)))) else (none)) else (none)) else (some (x4, 0))

def psephosref03_Sum.f (k : Nat) (l0 : List Int) : Option (Int × Int) := psephosref03_Sum.l0 k l0 0 (l0.length : Int) 0

def psephosref03_Part.f (k : Nat) (a0 : Int) (a1 : Int) (a2 : Int) : Option (Int × Int) := if a2 = 0 then (some (0, 5)) else ((psephosref01_Of.f k a0).bind fun t408 => ((psephosref01_Of.f k a1).bind fun t411 => ((psephosref01_Mul.f k t408 t411).bind fun bt414 => ((psephosref01_Of.f k a2).bind fun t418 => ((psephosref01_DivMod.f k bt414.1 t418).bind fun bt421 => ((psephosref01_Low.f k bt421.1).bind fun bt428 => (if bt428.2 = true then (some (bt428.1, 0)) else (some (0, 3)))))))))

def money_Square.f (a0 : Int) : Option (Int × Int) := if (IntKind.u64.wrap ((IntKind.u64.wrap ((Go.bits .and .u64 a0 4294967295) * (Go.bits .and .u64 a0 4294967295))) + (IntKind.u64.wrap ((IntKind.u64.wrap ((Go.bits .and .u64 a0 4294967295) * (a0 / 4294967296))) * 8589934592)))) < (IntKind.u64.wrap ((Go.bits .and .u64 a0 4294967295) * (Go.bits .and .u64 a0 4294967295))) then (some (IntKind.u64.wrap ((IntKind.u64.wrap ((IntKind.u64.wrap ((a0 / 4294967296) * (a0 / 4294967296))) + ((IntKind.u64.wrap ((Go.bits .and .u64 a0 4294967295) * (a0 / 4294967296))) / 2147483648))) + 1), IntKind.u64.wrap ((IntKind.u64.wrap ((Go.bits .and .u64 a0 4294967295) * (Go.bits .and .u64 a0 4294967295))) + (IntKind.u64.wrap ((IntKind.u64.wrap ((Go.bits .and .u64 a0 4294967295) * (a0 / 4294967296))) * 8589934592))))) else (some (IntKind.u64.wrap ((IntKind.u64.wrap ((a0 / 4294967296) * (a0 / 4294967296))) + ((IntKind.u64.wrap ((Go.bits .and .u64 a0 4294967295) * (a0 / 4294967296))) / 2147483648)), IntKind.u64.wrap ((IntKind.u64.wrap ((Go.bits .and .u64 a0 4294967295) * (Go.bits .and .u64 a0 4294967295))) + (IntKind.u64.wrap ((IntKind.u64.wrap ((Go.bits .and .u64 a0 4294967295) * (a0 / 4294967296))) * 8589934592)))))

def psephosref03_Square.f (k : Nat) (a0 : Int) : Option (Int × Int) := (psephosref01_Of.f k a0).bind fun t1 => ((psephosref01_Of.f k a0).bind fun t2 => ((psephosref01_Mul.f k t1 t2).bind fun t3 => (if t3.1.length ≤ 4 then (some (Go.bits .or .u64 (IntKind.u64.wrap (IntKind.u64.wrap (rd t3.1 3) * 4294967296)) (IntKind.u64.wrap (rd t3.1 2)), Go.bits .or .u64 (IntKind.u64.wrap (IntKind.u64.wrap (rd t3.1 1) * 4294967296)) (IntKind.u64.wrap (rd t3.1 0)))) else none)))

def money_Part.f (k : Nat) (a0 : Int) (a1 : Int) (a2 : Int) : Option (Int × Int) := (limb_Of.f k a0).bind fun t256 => ((limb_Of.f k a1).bind fun t259 => ((limb_Mul.f k t256 t259).bind fun bt262 => ((limb_Of.f k a2).bind fun t266 => ((limb_DivMod.f k bt262.1 t266).bind fun bt269 => (if bt269.2.2 = 0 then ((limb_Low.f k bt269.1).bind fun bt276 => (if bt276.2 = true then (some (bt276.1, 0)) else (some (0, 3)))) else (some (0, bt269.2.2)))))))

def psephosref03_Split.l0 : Nat → Int → List Int → Int → List Int → Int → Int → Int → Option (List Int × Int × Int)
  | 0, _, _, _, _, _, _, _ => none
  | k + 1, x0, x1, x7, x9, x10, x26, x27 => if x27 < x26 then (if 0 ≤ x27 then (if x27 < (x1.length : Int) then ((psephosref03_Part.f k x0 (rd x1 x27) x7).bind fun bt445 => (if x9.length < 17592186044416 then (psephosref03_Split.l0 k x0 x1 x7 (x9 ++ [bt445.1]) (IntKind.u64.wrap (x10 - bt445.1)) x26 (wrap64 (x27 + 1))) else (none))) else (none)) else (none)) else (some (x9, x10, 0))

def psephosref03_Split.f (k : Nat) (a0 : Int) (l1 : List Int) : Option (List Int × Int × Int) := (psephosref03_Sum.f k l1).bind fun bt442 => (if bt442.2 = 0 then (if bt442.1 = 0 then (some (([] : List Int), 0, 5)) else (psephosref03_Split.l0 k a0 l1 bt442.1 ([] : List Int) a0 (l1.length : Int) 0)) else (some (([] : List Int), 0, bt442.2)))

def money_Split.l0 : Nat → Int → Int → Int → List Int → List Int → Int → Int → Option (List Int × Int × Int)
  | 0, _, _, _, _, _, _, _ => none
  | k + 1, x0, x7, x9, x10, x28, x29, x30 => if x30 < x29 then (if 0 ≤ x30 then (if x30 < (x28.length : Int) then ((money_Part.f k x0 (rd x28 x30) x7).bind fun bt282 => (if x10.length < 17592186044416 then (money_Split.l0 k x0 x7 (IntKind.u64.wrap (x9 - bt282.1)) (x10 ++ [bt282.1]) x28 x29 (wrap64 (x30 + 1))) else (none))) else (none)) else (none)) else (some (x10, x9, 0))

def money_Split.f (k : Nat) (a0 : Int) (l1 : List Int) : Option (List Int × Int × Int) := (money_Sum.f k l1).bind fun bt279 => (if bt279.2 = 0 then (if bt279.1 = 0 then (some (([] : List Int), 0, 5)) else (money_Split.l0 k a0 bt279.1 a0 ([] : List Int) l1 (l1.length : Int) 0)) else (some (([] : List Int), 0, bt279.2)))

def psephosref01_lowest.f (k : Nat) (l0 : List Int) (l1 : List Int) : Option (List Int × List Int) := (psephosref01_gcd.f k l0 l1).bind fun t394 => ((psephosref01_divMod.f k l0 t394).bind fun bt397 => ((psephosref01_divMod.f k l1 t394).bind fun bt403 => (some (bt397.1, bt403.1))))

def psephosref01_Make.j0 : Nat → List Int → List Int → Bool → Option (List Int × List Int × Int)
  | 0, _, _, _ => none
  | k + 1, x0, x1, x13 => if x13 = true then (some (([] : List Int), ([] : List Int), 1)) else (if (x1.length : Int) = 0 then (some (([] : List Int), ([] : List Int), 5)) else ((psephosref01_lowest.f k x0 x1).bind fun bt412 => (some (bt412.1, bt412.2, 0))))

def psephosref01_Make.f (k : Nat) (l0 : List Int) (l1 : List Int) : Option (List Int × List Int × Int) := (psephosref01_Formed.f l0).bind fun t410 => (if t410 = true then ((psephosref01_Formed.f l1).bind fun t411 => (psephosref01_Make.j0 k l0 l1 (!t411))) else (psephosref01_Make.j0 k l0 l1 true))

def psephosref01_SameRatio.f (k : Nat) (l0_0 : List Int) (l0_1 : List Int) (l1_0 : List Int) (l1_1 : List Int) : Option (Bool) := (psephosref01_Same.f k l0_0 l1_0).bind fun t423 => (if t423 = true then ((psephosref01_Same.f k l0_1 l1_1).bind fun t424 => (some t424)) else (some false))

def psephosref01_Frac.f (k : Nat) (a0 : Int) (a1 : Int) : Option (List Int × List Int) := (psephosref01_Of.f k a0).bind fun t441 => ((psephosref01_Of.f k a1).bind fun t444 => ((psephosref01_lowest.f k t441 t444).bind fun bt447 => (some (bt447.1, bt447.2))))

def ratio_one.f (l0 : List Int) : Option (Bool) := if (l0.length : Int) = 1 then (if 0 < (l0.length : Int) then (some ((rd l0 0) == 1)) else (none)) else (some false)

def psephosref01_FormedRatio.f (k : Nat) (l0_0 : List Int) (l0_1 : List Int) : Option (Bool) := (psephosref01_Formed.f l0_0).bind fun t463 => (if t463 = true then ((psephosref01_Formed.f l0_1).bind fun t464 => (if t464 = true then (if (l0_1.length : Int) > 0 then ((psephosref01_gcd.f k l0_0 l0_1).bind fun t465 => ((psephosref01_Same.f k t465 (([1] : List Int))).bind fun t471 => (some t471))) else (some false)) else (some false))) else (some false))

end Go.Proofs.Wk
/- Slices that may only be read. -/
namespace Go.Proofs.Wk
open Go.RowKit
set_option linter.unusedVariables false
set_option linter.unusedSimpArgs false
/-- The rows at A, of size cells each, read «as» l. -/
def Rows {α : Type} (R : World → α → List Value → Prop) (sz : Nat) (l : List α) (A : Option Addr) (c : Nat) (W : World) : Prop :=
  l.length ≤ c ∧ l.length ≤ maxLen ∧ ∀ j x, l[j]? = some x → ∃ ad cs, A = some ad ∧ cs.length = sz ∧ R W x cs ∧ ∀ i u, cs[i]? = some u → W.cell? (ad.add (j * sz + i)) = some u
def RInt (k : IntKind) (_ : World) (x : Int) (cs : List Value) : Prop := cs = [.int k x]
abbrev Ints (k : IntKind) (l : List Int) (A : Option Addr) (c : Nat) : World → Prop := Rows (RInt k) 1 l A c
theorem Rows.top {α : Type} {R : World → α → List Value → Prop} {sz : Nat} {l : List α} {A : Option Addr} {c : Nat} {W : World} (h : Rows R sz l A c W) : l.length ≤ maxLen := h.2.1
theorem Rows.nil {α : Type} (R : World → α → List Value → Prop) (sz : Nat) (A : Option Addr) (c : Nat) (W : World) : Rows R sz [] A c W := ⟨Nat.zero_le _, Nat.zero_le _, fun j x h => by simp at h⟩
theorem Rows.take {α : Type} {R : World → α → List Value → Prop} {sz : Nat} {l : List α} {A : Option Addr} {c : Nat} {W : World} (h : Rows R sz l A c W) (m : Nat) : Rows R sz (l.take m) A c W := by
  obtain ⟨h1, h2, h3⟩ := h
  refine ⟨by rw [List.length_take]; omega, by rw [List.length_take]; omega, fun j x hx => h3 j x ?_⟩
  rw [List.getElem?_take] at hx
  split at hx
  · exact hx
  · cases hx
theorem Rows.has {α : Type} {R : World → α → List Value → Prop} {sz : Nat} {l : List α} {A : Option Addr} {c : Nat} {W : World} (h : Rows R sz l A c W) {i : Int} (h0 : 0 ≤ i) (h1 : i < (l.length : Int)) : A.isSome = true := by
  obtain ⟨ad, cs, e, _⟩ := h.2.2 i.toNat l[i.toNat] (List.getElem?_eq_getElem (by omega))
  rw [e]; rfl
theorem Rows.cell {k : IntKind} {l : List Int} {ad : Addr} {c : Nat} {W : World} (h : Ints k l (some ad) c W) {i : Int} (h0 : 0 ≤ i) (h1 : i < (l.length : Int)) : W.cell? (ad.add (i.toNat * 1)) = some (.int k (rd l i)) := by
  have hlt : i.toNat < l.length := by omega
  obtain ⟨ad', cs, e, hl, hR, hc⟩ := h.2.2 i.toNat l[i.toNat] (List.getElem?_eq_getElem hlt)
  cases e
  cases hR
  have := hc 0 _ rfl
  rw [show i.toNat * 1 + 0 = i.toNat * 1 from rfl] at this
  rw [this]
  unfold rd; rw [List.getD_eq_getElem?_getD, List.getElem?_eq_getElem hlt]; rfl
theorem fact0 {φ : World → Prop} {G : List (World → Prop)} {w : World} (h : All (φ :: G) w) : φ w := h _ (List.mem_cons_self ..)
theorem allTail {φ : World → Prop} {G : List (World → Prop)} {w : World} (h : All (φ :: G) w) : All G w := fun ψ hψ => h ψ (List.mem_cons_of_mem _ hψ)
theorem fact1 {φ a : World → Prop} {G : List (World → Prop)} {w : World} (h : All (a :: φ :: G) w) : φ w := fact0 (allTail h)
theorem fact2 {φ a b : World → Prop} {G : List (World → Prop)} {w : World} (h : All (a :: b :: φ :: G) w) : φ w := fact1 (allTail h)
theorem fact3 {φ a b c : World → Prop} {G : List (World → Prop)} {w : World} (h : All (a :: b :: c :: φ :: G) w) : φ w := fact2 (allTail h)
theorem allCons {φ : World → Prop} {G : List (World → Prop)} {w : World} (h : φ w) (k : All G w) : All (φ :: G) w := fun ψ hψ => by
  rcases List.mem_cons.1 hψ with rfl | hψ
  · exact h
  · exact k ψ hψ
theorem allNil {w : World} : All [] w := fun ψ h => by cases h
section
variable {P : Program} {w0 : World} {M O : Nat → Prop} {n : Nat} {K : Slots} {L : List Blk} {G : List (World → Prop)} {Q : Exit → Act → World → Prop} {ops : Array Oper} {rest : List Oper} {w : World} {a : Act} {X : Act → World → Prop}
  {d : Nat} {ty : TypeId} {pos : String} {af : Array Edge} {gd : Option (Nat × Bool)} {N : Act → World → Prop} {S : World → Prop} {α : Type} {D : Nat → Prop}
/-- The place of an element. -/
theorem index_run {x ix : Operand} {t e : TypeId} {ad : Addr} {m c : Nat} {k : IntKind} {i : Int} {f : TypeInfo} (hx : ev K x = some (.slice (some ad) m c)) (hi : ev K ix = some (.int k i)) (ht : P.underlying t = some (.slice e)) (hf : P.info? e = some f) (h0 : 0 ≤ i) (h1 : i < (m : Int)) (ha : Sat n K a) {dd : Option Tmp} :
    (execOp a.eval ⟨dd, .indexAddr t x ix, ty, pos, af, gd⟩).run P w = .ok (.value (.pointer (some (ad.add (i.toNat * f.size))))) w := by
  simp [execOp, ha.eval hx, ha.eval hi, Instr.indexAt, asIntOf, underlying, ht, sizeOf, typeInfo, hf, h0, h1]
theorem Pw.index {x ix : Operand} {t e : TypeId} {A : Option Addr} {m c : Nat} {k : IntKind} {i : Int} {f : TypeInfo} (hx : ev K x = some (.slice A m c)) (hi : ev K ix = some (.int k i)) (ht : P.underlying t = some (.slice e)) (hf : P.info? e = some f) (h0 : 0 ≤ i) (h1 : i < (m : Int)) (hA : ∀ w, All G w → A.isSome = true)
    (hw : wantB K ops gd = some true) (hn : Nat.blt d n = true) (h : ∀ ad, A = some ad → Pw w0 M O n ((d, .pointer (some (ad.add (i.toNat * f.size)))) :: K) L G N) : Pw w0 M O n K L G (OpG P ops ⟨some d, .indexAddr t x ix, ty, pos, af, gd⟩ N Q) := fun a w ha hs => by
  obtain ⟨ad, rfl⟩ := Option.isSome_iff_exists.1 (hA w hs.all)
  exact Pw.stepE (K := K) (L := L) (G := G) (w0 := w0) (M := M) (O := O) (o := ⟨some d, .indexAddr t x ix, ty, pos, af, gd⟩) hw rfl hn (fun a w ha hs => ⟨_, _, _, w, index_run hx hi ht hf h0 h1 ha, hs, h ad rfl⟩) a w ha hs
end
end Go.Proofs.Wk
/- Slices of one's own: made, written, appended to, given away. -/
namespace Go.Proofs.Wk
open Go.RowKit
set_option linter.unusedVariables false
set_option linter.unusedSimpArgs false
section
variable {P : Program} {w0 : World} {M O : Nat → Prop} {n : Nat} {K : Slots} {L : List Blk} {G : List (World → Prop)} {Q : Exit → Act → World → Prop} {ops : Array Oper} {rest : List Oper} {w : World} {a : Act} {X : Act → World → Prop}
  {d : Nat} {ty : TypeId} {pos : String} {af : Array Edge} {gd : Option (Nat × Bool)} {N : Act → World → Prop} {S : World → Prop} {α : Type} {D : Nat → Prop}
theorem St.perm (h : St w0 M O L G w) {L' : List Blk} (hp : L.Perm L') : St w0 M O L' G w :=
  ⟨h.keep, fun b hb => h.own b (hp.mem_iff.2 hb), (hp.pairwise_iff (fun {x y} (e : x.g ≠ y.g) => (fun e' => e e'.symm : y.g ≠ x.g))).1 h.nd, fun b hb => h.base b (hp.mem_iff.2 hb), fun b hb => h.nob b (hp.mem_iff.2 hb), h.ob, fun φ hφ => (h.cl φ hφ).mono fun b _ e => e.imp id (fun ⟨x, hx, e⟩ => ⟨x, hp.mem_iff.2 hx, e⟩)⟩
theorem St.drop {b : Blk} (h : St w0 M O (b :: L) G w) : St w0 M O L G w :=
  ⟨h.keep, fun x hx => h.own x (List.mem_cons_of_mem _ hx), (List.pairwise_cons.1 h.nd).2, fun x hx => h.base x (List.mem_cons_of_mem _ hx), fun x hx => h.nob x (List.mem_cons_of_mem _ hx), h.ob, fun φ hφ => (h.cl φ hφ).mono fun i _ e => e.imp id (fun ⟨x, hx, e⟩ => ⟨x, List.mem_cons_of_mem _ hx, e⟩)⟩
theorem Pw.drop {b : Blk} (h : Pw w0 M O n K L G X) : Pw w0 M O n K (b :: L) G X := fun a w ha hs => h a w ha hs.drop
theorem Pw.perm {L' : List Blk} (hp : L.Perm L') (h : Pw w0 M O n K L' G X) : Pw w0 M O n K L G X := fun a w ha hs => h a w ha (hs.perm hp)
/-- One block in another's place. -/
inductive Rep : List Blk → Blk → Blk → List Blk → Prop
  | head {b b' : Blk} {r : List Blk} : Rep (b :: r) b b' (b' :: r)
  | tail {c b b' : Blk} {r r' : List Blk} (h : Rep r b b' r') : Rep (c :: r) b b' (c :: r')
theorem Rep.perm {b b' : Blk} {L L' : List Blk} (h : Rep L b b' L') : ∃ r, L.Perm (b :: r) ∧ L'.Perm (b' :: r) := by
  induction h with
  | @head b b' r => exact ⟨r, .refl _, .refl _⟩
  | @tail c b b' r r' h ih =>
    obtain ⟨s, h1, h2⟩ := ih
    exact ⟨c :: s, (h1.cons c).trans (.swap ..), (h2.cons c).trans (.swap ..)⟩
theorem Rep.upd {b b' : Blk} {L L' : List Blk} (h : Rep L b b' L') (e : b'.g = b.g) : Upd L b b'.o L' := by
  induction h with
  | @head b b' r =>
    have : b' = ⟨b.g, b'.o⟩ := by cases b'; cases e; rfl
    rw [this]; exact .head
  | tail h ih => exact .tail (ih e)
theorem Rep.mem {b b' : Blk} {L L' : List Blk} (h : Rep L b b' L') : b ∈ L := by
  obtain ⟨r, h1, _⟩ := h.perm
  exact h1.mem_iff.2 (List.mem_cons_self ..)
/-- A row of these cells. -/
abbrev row (cs : List Value) (e : TypeId) : Obj := .cells cs.toArray e (0, 0)
theorem St.renew (h : St w0 M O L G w) {L' : List Blk} {b : Blk} {o : Obj} (hr : Rep L b ⟨w.heap.size, o⟩ L') : St w0 M O L' G (w.alloc o) := by
  obtain ⟨r, h1, h2⟩ := hr.perm
  have h3 := (h.new o).perm ((h1.cons ⟨w.heap.size, o⟩).trans (.swap ..))
  exact h3.drop.perm h2.symm

/-! ### make -/
theorem madeCells_one (z : Value) (hz : z.cells = #[z]) (m : Nat) : madeCells z.cells m = (List.replicate m z).toArray := by
  have h := toList_madeCells_one z m
  rw [hz, ← h]
theorem Pw.make {t e : TypeId} {x : Operand} {m : Nat} {i : TypeInfo} {z : Value} (hx : ev K x = some (.int .i64 (m : Int))) (ht : P.underlying t = some (.slice e)) (hi : P.info? e = some i) (hz : i.zero = some z) (hzc : z.cells = #[z]) (h1 : i.size = 1) (hb : i.bytes * m ≤ 281474976710656) (hm : m ≤ maxLen)
    (hw : wantB K ops gd = some true) (hn : Nat.blt d n = true) (h : ∀ g, Pw w0 M O n ((d, .slice (some ⟨g, 0, none⟩) m m) :: K) (⟨g, row (List.replicate m z) e⟩ :: L) G N) :
    Pw w0 M O n K L G (OpG P ops ⟨some d, .makeSlice t x x, ty, pos, af, gd⟩ N Q) :=
  Pw.stepE hw rfl hn fun a w ha hs => by
    have hm' : (m : Int) ≤ 9223372036854775807 := by simp only [maxLen] at hm; omega
    have hb' : (i.bytes : Int) * (m : Int) ≤ 281474976710656 := by
      have : ((i.bytes * m : Nat) : Int) ≤ 281474976710656 := by omega
      rwa [Int.natCast_mul] at this
    have hr := run_make (P := P) w t e i z ht hi hz .i64 .i64 (m : Int) (m : Int) (by omega) (by omega) hb' (by omega)
    simp only [Int.toNat_natCast, h1, Nat.mul_one, madeCells_one z hzc] at hr
    exact ⟨_, _, _, _, by simp [execOp, ha.eval hx, hr]; rfl, hs.new _, h _⟩

/-! ### One's own cells by a number -/
def plainB (P : Program) (u : TypeId) : Bool := match P.underlying u with | some (.struct _) => false | some (.array _ _) => false | some _ => true | none => false
theorem Pw.loadO {x : Operand} {g i : Nat} {cs : List Value} {t u : TypeId} {v : Value} (hx : ev K x = some (.pointer (some ⟨g, i, none⟩))) (hu : plainB P u = true) (hm : (⟨g, row cs t⟩ : Blk) ∈ L) (hc : cs[i]? = some v)
    (hw : wantB K ops gd = some true) (hn : Nat.blt d n = true) (h : Pw w0 M O n ((d, v) :: K) L G N) : Pw w0 M O n K L G (OpG P ops ⟨some d, .load u x, ty, pos, af, gd⟩ N Q) :=
  Pw.load1 hx hu (fun w hs => (cell_of_blk (hs.own _ hm)).trans hc) hw hn h
theorem store_run {g i : Nat} {cs : List Value} {t : TypeId} {v : Value} (hb : w.heap[g]? = some (row cs t)) (hi : i < cs.length) (hv : v.oneCell' = true) :
    ∃ w', (store ⟨g, i, none⟩ v).run P w = .ok () w' ∧ Keep (fun b => b = g) w w' ∧ w'.heap[g]? = some (row (cs.set i v) t) := by
  have hc : w.cell? ⟨g, i, none⟩ = some (cs[i]) := by rw [cell_of_blk hb, List.getElem?_eq_getElem hi]
  have hf : w.frozen? ⟨g, i, none⟩ = false := by simp [World.frozen?, hb]
  refine ⟨w.setCell ⟨g, i, none⟩ v, ?_, ⟨rfl, rfl, rfl, by simp [World.setCell], fun b hb hn => Below.heap_setCell _ _ _ _ hn, Nat.le_refl _⟩, ?_⟩
  · rw [run_store P w _ v .plain hv]; simp [stored, hc, hf]
  · have := heap_setCell_same w g i cs.toArray t v hb
    rw [this]; simp
theorem Pw.storeO {x y : Operand} {g i : Nat} {cs cs' : List Value} {t u : TypeId} {v : Value} {L' : List Blk} {f : TypeInfo} (hx : ev K x = some (.pointer (some ⟨g, i, none⟩))) (hy : ev K y = some v) (hf : P.info? u = some f) (h1 : f.size = 1) (hv : v.oneCell' = true) (hi : i < cs.length) (hcs : cs.set i v = cs') (hu : Upd L ⟨g, row cs t⟩ (row cs' t) L')
    (hw : wantB K ops gd = some true) (h : Pw w0 M O n K L' G N) : Pw w0 M O n K L G (OpG P ops ⟨none, .store u x y, ty, pos, af, gd⟩ N Q) :=
  Pw.stepU hw rfl fun a w ha hs => by
    obtain ⟨w', h2, h3, h4⟩ := store_run (P := P) (hs.own _ hu.mem) hi hv
    have hcl : v.cells = #[v] := by cases v <;> first | rfl | simp [Value.oneCell'] at hv
    rw [hcs] at h4
    refine ⟨L', G, w', ?_, hs.turn hu h3 h4, h⟩
    have ea : (⟨g, i, none⟩ : Addr).add 0 = ⟨g, i, none⟩ := by simp [Addr.add]
    simp [execOp, ha.eval hx, ha.eval hy, Instr.storeAt, Instr.sureAddr, storeVar, sizeOf, typeInfo, hf, h1, hcl, storeCells, ea, h2]

theorem Pw.indexS {x ix : Operand} {t e : TypeId} {ad : Addr} {m c : Nat} {k : IntKind} {i : Int} {f : TypeInfo} (hx : ev K x = some (.slice (some ad) m c)) (hi : ev K ix = some (.int k i)) (ht : P.underlying t = some (.slice e)) (hf : P.info? e = some f) (h0 : 0 ≤ i) (h1 : i < (m : Int))
    (hw : wantB K ops gd = some true) (hn : Nat.blt d n = true) (h : Pw w0 M O n ((d, .pointer (some (ad.add (i.toNat * f.size)))) :: K) L G N) : Pw w0 M O n K L G (OpG P ops ⟨some d, .indexAddr t x ix, ty, pos, af, gd⟩ N Q) :=
  Pw.stepE hw rfl hn fun a w ha hs => ⟨_, _, _, w, index_run hx hi ht hf h0 h1 ha, hs, h⟩
/-! ### Literals of slices -/
theorem build1_run {t e : TypeId} {v : Value} {f : TypeInfo} {z : Value} (ht : P.underlying t = some (.slice e)) (hf : P.info? e = some f) (h1 : f.size = 1) (hz : f.zero = some z) (hzc : z.cells = #[z]) (hv : v.cells = #[v]) (w : World) :
    (Instr.buildSlice t 1 #[(0, v)]).run P w = .ok (.slice (some ⟨w.heap.size, 0, none⟩) 1 1) (w.alloc (row [v] e)) := by
  simp [Instr.buildSlice, underlying, ht, sizeOf, typeInfo, hf, h1, zeroValue, hz, hzc, Instr.fill, hv, newRow, show Array.range 1 = #[0] by decide]
theorem Pw.lit1 {t e : TypeId} {x : Operand} {v : Value} {f : TypeInfo} {z : Value} (hx : ev K x = some v) (ht : P.underlying t = some (.slice e)) (hf : P.info? e = some f) (h1 : f.size = 1) (hz : f.zero = some z) (hzc : z.cells = #[z]) (hv : v.cells = #[v]) (hw : wantB K ops gd = some true) (hn : Nat.blt d n = true)
    (h : ∀ g, Pw w0 M O n ((d, .slice (some ⟨g, 0, none⟩) 1 1) :: K) (⟨g, row [v] e⟩ :: L) G N) : Pw w0 M O n K L G (OpG P ops ⟨some d, .buildSlice t 1 #[(0, x)], ty, pos, af, gd⟩ N Q) :=
  Pw.stepE hw rfl hn fun a w ha hs => ⟨_, _, _, _, by have := build1_run (P := P) ht hf h1 hz hzc hv w; simp [execOp, ha.eval hx, this], hs.new _, h _⟩
/-! ### A window of a row of one's own -/
/-! ### Operations on two numbers that a fact must let in -/
theorem Pw.shl {op : BinOp} {t t' : TypeId} {x y : Operand} {k k' : IntKind} {u v : Int} (hop : op = .shl) (hx : ev K x = some (.int k u)) (hy : ev K y = some (.int k' v)) (h0 : 0 ≤ v) (hw : wantB K ops gd = some true) (hn : Nat.blt d n = true) (h : Pw w0 M O n ((d, .int k (Wk.shl k u v)) :: K) L G N) :
    Pw w0 M O n K L G (OpG P ops ⟨some d, .binOp op t x y t', ty, pos, af, gd⟩ N Q) :=
  Pw.stepE hw rfl hn fun a w ha hs => ⟨_, _, _, w, by
    subst hop
    have e0 : ¬ v < 0 := by omega
    simp [execOp, ha.eval hx, ha.eval hy, eqGuard, binOp, Op.shift, e0, Wk.shl], hs, h⟩
theorem Pw.shr {op : BinOp} {t t' : TypeId} {x y : Operand} {k k' : IntKind} {u v : Int} (hop : op = .shr) (hx : ev K x = some (.int k u)) (hy : ev K y = some (.int k' v)) (h0 : 0 ≤ v) (hw : wantB K ops gd = some true) (hn : Nat.blt d n = true) (h : Pw w0 M O n ((d, .int k (Wk.shr k u v)) :: K) L G N) :
    Pw w0 M O n K L G (OpG P ops ⟨some d, .binOp op t x y t', ty, pos, af, gd⟩ N Q) :=
  Pw.stepE hw rfl hn fun a w ha hs => ⟨_, _, _, w, by
    subst hop
    have e0 : ¬ v < 0 := by omega
    simp [execOp, ha.eval hx, ha.eval hy, eqGuard, binOp, Op.shift, e0, Wk.shr, fdiv_pow], hs, h⟩
theorem Pw.quo {op : BinOp} {t t' : TypeId} {x y : Operand} {k : IntKind} {u v : Int} {r : Value} (hop : op = .quo) (hx : ev K x = some (.int k u)) (hy : ev K y = some (.int k v)) (h0 : ¬ v = 0) (hr : wv k (u.tdiv v) = some r) (hw : wantB K ops gd = some true) (hn : Nat.blt d n = true) (h : Pw w0 M O n ((d, r) :: K) L G N) :
    Pw w0 M O n K L G (OpG P ops ⟨some d, .binOp op t x y t', ty, pos, af, gd⟩ N Q) :=
  Pw.stepE hw rfl hn fun a w ha hs => ⟨_, _, _, w, by
    subst hop
    rw [wv_eq hr]
    simp [execOp, ha.eval hx, ha.eval hy, eqGuard, binOp, Op.intDiv, h0], hs, h⟩
theorem Pw.rem {op : BinOp} {t t' : TypeId} {x y : Operand} {k : IntKind} {u v : Int} (hop : op = .rem) (hx : ev K x = some (.int k u)) (hy : ev K y = some (.int k v)) (h0 : ¬ v = 0) (hw : wantB K ops gd = some true) (hn : Nat.blt d n = true) (h : Pw w0 M O n ((d, .int k (u.tmod v)) :: K) L G N) :
    Pw w0 M O n K L G (OpG P ops ⟨some d, .binOp op t x y t', ty, pos, af, gd⟩ N Q) :=
  Pw.stepE hw rfl hn fun a w ha hs => ⟨_, _, _, w, by
    subst hop
    simp [execOp, ha.eval hx, ha.eval hy, eqGuard, binOp, Op.intDiv, h0], hs, h⟩

/-! ### append -/
theorem Pw.appendNil {s x : Operand} {t e : TypeId} {i : TypeInfo} {z : Value} {b : Addr} {m c : Nat} {news : List Value} (hsv : ev K s = some (.slice none 0 0)) (hx : ev K x = some (.slice (some b) m c)) (ht : P.underlying t = some (.slice e)) (hi : P.info? e = some i) (hz : i.zero = some z) (hzs : z.cells.size = i.size)
    (hl : news.length = m * i.size) (hnews : ∀ w, St w0 M O L G w → ∀ j u, news[j]? = some u → w.cell? (b.add j) = some u) (h0 : 0 < m) (hm : m ≤ maxLen) (hb : m * i.bytes ≤ 281474976710656) (hw : wantB K ops gd = some true) (hn : Nat.blt d n = true)
    (h : ∀ g cap ex, m ≤ cap → (news ++ ex).length = cap * i.size → Pw w0 M O n ((d, .slice (some ⟨g, 0, none⟩) m cap) :: K) (⟨g, row (news ++ ex) e⟩ :: L) G N) :
    Pw w0 M O n K L G (OpG P ops ⟨some d, .call ⟨.builtin .append, #[s, x], #[t, t]⟩, ty, pos, af, gd⟩ N Q) :=
  Pw.stepE hw rfl hn fun a w ha hs => by
    have hr := run_append_nil (P := P) w t ty e i z ht hi hz b m c news hl (hnews w hs) h0 (by simp only [maxLen] at hm; omega) hb
    have hge := grownCap_ge w m 0 e
    have e1 : news.toArray ++ Builtin.zeroCells z.cells (grownCap w m 0 e - m) = (news ++ (Builtin.zeroCells z.cells (grownCap w m 0 e - m)).toList).toArray := by rw [← Array.toList_inj]; simp
    rw [e1] at hr
    refine ⟨_, _, _, _, by simp [execOp, resolve, invoke, builtin, ha.eval hsv, ha.eval hx, hr]; rfl, hs.drew.new _, h _ _ _ hge ?_⟩
    simp [size_zeroCells, hzs, hl, ← Nat.add_mul]
    congr 1; omega
theorem Pw.append {s x : Operand} {t e : TypeId} {i : TypeInfo} {z : Value} {b : Addr} {k cap m c g : Nat} {olds ex news : List Value} {L' : Nat → List Value → List Blk} (hsv : ev K s = some (.slice (some ⟨g, 0, none⟩) k cap)) (hx : ev K x = some (.slice (some b) m c)) (ht : P.underlying t = some (.slice e)) (hi : P.info? e = some i) (hz : i.zero = some z) (hzs : z.cells.size = i.size)
    (ho : olds.length = k * i.size) (hcap : (olds ++ ex).length = cap * i.size) (hl : news.length = m * i.size) (hone : ∀ u ∈ news, u.oneCell' = true) (hnews : ∀ w, St w0 M O L G w → ∀ j u, news[j]? = some u → w.cell? (b.add j) = some u) (hm : k + m ≤ maxLen) (hb : (k + m) * i.bytes ≤ 140737488355328)
    (hrep : ∀ g' ex', Rep L ⟨g, row (olds ++ ex) e⟩ ⟨g', row (olds ++ news ++ ex') e⟩ (L' g' ex')) (hw : wantB K ops gd = some true) (hn : Nat.blt d n = true)
    (h : ∀ g' cap' ex', k + m ≤ cap' → (olds ++ news ++ ex').length = cap' * i.size → Pw w0 M O n ((d, .slice (some ⟨g', 0, none⟩) (k + m) cap') :: K) (L' g' ex') G N) :
    Pw w0 M O n K L G (OpG P ops ⟨some d, .call ⟨.builtin .append, #[s, x], #[t, t]⟩, ty, pos, af, gd⟩ N Q) :=
  Pw.stepE hw rfl hn fun a w ha hs => by
    have hg := hs.own _ (hrep 0 []).mem
    by_cases hroom : k + m ≤ cap
    · have hfit : k * i.size + news.length ≤ (olds ++ ex).toArray.size := by
        rw [List.size_toArray, hcap, hl, ← Nat.add_mul]; exact Nat.mul_le_mul_right _ hroom
      have hr := run_append_room (P := P) w t ty e i ht hi g k cap _ hg b m c news hl (hnews w hs) hone hroom hfit
      have e1 : (((olds ++ ex).toArray.toList.take (k * i.size) ++ news ++ (olds ++ ex).toArray.toList.drop (k * i.size + news.length)).toArray) = (olds ++ news ++ ex.drop news.length).toArray := by
        rw [← ho]
        simp [List.drop_append]
      rw [e1] at hr
      have hlen : (olds ++ news ++ ex.drop news.length).length = cap * i.size := by
        rw [← hcap]
        simp only [List.length_append, List.length_drop]
        simp only [List.size_toArray, List.length_append, ← ho] at hfit
        omega
      have hset := setRow_heap w g (olds ++ ex).toArray (olds ++ news ++ ex.drop news.length).toArray e _ hg
      refine ⟨.slice (some ⟨g, 0, none⟩) (k + m) cap, _, _, w.setRow g (olds ++ news ++ ex.drop news.length).toArray, by simp [execOp, resolve, invoke, builtin, ha.eval hsv, ha.eval hx, hr], ?_, h g cap (ex.drop news.length) hroom hlen⟩
      exact hs.turn ((hrep g (ex.drop news.length)).upd rfl) ⟨rfl, rfl, rfl, by simp, fun j hj hne => setRow_other w g j _ hne, Nat.le_refl _⟩ hset
    · have holds : ∀ j u, olds[j]? = some u → w.cell? ((⟨g, 0, none⟩ : Addr).add j) = some u := fun j u hj => by
        rw [add_none, Nat.zero_add, cell_of_blk hg, List.getElem?_append_left (List.getElem?_eq_some_iff.1 hj).1]; exact hj
      have hr := run_append_grow (P := P) w t ty e i z ht hi hz ⟨g, 0, none⟩ k cap olds ho holds b m c news hl (hnews w hs) (by omega) (by simp only [maxLen] at hm; omega) (growslice_fits (by omega) hb)
      have hge := grownCap_ge w (k + m) cap e
      have e1 : olds.toArray ++ news.toArray ++ Builtin.zeroCells z.cells (grownCap w (k + m) cap e - (k + m)) = (olds ++ news ++ (Builtin.zeroCells z.cells (grownCap w (k + m) cap e - (k + m))).toList).toArray := by rw [← Array.toList_inj]; simp
      rw [e1] at hr
      refine ⟨.slice (some ⟨w.heap.size, 0, none⟩) (k + m) (grownCap w (k + m) cap e), _, _, w.drew.alloc (row (olds ++ news ++ (Builtin.zeroCells z.cells (grownCap w (k + m) cap e - (k + m))).toList) e), by simp [execOp, resolve, invoke, builtin, ha.eval hsv, ha.eval hx, hr], hs.drew.renew (hrep _ _), h _ _ _ hge ?_⟩
      simp only [List.length_append, ho, hl, Array.length_toList, size_zeroCells, hzs, ← Nat.add_mul]
      congr 1; omega
/-- A row is given away «as» a slice of numbers. -/
theorem ints_of_row {k : IntKind} {l : List Int} {ex : List Value} {g c : Nat} {t : TypeId} {W : World} (h : W.heap[g]? = some (row (l.map (Value.int k) ++ ex) t)) (hc : l.length ≤ c) (hm : l.length ≤ maxLen) : Ints k l (some ⟨g, 0, none⟩) c W := by
  refine ⟨hc, hm, fun j x hx => ⟨⟨g, 0, none⟩, [.int k x], rfl, rfl, rfl, fun i u hu => ?_⟩⟩
  have hi : i = 0 := by
    have := (List.getElem?_eq_some_iff.1 hu).1
    simp at this; omega
  subst hi
  simp only [Nat.mul_one, Nat.add_zero]
  rw [add_none, Nat.zero_add, cell_of_blk h, List.getElem?_append_left (by simpa using (List.getElem?_eq_some_iff.1 hx).1)]
  simp only [List.getElem?_map, hx]
  simpa using hu
theorem ints_of_row' {k : IntKind} {l : List Int} {g c : Nat} {t : TypeId} {W : World} (h : W.heap[g]? = some (row (l.map (Value.int k)) t)) (hc : l.length ≤ c) (hm : l.length ≤ maxLen) : Ints k l (some ⟨g, 0, none⟩) c W :=
  ints_of_row (ex := []) (by simpa using h) hc hm
theorem freeHead {g : Nat} {o : Obj} (h : Pw w0 M O n K L ((fun W => W.heap[g]? = some o) :: G) X) : Pw w0 M O n K (⟨g, o⟩ :: L) G X := Pw.free (.refl _) h
/-! ### Tests -/
theorem Pw.split {p : Prop} [Decidable p] (d : Nat) (hd : lk K d = some (.bool (decide p))) (ht : p → Pw w0 M O n ((d, .bool true) :: K) L G X) (hf : ¬ p → Pw w0 M O n ((d, .bool false) :: K) L G X) : Pw w0 M O n K L G X := by
  by_cases hp : p
  · exact Pw.re hd (by rw [decide_eq_true hp]) (ht hp)
  · exact Pw.re hd (by rw [decide_eq_false hp]) (hf hp)
theorem Pw.condD {c : Operand} {x y : Code} {p : Prop} [Decidable p] (hc : ev K c = some (.bool (decide p))) (ht : p → Pw w0 M O n K L G (x.wp P Q)) (hf : ¬ p → Pw w0 M O n K L G (y.wp P Q)) : Pw w0 M O n K L G ((Code.cond c x y).wp P Q) :=
  Pw.cond hc (fun h => ht (of_decide_eq_true h)) (fun h => hf (of_decide_eq_false h))
/-! ### Taken first, in a region that draws its order -/
variable {fuel : Nat} {l : Array Bool}
theorem Pw.drawnG {id : Nat} {l : List Oper} {sz : Nat} {bs : Array Bool} (hm : P.follows .mixedOrders = true) (hsz : l.toArray.size = sz) (hbs : Array.replicate sz false = bs) (h : Pw w0 M O n K L G (wpAnyH P .any l.toArray Q (All G) sz bs)) :
    Pw w0 M O n K L G ((Code.region id l.toArray true).wp P Q) := Pw.drawn (All G) hm hsz hbs h
theorem Pw.takeP {op : Op} {v : Value} (i : Nat) (l' : Array Bool) (ho : ops[i]? = some ⟨some d, op, ty, pos, af, gd⟩) (hv : pv P K op = some v) (hw : wantB K ops gd = some true) (hn : Nat.blt d n = true) (hc : takeB ops l i l' = true) (hQ : NoPan Q) (hS : ∀ w, St w0 M O L G w → S w)
    (h : Pw w0 M O n ((d, v) :: K) L G (wpAnyH P .any ops Q S fuel l')) : Pw w0 M O n K L G (wpAnyH P .any ops Q S (fuel + 1) l) :=
  Pw.take i l' ho rfl hn hw hc hQ hS (fun a w ha _ => pv_run hv ha w _ _ _ _ _) h
theorem Pw.takeIx {x ix : Operand} {t e : TypeId} {ad : Addr} {m c : Nat} {k : IntKind} {j : Int} {f : TypeInfo} (i : Nat) (l' : Array Bool) (ho : ops[i]? = some ⟨some d, .indexAddr t x ix, ty, pos, af, gd⟩) (hx : ev K x = some (.slice (some ad) m c)) (hi : ev K ix = some (.int k j)) (ht : P.underlying t = some (.slice e)) (hf : P.info? e = some f) (h0 : 0 ≤ j) (h1 : j < (m : Int))
    (hw : wantB K ops gd = some true) (hn : Nat.blt d n = true) (hc : takeB ops l i l' = true) (hQ : NoPan Q) (hS : ∀ w, St w0 M O L G w → S w)
    (h : Pw w0 M O n ((d, .pointer (some (ad.add (j.toNat * f.size)))) :: K) L G (wpAnyH P .any ops Q S fuel l')) : Pw w0 M O n K L G (wpAnyH P .any ops Q S (fuel + 1) l) :=
  Pw.take i l' ho rfl hn hw hc hQ hS (fun a w ha _ => index_run hx hi ht hf h0 h1 ha) h
theorem Pw.takeLdB {x : Operand} {g i : Nat} {cs : List Value} {t u : TypeId} {v : Value} (k : Nat) (l' : Array Bool) (ho : ops[k]? = some ⟨some d, .load u x, ty, pos, af, gd⟩) (hx : ev K x = some (.pointer (some ⟨g, i, none⟩))) (hb : ∀ w, S w → w.heap[g]? = some (.cells cs.toArray t (0, 0))) (hv : ldv P u cs i = some v)
    (hw : wantB K ops gd = some true) (hn : Nat.blt d n = true) (hc : takeB ops l k l' = true) (hQ : NoPan Q) (hS : ∀ w, St w0 M O L G w → S w)
    (h : Pw w0 M O n ((d, v) :: K) L G (wpAnyH P .any ops Q S fuel l')) : Pw w0 M O n K L G (wpAnyH P .any ops Q S (fuel + 1) l) :=
  Pw.take k l' ho rfl hn hw hc hQ hS (fun a w ha hs => load_run hx ha (hb w hs) hv) h
end
end Go.Proofs.Wk
/- Classes: what need not be written at each step. -/
namespace Go.Proofs.Wk
open Go.RowKit
set_option linter.unusedVariables false
set_option linter.unusedSimpArgs false
/-- A region's marks, «as» a number's bits. -/
def nbL : Nat → Nat → List Bool
  | 0, _ => []
  | n + 1, k => (Nat.beq (k % 2) 1) :: nbL n (k / 2)
def nb (n k : Nat) : Array Bool := (nbL n k).toArray
class NPan (Q : Exit → Act → World → Prop) : Prop where
  h : NoPan Q
instance {P : Program} {fn : Func} {R : Ending → World → Prop} : NPan (bodyPost P fn R) := ⟨noPan_body⟩
instance {Q : Exit → Act → World → Prop} {N : Act → World → Prop} [i : NPan Q] : NPan (Exit.then N Q) := ⟨noPan_then i.h⟩
instance {Q : Exit → Act → World → Prop} {n : Nat} [i : NPan Q] : NPan (Exit.inBlock n Q) := ⟨noPan_in i.h⟩
theorem np {Q : Exit → Act → World → Prop} [i : NPan Q] : NoPan Q := i.h
class Suf (G G0 : List (World → Prop)) : Prop where
  h : ∀ w, All G w → All G0 w
instance {G : List (World → Prop)} {G0 : List (World → Prop)} {φ : World → Prop} [i : Suf G G0] : Suf (φ :: G) G0 := ⟨fun w h => i.h w (allTail h)⟩
instance {G : List (World → Prop)} : Suf G G := ⟨fun _ h => h⟩
theorem sf {w0 : World} {M O : Nat → Prop} {L : List Blk} {G G0 : List (World → Prop)} [i : Suf G G0] : ∀ w, St w0 M O L G w → All G0 w := fun w h => i.h w h.all
class Has (G : List (World → Prop)) (φ : World → Prop) : Prop where
  h : ∀ w, All G w → φ w
instance {G : List (World → Prop)} {φ ψ : World → Prop} [i : Has G φ] : Has (ψ :: G) φ := ⟨fun w h => i.h w (allTail h)⟩
instance {G : List (World → Prop)} {φ ψ : World → Prop} : Has ((fun W => ψ W ∧ φ W) :: G) φ := ⟨fun w h => (fact0 h).2⟩
instance {G : List (World → Prop)} {φ ψ : World → Prop} : Has ((fun W => φ W ∧ ψ W) :: G) φ := ⟨fun w h => (fact0 h).1⟩
instance {G : List (World → Prop)} {φ : World → Prop} : Has (φ :: G) φ := ⟨fun w h => fact0 h⟩
theorem hv {G : List (World → Prop)} {φ : World → Prop} [i : Has G φ] (w : World) (h : All G w) : φ w := i.h w h
class Fac (G G' : List (World → Prop)) : Prop where
  h : ∀ w, All G w → All G' w
instance {G : List (World → Prop)} : Fac G [] := ⟨fun w _ => allNil⟩
instance {G G' : List (World → Prop)} {φ : World → Prop} [i : Has G φ] [j : Fac G G'] : Fac G (φ :: G') := ⟨fun w h => allCons (i.h w h) (j.h w h)⟩
/-- A block that is known: one's own, or of a fact. -/
class Blks (L : List Blk) (G : List (World → Prop)) (g : Nat) (cs : outParam (List Value)) (t : outParam TypeId) : Prop where
  h : ∀ w, (∀ b ∈ L, w.heap[b.g]? = some b.o) → All G w → w.heap[g]? = some (.cells cs.toArray t (0, 0))
instance {G : List (World → Prop)} {g : Nat} {cs : List Value} {t : TypeId} {φ : World → Prop} [i : Blks [] G g cs t] : Blks [] (φ :: G) g cs t := ⟨fun w hL h => i.h w hL (allTail h)⟩
instance {G : List (World → Prop)} {g : Nat} {cs : List Value} {t : TypeId} : Blks [] ((fun W => W.heap[g]? = some (.cells cs.toArray t (0, 0))) :: G) g cs t := ⟨fun w _ h => fact0 h⟩
instance {L : List Blk} {G : List (World → Prop)} {g : Nat} {cs : List Value} {t : TypeId} {b : Blk} [i : Blks L G g cs t] : Blks (b :: L) G g cs t := ⟨fun w hL h => i.h w (fun x hx => hL x (List.mem_cons_of_mem _ hx)) h⟩
instance {L : List Blk} {G : List (World → Prop)} {g : Nat} {cs : List Value} {t : TypeId} : Blks (⟨g, .cells cs.toArray t (0, 0)⟩ :: L) G g cs t := ⟨fun w hL h => hL _ (List.mem_cons_self ..)⟩
class OwnB (L : List Blk) (g : Nat) (cs : outParam (List Value)) (t : outParam TypeId) : Prop where
  h : (⟨g, .cells cs.toArray t (0, 0)⟩ : Blk) ∈ L
instance {L : List Blk} {g : Nat} {cs : List Value} {t : TypeId} {b : Blk} [i : OwnB L g cs t] : OwnB (b :: L) g cs t := ⟨List.mem_cons_of_mem _ i.h⟩
instance {L : List Blk} {g : Nat} {cs : List Value} {t : TypeId} : OwnB (⟨g, .cells cs.toArray t (0, 0)⟩ :: L) g cs t := ⟨List.mem_cons_self ..⟩
class UpdC (L : List Blk) (g : Nat) (cs cs' : List Value) (t : TypeId) (L' : outParam (List Blk)) : Prop where
  h : Upd L ⟨g, .cells cs.toArray t (0, 0)⟩ (.cells cs'.toArray t (0, 0)) L'
instance {L L' : List Blk} {g : Nat} {cs cs' : List Value} {t : TypeId} {b : Blk} [i : UpdC L g cs cs' t L'] : UpdC (b :: L) g cs cs' t (b :: L') := ⟨.tail i.h⟩
instance {L : List Blk} {g : Nat} {cs cs' : List Value} {t : TypeId} : UpdC (⟨g, .cells cs.toArray t (0, 0)⟩ :: L) g cs cs' t (⟨g, .cells cs'.toArray t (0, 0)⟩ :: L) := ⟨.head⟩
section
variable {P : Program} {w0 : World} {M O : Nat → Prop} {n : Nat} {K : Slots} {L : List Blk} {G : List (World → Prop)} {Q : Exit → Act → World → Prop} {ops : Array Oper}
  {d : Nat} {ty : TypeId} {pos : String} {af : Array Edge} {gd : Option (Nat × Bool)} {N : Act → World → Prop} {fuel : Nat} {l : Array Bool} {S : World → Prop}
theorem Pw.ld {x : Operand} {g i : Nat} {cs : List Value} {t u : TypeId} {v : Value} (hx : ev K x = some (.pointer (some ⟨g, i, none⟩))) (hb : Blks L G g cs t) (hv : ldv P u cs i = some v)
    (hw : wantB K ops gd = some true) (hn : Nat.blt d n = true) (h : Pw w0 M O n ((d, v) :: K) L G N) : Pw w0 M O n K L G (OpG P ops ⟨some d, .load u x, ty, pos, af, gd⟩ N Q) :=
  Pw.load hx (fun w hs => hb.h w hs.own hs.all) hv hw hn h
theorem Pw.sto {x y : Operand} {g i : Nat} {cs cs' vs : List Value} {t u : TypeId} {v : Value} {L' : List Blk} {f : TypeInfo} (hx : ev K x = some (.pointer (some ⟨g, i, none⟩))) (hy : ev K y = some v) (hb : OwnB L g cs t) (hvs : v.cells.toList = vs) (hf : P.info? u = some f) (hfs : Nat.beq f.size vs.length = true) (hone : oneL vs = true)
    (hput : putN i vs cs = some cs') (hu : UpdC L g cs cs' t L') (hw : wantB K ops gd = some true) (h : Pw w0 M O n K L' G N) :
    Pw w0 M O n K L G (OpG P ops ⟨none, .store u x y, ty, pos, af, gd⟩ N Q) := Pw.store hx hy hvs hf hfs hone hput hu.h hw h
theorem Pw.takeF {x : Operand} {g i : Nat} {cs : List Value} {t u : TypeId} {v : Value} {G0 : List (World → Prop)} (k : Nat) (l' : Array Bool) (ho : ops[k]? = some ⟨some d, .load u x, ty, pos, af, gd⟩) (hx : ev K x = some (.pointer (some ⟨g, i, none⟩))) (hb : Blks [] G0 g cs t) (hv : ldv P u cs i = some v)
    (hw : wantB K ops gd = some true) (hn : Nat.blt d n = true) (hc : takeB ops l k l' = true) (hQ : NoPan Q) (hS : ∀ w, St w0 M O L G w → All G0 w)
    (h : Pw w0 M O n ((d, v) :: K) L G (wpAnyH P .any ops Q (All G0) fuel l')) : Pw w0 M O n K L G (wpAnyH P .any ops Q (All G0) (fuel + 1) l) :=
  Pw.takeLdB k l' ho hx (fun w hS => hb.h w (fun b hb => by cases hb) hS) hv hw hn hc hQ hS h
end
end Go.Proofs.Wk
/- More rules: windows, division in a drawn region. -/
namespace Go.Proofs.Wk
open Go.RowKit
set_option linter.unusedVariables false
set_option linter.unusedSimpArgs false
section
variable {P : Program} {w0 : World} {M O : Nat → Prop} {n : Nat} {K : Slots} {L : List Blk} {G : List (World → Prop)} {Q : Exit → Act → World → Prop} {ops : Array Oper} {rest : List Oper} {w : World} {a : Act} {X : Act → World → Prop}
  {d : Nat} {ty : TypeId} {pos : String} {af : Array Edge} {gd : Option (Nat × Bool)} {N : Act → World → Prop} {S : World → Prop} {α : Type} {D : Nat → Prop} {fuel : Nat} {l : Array Bool}
/-! ### Structs -/
theorem foldSet (off : Nat) : ∀ (vs : List Value) (k : Nat) (cs : List Value), off + k + vs.length ≤ cs.length →
    ((vs.zipIdx k).foldl (fun (cs : List Value) (x : Value × Nat) => cs.set (off + x.2) x.1) cs).length = cs.length ∧ ∀ j, ((vs.zipIdx k).foldl (fun (cs : List Value) (x : Value × Nat) => cs.set (off + x.2) x.1) cs)[j]? = if off + k ≤ j ∧ j < off + k + vs.length then vs[j - (off + k)]? else cs[j]?
  | [], k, cs, h => ⟨rfl, fun j => by rw [if_neg (by simp only [List.length_nil]; omega)]; rfl⟩
  | v :: r, k, cs, h => by
    simp only [List.length_cons] at h
    obtain ⟨h1, h2⟩ := foldSet off r (k + 1) (cs.set (off + k) v) (by simp; omega)
    rw [List.zipIdx_cons, List.foldl_cons]
    refine ⟨by simpa using h1, fun j => ?_⟩
    rw [h2 j]
    simp only [List.length_cons]
    by_cases hj : j = off + k
    · subst hj
      rw [if_neg (by omega), if_pos (by omega), List.getElem?_set_self (by omega), Nat.sub_self]; rfl
    · by_cases hj2 : off + (k + 1) ≤ j ∧ j < off + (k + 1) + r.length
      · rw [if_pos hj2, if_pos (by omega)]
        have : j - (off + k) = (j - (off + (k + 1))) + 1 := by omega
        rw [this, List.getElem?_cons_succ]
      · rw [if_neg hj2, if_neg (by omega), List.getElem?_set_ne (by omega)]
theorem fold_arr (off : Nat) : ∀ (vs : List (Value × Nat)) (cs : List Value), vs.foldl (fun (cs : Array Value) (x : Value × Nat) => cs.setIfInBounds (off + x.2) x.1) cs.toArray = (vs.foldl (fun (cs : List Value) (x : Value × Nat) => cs.set (off + x.2) x.1) cs).toArray
  | [], cs => rfl
  | x :: r, cs => by
    rw [List.foldl_cons, List.foldl_cons, ← fold_arr off r]
    simp
theorem foldPut {off : Nat} {v : Value} {cs l : List Value} (h : putN off v.cells.toList cs = some l) (hl : off + v.cells.toList.length ≤ cs.length) :
    v.cells.zipIdx.foldl (fun (cs : Array Value) (x : Value × Nat) => cs.setIfInBounds (off + x.2) x.1) cs.toArray = l.toArray := by
  obtain ⟨p1, p2, p3⟩ := putN_spec _ _ _ _ h
  obtain ⟨h1, h2⟩ := foldSet off v.cells.toList 0 cs (by omega)
  have e1 : v.cells.zipIdx = (v.cells.toList.zipIdx 0).toArray := by
    rw [← Array.toList_inj]; simp
  rw [e1]
  rw [List.foldl_toArray, fold_arr]
  congr 1
  apply List.ext_getElem?
  intro j
  rw [h2 j, p3 j]; simp
def fpl (P : Program) : List Field → Option (List (Nat × Nat))
  | [] => some []
  | f :: r => match P.info? f.type with
    | some i => match fpl P r with
      | some l => some ((f.offset, i.size) :: l)
      | none => none
    | none => none
def bparts (pl : List (Nat × Nat)) : List Value → List (Nat × Value) → Option (List Value)
  | cs, [] => some cs
  | cs, (i, v) :: r => match pl[i]? with
    | some (off, size) => bif Nat.beq v.cells.toList.length size && Nat.ble (off + size) cs.length then (match putN off v.cells.toList cs with
      | some cs' => bparts pl cs' r
      | none => none) else none
    | none => none
theorem bparts_spec (pl : List (Nat × Nat)) : ∀ (ps : List (Nat × Value)) (cs l : List Value), bparts pl cs ps = some l → Instr.fill (pl.toArray[·]?) cs.toArray ps = some l.toArray
  | [], cs, l, h => by unfold bparts at h; cases h; rfl
  | (i, v) :: r, cs, l, h => by
    unfold bparts at h
    split at h
    next off size e =>
      rw [Bool.cond_eq_ite] at h
      split at h
      next hb =>
        simp only [Bool.and_eq_true] at hb
        have hs := Nat.eq_of_beq_eq_true hb.1
        have hl := Nat.le_of_ble_eq_true hb.2
        split at h
        next cs' hp =>
          have := bparts_spec pl r cs' l h
          unfold Instr.fill
          have e' : pl.toArray[i]? = some (off, size) := by simpa using e
          simp only [e']
          have hvs : v.cells.size = size := by rw [← hs]; simp
          have h5 : cs.toArray.size = cs.length := List.size_toArray
          have hc : ¬ ((decide (v.cells.size ≠ size) || decide (off + v.cells.size > cs.toArray.size)) = true) := by
            rw [Bool.or_eq_true, decide_eq_true_eq, decide_eq_true_eq]; omega
          rw [if_neg hc, foldPut hp (by omega)]
          exact this
        next => cases h
      next => cases h
    next => cases h
def buildv (P : Program) (t : TypeId) (ps : List (Nat × Value)) : Option Value := match P.underlying t with
  | some (.struct fs) => match fpl P fs.toList with
    | some pl => match P.info? t with
      | some i => match i.zero with
        | some z => match bparts pl z.cells.toList ps with
          | some cs => some (.agg cs.toArray)
          | none => none
        | none => none
      | none => none
    | none => none
  | _ => none
def fplace (f : Field) : Sem (Nat × Nat) := do Pure.pure (f.offset, ← sizeOf f.type)
theorem fplace_run {f : Field} {i : TypeInfo} (e : P.info? f.type = some i) : (fplace f).run P w = .ok (f.offset, i.size) w := by
  simp [fplace, sizeOf, typeInfo, e]
theorem fpl_run : ∀ (fs : List Field) (pl : List (Nat × Nat)), fpl P fs = some pl → (fs.mapM fplace).run P w = .ok pl w
  | [], pl, h => by unfold fpl at h; cases h; rfl
  | f :: r, pl, h => by
    unfold fpl at h
    split at h
    next i e =>
      split at h
      next l e2 =>
        cases h
        rw [List.mapM_cons]
        have := fpl_run r l e2
        simp only [Sem.run_bind, fplace_run e, Result.andThen_ok, this, Sem.run_pure]
      next => cases h
    next => cases h
theorem build_run {t : TypeId} {ps : List (Nat × Value)} {v : Value} (h : buildv P t ps = some v) (w : World) : (Instr.build t ps.toArray).run P w = .ok v w := by
  unfold buildv at h
  split at h
  next fs e1 =>
    split at h
    next pl e2 =>
      split at h
      next i e3 =>
        split at h
        next z e4 =>
          split at h
          next cs e5 =>
            cases h
            have h1 := bparts_spec pl ps z.cells.toList cs e5
            have h2 := fpl_run (w := w) fs.toList pl e2
            have h3 : (fs.mapM fplace).run P w = .ok pl.toArray w := by
              rw [Array.mapM_eq_mapM_toList]
              simp [h2]
            simp only [Array.toArray_toList] at h1
            simp only [List.getElem?_toArray] at h1
            have hz : (zeroValue t).run P w = .ok z w := by simp [zeroValue, typeInfo, e3, e4]
            have hu : (underlying t).run P w = .ok (.struct fs) w := by simp [underlying, e1]
            show ((do
              let zero := (← zeroValue t).cells
              match ← underlying t with
              | .struct fields => do
                let places ← fields.mapM fplace
                let some cells := Instr.fill (places[·]?) zero ps.toArray.toList | stuck "build: no such field, or a part of the wrong size"
                Pure.pure (.agg cells)
              | .array _ elem => do
                let size ← sizeOf elem
                let some cells := Instr.fill (fun i => some (i * size, size)) zero ps.toArray.toList | stuck "build: a part of the wrong size"
                Pure.pure (.agg cells)
              | _ => stuck "build: struct or array type expected") : Sem Value).run P w = _
            simp only [Sem.run_bind, hz, hu, h3, Result.andThen_ok, List.getElem?_toArray, h1, Sem.run_pure]
          next => cases h
        next => cases h
      next => cases h
    next => cases h
  next => cases h
def evp (K : Slots) : List (Nat × Operand) → Option (List (Nat × Value))
  | [] => some []
  | (i, x) :: r => match ev K x with
    | some v => match evp K r with
      | some l => some ((i, v) :: l)
      | none => none
    | none => none
theorem evp_map (ha : Sat n K a) : ∀ {ps : List (Nat × Operand)} {vs : List (Nat × Value)}, evp K ps = some vs → ps.map (fun p => (p.1, a.eval p.2)) = vs
  | [], vs, h => by unfold evp at h; cases h; rfl
  | (i, x) :: r, vs, h => by
    unfold evp at h
    split at h
    next v e =>
      split at h
      next l e2 => cases h; rw [List.map_cons, evp_map ha e2, ha.eval e]
      next => cases h
    next => cases h
theorem Pw.build {t : TypeId} {ps : Array (Nat × Operand)} {vs : List (Nat × Value)} {v : Value} (hp : evp K ps.toList = some vs) (hv : buildv P t vs = some v) (hw : wantB K ops gd = some true) (hn : Nat.blt d n = true) (h : Pw w0 M O n ((d, v) :: K) L G N) :
    Pw w0 M O n K L G (OpG P ops ⟨some d, .build t ps, ty, pos, af, gd⟩ N Q) :=
  Pw.stepE hw rfl hn fun a w ha hs => ⟨v, L, G, w, by
    have h1 := evp_map ha hp
    have h2 : ps.map (fun p => (p.1, a.eval p.2)) = vs.toArray := by rw [← Array.toList_inj]; simpa using h1
    have h3 := build_run hv w
    rw [← h2] at h3
    simp [execOp, h3], hs, h⟩
theorem Pw.takeBuild {t : TypeId} {ps : Array (Nat × Operand)} {vs : List (Nat × Value)} {v : Value} (i : Nat) (l' : Array Bool) (ho : ops[i]? = some ⟨some d, .build t ps, ty, pos, af, gd⟩) (hp : evp K ps.toList = some vs) (hv : buildv P t vs = some v) (hw : wantB K ops gd = some true) (hn : Nat.blt d n = true) (hc : takeB ops l i l' = true) (hQ : NoPan Q) (hS : ∀ w, St w0 M O L G w → S w)
    (h : Pw w0 M O n ((d, v) :: K) L G (wpAnyH P .any ops Q S fuel l')) : Pw w0 M O n K L G (wpAnyH P .any ops Q S (fuel + 1) l) :=
  Pw.take i l' ho rfl hn hw hc hQ hS (fun a w ha hs => by
    have h1 := evp_map ha hp
    have h2 : ps.map (fun p => (p.1, a.eval p.2)) = vs.toArray := by rw [← Array.toList_inj]; simpa using h1
    have h3 := build_run hv w
    rw [← h2] at h3
    simp [execOp, h3]) h
/-! ### A literal of two structs of two cells -/
end
end Go.Proofs.Wk
/- Rules for rows of structs that may only be read, growing slices, and maps with whole numbers «as» keys. -/
namespace Go.Proofs.Wk
open Go.RowKit
set_option linter.unusedVariables false
set_option linter.unusedSimpArgs false
/-- An element's cells are enc's, and what held says of it holds. -/
def RR {α : Type} (enc : α → List Value) (held : α → World → Prop) (W : World) (x : α) (cs : List Value) : Prop := cs = enc x ∧ held x W
/-- The rows at an address. -/
class RowsAt (G : List (World → Prop)) (A : Option Addr) (α : outParam Type) (enc : outParam (α → List Value)) (held : outParam (α → World → Prop)) (sz : outParam Nat) (l : outParam (List α)) (c : outParam Nat) : Prop where
  h : ∀ w, All G w → Rows (RR enc held) sz l A c w
instance {G : List (World → Prop)} {A : Option Addr} {α : Type} {enc : α → List Value} {held : α → World → Prop} {sz : Nat} {l : List α} {c : Nat} {φ : World → Prop} [i : RowsAt G A α enc held sz l c] : RowsAt (φ :: G) A α enc held sz l c := ⟨fun w h => i.h w (allTail h)⟩
instance {G : List (World → Prop)} {A : Option Addr} {α : Type} {enc : α → List Value} {held : α → World → Prop} {sz : Nat} {l : List α} {c : Nat} : RowsAt (Rows (RR enc held) sz l A c :: G) A α enc held sz l c := ⟨fun w h => fact0 h⟩
theorem Rows.at {α : Type} {enc : α → List Value} {held : α → World → Prop} {sz : Nat} {l : List α} {ad : Addr} {c : Nat} {W : World} (h : Rows (RR enc held) sz l (some ad) c W) {i : Nat} {x : α} (hi : l[i]? = some x) : (enc x).length = sz ∧ held x W ∧ ∀ j u, (enc x)[j]? = some u → W.cell? (ad.add (i * sz + j)) = some u := by
  obtain ⟨ad', cs, e, hl, ⟨rfl, hh⟩, hc⟩ := h.2.2 i x hi
  cases e
  exact ⟨hl, hh, hc⟩
section
variable {P : Program} {w0 : World} {M O : Nat → Prop} {n : Nat} {K : Slots} {L : List Blk} {G : List (World → Prop)} {Q : Exit → Act → World → Prop} {ops : Array Oper} {rest : List Oper} {w : World} {a : Act} {X : Act → World → Prop}
  {d : Nat} {ty : TypeId} {pos : String} {af : Array Edge} {gd : Option (Nat × Bool)} {N : Act → World → Prop} {S : World → Prop} {α : Type} {D : Nat → Prop} {fuel : Nat} {l : Array Bool}
theorem Pw.more {φ : World → Prop} (hφ : ∀ w, All G w → φ w) (h : Pw w0 M O n K L (φ :: G) X) : Pw w0 M O n K L G X := Pw.facts (fun w k => allCons (hφ w k) k) h
/-! ### Growing slices -/
abbrev Gr := Option (Nat × Nat × List Value)
def gv (s : Gr) (m : Nat) : Value := match s with | none => .slice none 0 0 | some (g, cap, _) => .slice (some ⟨g, 0, none⟩) m cap
def gL (s : Gr) (cells : List Value) (e : TypeId) : List Blk := match s with | none => [] | some (g, _, ex) => [⟨g, row (cells ++ ex) e⟩]
def gOk (s : Gr) (cells : List Value) (m sz : Nat) : Prop := match s with | none => m = 0 ∧ cells = [] | some (_, cap, ex) => cells.length = m * sz ∧ m ≤ cap ∧ (cells ++ ex).length = cap * sz
theorem Pw.push {s : Gr} {m : Nat} {cells news : List Value} {L0 : List Blk} {x y : Operand} {t e : TypeId} {i : TypeInfo} {z : Value} {b : Addr} {k c : Nat} (hsv : ev K x = some (gv s m)) (hy : ev K y = some (.slice (some b) k c)) (ht : P.underlying t = some (.slice e)) (hi : P.info? e = some i) (hz : i.zero = some z) (hzs : z.cells.size = i.size) (hL : L = gL s cells e ++ L0)
    (hok : gOk s cells m i.size) (hl : news.length = k * i.size) (hone : ∀ u ∈ news, u.oneCell' = true) (hnews : ∀ w, St w0 M O L G w → ∀ j u, news[j]? = some u → w.cell? (b.add j) = some u) (h0 : 0 < k) (hm : m + k ≤ maxLen) (hb : (m + k) * i.bytes ≤ 140737488355328) (hw : wantB K ops gd = some true) (hn : Nat.blt d n = true)
    (h : ∀ s', gOk s' (cells ++ news) (m + k) i.size → Pw w0 M O n ((d, gv s' (m + k)) :: K) (gL s' (cells ++ news) e ++ L0) G N) :
    Pw w0 M O n K L G (OpG P ops ⟨some d, .call ⟨.builtin .append, #[x, y], #[t, t]⟩, ty, pos, af, gd⟩ N Q) := by
  subst hL
  obtain _ | ⟨g, cap, ex⟩ := s
  · obtain ⟨rfl, rfl⟩ := hok
    simp only [Nat.zero_add, List.nil_append] at h hm hb
    refine Pw.appendNil (news := news) hsv hy ht hi hz hzs hl hnews h0 hm (by omega) hw hn (fun g cap ex h1 h2 => ?_)
    exact h (some (g, cap, ex)) ⟨hl, h1, h2⟩
  · obtain ⟨h1, h2, h3⟩ := hok
    refine Pw.append (olds := cells) (ex := ex) (news := news) (L' := fun g' ex' => gL (some (g', cap, ex')) (cells ++ news) e ++ L0) hsv hy ht hi hz hzs h1 h3 hl hone hnews hm hb (fun g' ex' => .head) hw hn (fun g' cap' ex' h4 h5 => ?_)
    exact h (some (g', cap', ex')) ⟨by rw [List.length_append, h1, hl, Nat.add_mul], h4, h5⟩
instance {G : List (World → Prop)} {g : Nat} {cs cells : List Value} {t e : TypeId} {s : Gr} {L0 : List Blk} [i : Blks L0 G g cs t] : Blks (gL s cells e ++ L0) G g cs t := ⟨fun w hL h => i.h w (fun b hb => hL b (List.mem_append_right _ hb)) h⟩
/-! ### Maps with whole numbers «as» keys -/
def ents : List (Int × Value) → Nat → List MapEntry
  | [], _ => []
  | (k, v) :: r, i => ⟨.int .i64 k, v, i⟩ :: ents r (i + 1)
def mapO (m : List (Int × Value)) : Obj := .map (ents m 0).toArray m.length
def lkp (k : Int) : List (Int × Value) → Nat → Option (Nat × Value)
  | [], _ => none
  | (a, v) :: r, i => if k = a then some (i, v) else lkp k r (i + 1)
theorem ents_snoc : ∀ (m : List (Int × Value)) (i : Nat) (k : Int) (v : Value), ents (m ++ [(k, v)]) i = ents m i ++ [⟨.int .i64 k, v, i + m.length⟩]
  | [], i, k, v => by simp [ents]
  | (k', v') :: r, i, k, v => by
    rw [List.cons_append]
    unfold ents
    rw [ents_snoc r (i + 1) k v]
    simp only [List.length_cons, List.cons_append]
    rw [show i + 1 + r.length = i + (r.length + 1) by omega]
theorem findNow_ents (k : Int) : ∀ (m : List (Int × Value)) (i : Nat) (j : Nat), Instr.findNow (.int .i64) (.int .i64 k) (ents m j) i = some (lkp k m i)
  | [], i, j => rfl
  | (a, v) :: r, i, j => by
    unfold ents lkp Instr.findNow
    by_cases h : k = a
    · subst h; simp [Instr.sameNow]
    · have hb : (k == a) = false := by simpa using h
      simp [Instr.sameNow, hb, h, findNow_ents k r (i + 1) (j + 1)]
theorem lkp_none {k : Int} : ∀ {m : List (Int × Value)} {i : Nat}, (∀ p ∈ m, p.1 ≠ k) → lkp k m i = none
  | [], i, h => rfl
  | (a, v) :: r, i, h => by
    unfold lkp
    rw [if_neg (fun e => h (a, v) (List.mem_cons_self ..) e.symm)]
    exact lkp_none (fun p hp => h p (List.mem_cons_of_mem _ hp))
/-- What the map answers. -/
def mval (k : Int) (m : List (Int × Value)) (z : Value) : Value := match lkp k m 0 with | some (_, v) => v | none => z
theorem Pw.makeMap {t : TypeId} (hw : wantB K ops gd = some true) (hn : Nat.blt d n = true) (h : ∀ g, Pw w0 M O n ((d, .map (some g)) :: K) (⟨g, mapO []⟩ :: L) G N) :
    Pw w0 M O n K L G (OpG P ops ⟨some d, .makeMap t none, ty, pos, af, gd⟩ N Q) :=
  Pw.stepE hw rfl hn fun a w ha hs => ⟨_, _, _, w.alloc (mapO []), by simp [execOp, Instr.makeMap, newObj, mapO, ents]; rfl, hs.new _, h _⟩
theorem lookup_run {t kt et : TypeId} {g : Nat} {k : Int} {m : List (Int × Value)} {i : TypeInfo} {z : Value} (ht : P.underlying t = some (.map kt et)) (hk : P.underlying kt = some (.int .i64)) (hi : P.info? et = some i) (hz : i.zero = some z) (hb : w.heap[g]? = some (mapO m)) :
    (Instr.lookup t (.map (some g)) (.int .i64 k) false).run P w = .ok (mval k m z) w := by
  have h1 := MapKept.run_getObj_map (P := P) hb
  have h2 := MapKept.run_checkKey (P := P) (w := w) (d := .int .i64) (k := .int .i64 k) hk (by simp [MapKept.IsKey]) (ents m 0).toArray.isEmpty 9999
  have h3 := MapKept.run_findKey (P := P) (w := w) hk (findNow_ents k m 0 0)
  unfold Instr.lookup
  simp only [Sem.run_bind, h1, run_underlying ht, Result.andThen_ok, Result.andThen, h2, h3, Sem.run_pure]
  unfold mval
  cases e : lkp k m 0 with
  | none => simp [zeroValue, typeInfo, hi, hz]
  | some p => obtain ⟨j, v⟩ := p; simp
theorem Pw.lookup {t kt et : TypeId} {x ix : Operand} {g : Nat} {k : Int} {m : List (Int × Value)} {i : TypeInfo} {z : Value} (hx : ev K x = some (.map (some g))) (hix : ev K ix = some (.int .i64 k)) (ht : P.underlying t = some (.map kt et)) (hk : P.underlying kt = some (.int .i64)) (hi : P.info? et = some i) (hz : i.zero = some z) (hm : (⟨g, mapO m⟩ : Blk) ∈ L)
    (hw : wantB K ops gd = some true) (hn : Nat.blt d n = true) (h : Pw w0 M O n ((d, mval k m z) :: K) L G N) : Pw w0 M O n K L G (OpG P ops ⟨some d, .lookup t x ix false, ty, pos, af, gd⟩ N Q) :=
  Pw.stepE hw rfl hn fun a w ha hs => ⟨_, _, _, w, by simp [execOp, ha.eval hx, ha.eval hix, lookup_run ht hk hi hz (hs.own _ hm)], hs, h⟩
theorem mapNew_run {t kt et : TypeId} {g : Nat} {k : Int} {v : Value} {m : List (Int × Value)} (ht : P.underlying t = some (.map kt et)) (hk : P.underlying kt = some (.int .i64)) (hb : w.heap[g]? = some (mapO m)) (habs : ∀ p ∈ m, p.1 ≠ k) :
    (Instr.mapUpdate t (.map (some g)) (.int .i64 k) v).run P w = .ok () { w with heap := w.heap.setIfInBounds g (mapO (m ++ [(k, v)])) } := by
  have h1 := MapKept.run_getObj_map (P := P) hb
  have h2 := MapKept.run_checkKey (P := P) (w := w) (d := .int .i64) (k := .int .i64 k) hk (by simp [MapKept.IsKey]) false 9999
  have h3 := MapKept.run_findKey (P := P) (w := w) hk (findNow_ents k m 0 0)
  rw [lkp_none habs] at h3
  have h4 := MapKept.run_setObj_map (P := P) (mapO (m ++ [(k, v)])) hb
  have e : mapO (m ++ [(k, v)]) = .map ((ents m 0).toArray.push ⟨.int .i64 k, v, m.length⟩) (m.length + 1) := by
    unfold mapO; rw [ents_snoc]; simp
  rw [e] at h4
  unfold Instr.mapUpdate
  simp only [Sem.run_bind, h1, run_underlying ht, Result.andThen_ok, h2, h3, h4, e]
/-! ### Literals of structs -/
/-! ### Rows of structs out of cells -/
/-! ### Windows of rows -/
def cutA (A : Option Addr) (i c sz : Nat) : Option Addr := if c = i then A else A.map (·.add (i * sz))
/-- x[i:]. -/
theorem Pw.cutA {x lo : Operand} {t e : TypeId} {A : Option Addr} {m c : Nat} {k : IntKind} {i : Int} {f : TypeInfo} (hx : ev K x = some (.slice A m c)) (hlo : ev K lo = some (.int k i)) (ht : P.underlying t = some (.slice e)) (hf : P.info? e = some f) (h0 : 0 ≤ i) (h1 : i ≤ (m : Int)) (h2 : m ≤ c)
    (hw : wantB K ops gd = some true) (hn : Nat.blt d n = true) (h : Pw w0 M O n ((d, .slice (Wk.cutA A i.toNat c f.size) (m - i.toNat) (c - i.toNat)) :: K) L G N) : Pw w0 M O n K L G (OpG P ops ⟨some d, .slice t x (some lo) none none, ty, pos, af, gd⟩ N Q) :=
  Pw.stepE hw rfl hn fun a w ha hs => ⟨_, _, _, w, by
    simp [execOp, ha.eval hx, ha.eval hlo, Instr.sliceAt, Instr.slice, Instr.sliceBounds, Instr.sliceBound, asIntOf, underlying, ht, sizeOf, typeInfo, hf, h0, h1, Wk.cutA], hs, h⟩
theorem Rows.cap {R : World → α → List Value → Prop} {sz : Nat} {l : List α} {A : Option Addr} {c c' : Nat} {W : World} (h : Rows R sz l A c W) (hc : l.length ≤ c') : Rows R sz l A c' W := ⟨hc, h.2⟩
/-! ### min and max -/
end
/-! ### Searching -/
end Go.Proofs.Wk
/- Plain facts on wrapped whole numbers and on reading a list; nothing of the program in sight. No conditions. -/
namespace Go.Proofs.Wk
open Go.RowKit

theorem wu64 (n : Int) : IntKind.u64.wrap n = n % 18446744073709551616 := by
  simp [IntKind.wrap, IntKind.bits, IntKind.signed]
theorem wu {n : Int} (h0 : 0 ≤ n) (h1 : n ≤ 18446744073709551615) : IntKind.u64.wrap n = n := by rw [wu64]; omega
end Go.Proofs.Wk
/- A range over a function: what a walk owes, and what it gets. -/
namespace Go.Proofs.Wk
open Go.RowKit
set_option linter.unusedVariables false
set_option linter.unusedSimpArgs false
abbrev FR (r : Option Nat) : Fence := { fn := fun _ => True, depth := none, alive := false, round := r }
def noDef (o : Oper) : Bool := match o.op with | .defer _ => false | _ => true
section
variable {P : Program} {ops : Array Oper} {Q : Exit → Act → World → Prop} {N : Act → World → Prop} {o : Oper} {a : Act} {w : World} {r : Option Nat} {m : Nat}
end
class NOut (Q : Exit → Act → World → Prop) : Prop where
  h : ∀ a w, ¬ Q .outgrown a w
instance {Q : Exit → Act → World → Prop} {N : Act → World → Prop} [i : NOut Q] : NOut (Exit.then N Q) := ⟨i.h⟩
instance {Q : Exit → Act → World → Prop} {n : Nat} [i : NOut Q] : NOut (Exit.inBlock n Q) := ⟨i.h⟩
instance : NOut (fun _ _ _ => False) := ⟨fun _ _ h => h⟩
/-- A round's end. -/
def RoundEnd (Y : Act → World → Prop) : Exit → Act → World → Prop
  | .normal, a, w => Y a w
  | _, _, _ => False
instance {Y : Act → World → Prop} : NOut (RoundEnd Y) := ⟨fun _ _ h => h⟩
instance {Y : Act → World → Prop} : NPan (RoundEnd Y) := ⟨fun c a w d v h => h⟩
instance : NPan (fun _ _ _ => False) := ⟨fun c a w d v h => h⟩
section
variable {P : Program} {w0 : World} {M O : Nat → Prop} {n : Nat} {K : Slots} {L : List Blk} {G : List (World → Prop)} {Q : Exit → Act → World → Prop} {ops : Array Oper} {rest : List Oper} {w : World} {a : Act} {X : Act → World → Prop}
  {d : Nat} {ty : TypeId} {pos : String} {af : Array Edge} {gd : Option (Nat × Bool)} {N : Act → World → Prop} {r : Option Nat} {m : Nat}
/-! ### The iterator's side -/
/-- What is known of yield: each call ends in the next state. -/
def Yd (P : Program) (r : Nat) (N : Nat) (enc : Nat → Value) (J : Nat → World → Prop) : Prop :=
  ∀ i w1, i < N → J i w1 → ∀ m, YieldAt (FR none) m P r #[enc i] w1 (fun e w2 => e = .returned (.bool true) ∧ J (i + 1) w2)
def Iter (P : Program) (gf : FuncId) (lb : Array Value) (N : Nat) (enc : Nat → Value) (pre : World → Prop) : Prop :=
  ∀ (r : Nat) (J : Nat → World → Prop) (w : World), Yd P r N enc J → (∀ i w1 w2, J i w1 → Keep (fun _ => False) w1 w2 → J i w2) → (∀ i w1, J i w1 → pre w1) → J 0 w →
    Calls P gf (#[.func (.yield r) #[] #[]] ++ lb) w (fun e w' => (∃ v, e = .returned v) ∧ J N w')
theorem yield_run {x : Operand} {rr : Nat} {az : Array Operand} {ts : Array TypeId} {vs : List Value} (hx : ev K x = some (.func (.yield rr) #[] #[])) (hargs : evs K az.toList = some vs) (ha : Sat n K a) {dd : Option Tmp} {fn : FuncId} {tmps : Array Value} {assign body : Code}
    (hy : (Instr.yield rr vs.toArray).run P w = .ok (.round rr fn tmps assign body) w) :
    (execOp a.eval ⟨dd, .call ⟨.value x, az, ts⟩, ty, pos, af, gd⟩).run P w = .ok (.round rr fn tmps assign body) w := by
  have h1 : az.map a.eval = vs.toArray := by rw [← Array.toList_inj]; simp [evs_map ha hargs]
  simp [execOp, resolve, Deferred.ofValue, invoke, ha.eval hx, h1, hy]
theorem Pw.yield {x : Operand} {rr i NN : Nat} {az : Array Operand} {ts : Array TypeId} {enc : Nat → Value} {J : Nat → World → Prop} {pre : World → Prop} (hY : Yd P rr NN enc J) (hst : ∀ i w1 w2, J i w1 → Keep (fun _ => False) w1 w2 → J i w2) (hpre : ∀ i w1, J i w1 → pre w1) (hi : i < NN) (hJ : J i w0)
    (hx : ev K x = some (.func (.yield rr) #[] #[])) (hargs : evs K az.toList = some [enc i]) (hw : wantB K ops gd = some true) (hn : Nat.blt d n = true)
    (h : ∀ w3, J (i + 1) w3 → Pw w3 (fun _ => False) (fun _ => False) n ((d, .bool true) :: K) [] [pre] (wpListIn (FR none) m P ops Q rest)) :
    Pw w0 (fun _ => False) O n K L G (wpListIn (FR none) m P ops Q (⟨some d, .call ⟨.value x, az, ts⟩, ty, pos, af, gd⟩ :: rest)) := fun a w ha hs => by
  unfold wpListIn
  rw [if_pos (wantB_spec (o := ⟨some d, .call ⟨.value x, az, ts⟩, ty, pos, af, gd⟩) hw ha)]
  refine ⟨fun _ _ => trivial, ?_⟩
  rw [Oper.semAt_plain (FR none) a.eval _ (fun c e => by cases e)]
  obtain ⟨fn, tmps, assign, body, hy, hR⟩ := hY i w hi (hst _ _ _ hJ hs.keep) (m - 1)
  rw [yield_run hx hargs ha hy, Oper.uponIn_round]
  refine ⟨fun e => absurd e (by simp), hR.mono ?_⟩
  rintro e w3 ⟨rfl, hJ3⟩
  exact h w3 hJ3 _ w3 (ha.put hn _) ⟨Keep.refl _ _, by simp, List.Pairwise.nil, by simp, by simp, fun b e => e.elim, fun φ hφ w' k => by
    rw [List.mem_singleton.1 hφ]
    exact hpre _ _ (hst _ _ _ hJ3 (k.mono fun b _ e => e.elim id (fun ⟨x, hx, _⟩ => by cases hx)))⟩
theorem Iter.start {gf : FuncId} {fn : Func} {c : Code} {lb : Array Value} {NN : Nat} {enc : Nat → Value} {pre : World → Prop} {n : Nat} (hf : P.funcs[gf]? = some fn) (hb : fn.body = some c) (K : Nat → Slots)
    (hn : ∀ r, (#[Value.func (.yield r) #[] #[]] ++ lb).size + (fn.ntmps - (#[Value.func (.yield r) #[] #[]] ++ lb).size) = n)
    (hK : ∀ r d v, lk (K r) d = some v → ((#[Value.func (.yield r) #[] #[]] ++ lb) ++ Array.replicate (fn.ntmps - (#[Value.func (.yield r) #[] #[]] ++ lb).size) undef).getD d undef = v)
    (h : ∀ r J, Yd P r NN enc J → (∀ i w1 w2, J i w1 → Keep (fun _ => False) w1 w2 → J i w2) → (∀ i w1, J i w1 → pre w1) → ∀ w0, J 0 w0 → Pw w0 (fun _ => False) (fun _ => False) n (K r) [] [pre] (c.wp P (bodyPost P fn (fun e w' => (∃ v, e = .returned v) ∧ J NN w')))) :
    Iter P gf lb NN enc pre := fun r J w hY hst hpre h0 =>
  calls_of_wp hf hb (h r J hY hst hpre w h0 _ w ⟨rfl, by have := hn r; simp at this ⊢; omega, hK r⟩ ⟨Keep.refl _ _, by simp, List.Pairwise.nil, by simp, by simp, fun b e => e.elim, fun φ hφ w' k => by
    rw [List.mem_singleton.1 hφ]
    exact hpre _ _ (hst _ _ _ h0 (k.mono fun b _ e => e.elim id (fun ⟨x, hx, _⟩ => by cases hx)))⟩)

/-! ### The caller's side -/
theorem Upd.append {L L' T : List Blk} {b : Blk} {o : Obj} (h : Upd L b o L') : Upd (L ++ T) b o (L' ++ T) := by
  induction h with
  | head => exact .head
  | tail _ ih => exact .tail ih
theorem Upd.behind {T T' : List Blk} {b : Blk} {o : Obj} (h : Upd T b o T') : ∀ L : List Blk, Upd (L ++ T) b o (L ++ T')
  | [] => h
  | x :: L => .tail (h.behind L)
/-- What a round begins and ends with. -/
structure Rd where
  L : List Blk
  G : List (World → Prop)
abbrev mark (D : Nat) : Deferred := { target := .collected D, args := #[] }
def shD (D : Nat) (a : Act) : Act := { a with defers := a.defers ++ [mark D] }
end
end Go.Proofs.Wk
/- A range over a function: the statement. -/
namespace Go.Proofs.Wk
open Go.RowKit
set_option linter.unusedVariables false
set_option linter.unusedSimpArgs false
section
variable {P : Program} {w0 : World} {M O : Nat → Prop} {n : Nat} {K : Slots} {L : List Blk} {G : List (World → Prop)} {Q : Exit → Act → World → Prop} {ops : Array Oper} {rest : List Oper} {w : World} {a : Act} {X : Act → World → Prop}
  {d : Nat} {ty : TypeId} {pos : String} {af : Array Edge} {gd : Option (Nat × Bool)} {N : Act → World → Prop} {r : Option Nat} {m : Nat}
end
end Go.Proofs.Wk
/- Functions that hold a range over a function: their end. Functions that hand blocks over. -/
namespace Go.Proofs.Wk
open Go.RowKit
set_option linter.unusedVariables false
set_option linter.unusedSimpArgs false
section
variable {P : Program} {w0 : World} {M O : Nat → Prop} {n : Nat} {K : Slots} {L : List Blk} {G : List (World → Prop)} {Q : Exit → Act → World → Prop} {ops : Array Oper} {rest : List Oper} {w : World} {a : Act} {X : Act → World → Prop}
  {d : Nat} {ty : TypeId} {pos : String} {af : Array Edge} {gd : Option (Nat × Bool)} {N : Act → World → Prop} {α : Type} {D : Nat → Prop}
theorem shD_put (D : Nat) (a : Act) (dst : Option Tmp) (v : Value) : (shD D a).put dst v = shD D (a.put dst v) := by cases dst <;> rfl
theorem list_sh (D : Nat) {Q' : Exit → Act → World → Prop} (hq : ∀ e a w, Q' e a w → Q e (shD D a) w) : ∀ (l : List Oper) (a : Act) (w : World), l.all noDef = true → wpList P ops Q' l a w → wpList P ops Q l (shD D a) w
  | [], a, w, _, h => hq _ _ _ h
  | o :: l, a, w, hl, h => by
    rw [List.all_cons, Bool.and_eq_true] at hl
    unfold wpList at h ⊢
    have hy : yielded ops (shD D a).tmps = yielded ops a.tmps := rfl
    rw [hy]
    split at h
    next hw =>
      rw [if_pos hw]
      rcases h with h | ⟨h1, a0, w1, h2⟩
      · refine .inl ?_
        unfold Oper.wp at h ⊢
        have he : execOp (shD D a).eval o = execOp a.eval o := rfl
        rw [he]
        generalize hres : (execOp a.eval o).run P w = res at h ⊢
        unfold Oper.upon at h ⊢
        split at h
        next => rw [shD_put]; exact list_sh D hq l _ _ hl.2 h
        next => rw [shD_put]; exact list_sh D hq l _ _ hl.2 h
        next d w' =>
          have e1 : ({ shD D a with defers := d :: (shD D a).defers } : Act).put o.dst undef = shD D (({ a with defers := d :: a.defers } : Act).put o.dst undef) := by
            rw [← shD_put]; rfl
          show wpList P ops Q l (({ shD D a with defers := d :: (shD D a).defers } : Act).put o.dst undef) w'
          rw [e1]; exact list_sh D hq l _ _ hl.2 h
        next f args w' =>
          refine Calls.mono h ?_
          intro e w'' h
          cases e with
          | returned v => show wpList P ops Q l ((shD D a).put o.dst v) w''; rw [shD_put]; exact list_sh D hq l _ _ hl.2 h
          | panicked c => exact hq _ _ _ h
          | outgrown => obtain ⟨a0, w1, h⟩ := h; exact ⟨_, _, hq _ _ _ h⟩
        next row args w' =>
          refine Go.Rows.mono h ?_
          intro v w'' h
          rw [shD_put]; exact list_sh D hq l _ _ hl.2 h
        next => exact hq _ _ _ h
        next => exact h
      · exact .inr ⟨h1, _, _, hq _ _ _ h2⟩
    next hw => rw [if_neg hw, shD_put]; exact list_sh D hq l _ _ hl.2 h
theorem Pw.tail {D i : Nat} {l : List Oper} (hl : l.all noDef = true) (h : Pw w0 M O n K L G (wpList P l.toArray (fun e a w => Exit.then (fun a w => Q .ret a w) Q e (shD D a) w) l)) :
    Pw w0 M O n K L G (fun a w => (Code.seq (Code.region i l.toArray false) Code.ret).wp P Q (shD D a) w) := fun a w ha hs => by
  refine wp_seq (wp_region_lit ?_)
  refine list_sh D (fun e a w h => ?_) l a w hl (h a w ha hs)
  cases e with
  | normal => exact wp_ret h
  | _ => exact h
/-! ### The end, the loop's mark being there -/
/-! ### Contracts of functions that hand blocks over -/
def CtPL (D : Nat → Prop) (w : World) (r : α → Value) (p : α → Prop) (bl : α → List Blk) (Ψ : α → World → Prop) (e : Ending) (w' : World) : Prop :=
  ∃ x, e = .returned (r x) ∧ p x ∧ Keep (fun _ => False) w w' ∧ (∀ b ∈ bl x, w.heap.size ≤ b.g ∧ w'.heap[b.g]? = some b.o) ∧ (bl x).Pairwise (fun x y => x.g ≠ y.g) ∧ Cls (fun b => D b ∨ ∃ y ∈ bl x, y.g = b) w' (Ψ x)
def CtL (P : Program) (f : FuncId) (args : Array Value) (pre : World → Prop) (r : α → Value) (p : α → Prop) (bl : α → List Blk) (Ψ : α → World → Prop) : Prop :=
  ∀ D w, (∀ b, D b → b < w.heap.size) → Cls D w pre → Calls P f args w (CtPL D w r p bl Ψ)
theorem CtL.start {f : FuncId} {fn : Func} {c : Code} {args : Array Value} {pre : World → Prop} {r : α → Value} {p : α → Prop} {bl : α → List Blk} {Ψ : α → World → Prop} {n : Nat} {K : Slots} (hf : P.funcs[f]? = some fn) (hb : fn.body = some c) (hn : args.size + (fn.ntmps - args.size) = n)
    (hK : ∀ d v, lk K d = some v → (args ++ Array.replicate (fn.ntmps - args.size) undef).getD d undef = v)
    (h : ∀ D w0, Pw w0 (fun _ => False) D n K [] [pre] (c.wp P (bodyPost P fn (CtPL D w0 r p bl Ψ)))) : CtL P f args pre r p bl Ψ := fun D w hD hp =>
  calls_of_wp hf hb (h D w _ w ⟨rfl, by simpa using hn, hK⟩ ⟨Keep.refl _ _, by simp, List.Pairwise.nil, by simp, by simp, hD, fun φ hφ => by
    rw [List.mem_singleton.1 hφ]
    exact hp.mono fun b _ e => e.elim id (fun ⟨x, hx, _⟩ => by cases hx)⟩)
/-! ### Rounds' ends -/
theorem Pw.eqL {L' : List Blk} (h : L = L') (k : Pw w0 M O n K L' G X) : Pw w0 M O n K L G X := by rw [h]; exact k
end
instance (priority := low) blksAny {L : List Blk} {G : List (World → Prop)} {g : Nat} {cs : List Value} {t : TypeId} [i : Blks [] G g cs t] : Blks L G g cs t := ⟨fun w hL h => i.h w (fun b hb => by cases hb) h⟩
instance {A L : List Blk} {g : Nat} {cs : List Value} {t : TypeId} [i : OwnB L g cs t] : OwnB (A ++ L) g cs t := ⟨List.mem_append_right _ i.h⟩
instance {A L L' : List Blk} {g : Nat} {cs cs' : List Value} {t : TypeId} [i : UpdC L g cs cs' t L'] : UpdC (A ++ L) g cs cs' t (A ++ L') := ⟨i.h.behind A⟩
end Go.Proofs.Wk
/- One rule more: a copy, at elements of several cells. -/
namespace Go.Proofs.Wk
open Go.RowKit
set_option linter.unusedVariables false
set_option linter.unusedSimpArgs false
section
variable {P : Program} {w0 : World} {M O : Nat → Prop} {n : Nat} {K : Slots} {L : List Blk} {G : List (World → Prop)} {Q : Exit → Act → World → Prop} {ops : Array Oper} {rest : List Oper} {w : World} {a : Act} {X : Act → World → Prop}
  {d : Nat} {ty : TypeId} {pos : String} {af : Array Edge} {gd : Option (Nat × Bool)} {N : Act → World → Prop} {S : World → Prop} {α : Type} {D : Nat → Prop}
variable {fuel : Nat} {l : Array Bool}
theorem Pw.takeCutA {x lo : Operand} {t e : TypeId} {A : Option Addr} {m c : Nat} {k : IntKind} {j : Int} {f : TypeInfo} (i : Nat) (l' : Array Bool) (ho : ops[i]? = some ⟨some d, .slice t x (some lo) none none, ty, pos, af, gd⟩) (hx : ev K x = some (.slice A m c)) (hlo : ev K lo = some (.int k j)) (ht : P.underlying t = some (.slice e)) (hf : P.info? e = some f) (h0 : 0 ≤ j) (h1 : j ≤ (m : Int)) (h2 : m ≤ c)
    (hw : wantB K ops gd = some true) (hn : Nat.blt d n = true) (hc : takeB ops l i l' = true) (hQ : NoPan Q) (hS : ∀ w, St w0 M O L G w → S w)
    (h : Pw w0 M O n ((d, .slice (Wk.cutA A j.toNat c f.size) (m - j.toNat) (c - j.toNat)) :: K) L G (wpAnyH P .any ops Q S fuel l')) : Pw w0 M O n K L G (wpAnyH P .any ops Q S (fuel + 1) l) :=
  Pw.take i l' ho rfl hn hw hc hQ hS (fun a w ha _ => by
    simp [execOp, ha.eval hx, ha.eval hlo, Instr.sliceAt, Instr.slice, Instr.sliceBounds, Instr.sliceBound, asIntOf, underlying, ht, sizeOf, typeInfo, hf, h0, h1, Wk.cutA]) h
end
end Go.Proofs.Wk
/- Rules: structs of numbers are compared. -/
namespace Go.Proofs.Wk
open Go.RowKit
set_option linter.unusedVariables false
set_option linter.unusedSimpArgs false
section
variable {P : Program} {w0 : World} {M O : Nat → Prop} {n : Nat} {K : Slots} {L : List Blk} {G : List (World → Prop)} {Q : Exit → Act → World → Prop} {ops : Array Oper} {rest : List Oper} {w : World} {a : Act} {X : Act → World → Prop}
  {d : Nat} {ty : TypeId} {pos : String} {af : Array Edge} {gd : Option (Nat × Bool)} {N : Act → World → Prop} {S : World → Prop} {α : Type} {D : Nat → Prop} {fuel : Nat} {l : Array Bool}
end
end Go.Proofs.Wk
/- Rules: appending what may be nothing; elements of one cell in a drawn region. -/
namespace Go.Proofs.Wk
open Go.RowKit
set_option linter.unusedVariables false
set_option linter.unusedSimpArgs false
section
variable {P : Program} {w0 : World} {M O : Nat → Prop} {n : Nat} {K : Slots} {L : List Blk} {G : List (World → Prop)} {Q : Exit → Act → World → Prop} {ops : Array Oper} {rest : List Oper} {w : World} {a : Act} {X : Act → World → Prop}
  {d : Nat} {ty : TypeId} {pos : String} {af : Array Edge} {gd : Option (Nat × Bool)} {N : Act → World → Prop} {S : World → Prop} {α : Type} {D : Nat → Prop} {fuel : Nat} {l : Array Bool}
end
end Go.Proofs.Wk
/- Rules: structs within structs of a row; a literal of an element of four cells. -/
namespace Go.Proofs.Wk
open Go.RowKit
set_option linter.unusedVariables false
set_option linter.unusedSimpArgs false
section
variable {P : Program} {w0 : World} {M O : Nat → Prop} {n : Nat} {K : Slots} {L : List Blk} {G : List (World → Prop)} {Q : Exit → Act → World → Prop} {ops : Array Oper} {rest : List Oper} {w : World} {a : Act} {X : Act → World → Prop}
  {d : Nat} {ty : TypeId} {pos : String} {af : Array Edge} {gd : Option (Nat × Bool)} {N : Act → World → Prop} {S : World → Prop} {α : Type} {D : Nat → Prop} {fuel : Nat} {l : Array Bool}
theorem build14_run {t e : TypeId} {v a1 a2 a3 a4 z1 z2 z3 z4 : Value} {f : TypeInfo} {z : Value} (ht : P.underlying t = some (.slice e)) (hf : P.info? e = some f) (h1 : f.size = 4) (hz : f.zero = some z) (hzc : z.cells = #[z1, z2, z3, z4]) (hv : v.cells = #[a1, a2, a3, a4]) (w : World) :
    (Instr.buildSlice t 1 #[(0, v)]).run P w = .ok (.slice (some ⟨w.heap.size, 0, none⟩) 1 1) (w.alloc (row [a1, a2, a3, a4] e)) := by
  simp [Instr.buildSlice, underlying, ht, sizeOf, typeInfo, hf, h1, zeroValue, hz, hzc, Instr.fill, hv, newRow, show Array.range 4 = #[0, 1, 2, 3] by decide]
theorem Pw.lit14 {t e : TypeId} {x : Operand} {v a1 a2 a3 a4 z1 z2 z3 z4 : Value} {f : TypeInfo} {z : Value} (hx : ev K x = some v) (ht : P.underlying t = some (.slice e)) (hf : P.info? e = some f) (h1 : f.size = 4) (hz : f.zero = some z) (hzc : z.cells = #[z1, z2, z3, z4]) (hv : v.cells = #[a1, a2, a3, a4]) (hw : wantB K ops gd = some true) (hn : Nat.blt d n = true)
    (h : ∀ g, Pw w0 M O n ((d, .slice (some ⟨g, 0, none⟩) 1 1) :: K) (⟨g, row [a1, a2, a3, a4] e⟩ :: L) G N) : Pw w0 M O n K L G (OpG P ops ⟨some d, .buildSlice t 1 #[(0, x)], ty, pos, af, gd⟩ N Q) :=
  Pw.stepE hw rfl hn fun a w ha hs => ⟨_, _, _, _, by have := build14_run (P := P) ht hf h1 hz hzc hv w; simp [execOp, ha.eval hx, this], hs.new _, h _⟩
end
end Go.Proofs.Wk
/- Rules: maps: an entry set anew; lookups that tell whether there is one; maps that are facts. -/
namespace Go.Proofs.Wk
open Go.RowKit
set_option linter.unusedVariables false
set_option linter.unusedSimpArgs false
section
variable {P : Program} {w0 : World} {M O : Nat → Prop} {n : Nat} {K : Slots} {L : List Blk} {G : List (World → Prop)} {Q : Exit → Act → World → Prop} {ops : Array Oper} {rest : List Oper} {w : World} {a : Act} {X : Act → World → Prop}
  {d : Nat} {ty : TypeId} {pos : String} {af : Array Edge} {gd : Option (Nat × Bool)} {N : Act → World → Prop} {S : World → Prop} {α : Type} {D : Nat → Prop} {fuel : Nat} {l : Array Bool}
theorem Pw.lookupF {t kt et : TypeId} {x ix : Operand} {g : Nat} {k : Int} {m : List (Int × Value)} {i : TypeInfo} {z : Value} (hx : ev K x = some (.map (some g))) (hix : ev K ix = some (.int .i64 k)) (ht : P.underlying t = some (.map kt et)) (hk : P.underlying kt = some (.int .i64)) (hi : P.info? et = some i) (hz : i.zero = some z) (hm : ∀ w, St w0 M O L G w → w.heap[g]? = some (mapO m))
    (hw : wantB K ops gd = some true) (hn : Nat.blt d n = true) (h : Pw w0 M O n ((d, mval k m z) :: K) L G N) : Pw w0 M O n K L G (OpG P ops ⟨some d, .lookup t x ix false, ty, pos, af, gd⟩ N Q) :=
  Pw.stepE hw rfl hn fun a w ha hs => ⟨_, _, _, w, by simp [execOp, ha.eval hx, ha.eval hix, lookup_run ht hk hi hz (hm w hs)], hs, h⟩
end
end Go.Proofs.Wk
/- Rules: rows of structs of one's own: an element loaded, an element stored, at any place. -/
namespace Go.Proofs.Wk
open Go.RowKit
set_option linter.unusedVariables false
set_option linter.unusedSimpArgs false
section
variable {P : Program} {w0 : World} {M O : Nat → Prop} {n : Nat} {K : Slots} {L : List Blk} {G : List (World → Prop)} {Q : Exit → Act → World → Prop} {ops : Array Oper} {rest : List Oper} {w : World} {a : Act} {X : Act → World → Prop}
  {d : Nat} {ty : TypeId} {pos : String} {af : Array Edge} {gd : Option (Nat × Bool)} {N : Act → World → Prop} {S : World → Prop} {α : Type} {D : Nat → Prop} {fuel : Nat} {l : Array Bool}
end
end Go.Proofs.Wk
/- Rules: a drawn region that reads a block of one's own. -/
namespace Go.Proofs.Wk
open Go.RowKit
set_option linter.unusedVariables false
set_option linter.unusedSimpArgs false
class SufO (L : List Blk) (G G0 : List (World → Prop)) : Prop where
  h : ∀ w, (∀ b ∈ L, w.heap[b.g]? = some b.o) → All G w → All G0 w
instance (priority := low) {L : List Blk} {G G0 : List (World → Prop)} [i : Suf G G0] : SufO L G G0 := ⟨fun w _ h => i.h w h⟩
instance {L : List Blk} {G G0 : List (World → Prop)} {g : Nat} {cs : List Value} {t : TypeId} [i : OwnB L g cs t] [j : SufO L G G0] : SufO L G ((fun W => W.heap[g]? = some (.cells cs.toArray t (0, 0))) :: G0) := ⟨fun w hL h => allCons (hL _ i.h) (j.h w hL h)⟩
section
variable {P : Program} {w0 : World} {M O : Nat → Prop} {n : Nat} {K : Slots} {L : List Blk} {G : List (World → Prop)} {Q : Exit → Act → World → Prop}
/-- Ways that meet again, whatever comes behind. -/
theorem Pw.joinQ {σ : Type} (J : σ → Prop) (I : σ → Hd) {c : Code} (h1 : Pw w0 M O n K L G (c.wp P (Exit.then (Arr J I w0 M O n) (fun _ _ _ => False)))) (h2 : ∀ s, J s → Pw w0 M O n (I s).K (I s).L (I s).G (Q .normal)) : Pw w0 M O n K L G (c.wp P Q) := fun a w ha hs =>
  Code.wp_mono (fun e a w h => by
    cases e with
    | normal => obtain ⟨s, hJ, h3, h4⟩ := h; exact h2 s hJ a w h3 h4
    | _ => exact h.elim) (h1 a w ha hs)
end
instance npFalse : NPan (fun _ _ _ => False) := ⟨fun _ _ _ _ _ h => h⟩
end Go.Proofs.Wk
/- Contracts of functions that are handed blocks, turn them, and hand blocks back. -/
namespace Go.Proofs.Wk
open Go.RowKit
set_option linter.unusedVariables false
set_option linter.unusedSimpArgs false
def Gs (B : List Blk) (b : Nat) : Prop := ∃ y ∈ B, y.g = b
section
variable {P : Program} {w0 : World} {M O : Nat → Prop} {n : Nat} {K : Slots} {L : List Blk} {G : List (World → Prop)} {Q : Exit → Act → World → Prop} {ops : Array Oper} {w : World} {a : Act}
  {d : Nat} {ty : TypeId} {pos : String} {af : Array Edge} {gd : Option (Nat × Bool)} {N : Act → World → Prop} {α : Type} {D : Nat → Prop}
def CtPB (D : Nat → Prop) (w : World) (B : List Blk) (r : α → Value) (p : α → Prop) (bl : α → List Blk) (Ψ : α → World → Prop) (e : Ending) (w' : World) : Prop :=
  ∃ x, e = .returned (r x) ∧ p x ∧ Keep (Gs B) w w' ∧ (∀ b ∈ bl x, (w.heap.size ≤ b.g ∨ Gs B b.g) ∧ w'.heap[b.g]? = some b.o) ∧ (bl x).Pairwise (fun x y => x.g ≠ y.g) ∧ Cls (fun b => D b ∨ Gs (bl x) b) w' (Ψ x)
/-- B: the blocks handed in; bl: those handed back, turned or new. -/
def CtB (P : Program) (f : FuncId) (args : Array Value) (B : List Blk) (pre : World → Prop) (r : α → Value) (p : α → Prop) (bl : α → List Blk) (Ψ : α → World → Prop) : Prop :=
  ∀ D w, (∀ b, D b → b < w.heap.size) → (∀ b ∈ B, w.heap[b.g]? = some b.o) → B.Pairwise (fun x y => x.g ≠ y.g) → (∀ b ∈ B, ¬ D b.g) → Cls (fun b => D b ∨ Gs B b) w pre → Calls P f args w (CtPB D w B r p bl Ψ)
theorem St.gotB {B L0 : List Blk} (h : St w0 M O (B ++ L0) G w) {w' : World} (k : Keep (Gs B) w w') {C : List Blk} {φ : World → Prop} (hC : ∀ b ∈ C, (w.heap.size ≤ b.g ∨ Gs B b.g) ∧ w'.heap[b.g]? = some b.o) (hnd : C.Pairwise (fun x y => x.g ≠ y.g)) (hφ : Cls (fun b => Dt O L0 b ∨ Gs C b) w' φ) : St w0 M O (C ++ L0) (φ :: G) w' := by
  have hap := List.pairwise_append.1 h.nd
  have hL0 : ∀ y ∈ L0, ¬ Gs B y.g := fun y hy ⟨x, hx, e⟩ => hap.2.2 x hx y hy e
  have hBm : ∀ {x}, x ∈ B → x ∈ B ++ L0 := fun hx => List.mem_append_left _ hx
  have hLm : ∀ {x}, x ∈ L0 → x ∈ B ++ L0 := fun hx => List.mem_append_right _ hx
  have hBO : ∀ b, Gs B b → ¬ O b := fun b ⟨x, hx, e⟩ => e ▸ h.nob x (hBm hx)
  refine ⟨⟨k.os.trans h.keep.os, k.tape.trans h.keep.tape, k.output.trans h.keep.output, Nat.le_trans h.keep.size k.size, fun b hb hM => ?_, Nat.le_trans h.keep.drawn k.drawn⟩, ?_, ?_, ?_, ?_, h.ob, ?_⟩
  · rw [k.block b (Nat.lt_of_lt_of_le hb h.keep.size) ?_, h.keep.block b hb hM]
    rintro ⟨x, hx, rfl⟩
    rcases h.base x (hBm hx) with e | e
    · omega
    · exact hM e
  · intro b hb
    rcases List.mem_append.1 hb with hb | hb
    · exact (hC b hb).2
    · rw [k.block b.g (own_lt (h.own b (hLm hb))) (hL0 b hb)]; exact h.own b (hLm hb)
  · refine List.pairwise_append.2 ⟨hnd, hap.2.1, fun x hx y hy e => ?_⟩
    rcases (hC x hx).1 with h1 | ⟨z, hz, ez⟩
    · have h2 := own_lt (h.own y (hLm hy)); omega
    · exact hap.2.2 z hz y hy (ez.trans e)
  · intro b hb
    rcases List.mem_append.1 hb with hb | hb
    · rcases (hC b hb).1 with h1 | ⟨z, hz, ez⟩
      · exact .inl (Nat.le_trans h.keep.size h1)
      · rw [← ez]; exact h.base z (hBm hz)
    · exact h.base b (hLm hb)
  · intro b hb
    rcases List.mem_append.1 hb with hb | hb
    · rcases (hC b hb).1 with h1 | h1
      · intro e; have h2 := h.ob _ e; have h3 := h.keep.size; omega
      · exact hBO _ h1
    · exact h.nob b (hLm hb)
  · intro ψ hψ
    rcases List.mem_cons.1 hψ with rfl | hψ
    · refine hφ.mono fun b _ e => ?_
      rcases e with e | ⟨x, hx, rfl⟩
      · exact .inl (.inl e)
      · rcases List.mem_append.1 hx with hx | hx
        · exact .inr ⟨x, hx, rfl⟩
        · exact .inl (.inr ⟨x, hx, rfl⟩)
    · intro w'' k'
      refine h.cl ψ hψ w'' ⟨k'.os.trans k.os, k'.tape.trans k.tape, k'.output.trans k.output, Nat.le_trans k.size k'.size, fun b hb hn => ?_, Nat.le_trans k.drawn k'.drawn⟩
      rw [k'.block b (Nat.lt_of_lt_of_le hb k.size) ?_, k.block b hb ?_]
      · rintro ⟨x, hx, rfl⟩
        exact hn (.inr ⟨x, hBm hx, rfl⟩)
      · rintro (e | ⟨x, hx, rfl⟩)
        · exact hn (.inl e)
        · rcases List.mem_append.1 hx with hx | hx
          · rcases (hC x hx).1 with h1 | ⟨z, hz, ez⟩
            · omega
            · exact hn (.inr ⟨z, hBm hz, ez⟩)
          · exact hn (.inr ⟨x, hLm hx, rfl⟩)
theorem Pw.callB {x : Operand} {f : FuncId} {fst cap : Array Value} {«as» : Array Operand} {ts : Array TypeId} {vs vs' : List Value} {B L0 : List Blk} {pre : World → Prop} {r : α → Value} {p : α → Prop} {bl : α → List Blk} {Ψ : α → World → Prop}
    (hc : CtB P f vs'.toArray B pre r p bl Ψ) (hL : L = B ++ L0) (hx : ev K x = some (.func (.func f) fst cap)) (hargs : evs K «as».toList = some vs) (hvs : fst.toList ++ vs ++ cap.toList = vs') (hcal : callB P f = true) (hw : wantB K ops gd = some true) (hn : Nat.blt d n = true) (hpre : ∀ w, All G w → pre w)
    (h : ∀ x, p x → Pw w0 M O n ((d, r x) :: K) (bl x ++ L0) (Ψ x :: G) N) : Pw w0 M O n K L G (OpG P ops ⟨some d, .call ⟨.value x, «as», ts⟩, ty, pos, af, gd⟩ N Q) := fun a w ha hs => by
  subst hL
  unfold OpG
  rw [if_pos (wantB_spec (o := ⟨some d, .call ⟨.value x, «as», ts⟩, ty, pos, af, gd⟩) hw ha)]
  unfold Oper.wp
  rw [call_run hx hargs hvs hcal ha, Oper.upon_enter]
  have hap := List.pairwise_append.1 hs.nd
  refine (hc (Dt O L0) w (fun b hb => hs.dt b (hb.elim .inl fun ⟨x, hx, e⟩ => .inr ⟨x, List.mem_append_right _ hx, e⟩)) (fun b hb => hs.own b (List.mem_append_left _ hb)) hap.1 (fun b hb e => ?_) ((hs.pre hpre).mono fun b _ e => ?_)).mono ?_
  · rcases e with e | ⟨y, hy, e⟩
    · exact hs.nob b (List.mem_append_left _ hb) e
    · exact hap.2.2 b hb y hy e.symm
  · rcases e with (e | ⟨y, hy, e⟩) | ⟨y, hy, e⟩
    · exact .inl e
    · exact .inr ⟨y, List.mem_append_right _ hy, e⟩
    · exact .inr ⟨y, List.mem_append_left _ hy, e⟩
  · rintro e w' ⟨y, rfl, hp, hk, hB, hnd, hφ⟩
    exact h y hp _ _ (ha.put hn _) (hs.gotB hk hB hnd hφ)
theorem CtB.start {f : FuncId} {fn : Func} {c : Code} {args : Array Value} {B : List Blk} {pre : World → Prop} {r : α → Value} {p : α → Prop} {bl : α → List Blk} {Ψ : α → World → Prop} {n : Nat} {K : Slots} (hf : P.funcs[f]? = some fn) (hb : fn.body = some c) (hn : args.size + (fn.ntmps - args.size) = n)
    (hK : ∀ d v, lk K d = some v → (args ++ Array.replicate (fn.ntmps - args.size) undef).getD d undef = v)
    (h : ∀ D w0, Pw w0 (Gs B) D n K B [pre] (c.wp P (bodyPost P fn (CtPB D w0 B r p bl Ψ)))) : CtB P f args B pre r p bl Ψ := fun D w hD hB hnd hnD hp =>
  calls_of_wp hf hb (h D w _ w ⟨rfl, by simpa using hn, hK⟩ ⟨Keep.refl _ _, hB, hnd, fun b hb => .inr ⟨b, hb, rfl⟩, hnD, hD, fun φ hφ => by
    rw [List.mem_singleton.1 hφ]
    exact hp.mono fun b _ e => e⟩)
theorem Pw.retB {B : List Blk} {fn : Func} {r : α → Value} {p : α → Prop} {bl : α → List Blk} {Ψ : α → World → Prop} {vs : List Value} {x : α} (hsub : (bl x).Sublist L) (hv : Vs P K (St w0 (Gs B) D L G) fn.results.toList vs) (hx : retv vs = r x) (hp : p x) (hΨ : ∀ w, All G w → Ψ x w) :
    Pw w0 (Gs B) D n K L G (bodyPost P fn (CtPB D w0 B r p bl Ψ) .ret) := fun a w ha hs =>
  ⟨ha.defers, _, results_run ha hs hv, x, by rw [hx], hp, hs.keep, fun b hb => ⟨hs.base b (hsub.subset hb), hs.own b (hsub.subset hb)⟩, hs.nd.sublist hsub, (hs.pre hΨ).mono fun b _ e => e.elim .inl fun ⟨y, hy, e⟩ => .inr ⟨y, hsub.subset hy, e⟩⟩
end
end Go.Proofs.Wk
