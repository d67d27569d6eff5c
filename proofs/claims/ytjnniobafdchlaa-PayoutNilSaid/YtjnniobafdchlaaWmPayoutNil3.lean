/- Walks and their mathematics, merged. No conditions beyond those written. -/
import Derived.Test.YtjnniobafdchlaaWmPayoutNil2
/- Rewards: New walked. -/
namespace Go.Proofs.Wk
open Go.RowKit
set_option maxRecDepth 100000
set_option maxHeartbeats 8000000
attribute [local irreducible] Pw OpG
set_option linter.unusedVariables false
set_option linter.unusedSimpArgs false
structure Ent where
  x : Ex
  pg : List Pg
  zp : Option Addr × Nat
  bu : List Int
  zb : Option Addr × Nat
  go : Nat
  gm : Nat
  gb : Nat
abbrev entV (e : Ent) : List Value := [.int .u64 e.x.com, .slice e.zp.1 e.pg.length e.zp.2, sl e.bu e.zb, .pointer (some ⟨e.gm, 0, none⟩)]
def entF (e : Ent) (W : World) : Prop := W.heap[e.go]? = some (row (entV e) 57) ∧ PGS e.pg e.zp W ∧ U1 e.bu e.zb W ∧ mkF e.gm e.gb e.pg.length W
abbrev rwL (st : List (Ent × List Int)) : List Blk := st.map (fun s => mkB s.1.gb s.2)
abbrev mP (ps : List (Nat × Ex)) : List (Int × Value) := ps.map (fun p => (p.2.id, .pointer (some ⟨p.1, 0, none⟩)))
abbrev eP (es : List Ent) : List (Nat × Ex) := es.map (fun e => (e.go, e.x))
def AllEnt (st : List (Ent × List Int)) (W : World) : Prop := ∀ s ∈ st, entF s.1 W
abbrev rwF (gr ga : Nat) (left : Int) (st : List (Ent × List Int)) (W : World) : Prop := W.heap[gr]? = some (row [.map (some ga), .int .u64 left] 52) ∧ W.heap[ga]? = some (mapO (mP (eP (st.map Prod.fst)))) ∧ AllEnt st W
/-! ### The plain answer -/
def bud1 (k : Nat) (share : Int) (x : Ex) : List Int × Int := spF share ((pagesS x k).map (fun p => (sumM (stk p)).1))
def shL (a : Int) (xs : List Ex) (ps : List Int) : List Int := (spF a (cntL xs ps)).1
def lefts (k : Nat) (a : Int) (xs : List Ex) (ps : List Int) : List Int := (xs.zip (shL a xs ps)).map (fun q => (bud1 k q.2 q.1).2)
def leftTo (k : Nat) (a : Int) (xs : List Ex) (ps : List Int) (i : Nat) : Int := (spF a (cntL xs ps)).2 + lsum ((lefts k a xs ps).take i)
def okX (xs : List Ex) : Bool := xs.all formX && decide ((xs.map Ex.id).Nodup)
def newErr (xs : List Ex) (ps : List Int) (size : Int) : Int := if size < 1 ∨ size > 32 ∨ ps.length ≠ xs.length ∨ okX xs = false then 1 else if totOk xs = true then (sumM ps).2 else 3
structure Rw where
  gr : Nat
  ga : Nat
  st : List (Ent × List Int)
/-- An entry, «as» it is begun. -/
structure EntB (k : Nat) (x : Ex) (share : Int) (s : Ent × List Int) : Prop where
  ex : s.1.x = x
  pg : s.1.pg.map Prod.fst = pagesS x k
  bu : s.1.bu = (bud1 k share x).1
  b : s.2 = List.replicate ((s.1.pg.length + 7) / 8) 0
def NewOk (k : Nat) (a : Int) (xs : List Ex) (ps : List Int) (i : Nat) (st : List (Ent × List Int)) : Prop := st.length = i ∧ ∀ (j : Nat) (s : Ent × List Int), st[j]? = some s → ∃ x sh, xs[j]? = some x ∧ (shL a xs ps)[j]? = some sh ∧ EntB k x sh s
theorem spF_sum {a : Int} {l : List Int} (ha : U64 a) (hl : ∀ x ∈ l, U64 x) : lsum (spF a l).1 + (spF a l).2 = a ∧ (∀ x ∈ (spF a l).1, U64 x ∧ x ≤ a) ∧ 0 ≤ (spF a l).2 ∧ (spF a l).2 ≤ a := by
  have h0 : ∀ s ∈ l, 0 ≤ s := fun s hs => (hl s hs).1
  unfold spF
  split
  next h =>
    have h1 := spl_le ha.1 h0 h.1 (spL a l).length
    rw [List.take_length] at h1
    refine ⟨by show lsum (spL a l) + (a - lsum (spL a l)) = a; omega, fun x hx => ?_, by show 0 ≤ a - lsum (spL a l); omega, by show a - lsum (spL a l) ≤ a; omega⟩
    unfold spL at hx
    obtain ⟨s, hs, rfl⟩ := List.mem_map.1 hx
    have h2 := spl_at ha.1 h0 h.1 hs
    have := ha.2
    exact ⟨⟨h2.2.1, by omega⟩, h2.2.2⟩
  next h =>
    have hz : ∀ l : List Int, lsum (l.map (fun _ => (0 : Int))) = 0 := by
      intro l; induction l with
      | nil => rfl
      | cons _ _ ih => simp only [List.map_cons, lsum, ih]; rfl
    refine ⟨by rw [hz]; omega, fun x hx => ?_, ha.1, Int.le_refl _⟩
    obtain ⟨_, _, rfl⟩ := List.mem_map.1 hx
    have := ha.1
    exact ⟨⟨by omega, by omega⟩, by omega⟩
theorem stk_u {x : Ex} (hx : ExW x) {k : Nat} : ∀ p ∈ pagesS x k, ∀ n ∈ stk p, U64 n := by
  intro p hp n hn
  obtain ⟨q, hq, rfl⟩ := List.mem_map.1 hn
  have hs : ∀ q ∈ srt x.oth, U64 q.2 := fun q hq => hx.oth q ((List.mergeSort_perm _ _).mem_iff.1 hq)
  unfold pagesS at hp
  rcases List.mem_cons.1 hp with rfl | hp
  · rcases List.mem_cons.1 hq with rfl | hq
    · exact hx.own
    · exact hs q (List.mem_of_mem_take hq)
  · unfold chunks at hp
    obtain ⟨i, _, rfl⟩ := List.mem_map.1 hp
    exact hs q (List.mem_of_mem_drop (List.mem_of_mem_drop (List.mem_of_mem_take hq)))
theorem sumM_u (l : List Int) (h : ∀ n ∈ l, U64 n) : U64 (sumM l).1 := by
  unfold sumM
  split
  · exact ⟨lsum_nonneg h, by assumption⟩
  · exact ⟨by decide, by decide⟩
theorem lefts_ok {k : Nat} {a : Int} {xs : List Ex} {ps : List Int} (ha : U64 a) (hX : XW xs) (hp : ∀ p ∈ ps, U64 p) (hl : ps.length = xs.length) (i : Nat) : 0 ≤ leftTo k a xs ps i ∧ leftTo k a xs ps i ≤ a ∧ (∀ x ∈ lefts k a xs ps, U64 x) := by
  obtain ⟨s1, s2, s3, s4⟩ := spF_sum ha (cntL_u (xs := xs) hp)
  have hsl : (shL a xs ps).length = xs.length := by unfold shL; rw [spF_len, cntL_len hl]
  have key : ∀ (xs : List Ex) (sh : List Int), (∀ x ∈ xs, ExW x) → (∀ s ∈ sh, U64 s ∧ s ≤ a) → (∀ y ∈ (xs.zip sh).map (fun q : Ex × Int => (bud1 k q.2 q.1).2), U64 y) ∧ (xs.length ≤ sh.length → ∀ j, 0 ≤ lsum (((xs.zip sh).map (fun q => (bud1 k q.2 q.1).2)).take j) ∧ lsum (((xs.zip sh).map (fun q => (bud1 k q.2 q.1).2)).take j) ≤ lsum sh) := by
    intro xs
    induction xs with
    | nil =>
      intro sh _ hs
      refine ⟨fun y hy => (by simp at hy), fun _ j => ?_⟩
      have := lsum_nonneg (fun n hn => (hs n hn).1)
      simp only [List.zip_nil_left, List.map_nil, List.take_nil, lsum]
      omega
    | cons x xs ih =>
      intro sh hx hs
      cases sh with
      | nil => exact ⟨fun y hy => (by simp at hy), fun h => (by simp at h)⟩
      | cons s sh =>
        obtain ⟨i1, i2⟩ := ih sh (fun y hy => hx y (List.mem_cons_of_mem _ hy)) (fun y hy => hs y (List.mem_cons_of_mem _ hy))
        obtain ⟨hs1, hs2⟩ := hs s (List.mem_cons_self ..)
        have hb := spF_sum hs1 (l := (pagesS x k).map (fun p => (sumM (stk p)).1)) (fun y hy => by
          obtain ⟨p, hp, rfl⟩ := List.mem_map.1 hy
          exact sumM_u _ (stk_u (hx x (List.mem_cons_self ..)) p hp))
        have hb1 : 0 ≤ (bud1 k s x).2 ∧ (bud1 k s x).2 ≤ s := hb.2.2
        refine ⟨fun y hy => ?_, fun hle j => ?_⟩
        · rw [List.zip_cons_cons, List.map_cons] at hy
          rcases List.mem_cons.1 hy with rfl | hy
          · have := hs1.2; exact ⟨hb1.1, by show (bud1 k s x).2 ≤ _; omega⟩
          · exact i1 y hy
        · rw [List.zip_cons_cons, List.map_cons]
          cases j with
          | zero =>
            have := lsum_nonneg (fun n hn => (hs n hn).1)
            simp only [List.take_zero, lsum] at this ⊢; omega
          | succ j =>
            have := i2 (by simp at hle; omega) j
            rw [List.take_succ_cons]
            simp only [lsum]
            show 0 ≤ (bud1 k s x).2 + _ ∧ (bud1 k s x).2 + _ ≤ _
            omega
  obtain ⟨k1, k2⟩ := key xs (shL a xs ps) hX.w s2
  have k3 := k2 (by omega) i
  refine ⟨?_, ?_, k1⟩
  · have : 0 ≤ lsum ((lefts k a xs ps).take i) := k3.1
    unfold leftTo; omega
  · have h5 : lsum ((lefts k a xs ps).take i) ≤ lsum (shL a xs ps) := k3.2
    have h6 : lsum (shL a xs ps) + (spF a (cntL xs ps)).2 = a := s1
    unfold leftTo; omega
theorem left_snoc {k : Nat} {a : Int} {xs : List Ex} {ps : List Int} {i : Nat} {x : Ex} {sh : Int} (hx : xs[i]? = some x) (hs : (shL a xs ps)[i]? = some sh) : leftTo k a xs ps (i + 1) = leftTo k a xs ps i + (bud1 k sh x).2 := by
  unfold leftTo
  have : (lefts k a xs ps)[i]? = some (bud1 k sh x).2 := by
    unfold lefts
    rw [List.getElem?_map, (List.getElem?_zip_eq_some (z := (x, sh))).2 ⟨hx, hs⟩]; rfl
  rw [take_snoc this, lsum_snoc]; omega
/-! ### Blocks -/
abbrev blkP (p : Nat × Ex) : Blk := ⟨p.1, row [.int .u64 p.2.com, .slice none 0 0, .slice none 0 0, .pointer none] 57⟩
theorem permP {a b c : Blk} {X : List Blk} : (a :: b :: c :: X).Perm (b :: c :: (X ++ [a])) := by
  have h := (List.perm_append_comm (l₁ := b :: c :: X) (l₂ := [a])).symm
  simpa using h
theorem mval_P {ps : List (Nat × Ex)} {k : Int} : (k ∉ ps.map (fun p => p.2.id) → mval k (mP ps) (.pointer none) = .pointer none) ∧ (∀ (hn : (ps.map (fun p => p.2.id)).Nodup) (i : Nat) (p : Nat × Ex), ps[i]? = some p → p.2.id = k → mval k (mP ps) (.pointer none) = .pointer (some ⟨p.1, 0, none⟩)) := by
  have key : ∀ (ps : List (Nat × Ex)) (j : Nat), (k ∉ ps.map (fun p => p.2.id) → lkp k (mP ps) j = none) ∧ (∀ (hn : (ps.map (fun p => p.2.id)).Nodup) (i : Nat) (p : Nat × Ex), ps[i]? = some p → p.2.id = k → lkp k (mP ps) j = some (j + i, .pointer (some ⟨p.1, 0, none⟩))) := by
    intro ps
    induction ps with
    | nil => exact fun j => ⟨fun _ => rfl, fun _ i p h => by cases h⟩
    | cons q ps ih =>
      intro j
      obtain ⟨h1, h2⟩ := ih (j + 1)
      constructor
      · intro h
        show (if k = q.2.id then _ else lkp k (mP ps) (j + 1)) = none
        rw [if_neg (fun e => h (by rw [e]; exact List.mem_cons_self ..)), h1 (fun hm => h (List.mem_cons_of_mem _ hm))]
      · intro hn i p hp he
        show (if k = q.2.id then some (j, _) else lkp k (mP ps) (j + 1)) = _
        obtain ⟨n1, n2⟩ := List.nodup_cons.1 hn
        cases i with
        | zero =>
          have : q = p := Option.some.inj hp
          subst this
          rw [if_pos he.symm]; rfl
        | succ i =>
          have hp : ps[i]? = some p := hp
          rw [if_neg, h2 n2 i p hp he]
          · show some (j + 1 + i, _) = some (j + (i + 1), _); rw [Nat.add_right_comm, Nat.add_assoc]
          · intro e
            exact n1 (by show q.2.id ∈ _; rw [← e, ← he]; exact List.mem_map_of_mem (f := fun p : Nat × Ex => p.2.id) (List.mem_of_getElem? hp))
  obtain ⟨h1, h2⟩ := key ps 0
  exact ⟨fun h => by unfold mval; rw [h1 h], fun hn i p hp he => by unfold mval; rw [h2 hn i p hp he]⟩
theorem okX_no {xs : List Ex} {i : Nat} {x : Ex} (hx : xs[i]? = some x) (h : formX x = false ∨ x.id ∈ (xs.take i).map Ex.id) : okX xs = false := by
  have hm := List.mem_of_getElem? hx
  unfold okX
  rcases h with h | h
  · have : xs.all formX = false := List.all_eq_false.2 ⟨x, hm, by rw [h]; decide⟩
    rw [this]; rfl
  · have : ¬ (xs.map Ex.id).Nodup := fun hn => by
      obtain ⟨u, hu, e⟩ := List.mem_map.1 h
      obtain ⟨j, hj⟩ := List.getElem?_of_mem hu
      have hji : j < i := by
        have := (List.getElem?_eq_some_iff.1 hj).1
        rw [List.length_take] at this; omega
      rw [List.getElem?_take, if_pos hji] at hj
      have h1 : (xs.map Ex.id)[j]? = some u.id := by rw [List.getElem?_map, hj]; rfl
      have h2 : (xs.map Ex.id)[i]? = some x.id := by rw [List.getElem?_map, hx]; rfl
      obtain ⟨b1, b2⟩ := List.getElem?_eq_some_iff.1 h1
      obtain ⟨b3, b4⟩ := List.getElem?_eq_some_iff.1 h2
      have := List.pairwise_iff_getElem.1 hn j i b1 b3 hji
      rw [b2, b4] at this
      exact this e
    rw [decide_eq_false this]; simp
end Go.Proofs.Wk
/- The law PagesSum walked. -/
namespace Go.Proofs.Wk
open Go.RowKit
set_option maxRecDepth 100000
set_option maxHeartbeats 2000000
attribute [local irreducible] Pw OpG
set_option linter.unusedVariables false
set_option linter.unusedSimpArgs false
section
variable {P : Program} {w0 : World} {M O : Nat → Prop} {n : Nat} {K : Slots} {L : List Blk} {G : List (World → Prop)} {Q : Exit → Act → World → Prop} {ops : Array Oper} {rest : List Oper} {w : World} {a : Act} {X : Act → World → Prop}
  {d : Nat} {ty : TypeId} {pos : String} {af : Array Edge} {gd : Option (Nat × Bool)} {N : Act → World → Prop} {S : World → Prop} {α : Type} {D : Nat → Prop} {fuel : Nat} {l : Array Bool}
/-- An element of one cell. -/
theorem Pw.loadC {x : Operand} {ad : Addr} {u : TypeId} {sz sz' : Nat} {i : Int} {enc : α → List Value} {held : α → World → Prop} {l : List α} {c : Nat} (y : α) {v : Value} (hx : ev K x = some (.pointer (some (ad.add (i.toNat * sz))))) (hr : RowsAt G (some ad) α enc held sz' l c) (hsz : sz = sz') (hi : l[i.toNat]? = some y) (hv : (enc y)[0]? = some v) (hu : plainB P u = true)
    (hw : wantB K ops gd = some true) (hn : Nat.blt d n = true) (h : Pw w0 M O n ((d, v) :: K) L (held y :: G) N) : Pw w0 M O n K L G (OpG P ops ⟨some d, .load u x, ty, pos, af, gd⟩ N Q) := by
  subst hsz
  exact Pw.more (fun w k => ((hr.h w k).at hi).2.1) (Pw.load1 hx hu (fun w hs => ((hr.h w (allTail hs.all)).at hi).2.2 0 v hv) hw hn h)
end
end Go.Proofs.Wk
/- Rewards: New walked. -/
namespace Go.Proofs.Wk
open Go.RowKit
set_option maxRecDepth 100000
set_option maxHeartbeats 8000000
attribute [local irreducible] Pw OpG
set_option linter.unusedVariables false
set_option linter.unusedSimpArgs false
theorem okX_snoc {xs : List Ex} {i : Nat} {x : Ex} (hx : xs[i]? = some x) (h : okX (xs.take i) = true) (hf : formX x = true) (hd : x.id ∉ (xs.take i).map Ex.id) : okX (xs.take (i + 1)) = true := by
  unfold okX at h ⊢
  rw [Bool.and_eq_true, decide_eq_true_eq] at h ⊢
  rw [take_snoc hx, List.all_append, List.map_append, List.nodup_append]
  refine ⟨by rw [h.1]; simp [hf], h.2, by simp, fun a ha b hb => ?_⟩
  rw [List.mem_singleton.1 hb]
  exact fun e => hd (by rw [← e]; exact ha)
theorem permG {g a : Blk} {X : List Blk} : (g :: a :: X).Perm (a :: g :: X) := .swap ..
theorem permD {m g o : Blk} {X Y : List Blk} : (m :: g :: o :: (X ++ Y)).Perm (o :: g :: (X ++ (Y ++ [m]))) := by
  have h1 : (m :: g :: o :: (X ++ Y)).Perm (g :: o :: (X ++ Y) ++ [m]) := by
    have := List.perm_append_comm (l₁ := [m]) (l₂ := g :: o :: (X ++ Y)); simpa using this
  have h2 : (g :: o :: (X ++ Y) ++ [m]).Perm (o :: g :: (X ++ (Y ++ [m]))) := by
    have := List.Perm.swap o g (X ++ (Y ++ [m])); simpa [List.append_assoc] using this
  exact h1.trans h2
abbrev tots (x : Ex) (k : Nat) : List Int := (pagesS x k).map (fun p => (sumM (stk p)).1)
theorem poNew_ct (a : Int) (xs : List Ex) (xz : Option Addr × Nat) (ps : List Int) (y : Option Addr × Nat) (size : Int) (ha : U64 a) (hX : XW xs) (hp : ∀ p ∈ ps, U64 p) (hs : size ≤ 9223372036854775807) :
    CtB Try.prog 8 #[.int .u64 a, xsV xs xz, sl ps y, .int .i64 size] [] (fun W => XS xs xz W ∧ U1 ps y W)
      (fun R : Option Rw => match R with | none => .tuple #[.pointer none, .int .i64 (newErr xs ps size)] | some R => .tuple #[.pointer (some ⟨R.gr, 0, none⟩), .int .i64 0])
      (fun R => match R with | none => newErr xs ps size ≠ 0 | some R => newErr xs ps size = 0 ∧ NewOk size.toNat a xs ps xs.length R.st)
      (fun R => match R with | none => [] | some R => rwL R.st)
      (fun R W => match R with | none => True | some R => rwF R.gr R.ga (leftTo size.toNat a xs ps xs.length) R.st W) := by
  obtain ⟨A, c⟩ := xz
  have hn := hX.n
  refine CtB.start Try.func8 rfl rfl (slots_of rfl slots4) (fun D w0 => Pw.facts (G' := [XS xs (A, c), U1 ps y]) (fun w h => allCons (fact0 h).1 (allCons (fact0 h).2 allNil)) ?_)
  repeat (first | refine Pw.runs ?_ | refine Pw.list (Pw.box rfl rfl rfl rfl (fun _ => ?_)) | refine Pw.list (Pw.alloc rfl rfl rfl rfl rfl (fun _ => ?_)))
  refine Pw.split 26 rfl (fun c1 => ?_) (fun c1 => ?_)
  · have e : newErr xs ps size = 1 := if_pos (.inl c1)
    repeat (first | refine Pw.runs ?_ | refine Pw.list (Pw.box rfl rfl rfl rfl (fun _ => ?_)) | refine Pw.list (Pw.alloc rfl rfl rfl rfl rfl (fun _ => ?_)))
    exact Pw.retB (x := none) (List.nil_sublist _) (.tmp rfl (.tmp rfl .nil)) (by rw [e]; rfl) (by show newErr xs ps size ≠ 0; rw [e]; decide) (fun w h => trivial)
  repeat (first | refine Pw.runs ?_ | refine Pw.list (Pw.box rfl rfl rfl rfl (fun _ => ?_)) | refine Pw.list (Pw.alloc rfl rfl rfl rfl rfl (fun _ => ?_)))
  refine Pw.split 30 rfl (fun c2 => ?_) (fun c2 => ?_)
  · have e : newErr xs ps size = 1 := if_pos (.inr (.inl c2))
    repeat (first | refine Pw.runs ?_ | refine Pw.list (Pw.box rfl rfl rfl rfl (fun _ => ?_)) | refine Pw.list (Pw.alloc rfl rfl rfl rfl rfl (fun _ => ?_)))
    exact Pw.retB (x := none) (List.nil_sublist _) (.tmp rfl (.tmp rfl .nil)) (by rw [e]; rfl) (by show newErr xs ps size ≠ 0; rw [e]; decide) (fun w h => trivial)
  repeat (first | refine Pw.runs ?_ | refine Pw.list (Pw.box rfl rfl rfl rfl (fun _ => ?_)) | refine Pw.list (Pw.alloc rfl rfl rfl rfl rfl (fun _ => ?_)))
  refine Pw.condD rfl (fun c3 => ?_) (fun c3 => ?_)
  · have e : newErr xs ps size = 1 := if_pos (.inr (.inr (.inl (by omega))))
    repeat (first | refine Pw.runs ?_ | refine Pw.list (Pw.box rfl rfl rfl rfl (fun _ => ?_)) | refine Pw.list (Pw.alloc rfl rfl rfl rfl rfl (fun _ => ?_)))
    exact Pw.retB (x := none) (List.nil_sublist _) (.tmp rfl (.tmp rfl .nil)) (by rw [e]; rfl) (by show newErr xs ps size ≠ 0; rw [e]; decide) (fun w h => trivial)
  have hpl : ps.length = xs.length := by omega
  have hk0 : 0 < size.toNat := by omega
  repeat (first | refine Pw.runs ?_ | refine Pw.list (Pw.box rfl rfl rfl rfl (fun _ => ?_)) | refine Pw.list (Pw.alloc rfl rfl rfl rfl rfl (fun _ => ?_)))
  refine Pw.list (Pw.makeMap rfl rfl (fun ga => ?_))
  repeat (first | refine Pw.runs ?_ | refine Pw.list (Pw.box rfl rfl rfl rfl (fun _ => ?_)) | refine Pw.list (Pw.alloc rfl rfl rfl rfl rfl (fun _ => ?_)))
  rename_i gr
  refine Pw.loopJ (σ := Nat × List (Nat × Ex)) (fun t => t.1 ≤ xs.length ∧ t.2.map Prod.snd = xs.take t.1 ∧ okX (xs.take t.1) = true) (fun t => ⟨[(0, .int .u64 a), (1, xsV xs (A, c)), (2, sl ps y), (3, .int .i64 size), (10, .pointer (some ⟨gr, 0, none⟩)), (40, .slice A xs.length c), (41, .int .i64 xs.length), (42, .int .i64 t.1)], ⟨gr, row [.map (some ga), .int .u64 0] 52⟩ :: ⟨ga, mapO (mP t.2)⟩ :: t.2.map blkP, [XS xs (A, c), U1 ps y]⟩) (fun t => xs.length - t.1) (0, []) ⟨Nat.zero_le _, rfl, rfl⟩ (Pw.enter ⟨rfl, rfl, rfl, rfl, rfl, rfl, rfl, rfl, trivial⟩ (fun w h => h)) ?_
  rintro ⟨i, qs⟩ ⟨hi, hqs, hok⟩
  dsimp only at hi hqs hok ⊢
  have hid : qs.map (fun p => p.2.id) = (xs.take i).map Ex.id := by rw [← hqs, List.map_map]; rfl
  have hnd : (qs.map (fun p => p.2.id)).Nodup := by
    rw [hid]
    unfold okX at hok
    rw [Bool.and_eq_true, decide_eq_true_eq] at hok
    exact hok.2
  repeat (first | refine Pw.runs ?_ | refine Pw.list (Pw.box rfl rfl rfl rfl (fun _ => ?_)) | refine Pw.list (Pw.alloc rfl rfl rfl rfl rfl (fun _ => ?_)))
  refine Pw.condD rfl (fun c4 => ?_) (fun c4 => ?_)
  · have hi0 : (0 : Int) ≤ (i : Int) := Int.natCast_nonneg i
    obtain ⟨x, hx, hxm⟩ := get_at (show i < xs.length by omega)
    repeat (first | refine Pw.runs ?_ | refine Pw.list (Pw.box rfl rfl rfl rfl (fun _ => ?_)) | refine Pw.list (Pw.alloc rfl rfl rfl rfl rfl (fun _ => ?_)))
    refine Pw.list (Pw.index rfl rfl rfl rfl hi0 c4 (fun w h => (fact0 h).has hi0 c4) rfl rfl ?_)
    rintro ad rfl
    refine Pw.list (Pw.loadR x rfl inferInstance rfl (by rw [Int.toNat_natCast]; exact hx) (by kernel_rfl) rfl rfl ?_)
    refine Pw.re (d := 45) (v' := exV x) rfl rfl ?_
    refine Pw.list (Pw.alloc rfl rfl rfl rfl rfl (fun g12 => ?_))
    repeat (first | refine Pw.runs ?_ | refine Pw.list (Pw.box rfl rfl rfl rfl (fun _ => ?_)) | refine Pw.list (Pw.alloc rfl rfl rfl rfl rfl (fun _ => ?_)))
    refine freeHead ?_
    by_cases hd : x.id ∈ (xs.take i).map Ex.id
    · have e : newErr xs ps size = 1 := if_pos (.inr (.inr (.inr (okX_no hx (.inr hd)))))
      rw [← hid] at hd
      obtain ⟨p, hpm, hpe⟩ := List.mem_map.1 hd
      obtain ⟨j, hj⟩ := List.getElem?_of_mem hpm
      refine Pw.drawnH (g := gr) inferInstance mixed rfl rfl ?_
      refine Pw.takeP 0 (nb 13 1) rfl rfl rfl rfl (by kernel_rfl) np so ?_
      refine Pw.takeP 1 (nb 13 3) rfl rfl rfl rfl (by kernel_rfl) np so ?_
      refine Pw.takeP 2 (nb 13 7) rfl rfl rfl rfl (by kernel_rfl) np so ?_
      refine Pw.takeF 3 (nb 13 15) rfl rfl inferInstance rfl rfl rfl (by kernel_rfl) np so ?_
      refine Pw.takeP 4 (nb 13 31) rfl rfl rfl rfl (by kernel_rfl) np so ?_
      refine Pw.takeF 5 (nb 13 63) rfl rfl inferInstance rfl rfl rfl (by kernel_rfl) np so ?_
      refine Pw.one 6 (nb 13 127) rfl (by kernel_rfl) ?_
      refine Pw.lookupF (m := mP qs) rfl rfl rfl rfl rfl rfl (fun w hs => hs.own ⟨ga, mapO (mP qs)⟩ (.tail _ (.head _))) rfl rfl ?_
      refine Pw.re (d := 52) (v' := .pointer (some ⟨p.1, 0, none⟩)) rfl (mval_P.2 hnd j p hj hpe) ?_
      refine Pw.held so ?_
      refine Pw.takeP 7 (nb 13 255) rfl rfl rfl rfl (by kernel_rfl) np so ?_
      refine Pw.takeP 8 (nb 13 511) rfl rfl rfl rfl (by kernel_rfl) np so ?_
      refine Pw.re (d := 54) (v' := .bool true) rfl rfl ?_
      refine Pw.takeO 9 (nb 13 1023) rfl rfl rfl (by kernel_rfl) np so ?_
      refine Pw.takeO 10 (nb 13 2047) rfl rfl rfl (by kernel_rfl) np so ?_
      refine Pw.takeO 11 (nb 13 4095) rfl rfl rfl (by kernel_rfl) np so ?_
      refine Pw.takeP 12 (nb 13 8191) rfl rfl rfl rfl (by kernel_rfl) np so ?_
      refine Pw.done (by kernel_rfl) ?_
      skip
      repeat (first | refine Pw.runs ?_ | refine Pw.list (Pw.box rfl rfl rfl rfl (fun _ => ?_)) | refine Pw.list (Pw.alloc rfl rfl rfl rfl rfl (fun _ => ?_)))
      exact Pw.retB (x := none) (List.nil_sublist _) (.tmp rfl (.tmp rfl .nil)) (by rw [e]; rfl) (by show newErr xs ps size ≠ 0; rw [e]; decide) (fun w h => trivial)
    have hd2 : x.id ∉ qs.map (fun p => p.2.id) := by rw [hid]; exact hd
    refine Pw.drawnH (g := gr) inferInstance mixed rfl rfl ?_
    refine Pw.takeP 0 (nb 13 1) rfl rfl rfl rfl (by kernel_rfl) np so ?_
    refine Pw.takeP 1 (nb 13 3) rfl rfl rfl rfl (by kernel_rfl) np so ?_
    refine Pw.takeP 2 (nb 13 7) rfl rfl rfl rfl (by kernel_rfl) np so ?_
    refine Pw.takeF 3 (nb 13 15) rfl rfl inferInstance rfl rfl rfl (by kernel_rfl) np so ?_
    refine Pw.takeP 4 (nb 13 31) rfl rfl rfl rfl (by kernel_rfl) np so ?_
    refine Pw.takeF 5 (nb 13 63) rfl rfl inferInstance rfl rfl rfl (by kernel_rfl) np so ?_
    refine Pw.one 6 (nb 13 127) rfl (by kernel_rfl) ?_
    refine Pw.lookupF (m := mP qs) rfl rfl rfl rfl rfl rfl (fun w hs => hs.own ⟨ga, mapO (mP qs)⟩ (.tail _ (.head _))) rfl rfl ?_
    refine Pw.re (d := 52) (v' := .pointer none) rfl (mval_P.1 hd2) ?_
    refine Pw.held so ?_
    refine Pw.takeP 7 (nb 13 255) rfl rfl rfl rfl (by kernel_rfl) np so ?_
    refine Pw.takeP 8 (nb 13 511) rfl rfl rfl rfl (by kernel_rfl) np so ?_
    refine Pw.re (d := 54) (v' := .bool false) rfl rfl ?_
    refine Pw.takeF 9 (nb 13 1023) rfl rfl inferInstance rfl rfl rfl (by kernel_rfl) np so ?_
    refine Pw.one 10 (nb 13 2047) rfl (by kernel_rfl) ?_
    refine Pw.re (d := 55) (v' := exV x) rfl rfl ?_
    refine Pw.call (pFormed_ct x) rfl rfl rfl (by kernel_rfl) rfl rfl (fun w h => (hv w h : heldX x w)) ?_
    intro _ _
    refine Pw.held so ?_
    refine Pw.takeP 11 (nb 13 4095) rfl rfl rfl rfl (by kernel_rfl) np so ?_
    refine Pw.takeP 12 (nb 13 8191) rfl rfl rfl rfl (by kernel_rfl) np so ?_
    refine Pw.done (by kernel_rfl) ?_
    skip
    repeat (first | refine Pw.runs ?_ | refine Pw.list (Pw.box rfl rfl rfl rfl (fun _ => ?_)) | refine Pw.list (Pw.alloc rfl rfl rfl rfl rfl (fun _ => ?_)))
    cases hf : formX x
    · have e : newErr xs ps size = 1 := if_pos (.inr (.inr (.inr (okX_no hx (.inl hf)))))
      repeat (first | refine Pw.runs ?_ | refine Pw.list (Pw.box rfl rfl rfl rfl (fun _ => ?_)) | refine Pw.list (Pw.alloc rfl rfl rfl rfl rfl (fun _ => ?_)))
      exact Pw.retB (x := none) (List.nil_sublist _) (.tmp rfl (.tmp rfl .nil)) (by rw [e]; rfl) (by show newErr xs ps size ≠ 0; rw [e]; decide) (fun w h => trivial)
    repeat (first | refine Pw.runs ?_ | refine Pw.list (Pw.box rfl rfl rfl rfl (fun _ => ?_)) | refine Pw.list (Pw.alloc rfl rfl rfl rfl rfl (fun _ => ?_)))
    refine Pw.drawnH (g := gr) inferInstance mixed rfl rfl ?_
    refine Pw.takeP 0 (nb 11 1) rfl rfl rfl rfl (by kernel_rfl) np so ?_
    refine Pw.takeP 1 (nb 11 3) rfl rfl rfl rfl (by kernel_rfl) np so ?_
    refine Pw.takeP 2 (nb 11 7) rfl rfl rfl rfl (by kernel_rfl) np so ?_
    refine Pw.takeF 3 (nb 11 15) rfl rfl inferInstance rfl rfl rfl (by kernel_rfl) np so ?_
    refine Pw.takeP 4 (nb 11 31) rfl rfl rfl rfl (by kernel_rfl) np so ?_
    refine Pw.takeF 5 (nb 11 63) rfl rfl inferInstance rfl rfl rfl (by kernel_rfl) np so ?_
    refine Pw.takeP 6 (nb 11 127) rfl rfl rfl rfl (by kernel_rfl) np so ?_
    refine Pw.takeF 7 (nb 11 255) rfl rfl inferInstance rfl rfl rfl (by kernel_rfl) np so ?_
    refine Pw.takeBuild 8 (nb 11 511) rfl rfl rfl rfl rfl (by kernel_rfl) np so ?_
    refine Pw.one 9 (nb 11 1023) rfl (by kernel_rfl) ?_
    refine Pw.box rfl rfl rfl rfl (fun go => ?_)
    refine Pw.held so ?_
    refine Pw.one 10 (nb 11 2047) rfl (by kernel_rfl) ?_
    refine Pw.mapNew (m := mP qs) (k := x.id) rfl rfl rfl rfl rfl (fun p hp => by
      obtain ⟨q, hq, rfl⟩ := List.mem_map.1 hp
      exact fun e => hd2 (by rw [← e]; exact List.mem_map_of_mem (f := fun p : Nat × Ex => p.2.id) hq)) (.tail (.tail .head)) rfl ?_
    refine Pw.held so ?_
    refine Pw.done (by kernel_rfl) ?_
    skip
    refine Pw.perm permP ?_
    repeat (first | refine Pw.runs ?_ | refine Pw.list (Pw.box rfl rfl rfl rfl (fun _ => ?_)) | refine Pw.list (Pw.alloc rfl rfl rfl rfl rfl (fun _ => ?_)))
    refine Pw.re (d := 42) (v' := .int .i64 ((i + 1 : Nat) : Int)) rfl (congrArg (Value.int .i64) (i64s (n := 100000) (by omega) (by omega))) ?_
    exact Pw.again (i + 1, qs ++ [(go, x)]) ⟨by show i + 1 ≤ xs.length; omega, by rw [List.map_append, hqs, take_snoc hx]; rfl, okX_snoc hx hok hf hd⟩ (by show xs.length - (i + 1) < xs.length - i; omega) ⟨rfl, rfl, rfl, rfl, rfl, rfl, rfl, rfl, trivial⟩ (by show _ = _ :: _ :: List.map blkP (qs ++ [(go, x)]); rw [List.map_append]; show _ :: (⟨ga, mapO (mP qs ++ _)⟩ : Blk) :: _ = _ :: (⟨ga, mapO (List.map _ (qs ++ [(go, x)]))⟩ : Blk) :: _; rw [List.map_append]; rfl) (fun w h => allCons (hv w h) (allCons (hv w h) allNil))
  obtain rfl : i = xs.length := by omega
  rw [List.take_length] at hqs hok hid
  have hql : qs.length = xs.length := by have := congrArg List.length hqs; rwa [List.length_map] at this
  have nerr : newErr xs ps size = if totOk xs = true then (sumM ps).2 else 3 := by
    unfold newErr
    rw [if_neg]
    rintro (h | h | h | h)
    · exact c1 h
    · exact c2 h
    · exact h hpl
    · rw [hok] at h; cases h
  repeat (first | refine Pw.runs ?_ | refine Pw.list (Pw.box rfl rfl rfl rfl (fun _ => ?_)) | refine Pw.list (Pw.alloc rfl rfl rfl rfl rfl (fun _ => ?_)))
  refine Pw.list (Pw.call (counted_ct xs (A, c) ps y hX hp hpl) rfl rfl rfl (by kernel_rfl) rfl rfl (fun w h => ⟨(hv w h), (hv w h)⟩) ?_)
  intro z1 _
  cases htot : totOk xs
  · have e : newErr xs ps size = 3 := by rw [nerr, htot]; rfl
    repeat (first | refine Pw.runs ?_ | refine Pw.list (Pw.box rfl rfl rfl rfl (fun _ => ?_)) | refine Pw.list (Pw.alloc rfl rfl rfl rfl rfl (fun _ => ?_)))
    exact Pw.retB (x := none) (List.nil_sublist _) (.tmp rfl (.tmp rfl .nil)) (by rw [e]; rfl) (by show newErr xs ps size ≠ 0; rw [e]; decide) (fun w h => trivial)
  rw [htot] at nerr
  rw [if_pos rfl] at nerr ⊢
  rw [if_pos rfl]
  rcases (sumM_err (l := ps)) with hse | hse
  · rw [hse] at nerr ⊢
    repeat (first | refine Pw.runs ?_ | refine Pw.list (Pw.box rfl rfl rfl rfl (fun _ => ?_)) | refine Pw.list (Pw.alloc rfl rfl rfl rfl rfl (fun _ => ?_)))
    refine Pw.list (Pw.call (psplit_ct a (cntL xs ps) z1 ha (cntL_u hp) (by rw [cntL_len hpl]; omega)) rfl rfl rfl (by kernel_rfl) rfl rfl (fun w h => (fact0 h) rfl) ?_)
    intro z2 _
    have hsl : (shL a xs ps).length = xs.length := by unfold shL; rw [spF_len, cntL_len hpl]
    have hL0 := lefts_ok (k := size.toNat) ha hX hp hpl 0
    have hLe : (spF a (cntL xs ps)).2 = leftTo size.toNat a xs ps 0 := by unfold leftTo; rw [List.take_zero]; simp [lsum]
    obtain ⟨_, s2, _, _⟩ := spF_sum ha (cntL_u (xs := xs) hp)
    rw [hLe]
    rw [show (spF a (cntL xs ps)).1 = shL a xs ps from rfl]
    repeat (first | refine Pw.runs ?_ | refine Pw.list (Pw.box rfl rfl rfl rfl (fun _ => ?_)) | refine Pw.list (Pw.alloc rfl rfl rfl rfl rfl (fun _ => ?_)))
    refine Pw.perm permG (freeHead ?_)
    refine Pw.loopJ (σ := Nat × List (Ent × List Int)) (fun t => t.1 ≤ xs.length ∧ NewOk size.toNat a xs ps t.1 t.2 ∧ eP (t.2.map Prod.fst) = qs.take t.1) (fun t => ⟨[(3, .int .i64 size), (10, .pointer (some ⟨gr, 0, none⟩)), (13, sl (shL a xs ps) z2), (88, .slice A xs.length c), (89, .int .i64 xs.length), (90, .int .i64 t.1)], ⟨gr, row [.map (some ga), .int .u64 (leftTo size.toNat a xs ps t.1)] 52⟩ :: ((qs.drop t.1).map blkP ++ rwL t.2), [XS xs (A, c), U1 (shL a xs ps) z2, AllEnt t.2, fun W => W.heap[ga]? = some (mapO (mP qs))]⟩) (fun t => xs.length - t.1) (0, []) ⟨Nat.zero_le _, ⟨rfl, fun j s h => (by cases h)⟩, rfl⟩ (by
      intro X h
      dsimp only at h
      refine Pw.enter ?_ ?_ X (Pw.eqL (by show (⟨gr, row [.map (some ga), .int .u64 (leftTo size.toNat a xs ps 0)] 52⟩ : Blk) :: List.map blkP qs = _ :: (List.map blkP (List.drop 0 qs) ++ []); rw [List.drop_zero, List.append_nil]) h)
      · exact ⟨rfl, rfl, rfl, rfl, rfl, rfl, trivial⟩
      · exact fun w h => allCons (hv w h) (allCons (hv w h) (allCons (fun s hs => by cases hs) (allCons (fx h) allNil)))) ?_
    rintro ⟨i, dn⟩ ⟨hi, hdn, hgo⟩
    dsimp only at hi hdn hgo ⊢
    repeat (first | refine Pw.runs ?_ | refine Pw.list (Pw.box rfl rfl rfl rfl (fun _ => ?_)) | refine Pw.list (Pw.alloc rfl rfl rfl rfl rfl (fun _ => ?_)))
    refine Pw.condD rfl (fun c5 => ?_) (fun c5 => ?_)
    · have hi0 : (0 : Int) ≤ (i : Int) := Int.natCast_nonneg i
      obtain ⟨x, hx, hxm⟩ := get_at (show i < xs.length by omega)
      obtain ⟨⟨go, x'⟩, hq, hqm⟩ := get_at (show i < qs.length by omega)
      obtain rfl : x' = x := by
        have h1 : (qs.map Prod.snd)[i]? = xs[i]? := by rw [hqs]
        rw [List.getElem?_map, hq, hx] at h1
        exact Option.some.inj h1
      obtain ⟨sh, hsh, hshm⟩ := get_at (show i < (shL a xs ps).length by omega)
      obtain ⟨hsu, hsa⟩ := s2 sh hshm
      have hxf : formX x' = true := by
        unfold okX at hok
        rw [Bool.and_eq_true, List.all_eq_true] at hok
        exact hok.1 x' hxm
      have hxt : (totX x').2 = 0 := by
        unfold totOk at htot
        rw [List.all_eq_true] at htot
        exact of_decide_eq_true (htot x' hxm)
      have hxW := hX.w x' hxm
      have hpr : pagesR x' size = (pagesS x' size.toNat, 0) := by
        unfold pagesR
        rw [if_neg (fun h => h.elim c1 (fun h => by rw [hxf] at h; cases h)), if_neg (by rw [hxt]; exact fun h => h rfl)]
      have hpc := pPages_ct x' hxW (hX.l x' hxm) size hs
      have hpgl : (pagesS x' size.toNat).length ≤ 4096 := by
        unfold pagesS
        rw [List.length_cons, chunks_len, List.length_drop]
        have h1 := nCh_le (n := (srt x'.oth).length - size.toNat) hk0
        have h2 : (srt x'.oth).length = x'.oth.length := (List.mergeSort_perm _ _).length_eq
        have := hX.l x' hxm
        omega
      rw [hpr] at hpc
      have hdrop : qs.drop i = (go, x') :: qs.drop (i + 1) := by
        rw [List.drop_eq_getElem_cons (by omega)]
        rw [List.getElem?_eq_getElem (by omega)] at hq
        rw [Option.some.inj hq]
      rw [hdrop]
      refine Pw.eqL (L' := ⟨gr, row [.map (some ga), .int .u64 (leftTo size.toNat a xs ps i)] 52⟩ :: ⟨go, row [.int .u64 x'.com, .slice none 0 0, .slice none 0 0, .pointer none] 57⟩ :: ((qs.drop (i + 1)).map blkP ++ rwL dn)) rfl ?_
      repeat (first | refine Pw.runs ?_ | refine Pw.list (Pw.box rfl rfl rfl rfl (fun _ => ?_)) | refine Pw.list (Pw.alloc rfl rfl rfl rfl rfl (fun _ => ?_)))
      refine Pw.list (Pw.index rfl rfl rfl rfl hi0 c5 (fun w h => (fact0 h).has hi0 c5) rfl rfl ?_)
      rintro ad rfl
      refine Pw.list (Pw.loadR x' rfl inferInstance rfl (by rw [Int.toNat_natCast]; exact hx) (by kernel_rfl) rfl rfl ?_)
      refine Pw.re (d := 94) (v' := exV x') rfl rfl ?_
      refine Pw.list (Pw.alloc rfl rfl rfl rfl rfl (fun g16 => ?_))
      repeat (first | refine Pw.runs ?_ | refine Pw.list (Pw.box rfl rfl rfl rfl (fun _ => ?_)) | refine Pw.list (Pw.alloc rfl rfl rfl rfl rfl (fun _ => ?_)))
      refine freeHead ?_
      refine Pw.drawnH (g := gr) inferInstance mixed rfl rfl ?_
      refine Pw.takeP 0 (nb 8 1) rfl rfl rfl rfl (by kernel_rfl) np so ?_
      refine Pw.takeP 1 (nb 8 3) rfl rfl rfl rfl (by kernel_rfl) np so ?_
      refine Pw.takeP 2 (nb 8 7) rfl rfl rfl rfl (by kernel_rfl) np so ?_
      refine Pw.takeF 3 (nb 8 15) rfl rfl inferInstance rfl rfl rfl (by kernel_rfl) np so ?_
      refine Pw.takeP 4 (nb 8 31) rfl rfl rfl rfl (by kernel_rfl) np so ?_
      refine Pw.takeF 5 (nb 8 63) rfl rfl inferInstance rfl rfl rfl (by kernel_rfl) np so ?_
      refine Pw.one 6 (nb 8 127) rfl (by kernel_rfl) ?_
      refine Pw.lookupF (m := mP qs) rfl rfl rfl rfl rfl rfl (fun w hs => by have h := hs.all; exact (fx h)) rfl rfl ?_
      refine Pw.re (d := 101) (v' := .pointer (some ⟨go, 0, none⟩)) rfl (mval_P.2 hnd i (go, x') hq rfl) ?_
      refine Pw.held so ?_
      refine Pw.takeP 7 (nb 8 255) rfl rfl rfl rfl (by kernel_rfl) np so ?_
      refine Pw.done (by kernel_rfl) ?_
      skip
      repeat (first | refine Pw.runs ?_ | refine Pw.list (Pw.box rfl rfl rfl rfl (fun _ => ?_)) | refine Pw.list (Pw.alloc rfl rfl rfl rfl rfl (fun _ => ?_)))
      refine Pw.re (d := 104) (v' := exV x') rfl rfl ?_
      refine Pw.list (Pw.call hpc rfl rfl rfl (by kernel_rfl) rfl rfl (fun w h => (hv w h : heldX x' w)) ?_)
      rintro ⟨pg, ⟨Ap, cp⟩⟩ hpg
      dsimp only at hpg ⊢
      have hpl2 : (pagesS x' size.toNat).length = pg.length := by rw [← hpg, List.length_map]
      rw [hpl2] at hpgl ⊢
      repeat (first | refine Pw.runs ?_ | refine Pw.list (Pw.box rfl rfl rfl rfl (fun _ => ?_)) | refine Pw.list (Pw.alloc rfl rfl rfl rfl rfl (fun _ => ?_)))
      refine Pw.loopJ (σ := Nat × Gr) (fun t => t.1 ≤ pg.length ∧ gOk t.2 (((tots x' size.toNat).take t.1).map (Value.int .u64)) t.1 1) (fun t => ⟨[(3, .int .i64 size), (10, .pointer (some ⟨gr, 0, none⟩)), (13, sl (shL a xs ps) z2), (15, .int .i64 i), (17, .pointer (some ⟨go, 0, none⟩)), (18, gv t.2 t.1), (88, .slice (some ad) xs.length c), (89, .int .i64 xs.length), (90, .int .i64 i), (114, .slice Ap pg.length cp), (115, .int .i64 pg.length), (116, .int .i64 t.1)], gL t.2 (((tots x' size.toNat).take t.1).map (Value.int .u64)) 22 ++ (⟨gr, row [.map (some ga), .int .u64 (leftTo size.toNat a xs ps i)] 52⟩ :: ⟨go, row [.int .u64 x'.com, .slice Ap pg.length cp, .slice none 0 0, .pointer none] 57⟩ :: ((qs.drop (i + 1)).map blkP ++ rwL dn)), [XS xs (some ad, c), U1 (shL a xs ps) z2, AllEnt dn, fun W => W.heap[ga]? = some (mapO (mP qs)), PGS pg (Ap, cp)]⟩) (fun t => pg.length - t.1) (0, none) ⟨Nat.zero_le _, rfl, rfl⟩ (Pw.enter ⟨rfl, rfl, rfl, rfl, rfl, rfl, rfl, rfl, rfl, rfl, rfl, rfl, trivial⟩ (fun w h => allCons (hv w h) (allCons (hv w h) (allCons (hv w h) (allCons (fx h) (allCons (hv w h) allNil)))))) ?_
      rintro ⟨j, q⟩ ⟨hj, hqq⟩
      dsimp only at hj hqq ⊢
      have htl : (tots x' size.toNat).length = pg.length := by show (List.map _ _).length = _; rw [List.length_map, hpl2]
      repeat (first | refine Pw.runs ?_ | refine Pw.list (Pw.box rfl rfl rfl rfl (fun _ => ?_)) | refine Pw.list (Pw.alloc rfl rfl rfl rfl rfl (fun _ => ?_)))
      refine Pw.condD rfl (fun c6 => ?_) (fun c6 => ?_)
      · have hj0 : (0 : Int) ≤ (j : Int) := Int.natCast_nonneg j
        obtain ⟨⟨pp, Az, cz⟩, hpj, hpjm⟩ := get_at (show j < pg.length by omega)
        have hpS : (pagesS x' size.toNat)[j]? = some pp := by rw [← hpg, List.getElem?_map, hpj]; rfl
        have hpm : pp ∈ pagesS x' size.toNat := List.mem_of_getElem? hpS
        have hpu := stk_u hxW (k := size.toNat) pp hpm
        have hpn : pp.length ≤ 1001 := by
          have := hX.l x' hxm
          have h2 : (srt x'.oth).length = x'.oth.length := (List.mergeSort_perm _ _).length_eq
          unfold pagesS at hpm
          rcases List.mem_cons.1 hpm with rfl | hpm
          · rw [List.length_cons, List.length_take]; omega
          · unfold chunks at hpm
            obtain ⟨jj, _, rfl⟩ := List.mem_map.1 hpm
            unfold chunkAt
            rw [List.length_take, List.length_drop, List.length_drop]; omega
        have htj : (tots x' size.toNat)[j]? = some (sumM (stk pp)).1 := by show (List.map _ _)[j]? = _; rw [List.getElem?_map, hpS]; rfl
        repeat (first | refine Pw.runs ?_ | refine Pw.list (Pw.box rfl rfl rfl rfl (fun _ => ?_)) | refine Pw.list (Pw.alloc rfl rfl rfl rfl rfl (fun _ => ?_)))
        refine Pw.list (Pw.index rfl rfl rfl rfl hj0 c6 (fun w h => (hv w h : PGS pg (Ap, cp) w).has hj0 c6) rfl rfl ?_)
        rintro pd rfl
        refine Pw.list (Pw.loadC (pp, Az, cz) rfl inferInstance rfl (by rw [Int.toNat_natCast]; exact hpj) rfl rfl rfl rfl ?_)
        repeat (first | refine Pw.runs ?_ | refine Pw.list (Pw.box rfl rfl rfl rfl (fun _ => ?_)) | refine Pw.list (Pw.alloc rfl rfl rfl rfl rfl (fun _ => ?_)))
        refine Pw.list (Pw.callL (Stakes_ct pp (Az, cz) (by omega)) rfl rfl rfl (by kernel_rfl) rfl rfl (fun w h => ((hv w h : PGS pg (some pd, cp) w).at hpj).2.1) ?_)
        intro q1 hq1
        refine Pw.freeG hq1 (fun As cs' es hcs => ?_)
        refine Pw.re (d := 122) (v' := sl (stk pp) (As, cs')) rfl (by rw [es]; show Value.slice As _ cs' = .slice As (stk pp).length cs'; rw [stk_len]) ?_
        refine Pw.list (Pw.call (mSum_ct (stk pp) (As, cs') hpu) rfl rfl rfl (by kernel_rfl) rfl rfl (fun w h => ints_of_cells (by rw [stk_len]; exact hcs) (by rw [stk_len]; simp only [maxLen]; omega) (fact0 h)) ?_)
        intro _ _
        repeat (first | refine Pw.runs ?_ | refine Pw.list (Pw.box rfl rfl rfl rfl (fun _ => ?_)) | refine Pw.list (Pw.alloc rfl rfl rfl rfl rfl (fun _ => ?_)))
        refine Pw.list (Pw.lit1 rfl rfl rfl rfl rfl rfl rfl rfl rfl (fun g2 => ?_))
        refine freeHead ?_
        refine Pw.list (Pw.push (s := q) (news := [.int .u64 (sumM (stk pp)).1]) rfl rfl rfl rfl rfl rfl rfl hqq rfl (fun u hu => by rw [List.mem_singleton.1 hu]; rfl) (fun w hs j u hu => by
          have h1 : w.heap[g2]? = some (row [.int .u64 (sumM (stk pp)).1] 22) := fact0 hs.all
          rw [add_none, cell_of_blk h1]
          simpa using hu) (by omega) (by simp only [maxLen]; omega) (by show (j + 1) * 8 ≤ _; omega) rfl rfl (fun q' hq' => ?_))
        have e4 : ((tots x' size.toNat).take j).map (Value.int .u64) ++ [.int .u64 (sumM (stk pp)).1] = ((tots x' size.toNat).take (j + 1)).map (Value.int .u64) := by rw [take_snoc htj]; simp
        rw [e4] at hq' ⊢
        repeat (first | refine Pw.runs ?_ | refine Pw.list (Pw.box rfl rfl rfl rfl (fun _ => ?_)) | refine Pw.list (Pw.alloc rfl rfl rfl rfl rfl (fun _ => ?_)))
        refine Pw.re (d := 116) (v' := .int .i64 ((j + 1 : Nat) : Int)) rfl (congrArg (Value.int .i64) (i64s (n := 100000) (by omega) (by omega))) ?_
        exact Pw.again (j + 1, q') ⟨by show j + 1 ≤ pg.length; omega, hq'⟩ (by show pg.length - (j + 1) < pg.length - j; omega) ⟨rfl, rfl, rfl, rfl, rfl, rfl, rfl, rfl, rfl, rfl, rfl, rfl, trivial⟩ rfl (fun w h => allCons (hv w h) (allCons (hv w h) (allCons (hv w h) (allCons (fx h) (allCons (hv w h) allNil)))))
      · obtain rfl : j = pg.length := by omega
        rw [← htl, List.take_length] at hqq ⊢
        refine Pw.freeG hqq (fun At ct et hct => ?_)
        rw [et]
        have htu : ∀ n ∈ tots x' size.toNat, U64 n := fun n hn => by
          obtain ⟨p, hp, rfl⟩ := List.mem_map.1 hn
          exact sumM_u _ (stk_u hxW p hp)
        have hsi : (i : Int) < (((shL a xs ps).length : Nat) : Int) := by omega
        repeat (first | refine Pw.runs ?_ | refine Pw.list (Pw.box rfl rfl rfl rfl (fun _ => ?_)) | refine Pw.list (Pw.alloc rfl rfl rfl rfl rfl (fun _ => ?_)))
        refine Pw.list (Pw.index rfl rfl rfl rfl hi0 hsi (fun w h => (hv w h : U1 (shL a xs ps) z2 w).has hi0 hsi) rfl rfl ?_)
        intro sd hsd
        obtain ⟨zA, zc⟩ := z2
        dsimp only at hsd
        subst hsd
        refine Pw.list (Pw.load1 rfl rfl (fun w hs => (hv w hs.all : U1 (shL a xs ps) (some sd, zc) w).cell hi0 hsi) rfl rfl ?_)
        rw [get_rd hsh]
        repeat (first | refine Pw.runs ?_ | refine Pw.list (Pw.box rfl rfl rfl rfl (fun _ => ?_)) | refine Pw.list (Pw.alloc rfl rfl rfl rfl rfl (fun _ => ?_)))
        refine Pw.list (Pw.call (psplit_ct sh (tots x' size.toNat) (At, ct) hsu htu (by rw [htl]; omega)) rfl rfl rfl (by kernel_rfl) rfl rfl (fun w h => ints_of_cells hct (by rw [htl]; simp only [maxLen]; omega) (fact0 h)) ?_)
        intro zb _
        rw [show spF sh (tots x' size.toNat) = bud1 size.toNat sh x' from rfl, htl]
        have hbl : (bud1 size.toNat sh x').1.length = pg.length := by unfold bud1; rw [spF_len]; exact htl
        repeat (first | refine Pw.runs ?_ | refine Pw.list (Pw.box rfl rfl rfl rfl (fun _ => ?_)) | refine Pw.list (Pw.alloc rfl rfl rfl rfl rfl (fun _ => ?_)))
        refine Pw.list (Pw.callB (mkNew_ct pg.length hpgl) (List.nil_append _).symm rfl rfl rfl (by kernel_rfl) rfl rfl (fun w h => trivial) ?_)
        rintro ⟨gm, gb⟩ _
        dsimp only
        refine Pw.eqL (L' := mkB gb (List.replicate ((pg.length + 7) / 8) 0) :: ⟨gr, row [.map (some ga), .int .u64 (leftTo size.toNat a xs ps i)] 52⟩ :: ⟨go, row [.int .u64 x'.com, .slice Ap pg.length cp, sl (bud1 size.toNat sh x').1 zb, .pointer none] 57⟩ :: ((qs.drop (i + 1)).map blkP ++ rwL dn)) rfl ?_
        have hli := lefts_ok (k := size.toNat) ha hX hp hpl i
        have hlj := lefts_ok (k := size.toNat) ha hX hp hpl (i + 1)
        have hls := left_snoc (k := size.toNat) hx hsh
        have ha2 := ha.2
        repeat (first | refine Pw.runs ?_ | refine Pw.list (Pw.box rfl rfl rfl rfl (fun _ => ?_)) | refine Pw.list (Pw.alloc rfl rfl rfl rfl rfl (fun _ => ?_)))
        rw [wu (n := leftTo size.toNat a xs ps i + (bud1 size.toNat sh x').2) (by omega) (by omega), ← hls]
        refine Pw.perm permD (freeHead ?_)
        refine Pw.re (d := 90) (v' := .int .i64 ((i + 1 : Nat) : Int)) rfl (congrArg (Value.int .i64) (i64s (n := 100000) (by omega) (by omega))) ?_
        exact Pw.again (i + 1, dn ++ [(⟨x', pg, (Ap, cp), (bud1 size.toNat sh x').1, zb, go, gm, gb⟩, List.replicate ((pg.length + 7) / 8) 0)]) ⟨by show i + 1 ≤ xs.length; omega, ⟨by rw [List.length_append, hdn.1]; rfl, fun j s hj => by
          rcases Nat.lt_or_ge j dn.length with h | h
          · rw [List.getElem?_append_left h] at hj
            exact hdn.2 j s hj
          · rw [List.getElem?_append_right h] at hj
            cases hj0 : j - dn.length with
            | succ n => rw [hj0] at hj; cases hj
            | zero =>
              rw [hj0] at hj
              have hji : j = i := by have := hdn.1; omega
              rw [← Option.some.inj hj, hji]
              exact ⟨x', sh, hx, hsh, rfl, hpg, rfl, rfl⟩⟩, by rw [List.map_append]; show List.map _ (_ ++ _) = _; rw [List.map_append, take_snoc hq, ← hgo]; rfl⟩ (by show xs.length - (i + 1) < xs.length - i; omega) ⟨rfl, rfl, rfl, rfl, rfl, rfl, trivial⟩ (by show _ = _ :: (List.map blkP _ ++ List.map _ (dn ++ [_])); rw [List.map_append]; rfl) (fun w h => allCons (hv w h) (allCons (hv w h) (allCons (fun s hs => by
            rcases List.mem_append.1 hs with hs | hs
            · exact (hv w h : AllEnt dn w) s hs
            · rw [List.mem_singleton.1 hs]
              exact ⟨(fx h), (hv w h), (hv w h), (hv w h)⟩) (allCons (fx h) allNil))))
    · obtain rfl : i = xs.length := by omega
      rw [List.drop_of_length_le (by omega)]
      refine Pw.eqL (L' := ⟨gr, row [.map (some ga), .int .u64 (leftTo size.toNat a xs ps xs.length)] 52⟩ :: rwL dn) rfl ?_
      repeat (first | refine Pw.runs ?_ | refine Pw.list (Pw.box rfl rfl rfl rfl (fun _ => ?_)) | refine Pw.list (Pw.alloc rfl rfl rfl rfl rfl (fun _ => ?_)))
      refine freeHead ?_
      have hmp : mP (eP (dn.map Prod.fst)) = mP qs := by rw [hgo, List.take_of_length_le (by omega)]
      exact Pw.retB (x := some ⟨gr, ga, dn⟩) (List.Sublist.refl _) (.tmp rfl (.tmp rfl .nil)) rfl ⟨nerr, hdn⟩ (fun w h => ⟨(fx h), by rw [hmp]; exact (fx h), (hv w h)⟩)
  · rw [hse] at nerr ⊢
    repeat (first | refine Pw.runs ?_ | refine Pw.list (Pw.box rfl rfl rfl rfl (fun _ => ?_)) | refine Pw.list (Pw.alloc rfl rfl rfl rfl rfl (fun _ => ?_)))
    exact Pw.retB (x := none) (List.nil_sublist _) (.tmp rfl (.tmp rfl .nil)) (by rw [nerr]; rfl) (by show newErr xs ps size ≠ 0; rw [nerr]; decide) (fun w h => trivial)
end Go.Proofs.Wk
/- Rewards: find, Budget, Left, Paid walked. -/
namespace Go.Proofs.Wk
open Go.RowKit
set_option maxRecDepth 100000
set_option maxHeartbeats 8000000
attribute [local irreducible] Pw OpG
set_option linter.unusedVariables false
set_option linter.unusedSimpArgs false
abbrev Sr := List (Ent × List Int)
structure Wf (s : Ent × List Int) : Prop where
  l : s.2.length = (s.1.pg.length + 7) / 8
  r : ∀ x ∈ s.2, 0 ≤ x ∧ x ≤ 255
  n : s.1.pg.length ≤ 4096
  b : s.1.bu.length = s.1.pg.length
def paidB (s : Ent × List Int) (i : Nat) : Bool := bitB (rd s.2 ((i / 8 : Nat) : Int)) (i % 8)
def pdOf (s : Ent × List Int) : List Bool := (List.range s.1.pg.length).map (paidB s)
theorem pd_len (s : Ent × List Int) : (pdOf s).length = s.1.pg.length := by unfold pdOf; rw [List.length_map, List.length_range]
theorem pd_get {s : Ent × List Int} {i : Nat} (h : i < s.1.pg.length) : (pdOf s)[i]? = some (paidB s i) := by
  unfold pdOf
  rw [List.getElem?_map, List.getElem?_range h]; rfl
theorem Wf.mk_ (s : Ent × List Int) (h : Wf s) : MkOk (pdOf s) s.2 := by
  refine ⟨by rw [pd_len]; exact h.l, h.r, fun i p hp => ?_⟩
  have hi : i < s.1.pg.length := by rw [← pd_len s]; exact (List.getElem?_eq_some_iff.1 hp).1
  rw [pd_get hi] at hp
  exact Option.some.inj hp
def setB (s : Ent × List Int) (i : Nat) : Ent × List Int := (s.1, s.2.set (i / 8) (Go.bits .or .u8 (rd s.2 ((i / 8 : Nat) : Int)) (2 ^ (i % 8))))
theorem Wf.set {s : Ent × List Int} (h : Wf s) {i : Nat} (hi : i < s.1.pg.length) : Wf (setB s i) := by
  have h1 := mk_set h.mk_ (i := i) (by rw [pd_len]; exact hi)
  have hl := h1.l
  rw [List.length_set, List.length_set, pd_len] at hl
  exact ⟨by show (List.set _ _ _).length = _; rw [List.length_set]; exact hl, h1.r, h.n, h.b⟩
/-- Where a validator's entry stands; which page. -/
def ixE (st : Sr) (v : Int) : Option Nat := st.findIdx? (fun s => decide (s.1.x.id = v))
abbrev idsS (st : Sr) : List Int := st.map (fun s => s.1.x.id)
theorem ixE_some {st : Sr} {v : Int} {j : Nat} (h : ixE st v = some j) : ∃ s, st[j]? = some s ∧ s.1.x.id = v := by
  unfold ixE at h
  rw [List.findIdx?_eq_some_iff_getElem] at h
  obtain ⟨hj, hp, _⟩ := h
  exact ⟨st[j], List.getElem?_eq_getElem hj, of_decide_eq_true hp⟩
theorem ixE_none {st : Sr} {v : Int} (h : ixE st v = none) : v ∉ idsS st := by
  unfold ixE at h
  rw [List.findIdx?_eq_none_iff] at h
  intro hm
  obtain ⟨s, hs, e⟩ := List.mem_map.1 hm
  have := h s hs
  simp [e] at this
theorem ixE_at {st : Sr} {v : Int} {j : Nat} {s : Ent × List Int} (hn : (idsS st).Nodup) (hs : st[j]? = some s) (e : s.1.x.id = v) : ixE st v = some j := by
  cases h : ixE st v with
  | none => exact absurd (by rw [← e]; exact List.mem_map_of_mem (f := fun s : Ent × List Int => s.1.x.id) (List.mem_of_getElem? hs)) (ixE_none h)
  | some k =>
    obtain ⟨t, ht, e2⟩ := ixE_some h
    have h1 : (idsS st)[j]? = some v := by rw [List.getElem?_map, hs]; exact congrArg some e
    have h2 : (idsS st)[k]? = some v := by rw [List.getElem?_map, ht]; exact congrArg some e2
    obtain ⟨b1, b2⟩ := List.getElem?_eq_some_iff.1 h1
    obtain ⟨b3, b4⟩ := List.getElem?_eq_some_iff.1 h2
    rcases Nat.lt_trichotomy j k with hlt | rfl | hlt
    · have := List.pairwise_iff_getElem.1 hn j k b1 b3 hlt
      rw [b2, b4] at this; exact absurd rfl this
    · rfl
    · have := List.pairwise_iff_getElem.1 hn k j b3 b1 hlt
      rw [b2, b4] at this; exact absurd rfl this
/-- The entry of a page, if there is one. -/
def fnd (st : Sr) (v p : Int) : Option Nat := match ixE st v with
  | none => none
  | some j => match st[j]? with
    | none => none
    | some s => if 0 ≤ p ∧ p < (s.1.pg.length : Int) then some j else none
theorem fnd_some {st : Sr} {v p : Int} {j : Nat} (h : fnd st v p = some j) : ∃ s, st[j]? = some s ∧ s.1.x.id = v ∧ 0 ≤ p ∧ p < (s.1.pg.length : Int) := by
  unfold fnd at h
  cases h1 : ixE st v with
  | none => rw [h1] at h; cases h
  | some k =>
    rw [h1] at h
    obtain ⟨s, hs, e⟩ := ixE_some h1
    have h : (match st[k]? with | none => none | some s => if 0 ≤ p ∧ p < (s.1.pg.length : Int) then some k else none) = some j := h
    rw [hs] at h
    have h : (if 0 ≤ p ∧ p < (s.1.pg.length : Int) then some k else none) = some j := h
    split at h
    next hc => rw [← Option.some.inj h]; exact ⟨s, hs, e, hc⟩
    next => cases h
theorem fnd_at {st : Sr} {v p : Int} {j : Nat} {s : Ent × List Int} (hn : (idsS st).Nodup) (hs : st[j]? = some s) (e : s.1.x.id = v) (h0 : 0 ≤ p) (h1 : p < (s.1.pg.length : Int)) : fnd st v p = some j := by
  unfold fnd
  rw [ixE_at hn hs e]
  show (match st[j]? with | none => none | some s => if 0 ≤ p ∧ p < (s.1.pg.length : Int) then some j else none) = _
  rw [hs]
  exact if_pos ⟨h0, h1⟩
theorem fnd_no {st : Sr} {v p : Int} {j : Nat} {s : Ent × List Int} (hn : (idsS st).Nodup) (hs : st[j]? = some s) (e : s.1.x.id = v) (h : ¬ (0 ≤ p ∧ p < (s.1.pg.length : Int))) : fnd st v p = none := by
  unfold fnd
  rw [ixE_at hn hs e]
  show (match st[j]? with | none => none | some s => if 0 ≤ p ∧ p < (s.1.pg.length : Int) then some j else none) = _
  rw [hs]
  exact if_neg h
def goV (st : Sr) (o : Option Nat) : Value := match o.bind (fun j => st[j]?) with
  | some s => .pointer (some ⟨s.1.go, 0, none⟩)
  | none => .pointer none
theorem eP_ids (st : Sr) : (eP (st.map Prod.fst)).map (fun p => p.2.id) = idsS st := by
  show List.map _ (List.map _ (List.map _ st)) = _
  rw [List.map_map, List.map_map]; rfl
theorem eP_get {st : Sr} {j : Nat} {s : Ent × List Int} (hs : st[j]? = some s) : (eP (st.map Prod.fst))[j]? = some (s.1.go, s.1.x) := by
  show (List.map _ (List.map _ st))[j]? = _
  rw [List.getElem?_map, List.getElem?_map, hs]; rfl
abbrev rw2 (gr ga : Nat) (left : Int) (st : Sr) : List (World → Prop) := [fun W => W.heap[gr]? = some (row [.map (some ga), .int .u64 left] 52), fun W => W.heap[ga]? = some (mapO (mP (eP (st.map Prod.fst)))), AllEnt st]
theorem poFind_ct (gr ga : Nat) (left : Int) (st : Sr) (v p : Int) (hn : (idsS st).Nodup) : Ct Try.prog 27 #[.pointer (some ⟨gr, 0, none⟩), .int .i64 v, .int .i64 p] (rwF gr ga left st) (fun _ : Unit => goV st (fnd st v p)) Tt (fun _ _ => True) := by
  refine Ct.start Try.func27 rfl rfl (slots_of rfl slots3) (fun D w0 => Pw.facts (G' := rw2 gr ga left st) (fun w h => allCons (fact0 h).1 (allCons (fact0 h).2.1 (allCons (fact0 h).2.2 allNil))) ?_)
  repeat (first | refine Pw.runs ?_ | refine Pw.list (Pw.box rfl rfl rfl rfl (fun _ => ?_)) | refine Pw.list (Pw.alloc rfl rfl rfl rfl rfl (fun _ => ?_)))
  refine Pw.list (Pw.lookupF (m := mP (eP (st.map Prod.fst))) rfl rfl rfl rfl rfl rfl (fun w hs => fact1 hs.all) rfl rfl ?_)
  cases hix : ixE st v with
  | none =>
    have hno := ixE_none hix
    rw [← eP_ids] at hno
    refine Pw.re (d := 15) (v' := .pointer none) rfl (mval_P.1 hno) ?_
    repeat (first | refine Pw.runs ?_ | refine Pw.list (Pw.box rfl rfl rfl rfl (fun _ => ?_)) | refine Pw.list (Pw.alloc rfl rfl rfl rfl rfl (fun _ => ?_)))
    have e : fnd st v p = none := by unfold fnd; rw [hix]
    exact Pw.ret_ (x := ()) (.tmp rfl .nil) (by rw [e]; rfl) trivial (fun w h => trivial)
  | some j =>
    obtain ⟨s, hs, hid⟩ := ixE_some hix
    have hmv := mval_P.2 (by rw [eP_ids]; exact hn) j _ (eP_get hs) hid
    refine Pw.re (d := 15) (v' := .pointer (some ⟨s.1.go, 0, none⟩)) rfl hmv ?_
    repeat (first | refine Pw.runs ?_ | refine Pw.list (Pw.box rfl rfl rfl rfl (fun _ => ?_)) | refine Pw.list (Pw.alloc rfl rfl rfl rfl rfl (fun _ => ?_)))
    refine Pw.split 22 rfl (fun c1 => ?_) (fun c1 => ?_)
    · have e : fnd st v p = none := fnd_no hn hs hid (by omega)
      repeat (first | refine Pw.runs ?_ | refine Pw.list (Pw.box rfl rfl rfl rfl (fun _ => ?_)) | refine Pw.list (Pw.alloc rfl rfl rfl rfl rfl (fun _ => ?_)))
      exact Pw.ret_ (x := ()) (.tmp rfl .nil) (by rw [e]; rfl) trivial (fun w h => trivial)
    repeat (first | refine Pw.runs ?_ | refine Pw.list (Pw.box rfl rfl rfl rfl (fun _ => ?_)) | refine Pw.list (Pw.alloc rfl rfl rfl rfl rfl (fun _ => ?_)))
    refine Pw.list (Pw.lookupF (m := mP (eP (st.map Prod.fst))) rfl rfl rfl rfl rfl rfl (fun w hs => fact1 hs.all) rfl rfl ?_)
    refine Pw.re (d := 29) (v' := .pointer (some ⟨s.1.go, 0, none⟩)) rfl hmv ?_
    refine Pw.facts (G' := (fun W => W.heap[s.1.go]? = some (row (entV s.1) 57)) :: rw2 gr ga left st) (fun w h => allCons ((fact2 h) s (List.mem_of_getElem? hs)).1 h) ?_
    repeat (first | refine Pw.runs ?_ | refine Pw.list (Pw.box rfl rfl rfl rfl (fun _ => ?_)) | refine Pw.list (Pw.alloc rfl rfl rfl rfl rfl (fun _ => ?_)))
    refine Pw.condD rfl (fun c2 => ?_) (fun c2 => ?_)
    · have e : fnd st v p = none := fnd_no hn hs hid (by omega)
      repeat (first | refine Pw.runs ?_ | refine Pw.list (Pw.box rfl rfl rfl rfl (fun _ => ?_)) | refine Pw.list (Pw.alloc rfl rfl rfl rfl rfl (fun _ => ?_)))
      exact Pw.ret_ (x := ()) (.tmp rfl .nil) (by rw [e]; rfl) trivial (fun w h => trivial)
    · have e : fnd st v p = some j := fnd_at hn hs hid (by omega) (by omega)
      repeat (first | refine Pw.runs ?_ | refine Pw.list (Pw.box rfl rfl rfl rfl (fun _ => ?_)) | refine Pw.list (Pw.alloc rfl rfl rfl rfl rfl (fun _ => ?_)))
      refine Pw.list (Pw.lookupF (m := mP (eP (st.map Prod.fst))) rfl rfl rfl rfl rfl rfl (fun w hs => fact2 hs.all) rfl rfl ?_)
      refine Pw.re (d := 41) (v' := .pointer (some ⟨s.1.go, 0, none⟩)) rfl hmv ?_
      repeat (first | refine Pw.runs ?_ | refine Pw.list (Pw.box rfl rfl rfl rfl (fun _ => ?_)) | refine Pw.list (Pw.alloc rfl rfl rfl rfl rfl (fun _ => ?_)))
      exact Pw.ret_ (x := ()) (.tmp rfl .nil) (by rw [e]; show _ = goV st (some j); unfold goV; rw [Option.bind_some, hs]; rfl) trivial (fun w h => trivial)
def budE (st : Sr) (v p : Int) : Option Int := (fnd st v p).bind (fun j => (st[j]?).bind (fun s => s.1.bu[p.toNat]?))
theorem goV_some {st : Sr} {j : Nat} {s : Ent × List Int} (h : st[j]? = some s) : goV st (some j) = .pointer (some ⟨s.1.go, 0, none⟩) := by unfold goV; rw [Option.bind_some, h]
theorem poBudget_ct (gr ga : Nat) (left : Int) (st : Sr) (v p : Int) (hn : (idsS st).Nodup) (hw : ∀ s ∈ st, Wf s) : Ct Try.prog 11 #[.pointer (some ⟨gr, 0, none⟩), .int .i64 v, .int .i64 p] (rwF gr ga left st) (fun _ : Unit => match budE st v p with | some b => .tuple #[.int .u64 b, .bool true] | none => .tuple #[.int .u64 0, .bool false]) Tt (fun _ _ => True) := by
  refine Ct.start Try.func11 rfl rfl (slots_of rfl slots3) (fun D w0 => ?_)
  repeat (first | refine Pw.runs ?_ | refine Pw.list (Pw.box rfl rfl rfl rfl (fun _ => ?_)) | refine Pw.list (Pw.alloc rfl rfl rfl rfl rfl (fun _ => ?_)))
  refine Pw.list (Pw.call (poFind_ct gr ga left st v p hn) rfl rfl rfl (by kernel_rfl) rfl rfl (fun w h => (hv w h)) ?_)
  intro _ _
  cases hf : fnd st v p with
  | none =>
    have e : budE st v p = none := by unfold budE; rw [hf]; rfl
    rw [show goV st none = .pointer none from rfl]
    repeat (first | refine Pw.runs ?_ | refine Pw.list (Pw.box rfl rfl rfl rfl (fun _ => ?_)) | refine Pw.list (Pw.alloc rfl rfl rfl rfl rfl (fun _ => ?_)))
    exact Pw.ret_ (x := ()) (.tmp rfl (.tmp rfl .nil)) (by rw [e]; rfl) trivial (fun w h => trivial)
  | some j =>
    obtain ⟨s, hs, hid, h0, h1⟩ := fnd_some hf
    have hsm := List.mem_of_getElem? hs
    have hbl := (hw s hsm).b
    have hp1 : p < ((s.1.bu.length : Nat) : Int) := by omega
    obtain ⟨b, hb, _⟩ := get_at (show p.toNat < s.1.bu.length by omega)
    have e : budE st v p = some b := by unfold budE; rw [hf, Option.bind_some, hs]; exact hb
    rw [goV_some hs]
    refine Pw.facts (G' := [fun W => W.heap[s.1.go]? = some (row (entV s.1) 57), U1 s.1.bu s.1.zb]) (fun w h => allCons ((hv w h : rwF gr ga left st w).2.2 s hsm).1 (allCons ((hv w h : rwF gr ga left st w).2.2 s hsm).2.2.1 allNil)) ?_
    repeat (first | refine Pw.runs ?_ | refine Pw.list (Pw.box rfl rfl rfl rfl (fun _ => ?_)) | refine Pw.list (Pw.alloc rfl rfl rfl rfl rfl (fun _ => ?_)))
    obtain ⟨⟨x, pg, zp, bu, ⟨zA, zc⟩, go, gm, gb⟩, bs⟩ := s
    dsimp only at hp1 hb ⊢
    refine Pw.list (Pw.index rfl rfl rfl rfl h0 hp1 (fun w h => (fact1 h).has h0 hp1) rfl rfl ?_)
    intro sd hsd
    dsimp only at hsd
    subst hsd
    refine Pw.list (Pw.load1 rfl rfl (fun w hs => (fact1 hs.all : U1 bu (some sd, zc) w).cell h0 hp1) rfl rfl ?_)
    rw [show rd bu p = b by have := get_rd hb; rwa [Int.toNat_of_nonneg h0] at this]
    repeat (first | refine Pw.runs ?_ | refine Pw.list (Pw.box rfl rfl rfl rfl (fun _ => ?_)) | refine Pw.list (Pw.alloc rfl rfl rfl rfl rfl (fun _ => ?_)))
    exact Pw.ret_ (x := ()) (.tmp rfl (.tmp rfl .nil)) (by rw [e]; rfl) trivial (fun w h => trivial)
end Go.Proofs.Wk
/- Rewards: Pay walked. -/
namespace Go.Proofs.Wk
open Go.RowKit
set_option maxRecDepth 100000
set_option maxHeartbeats 8000000
attribute [local irreducible] Pw OpG
set_option linter.unusedVariables false
set_option linter.unusedSimpArgs false
/-- What the reward's entries are: amounts of 64 bits. -/
structure Eu (s : Ent × List Int) : Prop where
  c : 0 ≤ s.1.x.com ∧ s.1.x.com ≤ 1000000000
  b : ∀ b ∈ s.1.bu, U64 b
  p : ∀ p ∈ s.1.pg, p.1.length ≤ 100000 ∧ ∀ n ∈ stk p.1, U64 n
end Go.Proofs.Wk
/- Elections: what holds of the model's states: bounds. -/
namespace Go.Proofs.Wk
open Go.RowKit
set_option linter.unusedVariables false
set_option linter.unusedSimpArgs false
/-- Stakes that are together no more than a number of 64 bits. -/
structure VOk (vs : List Vtr) : Prop where
  s : ∀ i, 0 ≤ st vs i
  t : sumL (st vs) (List.range vs.length) ≤ 18446744073709551615
structure EOk (vs : List Vtr) (a : Nat) (S : Est) : Prop where
  d0 : 0 < S.D
  d1 : S.D < pw a
  ll : S.ld.length = vs.length
  l0 : ∀ x ∈ S.ld, 0 ≤ x ∧ x < pw a
  el : S.ed.length = vs.length
  e0 : ∀ i l, S.ed[i]? = some l → (∀ x ∈ l, 0 ≤ x.2.1 ∧ x.2.1 < pw a ∧ 0 < x.2.2 ∧ x.2.2 < pw a) ∧ (l ≠ [] → 0 < at0 S.ld i)
  s0 : ∀ x ∈ S.se, 0 ≤ x.2.1 ∧ x.2.1 < pw a ∧ 0 < x.2.2 ∧ x.2.2 < pw a
  k0 : ∀ (i : Nat) (l : List (Int × Int × Int)), S.ed[i]? = some l → ∀ x ∈ l, ∃ y ∈ S.se, y.1 = x.1
theorem at0_ok {l : List Int} {p : Int} (hp : 0 < p) (h : ∀ x ∈ l, 0 ≤ x ∧ x < p) (i : Nat) : 0 ≤ at0 l i ∧ at0 l i < p := by
  unfold at0
  cases e : l[i]? with
  | none => exact ⟨Int.le_refl _, hp⟩
  | some x => exact h x (List.mem_of_getElem? e)
theorem EOk.at {vs : List Vtr} {a : Nat} {S : Est} (h : EOk vs a S) (i : Nat) : 0 ≤ at0 S.ld i ∧ at0 S.ld i < pw a := at0_ok (pw_pos a) h.l0 i
end Go.Proofs.Wk
/- Rewards: Open walked. -/
namespace Go.Proofs.Wk
open Go.RowKit
set_option maxRecDepth 100000
set_option maxHeartbeats 8000000
attribute [local irreducible] Pw OpG
set_option linter.unusedVariables false
set_option linter.unusedSimpArgs false
end Go.Proofs.Wk
/- Rewards: plain facts of a reward that New made. -/
namespace Go.Proofs.Wk
open Go.RowKit
set_option maxRecDepth 100000
set_option maxHeartbeats 4000000
set_option linter.unusedVariables false
set_option linter.unusedSimpArgs false
theorem newErr_ok {xs : List Ex} {ps : List Int} {size : Int} (h : newErr xs ps size = 0) : 1 ≤ size ∧ size ≤ 32 ∧ ps.length = xs.length ∧ okX xs = true := by
  unfold newErr at h
  split at h
  · cases h
  · next hn =>
    simp only [not_or] at hn
    obtain ⟨h1, h2, h3, h4⟩ := hn
    exact ⟨by omega, by omega, by omega, by simpa using h4⟩
theorem okX_ok {xs : List Ex} (h : okX xs = true) : (∀ x ∈ xs, formX x = true) ∧ (xs.map Ex.id).Nodup := by
  unfold okX at h
  rw [Bool.and_eq_true, List.all_eq_true, decide_eq_true_eq] at h
  exact h
theorem new_ex {k : Nat} {a : Int} {xs : List Ex} {ps : List Int} {st : Sr} (h : NewOk k a xs ps xs.length st) : st.map (fun s => s.1.x) = xs := by
  refine List.ext_getElem (by rw [List.length_map, h.1]) fun i h1 h2 => ?_
  rw [List.length_map] at h1
  obtain ⟨x, sh, hx, _, hE⟩ := h.2 i _ (List.getElem?_eq_getElem h1)
  rw [List.getElem_map, hE.ex]
  rw [List.getElem?_eq_getElem h2] at hx
  exact (Option.some.inj hx).symm
theorem new_ids {k : Nat} {a : Int} {xs : List Ex} {ps : List Int} {st : Sr} (h : NewOk k a xs ps xs.length st) (ho : okX xs = true) : (idsS st).Nodup := by
  have : idsS st = xs.map Ex.id := by rw [← new_ex h, List.map_map]; rfl
  rw [this]
  exact (okX_ok ho).2
theorem page_le {x : Ex} {k : Nat} : ∀ p ∈ pagesS x k, p.length ≤ x.oth.length + 1 := by
  intro p hp
  unfold pagesS at hp
  rcases List.mem_cons.1 hp with rfl | hp
  · rw [List.length_cons, List.length_take, srt_len]; omega
  · unfold chunks at hp
    obtain ⟨i, _, rfl⟩ := List.mem_map.1 hp
    unfold chunkAt
    simp only [List.length_take, List.length_drop, srt_len]
    omega
theorem pages_le {x : Ex} {k : Nat} (hk : 0 < k) : (pagesS x k).length ≤ x.oth.length + 1 := by
  rw [pages_len hk]
  have := nCh_le (n := x.oth.length) hk
  omega
/-- What New's entries are. -/
structure Ne (k : Nat) (x : Ex) (sh : Int) (s : Ent × List Int) : Prop where
  e : EntB k x sh s
  wf : Wf s
  eu : Eu s
  fr : ∀ i, i < s.1.pg.length → paidB s i = false
  sh : U64 sh
  l : s.1.pg.length = (pagesS x k).length
theorem ne_of {k : Nat} {x : Ex} {sh : Int} {s : Ent × List Int} (hk : 0 < k) (hx : ExW x) (hl : x.oth.length ≤ 1000) (hf : formX x = true) (hs : U64 sh) (h : EntB k x sh s) : Ne k x sh s := by
  have hpl : s.1.pg.length = (pagesS x k).length := by rw [← h.pg, List.length_map]
  have hpl2 := pages_le (x := x) hk
  have hbl : s.1.bu.length = s.1.pg.length := by rw [h.bu, hpl]; unfold bud1; rw [spF_len, List.length_map]
  have hmk := mk_new s.1.pg.length
  have htu : ∀ y ∈ (pagesS x k).map (fun p => (sumM (stk p)).1), U64 y := fun y hy => by
    obtain ⟨p, hp, rfl⟩ := List.mem_map.1 hy
    exact sumM_u _ (stk_u hx p hp)
  refine ⟨h, ⟨by rw [h.b]; simp, fun y hy => hmk.r y (by rw [← h.b]; exact hy), by omega, hbl⟩, ⟨?_, fun b hb => ?_, fun p hp => ?_⟩, fun i hi => ?_, hs, hpl⟩
  · rw [h.ex]
    unfold formX at hf
    rw [Bool.and_eq_true, decide_eq_true_eq] at hf
    exact ⟨hx.com.1, hf.2⟩
  · rw [h.bu] at hb
    exact ((spF_sum hs htu).2.1 b hb).1
  · have hm : p.1 ∈ pagesS x k := by rw [← h.pg]; exact List.mem_map_of_mem hp
    exact ⟨by have := page_le p.1 hm; omega, stk_u hx p.1 hm⟩
  · unfold paidB
    rw [h.b]
    exact hmk.h i false (by rw [List.getElem?_replicate, if_pos hi])
theorem new_ne {size : Int} {a : Int} {xs : List Ex} {ps : List Int} {st : Sr} (h : NewOk size.toNat a xs ps xs.length st) (he : newErr xs ps size = 0) (ha : U64 a) (hX : XW xs) (hp : ∀ p ∈ ps, U64 p) {i : Nat} {s : Ent × List Int} (hs : st[i]? = some s) : ∃ x sh, xs[i]? = some x ∧ (shL a xs ps)[i]? = some sh ∧ Ne size.toNat x sh s := by
  obtain ⟨x, sh, hx, hsh, hE⟩ := h.2 i s hs
  obtain ⟨h1, _, _, h4⟩ := newErr_ok he
  have hm := List.mem_of_getElem? hx
  exact ⟨x, sh, hx, hsh, ne_of (by omega) (hX.w x hm) (hX.l x hm) ((okX_ok h4).1 x hm) ((spF_sum ha (cntL_u (xs := xs) hp)).2.1 sh (List.mem_of_getElem? hsh)).1 hE⟩
theorem new_all {size : Int} {a : Int} {xs : List Ex} {ps : List Int} {st : Sr} (h : NewOk size.toNat a xs ps xs.length st) (he : newErr xs ps size = 0) (ha : U64 a) (hX : XW xs) (hp : ∀ p ∈ ps, U64 p) : (∀ s ∈ st, Wf s) ∧ (∀ s ∈ st, Eu s) := by
  constructor
  · intro s hs
    obtain ⟨i, hi⟩ := List.getElem?_of_mem hs
    obtain ⟨_, _, _, _, hN⟩ := new_ne h he ha hX hp hi
    exact hN.wf
  · intro s hs
    obtain ⟨i, hi⟩ := List.getElem?_of_mem hs
    obtain ⟨_, _, _, _, hN⟩ := new_ne h he ha hX hp hi
    exact hN.eu
/-! ### The small input -/
abbrev awX : Ex := ⟨1, 0, 5, [], (none, 0)⟩
theorem aw_w : XW [awX] := ⟨fun x hx => by
  rw [List.mem_singleton.1 hx]
  exact ⟨by unfold U64; decide, by unfold U64; decide, fun p hp => by cases hp⟩, fun x hx => by rw [List.mem_singleton.1 hx]; simp, by simp⟩
theorem aw_err : newErr [awX] [1] 3 = 0 := by decide
theorem aw_pages : pagesS awX 3 = [[(1, 5)]] := by unfold pagesS srt; simp only [awX, List.mergeSort]; rfl
theorem aw_bud (st : Sr) (h : NewOk 3 10 [awX] [1] 1 st) : (idsS st).Nodup ∧ (∀ s ∈ st, Wf s) ∧ budE st 1 0 = some 10 := by
  have h' : NewOk (3 : Int).toNat 10 [awX] [1] [awX].length st := h
  have hU : U64 10 := by unfold U64; decide
  have hp : ∀ p ∈ [(1 : Int)], U64 p := fun p hp => by rw [List.mem_singleton.1 hp]; unfold U64; decide
  have hi := new_ids h' (newErr_ok aw_err).2.2.2
  obtain ⟨h1, h2⟩ := new_all h' aw_err hU aw_w hp
  refine ⟨hi, h1, ?_⟩
  obtain ⟨s, hs, hsm⟩ := get_at (show 0 < st.length by rw [h.1]; decide)
  obtain ⟨x, sh, hx, hsh, hN⟩ := new_ne h' aw_err hU aw_w hp hs
  obtain rfl : awX = x := Option.some.inj hx
  have e1 : sh = 10 := by
    have : (shL 10 [awX] [1])[0]? = some (10 : Int) := by decide
    rw [this] at hsh
    exact (Option.some.inj hsh).symm
  subst e1
  have hl : s.1.pg.length = 1 := by rw [hN.l]; show (pagesS awX 3).length = 1; rw [aw_pages]; rfl
  have hf : fnd st 1 0 = some 0 := fnd_at hi hs (by rw [hN.e.ex]) (by omega) (by rw [hl]; decide)
  unfold budE
  rw [hf, Option.bind_some, hs, Option.bind_some, hN.e.bu]
  show (bud1 3 10 awX).1[0]? = some 10
  unfold bud1
  rw [aw_pages]
  decide
end Go.Proofs.Wk
/- The laws of rewards: helpers walked. -/
namespace Go.Proofs.Wk
open Go.RowKit
set_option maxRecDepth 100000
set_option maxHeartbeats 8000000
attribute [local irreducible] Pw OpG
set_option linter.unusedVariables false
set_option linter.unusedSimpArgs false
theorem poAwake_ct : Ct Try.prog 6 #[] (fun _ => True) (fun _ : Unit => .bool true) Tt (fun _ _ => True) := by
  refine Ct.start Try.func6 rfl rfl (slots_of rfl slots0) (fun D w0 => ?_)
  repeat (first | refine Pw.runs ?_ | refine Pw.list (Pw.box rfl rfl rfl rfl (fun _ => ?_)) | refine Pw.list (Pw.alloc rfl rfl rfl rfl rfl (fun _ => ?_)))
  refine Pw.list (Pw.lit14 rfl rfl rfl rfl rfl rfl rfl rfl rfl (fun g1 => freeHead ?_))
  refine Pw.list (Pw.lit1 rfl rfl rfl rfl rfl rfl rfl rfl rfl (fun g2 => freeHead ?_))
  refine Pw.list (Pw.callB (L0 := []) (poNew_ct 10 [awX] (some ⟨g1, 0, none⟩, 1) [1] (some ⟨g2, 0, none⟩, 1) 3 (by unfold U64; decide) aw_w (fun p hp => by rw [List.mem_singleton.1 hp]; unfold U64; decide) (by omega)) rfl rfl rfl rfl (by kernel_rfl) rfl rfl (fun w h => ⟨rows_of_row (l := [awX]) (ex := []) (by rw [List.append_nil]; exact fact1 h) (fun y hy => rfl) (fun y hy => by rw [List.mem_singleton.1 hy]; exact Rows.nil _ _ _ _ _) (Nat.le_refl _) (by simp [maxLen]) (by omega), ints_of_cells (Nat.le_refl _) (by simp [maxLen]) (fun j u hu => ⟨_, rfl, by rw [add_none, cell_of_blk (fact0 h)]; simpa using hu⟩)⟩) ?_)
  rintro (_ | ⟨gr, ga, st⟩) hR
  · exact absurd aw_err hR
  obtain ⟨hi, hw, hb⟩ := aw_bud st hR.2
  dsimp only
  repeat (first | refine Pw.runs ?_ | refine Pw.list (Pw.box rfl rfl rfl rfl (fun _ => ?_)) | refine Pw.list (Pw.alloc rfl rfl rfl rfl rfl (fun _ => ?_)))
  have hc := poBudget_ct gr ga (leftTo 3 10 [awX] [1] 1) st 1 0 hi hw
  rw [hb] at hc
  refine Pw.list (Pw.call hc rfl rfl rfl (by kernel_rfl) rfl rfl (fun w h => fact0 h) ?_)
  intro _ _
  repeat (first | refine Pw.runs ?_ | refine Pw.list (Pw.box rfl rfl rfl rfl (fun _ => ?_)) | refine Pw.list (Pw.alloc rfl rfl rfl rfl rfl (fun _ => ?_)))
  exact Pw.ret_ (x := ()) (.tmp rfl .nil) rfl trivial (fun w h => by trivial)
end Go.Proofs.Wk
/- PayoutNil. -/
namespace Go.Proofs.Wk
open Go.RowKit
set_option maxRecDepth 100000
set_option maxHeartbeats 8000000
attribute [local irreducible] Pw OpG
set_option linter.unusedVariables false
set_option linter.unusedSimpArgs false
theorem nFind_ct (v p : Int) : Ct Try.prog 27 #[.pointer none, .int .i64 v, .int .i64 p] (fun _ => True) (fun _ : Unit => .pointer none) Tt (fun _ _ => True) := by
  refine Ct.start Try.func27 rfl rfl (slots_of rfl slots3) (fun D w0 => ?_)
  repeat (first | refine Pw.runs ?_ | refine Pw.list (Pw.box rfl rfl rfl rfl (fun _ => ?_)) | refine Pw.list (Pw.alloc rfl rfl rfl rfl rfl (fun _ => ?_)))
  exact Pw.ret_ (x := ()) (.tmp rfl .nil) rfl trivial (fun w h => trivial)
theorem nBudget_ct (v p : Int) : Ct Try.prog 11 #[.pointer none, .int .i64 v, .int .i64 p] (fun _ => True) (fun _ : Unit => .tuple #[.int .u64 0, .bool false]) Tt (fun _ _ => True) := by
  refine Ct.start Try.func11 rfl rfl (slots_of rfl slots3) (fun D w0 => ?_)
  repeat (first | refine Pw.runs ?_ | refine Pw.list (Pw.box rfl rfl rfl rfl (fun _ => ?_)) | refine Pw.list (Pw.alloc rfl rfl rfl rfl rfl (fun _ => ?_)))
  refine Pw.list (Pw.call (nFind_ct v p) rfl rfl rfl (by kernel_rfl) rfl rfl (fun w h => trivial) ?_)
  intro _ _
  repeat (first | refine Pw.runs ?_ | refine Pw.list (Pw.box rfl rfl rfl rfl (fun _ => ?_)) | refine Pw.list (Pw.alloc rfl rfl rfl rfl rfl (fun _ => ?_)))
  exact Pw.ret_ (x := ()) (.tmp rfl (.tmp rfl .nil)) rfl trivial (fun w h => trivial)
theorem nPaid_ct (v p : Int) : Ct Try.prog 14 #[.pointer none, .int .i64 v, .int .i64 p] (fun _ => True) (fun _ : Unit => .bool false) Tt (fun _ _ => True) := by
  refine Ct.start Try.func14 rfl rfl (slots_of rfl slots3) (fun D w0 => ?_)
  repeat (first | refine Pw.runs ?_ | refine Pw.list (Pw.box rfl rfl rfl rfl (fun _ => ?_)) | refine Pw.list (Pw.alloc rfl rfl rfl rfl rfl (fun _ => ?_)))
  refine Pw.list (Pw.call (nFind_ct v p) rfl rfl rfl (by kernel_rfl) rfl rfl (fun w h => trivial) ?_)
  intro _ _
  repeat (first | refine Pw.runs ?_ | refine Pw.list (Pw.box rfl rfl rfl rfl (fun _ => ?_)) | refine Pw.list (Pw.alloc rfl rfl rfl rfl rfl (fun _ => ?_)))
  exact Pw.ret_ (x := ()) (.tmp rfl .nil) rfl trivial (fun w h => trivial)
theorem nLeft_ct : Ct Try.prog 13 #[.pointer none] (fun _ => True) (fun _ : Unit => .int .u64 0) Tt (fun _ _ => True) := by
  refine Ct.start Try.func13 rfl rfl (slots_of rfl slots1) (fun D w0 => ?_)
  repeat (first | refine Pw.runs ?_ | refine Pw.list (Pw.box rfl rfl rfl rfl (fun _ => ?_)) | refine Pw.list (Pw.alloc rfl rfl rfl rfl rfl (fun _ => ?_)))
  exact Pw.ret_ (x := ()) (.tmp rfl .nil) rfl trivial (fun w h => trivial)
theorem nOpen_ct : Ct Try.prog 15 #[.pointer none] (fun _ => True) (fun _ : Unit => .int .u64 0) Tt (fun _ _ => True) := by
  refine Ct.start Try.func15 rfl rfl (slots_of rfl slots1) (fun D w0 => ?_)
  repeat (first | refine Pw.runs ?_ | refine Pw.list (Pw.box rfl rfl rfl rfl (fun _ => ?_)) | refine Pw.list (Pw.alloc rfl rfl rfl rfl rfl (fun _ => ?_)))
  exact Pw.ret_ (x := ()) (.tmp rfl .nil) rfl trivial (fun w h => trivial)
theorem nPay_ct (v p : Int) : Ct Try.prog 12 #[.pointer none, .int .i64 v, .int .i64 p] (fun _ => True) (fun _ : Unit => .tuple #[.slice none 0 0, .int .u64 0, .int .i64 1]) Tt (fun _ _ => True) := by
  refine Ct.start Try.func12 rfl rfl (slots_of rfl slots3) (fun D w0 => ?_)
  repeat (first | refine Pw.runs ?_ | refine Pw.list (Pw.box rfl rfl rfl rfl (fun _ => ?_)) | refine Pw.list (Pw.alloc rfl rfl rfl rfl rfl (fun _ => ?_)))
  exact Pw.ret_ (x := ()) (.tmp rfl (.tmp rfl (.tmp rfl .nil))) rfl trivial (fun w h => trivial)
theorem PayoutNil_ct (v p : Int) : Ct Try.prog 5 #[.int .i64 v, .int .i64 p] (fun _ => True) (fun _ : Unit => .bool true) Tt (fun _ _ => True) := by
  refine Ct.start Try.func5 rfl rfl (slots_of rfl slots2) (fun D w0 => ?_)
  repeat (first | refine Pw.runs ?_ | refine Pw.list (Pw.box rfl rfl rfl rfl (fun _ => ?_)) | refine Pw.list (Pw.alloc rfl rfl rfl rfl rfl (fun _ => ?_)))
  refine Pw.list (Pw.call poAwake_ct rfl rfl rfl (by kernel_rfl) rfl rfl (fun w h => trivial) ?_)
  intro _ _
  repeat (first | refine Pw.runs ?_ | refine Pw.list (Pw.box rfl rfl rfl rfl (fun _ => ?_)) | refine Pw.list (Pw.alloc rfl rfl rfl rfl rfl (fun _ => ?_)))
  refine Pw.list (Pw.call (nBudget_ct v p) rfl rfl rfl (by kernel_rfl) rfl rfl (fun w h => trivial) ?_)
  intro _ _
  repeat (first | refine Pw.runs ?_ | refine Pw.list (Pw.box rfl rfl rfl rfl (fun _ => ?_)) | refine Pw.list (Pw.alloc rfl rfl rfl rfl rfl (fun _ => ?_)))
  refine Pw.list (Pw.call (nPay_ct v p) rfl rfl rfl (by kernel_rfl) rfl rfl (fun w h => trivial) ?_)
  intro _ _
  repeat (first | refine Pw.runs ?_ | refine Pw.list (Pw.box rfl rfl rfl rfl (fun _ => ?_)) | refine Pw.list (Pw.alloc rfl rfl rfl rfl rfl (fun _ => ?_)))
  refine Pw.list (Pw.call (nPaid_ct v p) rfl rfl rfl (by kernel_rfl) rfl rfl (fun w h => trivial) ?_)
  intro _ _
  repeat (first | refine Pw.runs ?_ | refine Pw.list (Pw.box rfl rfl rfl rfl (fun _ => ?_)) | refine Pw.list (Pw.alloc rfl rfl rfl rfl rfl (fun _ => ?_)))
  refine Pw.list (Pw.call nLeft_ct rfl rfl rfl (by kernel_rfl) rfl rfl (fun w h => trivial) ?_)
  intro _ _
  repeat (first | refine Pw.runs ?_ | refine Pw.list (Pw.box rfl rfl rfl rfl (fun _ => ?_)) | refine Pw.list (Pw.alloc rfl rfl rfl rfl rfl (fun _ => ?_)))
  refine Pw.list (Pw.call nOpen_ct rfl rfl rfl (by kernel_rfl) rfl rfl (fun w h => trivial) ?_)
  intro _ _
  repeat (first | refine Pw.runs ?_ | refine Pw.list (Pw.box rfl rfl rfl rfl (fun _ => ?_)) | refine Pw.list (Pw.alloc rfl rfl rfl rfl rfl (fun _ => ?_)))
  exact Pw.ret_ (x := ()) (.tmp rfl .nil) rfl trivial (fun w h => trivial)
end Go.Proofs.Wk
